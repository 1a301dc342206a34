/-
  A part of the proof that the law HerdLines returns true for every input; conditions: none beyond the statement's own. (part 1 of 7)
-/
import Derived.WalkKit
import Derived.Orders
import Derived.Still
import Derived.RangeFuncSeq
import Derived.RangeFuncLeaves
import Derived.RangeFuncOwn
import Derived.Great.FillDense
import Derived.Great.BuildSlice
import Derived.ChangeKeysEq
import Derived.Laws.AppendOwn
import Derived.Lib.AppendZerosOnto
set_option linter.unusedSimpArgs false
set_option linter.unusedVariables false
set_option maxHeartbeats 16000000
set_option maxRecDepth 100000
namespace Go
theorem v6:type_of% @And.intro:=@And.intro
theorem u8:type_of% @Option.some.injEq:=@Option.some.injEq
theorem t7:type_of% @Nat.le_of_ble_eq_true:=@Nat.le_of_ble_eq_true
theorem zz0:type_of% @Option.map_eq_some_iff:=@Option.map_eq_some_iff
theorem zz1:type_of% @List.getD_eq_getElem?_getD:=@List.getD_eq_getElem?_getD
theorem zz2:type_of% @Bool.and_eq_true:=@Bool.and_eq_true
theorem zz3:type_of% @List.append_assoc:=@List.append_assoc
theorem zz4:type_of% @Nat.zero_add:=@Nat.zero_add
theorem zz5:type_of% @List.length_append:=@List.length_append
theorem zz6:type_of% @Bool.false_eq_true:=@Bool.false_eq_true
theorem zz7:type_of% @Nat.le_refl:=@Nat.le_refl
theorem zz8:type_of% @List.getElem?_eq_getElem:=@List.getElem?_eq_getElem
theorem zz9:type_of% @List.map_cons:=@List.map_cons
theorem zy0:type_of% @List.cons_append:=@List.cons_append
theorem zy1:type_of% @List.mem_append:=@List.mem_append
theorem zy2:type_of% @List.length_map:=@List.length_map
theorem zy3:type_of% @List.take_succ_eq_append_getElem:=@List.take_succ_eq_append_getElem
theorem zy4:type_of% @Option.map_some:=@Option.map_some
theorem zy5:type_of% @List.getElem?_eq_some_iff:=@List.getElem?_eq_some_iff
theorem zy6:type_of% @List.nil_append:=@List.nil_append
theorem zy7:type_of% @List.getElem?_append_left:=@List.getElem?_append_left
theorem zy8:type_of% @List.all_eq_true:=@List.all_eq_true
theorem zy9:type_of% @List.getElem_mem:=@List.getElem_mem
theorem zx0:type_of% @List.length_drop:=@List.length_drop
theorem zx1:type_of% @List.map_nil:=@List.map_nil
theorem zx2:type_of% @List.take_append_drop:=@List.take_append_drop
theorem zx3:type_of% @List.length_take:=@List.length_take
theorem zx4:type_of% @List.mem_map:=@List.mem_map
theorem zx5:type_of% @List.mem_range:=@List.mem_range
theorem zx6:type_of% @List.map_append:=@List.map_append
theorem zx7:type_of% @List.getElem?_append_right:=@List.getElem?_append_right
theorem zx8:type_of% @List.append_nil:=@List.append_nil
theorem zx9:type_of% @Array.getElem?_eq_some_iff:=@Array.getElem?_eq_some_iff
theorem zw0:type_of% @Option.isSome_iff_exists:=@Option.isSome_iff_exists
theorem zw1:type_of% @List.filter_cons:=@List.filter_cons
theorem zw2:type_of% @List.getElem?_map:=@List.getElem?_map
theorem zw3:type_of% @Bool.and_self:=@Bool.and_self
theorem zw4:type_of% @List.mem_cons:=@List.mem_cons
theorem zw5:type_of% @List.mem_singleton:=@List.mem_singleton
theorem zw6:type_of% @List.take_append_of_le_length:=@List.take_append_of_le_length
theorem zw7:type_of% @Nat.zero_le:=@Nat.zero_le
theorem zw8:type_of% @Int.emod_nonneg:=@Int.emod_nonneg
theorem zw9:type_of% @List.mem_filter:=@List.mem_filter
theorem zv0:type_of% @List.drop_eq_nil_of_le:=@List.drop_eq_nil_of_le
theorem zv1:type_of% @Array.length_toList:=@Array.length_toList
theorem zv2:type_of% @List.length_eq_zero_iff:=@List.length_eq_zero_iff
theorem zv3:type_of% @Array.getElem?_toList:=@Array.getElem?_toList
theorem zv4:type_of% @List.length_filter_le:=@List.length_filter_le
theorem zv5:type_of% @List.take_of_length_le:=@List.take_of_length_le
theorem zv6:type_of% @Int.emod_lt_of_pos:=@Int.emod_lt_of_pos
theorem zv7:type_of% @List.drop_eq_getElem_cons:=@List.drop_eq_getElem_cons
theorem zv8:type_of% @Nat.le_trans:=@Nat.le_trans
theorem zv9:type_of% @List.filter_nil:=@List.filter_nil
theorem zu0:type_of% @Nat.add_mul:=@Nat.add_mul
end Go
namespace Go.Abs
open Go
inductive I where
 |undef | dp
 |bool (b:Bool)
 |int (k:IntKind) (n:Int)
 |cY (s:ByteArray)
 |nilp | df | dY
 |raw (v:Value)
 |nils (sz:Nat)
 |c0 (sz:Nat)
 |slice (sz:Nat) (es:List I)
 |agg (fs:List I)
 |tuple (fs:List I)
 |ref (c:I)
 |func (f:FuncId) (caps:List I)
 |iface (t:TypeId) (v:I)
 |ptr (n:Nat) (p:List Nat)
 |own (n:Nat) (k:Nat)
 |view (n:Nat) (p:List Nat) (sz lo k:Nat)
 |mref (n:Nat)
 |dv (n:Nat)
 |cI (ks vs:List I)
 deriving Inhabited
inductive cQ where
 |one
 |ew (l:List cQ)
 deriving Inhabited
mutual
def cQ.size:cQ→Nat
 | .one=>1
 | .ew l=>cQ.sizes l
def cQ.sizes:List cQ→Nat
 | []=>0
 |s::l=>s.size+cQ.sizes l
end
mutual
def I.aO:I→cQ
 | .agg fs=>.ew (I.cX fs)
 |_=>.one
def I.cX:List I→List cQ
 | []=>[]
 |f::fs=>f.aO::I.cX fs
end
mutual
def I.size:I→Nat
 | .agg fs=>I.sizes fs
 |_=>1
def I.sizes:List I→Nat
 | []=>0
 |f::fs=>f.size+I.sizes fs
end
def I.isAgg:I→Bool
 | .agg _=>true
 |_=>false
def cQ.off:cQ→List Nat→Option Nat
 |_,[]=>some 0
 | .one,_::_=>none
 | .ew l,i::p=>match l[i]? with
  |some s=>(s.off p).map (cQ.sizes (l.take i) + ·)
  |none=>none
def cQ.part:cQ→List Nat→Option cQ
 |s,[]=>some s
 | .one,_::_=>none
 | .ew l,i::p=>match l[i]? with
  |some s=>s.part p
  |none=>none
def I.at:I→List Nat→Option I
 |c,[]=>some c
 | .agg fs,i::p=>match fs[i]? with
  |some f=>f.at p
  |none=>none
 |_,_::_=>none
def I.dI:I→List Nat→I→I
 |_,[],v=>v
 | .agg fs,i::p,v=>match fs[i]? with
  |some f=>.agg (fs.set i (f.dI p v))
  |none=>.agg fs
 |c,_::_,_=>c
inductive bR where
 |aA (b:Nat) (aO:cQ)
 |rw (aE:Option (Nat×Nat)) (len:Nat)
 |op (b:Nat)
 |cv (b:Nat)
 |it (b:Nat)
def bR.eG:bR→Bool
 | .rw _ _=>false
 |_=>true
def bR.le(e e':bR):Prop:=e'=e∨∃ aE l blk' l',e=.rw aE l∧e'=.rw blk' l'∧l≤l'∧(l'=l→blk'=aE)
theorem bR.le.refl(e:bR):e.le e:=.inl rfl
theorem bR.le.eq{e e':bR}(h:e.le e')(hf:e.eG=true):e'=e:=by
 rcases h with h | ⟨aE,l,blk',l',rfl,_⟩
 ·exact h
 ·cases hf
theorem bR.le.trans{a b c:bR}(h:a.le b)(k:b.le c):a.le c:=by
 rcases h with rfl | ⟨aE,l,blk',l',rfl,rfl,h1,h2⟩
 ·exact k
 ·rcases k with rfl | ⟨_,_,blk2,l2,e,rfl,h3,h4⟩
  ·exact .inr ⟨aE,l,blk',l',rfl,rfl,h1,h2⟩
  ·cases e;exact .inr ⟨aE,l,blk2,l2,rfl,rfl,by omega,fun e=>by rw[h4 (by omega),h2 (by omega)]⟩
abbrev aM:=Nat→Nat→Prop
abbrev aW:=Nat→Option bR
def gL(w:World)(D:aM)(b off:Nat)(cs:List Value):Prop :=
 ∀ j v,cs[j]?=some v→w.cell? ⟨b,off+j,none⟩=some v∧D b (off+j)
def ql(es:Array MapEntry)(clock:Nat):Prop:=(∀ x∈es.toList,x.born<clock)∧(es.toList.map (·.born)).Nodup
def oF(w:World)(D:aM)(b:Nat)(es:Array MapEntry)(clock:Nat):Prop:=w.heap[b]?=some (.map es clock)∧D b 0∧ql es clock
def bD(e:I)(v:Value)(cs:List Value):Prop:=if e.isAgg then v=.agg cs.toArray else cs=[v]
mutual
/-- These cells hold this value. -/
def ah(w:World)(D:aM)(E:aW):I→List Value→Prop
 | .agg fs,cs=>aI w D E fs cs
 | .bool b,cs=>cs=[.bool b]
 | .int k n,cs=>cs=[.int k n]∧k.min≤n∧n≤k.max
 | .cY s,cs=>cs=[.string s]∧s.size≤maxLen
 | .nilp,cs=>cs=[.pointer none]
 | .df,cs=>cs=[.nilFunc]
 | .dY,cs=>cs=[.nilIface]
 | .raw u,cs=>cs=[u]∧u.oneCell'=true
 | .nils _,cs=>cs=[.slice none 0 0]
 | .c0 _,cs=>∃ a,cs=[.slice a 0 0]
 | .slice sz es,cs=>∃ a cap,cs=[.slice a es.length cap]∧es.length≤cap∧cap≤maxLen ∧
   (es=[]∨∃ b off cs',a=some ⟨b,off,none⟩∧gL w D b off cs'∧aI w D E es cs')∧∀ e∈es,e.size=sz
 | .ref c,cs=>∃ b off cs',cs=[.pointer (some ⟨b,off,none⟩)]∧gL w D b off cs'∧ah w D E c cs'
 | .func f caps,cs=>∃ vs:List Value,cs=[.func (.func f) #[] vs.toArray]∧aG w D E caps vs
 | .iface t v,cs=>∃ u cs',cs=[.iface t u]∧bD v u cs'∧ah w D E v cs'
 | .ptr n p,cs=>∃ b aO off,E n=some (.aA b aO)∧aO.off p=some off∧cs=[.pointer (some ⟨b,off,none⟩)]
 | .own n k,cs=>∃ aE l,E n=some (.rw aE l)∧k≤l∧(∃ a m c,cs=[.slice a m c]) ∧
   (k=l→match aE with | none=>cs=[.slice none 0 0] | some (b,cap)=>cs=[.slice (some ⟨b,0,none⟩) k cap])
 | .view n p sz lo k,cs=>∃ b aO off l,E n=some (.aA b aO)∧aO.off p=some off∧aO.part p=some (.ew l)∧cs=[.slice (some ⟨b,off+lo*sz,none⟩) k (l.length-lo)]∧l.length≤maxLen∧lo+k≤l.length∧∀ s∈l,s.size=sz
 | .mref n,cs=>∃ b,E n=some (.cv b)∧cs=[.map (some b)]
 | .dv n,cs=>∃ b,E n=some (.it b)∧cs=[.pointer (some ⟨b,0,none⟩)]
 | .cI ks vs,cs=>∃ b es clock,cs=[.map (some b)]∧oF w D b es clock∧aG w D E ks (es.toList.map (·.key))∧aG w D E vs (es.toList.map (·.val))
 | .undef,_ | .dp,_ | .tuple _,_=>False
def aI(w:World)(D:aM)(E:aW):List I→List Value→Prop
 | [],cs=>cs=[]
 |e::es,cs=>∃ c1 c2,cs=c1++c2∧ah w D E e c1∧aI w D E es c2
def aG(w:World)(D:aM)(E:aW):List I→List Value→Prop
 | [],vs=>vs=[]
 |e::es,vs=>∃ v rest cs,vs=v::rest∧bD e v cs∧ah w D E e cs∧aG w D E es rest
end
def aV(w:World)(D:aM)(E:aW)(x:I)(v:Value):Prop :=
 match x with
 | .undef=>v=undef
 | .dp=>True
 | .tuple fs=>∃ vs:List Value,v=.tuple vs.toArray∧aG w D E fs vs
 |x=>∃ cs,bD x v cs∧ah w D E x cs
structure dS (w:World) (D:aM) (E:aW) (w':World) (D':aM) (E':aW):Prop where
 da:∀ b o,D b o→D' b o
 cell:∀ b o v,D b o→w.cell? ⟨b,o,none⟩=some v→w'.cell? ⟨b,o,none⟩=some v
 aA:∀ n b aO,E n=some (.aA b aO)→E' n=some (.aA b aO)
 rw:∀ n aE l,E n=some (.rw aE l)→∃ blk' l',E' n=some (.rw blk' l')∧l≤l'∧(l'=l→blk'=aE)
 cv:∀ n b,E n=some (.cv b)→E' n=some (.cv b)
 it:∀ n b,E n=some (.it b)→E' n=some (.it b)
 jA:∀ b es ck,D b 0→w.heap[b]?=some (.map es ck)→w'.heap[b]?=some (.map es ck)
structure iq (w:World) (D:aM) (w':World):Prop where
 cell:∀ b o v,D b o→w.cell? ⟨b,o,none⟩=some v→w'.cell? ⟨b,o,none⟩=some v
 jA:∀ b es ck,D b 0→w.heap[b]?=some (.map es ck)→w'.heap[b]?=some (.map es ck)
theorem iq.refl(w:World)(D:aM):iq w D w:=⟨fun _ _ _ _ h=>h,fun _ _ _ _ h=>h⟩
theorem iq.trans{w w' w'':World}{D D':aM}(h:iq w D w')(hD:∀ b o,D b o→D' b o)(k:iq w' D' w''):iq w D w'' :=
 ⟨fun b o v hd hv=>k.cell b o v (hD b o hd) (h.cell b o v hd hv),fun b es ck hd hm=>k.jA b es ck (hD b 0 hd) (h.jA b es ck hd hm)⟩
theorem dS.fJ{w w':World}{D D':aM}{E E':aW}(h:dS w D E w' D' E'):iq w D w':=⟨h.cell,h.jA⟩
theorem oF.bI{w w':World}{D D':aM}{E E':aW}(h:dS w D E w' D' E'){b:Nat}{es:Array MapEntry}{clock:Nat}(hr:oF w D b es clock):oF w' D' b es clock :=
 ⟨h.jA _ _ _ hr.2.1 hr.1,h.da _ _ hr.2.1,hr.2.2⟩
theorem gL.bI{w w':World}{D D':aM}{E E':aW}(h:dS w D E w' D' E'){b off:Nat}{cs:List Value}(hr:gL w D b off cs):gL w' D' b off cs :=
 fun j v hj=>⟨h.cell _ _ _ (hr j v hj).2 (hr j v hj).1,h.da _ _ (hr j v hj).2⟩
mutual
theorem ah.bI{w w':World}{D D':aM}{E E':aW}(h:dS w D E w' D' E'):∀ (x:I) (cs:List Value),ah w D E x cs→ah w' D' E' x cs
 | .agg fs,cs,hr=>by simp only[ah] at *;exact aI.bI h fs cs hr
 | .bool b,cs,hr=>by simpa only[ah] using hr
 | .int k n,cs,hr=>by simpa only[ah] using hr
 | .cY s,cs,hr=>by simpa only[ah] using hr
 | .nilp,cs,hr=>by simpa only[ah] using hr
 | .df,cs,hr=>by simpa only[ah] using hr
 | .dY,cs,hr=>by simpa only[ah] using hr
 | .raw _,cs,hr=>by simpa only[ah] using hr
 | .nils _,cs,hr=>by simpa only[ah] using hr
 | .c0 _,cs,hr=>by simpa only[ah] using hr
 | .slice sz es,cs,hr=>by
  simp only[ah] at *;obtain ⟨a,cap,h1,h2,h3,h4,h5⟩:=hr;refine ⟨a,cap,h1,h2,h3,?_,h5⟩;rcases h4 with h4 | ⟨b,off,cs',h6,h7,h8⟩
  ·exact .inl h4
  ·exact .inr ⟨b,off,cs',h6,h7.bI h,aI.bI h es cs' h8⟩
 | .ref c,cs,hr=>by
  simp only[ah] at *;obtain ⟨b,off,cs',h1,h2,h3⟩:=hr;exact ⟨b,off,cs',h1,h2.bI h,ah.bI h c cs' h3⟩
 | .func f caps,cs,hr=>by
  simp only[ah] at *;obtain ⟨vs,h1,h2⟩:=hr;exact ⟨vs,h1,aG.bI h caps vs h2⟩
 | .iface t v,cs,hr=>by
  simp only[ah] at *;obtain ⟨u,cs',h1,h2,h3⟩:=hr;exact ⟨u,cs',h1,h2,ah.bI h v cs' h3⟩
 | .ptr n p,cs,hr=>by
  simp only[ah] at *;obtain ⟨b,aO,off,h1,h2,h3⟩:=hr;exact ⟨b,aO,off,h.aA _ _ _ h1,h2,h3⟩
 | .own n k,cs,hr=>by
  simp only[ah] at *;obtain ⟨aE,l,h1,h2,h3,h4⟩:=hr;obtain ⟨blk',l',h5,h6,h7⟩:=h.rw _ _ _ h1;refine ⟨blk',l',h5,zv8 h2 h6,h3,fun e =>?_⟩;have e1:l'=l:=by omega
  rw[h7 e1];exact h4 (by omega)
 | .view n p _ _ _,cs,hr=>by
  simp only[ah] at *;obtain ⟨b,aO,off,l,h1,h2⟩:=hr;exact ⟨b,aO,off,l,h.aA _ _ _ h1,h2⟩
 | .mref n,cs,hr=>by
  simp only[ah] at *;obtain ⟨b,h1,h2⟩:=hr;exact ⟨b,h.cv _ _ h1,h2⟩
 | .dv n,cs,hr=>by
  simp only[ah] at *;obtain ⟨b,h1,h2⟩:=hr;exact ⟨b,h.it _ _ h1,h2⟩
 | .cI ks vs,cs,hr=>by
  simp only[ah] at *;obtain ⟨b,es,clock,h1,h2,h3,h4⟩:=hr;exact ⟨b,es,clock,h1,h2.bI h,aG.bI h ks _ h3,aG.bI h vs _ h4⟩
 | .undef,_,hr=>by simp only[ah] at hr
 | .dp,_,hr=>by simp only[ah] at hr
 | .tuple _,_,hr=>by simp only[ah] at hr
theorem aI.bI{w w':World}{D D':aM}{E E':aW}(h:dS w D E w' D' E'):∀ (xs:List I) (cs:List Value),aI w D E xs cs→aI w' D' E' xs cs
 | [],cs,hr=>by simpa only[aI] using hr
 |x::xs,cs,hr=>by
  simp only[aI] at *;obtain ⟨c1,c2,h1,h2,h3⟩:=hr;exact ⟨c1,c2,h1,ah.bI h x c1 h2,aI.bI h xs c2 h3⟩
theorem aG.bI{w w':World}{D D':aM}{E E':aW}(h:dS w D E w' D' E'):∀ (xs:List I) (vs:List Value),aG w D E xs vs→aG w' D' E' xs vs
 | [],vs,hr=>by simpa only[aG] using hr
 |x::xs,vs,hr=>by
  simp only[aG] at *;obtain ⟨v,rest,cs,h1,h2,h3,h4⟩:=hr;exact ⟨v,rest,cs,h1,h2,ah.bI h x cs h3,aG.bI h xs rest h4⟩
end
theorem aV.bI{w w':World}{D D':aM}{E E':aW}(h:dS w D E w' D' E'){x:I}{v:Value}(hr:aV w D E x v):aV w' D' E' x v:=by
 cases x <;>simp only[aV] at * <;>first
  |exact hr
  |(obtain ⟨vs,h1,h2⟩:=hr;exact ⟨vs,h1,aG.bI h _ _ h2⟩)
  |(obtain ⟨cs,h1,h2⟩:=hr;exact ⟨cs,h1,ah.bI h _ _ h2⟩)
mutual
theorem I.l4:∀ x:I,x.aO.size=x.size
 | .agg fs=>by simp only[I.aO,I.size,cQ.size];exact I.mX fs
 | .undef | .dp | .bool _ | .int _ _ | .cY _ | .nilp | .df | .dY | .raw _ | .nils _ | .c0 _ | .slice _ _ | .tuple _ | .ref _ | .func _ _ | .iface _ _ | .ptr _ _ | .own _ _ | .view _ _ _ _ _ | .mref _ | .dv _ | .cI _ _=>by simp only[I.aO,I.size,cQ.size]
theorem I.mX:∀ xs:List I,cQ.sizes (I.cX xs)=I.sizes xs
 | []=>by simp only[I.cX,I.sizes,cQ.sizes]
 |x::xs=>by simp only[I.cX,I.sizes,cQ.sizes];rw[I.l4 x,I.mX xs]
end
mutual
theorem ah.length{w:World}{D:aM}{E:aW} : ∀ (x:I) (cs:List Value),ah w D E x cs→cs.length=x.size
 | .agg fs,cs,hr=>by simp only[ah,I.size] at *;exact aI.length fs cs hr
 | .bool b,cs,hr=>by simp only[ah] at hr;simp[hr,I.size]
 | .int k n,cs,hr=>by simp only[ah] at hr;simp[hr.1,I.size]
 | .cY s,cs,hr=>by simp only[ah] at hr;simp[hr.1,I.size]
 | .nilp,cs,hr=>by simp only[ah] at hr;simp[hr,I.size]
 | .df,cs,hr=>by simp only[ah] at hr;simp[hr,I.size]
 | .dY,cs,hr=>by simp only[ah] at hr;simp[hr,I.size]
 | .raw u,cs,hr=>by simp only[ah] at hr;simp[hr.1,I.size]
 | .nils _,cs,hr=>by simp only[ah] at hr;simp[hr,I.size]
 | .c0 _,cs,hr=>by simp only[ah] at hr;obtain ⟨a,rfl⟩:=hr;simp[I.size]
 | .slice sz es,cs,hr=>by simp only[ah] at hr;obtain ⟨a,cap,rfl,_⟩:=hr;simp[I.size]
 | .ref c,cs,hr=>by simp only[ah] at hr;obtain ⟨b,off,cs',rfl,_⟩:=hr;simp[I.size]
 | .func f caps,cs,hr=>by simp only[ah] at hr;obtain ⟨vs,rfl,_⟩:=hr;simp[I.size]
 | .iface t v,cs,hr=>by simp only[ah] at hr;obtain ⟨u,cs',rfl,_⟩:=hr;simp[I.size]
 | .ptr n p,cs,hr=>by simp only[ah] at hr;obtain ⟨b,aO,off,_,_,rfl⟩:=hr;simp[I.size]
 | .own n k,cs,hr=>by simp only[ah] at hr;obtain ⟨aE,l,_,_,⟨a,m,c,rfl⟩,_⟩:=hr;simp[I.size]
 | .view n p _ _ _,cs,hr=>by simp only[ah] at hr;obtain ⟨b,aO,off,l,_,_,_,rfl,_⟩:=hr;simp[I.size]
 | .mref n,cs,hr=>by simp only[ah] at hr;obtain ⟨b,_,rfl⟩:=hr;simp[I.size]
 | .dv n,cs,hr=>by simp only[ah] at hr;obtain ⟨b,_,rfl⟩:=hr;simp[I.size]
 | .cI ks vs,cs,hr=>by simp only[ah] at hr;obtain ⟨b,es,ck,rfl,_⟩:=hr;simp[I.size]
 | .undef,_,hr=>by simp only[ah] at hr
 | .dp,_,hr=>by simp only[ah] at hr
 | .tuple _,_,hr=>by simp only[ah] at hr
theorem aI.length{w:World}{D:aM}{E:aW} : ∀ (xs:List I) (cs:List Value),aI w D E xs cs→cs.length=I.sizes xs
 | [],cs,hr=>by simp only[aI] at hr;simp[hr,I.sizes]
 |x::xs,cs,hr=>by
  simp only[aI] at hr;obtain ⟨c1,c2,rfl,h1,h2⟩:=hr;simp only[zz5,I.sizes,ah.length x c1 h1,aI.length xs c2 h2]
end
mutual
theorem ah.mI{w:World}{D:aM}{E:aW} : ∀ (x:I) (cs:List Value),ah w D E x cs→∀ v∈cs,v.oneCell'=true
 | .agg fs,cs,hr=>by simp only[ah] at hr;exact aI.mI fs cs hr
 | .bool b,cs,hr=>by simp only[ah] at hr;simp[hr,Value.oneCell']
 | .int k n,cs,hr=>by simp only[ah] at hr;simp[hr.1,Value.oneCell']
 | .cY s,cs,hr=>by simp only[ah] at hr;simp[hr.1,Value.oneCell']
 | .nilp,cs,hr=>by simp only[ah] at hr;simp[hr,Value.oneCell']
 | .df,cs,hr=>by simp only[ah] at hr;simp[hr,Value.oneCell']
 | .dY,cs,hr=>by simp only[ah] at hr;simp[hr,Value.oneCell']
 | .raw u,cs,hr=>by simp only[ah] at hr;simpa[hr.1] using hr.2
 | .nils _,cs,hr=>by simp only[ah] at hr;simp[hr,Value.oneCell']
 | .c0 _,cs,hr=>by simp only[ah] at hr;obtain ⟨a,rfl⟩:=hr;simp[Value.oneCell']
 | .slice sz es,cs,hr=>by simp only[ah] at hr;obtain ⟨a,cap,rfl,_⟩:=hr;simp[Value.oneCell']
 | .ref c,cs,hr=>by simp only[ah] at hr;obtain ⟨b,off,cs',rfl,_⟩:=hr;simp[Value.oneCell']
 | .func f caps,cs,hr=>by simp only[ah] at hr;obtain ⟨vs,rfl,_⟩:=hr;simp[Value.oneCell']
 | .iface t v,cs,hr=>by simp only[ah] at hr;obtain ⟨u,cs',rfl,_⟩:=hr;simp[Value.oneCell']
 | .ptr n p,cs,hr=>by simp only[ah] at hr;obtain ⟨b,aO,off,_,_,rfl⟩:=hr;simp[Value.oneCell']
 | .own n k,cs,hr=>by simp only[ah] at hr;obtain ⟨aE,l,_,_,⟨a,m,c,rfl⟩,_⟩:=hr;simp[Value.oneCell']
 | .view n p _ _ _,cs,hr=>by simp only[ah] at hr;obtain ⟨b,aO,off,l,_,_,_,rfl,_⟩:=hr;simp[Value.oneCell']
 | .mref n,cs,hr=>by simp only[ah] at hr;obtain ⟨b,_,rfl⟩:=hr;simp[Value.oneCell']
 | .dv n,cs,hr=>by simp only[ah] at hr;obtain ⟨b,_,rfl⟩:=hr;simp[Value.oneCell']
 | .cI ks vs,cs,hr=>by simp only[ah] at hr;obtain ⟨b,es,ck,rfl,_⟩:=hr;simp[Value.oneCell']
 | .undef,_,hr=>by simp only[ah] at hr
 | .dp,_,hr=>by simp only[ah] at hr
 | .tuple _,_,hr=>by simp only[ah] at hr
theorem aI.mI{w:World}{D:aM}{E:aW} : ∀ (xs:List I) (cs:List Value),aI w D E xs cs→∀ v∈cs,v.oneCell'=true
 | [],cs,hr=>by simp only[aI] at hr;simp[hr]
 |x::xs,cs,hr=>by
  simp only[aI] at hr;obtain ⟨c1,c2,rfl,h1,h2⟩:=hr;intro v hv;rcases zy1.1 hv with h | h
  ·exact ah.mI x c1 h1 v h
  ·exact aI.mI xs c2 h2 v h
end
theorem bD.cells{x:I}{v:Value}{cs:List Value}{w:World}{D:aM}{E:aW}(h:bD x v cs)(hr:ah w D E x cs):v.cells.toList=cs:=by
 unfold bD at h;split at h
 ·rw[h];simp[Value.cells]
 ·subst h;have:=ah.mI x _ hr v (by simp);cases v <;>simp[Value.cells,Value.oneCell'] at *
theorem mN{w:World}{D:aM}{E:aW} : ∀ (xs:List I) (cs:List Value) (i:Nat) (x:I),aI w D E xs cs→xs[i]?=some x →
  ∃ c1 c2 c3,cs=c1++c2++c3∧c1.length=I.sizes (xs.take i)∧aI w D E (xs.take i) c1∧ah w D E x c2∧aI w D E (xs.drop (i+1)) c3
 | [],_,i,x,_,h=>by simp at h
 |y::ys,cs,0,x,hr,h=>by
  simp only[List.getElem?_cons_zero,u8] at h;subst h;simp only[aI] at hr;obtain ⟨c1,c2,rfl,h1,h2⟩:=hr;exact ⟨[],c1,c2,by simp,by simp[I.sizes],by simp[aI],h1,by simpa using h2⟩
 |y::ys,cs,i+1,x,hr,h=>by
  simp only[List.getElem?_cons_succ] at h;simp only[aI] at hr;obtain ⟨c0,c',rfl,h1,h2⟩:=hr;obtain ⟨c1,c2,c3,rfl,h3,h4,h5,h6⟩:=mN ys c' i x h2 h;refine ⟨c0++c1,c2,c3,by simp,?_,?_,h5,by simpa using h6⟩
  ·simp only[zz5,List.take_succ_cons,I.sizes,h3,ah.length y c0 h1]
  ·simp only[List.take_succ_cons,aI];exact ⟨c0,c1,rfl,h1,h4⟩
theorem ky{w:World}{D:aM}{E:aW} : ∀ (xs ys:List I) (cs ds:List Value),aI w D E xs cs→aI w D E ys ds→aI w D E (xs++ys) (cs++ds)
 | [],ys,cs,ds,h,k=>by simp only[aI] at h;subst h;simpa using k
 |x::xs,ys,cs,ds,h,k=>by
  simp only[aI,zy0] at *;obtain ⟨c1,c2,rfl,h1,h2⟩:=h;exact ⟨c1,c2++ds,by simp,h1,ky xs ys c2 ds h2 k⟩
theorem I.iK{sz:Nat} : ∀ (xs:List I),(∀ x∈xs,x.size=sz)→I.sizes xs=xs.length*sz
 | [],_=>by simp[I.sizes]
 |x::xs,h=>by
  simp only[I.sizes,List.length_cons];rw[h x (by simp),I.iK xs (fun y hy=>h y (by simp[hy])),zu0];omega
theorem I.dw:∀ xs:List I,I.cX xs=xs.map I.aO
 | []=>by simp[I.cX]
 |x::xs=>by simp[I.cX,I.dw xs]
theorem yu{w:World}{D:aM}{E:aW} : ∀ (p:List Nat) (c x:I) (cs:List Value),ah w D E c cs→c.at p=some x →
  ∃ off c1 c2 c3,c.aO.off p=some off∧cs=c1++c2++c3∧c1.length=off∧ah w D E x c2
 | [],c,x,cs,hr,h=>by
  simp only[I.at,u8] at h;subst h;exact ⟨0,[],cs,[],by cases c.aO <;>simp[cQ.off],by simp,rfl,hr⟩
 |i::p,.agg fs,x,cs,hr,h=>by
  simp only[I.at] at h;simp only[ah] at hr;cases hf:fs[i]? with
  |none=>simp[hf] at h
  |some f =>
   simp only[hf] at h;obtain ⟨c1,c2,c3,rfl,h1,_,h3,_⟩:=mN fs cs i f hr hf;obtain ⟨off,d1,d2,d3,h4,rfl,h6,h7⟩:=yu p f x c2 h3 h;refine ⟨I.sizes (fs.take i)+off,c1++d1,d2,d3++c3,?_,by simp,by simp[h1,h6],h7⟩;simp only[I.aO,cQ.off,I.dw,zw2,hf,zy4,h4];rw[←List.map_take,←I.dw,I.mX]
 |_::_,.undef,_,_,_,h | _::_,.dp,_,_,_,h | _::_,.bool _,_,_,_,h | _::_,.int _ _,_,_,_,h | _::_,.cY _,_,_,_,h | _::_,.nilp,_,_,_,h
 |_::_,.df,_,_,_,h | _::_,.dY,_,_,_,h | _::_,.raw _,_,_,_,h | _::_,.nils _,_,_,_,h | _::_,.c0 _,_,_,_,h | _::_,.slice _ _,_,_,_,h | _::_,.tuple _,_,_,_,h
 |_::_,.ref _,_,_,_,h | _::_,.func _ _,_,_,_,h | _::_,.iface _ _,_,_,_,h | _::_,.ptr _ _,_,_,_,h | _::_,.own _ _,_,_,_,h | _::_,.view _ _ _ _ _,_,_,_,h | _::_,.mref _,_,_,_,h | _::_,.dv _,_,_,_,h | _::_,.cI _ _,_,_,_,h=>by simp[I.at] at h
theorem tV{w:World}{D:aM}{E:aW} : ∀ (p:List Nat) (c x y:I) (cs ds:List Value),ah w D E c cs→c.at p=some x→ah w D E y ds→y.aO=x.aO →
  ∃ off,c.aO.off p=some off∧off+ds.length≤cs.length∧ah w D E (c.dI p y) (cs.take off++ds++cs.drop (off+ds.length))∧(c.dI p y).aO=c.aO
 | [],c,x,y,cs,ds,hr,h,hy,hs=>by
  simp only[I.at,u8] at h;subst h;have hl:ds.length=cs.length:=by rw[ah.length _ _ hy,ah.length _ _ hr,←I.l4,←I.l4,hs]
  refine ⟨0,by cases c.aO <;>simp[cQ.off],by omega,?_,by simpa[I.dI] using hs⟩;simpa[I.dI,hl] using hy
 |i::p,.agg fs,x,y,cs,ds,hr,h,hy,hs=>by
  simp only[I.at] at h;simp only[ah] at hr;cases hf:fs[i]? with
  |none=>simp[hf] at h
  |some f =>
   simp only[hf] at h;obtain ⟨c1,c2,c3,rfl,h1,h2,h3,h3'⟩:=mN fs cs i f hr hf;obtain ⟨off,h4,h5,h6,h7⟩:=tV p f x y c2 ds h3 h hy hs;have hi:i<fs.length:=(zy5.1 hf).1;have hfi:fs[i]=f:=(zy5.1 hf).2;refine ⟨I.sizes (fs.take i)+off,?_,?_,?_,?_⟩
   ·simp only[I.aO,cQ.off,I.dw,zw2,hf,zy4,h4];rw[←List.map_take,←I.dw,I.mX]
   ·simp only[zz5,h1];omega
   ·simp only[I.dI,hf,ah];have e1:fs.set i (f.dI p y)=fs.take i++f.dI p y::fs.drop (i+1):=by rw[List.set_eq_take_append_cons_drop];simp[hi]
    rw[e1];have e2:(c1++c2++c3).take (I.sizes (fs.take i)+off)++ds++(c1++c2++c3).drop (I.sizes (fs.take i)+off+ds.length)=c1++((c2.take off++ds++c2.drop (off+ds.length))++c3):=by
     rw[←h1,zz3 c1 c2 c3,List.take_length_add_append,Nat.add_assoc,List.drop_length_add_append,zw6 (by omega),List.drop_append_of_le_length (by omega)];simp
    rw[e2];refine ky _ _ _ _ h2 ?_;simp only[aI];exact ⟨_,_,rfl,h6,h3'⟩
   ·simp only[I.dI,hf,I.aO,I.dw,List.map_set,h7,cQ.ew.injEq];apply List.ext_getElem?;intro k;rw[List.getElem?_set];split
    ·rename_i hk;subst hk;simp[hi,hfi]
    ·rfl
 |_::_,.undef,_,_,_,_,_,h,_,_ | _::_,.dp,_,_,_,_,_,h,_,_ | _::_,.bool _,_,_,_,_,_,h,_,_ | _::_,.int _ _,_,_,_,_,_,h,_,_ | _::_,.cY _,_,_,_,_,_,h,_,_ | _::_,.nilp,_,_,_,_,_,h,_,_
 |_::_,.df,_,_,_,_,_,h,_,_ | _::_,.dY,_,_,_,_,_,h,_,_ | _::_,.raw _,_,_,_,_,_,h,_,_ | _::_,.nils _,_,_,_,_,_,h,_,_ | _::_,.c0 _,_,_,_,_,_,h,_,_ | _::_,.slice _ _,_,_,_,_,_,h,_,_ | _::_,.tuple _,_,_,_,_,_,h,_,_
 |_::_,.ref _,_,_,_,_,_,h,_,_ | _::_,.func _ _,_,_,_,_,_,h,_,_ | _::_,.iface _ _,_,_,_,_,_,h,_,_ | _::_,.ptr _ _,_,_,_,_,_,h,_,_ | _::_,.own _ _,_,_,_,_,_,h,_,_ | _::_,.view _ _ _ _ _,_,_,_,_,_,h,_,_ | _::_,.mref _,_,_,_,_,_,h,_,_ | _::_,.dv _,_,_,_,_,_,h,_,_ | _::_,.cI _ _,_,_,_,_,_,h,_,_=>by simp[I.at] at h
theorem mW:∀ (p:List Nat) (c x:I),c.at p=some x→c.aO.part p=some x.aO
 | [],c,x,h=>by simp only[I.at,u8] at h;subst h;cases c.aO <;>rfl
 |i::p,.agg fs,x,h=>by
  simp only[I.at] at h;cases hf:fs[i]? with
  |none=>simp[hf] at h
  |some f =>
   simp only[hf] at h;simp only[I.aO,cQ.part,I.dw,zw2,hf,zy4];exact mW p f x h
 |_::_,.undef,_,h | _::_,.dp,_,h | _::_,.bool _,_,h | _::_,.int _ _,_,h | _::_,.cY _,_,h | _::_,.nilp,_,h
 |_::_,.df,_,h | _::_,.dY,_,h | _::_,.raw _,_,h | _::_,.nils _,_,h | _::_,.c0 _,_,h | _::_,.slice _ _,_,h | _::_,.tuple _,_,h
 |_::_,.ref _,_,h | _::_,.func _ _,_,h | _::_,.iface _ _,_,h | _::_,.ptr _ _,_,h | _::_,.own _ _,_,h | _::_,.view _ _ _ _ _,_,h | _::_,.mref _,_,h | _::_,.dv _,_,h | _::_,.cI _ _,_,h=>by simp[I.at] at h
end Go.Abs
namespace Go.Abs
open Go Go.RowKit
inductive ai where
 |box (c:I)
 |bX (T:TypeId) (sz:Nat) (es:List I)
 |dQ (o:Obj)
 |cv (ks vs:List I)
 |it (ks vs:List I) (left:List Nat) (cur:Option Nat)
 |cV (T:TypeId) (xs:List Int)
 deriving Inhabited
def ai.eG:ai→Bool
 | .it _ _ _ _=>false
 |_=>true
structure ae where
 t:Nat→I
 o:Nat→Option ai
def ae.put(A:ae)(d:Nat)(v:I):ae:=⟨fun k=>if k=d then v else A.t k,A.o⟩
def ae.aN(A:ae)(d:Option Nat)(v:I):ae:=match d with | some d=>A.put d v | none=>A
def ae.aL(A:ae)(n:Nat)(x:ai):ae:=⟨A.t,fun k=>if k=n then some x else A.o k⟩
def cn:List (Nat×I)→Nat→I
 | [],_=>.dp
 |(k,v)::r,t=>if t=k then v else cn r t
def ak:List (Nat×ai)→Nat→Option ai
 | [],_=>none
 |(k,v)::r,t=>if t=k then some v else ak r t
def au(ts:List (Nat×I))(os:List (Nat×ai)):ae:=⟨cn ts,ak os⟩
def al(os:List (Nat×ai))(n:Nat):Bool:=(ak os n).isSome
abbrev cT:=I→List (Nat×ai)→Prop
structure cS where
 P:Program
 ff:World
 D0:aM
 n:Nat
 own:Nat→Prop
 dM:aW
 Y:Value→List I→List (Nat×ai)→cT→Prop
 mR:Option Nat
def iE:Value→List I→List (Nat×ai)→cT→Prop:=fun _ _ _ _=>False
def cS.bh(c:cS):Fence:=match c.mR with
 |none=>Fence.wide
 |some l=>Fence.wide.inRound l
def cS.fj(c:cS)(b:Nat):Prop:=c.ff.heap.size≤b∨c.own b
structure fO (M:Nat→Prop) (w w':World):Prop where
 os:w'.os=w.os
 tape:w'.tape=w.tape
 output:w'.output=w.output
 size:w.heap.size≤w'.heap.size
 block:∀ k,¬ M k→w'.heap[k]?=w.heap[k]?
theorem fO.refl(M:Nat→Prop)(w:World):fO M w w:=⟨rfl,rfl,rfl,zz7 _,fun _ _=>rfl⟩
theorem fO.trans{M:Nat→Prop}{a b c:World}(h:fO M a b)(k:fO M b c):fO M a c :=
 ⟨k.os.trans h.os,k.tape.trans h.tape,k.output.trans h.output,zv8 h.size k.size,fun i hi=>(k.block i hi).trans (h.block i hi)⟩
theorem fO.grow{M:Nat→Prop}{w w':World}{B:Nat}(h:Below B w w')(hB:∀ k,B≤k→M k):fO M w w' :=
 ⟨h.os,h.tape,h.output,h.size,fun k hk=>h.block k (Nat.lt_of_not_le fun hle=>hk (hB k hle))⟩
theorem fO.Qx{M:Nat→Prop}{w w':World}{B:Nat}(h:fO M w w')(hB:∀ k,k<B→¬ M k):Below B w w' :=
 ⟨h.os,h.tape,h.output,h.size,fun k hk=>h.block k (hB k hk)⟩
def bR.aE:bR→Option Nat
 | .aA b _=>some b
 | .rw (some (b,_)) _=>some b
 | .rw none _=>none
 | .op b=>some b
 | .cv b=>some b
 | .it b=>some b
def bR.eE:bR→Bool
 | .op _ | .cv _ | .it _=>true
 |_=>false
def pL:Obj→Bool
 | .loop _=>true
 |_=>false
def xW:Obj→Bool
 | .deferred _=>false
 |_=>true
theorem ahC{o:Obj}(h:pL o=true):xW o=true:=by cases o <;>first | rfl | cases h
def ov(es:Array MapEntry)(cm:Array Nat):List Nat:=(List.range es.size).filter fun i=>match es[i]? with
 |some e => !cm.contains e.born
 |none=>false
def dg(M:Nat→Prop)(w:World)(D:aM)(E:aW)(n:Nat):Option ai→Prop
 |none=>E n=none
 |some (.box x)=>∃ b cs T,E n=some (.aA b x.aO)∧M b∧w.heap[b]?=some (.cells cs T (0,0))∧ah w D E x cs.toList∧∀ o,¬ D b o
 |some (.bX T sz es)=>∃ aE,E n=some (.rw aE es.length)∧(∀ e∈es,e.size=sz)∧match aE with
  |none=>es=[]
  |some (b,cap)=>∃ cs pre rest,M b∧w.heap[b]?=some (.cells cs T (0,0))∧cs.toList=pre++rest∧aI w D E es pre ∧
    cs.size=cap*sz∧es.length≤cap∧cap≤maxLen∧∀ o,D b o→o<pre.length
 |some (.dQ x)=>∃ b,E n=some (.op b)∧M b∧w.heap[b]?=some x∧pL x=true∧∀ o,¬ D b o
 |some (.cv ks vs)=>∃ b es clock,E n=some (.cv b)∧M b∧w.heap[b]?=some (.map es clock)∧ql es clock∧aG w D E ks (es.toList.map (·.key))∧aG w D E vs (es.toList.map (·.val))∧∀ o,¬ D b o
 |some (.it ks vs left cur)=>∃ r b es clock since cm last,E n=some (.it r)∧M r∧w.heap[r]?=some (.mapIter (some b) since cm last)∧oF w D b es clock∧aG w D E ks (es.toList.map (·.key))∧aG w D E vs (es.toList.map (·.val)) ∧
   (∀ x∈es.toList,x.born<since)∧(since≤last∧since≤clock)∧left=ov es cm∧(∀ i,cur=some i→∃ e,es[i]?=some e∧cm.back?=some e.born∧last=clock)∧∀ o,¬ D r o
 |some (.cV T xs)=>∃ aE,E n=some (.rw aE xs.length)∧(∀ x∈xs,IntKind.i64.min≤x∧x≤IntKind.i64.max)∧match aE with
  |none=>xs=[]
  |some (b,cap)=>∃ cs m,M b∧w.heap[b]?=some (.cells cs T (0,0))∧cs.toList=(xs++List.replicate m 0).map (Value.int .i64)∧xs≠[]∧xs.length+m=cap∧cap≤maxLen∧∀ o,¬ D b o
def dz(E:aW)(b:Nat):Prop:=∃ n e,E n=some e∧e.aE=some b
structure lp (M:Nat→Prop) (w:World) (D:aM) (E:aW) (o:Nat→Option ai):Prop where
 bT:∀ n,dg M w D E n (o n)
 cU:∀ n m e e' b,E n=some e→E m=some e'→e.aE=some b→e'.aE=some b→n=m
def qt(run:Array Value→World→(Ending→World→Prop)→Prop)(since:World→aM→aW→Prop)(args:List I)(os:List (Nat×ai))(post:cT):Prop :=
 ∀ (w:World) (D:aM) (E:aW) (vs:List Value),since w D E→(∀ b o,D b o→b<w.heap.size)→lp (fun _=>True) w D E (ak os)→aG w D E args vs →
  run vs.toArray w fun e w'=>∃ v D' E' r os',e=.returned v∧post r os'∧aV w' D' E' r v∧lp (fun b=>w.heap.size≤b∨dz E b) w' D' E' (ak os') ∧
   fO (fun b=>w.heap.size≤b∨dz E b) w w'∧(∀ b o,D b o→D' b o)∧(∀ b o,D' b o→b<w'.heap.size)∧(∀ b o,D' b o→b<w.heap.size→¬ dz E b→D b o) ∧
   (∀ n e,E n=some e→al os' n=true→∃ e',E' n=some e'∧e.le e')∧iq w D w'
structure zR (c:cS) (w:World) (D:aM) (E:aW):Prop where
 dZ:fO c.fj c.ff w
 cO:∀ b o,c.D0 b o→D b o
 da:∀ b o,D b o→¬ c.fj b→c.D0 b o
 ed:∀ n e,c.dM n=some e→E n=none∨∃ e',E n=some e'∧e.le e'
 fJ:iq c.ff c.D0 w
def sc(P:Program)(v:Value)(vs:Array Value)(w:World)(R:Ending→World→Prop):Prop :=
 ∃ l,v=.func (.yield l) #[] #[]∧YieldAt Fence.wide 9 P l vs w R
def pc(c:cS):Prop:=∀ v args os post,c.Y v args os post→qt (sc c.P v) (zR c) args os post
def b7(ff:World)(ds:List Deferred)(w:World):Prop :=
 ∃ Bs:List Nat,ds=Bs.map (fun B => { target:=.collected B,args := #[] })∧Bs.Nodup∧∀ B∈Bs,ff.heap.size≤B∧w.heap[B]?=some (.deferred (some []))
theorem b7.mono{ff w w':World}{ds:List Deferred}(h:b7 ff ds w)(hk:∀ B,ff.heap.size≤B→w.heap[B]?=some (.deferred (some []))→w'.heap[B]?=some (.deferred (some []))):b7 ff ds w':=by
 obtain ⟨Bs,h1,h2,h3⟩:=h;exact ⟨Bs,h1,h2,fun B hB=>⟨(h3 B hB).1,hk B (h3 B hB).1 (h3 B hB).2⟩⟩
theorem b7.grow{ff w w':World}{ds:List Deferred}(h:b7 ff ds w)(hk:Below w.heap.size w w'):b7 ff ds w' :=
 h.mono fun B _ hB=>(hk.block B (zx9.1 hB).1).trans hB
structure aS (c:cS) (A:ae) (a:Act) (w:World) (D:aM) (E:aW):Prop where
 sz:a.tmps.size=c.n
 eU:b7 c.ff a.defers w
 eB:∀ t,aV w D E (A.t t) (a.tmps.getD t undef)
 dZ:fO c.fj c.ff w
 da:∀ b o,D b o→¬ c.fj b→c.D0 b o
 dq:∀ b o,D b o→b<w.heap.size
 bT:∀ n,dg c.fj w D E n (A.o n)
 cU:∀ n m e e' b,E n=some e→E m=some e'→e.aE=some b→e'.aE=some b→n=m
 ed:∀ n e,c.dM n=some e→E n=none∨∃ e',E n=some e'∧e.le e'
 fb:∀ n,c.dM n≠none→c.n≤n∧1000000≤n
 cO:∀ b o,c.D0 b o→D b o
 fg:pc c
 fJ:iq c.ff c.D0 w
def cw(c:cS)(A:ae)(a:Act)(w:World):Prop:=∃ D E,aS c A a w D E
section
variable {c:cS} {A:ae} {a:Act} {w:World} {D:aM} {E:aW}
theorem aS.lg(h:aS c A a w D E){w':World}{D':aM}{E':aW}(hl:dS w D E w' D' E'):iq c.ff c.D0 w':=h.fJ.trans h.cO hl.fJ
theorem aS.Dm(h:aS c A a w D E){n:Nat}{e:bR}(hn:c.dM n=some e)(hf:e.eG=true):E n=none∨E n=some e:=by
 rcases h.ed n e hn with k | ⟨e',k,hle⟩
 ·exact .inl k
 ·rw[hle.eq hf] at k;exact .inr k
theorem tD{M:Nat→Prop}{n:Nat}{x:ai}(h:dg M w D E n (some x)):E n≠none:=by
 cases x with
 |box x=>obtain ⟨b,cs,T,h1,_⟩:=h;rw[h1];simp
 |bX T sz es=>obtain ⟨aE,h1,_⟩:=h;rw[h1];simp
 |dQ o=>obtain ⟨b,h1,_⟩:=h;rw[h1];simp
 |cv ks vs=>obtain ⟨b,es,ck,h1,_⟩:=h;rw[h1];simp
 |it ks vs left=>obtain ⟨r,b,es,ck,si,se,la,h1,_⟩:=h;rw[h1];simp
 |cV T xs=>obtain ⟨aE,h1,_⟩:=h;rw[h1];simp
theorem fW{w:World}{b:Nat}{o:Obj}(h:w.heap[b]?=some o):b<w.heap.size:=(zx9.1 h).1
theorem aS.fV(h:aS c A a w D E){n:Nat}{e:bR}{b:Nat}(he:E n=some e)(hb:e.aE=some b):b<w.heap.size:=by
 have:=h.bT n;unfold dg at this;split at this
 ·simp[this] at he
 ·obtain ⟨b',cs,T,h1,h2,h3,_⟩:=this;rw[h1,u8] at he;subst he;simp only[bR.aE,u8] at hb;subst hb;exact fW h3
 ·obtain ⟨aE,h1,h2,h3⟩:=this;rw[h1,u8] at he;subst he;split at h3
  ·simp[bR.aE] at hb
  ·obtain ⟨cs,pre,rest,h4,h5,_⟩:=h3;simp only[bR.aE,u8] at hb;subst hb;exact fW h5
 ·obtain ⟨b',h1,h2,h3,_⟩:=this;rw[h1,u8] at he;subst he;simp only[bR.aE,u8] at hb;subst hb;exact fW h3
 ·obtain ⟨b',es,ck,h1,h2,h3,_⟩:=this;rw[h1,u8] at he;subst he;simp only[bR.aE,u8] at hb;subst hb;exact fW h3
 ·obtain ⟨r,b',es,ck,si,se,la,h1,h2,h3,_⟩:=this;rw[h1,u8] at he;subst he;simp only[bR.aE,u8] at hb;subst hb;exact fW h3
 ·obtain ⟨aE,h1,h2,h3⟩:=this;rw[h1,u8] at he;subst he;split at h3
  ·simp[bR.aE] at hb
  ·obtain ⟨cs,m,h4,h5,_⟩:=h3;simp only[bR.aE,u8] at hb;subst hb;exact fW h5
theorem aS.yh(h:aS c A a w D E){n b:Nat}{e:bR}(he:E n=some e)(ho:e.eE=true)(hb:e.aE=some b):∀ o,¬ D b o:=by
 have:=h.bT n;unfold dg at this;split at this
 ·rw[this] at he;cases he
 ·obtain ⟨b',cs,T,h1,_⟩:=this;rw[h1] at he;cases he;cases ho
 ·obtain ⟨aE,h1,_⟩:=this;rw[h1] at he;cases he;cases ho
 ·obtain ⟨b',h1,_,_,_,h5⟩:=this;rw[h1] at he;cases he;cases hb;exact h5
 ·obtain ⟨b',es,ck,h1,_,_,_,_,_,h5⟩:=this;rw[h1] at he;cases he;cases hb;exact h5
 ·obtain ⟨r,b',es,ck,si,se,la,h1,_,_,_,_,_,_,_,_,_,h5⟩:=this;rw[h1] at he;cases he;cases hb;exact h5
 ·obtain ⟨aE,h1,_⟩:=this;rw[h1] at he;cases he;cases ho
theorem dg.bI{M:Nat→Prop}{w':World}{D':aM}{E':aW}{n:Nat}{x:Option ai}(h:dg M w D E n x)(hl:dS w D E w' D' E')(aw:E' n=E n)
  (hheap:∀ e b,E n=some e→e.aE=some b→w'.heap[b]?=w.heap[b]?∧∀ o,D' b o→D b o):dg M w' D' E' n x:=by
 unfold dg at *;split
 ·rw[aw];exact h
 ·obtain ⟨b,cs,T,h1,h2,h3,h4,h5⟩:=h;obtain ⟨k1,k2⟩:=hheap _ b h1 rfl;exact ⟨b,cs,T,aw.trans h1,h2,k1.trans h3,ah.bI hl _ _ h4,fun o ho=>h5 o (k2 o ho)⟩
 ·obtain ⟨aE,h1,h2,h3⟩:=h;refine ⟨aE,aw.trans h1,h2,?_⟩;split
  ·exact h3
  ·rename_i b cap;obtain ⟨cs,pre,rest,h4,h5,h6,h7,h8,h9,h10,h11⟩:=h3;obtain ⟨k1,k2⟩:=hheap _ b h1 rfl;exact ⟨cs,pre,rest,h4,k1.trans h5,h6,aI.bI hl _ _ h7,h8,h9,h10,fun o ho=>h11 o (k2 o ho)⟩
 ·obtain ⟨b,h1,h2,h3,h4,h5⟩:=h;obtain ⟨k1,k2⟩:=hheap _ b h1 rfl;exact ⟨b,aw.trans h1,h2,k1.trans h3,h4,fun o ho=>h5 o (k2 o ho)⟩
 ·obtain ⟨b,es,ck,h1,h2,h3,h4,h5,h6,h7⟩:=h;obtain ⟨k1,k2⟩:=hheap _ b h1 rfl;exact ⟨b,es,ck,aw.trans h1,h2,k1.trans h3,h4,aG.bI hl _ _ h5,aG.bI hl _ _ h6,fun o ho=>h7 o (k2 o ho)⟩
 ·obtain ⟨r,b,es,ck,si,se,la,h1,h2,h3,h4,h5,h6,h7,h8,h9,h9',h10⟩:=h;obtain ⟨k1,k2⟩:=hheap _ r h1 rfl;exact ⟨r,b,es,ck,si,se,la,aw.trans h1,h2,k1.trans h3,h4.bI hl,aG.bI hl _ _ h5,aG.bI hl _ _ h6,h7,h8,h9,h9',fun o ho=>h10 o (k2 o ho)⟩
 ·obtain ⟨aE,h1,h2,h3⟩:=h;refine ⟨aE,aw.trans h1,h2,?_⟩;split
  ·exact h3
  ·rename_i b cap;obtain ⟨cs,m,h4,h5,h6,h7,h8,h9,h10⟩:=h3;obtain ⟨k1,k2⟩:=hheap _ b h1 rfl;exact ⟨cs,m,h4,k1.trans h5,h6,h7,h8,h9,fun o ho=>h10 o (k2 o ho)⟩
theorem dS.grow{w':World}{D':aM}(hb:Below w.heap.size w w')(hD:∀ b o,D b o→D' b o):dS w D E w' D' E:=by
 refine ⟨hD,fun b o v _ hv =>?_,fun _ _ _ h=>h,fun _ aE l h=>⟨aE,l,h,zz7 _,fun _=>rfl⟩,fun _ _ h=>h,fun _ _ h=>h,fun b es ck _ hm=>(hb.block b (fW hm)).trans hm⟩;rw[hb.cell (World.block_lt_of_cell? w _ hv)];exact hv
theorem aS.Jp(h:aS c A a w D E){w':World}(hb:Below w.heap.size w w'):fO c.fj w w':=fO.grow hb fun k hk=>.inl (zv8 h.dZ.size hk)
theorem aS.old(h:aS c A a w D E){b:Nat}(hm:¬ c.fj b):b<w.heap.size :=
 Nat.lt_of_lt_of_le (Nat.lt_of_not_le fun hle=>hm (.inl hle)) h.dZ.size
theorem aS.kh(h:aS c A a w D E){d:Nat}(hd:d<c.n∨d<1000000):c.dM d=none:=by
 cases hh:c.dM d with
 |none=>rfl
 |some e=>have:=h.fb d (by rw[hh];simp);omega
theorem aS.grow(h:aS c A a w D E){w':World}{D':aM}(hb:Below w.heap.size w w')(hD:∀ b o,D b o→D' b o)
  (hold:∀ b o,D' b o→b<w.heap.size→D b o) (hlive:∀ b o,D' b o→b<w'.heap.size):aS c A a w' D' E:=by
 have hl:dS w D E w' D' E:=dS.grow hb hD;refine ⟨h.sz,h.eU.grow hb,fun t=>aV.bI hl (h.eB t),h.dZ.trans (h.Jp hb),fun b o hd hm=>h.da b o (hold b o hd (h.old hm)) hm,hlive,
  fun n=>(h.bT n).bI hl rfl (fun e b he hb'=>⟨hb.block b (h.fV he hb'),fun o ho=>hold b o ho (h.fV he hb')⟩),h.cU,h.ed,h.fb,fun b o hd=>hD b o (h.cO b o hd),h.fg,h.lg hl⟩
theorem aS.Ox(h:aS c A a w D E){D':aM}(hD:∀ b o,D b o→D' b o)
  (hold:∀ b o,D' b o→¬ c.fj b→c.D0 b o) (hlive:∀ b o,D' b o→b<w.heap.size)
  (hbox:∀ n x b,A.o n=some (.box x)→E n=some (.aA b x.aO)→∀ o,¬ D' b o)
  (hrow:∀ n T sz es b cap,A.o n=some (.bX T sz es)→E n=some (.rw (some (b,cap)) es.length)→∀ o,D' b o→o<es.length*sz)
  (hui:∀ n T xs b cap,A.o n=some (.cV T xs)→E n=some (.rw (some (b,cap)) xs.length)→∀ o,¬ D' b o)
  (hopq:∀ n e b,E n=some e→e.eE=true→e.aE=some b→∀ o,¬ D' b o):aS c A a w D' E:=by
 have hl:dS w D E w D' E:=⟨hD,fun _ _ _ _ h=>h,fun _ _ _ h=>h,fun _ aE l h=>⟨aE,l,h,zz7 _,fun _=>rfl⟩,fun _ _ h=>h,fun _ _ h=>h,fun _ _ _ _ h=>h⟩
 refine ⟨h.sz,h.eU,fun t=>aV.bI hl (h.eB t),h.dZ,hold,hlive,fun n =>?_,h.cU,h.ed,h.fb,fun b o hd=>hD b o (h.cO b o hd),h.fg,h.fJ⟩;have ho:=h.bT n;cases hx:A.o n with
 |none=>rw[hx] at ho;exact ho
 |some x =>
  cases x with
  |box x =>
   rw[hx] at ho;obtain ⟨b,cs,T,h1,h2,h3,h4,h5⟩:=ho;exact ⟨b,cs,T,h1,h2,h3,ah.bI hl _ _ h4,hbox n x b hx h1⟩
  |bX T sz es =>
   rw[hx] at ho;obtain ⟨aE,h1,h2,h3⟩:=ho;refine ⟨aE,h1,h2,?_⟩;cases aE with
   |none=>exact h3
   |some bc =>
    obtain ⟨b,cap⟩:=bc;obtain ⟨cs,pre,rest,h4,h5,h6,h7,h8,h9,h10,h11⟩:=h3;refine ⟨cs,pre,rest,h4,h5,h6,aI.bI hl _ _ h7,h8,h9,h10,fun o hd =>?_⟩;rw[aI.length _ _ h7,I.iK _ h2];exact hrow n T sz es b cap hx h1 o hd
  |dQ x =>
   rw[hx] at ho;obtain ⟨b,h1,h2,h3,h4,h5⟩:=ho;exact ⟨b,h1,h2,h3,h4,hopq n _ b h1 rfl rfl⟩
  |cv ks vs =>
   rw[hx] at ho;obtain ⟨b,es,ck,h1,h2,h3,h4,h5,h6,h7⟩:=ho;exact ⟨b,es,ck,h1,h2,h3,h4,aG.bI hl _ _ h5,aG.bI hl _ _ h6,hopq n _ b h1 rfl rfl⟩
  |it ks vs left cur =>
   rw[hx] at ho;obtain ⟨r,b,es,ck,si,se,la,h1,h2,h3,h4,h5,h6,h7,h8,h9,h9',h10⟩:=ho;exact ⟨r,b,es,ck,si,se,la,h1,h2,h3,h4.bI hl,aG.bI hl _ _ h5,aG.bI hl _ _ h6,h7,h8,h9,h9',hopq n _ r h1 rfl rfl⟩
  |cV T xs =>
   rw[hx] at ho;obtain ⟨aE,h1,h2,h3⟩:=ho;refine ⟨aE,h1,h2,?_⟩;cases aE with
   |none=>exact h3
   |some bc =>
    obtain ⟨b,cap⟩:=bc;obtain ⟨cs,m,h4,h5,h6,h7,h8,h9,h10⟩:=h3;exact ⟨cs,m,h4,h5,h6,h7,h8,h9,hui n T xs b cap hx h1⟩
theorem afN(a:Act)(d:Nat)(v:Value)(t:Nat)(hd:d<a.tmps.size):(a.put (some d) v).tmps.getD t undef=if t=d then v else a.tmps.getD t undef:=by
 simp only[Act.put,Array.getD_eq_getD_getElem?,Array.getElem?_setIfInBounds];by_cases h:t=d
 ·subst h;simp[hd]
 ·simp[h,Ne.symm h]
theorem aS.put(h:aS c A a w D E){d:Nat}{x:I}{v:Value}(hd:d<c.n)(hv:aV w D E x v):aS c (A.put d x) (a.put (some d) v) w D E:=by
 refine ⟨by simp[Act.put,h.sz],by exact h.eU,fun t =>?_,h.dZ,h.da,h.dq,h.bT,h.cU,h.ed,h.fb,h.cO,h.fg,h.fJ⟩;rw[afN a d v t (by rw[h.sz];exact hd)];simp only[ae.put];split
 ·exact hv
 ·exact h.eB t
theorem aS.aN(h:aS c A a w D E){d:Option Nat}{x:I}{v:Value}(hd:∀ k,d=some k→k<c.n)(hv:aV w D E x v):aS c (A.aN d x) (a.put d v) w D E:=by
 cases d with
 |none=>exact h
 |some d=>exact h.put (hd d rfl) hv
theorem sm(w:World)(o:Obj):Below w.heap.size w (w.alloc o):=(Below.refl _ _).alloc (zz7 _) o
theorem NG{w:World}{D:aM}{E:aW} : ∀ {xs:List I} {vs:List Value},aG w D E xs vs→vs.length=xs.length
 | [],vs,h=>by simp only[aG] at h;subst h;rfl
 |x::xs,vs,h=>by
  simp only[aG] at h;obtain ⟨v,rest,cs,rfl,_,_,h3⟩:=h;simp[NG h3]
theorem aS.xU(h:aS c A a w D E){d:Nat}{x:ai}{o':Obj}{e:bR}(hdn:d<c.n∨d<1000000)(hd:A.o d=none)(heb:e.aE=some w.heap.size)
  (hx:dS w D E (w.alloc o') D (fun n=>if n=d then some e else E n)→(∀ o,¬ D w.heap.size o)→dg c.fj (w.alloc o') D (fun n=>if n=d then some e else E n) d (some x)) :
  aS c (A.aL d x) a (w.alloc o') D (fun n=>if n=d then some e else E n):=by
 have hEd:E d=none:=by have:=h.bT d;rw[hd] at this;exact this
 have hne:∀ {n:Nat} {e:bR},E n=some e→n≠d:=fun he e'=>by rw[e',hEd] at he;cases he
 have hl:dS w D E (w.alloc o') D (fun n=>if n=d then some e else E n):=by
  refine ⟨fun _ _ h=>h,fun b o v _ hv =>?_,fun n b aO he =>?_,fun n aE l he =>?_,fun n b he =>?_,fun n b he =>?_,fun b es ck _ hm=>(Below.heap_alloc w _ b (fW hm)).trans hm⟩
  ·rw[World.cell?_alloc_lt _ _ _ (World.block_lt_of_cell? w _ hv)];exact hv
  ·simp only[if_neg (hne he)];exact he
  ·exact ⟨aE,l,by simp only[if_neg (hne he)];exact he,zz7 _,fun _=>rfl⟩
  ·simp only[if_neg (hne he)];exact he
  ·simp only[if_neg (hne he)];exact he
 refine ⟨h.sz,h.eU.grow (sm w _),fun t=>aV.bI hl (h.eB t),h.dZ.trans (h.Jp (sm w _)),h.da,fun b o hd'=>by have:=h.dq b o hd';simp;omega,fun n =>?_,?_,fun n e' hn =>?_,h.fb,h.cO,h.fg,h.lg hl⟩
 ·simp only[ae.aL];by_cases hn:n=d
  ·subst hn;simp only[if_true];exact hx hl fun o ho=>Nat.lt_irrefl _ (h.dq _ o ho)
  ·simp only[if_neg hn];exact (h.bT n).bI hl (by simp only[if_neg hn]) fun e b he hb=>⟨Below.heap_alloc w _ b (h.fV he hb),fun _ ho=>ho⟩
 ·intro n m e1 e2 b h1 h2 h3 h4;by_cases hn:n=d <;>by_cases hm:m=d
  ·rw[hn,hm]
  ·simp only[if_pos hn,u8] at h1;simp only[if_neg hm] at h2;subst h1;rw[heb] at h3;cases h3;have:=h.fV h2 h4;omega
  ·simp only[if_neg hn] at h1;simp only[if_pos hm,u8] at h2;subst h2;rw[heb] at h4;cases h4;have:=h.fV h1 h3;omega
  ·simp only[if_neg hn] at h1;simp only[if_neg hm] at h2;exact h.cU n m e1 e2 b h1 h2 h3 h4
 ·have hnd:n≠d:=fun e=>by rw[e,h.kh hdn] at hn;cases hn
  simp only[if_neg hnd];exact h.ed n e' hn
theorem aS.rq(h:aS c A a w D E){d:Nat}{x:I}{cs:Array Value}{T:TypeId}(hdn:d<c.n∨d<1000000)(hd:A.o d=none)(hx:ah w D E x cs.toList) :
  aS c (A.aL d (.box x)) a (w.alloc (.cells cs T)) D (fun n=>if n=d then some (.aA w.heap.size x.aO) else E n) :=
 h.xU hdn hd rfl fun hl hno=>⟨w.heap.size,cs,T,by simp,.inl h.dZ.size,heap_alloc_new w _,ah.bI hl _ _ hx,hno⟩
theorem aS.ahy(h:aS c A a w D E){d:Nat}(hdn:d<c.n∨d<1000000)(hd:A.o d=none) :
  aS c (A.aL d (.cv [] [])) a (w.alloc (.map #[] 0)) D (fun n=>if n=d then some (.cv w.heap.size) else E n) :=
 h.xU hdn hd rfl fun _ hno=>⟨w.heap.size,#[],0,by simp,.inl h.dZ.size,heap_alloc_new w _,⟨by simp,by simp⟩,by simp[aG],by simp[aG],hno⟩
theorem aS.ahx(h:aS c A a w D E){d b clock:Nat}{ks vs:List I}{es:Array MapEntry}(hdn:d<c.n∨d<1000000)(hd:A.o d=none)(hm:oF w D b es clock)(hk:aG w D E ks (es.toList.map (·.key)))(hv:aG w D E vs (es.toList.map (·.val))) :
  aS c (A.aL d (.it ks vs (List.range ks.length) none)) a (w.alloc (.mapIter (some b) clock #[] clock)) D (fun n=>if n=d then some (.it w.heap.size) else E n) :=
 h.xU hdn hd rfl fun hl hno=>⟨w.heap.size,b,es,clock,clock,#[],clock,by simp,.inl h.dZ.size,heap_alloc_new w _,hm.bI hl,aG.bI hl _ _ hk,aG.bI hl _ _ hv,hm.2.2.1,⟨zz7 _,zz7 _⟩,by
  have e:ks.length=es.size:=by have:=NG hk;simpa using this.symm
  rw[e];unfold ov;exact (List.filter_eq_self.2 fun i hi=>by
   have hi':i<es.size:=by simpa using hi
   simp[Array.getElem?_eq_getElem hi']).symm,(fun i hi=>by cases hi),hno⟩
theorem vh(w:World)(g:Nat)(cs:Array Value)(p:Addr)(h:p.block≠g):(w.setRow g cs).cell? p=w.cell? p :=
 World.cell?_of_block (setRow_other w g p.block cs h)
theorem xu{M:Nat→Prop}{ff w:World}(h:fO M ff w){g:Nat}(hg:M g)(cs:Array Value):fO M ff (w.setRow g cs) :=
 h.trans ⟨rfl,rfl,rfl,by simp[World.setRow],fun k hk=>setRow_other w g k cs (fun e=>hk (e▸hg))⟩
theorem aS.NL(h:aS c A a w D E){n b:Nat}{x y:I}{cs':Array Value}(hn:A.o n=some (.box x))(aw:E n=some (.aA b x.aO))(hs:y.aO=x.aO)(hy:ah w D E y cs'.toList) :
  aS c (A.aL n (.box y)) a (w.setRow b cs') D E:=by
 have ho:=h.bT n;rw[hn] at ho;obtain ⟨b',cs,T,h1,h2,h3,h4,h5⟩:=ho;rw[aw] at h1;simp only[u8,bR.aA.injEq,and_true] at h1;subst h1;have hl:dS w D E (w.setRow b cs') D E:=by
  refine ⟨fun _ _ h=>h,fun b1 o v hd hv =>?_,fun _ _ _ h=>h,fun _ aE l h=>⟨aE,l,h,zz7 _,fun _=>rfl⟩,fun _ _ h=>h,fun _ _ h=>h,fun b1 es ck hd hm=>(setRow_other w b b1 _ (fun e=>h5 0 (by rw[←e];exact hd))).trans hm⟩;rw[vh _ _ _ _ (fun e=>h5 o (by rw[←e];exact hd))];exact hv
 refine ⟨h.sz,h.eU.mono fun B _ hB=>(setRow_other w b B cs' (fun e=>by rw[e,h3] at hB;cases hB)).trans hB,fun t=>aV.bI hl (h.eB t),xu h.dZ h2 _,h.da,fun b1 o hd=>by have:=h.dq b1 o hd;simpa[World.setRow] using this,fun m =>?_,h.cU,h.ed,h.fb,h.cO,h.fg,h.lg hl⟩;simp only[ae.aL];by_cases hm:m=n
 ·subst hm;simp only[if_true,dg];exact ⟨b,cs',T,by rw[hs];exact aw,h2,setRow_heap w b cs cs' T _ h3,ah.bI hl _ _ hy,h5⟩
 ·simp only[if_neg hm];refine (h.bT m).bI hl rfl fun e b1 he hb=>⟨setRow_other w b b1 cs' (fun e1=>hm (h.cU m n e _ b he aw (by rw[hb,e1]) rfl)),fun _ ho=>ho⟩
theorem vi{w:World}{B:Nat}{o o':Obj}(h:w.heap[B]?=some o)(ho:o.isCells=false){b off:Nat}{v:Value}(hv:w.cell? ⟨b,off,none⟩=some v):(w.putObj B o').cell? ⟨b,off,none⟩=some v:=by
 have hne:b≠B:=fun e=>by
  obtain ⟨o2,h2,h3⟩:=cells_of_cell hv;simp only at h2;rw[e,h] at h2;cases h2;rw[ho] at h3;cases h3
 rw[World.cell?_of_block (w:=w) (World.putObj_heap_other hne)];exact hv
theorem aS.NN(h:aS c A a w D E){n b:Nat}{e:bR}{x:ai}{o0 o':Obj}(aw:E n=some e)(ho:e.eE=true)(hb:e.aE=some b)(hw:w.heap[b]?=some o0)(hnc:o0.isCells=false)(hnd:∀ q,o0≠.deferred q)(hmine:c.fj b)
  (hx:dS w D E (w.putObj b o') D E→(w.putObj b o').heap[b]?=some o'→(∀ o,¬ D b o)→dg c.fj (w.putObj b o') D E n (some x)):aS c (A.aL n x) a (w.putObj b o') D E:=by
 have hno:=h.yh aw ho hb;have hlt:b<w.heap.size:=fW hw;have hl:dS w D E (w.putObj b o') D E:=⟨fun _ _ h=>h,fun b1 o1 v _ hv=>vi hw hnc hv,fun _ _ _ h=>h,fun _ aE l h=>⟨aE,l,h,zz7 _,fun _=>rfl⟩,fun _ _ h=>h,fun _ _ h=>h,
  fun b1 es ck hd hm=>(World.putObj_heap_other (fun e1=>hno 0 (by rw[←e1];exact hd))).trans hm⟩
 refine ⟨h.sz,h.eU.mono fun B _ hB=>(World.putObj_heap_other (fun e1=>by rw[e1,hw] at hB;exact hnd _ (Option.some.inj hB))).trans hB,fun t=>aV.bI hl (h.eB t),h.dZ.trans ⟨rfl,rfl,rfl,by simp,fun k hk=>World.putObj_heap_other (fun e1=>hk (e1▸hmine))⟩,h.da,
  fun b1 o1 hd=>by have:=h.dq b1 o1 hd;simpa using this,fun m =>?_,h.cU,h.ed,h.fb,h.cO,h.fg,h.lg hl⟩
 simp only[ae.aL];by_cases hm:m=n
 ·subst hm;simp only[if_true];exact hx hl (World.putObj_heap_same hlt) hno
 ·simp only[if_neg hm];exact (h.bT m).bI hl rfl fun e' b1 he hb'=>⟨World.putObj_heap_other (fun e1=>hm (h.cU m n e' _ b1 he aw hb' (by rw[e1];exact hb))),fun _ ho=>ho⟩
end
inductive aJ where
 |t (n:Nat)
 |c (x:I)
 deriving Inhabited
inductive cP where
 |i (k:IntKind)
 |b
 |s
 |bl (l:List cP)
 |kG (n:Nat) (e:cP)
 deriving Inhabited
mutual
def cP.size:cP→Nat
 | .i _ | .b | .s=>1
 | .bl l=>cP.sizes l
 | .kG n e=>n*e.size
def cP.sizes:List cP→Nat
 | []=>0
 |t::ts=>t.size+cP.sizes ts
end
inductive b9 where
 |mv (x:aJ)
 |pick (c a b:aJ)
 |bin (op:BinOp) (x y:aJ)
 |eqv (ty:cP) (neg:Bool) (x y:aJ)
 |nilS (neg:Bool) (x:aJ)
 |conv (k:IntKind) (x:aJ)
 |un (op:UnOp) (x:aJ)
 |ld (s:Option Nat) (x:aJ)
 |fa (f off:Nat) (x:aJ)
 |fl (f off:Nat) (s:Option Nat) (x:aJ)
 |ia (n esz:Nat) (x i:aJ)
 |is (esz:Nat) (x i:aJ)
 |ix (n esz:Nat) (s:Option Nat) (x i:aJ)
 |len (x:aJ)
 |lenT (x:aJ)
 |va (n esz:Nat) (x:aJ)
 |sl (esz:Nat) (x:aJ) (lo hi mx:Option aJ)
 |bld (zs:List I) (parts:List (Nat×aJ))
 |bs (T esz:Nat) (parts:List aJ)
 |ext (x:aJ) (i:Nat)
 |mk (f:FuncId) (caps:List aJ)
 |alloc (z:I)
 |box (x:aJ)
 |bl (s:Option Nat) (x v:aJ)
 |dN (e:TypeId) (esz bytes:Nat) (z:I) (s x:aJ)
 |me (e:TypeId) (esz bytes:Nat) (z:I) (s n:aJ)
 |cap (x:aJ)
 |bs0 (esz:Nat)
 |js (esz:Nat) (z:I) (x:aJ)
 |lC (esz:Nat) (x y:aJ)
 |call (f:FuncId) (args:List aJ)
 |eF (x:aJ) (args:List aJ)
 |kC (f:FuncId) (args:List aJ)
 |nilC (x:aJ)
 |ptrE (neg:Bool) (x y:aJ)
 |kp (e:TypeId) (bytes:Nat) (z:I) (n:aJ)
 |jB
 |lk (ty:cP) (z:I) (ok:Bool) (m k:aJ)
 |gv (ty:cP) (m k v:aJ)
 |j4 (x:aJ)
 |iF (x:aJ)
 |ent (x:aJ)
 deriving Inhabited
def u9(sz:Nat):Value→Option I
 | .bool b=>some (.bool b)
 | .int k n=>if k.min≤n∧n≤k.max then some (.int k n) else none
 | .string s=>if s.size≤1000000 then some (.cY s) else none
 | .pointer none=>some .nilp
 | .slice none 0 0=>some (.nils sz)
 | .nilFunc=>some .df
 | .nilIface=>some .dY
 | .map none=>some (.raw (.map none))
 |_=>none
theorem Q5{sz:Nat}{v:Value}{x:I}(h:u9 sz v=some x)(w:World)(D:aM)(E:aW):aV w D E x v:=by
 unfold u9 at h;split at h
 case h_2 =>
  split at h
  ·rename_i hh;simp only[u8] at h;subst h;exact ⟨_,by simp[bD,I.isAgg];rfl,by simp only[ah,true_and];exact hh⟩
  ·simp at h
 case h_3 =>
  split at h
  ·rename_i hh;simp only[u8] at h;subst h;exact ⟨_,by simp[bD,I.isAgg];rfl,by simp only[ah,true_and];unfold maxLen;omega⟩
  ·simp at h
 case h_9=>simp at h
 all_goals
  simp only[u8] at h;subst h;exact ⟨_,by simp[bD,I.isAgg];rfl,by simp[ah,Value.oneCell']⟩
def Yi(P:Program)(t:TypeId):Nat:=match P.underlying t with | some (.slice e)=>P.cellsOf e | _=>0
def bB(P:Program)(t:TypeId):Operand→Option aJ
 | .tmp n=>some (.t n)
 | .const v=>(u9 (Yi P t) v).map .c
 | .func f=>some (.c (.func f []))
 | .global _=>none
def af(A:ae):aJ→I
 | .t n=>A.t n
 | .c x=>x
section
variable {c:cS} {A:ae} {a:Act} {w:World} {D:aM} {E:aW}
theorem cj(h:aS c A a w D E){P:Program}{t:TypeId}{x:Operand}{y:aJ}(hc:bB P t x=some y):aV w D E (af A y) (a.eval x):=by
 cases x with
 |tmp n=>simp only[bB,u8] at hc;subst hc;exact h.eB n
 |const v =>
  simp only[bB,zz0] at hc;obtain ⟨z,hz,rfl⟩:=hc;exact Q5 hz w D E
 |global g=>simp[bB] at hc
 |func f =>
  simp only[bB,u8] at hc;subst hc;exact ⟨[.func (.func f) #[] #[]],by simp[bD,I.isAgg,af,Act.eval],by simp only[ah,af,aG];exact ⟨[],rfl,rfl⟩⟩
theorem lZ{b:Bool}{v:Value}(h:aV w D E (.bool b) v):v=.bool b:=by
 obtain ⟨cs,h1,h2⟩:=h;simp only[ah] at h2;simp[bD,I.isAgg,h2] at h1;exact h1.symm
theorem fu{k:IntKind}{n:Int}{v:Value}(h:aV w D E (.int k n) v):v=.int k n∧k.min≤n∧n≤k.max:=by
 obtain ⟨cs,h1,h2⟩:=h;simp only[ah] at h2;simp[bD,I.isAgg,h2.1] at h1;exact ⟨h1.symm,h2.2⟩
theorem nO{s:ByteArray}{v:Value}(h:aV w D E (.cY s) v):v=.string s∧s.size≤maxLen:=by
 obtain ⟨cs,h1,h2⟩:=h;simp only[ah] at h2;simp[bD,I.isAgg,h2.1] at h1;exact ⟨h1.symm,h2.2⟩
theorem Kh{x:I}{v:Value}(hx:x.isAgg=false)(h:ah w D E x [v]):aV w D E x v:=by
 cases x <;>simp only[ah] at h <;>first | (simp[I.isAgg] at hx;done) | exact ⟨[v],by simp[bD,I.isAgg],by simpa only[ah] using h⟩
theorem jI{fs:List I}{v:Value}(h:aV w D E (.agg fs) v):∃ cs:List Value,v=.agg cs.toArray∧aI w D E fs cs:=by
 obtain ⟨cs,h1,h2⟩:=h;simp only[ah] at h2;exact ⟨cs,by simpa[bD,I.isAgg] using h1,h2⟩
theorem Kg{fs:List I}{cs:List Value}(h:aI w D E fs cs):aV w D E (.agg fs) (.agg cs.toArray):=⟨cs,by simp[bD,I.isAgg],by simpa only[ah] using h⟩
theorem oE(b:Bool):aV w D E (.bool b) (.bool b):=⟨[.bool b],by simp[bD,I.isAgg],by simp[ah]⟩
theorem kT{k:IntKind}{n:Int}(h:k.min≤n∧n≤k.max):aV w D E (.int k n) (.int k n):=⟨[.int k n],by simp[bD,I.isAgg],by simp only[ah,true_and];exact h⟩
theorem oP{n:Nat}{p:List Nat}{v:Value}(h:aV w D E (.ptr n p) v):∃ b aO off,E n=some (.aA b aO)∧aO.off p=some off∧v=.pointer (some ⟨b,off,none⟩):=by
 obtain ⟨cs,h1,h2⟩:=h;simp only[ah] at h2;obtain ⟨b,aO,off,h3,h4,h5⟩:=h2;exact ⟨b,aO,off,h3,h4,by simpa[bD,I.isAgg,h5] using h1.symm⟩
theorem qd{x:I}{v:Value}(h:aV w D E (.ref x) v):∃ b off cs,v=.pointer (some ⟨b,off,none⟩)∧gL w D b off cs∧ah w D E x cs:=by
 obtain ⟨cs,h1,h2⟩:=h;simp only[ah] at h2;obtain ⟨b,off,cs',h3,h4,h5⟩:=h2;exact ⟨b,off,cs',by simpa[bD,I.isAgg,h3] using h1.symm,h4,h5⟩
theorem tq{x:I}{b off:Nat}{cs:List Value}(h1:gL w D b off cs)(h2:ah w D E x cs):aV w D E (.ref x) (.pointer (some ⟨b,off,none⟩)) :=
 ⟨_,by simp[bD,I.isAgg];rfl,by simp only[ah];exact ⟨b,off,cs,rfl,h1,h2⟩⟩
theorem nN{sz:Nat}{es:List I}{v:Value}(h:aV w D E (.slice sz es) v):∃ ad cap,v=.slice ad es.length cap∧es.length≤cap∧cap≤maxLen ∧
  (es=[]∨∃ b off cs,ad=some ⟨b,off,none⟩∧gL w D b off cs∧aI w D E es cs)∧∀ e∈es,e.size=sz:=by
 obtain ⟨cs,h1,h2⟩:=h;simp only[ah] at h2;obtain ⟨ad,cap,h3,h4⟩:=h2;exact ⟨ad,cap,by simpa[bD,I.isAgg,h3] using h1.symm,h4⟩
theorem tr{sz:Nat}{es:List I}{ad:Option Addr}{n cap:Nat}(hn:n=es.length)(h1:n≤cap)(h2:cap≤maxLen)
  (h3:es=[]∨∃ b off cs,ad=some ⟨b,off,none⟩∧gL w D b off cs∧aI w D E es cs) (h4:∀ e∈es,e.size=sz):aV w D E (.slice sz es) (.slice ad n cap):=by
 subst hn;exact ⟨_,by simp[bD,I.isAgg];rfl,by simp only[ah];exact ⟨ad,cap,rfl,h1,h2,h3,h4⟩⟩
end
def cH(op:BinOp)(x y:I):Option I :=
 match x,y with
 | .int k a,.int k' b =>
  match op with
  | .shl=>if 0≤b then some (.int k (k.wrap (a*2^(min b.toNat k.bits)))) else none
  | .shr=>if 0≤b then some (.int k (a.fdiv (2^(min b.toNat k.bits)))) else none
  |op=>if k=k' then
   match op with
   | .add=>some (.int k (k.wrap (a+b)))
   | .sub=>some (.int k (k.wrap (a-b)))
   | .mul=>some (.int k (k.wrap (a*b)))
   | .quo=>if b=0 then none else some (.int k (k.wrap (a.tdiv b)))
   | .rem=>if b=0 then none else some (.int k (a.tmod b))
   | .and=>some (.int k (k.wrap ((BitVec.ofInt k.bits a &&& BitVec.ofInt k.bits b).toNat:Int)))
   | .or=>some (.int k (k.wrap ((BitVec.ofInt k.bits a ||| BitVec.ofInt k.bits b).toNat:Int)))
   | .xor=>some (.int k (k.wrap ((BitVec.ofInt k.bits a ^^^ BitVec.ofInt k.bits b).toNat:Int)))
   | .andNot=>some (.int k (k.wrap ((BitVec.ofInt k.bits a &&& ~~~ BitVec.ofInt k.bits b).toNat:Int)))
   | .eql=>some (.bool (a==b))
   | .neq=>some (.bool (a != b))
   | .lss=>some (.bool (decide (a<b)))
   | .leq=>some (.bool (decide (a≤b)))
   | .gtr=>some (.bool (decide (a>b)))
   | .geq=>some (.bool (decide (a≥b)))
   |_=>none
   else none
 | .cY s,.cY t =>
  match op with
  | .eql=>some (.bool (s.toList==t.toList))
  | .neq=>some (.bool (!(s.toList==t.toList)))
  | .lss=>some (.bool (Op.bytesLess s.toList t.toList))
  | .leq=>some (.bool (Op.bytesLess s.toList t.toList||s.toList==t.toList))
  | .gtr=>some (.bool (!(Op.bytesLess s.toList t.toList||s.toList==t.toList)))
  | .geq=>some (.bool (!(Op.bytesLess s.toList t.toList)))
  | .add=>if s.size+t.size≤9223372036854775807 then some (.cY (s++t)) else none
  |_=>none
 |_,_=>none
theorem qo(k:IntKind)(n:Int):k.min≤k.wrap n∧k.wrap n≤k.max:=by
 cases k <;>simp only[IntKind.min,IntKind.max,IntKind.wrap,IntKind.bits,IntKind.signed] <;>simp <;>(try split) <;>omega
theorem akq(a b:Int):(0≤a→0≤a.tmod b∧a.tmod b≤a)∧(a<0→a≤a.tmod b∧a.tmod b≤0):=by
 have key:∀ n:Nat,0≤(n:Int).tmod b∧(n:Int).tmod b≤n:=by
  intro n;cases b with
  |ofNat m=>show 0≤((n%m:Nat):Int)∧((n%m:Nat):Int)≤n;have:=Nat.mod_le n m;omega
  |negSucc m=>show 0≤((n%(m+1):Nat):Int)∧((n%(m+1):Nat):Int)≤n;have:=Nat.mod_le n (m+1);omega
 refine ⟨fun h =>?_,fun h =>?_⟩
 ·obtain ⟨n,rfl⟩:=Int.eq_ofNat_of_zero_le h;exact key n
 ·obtain ⟨n,hn⟩:=Int.eq_ofNat_of_zero_le (show 0≤-a by omega);have:=key n;rw[←hn,Int.neg_tmod] at this;omega
theorem akr(k:IntKind)(a b:Int)(h:k.min≤a∧a≤k.max):k.min≤a.tmod b∧a.tmod b≤k.max:=by
 have h0:k.min≤0∧0≤k.max:=by cases k <;>simp[IntKind.min,IntKind.max,IntKind.bits,IntKind.signed]
 have:=akq a b;omega
theorem Yw(a:Int)(m:Int)(hm:0<m):(0≤a→0≤a.fdiv m∧a.fdiv m≤a)∧(a<0→a≤a.fdiv m∧a.fdiv m≤0):=by
 rw[Int.fdiv_eq_ediv_of_nonneg _ (by omega)];have h1:=Int.mul_ediv_add_emod a m;have h2:=zw8 a (show m≠0 by omega);refine ⟨fun h=>⟨Int.ediv_nonneg h (by omega),Int.ediv_le_self _ h⟩,fun h=>⟨?_,?_⟩⟩
 ·rw[Int.le_ediv_iff_mul_le hm];have:a*m≤a*1:=Int.mul_le_mul_of_nonpos_left (by omega) (by omega);omega
 ·have:=Int.ediv_neg_of_neg_of_pos h hm;omega
theorem Yx(k:IntKind)(a:Int)(n:Nat)(h:k.min≤a∧a≤k.max):k.min≤a.fdiv (2^n)∧a.fdiv (2^n)≤k.max:=by
 have h0:k.min≤0∧0≤k.max:=by cases k <;>simp[IntKind.min,IntKind.max,IntKind.bits,IntKind.signed]
 have:=Yw a (2^n) (Int.pow_pos (by omega));omega
def cB(A:ae):I→Option I
 | .ref x=>some x
 | .ptr n p=>match A.o n with
  |some (.box x)=>x.at p
  |_=>none
 |_=>none
mutual
def I.bn:I→Bool
 | .agg fs=>I.bW fs
 | .slice _ es=>I.bW es
 | .ref x=>x.bn
 | .func _ caps=>I.bW caps
 | .iface _ v=>v.bn
 | .cI ks vs=>I.bW ks&&I.bW vs
 | .ptr _ _ | .own _ _ | .view _ _ _ _ _ | .mref _ | .dv _ | .undef | .dp | .tuple _=>false
 | .bool _ | .int _ _ | .cY _ | .nilp | .df | .dY | .raw _ | .nils _ | .c0 _=>true
def I.bW:List I→Bool
 | []=>true
 |x::xs=>x.bn&&I.bW xs
end
def fy(f:I→Option I):List I→Option (List I)
 | []=>some []
 |x::xs=>match f x,fy f xs with
  |some y,some ys=>some (y::ys)
  |_,_=>none
def dK(A:ae):Nat→I→Option I
 |0,_=>none
 |k+1,x=>if x.bn then some x else match x with
  | .agg fs=>(fy (dK A k) fs).map .agg
  | .func f caps=>(fy (dK A k) caps).map (.func f)
  | .ptr n p=>match cB A (.ptr n p) with
   |some y=>(dK A k y).map .ref
   |none=>none
  | .view n p sz lo l=>match cB A (.ptr n p) with
   |some (.agg fs)=>if I.bW ((fs.drop lo).take l)=true then some (.slice sz ((fs.drop lo).take l)) else none
   |_=>none
  | .mref n=>match A.o n with
   |some (.cv ks vs)=>if I.bW ks=true then (fy (dK A k) vs).map (.cI ks) else none
   |_=>none
  | .own n l=>match A.o n with
   |some (.bX _ sz es)=>if l=es.length∧I.bW es=true then some (.slice sz es) else none
   |_=>none
  |_=>none
mutual
/-- The value for others to hold: pointers to the frame's own variables and rows become what they hold. -/
def a7(aA:Bool)(A:ae):I→Option I
 | .ptr n p=>if aA then (match cB A (.ptr n p) with | some x=>if x.bn then some (.ref x) else (dK A 9 x).map .ref | none=>none) else none
 | .own n k=>match A.o n with
  |some (.bX _ sz es)=>if k=es.length∧I.bW es=true then some (.slice sz es) else none
  |_=>none
 | .view n p sz lo k=>if aA then (match cB A (.ptr n p) with
  |some (.agg fs)=>if I.bW ((fs.drop lo).take k)=true then some (.slice sz ((fs.drop lo).take k)) else none
  |_=>none) else none
 | .mref n=>if aA then (match A.o n with
  |some (.cv ks vs)=>if I.bW ks=true then (fy (dK A 9) vs).map (.cI ks) else none
  |_=>none) else none
 | .dv _=>none
 | .cI ks vs=>if I.bW ks&&I.bW vs then some (.cI ks vs) else none
 | .nils sz=>some (.slice sz [])
 | .c0 sz=>some (.slice sz [])
 | .func f caps=>(bZ aA A caps).map (.func f)
 | .agg fs=>(bZ aA A fs).map .agg
 | .tuple _=>none
 | .undef=>none
 | .dp=>none
 | .bool b=>some (.bool b)
 | .int k n=>some (.int k n)
 | .cY s=>some (.cY s)
 | .nilp=>some .nilp
 | .df=>some .df
 | .dY=>some .dY
 | .raw u=>some (.raw u)
 | .slice sz es=>if I.bW es then some (.slice sz es) else none
 | .ref x=>if x.bn then some (.ref x) else none
 | .iface t v=>if v.bn then some (.iface t v) else none
def bZ(aA:Bool)(A:ae):List I→Option (List I)
 | []=>some []
 |x::xs=>match a7 aA A x,bZ aA A xs with
  |some y,some ys=>some (y::ys)
  |_,_=>none
end
def bY(s:Option Nat)(x:I):Bool:=match s with
 |none => !x.isAgg
 |some n=>x.isAgg&&x.size==n
def I.b8:I→Bool
 | .undef | .dp | .tuple _=>false
 |_=>true
def iz(n esz:Nat)(fs:List I):Bool:=fs.length==n&&fs.all fun f=>f.size==esz
def dX(zs:List I):List (Nat×I)→Option (List I)
 | []=>some zs
 |(i,v)::rest=>match zs[i]? with
  |some z=>if v.b8=true∧v.size=z.size then dX (zs.set i v) rest else none
  |none=>none
def iv(x:Option I)(d:Int):Option Int:=match x with
 |none=>some d
 |some (.int _ n)=>some n
 |_=>none
def j5(sz:Nat)(es:List I)(lo hi mx:Option I):Option I :=
 match iv hi es.length with
 |none=>none
 |some h=>match iv mx es.length with
  |none=>none
  |some m=>match iv lo 0 with
   |none=>none
   |some l=>if 0≤l∧l≤h∧h≤m∧m≤es.length then
     (if mx.isSome∧m=l then some (.c0 sz) else some (.slice sz ((es.take h.toNat).drop l.toNat))) else none
def hJ(n:Nat)(p:List Nat)(sz lo k total:Nat)(lo' hi' mx':Option I):Option I :=
 match iv hi' k with
 |none=>none
 |some h=>match iv lo' 0 with
  |none=>none
  |some l=>match mx' with
   |none=>if 0≤l∧l≤h∧h≤((total-lo:Nat):Int) then (if l=((total-lo:Nat):Int) then some (.c0 sz) else some (.view n p sz (lo+l.toNat) (h.toNat-l.toNat))) else none
   |some (.int _ m)=>if 0≤l∧l≤h∧h≤m∧m≤((total-lo:Nat):Int) then some .dp else none
   |_=>none
def iu(a b:Option Bool):Option Bool:=match a,b with
 |some x,some y=>some (x&&y)
 |_,_=>none
mutual
/-- '==',part by part. -/
def cq:cP→I→I→Option Bool
 | .i k,x,y=>match x,y with
  | .int k1 a,.int k2 b=>if k1=k∧k2=k then some (a==b) else none
  |_,_=>none
 | .b,x,y=>match x,y with
  | .bool a,.bool b=>some (a==b)
  |_,_=>none
 | .s,x,y=>match x,y with
  | .cY a,.cY b=>some (a.toList==b.toList)
  |_,_=>none
 | .bl l,x,y=>match x,y with
  | .agg fs,.agg gs=>iU l fs gs
  |_,_=>none
 | .kG n e,x,y=>match x,y with
  | .agg fs,.agg gs=>if fs.length=n∧gs.length=n then (fs.zip gs).foldr (fun p acc=>iu (cq e p.1 p.2) acc) (some true) else none
  |_,_=>none
def iU:List cP→List I→List I→Option Bool
 | [],fs,gs=>match fs,gs with
  | [],[]=>some true
  |_,_=>none
 |t::ts,fs,gs=>match fs,gs with
  |f::fs,g::gs=>iu (cq t f g) (iU ts fs gs)
  |_,_=>none
end
def px(k:IntKind)(n:Int):Int:=k.wrap ((BitVec.ofInt k.bits (if k.signed then -1 else k.max) ^^^ BitVec.ofInt k.bits n).toNat:Int)
def e8(ty:cP)(k:I):List I→Nat→Option (Option Nat)
 | [],_=>some none
 |x::xs,i=>match cq ty k x with
  |some true=>some (some i)
  |some false=>e8 ty k xs (i+1)
  |none=>none
def gu(A:ae):I→Option (List I×List I)
 | .cI ks vs=>some (ks,vs)
 | .mref n=>match A.o n with
  |some (.cv ks vs)=>some (ks,vs)
  |_=>none
 | .raw (.map none)=>some ([],[])
 |_=>none
def gq(ty:cP)(z k:I)(ks vs:List I):Option (I×Bool) :=
 if (cq ty k k).isSome then (match e8 ty k ks 0 with
  |some (some i)=>(vs[i]?).map fun v=>(v,true)
  |some none=>some (z,false)
  |none=>none) else none
def ja:I→Option Bool
 | .nilp=>some true
 | .ptr _ _=>some false
 | .ref _=>some false
 |_=>none
def gh(ty:cP)(k v:I)(ks vs:List I):Option (List I×List I) :=
 if (cq ty k k).isSome=true∧k.b8=true∧v.b8=true then (match e8 ty k ks 0 with
  |some (some i)=>some (ks,vs.set i v)
  |some none=>some (ks++[k],vs++[v])
  |none=>none) else none
def mH:I→Option I
 | .ptr n p=>some (.ptr n p)
 | .ref x=>some (.ref x)
 |_=>none
def mL(neg:Bool):Option Bool→Option Bool→Option I
 |some a,some b=>if a||b then some (.bool (if neg then !(a&&b) else (a&&b))) else none
 |_,_=>none
def rl(ok:Bool):Option (I×Bool)→Option I
 |some (v,b)=>some (if ok then .tuple [v,.bool b] else v)
 |none=>none
def rj(ty:cP)(z:I)(ok:Bool)(k:I):Option (List I×List I)→Option I
 |some (ks,vs)=>rl ok (gq ty z k ks vs)
 |none=>none
def ni(ks vs:List I):Option Nat→Option I
 |some i=>match ks[i]?,vs[i]? with
  |some k,some v=>some (.tuple [k,v])
  |_,_=>none
 |none=>none
def br(A:ae):b9→Option I
 | .mv x=>some (af A x)
 | .pick c a b=>match af A c with | .bool t=>some (if t then af A a else af A b) | _=>none
 | .bin op x y=>cH op (af A x) (af A y)
 | .eqv ty neg x y=>(cq ty (af A x) (af A y)).map fun b=>.bool (if neg then !b else b)
 | .nilS neg x=>match af A x with
  | .nils _=>some (.bool (!neg))
  | .slice _ es=>if es.isEmpty then none else some (.bool neg)
  | .view _ _ _ _ _=>some (.bool neg)
  |_=>none
 | .conv k x=>match af A x with | .int _ n=>some (.int k (k.wrap n)) | _=>none
 | .un op x=>match op,af A x with
  | .not,.bool b=>some (.bool !b)
  | .neg,.int k n=>some (.int k (k.wrap (0-n)))
  | .xor,.int k n=>some (.int k (px k n))
  |_,_=>none
 | .ld s x=>match cB A (af A x) with | some v=>if bY s v then some v else none | none=>none
 | .fa f off x=>match af A x with
  | .ref (.agg fs)=>match fs[f]? with | some v=>if I.sizes (fs.take f)=off then some (.ref v) else none | none=>none
  | .ptr n p=>match cB A (.ptr n p) with | some (.agg fs)=>if f<fs.length∧I.sizes (fs.take f)=off then some (.ptr n (p++[f])) else none | _=>none
  |_=>none
 | .fl f off s x=>match af A x with
  | .agg fs=>match fs[f]? with | some v=>if I.sizes (fs.take f)=off∧bY s v=true then some v else none | none=>none
  |_=>none
 | .ia n esz x i=>match af A i with
  | .int _ k=>if 0≤k∧k<n then (match af A x with
   | .ref (.agg fs)=>if iz n esz fs then (fs[k.toNat]?).map .ref else none
   | .ptr m p=>match cB A (.ptr m p) with | some (.agg fs)=>if iz n esz fs then some (.ptr m (p++[k.toNat])) else none | _=>none
   |_=>none) else none
  |_=>none
 | .is esz x i=>match af A i with
  | .int _ k=>match af A x with
   | .slice sz es=>if sz=esz∧0≤k∧k<es.length then (es[k.toNat]?).map .ref else none
   | .own m l=>match A.o m with | some (.bX _ sz es)=>if l=es.length∧sz=esz∧0≤k∧k<es.length then (es[k.toNat]?).map .ref else none | _=>none
   | .view m p sz lo l=>match cB A (.ptr m p) with | some (.agg _)=>if sz=esz∧0≤k∧k<l then some (.ptr m (p++[lo+k.toNat])) else none | _=>none
   |_=>none
  |_=>none
 | .ix n esz s x i=>match af A i with
  | .int _ k=>if 0≤k∧k<n then (match af A x with
   | .agg fs=>if iz n esz fs then (match fs[k.toNat]? with | some v=>if bY s v then some v else none | none=>none) else none
   |_=>none) else none
  |_=>none
 | .len x=>match af A x with
  | .slice _ es=>some (.int .i64 es.length)
  | .nils _ | .c0 _=>some (.int .i64 0)
  | .own m l=>match A.o m with | some (.bX _ _ es)=>if l=es.length then some (.int .i64 es.length) else none | _=>none
  | .view _ _ _ _ k=>some (.int .i64 k)
  |_=>none
 | .cap x=>match af A x with
  | .nils _ | .c0 _=>some (.int .i64 ((0:Nat):Int))
  | .view n p _ lo _=>match cB A (.ptr n p) with | some (.agg fs)=>some (.int .i64 ((fs.length-lo:Nat):Int)) | _=>none
  |_=>none
 | .bs0 esz=>some (.c0 esz)
 | .lenT x=>match af A x with
  | .cY s=>some (.int .i64 s.size)
  |_=>none
 | .va n esz x=>match af A x with
  | .ptr m p=>match cB A (.ptr m p) with | some (.agg fs)=>if iz n esz fs=true∧n≤maxLen∧n≠0 then some (.view m p esz 0 n) else none | _=>none
  | .ref (.agg fs)=>if iz n esz fs=true∧n≤maxLen∧n≠0 then some (.slice esz fs) else none
  |_=>none
 | .sl esz x lo hi mx=>match af A x with
  | .slice sz es=>if sz=esz then j5 sz es (lo.map (af A)) (hi.map (af A)) (mx.map (af A)) else none
  | .nils sz=>if sz=esz then j5 sz [] (lo.map (af A)) (hi.map (af A)) (mx.map (af A)) else none
  | .c0 sz=>if sz=esz then j5 sz [] (lo.map (af A)) (hi.map (af A)) (mx.map (af A)) else none
  | .view n p sz l0 k=>match cB A (.ptr n p) with | some (.agg fs)=>if sz=esz then hJ n p sz l0 k fs.length (lo.map (af A)) (hi.map (af A)) (mx.map (af A)) else none | _=>none
  |_=>none
 | .bld zs parts=>(dX zs (parts.map fun p=>(p.1,af A p.2))).map .agg
 | .nilC x=>mH (af A x)
 | .ptrE neg x y=>mL neg (ja (af A x)) (ja (af A y))
 | .lk ty z ok m k=>rj ty z ok (af A k) (gu A (af A m))
 | .ent x=>match af A x with
  | .dv n=>match A.o n with
   |some (.it ks vs _ cur)=>ni ks vs cur
   |_=>none
  |_=>none
 | .bs _ esz parts=>match bZ false A (parts.map (af A)) with
  |some es=>if (es.all fun e=>e.size==esz)∧I.bW es then some (.slice esz es) else none
  |none=>none
 | .ext x i=>match af A x with | .tuple fs=>fs[i]? | _=>none
 | .mk f caps=>if ((caps.map (af A)).all fun y=>y.b8)=true then some (.func f (caps.map (af A))) else none
 |_=>none
mutual
theorem ah.fP{w:World}{D D':aM}{E E':aW}(hD:∀ b o,D b o→D' b o):∀ (x:I) (cs:List Value),x.bn=true→ah w D E x cs→ah w D' E' x cs
 | .agg fs,cs,hc,hr=>by simp only[ah,I.bn] at *;exact aI.fP hD fs cs hc hr
 | .bool b,cs,_,hr=>by simpa only[ah] using hr
 | .int k n,cs,_,hr=>by simpa only[ah] using hr
 | .cY s,cs,_,hr=>by simpa only[ah] using hr
 | .nilp,cs,_,hr=>by simpa only[ah] using hr
 | .df,cs,_,hr=>by simpa only[ah] using hr
 | .dY,cs,_,hr=>by simpa only[ah] using hr
 | .raw _,cs,_,hr=>by simpa only[ah] using hr
 | .nils _,cs,_,hr=>by simpa only[ah] using hr
 | .c0 _,cs,_,hr=>by simpa only[ah] using hr
 | .slice sz es,cs,hc,hr=>by
  simp only[ah,I.bn] at *;obtain ⟨a,cap,h1,h2,h3,h4,h5⟩:=hr;refine ⟨a,cap,h1,h2,h3,?_,h5⟩;rcases h4 with h4 | ⟨b,off,cs',h6,h7,h8⟩
  ·exact .inl h4
  ·exact .inr ⟨b,off,cs',h6,fun j v hj=>⟨(h7 j v hj).1,hD _ _ (h7 j v hj).2⟩,aI.fP hD es cs' hc h8⟩
 | .ref x,cs,hc,hr=>by
  simp only[ah,I.bn] at *;obtain ⟨b,off,cs',h1,h2,h3⟩:=hr;exact ⟨b,off,cs',h1,fun j v hj=>⟨(h2 j v hj).1,hD _ _ (h2 j v hj).2⟩,ah.fP hD x cs' hc h3⟩
 | .func f caps,cs,hc,hr=>by
  simp only[ah,I.bn] at *;obtain ⟨vs,h1,h2⟩:=hr;exact ⟨vs,h1,aG.fP hD caps vs hc h2⟩
 | .iface t v,cs,hc,hr=>by
  simp only[ah,I.bn] at *;obtain ⟨u,cs',h1,h2,h3⟩:=hr;exact ⟨u,cs',h1,h2,ah.fP hD v cs' hc h3⟩
 | .ptr n p,_,hc,_=>by simp[I.bn] at hc
 | .own n k,_,hc,_=>by simp[I.bn] at hc
 | .view n p _ _ _,_,hc,_=>by simp[I.bn] at hc
 | .mref n,_,hc,_=>by simp[I.bn] at hc
 | .dv n,_,hc,_=>by simp[I.bn] at hc
 | .cI ks vs,cs,hc,hr=>by
  simp only[ah,I.bn,zz2] at *;obtain ⟨b,es,ck,h1,h2,h3,h4⟩:=hr;exact ⟨b,es,ck,h1,⟨h2.1,hD _ _ h2.2.1,h2.2.2⟩,aG.fP hD ks _ hc.1 h3,aG.fP hD vs _ hc.2 h4⟩
 | .undef,_,hc,_=>by simp[I.bn] at hc
 | .dp,_,hc,_=>by simp[I.bn] at hc
 | .tuple _,_,hc,_=>by simp[I.bn] at hc
theorem aI.fP{w:World}{D D':aM}{E E':aW}(hD:∀ b o,D b o→D' b o):∀ (xs:List I) (cs:List Value),I.bW xs=true→aI w D E xs cs→aI w D' E' xs cs
 | [],cs,_,hr=>by simpa only[aI] using hr
 |x::xs,cs,hc,hr=>by
  simp only[aI,I.bW,zz2] at *;obtain ⟨c1,c2,h1,h2,h3⟩:=hr;exact ⟨c1,c2,h1,ah.fP hD x c1 hc.1 h2,aI.fP hD xs c2 hc.2 h3⟩
theorem aG.fP{w:World}{D D':aM}{E E':aW}(hD:∀ b o,D b o→D' b o):∀ (xs:List I) (vs:List Value),I.bW xs=true→aG w D E xs vs→aG w D' E' xs vs
 | [],vs,_,hr=>by simpa only[aG] using hr
 |x::xs,vs,hc,hr=>by
  simp only[aG,I.bW,zz2] at *;obtain ⟨v,rest,cs,h1,h2,h3,h4⟩:=hr;exact ⟨v,rest,cs,h1,h2,ah.fP hD x cs hc.1 h3,aG.fP hD xs rest hc.2 h4⟩
end
theorem oI{w:World}{D:aM}{b:Nat}{cs:Array Value}{T:TypeId}{fz:Nat×Nat}(hb:w.heap[b]?=some (.cells cs T fz)){c1 c2 c3:List Value}(hc:cs.toList=c1++c2++c3)
  (hD:∀ o,o<c1.length+c2.length→D b o):gL w D b c1.length c2:=by
 intro j v hj;have hjl:j<c2.length:=(zy5.1 hj).1;refine ⟨?_,hD _ (by omega)⟩;have e:cs[c1.length+j]?=some v:=by
  rw[←zv3,hc,zz3,zx7 (by omega),Nat.add_sub_cancel_left,zy7 (by omega)];exact hj
 simp[World.cell?,hb,e]
section
variable {c:cS} {A:ae} {a:Act} {w:World} {D:aM} {E:aW}
theorem aS.box(h:aS c A a w D E){n:Nat}{x:I}(hn:A.o n=some (.box x)) :
  ∃ b cs T,E n=some (.aA b x.aO)∧c.fj b∧w.heap[b]?=some (.cells cs T (0,0))∧ah w D E x cs.toList∧∀ o,¬ D b o:=by
 have:=h.bT n;rw[hn] at this;exact this
theorem aS.bX(h:aS c A a w D E){n sz:Nat}{T:TypeId}{es:List I}(hn:A.o n=some (.bX T sz es)) :
  ∃ aE,E n=some (.rw aE es.length)∧(∀ e∈es,e.size=sz)∧match aE with
  |none=>es=[]
  |some (b,cap)=>∃ cs pre rest,c.fj b∧w.heap[b]?=some (.cells cs T (0,0))∧cs.toList=pre++rest∧aI w D E es pre ∧
    cs.size=cap*sz∧es.length≤cap∧cap≤maxLen∧∀ o,D b o→o<pre.length:=by
 have:=h.bT n;rw[hn] at this;exact this
theorem aS.rR(h:aS c A a w D E){n:Nat}{T:TypeId}{xs:List Int}(hn:A.o n=some (.cV T xs)) :
  ∃ aE,E n=some (.rw aE xs.length)∧(∀ x∈xs,IntKind.i64.min≤x∧x≤IntKind.i64.max)∧match aE with
  |none=>xs=[]
  |some (b,cap)=>∃ cs m,c.fj b∧w.heap[b]?=some (.cells cs T (0,0))∧cs.toList=(xs++List.replicate m 0).map (Value.int .i64)∧xs≠[]∧xs.length+m=cap∧cap≤maxLen∧∀ o,¬ D b o:=by
 have:=h.bT n;rw[hn] at this;exact this
theorem aS.map(h:aS c A a w D E){n:Nat}{ks vs:List I}(hn:A.o n=some (.cv ks vs)) :
  ∃ b es clock,E n=some (.cv b)∧c.fj b∧w.heap[b]?=some (.map es clock)∧ql es clock∧aG w D E ks (es.toList.map (·.key))∧aG w D E vs (es.toList.map (·.val))∧∀ o,¬ D b o:=by
 have:=h.bT n;rw[hn] at this;exact this
theorem aS.at(h:aS c A a w D E){n:Nat}{p:List Nat}{x:I}(hx:cB A (.ptr n p)=some x) :
  ∃ y b cs T off c1 c2 c3,A.o n=some (.box y)∧E n=some (.aA b y.aO)∧c.fj b∧w.heap[b]?=some (.cells cs T (0,0))∧y.at p=some x∧y.aO.off p=some off ∧
   cs.toList=c1++c2++c3∧c1.length=off∧ah w D E x c2∧ah w D E y cs.toList∧∀ o,¬ D b o:=by
 simp only[cB] at hx;split at hx
 ·rename_i y hn;obtain ⟨b,cs,T,h1,h2,h3,h4,h5⟩:=h.box hn;obtain ⟨off,c1,c2,c3,h6,h7,h8,h9⟩:=yu p y x _ h4 hx;exact ⟨y,b,cs,T,off,c1,c2,c3,hn,h1,h2,h3,hx,h6,h7,h8,h9,h4,h5⟩
 ·cases hx
theorem aS.Af(h:aS c A a w D E){x y:I}{v:Value}(hv:aV w D E x v)(hx:cB A x=some y) :
  ∃ b off cs,v=.pointer (some ⟨b,off,none⟩)∧(∀ j u,cs[j]?=some u→w.cell? ⟨b,off+j,none⟩=some u)∧ah w D E y cs:=by
 cases x with
 |ref z =>
  simp only[cB,u8] at hx;subst hx;obtain ⟨b,off,cs,h1,h2,h3⟩:=qd hv;exact ⟨b,off,cs,h1,fun j u hj=>(h2 j u hj).1,h3⟩
 |ptr n p =>
  obtain ⟨b,aO,off,h1,h2,h3⟩:=oP hv;obtain ⟨z,b',cs,T,off',c1,c2,c3,k1,k2,_,k3,_,k5,k6,k7,k8,_,_⟩:=h.at hx;rw[k2] at h1;simp only[u8,bR.aA.injEq] at h1;obtain ⟨rfl,rfl⟩:=h1;rw[k5,u8] at h2;subst h2;refine ⟨b',off',c2,h3,fun j u hj =>?_,k8⟩;have:=oI (D:=fun _ _=>True) k3 k6 (fun _ _=>trivial);rw[k7] at this;exact (this j u hj).1
 |_=>simp[cB] at hx
theorem tX{w:World}{D:aM}{E:aW} : ∀ (xs ys:List I) (cs:List Value),aI w D E (xs++ys) cs→∃ c1 c2,cs=c1++c2∧aI w D E xs c1∧aI w D E ys c2
 | [],ys,cs,hr=>⟨[],cs,rfl,by simp[aI],hr⟩
 |x::xs,ys,cs,hr=>by
  simp only[zy0,aI] at hr;obtain ⟨d1,d2,rfl,k1,k2⟩:=hr;obtain ⟨e1,e2,rfl,k3,k4⟩:=tX xs ys d2 k2;exact ⟨d1++e1,e2,by simp,by simp only[aI];exact ⟨d1,e1,rfl,k1,k3⟩,k4⟩
theorem NO{fs:List I}{sz:Nat}(h:∀ s∈I.cX fs,s.size=sz):∀ f∈fs,f.size=sz:=by
 intro f hf;rw[←I.l4];exact h _ (by rw[I.dw];exact zx4.2 ⟨f,hf,rfl⟩)
theorem tY{w:World}{D:aM}{E:aW}{fs:List I}{cs:List Value}{sz:Nat}(hr:aI w D E fs cs)(hev:∀ f∈fs,f.size=sz)(lo k:Nat)(h:lo+k≤fs.length) :
  ∃ d1 d2 d3,cs=d1++(d2++d3)∧d1.length=lo*sz∧aI w D E ((fs.drop lo).take k) d2∧aI w D E ((fs.drop lo).drop k) d3:=by
 have e1:fs=fs.take lo++((fs.drop lo).take k++(fs.drop lo).drop k):=by rw[zx2,zx2]
 rw[e1] at hr;obtain ⟨d1,d',rfl,q1,q2⟩:=tX _ _ _ hr;obtain ⟨d2,d3,rfl,q3,q4⟩:=tX _ _ _ q2;refine ⟨d1,d2,d3,rfl,?_,q3,q4⟩;rw[aI.length _ _ q1,I.iK _ (fun x hx=>hev x (List.mem_of_mem_take hx)),zx3]
 congr 1
 omega
structure ir (aA:Bool) (A:ae) (D:aM) (E:aW) (D':aM):Prop where
 da:∀ b o,D b o→D' b o
 bX:∀ n T sz es b cap,A.o n=some (.bX T sz es)→E n=some (.rw (some (b,cap)) es.length)→∀ o,o<es.length*sz→D' b o
 box:aA=true→∀ n x b aO,A.o n=some (.box x)→E n=some (.aA b aO)→∀ o,o<x.size→D' b o
 map:aA=true→∀ n ks vs b,A.o n=some (.cv ks vs)→E n=some (.cv b)→D' b 0
def eC(A A':ae):Prop:=∀ n x,A.o n=some x→A'.o n=some x
theorem jR{A A':ae}(hu:eC A A'){x v:I}(h:cB A x=some v):cB A' x=some v:=by
 cases x <;>simp only[cB] at h ⊢ <;>try exact h
 rename_i n p;cases ho:A.o n with
 |none=>rw[ho] at h;cases h
 |some y=>rw[ho] at h;rw[hu n y ho];exact h
theorem CJ{A0 A:ae}(hu:eC A0 A){n:Nat}{p:List Nat}{x z:I}(h:cB A0 (.ptr n p)=some x)(hz:A.o n=some (.box z)):A0.o n=some (.box z):=by
 simp only[cB] at h;split at h
 ·rename_i y hy;have:=hu n _ hy;rw[hz] at this;rw[hy,←this]
 ·cases h
theorem aS.Ng(h:aS c A a w D E){A0:ae}(hu:eC A0 A){D':aM}(hw:ir true A0 D E D'){n:Nat}{p:List Nat}{x:I}{cs:List Value}(hx:cB A0 (.ptr n p)=some x)(hr:ah w D E (.ptr n p) cs) :
  ∃ b off c2,cs=[.pointer (some ⟨b,off,none⟩)]∧gL w D' b off c2∧ah w D E x c2:=by
 obtain ⟨z,b',cs',T,off',c1,c2,c3,k1,k2,_,k3,k4,k5,k6,k7,k8,k9,_⟩:=h.at (jR hu hx);have k1:=CJ hu hx k1;simp only[ah] at hr;obtain ⟨b,aO,off,h1,h2,h3⟩:=hr;rw[k2] at h1;simp only[u8,bR.aA.injEq] at h1;obtain ⟨rfl,rfl⟩:=h1;rw[k5,u8] at h2;subst h2;have hsz:=ah.length z _ k9;rw[k6] at hsz;simp only[zz5] at hsz;refine ⟨b',off',c2,h3,?_,k8⟩;rw[←k7];exact oI k3 k6 (fun o ho=>hw.box rfl n z b' _ k1 k2 o (by omega))
theorem aS.j5(h:aS c A a w D E){A0:ae}(hu:eC A0 A){D':aM}{E':aW}(hw:ir true A0 D E D'){n:Nat}{p:List Nat}{sz lo k:Nat}{fs:List I}{cs:List Value}(hx:cB A0 (.ptr n p)=some (.agg fs))(hr:ah w D E (.view n p sz lo k) cs)
  (hcl:I.bW ((fs.drop lo).take k)=true):ah w D' E' (.slice sz ((fs.drop lo).take k)) cs:=by
 obtain ⟨z,b',cs',T,off',c1,c2,c3,k1,k2,_,k3,k4,k5,k6,k7,k8,k9,_⟩:=h.at (jR hu hx);have k1:=CJ hu hx k1;simp only[ah] at hr k8 ⊢;obtain ⟨b,aO,off,l,h1,h2,h3,h4,h5,h6,h7⟩:=hr;rw[k2] at h1;simp only[u8,bR.aA.injEq] at h1;obtain ⟨rfl,rfl⟩:=h1;rw[k5,u8] at h2;subst h2;rw[mW p z _ k4] at h3;simp only[I.aO,u8,cQ.ew.injEq] at h3;subst h3;have hsz:=ah.length z _ k9;rw[k6] at hsz;rw[I.dw,zy2] at h4 h5 h6;have hev:=NO h7;obtain ⟨d1,d2,d3,rfl,q1,q2,q3⟩:=tY k8 hev lo k h6;simp only[zz5] at hsz;have hlen:((fs.drop lo).take k).length=k:=by rw[zx3,zx0];omega
 refine ⟨some ⟨b',off'+lo*sz,none⟩,fs.length-lo,by rw[hlen];exact h4,by rw[hlen];omega,by omega,.inr ⟨b',off'+lo*sz,d2,rfl,?_,aI.fP hw.da _ d2 hcl q2⟩,?_⟩
 ·have:=oI (D:=D') (c1:=c1++d1) (c2:=d2) (c3:=d3++c3) k3 (by rw[k6];simp) (fun o ho=>hw.box rfl n z b' _ k1 k2 o (by rw[zz5] at ho;omega));rw[zz5,k7,q1] at this;exact this
 ·intro e he;exact hev e (List.mem_of_mem_drop (List.mem_of_mem_take he))
theorem aS.Ny(h:aS c A a w D E){aA:Bool}{A0:ae}(hu:eC A0 A){D':aM}{E':aW}(hw:ir aA A0 D E D'){n k T sz:Nat}{es:List I}{cs:List Value}(hn:A0.o n=some (.bX T sz es))(hcl:I.bW es=true)(hk:k=es.length)(hr:ah w D E (.own n k) cs):ah w D' E' (.slice sz es) cs:=by
 subst hk;simp only[ah] at hr;obtain ⟨aE,l,h1,h2,_,h4⟩:=hr;obtain ⟨blk',k1,k2,k3⟩:=h.bX (hu n _ hn);rw[k1] at h1;simp only[u8,bR.rw.injEq] at h1;obtain ⟨rfl,rfl⟩:=h1;have h4:=h4 rfl;cases blk' with
 |none =>
  simp only at k3 h4;subst k3;simp only[ah];exact ⟨none,0,by simpa using h4,by simp,by simp[maxLen],by simp,by simp⟩
 |some bc =>
  obtain ⟨b,cap⟩:=bc;simp only at h4;obtain ⟨cs',pre,rest,k4,k5,k6,k7,k8,k9,k10,k11⟩:=k3;simp only[ah];refine ⟨some ⟨b,0,none⟩,cap,h4,k9,k10,.inr ⟨b,0,pre,rfl,?_,aI.fP hw.da es pre hcl k7⟩,k2⟩;have hp:pre.length=es.length*sz:=by rw[aI.length _ _ k7,I.iK _ k2]
  have:=oI (D:=D') (c1:=[]) k5 (by simpa using k6) (fun o ho=>hw.bX n T sz es b cap hn k1 o (by simp at ho;omega));simpa using this
theorem Kb{w:World}{D D':aM}{E E':aW}{f:I→Option I}(hf:∀ x y cs,ah w D E x cs→f x=some y→ah w D' E' y cs):∀ (xs ys:List I) (cs:List Value),aI w D E xs cs→fy f xs=some ys→aI w D' E' ys cs
 | [],ys,cs,hr,h=>by simp only[fy,u8] at h;subst h;simpa only[aI] using hr
 |x::xs,ys,cs,hr,h=>by
  simp only[fy] at h;split at h
  ·rename_i y ys' h1 h2;simp only[u8] at h;subst h;simp only[aI] at *;obtain ⟨c1,c2,e,k1,k2⟩:=hr;exact ⟨c1,c2,e,hf x y c1 k1 h1,Kb hf xs ys' c2 k2 h2⟩
  ·cases h
theorem tm{w:World}{D D':aM}{E E':aW}{f:I→Option I}(hf:∀ x y cs,ah w D E x cs→f x=some y→ah w D' E' y cs)(hp:∀ x y,f x=some y→y.isAgg=x.isAgg):∀ (xs ys:List I) (vs:List Value),aG w D E xs vs→fy f xs=some ys→aG w D' E' ys vs
 | [],ys,cs,hr,h=>by simp only[fy,u8] at h;subst h;simpa only[aG] using hr
 |x::xs,ys,cs,hr,h=>by
  simp only[fy] at h;split at h
  ·rename_i y ys' h1 h2;simp only[u8] at h;subst h;simp only[aG] at *;obtain ⟨v,rest,c1,e,k1,k2,k3⟩:=hr;refine ⟨v,rest,c1,e,?_,hf x y c1 k2 h1,tm hf hp xs ys' rest k3 h2⟩;unfold bD at *;rw[hp x y h1];exact k1
  ·cases h
theorem vJ{A0:ae} : ∀ {k:Nat} {x y:I},dK A0 k x=some y→y.isAgg=x.isAgg
 |0,_,_,h=>by simp[dK] at h
 |k+1,x,y,h=>by
  simp only[dK] at h;split at h
  ·simp only[u8] at h;rw[h]
  ·cases x <;>simp only[] at h <;>first
    |(cases h;done)
    |(simp only[zz0] at h;obtain ⟨z,_,rfl⟩:=h;rfl)
    |((repeat' split at h) <;>first | (cases h;done) | (simp only[u8] at h;subst h;rfl) | (simp only[zz0] at h;obtain ⟨z,_,rfl⟩:=h;rfl))
theorem vK(h:aS c A a w D E){A0:ae}(hu:eC A0 A){D':aM}{E':aW}(hw:ir true A0 D E D'):∀ (k:Nat) (x y:I) (cs:List Value),ah w D E x cs→dK A0 k x=some y→ah w D' E' y cs
 |0,_,_,_,_,hf=>by simp[dK] at hf
 |k+1,x,y,cs,hr,hf=>by
  have ih:=vK h hu (E':=E') hw k;simp only[dK] at hf;split at hf
  ·rename_i hcl;simp only[u8] at hf;subst hf;exact ah.fP hw.da x cs hcl hr
  ·rename_i hcl;cases x <;>simp only[] at hf <;>try (cases hf;done)
   case agg fs =>
    simp only[zz0] at hf;obtain ⟨ys,hy,rfl⟩:=hf;simp only[ah] at *;exact Kb ih fs ys cs hr hy
   case func f caps =>
    simp only[zz0] at hf;obtain ⟨ys,hy,rfl⟩:=hf;simp only[ah] at *;obtain ⟨vs,h1,h2⟩:=hr;exact ⟨vs,h1,tm ih (fun x y hxy=>vJ hxy) caps ys vs h2 hy⟩
   case ptr n p =>
    split at hf
    case h_2=>cases hf
    rename_i z hz;simp only[zz0] at hf;obtain ⟨y',hy,rfl⟩:=hf;obtain ⟨b,off,c2,k1,k2,k3⟩:=h.Ng hu hw hz hr;simp only[ah];exact ⟨b,off,c2,k1,k2,ih z y' c2 k3 hy⟩
   case view n p sz lo l =>
    split at hf
    case h_2=>cases hf
    rename_i fs hx;split at hf
    case isFalse=>cases hf
    rename_i hc;simp only[u8] at hf;subst hf;exact h.j5 hu hw hx hr hc
   case mref n =>
    split at hf
    case h_2=>cases hf
    rename_i ks vs hn;split at hf
    case isFalse=>cases hf
    rename_i hc;simp only[zz0] at hf;obtain ⟨ys,hy,rfl⟩:=hf;simp only[ah] at hr ⊢;obtain ⟨b,h1,h2⟩:=hr;obtain ⟨b',es,ck,k1,k2,k3,k4,k5,k6,k7⟩:=h.map (hu n _ hn);rw[k1] at h1;cases h1;exact ⟨b,es,ck,h2,⟨k3,hw.map rfl n ks vs b hn k1,k4⟩,aG.fP hw.da ks _ hc k5,tm ih (fun x y hxy=>vJ hxy) vs ys _ k6 hy⟩
   case own n l =>
    split at hf
    case h_2=>cases hf
    rename_i T sz es hn;split at hf
    case isFalse=>cases hf
    rename_i hk;simp only[u8] at hf;subst hf;exact h.Ny hu hw hn hk.2 hk.1 hr
mutual
theorem De(h:aS c A a w D E){aA:Bool}{A0:ae}(hu:eC A0 A){D':aM}{E':aW}(hw:ir aA A0 D E D'):∀ (x y:I) (cs:List Value),ah w D E x cs→a7 aA A0 x=some y→ah w D' E' y cs
 | .ptr n p,y,cs,hr,hf=>by
  simp only[a7] at hf;split at hf
  case isFalse=>cases hf
  rename_i hbx;subst hbx;split at hf
  case h_2=>cases hf
  rename_i x hx;obtain ⟨b,off,c2,k1,k2,k3⟩:=h.Ng hu hw hx hr;split at hf
  ·rename_i hcl;simp only[u8] at hf;subst hf;simp only[ah];exact ⟨b,off,c2,k1,k2,ah.fP hw.da x c2 hcl k3⟩
  ·simp only[zz0] at hf;obtain ⟨y',hy,rfl⟩:=hf;simp only[ah];exact ⟨b,off,c2,k1,k2,vK h hu hw 9 x y' c2 k3 hy⟩
 | .mref n,y,cs,hr,hf=>by
  simp only[a7] at hf;split at hf
  case isFalse=>cases hf
  rename_i hbx;subst hbx;split at hf
  case h_2=>cases hf
  rename_i ks vs hn;split at hf
  case isFalse=>cases hf
  rename_i hc;simp only[zz0] at hf;obtain ⟨ys,hy,rfl⟩:=hf;simp only[ah] at hr ⊢;obtain ⟨b,h1,h2⟩:=hr;obtain ⟨b',es,ck,k1,k2,k3,k4,k5,k6,k7⟩:=h.map (hu n _ hn);rw[k1] at h1;cases h1;exact ⟨b,es,ck,h2,⟨k3,hw.map rfl n ks vs b hn k1,k4⟩,aG.fP hw.da ks _ hc k5,tm (vK h hu hw 9) (fun x y hxy=>vJ hxy) vs ys _ k6 hy⟩
 | .dv _,_,_,_,hf=>by simp[a7] at hf
 | .cI ks vs,y,cs,hr,hf=>by
  simp only[a7] at hf;split at hf
  ·rename_i hc;simp only[u8] at hf;subst hf;exact ah.fP hw.da _ cs (by simpa[I.bn] using hc) hr
  ·cases hf
 | .own n k,y,cs,hr,hf=>by
  simp only[a7] at hf;split at hf
  case h_2=>cases hf
  rename_i T sz es hn;split at hf
  case isFalse=>cases hf
  rename_i hk;simp only[u8] at hf;subst hf;exact h.Ny hu hw hn hk.2 hk.1 hr
 | .view n p sz lo k,y,cs,hr,hf=>by
  simp only[a7] at hf;split at hf
  case isFalse=>cases hf
  rename_i hbx;subst hbx;split at hf
  case h_2=>cases hf
  rename_i fs hx;split at hf
  case isFalse=>cases hf
  rename_i hcl;simp only[u8] at hf;subst hf;exact h.j5 hu hw hx hr hcl
 | .nils sz,y,cs,hr,hf=>by
  simp only[a7,u8] at hf;subst hf;simp only[ah] at *;exact ⟨none,0,by simpa using hr,by simp,by simp[maxLen],by simp,by simp⟩
 | .c0 sz,y,cs,hr,hf=>by
  simp only[a7,u8] at hf;subst hf;simp only[ah] at *;obtain ⟨ad,hr⟩:=hr;exact ⟨ad,0,by simpa using hr,by simp,by simp[maxLen],by simp,by simp⟩
 | .func f caps,y,cs,hr,hf=>by
  simp only[a7,zz0] at hf;obtain ⟨ys,hy,rfl⟩:=hf;simp only[ah] at *;obtain ⟨vs,h1,h2⟩:=hr;exact ⟨vs,h1,mA h hu hw caps ys vs h2 hy⟩
 | .agg fs,y,cs,hr,hf=>by
  simp only[a7,zz0] at hf;obtain ⟨ys,hy,rfl⟩:=hf;simp only[ah] at *;exact Df h hu hw fs ys cs hr hy
 | .tuple _,_,_,_,hf=>by simp[a7] at hf
 | .undef,_,_,_,hf=>by simp[a7] at hf
 | .dp,_,_,_,hf=>by simp[a7] at hf
 | .bool b,y,cs,hr,hf=>by simp only[a7,u8] at hf;subst hf;simpa only[ah] using hr
 | .int k n,y,cs,hr,hf=>by simp only[a7,u8] at hf;subst hf;simpa only[ah] using hr
 | .cY s,y,cs,hr,hf=>by simp only[a7,u8] at hf;subst hf;simpa only[ah] using hr
 | .nilp,y,cs,hr,hf=>by simp only[a7,u8] at hf;subst hf;simpa only[ah] using hr
 | .df,y,cs,hr,hf=>by simp only[a7,u8] at hf;subst hf;simpa only[ah] using hr
 | .dY,y,cs,hr,hf=>by simp only[a7,u8] at hf;subst hf;simpa only[ah] using hr
 | .raw _,y,cs,hr,hf=>by simp only[a7,u8] at hf;subst hf;simpa only[ah] using hr
 | .slice sz es,y,cs,hr,hf=>by
  simp only[a7] at hf;split at hf
  ·rename_i hc;simp only[u8] at hf;subst hf;exact ah.fP hw.da _ cs (by simpa[I.bn] using hc) hr
  ·cases hf
 | .ref x,y,cs,hr,hf=>by
  simp only[a7] at hf;split at hf
  ·rename_i hc;simp only[u8] at hf;subst hf;exact ah.fP hw.da _ cs (by simpa[I.bn] using hc) hr
  ·cases hf
 | .iface t v,y,cs,hr,hf=>by
  simp only[a7] at hf;split at hf
  ·rename_i hc;simp only[u8] at hf;subst hf;exact ah.fP hw.da _ cs (by simpa[I.bn] using hc) hr
  ·cases hf
theorem Df(h:aS c A a w D E){aA:Bool}{A0:ae}(hu:eC A0 A){D':aM}{E':aW}(hw:ir aA A0 D E D'):∀ (xs ys:List I) (cs:List Value),aI w D E xs cs→bZ aA A0 xs=some ys→aI w D' E' ys cs
 | [],ys,cs,hr,hf=>by simp only[bZ,u8] at hf;subst hf;simpa only[aI] using hr
 |x::xs,ys,cs,hr,hf=>by
  simp only[bZ] at hf;split at hf
  ·rename_i y ys' h1 h2;simp only[u8] at hf;subst hf;simp only[aI] at *;obtain ⟨c1,c2,e,k1,k2⟩:=hr;exact ⟨c1,c2,e,De h hu hw x y c1 k1 h1,Df h hu hw xs ys' c2 k2 h2⟩
  ·cases hf
theorem mA(h:aS c A a w D E){aA:Bool}{A0:ae}(hu:eC A0 A){D':aM}{E':aW}(hw:ir aA A0 D E D'):∀ (xs ys:List I) (vs:List Value),aG w D E xs vs→bZ aA A0 xs=some ys→aG w D' E' ys vs
 | [],ys,cs,hr,hf=>by simp only[bZ,u8] at hf;subst hf;simpa only[aG] using hr
 |x::xs,ys,cs,hr,hf=>by
  simp only[bZ] at hf;split at hf
  ·rename_i y ys' h1 h2;simp only[u8] at hf;subst hf;simp only[aG] at *;obtain ⟨v,rest,c1,e,k1,k2,k3⟩:=hr;refine ⟨v,rest,c1,e,?_,De h hu hw x y c1 k2 h1,mA h hu hw xs ys' rest k3 h2⟩;have:y.isAgg=x.isAgg:=by
    cases x <;>simp only[a7] at h1 <;>first
     |(simp at h1;done)
     |(simp only[u8] at h1;subst h1;rfl)
     |(simp only[zz0] at h1;obtain ⟨z,_,rfl⟩:=h1;rfl)
     |((repeat' split at h1) <;>first | (simp at h1;done) | (simp only[u8] at h1;subst h1;rfl) | (simp only[zz0] at h1;obtain ⟨z,_,rfl⟩:=h1;rfl))
   unfold bD at *;rw[this];exact k1
  ·cases hf
end
end
def fS(P:Program)(t:TypeId):Option (Option Nat):=match P.underlying t with
 |some (.struct _) | some (.array _ _)=>some (some (P.cellsOf t))
 |some _=>some none
 |none=>none
def zc(P:Program):Nat→TypeId→Option I
 |0,_=>none
 |d+1,t=>match P.underlying t with
  |some .bool=>some (.bool false)
  |some (.int k)=>some (.int k 0)
  |some .string=>some (.cY ByteArray.empty)
  |some (.pointer _)=>some .nilp
  |some (.slice e)=>some (.nils (P.cellsOf e))
  |some (.func _ _ _)=>some .df
  |some (.interface _)=>some .dY
  |some (.map _ _)=>some (.raw (.map none))
  |some (.struct fs)=>(fs.toList.mapM fun f=>zc P d f.type).map .agg
  |some (.array n e)=>(zc P d e).map fun z=>.agg (List.replicate n z)
  |_=>none
def lz:I→Value→Bool
 | .bool b,.bool b'=>b==b'
 | .int k n,.int k' n'=>k==k'&&n==n'&&decide (k.min≤n∧n≤k.max)
 | .cY s,.string t=>s.size==0&&t.size==0
 | .nilp,.pointer none=>true
 | .nils _,.slice none 0 0=>true
 | .df,.nilFunc=>true
 | .dY,.nilIface=>true
 | .raw (.map none),.map none=>true
 |_,_=>false
mutual
def mZ:I→List Value→Option (List Value)
 | .agg fs,cs=>rW fs cs
 | .bool b,v::cs=>if lz (.bool b) v then some cs else none
 | .int k n,v::cs=>if lz (.int k n) v then some cs else none
 | .cY s,v::cs=>if lz (.cY s) v then some cs else none
 | .nilp,v::cs=>if lz .nilp v then some cs else none
 | .nils z,v::cs=>if lz (.nils z) v then some cs else none
 | .df,v::cs=>if lz .df v then some cs else none
 | .dY,v::cs=>if lz .dY v then some cs else none
 | .raw u,v::cs=>if lz (.raw u) v then some cs else none
 |_,_=>none
def rW:List I→List Value→Option (List Value)
 | [],cs=>some cs
 |x::xs,cs=>match mZ x cs with
  |some r=>rW xs r
  |none=>none
end
theorem ByteArray.Yh{s t:ByteArray}(hs:s.size=0)(ht:t.size=0):s=t:=by
 cases s with | mk a=>cases t with | mk b =>
 have ha:a = #[]:=Array.eq_empty_of_size_eq_zero hs;have hb:b = #[]:=Array.eq_empty_of_size_eq_zero ht;rw[ha,hb]
theorem UI{x:I}{v:Value}(h:lz x v=true)(w:World)(D:aM)(E:aW):ah w D E x [v]:=by
 unfold lz at h;split at h
 case h_9=>cases h
 case h_1=>simp only[beq_iff_eq] at h;subst h;simp[ah]
 case h_2 =>
  simp only[zz2,beq_iff_eq,decide_eq_true_eq] at h;obtain ⟨⟨rfl,rfl⟩,h⟩:=h;simp only[ah,true_and];exact h
 case h_3 =>
  simp only[zz2,beq_iff_eq] at h;have e:=ByteArray.Yh h.1 h.2;subst e;simp only[ah,true_and];rw[h.1];exact zw7 _
 all_goals simp[ah,Value.oneCell']
mutual
theorem OB:∀ (x:I) (cs r:List Value),mZ x cs=some r→∃ c1,cs=c1++r∧∀ w D E,ah w D E x c1
 | .agg fs,cs,r,h=>by
  simp only[mZ] at h;obtain ⟨c1,h1,h2⟩:=OC fs cs r h;exact ⟨c1,h1,fun w D E=>by simp only[ah];exact h2 w D E⟩
 | .bool b,v::cs,r,h | .int k n,v::cs,r,h | .cY s,v::cs,r,h | .nilp,v::cs,r,h | .nils z,v::cs,r,h | .df,v::cs,r,h | .dY,v::cs,r,h | .raw u,v::cs,r,h=>by
  simp only[mZ] at h;split at h
  ·rename_i hh;simp only[u8] at h;subst h;exact ⟨[v],rfl,fun w D E=>UI hh w D E⟩
  ·cases h
 | .bool b,[],r,h | .int k n,[],r,h | .cY s,[],r,h | .nilp,[],r,h | .nils z,[],r,h | .df,[],r,h | .dY,[],r,h | .raw _,[],r,h=>by simp[mZ] at h
 | .undef,_,_,h | .dp,_,_,h | .c0 _,_,_,h | .slice _ _,_,_,h | .tuple _,_,_,h | .ref _,_,_,h | .func _ _,_,_,h | .iface _ _,_,_,h | .ptr _ _,_,_,h | .own _ _,_,_,h | .view _ _ _ _ _,_,_,h | .mref _,_,_,h | .dv _,_,_,h | .cI _ _,_,_,h=>by simp[mZ] at h
theorem OC:∀ (xs:List I) (cs r:List Value),rW xs cs=some r→∃ c1,cs=c1++r∧∀ w D E,aI w D E xs c1
 | [],cs,r,h=>by
  simp only[rW,u8] at h;exact ⟨[],by simp[h],fun w D E=>by simp[aI]⟩
 |x::xs,cs,r,h=>by
  simp only[rW] at h;split at h
  ·rename_i r' hx;obtain ⟨c1,h1,h2⟩:=OB x cs r' hx;obtain ⟨c2,h3,h4⟩:=OC xs r' r h;exact ⟨c1++c2,by rw[h1,h3,zz3],fun w D E=>by simp only[aI];exact ⟨c1,c2,rfl,h2 w D E,h4 w D E⟩⟩
  ·cases h
end
def fY(P:Program)(t:TypeId):Option I :=
 match (P.info? t).bind (·.zero),zc P 12 t with
 |some z,some x=>match mZ x z.cells.toList with
  |some []=>some x
  |_=>none
 |_,_=>none
theorem l7{P:Program}{t:TypeId}{x:I}(h:fY P t=some x):∃ i z,P.info? t=some i∧i.zero=some z∧∀ w D E,ah w D E x z.cells.toList:=by
 unfold fY at h;split at h
 ·rename_i z x' hz hx;split at h
  ·rename_i hk;simp only[u8] at h;subst h;obtain ⟨i,hi,hz'⟩:=Option.bind_eq_some_iff.1 hz;obtain ⟨c1,h1,h2⟩:=OB _ _ _ hk;rw[zx8] at h1;exact ⟨i,z,hi,hz',fun w D E=>by rw[h1];exact h2 w D E⟩
  ·cases h
 ·cases h
def lV:Nat→List I→List (Nat×Nat)
 |_,[]=>[]
 |k,x::xs=>(k,x.size)::lV (k+x.size) xs
theorem Lf:∀ (xs:List I) (k i:Nat),(lV k xs)[i]?=(xs[i]?).map fun x=>(k+I.sizes (xs.take i),x.size)
 | [],k,i=>by simp[lV]
 |x::xs,k,0=>by simp[lV,I.sizes]
 |x::xs,k,i+1=>by
  simp only[lV,List.getElem?_cons_succ,Lf xs,List.take_succ_cons,I.sizes];cases xs[i]? <;>simp;omega
def gR (P : Program) (f : FuncId) : Bool := (P.funcs[f]?).any fun fn => fn.name != "runtime.NumGoroutine" && fn.body.isSome
def ly(P:Program)(ps:List (Nat×Operand)):Option (List (Nat×aJ)):=ps.mapM fun p=>(bB P 0 p.2).map fun x=>(p.1,x)
def iS(P:Program):Option Operand→Option (Option aJ)
 |none=>some none
 |some x=>(bB P 0 x).map some
def mh(P:Program):List Operand→List TypeId→Option (List aJ)
 | [],_=>some []
 |x::xs,ts=>match bB P (ts.headD 0) x,mh P xs ts.tail with
  |some y,some ys=>some (y::ys)
  |_,_=>none
def p5(P:Program):Nat→List Field→Bool
 |_,[]=>true
 |k,f::fs=>f.offset==k&&p5 P (k+P.cellsOf f.type) fs
def gE(P:Program):Nat→TypeId→Option cP
 |0,_=>none
 |d+1,t=>match P.underlying t with
  |some (.int k)=>some (.i k)
  |some .bool=>some .b
  |some .string=>some .s
  | some (.struct fs) => if P.stoodInHeld t = false ∧ (fs.toList.all fun f => f.name != "_") = true ∧ p5 P 0 fs.toList = true then
    (fs.toList.mapM fun (f:Field)=>match gE P d f.type with
     |some ty=>if ty.size=P.cellsOf f.type then some ty else none
     |none=>none).map .bl else none
  |some (.array n e)=>match gE P d e with
   |some ty=>if ty.size=P.cellsOf e∧(P.info? e).isSome=true then some (.kG n ty) else none
   |none=>none
  |_=>none
def qZ:Option TypeDesc→Bool
 |some (.int _)=>true
 |_=>false
def xn:cP→Bool
 | .i _=>true
 |_=>false
def lP(P:Program)(t:TypeId):Option cP:=match P.underlying t with
 |some (.int k)=>some (.i k)
 |some (.struct fs)=>match gE P 12 t with
  |some (.bl l)=>if l.all xn=true∧(fs.all fun f=>qZ (P.underlying f.type))=true then some (.bl l) else none
  |_=>none
 |_=>none
def uD(P:Program)(t:TypeId)(z:I):Bool:=match (P.info? t).bind (·.zero) with
 |some (.agg _)=>z.isAgg
 |some _ => !z.isAgg
 |none=>false
def yP:Operand→Operand→Bool
 | .tmp a,.tmp b=>a==b
 |_,_=>false
theorem ajK{x y:Operand}(h:yP x y=true):y=x:=by
 unfold yP at h;split at h
 ·simp only[beq_iff_eq] at h;rw[h]
 ·cases h
def dE(P:Program)(o:Oper):Option b9 :=
 match o.op with
 | .move x | .assign x=>(bB P o.type x).map .mv
 | .pick c a b=>match bB P 0 c,bB P o.type a,bB P o.type b with
  |some c,some a,some b=>some (.pick c a b)
  |_,_,_=>none
 | .binOp op t x y _=>match P.underlying t,bB P 0 x,bB P 0 y with
  |some (.int _),some x,some y | some .string,some x,some y=>some (.bin op x y)
  |some (.slice _),some x,some y=>match y with
   | .c (.nils _)=>if op=.eql∨op=.neq then some (.nilS (op==.neq) x) else none
   |_=>none
  |some (.pointer _),some x,some y=>if op=.eql∨op=.neq then some (.ptrE (op==.neq) x y) else none
  |some _,some x,some y=>if (op=.eql∨op=.neq)∧P.eqGuardType P.depth t=false then (gE P 12 t).map fun ty=>.eqv ty (op==.neq) x y else none
  |_,_,_=>none
 | .unOp op _ x=>(bB P 0 x).map (.un op)
 | .nilCheck x=>(bB P 0 x).map .nilC
 | .makeMap _ none=>some .jB
 | .lookup t m k ok=>match P.underlying t,bB P 0 m,bB P 0 k with
  |some (.map kt et),some m,some k=>match lP P kt,fY P et with
   |some ty,some z=>if uD P et z=true then some (.lk ty z ok m k) else none
   |_,_=>none
  |_,_,_=>none
 | .mapUpdate t m k v | .insert t m k v=>match P.underlying t,bB P 0 m,bB P 0 k with
  |some (.map kt et),some m,some k=>match lP P kt,bB P et v with
   |some ty,some v=>some (.gv ty m k v)
   |_,_=>none
  |_,_,_=>none
 | .makeSlice t l l'=>match P.underlying t,bB P 0 l with
  |some (.slice e),some n=>match fY P e with
   |some z=>if yP l l'=true∧z.size=1∧P.cellsOf e=1 then some (.kp e (P.bytesOf e) z n) else none
   |none=>none
  |_,_=>none
 | .range t x=>match P.underlying t with
  |some (.map _ _)=>(bB P 0 x).map .j4
  |_=>none
 | .next x false=>(bB P 0 x).map .iF
 | .entry x=>(bB P 0 x).map .ent
 | .convert nP dst x=>match P.underlying nP,P.underlying dst,bB P 0 x with
  |some (.int _),some (.int k),some x=>some (.conv k x)
  |_,_,_=>none
 | .load t x=>match fS P t,bB P 0 x with
  |some s,some x=>some (.ld s x)
  |_,_=>none
 | .fieldAddr t x f=>match P.underlying t,bB P 0 x with
  |some (.struct fs),some x=>match fs[f]? with
   |some fd=>if P.cellsOf fd.type=0 then none else some (.fa f fd.offset x)
   |none=>none
  |_,_=>none
 | .field t x f=>match P.underlying t,bB P 0 x with
  |some (.struct fs),some x=>match fs[f]? with
   |some fd=>(fS P fd.type).map fun s=>.fl f fd.offset s x
   |none=>none
  |_,_=>none
 | .indexAddr t x i=>match P.underlying t,bB P 0 x,bB P 0 i with
  |some (.array n e),some x,some i=>if (P.info? e).isSome then some (.ia n (P.cellsOf e) x i) else none
  |some (.slice e),some x,some i=>if (P.info? e).isSome then some (.is (P.cellsOf e) x i) else none
  |_,_,_=>none
 | .index t x i=>match P.underlying t,bB P 0 x,bB P 0 i with
  |some (.array n e),some x,some i=>(fS P e).map fun s=>.ix n (P.cellsOf e) s x i
  |_,_,_=>none
 | .slice t x lo hi mx=>match P.underlying t,bB P 0 x with
  |some (.array n e),some x=>match lo,hi,mx with
   |none,none,none=>if (P.info? e).isSome then some (.va n (P.cellsOf e) x) else none
   |_,_,_=>none
  |some (.slice e),some x=>match iS P lo,iS P hi,iS P mx with
   |some lo,some hi,some mx=>if (mx.isSome=true→hi.isSome=true)∧(P.info? e).isSome=true then some (.sl (P.cellsOf e) x lo hi mx) else none
   |_,_,_=>none
  |_,_=>none
 | .build t parts=>match fY P t,ly P parts.toList with
  |some (.agg zs),some ps=>match P.underlying t with
   |some (.struct fs)=>if (fs.toList.map fun f=>(f.offset,P.cellsOf f.type))=lV 0 zs∧(fs.all fun f=>(P.info? f.type).isSome)=true then some (.bld zs ps) else none
   |some (.array n e)=>if zs.length=n∧(zs.all fun z=>z.size==P.cellsOf e)=true∧(P.info? e).isSome=true then some (.bld zs ps) else none
   |_=>none
  |_,_=>none
 | .buildSlice t len parts=>match P.underlying t with
  |some (.slice e)=>match ly P parts.toList with
   |some ps=>if len=0∧parts = #[]∧(P.info? e).isSome=true then some (.bs0 (P.cellsOf e)) else if ps.map (·.1)=List.range len∧0<P.cellsOf e∧0<len∧len*P.cellsOf e≤16777216∧((P.info? e).bind (·.zero)).isSome=true then some (.bs e (P.cellsOf e) (ps.map (·.2))) else none
   |none=>none
  |_=>none
 | .extract x i=>(bB P 0 x).map fun x=>.ext x i
 | .makeFunc (.func f) first caps=>if first.isEmpty then (mh P caps.toList []).map (.mk f) else none
 | .alloc t=>(fY P t).map .alloc
 | .box t x=>(bB P t x).map .box
 | .store t x v=>match fS P t,bB P 0 x,bB P t v with
  |some s,some x,some v=>if s.isSome=true∨P.cellsOf t=1 then some (.bl s x v) else none
  |_,_,_=>none
 | .call { callee:=.value (.func f),args,argTypes } =>if gR P f then (mh P args.toList argTypes.toList).map (.call f) else (mh P args.toList argTypes.toList).map (.kC f)
 | .call { callee:=.value x,args,argTypes } =>match bB P 0 x,mh P args.toList argTypes.toList with
  |some x,some args=>some (.eF x args)
  |_,_=>none
 | .call { callee:=.builtin .len,args,argTypes } =>match args.toList,argTypes.toList with
  | [x],[t]=>match P.underlying t with
   |some (.slice _)=>(bB P t x).map .len
   |some .string=>(bB P t x).map .lenT
   |_=>none
  |_,_=>none
 | .call { callee:=.builtin .append,args,argTypes } =>match args.toList,argTypes.toList with
  | [s,x],[t,t']=>match P.underlying t,bB P t s,bB P t' x with
   |some (.slice e),some s,some x=>if t=t'∧0<P.cellsOf e∧(fY P e).map I.size=some (P.cellsOf e) then (fY P e).map fun z=>.dN e (P.cellsOf e) (P.bytesOf e) z s x else
    if qZ (P.underlying t')=true∧0<P.cellsOf e∧(fY P e).map I.size=some (P.cellsOf e) then (fY P e).map fun z=>.me e (P.cellsOf e) (P.bytesOf e) z s x else none
   |_,_,_=>none
  |_,_=>none
 | .call { callee:=.builtin .cap,args,argTypes } =>match args.toList,argTypes.toList with
  | [x],[t]=>match P.underlying t with
   |some (.slice _)=>(bB P t x).map .cap
   |_=>none
  |_,_=>none
 | .call { callee:=.builtin .clear,args,argTypes } =>match args.toList,argTypes.toList with
  | [x],[t]=>match P.underlying t,bB P t x with
   |some (.slice e),some x=>(fY P e).map fun z=>.js (P.cellsOf e) z x
   |_,_=>none
  |_,_=>none
 | .call { callee:=.builtin .copy,args,argTypes } =>match args.toList,argTypes.toList with
  | [x,y],[t,t']=>match P.underlying t,bB P t x,bB P t' y with
   |some (.slice e),some x,some y=>if t=t'∧(P.info? e).isSome=true then some (.lC (P.cellsOf e) x y) else none
   |_,_,_=>none
  |_,_=>none
 |_=>none
def dR(c:cS)(A:ae)(o:Oper)(x:I):Prop :=
 ∀ a w D E,aS c A a w D E→∃ v w' D',(execOp a.eval o).run c.P w=.ok (.value v) w'∧aS c A a w' D' E∧aV w' D' E x v
section
variable {c:cS} {A:ae} {o:Oper} {x:I}
theorem dR.same(h:∀ a w D E,aS c A a w D E→∃ v,(execOp a.eval o).run c.P w=.ok (.value v) w∧aV w D E x v):dR c A o x :=
 fun a w D E hs=>let ⟨v,h1,h2⟩:=h a w D E hs;⟨v,w,D,h1,hs,h2⟩
theorem Jn{y:Operand}{z:aJ}(ho:o.op=.move y∨o.op=.assign y)(hz:bB c.P o.type y=some z):dR c A o (af A z) :=
 .same fun a w D E hs=>⟨a.eval y,by rcases ho with ho | ho <;>simp[execOp,ho],cj hs hz⟩
theorem aga{q y z:Operand}{q' y' z':aJ}{t:Bool}(ho:o.op=.pick q y z)(hq:bB c.P 0 q=some q')(hy:bB c.P o.type y=some y')(hz:bB c.P o.type z=some z')
  (ht:af A q'=.bool t):dR c A o (if t then af A y' else af A z') :=
 .same fun a w D E hs=>by
  have h1:=cj hs hq;rw[ht] at h1;have h2:=lZ h1;refine ⟨if t then a.eval y else a.eval z,by cases t <;>simp[execOp,ho,h2,asBool],?_⟩;cases t
  ·exact cj hs hz
  ·exact cj hs hy
theorem yH{P:Program}{w:World}(op:BinOp)(t:TypeId)(x y:Operand){u v:Value}(hu:u.oneCell'=true)(hn:u≠.nilIface):(eqGuard op t x y u v).run P w=.ok () w:=by
 cases op <;>cases u <;>simp[Value.oneCell'] at hu <;>first | (exact absurd rfl hn) | (cases v <;>simp[eqGuard])
theorem P2{op:BinOp}{x y z:I}(h:cH op x y=some z){P:Program}{t:TypeId}{w:World}{D:aM}{E:aW}{u v:Value}(hx:aV w D E x u)(hy:aV w D E y v)(xo yo:Operand) :
  ∃ r,(do eqGuard op t xo yo u v;binOp op t u v:Sem Value).run P w=.ok r w∧aV w D E z r:=by
 unfold cH at h;split at h
 ·rename_i k a k' b;obtain ⟨rfl,ha⟩:=fu hx;obtain ⟨rfl,hb⟩:=fu hy;have hg:∀ op,(eqGuard op t xo yo (.int k a) (.int k' b)).run P w=.ok () w:=fun op=>yH op t xo yo rfl (by simp);simp only[Sem.run_bind,hg,Result.andThen_ok];split at h
  ·split at h
   ·rename_i hb0;simp only[u8] at h;subst h;have:¬ b<0:=by omega
    exact ⟨_,by simp[binOp,Op.shift,this],kT (qo _ _)⟩
   ·cases h
  ·split at h
   ·rename_i hb0;simp only[u8] at h;subst h;have:¬ b<0:=by omega
    exact ⟨_,by simp[binOp,Op.shift,this],kT (Yx _ _ _ ha)⟩
   ·cases h
  ·rename_i op h1 h2;split at h
   ·rename_i hk;subst hk;split at h <;>first
     |(simp at h;done)
     |(simp only[u8] at h;subst h;exact ⟨_,by simp[binOp,Op.intArith,Op.intBits,Op.intCmp],kT (qo _ _)⟩)
     |(simp only[u8] at h;subst h;exact ⟨_,by simp[binOp,Op.intCmp],oE _⟩)
     |(split at h
       ·cases h
       ·rename_i hb0;simp only[u8] at h;subst h
        first
         |exact ⟨_,by simp[binOp,Op.intDiv,hb0],kT (qo _ _)⟩
         |exact ⟨_,by simp[binOp,Op.intDiv,hb0],kT (akr _ _ _ ha)⟩)
   ·cases h
 ·rename_i s s';obtain ⟨rfl,hs1⟩:=nO hx;obtain ⟨rfl,hs2⟩:=nO hy;have hg:∀ op,(eqGuard op t xo yo (.string s) (.string s')).run P w=.ok () w:=fun op=>yH op t xo yo rfl (by simp);simp only[Sem.run_bind,hg,Result.andThen_ok];split at h <;>first
   |(simp at h;done)
   |(simp only[u8] at h;subst h;exact ⟨_,by simp[binOp,Op.stringOp],oE _⟩)
   |(split at h
     ·rename_i hl;simp only[u8] at h;subst h;have hl':¬ (((s.size+s'.size:Nat):Int)>IntKind.i64.max):=by
       have e:IntKind.i64.max=9223372036854775807:=by simp[IntKind.max,IntKind.bits,IntKind.signed]
       rw[e];omega
      refine ⟨.string (s++s'),by simp only[binOp,Op.stringOp,if_neg hl',Sem.run_pure],?_⟩;exact ⟨_,by simp[bD,I.isAgg];rfl,by simp only[ah,true_and];rw[ByteArray.size_append];unfold maxLen;omega⟩
     ·cases h)
 ·cases h
theorem Jl{op:BinOp}{t yt:TypeId}{y z:Operand}{y' z':aJ}(ho:o.op=.binOp op t y z yt)(hy:bB c.P 0 y=some y')(hz:bB c.P 0 z=some z')(h:cH op (af A y') (af A z')=some x):dR c A o x :=
 .same fun a w D E hs=>by
  obtain ⟨r,h1,h2⟩:=P2 h (P:=c.P) (t:=t) (cj hs hy) (cj hs hz) y z;exact ⟨r,by simp only[execOp,ho,Sem.run_bind] at *;rw[h1];rfl,h2⟩
theorem af9{t:TypeId}{y:Operand}{y':aJ}{b:Bool}(ho:o.op=.unOp .not t y)(hy:bB c.P 0 y=some y')(h:af A y'=.bool b):dR c A o (.bool !b) :=
 .same fun a w D E hs=>by
  have h1:=cj hs hy;rw[h] at h1;exact ⟨.bool !b,by simp[execOp,ho,lZ h1,Op.unary],oE _⟩
theorem af8{t:TypeId}{y:Operand}{y':aJ}{k:IntKind}{n:Int}(ho:o.op=.unOp .neg t y)(hy:bB c.P 0 y=some y')(h:af A y'=.int k n):dR c A o (.int k (k.wrap (0-n))) :=
 .same fun a w D E hs=>by
  have h1:=cj hs hy;rw[h] at h1;exact ⟨.int k (k.wrap (0-n)),by simp[execOp,ho,(fu h1).1,Op.unary,Op.intArith],kT (qo _ _)⟩
theorem afS{t:TypeId}{y:Operand}{y':aJ}{k:IntKind}{n:Int}(ho:o.op=.unOp .xor t y)(hy:bB c.P 0 y=some y')(h:af A y'=.int k n):dR c A o (.int k (px k n)) :=
 .same fun a w D E hs=>by
  have h1:=cj hs hy;rw[h] at h1;exact ⟨.int k (px k n),by simp[execOp,ho,(fu h1).1,Op.unary,Op.intBits,px],kT (qo _ _)⟩
theorem afR{nP dst:TypeId}{y:Operand}{y':aJ}{k k0 k1:IntKind}{n:Int}(ho:o.op=.convert nP dst y)(h1:c.P.underlying nP=some (.int k0))(h2:c.P.underlying dst=some (.int k))
  (hy:bB c.P 0 y=some y') (h:af A y'=.int k1 n):dR c A o (.int k (k.wrap n)) :=
 .same fun a w D E hs=>by
  have h3:=cj hs hy;rw[h] at h3;exact ⟨.int k (k.wrap n),by simp[execOp,ho,(fu h3).1,convert,run_underlying h1,run_underlying h2,Conv.intToInt],kT (qo _ _)⟩
theorem afV{y:Operand}{y':aJ}{i:Nat}{fs:List I}(ho:o.op=.extract y i)(hy:bB c.P 0 y=some y')(h:af A y'=.tuple fs)(hi:fs[i]?=some x):dR c A o x :=
 .same fun a w D E hs=>by
  have h3:=cj hs hy;rw[h] at h3;obtain ⟨vs,h4,h5⟩:=h3;have:∀ (fs:List I) (vs:List Value) (i:Nat),aG w D E fs vs→fs[i]?=some x→∃ v,vs[i]?=some v∧aV w D E x v:=by
   intro fs
   induction fs with
   |nil=>intro vs i _ hi;simp at hi
   |cons f fs ih =>
    intro vs i hr hi;simp only[aG] at hr;obtain ⟨v,rest,cs,rfl,k1,k2,k3⟩:=hr;cases i with
    |zero =>
     simp only[List.getElem?_cons_zero,u8] at hi ⊢;subst hi;refine ⟨v,rfl,?_⟩;cases f <;>simp only[aV] <;>first | (simp only[ah] at k2;done) | exact ⟨cs,k1,k2⟩
    |succ i=>simpa using ih rest i k3 (by simpa using hi)
  obtain ⟨v,h6,h7⟩:=this fs vs i h5 hi;exact ⟨v,by simp[execOp,ho,h4,Instr.extract,h6],h7⟩
theorem mG{w:World}{D:aM}{E:aW}{x:I}{v:Value}{cs:List Value}(h1:bD x v cs)(h2:ah w D E x cs):aV w D E x v:=by
 cases x <;>simp only[aV] <;>first | (simp only[ah] at h2;done) | exact ⟨cs,h1,h2⟩
theorem NB{P:Program}{w:World}{t:TypeId}{s:Option Nat}(h:fS P t=some s):(isAgg t).run P w=.ok s.isSome w:=by
 unfold fS at h;unfold isAgg;cases hu:P.underlying t with
 |none=>simp[hu] at h
 |some d =>
  rw[Sem.run_bind,run_underlying hu w];cases d <;>simp_all <;>(subst h;rfl)
theorem xv{P:Program}{t:TypeId}{n:Nat}(h:fS P t=some (some n)):n=P.cellsOf t:=by
 unfold fS at h;split at h <;>simp_all
theorem xh{P:Program}{t:TypeId}{d:TypeDesc}(h:P.underlying t=some d):∃ i,P.info? t=some i:=by
 unfold Program.underlying at h;cases hi:P.info? t with
 |none=>simp[hi] at h
 |some i=>exact ⟨i,rfl⟩
theorem ji{P:Program}{w:World}{t:TypeId}{i:TypeInfo}(h:P.info? t=some i):(sizeOf t).run P w=.ok (P.cellsOf t) w:=by
 simp[sizeOf,typeInfo,h,Program.cellsOf]
theorem tc{P:Program}{t:TypeId}{s:Option Nat}(h:fS P t=some s):∃ i,P.info? t=some i:=by
 unfold fS at h;split at h
 ·rename_i fs hu;exact xh hu
 ·rename_i n e hu;exact xh hu
 ·rename_i d _ _ hu;exact xh hu
 ·cases h
theorem m3(b off j:Nat):(⟨b,off,none⟩:Addr).add j=⟨b,off+j,none⟩:=by unfold Addr.add;split <;>simp_all
theorem NC{P:Program}{w:World}{D:aM}{E:aW}{t:TypeId}{s:Option Nat}{b off:Nat}{cs:List Value}{y:I}(hk:fS P t=some s)(hok:bY s y=true)
  (hcs:∀ j u,cs[j]?=some u→w.cell? ⟨b,off+j,none⟩=some u) (hy:ah w D E y cs):∃ v,(loadVar t ⟨b,off,none⟩).run P w=.ok v w∧aV w D E y v:=by
 have hag:=NB (w:=w) hk;cases s with
 |none =>
  simp only[bY,Bool.not_eq_true'] at hok;have hl:=ah.length _ _ hy;have hsz:y.size=1:=by cases y <;>simp_all[I.isAgg,I.size]
  rw[hsz] at hl
  match cs,hl with
  | [v],_ =>
   have:=hcs 0 v rfl;rw[Nat.add_zero] at this;refine ⟨v,?_,Kh hok hy⟩;simp only[loadVar,Sem.run_bind,hag,Result.andThen_ok,Option.isSome_none,zz6,if_false,run_load,this]
 |some n =>
  simp only[bY,zz2,beq_iff_eq] at hok;obtain ⟨hag',hsz⟩:=hok;have hn:=xv hk;obtain ⟨i,hi⟩:=tc hk;have hl:=ah.length _ _ hy;refine ⟨.agg cs.toArray,?_,mG (by simp[bD,hag']) hy⟩;have hlc:=run_loadCells_list (P:=P) w ⟨b,off,none⟩ cs (fun j u hj=>by rw[m3];exact hcs j u hj);rw[hl,hsz,hn] at hlc;simp only[loadVar,Sem.run_bind,hag,Result.andThen_ok,Option.isSome_some,if_true,ji hi,hlc,Sem.run_pure]
theorem af5{t:TypeId}{y:Operand}{y':aJ}{s:Option Nat}(ho:o.op=.load t y)(hk:fS c.P t=some s)(hy:bB c.P 0 y=some y')(h:cB A (af A y')=some x)(hok:bY s x=true):dR c A o x :=
 .same fun a w D E hs=>by
  obtain ⟨b,off,cs,h1,h2,h3⟩:=hs.Af (cj hs hy) h;obtain ⟨v,h4,h5⟩:=NC hk hok h2 h3;exact ⟨v,by simp[execOp,ho,Instr.loadAt,h1,Instr.sureAddr,h4],h5⟩
theorem tZ{w:World}{D:aM}{b off:Nat}{c1 c2 c3:List Value}(h:gL w D b off (c1++c2++c3)):gL w D b (off+c1.length) c2:=by
 intro j v hj;have hjl:j<c2.length:=(zy5.1 hj).1;have:=h (c1.length+j) v (by rw[zz3,zx7 (by omega),Nat.add_sub_cancel_left,zy7 (by omega)];exact hj)
 rwa [←Nat.add_assoc] at this
theorem cQ.tG:∀ (p:List Nat) (s:cQ) (o i:Nat) (l:List cQ),s.off p=some o→s.part p=some (.ew l)→i<l.length→s.off (p++[i])=some (o+cQ.sizes (l.take i))
 | [],s,o,i,l,h1,h2,h3=>by
  simp only[cQ.part,u8] at h2;subst h2;simp only[cQ.off,u8] at h1;subst h1;simp[cQ.off,zz8 h3]
 |k::p,.one,o,i,l,h1,h2,h3=>by simp[cQ.part] at h2
 |k::p,.ew m,o,i,l,h1,h2,h3=>by
  simp only[cQ.off,cQ.part,zy0] at *;cases hk:m[k]? with
  |none=>simp[hk] at h2
  |some s =>
   simp only[hk] at h1 h2 ⊢;simp only[zz0] at h1;obtain ⟨o',h4,rfl⟩:=h1;rw[cQ.tG p s o' i l h4 h2 h3];simp[Nat.add_assoc]
theorem oT{esz:Nat} : ∀ (fs:List I) (k:Nat),(∀ f∈fs,f.size=esz)→k≤fs.length→I.sizes (fs.take k)=k*esz:=by
 intro fs k h hk;rw[I.iK _ (fun x hx=>h x (List.mem_of_mem_take hx))];simp[Nat.min_eq_left hk]
theorem qM{n esz:Nat}{fs:List I}(h:iz n esz fs=true):fs.length=n∧∀ f∈fs,f.size=esz:=by
 simp only[iz,zz2,beq_iff_eq,zy8] at h;exact h
theorem Nz{P:Program}{w:World}{t:TypeId}{f b off:Nat}{fs:Array Field}{fd:Field}(hu:P.underlying t=some (.struct fs))(hf:fs[f]?=some fd)(hz:¬ P.cellsOf fd.type=0) :
  (Instr.fieldAt t (.pointer (some ⟨b,off,none⟩)) f).run P w=.ok (.pointer (some ⟨b,off+fd.offset,none⟩)) w:=by
 have hi:∃ i,P.info? fd.type=some i:=by
  cases h:P.info? fd.type with
  |none=>simp[Program.cellsOf,h] at hz
  |some i=>exact ⟨i,rfl⟩
 obtain ⟨i,hi⟩:=hi;simp only[Instr.fieldAt,Sem.run_bind,run_underlying hu,Result.andThen_ok,hf,Instr.sureAddr,Sem.run_pure,fieldPlace,ji hi,Sem.run_ite,if_neg hz,m3]
theorem afX{t:TypeId}{y:Operand}{y':aJ}{f:Nat}{fs:Array Field}{fd:Field}{gs:List I}(ho:o.op=.fieldAddr t y f)(hu:c.P.underlying t=some (.struct fs))(hf:fs[f]?=some fd)(hz:¬ c.P.cellsOf fd.type=0)
  (hy:bB c.P 0 y=some y') (h:af A y'=.ref (.agg gs)) (hx:gs[f]?=some x) (hoff:I.sizes (gs.take f)=fd.offset):dR c A o (.ref x) :=
 .same fun a w D E hs=>by
  have h1:=cj hs hy;rw[h] at h1;obtain ⟨b,off,cs,h2,h3,h4⟩:=qd h1;simp only[ah] at h4;obtain ⟨c1,c2,c3,rfl,k1,_,k2,_⟩:=mN gs cs f x h4 hx;refine ⟨_,by simp only[execOp,ho,h2,Sem.run_bind,Nz hu hf hz];rfl,tq (cs:=c2) ?_ k2⟩;rw[←hoff,←k1];exact tZ h3
theorem afW{t:TypeId}{y:Operand}{y':aJ}{f n:Nat}{p:List Nat}{fs:Array Field}{fd:Field}{gs:List I}(ho:o.op=.fieldAddr t y f)(hu:c.P.underlying t=some (.struct fs))(hf:fs[f]?=some fd)(hz:¬ c.P.cellsOf fd.type=0)
  (hy:bB c.P 0 y=some y') (h:af A y'=.ptr n p) (hd:cB A (.ptr n p)=some (.agg gs)) (hl:f<gs.length) (hoff:I.sizes (gs.take f)=fd.offset):dR c A o (.ptr n (p++[f])) :=
 .same fun a w D E hs=>by
  have h1:=cj hs hy;rw[h] at h1;obtain ⟨b,aO,off,h2,h3,h4⟩:=oP h1;obtain ⟨z,b',cs,T,off',c1,c2,c3,k1,k2,_,k3,k4,k5,k6,k7,k8,k9,_⟩:=hs.at hd;rw[k2] at h2;simp only[u8,bR.aA.injEq] at h2;obtain ⟨rfl,rfl⟩:=h2;refine ⟨_,by simp only[execOp,ho,h4,Sem.run_bind,Nz hu hf hz];rfl,?_⟩;refine ⟨_,by simp[bD,I.isAgg];rfl,?_⟩;simp only[ah];refine ⟨b',z.aO,off+fd.offset,k2,?_,rfl⟩;rw[cQ.tG p z.aO off f _ h3 (mW p z _ k4) (by rw[I.dw];simpa using hl),I.dw,←List.map_take,←I.dw,I.mX,hoff]
theorem NA{P:Program}{w:World}{t e:TypeId}{n b off:Nat}{kk:IntKind}{k:Int}{i:TypeInfo}(hu:P.underlying t=some (.array n e))(hi:P.info? e=some i)(hk:0≤k∧k<n) :
  (Instr.indexAt t (.pointer (some ⟨b,off,none⟩)) (.int kk k)).run P w=.ok (.pointer (some ⟨b,off+k.toNat*P.cellsOf e,none⟩)) w:=by
 simp[Instr.indexAt,asIntOf,run_underlying hu,Instr.sureAddr,hk,ji hi,m3]
theorem yI{P:Program}{w:World}{t e:TypeId}{n b off cap:Nat}{kk:IntKind}{k:Int}{i:TypeInfo}(hu:P.underlying t=some (.slice e))(hi:P.info? e=some i)(hk:0≤k∧k<n) :
  (Instr.indexAt t (.slice (some ⟨b,off,none⟩) n cap) (.int kk k)).run P w=.ok (.pointer (some ⟨b,off+k.toNat*P.cellsOf e,none⟩)) w:=by
 simp[Instr.indexAt,asIntOf,run_underlying hu,hk,ji hi,m3]
theorem af0{t e:TypeId}{y z:Operand}{y' z':aJ}{n:Nat}{i:TypeInfo}{gs:List I}{kk:IntKind}{k:Int}(ho:o.op=.indexAddr t y z)(hu:c.P.underlying t=some (.array n e))(hi:c.P.info? e=some i)
  (hy:bB c.P 0 y=some y') (hz:bB c.P 0 z=some z') (h:af A y'=.ref (.agg gs)) (h':af A z'=.int kk k) (hk:0≤k∧k<n) (hev:iz n (c.P.cellsOf e) gs=true) (hx:gs[k.toNat]?=some x):dR c A o (.ref x) :=
 .same fun a w D E hs=>by
  have h1:=cj hs hy;rw[h] at h1;have h1':=cj hs hz;rw[h'] at h1';obtain ⟨b,off,cs,h2,h3,h4⟩:=qd h1;simp only[ah] at h4;obtain ⟨c1,c2,c3,rfl,k1,_,k2,_⟩:=mN gs cs k.toNat x h4 hx;obtain ⟨e1,e2⟩:=qM hev;have hl:k.toNat<gs.length:=(zy5.1 hx).1;refine ⟨_,by simp only[execOp,ho,h2,(fu h1').1,Sem.run_bind,NA hu hi hk];rfl,tq (cs:=c2) ?_ k2⟩;rw[←oT gs k.toNat e2 (by omega),←k1];exact tZ h3
theorem afZ{t e:TypeId}{y z:Operand}{y' z':aJ}{n m:Nat}{p:List Nat}{i:TypeInfo}{gs:List I}{kk:IntKind}{k:Int}(ho:o.op=.indexAddr t y z)(hu:c.P.underlying t=some (.array n e))(hi:c.P.info? e=some i)
  (hy:bB c.P 0 y=some y') (hz:bB c.P 0 z=some z') (h:af A y'=.ptr m p) (h':af A z'=.int kk k) (hk:0≤k∧k<n) (hd:cB A (.ptr m p)=some (.agg gs)) (hev:iz n (c.P.cellsOf e) gs=true):dR c A o (.ptr m (p++[k.toNat])) :=
 .same fun a w D E hs=>by
  have h1:=cj hs hy;rw[h] at h1;have h1':=cj hs hz;rw[h'] at h1';obtain ⟨b,aO,off,h2,h3,h4⟩:=oP h1;obtain ⟨zz,b',cs,T,off',c1,c2,c3,k1,k2,_,k3,k4,k5,k6,k7,k8,k9,_⟩:=hs.at hd;rw[k2] at h2;simp only[u8,bR.aA.injEq] at h2;obtain ⟨rfl,rfl⟩:=h2;obtain ⟨e1,e2⟩:=qM hev;have hl:k.toNat<gs.length:=by omega
  refine ⟨_,by simp only[execOp,ho,h4,(fu h1').1,Sem.run_bind,NA hu hi hk];rfl,?_⟩;refine ⟨_,by simp[bD,I.isAgg];rfl,?_⟩;simp only[ah];refine ⟨b',zz.aO,off+k.toNat*c.P.cellsOf e,k2,?_,rfl⟩;rw[cQ.tG p zz.aO off k.toNat _ h3 (mW p zz _ k4) (by rw[I.dw];simpa using hl),I.dw,←List.map_take,←I.dw,I.mX,oT gs _ e2 (by omega)]
theorem CW{w:World}{D:aM}{E:aW}{b off sz k:Nat}{cs:List Value}{es:List I}{x:I}(h1:gL w D b off cs)(h2:aI w D E es cs)(h3:∀ e∈es,e.size=sz)(hx:es[k]?=some x) :
  ∃ c2,gL w D b (off+k*sz) c2∧ah w D E x c2:=by
 obtain ⟨c1,c2,c3,rfl,k1,_,k2,_⟩:=mN es cs k x h2 hx;have hl:k<es.length:=(zy5.1 hx).1;refine ⟨c2,?_,k2⟩;rw[←oT es k h3 (by omega),←k1];exact tZ h1
theorem af1{t e:TypeId}{y z:Operand}{y' z':aJ}{i:TypeInfo}{es:List I}{kk:IntKind}{k:Int}(ho:o.op=.indexAddr t y z)(hu:c.P.underlying t=some (.slice e))(hi:c.P.info? e=some i)
  (hy:bB c.P 0 y=some y') (hz:bB c.P 0 z=some z') (h:af A y'=.slice (c.P.cellsOf e) es) (h':af A z'=.int kk k) (hk:0≤k∧k<es.length) (hx:es[k.toNat]?=some x):dR c A o (.ref x) :=
 .same fun a w D E hs=>by
  have h1:=cj hs hy;rw[h] at h1;have h1':=cj hs hz;rw[h'] at h1';obtain ⟨ad,cap,rfl',h2,h3,h4,h5⟩:=nN h1;rcases h4 with h4 | ⟨b,off,cs,rfl,h6,h7⟩
  ·subst h4;simp at hx
  obtain ⟨c2,k1,k2⟩:=CW h6 h7 h5 hx;exact ⟨_,by simp only[execOp,ho,rfl',(fu h1').1,Sem.run_bind,yI hu hi hk];rfl,tq k1 k2⟩
theorem aS.ajQ{a:Act}{w:World}{D:aM}{E:aW}(h:aS c A a w D E){n sz b cap:Nat}{T:TypeId}{es:List I}(hn:A.o n=some (.bX T sz es))(aw:E n=some (.rw (some (b,cap)) es.length)) :
  aS c A a w (fun b' o=>D b' o∨(b'=b∧o<es.length*sz)) E:=by
 have hrow:=h.bX hn;obtain ⟨aE,k1,k2,k3⟩:=hrow;rw[aw] at k1;simp only[u8,bR.rw.injEq,and_true] at k1;subst k1;obtain ⟨cs,pre,rest,k4,k5,k6,k7,k8,k9,k10,k11⟩:=k3;refine h.Ox (fun _ _ hd=>.inl hd) ?_ ?_ ?_ ?_ ?_ ?_
 ·rintro b' o (hd | ⟨rfl,_⟩) hlt
  ·exact h.da _ _ hd hlt
  ·exact absurd k4 hlt
 ·rintro b' o (hd | ⟨rfl,_⟩)
  ·exact h.dq _ _ hd
  ·exact fW k5
 ·rintro m x b' hm hEm o (hd | ⟨rfl,_⟩)
  ·obtain ⟨b2,cs2,T2,q1,q2,q3,q4,q5⟩:=h.box hm;rw[q1] at hEm;simp only[u8,bR.aA.injEq,and_true] at hEm;subst hEm;exact q5 o hd
  ·have:=h.cU m n _ _ b' hEm aw rfl rfl;subst this;rw[hm] at hn;cases hn
 ·rintro m T' sz' es' b' cap' hm hEm o (hd | ⟨rfl,ho⟩)
  ·obtain ⟨aE,q1,q2,q3⟩:=h.bX hm;rw[hEm] at q1;simp only[u8,bR.rw.injEq,and_true] at q1;subst q1;obtain ⟨cs',pre',rest',q4,q5,q6,q7,q8,q9,q10,q11⟩:=q3;have:=q11 o hd
   rwa [aI.length _ _ q7,I.iK _ q2] at this
  ·have:=h.cU m n _ _ b' hEm aw rfl rfl;subst this;rw[hm] at hn;simp only[u8,ai.bX.injEq] at hn;obtain ⟨rfl,rfl,rfl⟩:=hn;exact ho
 ·rintro m T' xs b' cap' hm hEm o (hd | ⟨rfl,ho⟩)
  ·obtain ⟨aE,q1,_,q3⟩:=h.rR hm;rw[hEm] at q1;simp only[u8,bR.rw.injEq,and_true] at q1;subst q1;obtain ⟨_,_,_,_,_,_,_,_,q4⟩:=q3;exact q4 o hd
  ·have:=h.cU m n _ _ b' hEm aw rfl rfl;subst this;rw[hm] at hn;cases hn
 ·rintro m e' b' hE' hoth hblk o (hd | ⟨rfl,_⟩)
  ·exact h.yh hE' hoth hblk o hd
  ·have:=h.cU m n _ _ b' hE' aw hblk rfl;subst this;rw[hE'] at aw;cases aw;cases hoth
theorem aS.own{a:Act}{w:World}{D:aM}{E:aW}(h:aS c A a w D E){n sz:Nat}{T:TypeId}{es:List I}{v:Value}(hn:A.o n=some (.bX T sz es))(hv:aV w D E (.own n es.length) v) :
  (es=[]∧E n=some (.rw none 0)∧v=.slice none 0 0) ∨
  ∃ b cap cs pre rest,E n=some (.rw (some (b,cap)) es.length)∧v=.slice (some ⟨b,0,none⟩) es.length cap∧c.fj b∧w.heap[b]?=some (.cells cs T (0,0))∧cs.toList=pre++rest ∧
   aI w D E es pre∧cs.size=cap*sz∧es.length≤cap∧cap≤maxLen∧(∀ o,D b o→o<pre.length):=by
 obtain ⟨cs0,h1,h2⟩:=hv;simp only[ah] at h2;obtain ⟨aE,l,h3,h4,_,h5⟩:=h2;obtain ⟨blk',k1,k2,k3⟩:=h.bX hn;rw[k1] at h3;simp only[u8,bR.rw.injEq] at h3;obtain ⟨rfl,rfl⟩:=h3;have h5:=h5 rfl;cases blk' with
 |none =>
  simp only at k3 h5;subst k3;exact .inl ⟨rfl,k1,by simpa[bD,I.isAgg,h5] using h1.symm⟩
 |some bc =>
  obtain ⟨b,cap⟩:=bc;simp only at h5;obtain ⟨cs,pre,rest,k4,k5,k6,k7,k8,k9,k10,k11⟩:=k3;exact .inr ⟨b,cap,cs,pre,rest,k1,by simpa[bD,I.isAgg,h5] using h1.symm,k4,k5,k6,k7,k8,k9,k10,k11⟩
theorem af2{t e:TypeId}{y z:Operand}{y' z':aJ}{i:TypeInfo}{es:List I}{n:Nat}{kk:IntKind}{k:Int}(ho:o.op=.indexAddr t y z)(hu:c.P.underlying t=some (.slice e))(hi:c.P.info? e=some i)
  (hy:bB c.P 0 y=some y') (hz:bB c.P 0 z=some z') (h:af A y'=.own n es.length) {T:TypeId} (hn:A.o n=some (.bX T (c.P.cellsOf e) es)) (h':af A z'=.int kk k) (hk:0≤k∧k<es.length) (hx:es[k.toNat]?=some x):dR c A o (.ref x):=by
 intro a w D E hs;have h1:=cj hs hy;rw[h] at h1;have h1':=cj hs hz;rw[h'] at h1';rcases hs.own hn h1 with ⟨rfl,_⟩ | ⟨b,cap,cs,pre,rest,k1,k2,k3,k4,k5,k6,k7,k8,k9,k10⟩
 ·simp at hx
 ·have hs':=hs.ajQ hn k1;obtain ⟨aE,q1,q2,_⟩:=hs.bX hn;have hpl:pre.length=es.length*c.P.cellsOf e:=by rw[aI.length _ _ k6,I.iK _ q2]
  have hr:gL w (fun b' o=>D b' o∨(b'=b∧o<es.length*c.P.cellsOf e)) b 0 pre:=by
   have:=oI (D:=fun b' o=>D b' o∨(b'=b∧o<es.length*c.P.cellsOf e)) (c1:=[]) k4 (by simpa using k5) (fun o ho=>.inr ⟨rfl,by simp at ho;omega⟩);simpa using this
  have hrc:aI w (fun b' o=>D b' o∨(b'=b∧o<es.length*c.P.cellsOf e)) E es pre :=
   aI.bI ⟨fun _ _ hd=>.inl hd,fun _ _ _ _ h=>h,fun _ _ _ h=>h,fun _ aE l h=>⟨aE,l,h,zz7 _,fun _=>rfl⟩,fun _ _ h=>h,fun _ _ h=>h,fun _ _ _ _ h=>h⟩ es pre k6
  obtain ⟨c2,q3,q4⟩:=CW hr hrc q2 hx;exact ⟨_,w,_,by simp only[execOp,ho,k2,(fu h1').1,Sem.run_bind,yI hu hi hk];rfl,hs',tq q3 q4⟩
end
section
variable {c:cS} {A:ae} {o:Oper} {x:I}
theorem oO{P:Program}{w:World}{D:aM}{E:aW}{t:TypeId}{s:Option Nat}{c1 c2 c3:List Value}{y:I}(hk:fS P t=some s)(hok:bY s y=true)(hy:ah w D E y c2) :
  ∃ v,(part t (c1++c2++c3).toArray c1.length).run P w=.ok v w∧aV w D E y v:=by
 have hag:=NB (w:=w) hk;have hl:=ah.length _ _ hy;cases s with
 |none =>
  simp only[bY,Bool.not_eq_true'] at hok;have hsz:y.size=1:=by cases y <;>simp_all[I.isAgg,I.size]
  rw[hsz] at hl
  match c2,hl with
  | [v],_ =>
   refine ⟨v,?_,Kh hok hy⟩;simp[part,hag]
 |some n =>
  simp only[bY,zz2,beq_iff_eq] at hok;obtain ⟨hag',hsz⟩:=hok;have hn:=xv hk;obtain ⟨i,hi⟩:=tc hk;refine ⟨.agg c2.toArray,?_,mG (by simp[bD,hag']) hy⟩;have e:((c1++c2++c3).toArray.extract c1.length (c1.length+P.cellsOf t))=c2.toArray:=by
   have:P.cellsOf t=c2.length:=by rw[hl,hsz,hn]
   rw[this];simp
  simp only[part,Sem.run_bind,hag,Result.andThen_ok,Option.isSome_some,if_true,ji hi,e,Sem.run_pure]
theorem afY{t:TypeId}{y:Operand}{y':aJ}{f:Nat}{s:Option Nat}{fs:Array Field}{fd:Field}{gs:List I}(ho:o.op=.field t y f)(hu:c.P.underlying t=some (.struct fs))(hf:fs[f]?=some fd)(hk:fS c.P fd.type=some s)
  (hy:bB c.P 0 y=some y') (h:af A y'=.agg gs) (hx:gs[f]?=some x) (hoff:I.sizes (gs.take f)=fd.offset) (hok:bY s x=true):dR c A o x :=
 .same fun a w D E hs=>by
  have h1:=cj hs hy;rw[h] at h1;obtain ⟨cs,h2,h4⟩:=jI h1;obtain ⟨c1,c2,c3,rfl,k1,_,k2,_⟩:=mN gs cs f x h4 hx;obtain ⟨v,k3,k4⟩:=oO (c1:=c1) (c3:=c3) hk hok k2;rw[k1,hoff] at k3;exact ⟨v,by simp only[execOp,ho,h2,Instr.field,Sem.run_bind,run_underlying hu,Result.andThen_ok,hf,asAgg,Sem.run_pure,k3],k4⟩
theorem af4{t e:TypeId}{y z:Operand}{y' z':aJ}{n:Nat}{s:Option Nat}{gs:List I}{kk:IntKind}{k:Int}(ho:o.op=.index t y z)(hu:c.P.underlying t=some (.array n e))(hk:fS c.P e=some s)
  (hy:bB c.P 0 y=some y') (hz:bB c.P 0 z=some z') (h:af A y'=.agg gs) (h':af A z'=.int kk k) (hb:0≤k∧k<n) (hev:iz n (c.P.cellsOf e) gs=true) (hx:gs[k.toNat]?=some x) (hok:bY s x=true):dR c A o x :=
 .same fun a w D E hs=>by
  have h1:=cj hs hy;rw[h] at h1;have h1':=cj hs hz;rw[h'] at h1';obtain ⟨cs,h2,h4⟩:=jI h1;obtain ⟨c1,c2,c3,rfl,k1,_,k2,_⟩:=mN gs cs k.toNat x h4 hx;obtain ⟨v,k3,k4⟩:=oO (c1:=c1) (c3:=c3) hk hok k2;obtain ⟨e1,e2⟩:=qM hev;obtain ⟨i,hi⟩:=tc hk;have hl:k.toNat<gs.length:=(zy5.1 hx).1;rw[k1,oT gs k.toNat e2 (by omega)] at k3;exact ⟨v,by simp only[execOp,ho,h2,(fu h1').1,Instr.index,Sem.run_bind,asIntOf,run_underlying hu,Result.andThen_ok,Sem.run_ite,if_pos hb,ji hi,Sem.run_pure,k3],k4⟩
theorem xM{n:Nat}(h:n≤maxLen):IntKind.i64.min≤(n:Int)∧(n:Int)≤IntKind.i64.max:=by
 simp only[IntKind.min,IntKind.max,IntKind.bits,IntKind.signed];unfold maxLen at h;simp;omega
theorem pG{ty:TypeId}{y:Operand}{y':aJ}{n:Nat}{d:TypeDesc}(ho:o.op=.call { callee:=.builtin .len,args := #[y],argTypes := #[ty] })(hu:c.P.underlying ty=some d)(hd:(∃ e,d=.slice e)∨d=.string)
  (hy:bB c.P ty y=some y') (h:∀ a w D E,aS c A a w D E→∀ v,aV w D E (af A y') v→n≤maxLen∧((∃ e,d=.slice e)→∃ ad cap,v=.slice ad n cap)∧(d=.string→∃ s,v=.string s∧s.size=n)):dR c A o (.int .i64 n) :=
 .same fun a w D E hs=>by
  obtain ⟨h0,h1,h2⟩:=h a w D E hs _ (cj hs hy);refine ⟨.int .i64 n,?_,kT (xM h0)⟩;rcases hd with ⟨e,rfl⟩ | rfl
  ·obtain ⟨ad,cap,hv⟩:=h1 ⟨e,rfl⟩;simp[execOp,ho,resolve,invoke,builtin,Builtin.len_,run_underlying hu,hv,goInt]
  ·obtain ⟨s,hv,hs⟩:=h2 rfl;simp[execOp,ho,resolve,invoke,builtin,Builtin.len_,run_underlying hu,hv,goInt,hs]
theorem age{t e:TypeId}{y:Operand}{y':aJ}{n:Nat}{i:TypeInfo}{gs:List I}(ho:o.op=.slice t y none none none)(hu:c.P.underlying t=some (.array n e))(hi:c.P.info? e=some i)
  (hy:bB c.P 0 y=some y') (h:af A y'=.ref (.agg gs)) (hev:iz n (c.P.cellsOf e) gs=true) (hn:n≤maxLen):dR c A o (.slice (c.P.cellsOf e) gs) :=
 .same fun a w D E hs=>by
  have h1:=cj hs hy;rw[h] at h1;obtain ⟨b,off,cs,h2,h3,h4⟩:=qd h1;simp only[ah] at h4;obtain ⟨e1,e2⟩:=qM hev;by_cases h0:n=0
  ·exact ⟨.slice (some ⟨b,off,none⟩) 0 0,by simp[execOp,ho,h2,Instr.sliceAt,run_underlying hu,Instr.sureAddr,Instr.sliceBounds,ji hi,h0],tr (by omega) (by omega) (by simp[maxLen]) (.inl (List.eq_nil_of_length_eq_zero (by omega))) e2⟩
  ·exact ⟨.slice (some ⟨b,off,none⟩) n n,by simp[execOp,ho,h2,Instr.sliceAt,run_underlying hu,Instr.sureAddr,Instr.sliceBounds,ji hi,m3],tr e1.symm (zz7 _) hn (.inr ⟨b,off,cs,rfl,h3,h4⟩) e2⟩
theorem agd{t e:TypeId}{y:Operand}{y':aJ}{n m:Nat}{p:List Nat}{i:TypeInfo}{gs:List I}(ho:o.op=.slice t y none none none)(hu:c.P.underlying t=some (.array n e))(hi:c.P.info? e=some i)
  (hy:bB c.P 0 y=some y') (h:af A y'=.ptr m p) (hd:cB A (.ptr m p)=some (.agg gs)) (hev:iz n (c.P.cellsOf e) gs=true) (hn:n≤maxLen) (hn0:n≠0):dR c A o (.view m p (c.P.cellsOf e) 0 n) :=
 .same fun a w D E hs=>by
  have h1:=cj hs hy;rw[h] at h1;obtain ⟨b,aO,off,h2,h3,h4⟩:=oP h1;obtain ⟨zz,b',cs,T,off',c1,c2,c3,k1,k2,_,k3,k4,k5,k6,k7,k8,k9,_⟩:=hs.at hd;rw[k2] at h2;simp only[u8,bR.aA.injEq] at h2;obtain ⟨rfl,rfl⟩:=h2;obtain ⟨e1,e2⟩:=qM hev;refine ⟨.slice (some ⟨b',off,none⟩) n n,by simp[execOp,ho,h4,Instr.sliceAt,run_underlying hu,Instr.sureAddr,Instr.sliceBounds,ji hi,m3],?_⟩;refine ⟨_,by simp[bD,I.isAgg];rfl,?_⟩;simp only[ah];refine ⟨b',zz.aO,off,I.cX gs,k2,h3,mW p zz _ k4,?_,?_,?_,?_⟩
  ·rw[I.dw,zy2,e1];simp
  ·rw[I.dw,zy2,e1];exact hn
  ·rw[I.dw,zy2,e1];omega
  ·rw[I.dw];intro s hs';obtain ⟨f,hf,rfl⟩:=zx4.1 hs';rw[I.l4];exact e2 f hf
theorem ajk{w:World}{D:aM}{E:aW}{b off sz:Nat}{cs:List Value}{es:List I}(h1:gL w D b off cs)(h2:aI w D E es cs)(h3:∀ e∈es,e.size=sz)(l h:Nat)(hl:l≤h)(hh:h≤es.length) :
  ∃ c2,gL w D b (off+l*sz) c2∧aI w D E ((es.take h).drop l) c2:=by
 have hspl:∀ (xs ys:List I) (cs:List Value),aI w D E (xs++ys) cs→∃ c1 c2,cs=c1++c2∧aI w D E xs c1∧aI w D E ys c2:=by
  intro xs
  induction xs with
  |nil=>intro ys cs hr;exact ⟨[],cs,rfl,by simp[aI],hr⟩
  |cons x xs ih =>
   intro ys cs hr;simp only[zy0,aI] at hr;obtain ⟨d1,d2,rfl,k1,k2⟩:=hr;obtain ⟨e1,e2,rfl,k3,k4⟩:=ih ys d2 k2;exact ⟨d1++e1,e2,by simp,by simp only[aI];exact ⟨d1,e1,rfl,k1,k3⟩,k4⟩
 have e1:es=es.take l++((es.take h).drop l++es.drop h):=by
  rw[←zz3]
  conv=>lhs;rw[←zx2 h es]
  congr 1
  rw[←List.akp l h es hl]
 rw[e1] at h2;obtain ⟨c1,c',rfl,k1,k2⟩:=hspl _ _ _ h2;obtain ⟨c2,c3,rfl,k3,k4⟩:=hspl _ _ _ k2;refine ⟨c2,?_,k3⟩;rw[←oT es l h3 (by omega),←aI.length _ _ k1];rw[←zz3] at h1;exact tZ h1
 where
 List.akp {α:Type} (l h:Nat) (es:List α) (hl:l≤h):es.take h=es.take l++(es.take h).drop l:=by
  conv=>lhs;rw[←zx2 l (es.take h)]
  rw[List.take_take,Nat.min_eq_left hl]
def iH(w:World)(D:aM)(E:aW)(x:Option I)(v:Option Value):Prop:=match x,v with
 |none,none=>True
 |some x,some v=>aV w D E x v
 |_,_=>False
theorem Q2{x:I}{d n:Int}(h:iv (some x) d=some n):∃ k,x=.int k n:=by
 cases x <;>simp[iv] at h
 subst h;exact ⟨_,rfl⟩
theorem ry{w:World}{D:aM}{E:aW}{x:Option I}{v:Option Value}{d n:Int}(h:iH w D E x v)(hb:iv x d=some n) :
  (x=none∧v=none∧d=n)∨(x.isSome=true∧∃ k,v=some (.int k n)):=by
 cases x with
 |none =>
  cases v with
  |some _=>simp[iH] at h
  |none=>simp only[iv,u8] at hb;exact .inl ⟨rfl,rfl,hb⟩
 |some x =>
  cases v with
  |none=>simp[iH] at h
  |some v =>
   obtain ⟨k,rfl⟩:=Q2 hb;simp only[iH] at h;exact .inr ⟨rfl,k,by rw[(fu h).1]⟩
theorem yJ{P:Program}{w:World}{D:aM}{E:aW}{t e:TypeId}{i:TypeInfo}{sz:Nat}{es:List I}{lo hi mx:Option I}{vlo vhi vmx:Option Value}{x:I}{ad:Option Addr}{cap:Nat}
  (hu:P.underlying t=some (.slice e)) (hi':P.info? e=some i) (hsz:sz=P.cellsOf e) (hmh:mx.isSome=true→hi.isSome=true)
  (h1:iH w D E lo vlo) (h2:iH w D E hi vhi) (h3:iH w D E mx vmx) (hx:j5 sz es lo hi mx=some x)
  (hcap:es.length≤cap) (hcm:cap≤maxLen) (hes:es=[]∨∃ b off cs,ad=some ⟨b,off,none⟩∧gL w D b off cs∧aI w D E es cs) (hall:∀ e∈es,e.size=sz) :
  ∃ v,(Instr.sliceAt t (.slice ad es.length cap) vlo vhi vmx).run P w=.ok v w∧aV w D E x v:=by
 unfold j5 at hx;split at hx
 ·cases hx
 rename_i h hh;split at hx
 ·cases hx
 rename_i m hm;split at hx
 ·cases hx
 rename_i l hl;split at hx
 case isFalse=>cases hx
 rename_i hb;obtain ⟨b1,b2,b3,b4⟩:=hb;have sb:∀ (k:IntKind) (n:Int) (y:Nat) (code:BoundsCode),0≤n→n≤y→(Instr.sliceBound (.int k n) y code).run P w=.ok n.toNat w:=fun k n y code g1 g2=>by
  simp[Instr.sliceBound,asIntOf,g1,g2]
 -- the bounds that the program finds
 have key:∃ m':Nat,es.length≤cap∧m'≤cap∧h.toNat≤m'∧(mx.isSome=true→m'=m.toNat)∧(mx=none→m'=cap) ∧
   (Instr.sliceBounds true es.length cap vlo vhi vmx).run P w=.ok (l.toNat,h.toNat,m') w:=by
  have c1:=ry h1 hl;have c2:=ry h2 hh;have c3:=ry h3 hm;clear h1 h2 h3;rcases c3 with ⟨rfl,rfl,hm3⟩ | ⟨s3,k3,rfl⟩
  ·refine ⟨cap,hcap,zz7 _,by omega,fun e=>(by cases e),fun _=>rfl,?_⟩;rcases c2 with ⟨rfl,rfl,hm2⟩ | ⟨s2,k2,rfl⟩ <;>rcases c1 with ⟨rfl,rfl,hm1⟩ | ⟨s1,k1,rfl⟩
   ·subst hm1 hm2;simp[Instr.sliceBounds]
   ·subst hm2;simp[Instr.sliceBounds,sb k1 l es.length _ b1 (by omega)]
   ·subst hm1;simp[Instr.sliceBounds,sb k2 h cap _ (by omega) (by omega)]
   ·simp[Instr.sliceBounds,sb k2 h cap _ (by omega) (by omega),sb k1 l h.toNat _ b1 (by omega)]
  ·refine ⟨m.toNat,hcap,by omega,by omega,fun _=>rfl,fun e=>(by rw[e] at s3;cases s3),?_⟩;rcases c2 with ⟨rfl,rfl,hm2⟩ | ⟨s2,k2,rfl⟩
   ·simp[s3] at hmh
   ·rcases c1 with ⟨rfl,rfl,hm1⟩ | ⟨s1,k1,rfl⟩
    ·subst hm1;simp[Instr.sliceBounds,sb k3 m cap _ (by omega) (by omega),sb k2 h m.toNat _ (by omega) (by omega)]
    ·simp[Instr.sliceBounds,sb k3 m cap _ (by omega) (by omega),sb k2 h m.toNat _ (by omega) (by omega),sb k1 l h.toNat _ b1 (by omega)]
 obtain ⟨m',g1,g2,g3,g4,g5,hsb⟩:=key;have hrun:(Instr.sliceAt t (.slice ad es.length cap) vlo vhi vmx).run P w =
   .ok (.slice (if m'=l.toNat then ad else ad.map (·.add (l.toNat*P.cellsOf e))) (h.toNat-l.toNat) (m'-l.toNat)) w:=by
  simp only[Instr.sliceAt,Instr.slice,Sem.run_bind,run_underlying hu,Result.andThen_ok,hsb,ji hi',Sem.run_pure]
 refine ⟨_,hrun,?_⟩;split at hx
 ·rename_i hc;simp only[u8] at hx;subst hx;have e1:m'=l.toNat:=by rw[g4 hc.1,hc.2]
  have e2:h.toNat-l.toNat=0:=by omega
  rw[if_pos e1,e2,e1,Nat.sub_self];exact ⟨_,by simp[bD,I.isAgg];rfl,by simp only[ah];exact ⟨ad,rfl⟩⟩
 ·simp only[u8] at hx;subst hx;have hlen:((es.take h.toNat).drop l.toNat).length=h.toNat-l.toNat:=by simp;omega
  refine tr hlen.symm (by omega) (by omega) ?_ (fun y hy=>hall y (List.mem_of_mem_take (List.mem_of_mem_drop hy)));by_cases hz:h.toNat=l.toNat
  ·left;exact List.eq_nil_of_length_eq_zero (by omega)
  ·right
   rw[if_neg (by omega)];rcases hes with rfl | ⟨b,off,cs,rfl,q1,q2⟩
   ·simp at b4 g3;omega
   ·obtain ⟨c2,q3,q4⟩:=ajk q1 q2 hall l.toNat h.toNat (by omega) (by omega);exact ⟨b,off+l.toNat*sz,c2,by simp[m3,hsz],q3,q4⟩
theorem w0{t e:TypeId}{y:Operand}{y':aJ}{lo hi mx:Option Operand}{lo' hi' mx':Option aJ}{i:TypeInfo}{es:List I}(ho:o.op=.slice t y lo hi mx)(hu:c.P.underlying t=some (.slice e))(hi0:c.P.info? e=some i)
  (hy:bB c.P 0 y=some y') (h1:iS c.P lo=some lo') (h2:iS c.P hi=some hi') (h3:iS c.P mx=some mx') (hmh:mx'.isSome=true→hi'.isSome=true)
  (h:af A y'=.slice (c.P.cellsOf e) es∨(af A y'=.nils (c.P.cellsOf e)∧es=[])∨(af A y'=.c0 (c.P.cellsOf e)∧es=[])) (hx:j5 (c.P.cellsOf e) es (lo'.map (af A)) (hi'.map (af A)) (mx'.map (af A))=some x):dR c A o x :=
 .same fun a w D E hs=>by
  have opt:∀ {q:Option Operand} {q':Option aJ},iS c.P q=some q'→iH w D E (q'.map (af A)) (q.map a.eval):=by
   intro q q' hq;cases q with
   |none=>simp only[iS,u8] at hq;subst hq;simp[iH]
   |some z =>
    simp only[iS,zz0] at hq;obtain ⟨z',hz,rfl⟩:=hq;simpa[iH] using cj hs hz
  have h0:=cj hs hy;have hmh':(mx'.map (af A)).isSome=true→(hi'.map (af A)).isSome=true:=by simpa using hmh
  rcases h with h | ⟨h,rfl⟩ | ⟨h,rfl⟩
  ·rw[h] at h0;obtain ⟨ad,cap,e1,e2,e3,e4,e5⟩:=nN h0;obtain ⟨v,k1,k2⟩:=yJ hu hi0 rfl hmh' (opt h1) (opt h2) (opt h3) hx e2 e3 e4 e5;exact ⟨v,by simp only[execOp,ho,e1,Sem.run_bind,k1];rfl,k2⟩
  ·rw[h] at h0;obtain ⟨cs,q1,q2⟩:=h0;simp only[ah] at q2;have e1:a.eval y=.slice none ([]:List I).length 0:=by simpa[bD,I.isAgg,q2] using q1.symm
   obtain ⟨v,k1,k2⟩:=yJ (ad:=none) (cap:=0) hu hi0 rfl hmh' (opt h1) (opt h2) (opt h3) hx (by simp) (by simp[maxLen]) (.inl rfl) (by simp);exact ⟨v,by simp only[execOp,ho,e1,Sem.run_bind,k1];rfl,k2⟩
  ·rw[h] at h0;obtain ⟨cs,q1,q2⟩:=h0;simp only[ah] at q2;obtain ⟨ad,q2⟩:=q2;have e1:a.eval y=.slice ad ([]:List I).length 0:=by simpa[bD,I.isAgg,q2] using q1.symm
   obtain ⟨v,k1,k2⟩:=yJ (ad:=ad) (cap:=0) hu hi0 rfl hmh' (opt h1) (opt h2) (opt h3) hx (by simp) (by simp[maxLen]) (.inl rfl) (by simp);exact ⟨v,by simp only[execOp,ho,e1,Sem.run_bind,k1];rfl,k2⟩
end
inductive fU {α β:Type} (R:α→β→Prop):List α→List β→Prop where
 |nil:fU R [] []
 |cons {x:α} {y:β} {xs:List α} {ys:List β} : R x y→fU R xs ys→fU R (x::xs) (y::ys)
section
variable {c:cS} {A:ae} {o:Oper} {x:I}
theorem ajj{w:World}{D:aM}{E:aW}{xs:List I}{cs ds:List Value}{i:Nat}{x y:I}(h:aI w D E xs cs)(hx:xs[i]?=some x)(hy:ah w D E y ds)(hs:y.size=x.size) :
  I.sizes (xs.take i)+ds.length≤cs.length∧aI w D E (xs.set i y) (cs.take (I.sizes (xs.take i))++ds++cs.drop (I.sizes (xs.take i)+ds.length)):=by
 obtain ⟨c1,c2,c3,rfl,h1,h2,h3,h4⟩:=mN xs cs i x h hx;have hi:i<xs.length:=(zy5.1 hx).1;have hl:ds.length=c2.length:=by rw[ah.length _ _ hy,ah.length _ _ h3,hs]
 refine ⟨by simp only[zz5,h1];omega,?_⟩;have e1:xs.set i y=xs.take i++y::xs.drop (i+1):=by rw[List.set_eq_take_append_cons_drop];simp[hi]
 have e2:(c1++c2++c3).take (I.sizes (xs.take i))++ds++(c1++c2++c3).drop (I.sizes (xs.take i)+ds.length)=c1++(ds++c3):=by
  rw[←h1,hl,zz3 c1 c2 c3,List.take_left,List.drop_length_add_append,List.drop_left,zz3]
 rw[e1,e2];refine ky _ _ _ _ h2 ?_;simp only[aI];exact ⟨ds,c3,rfl,hy,h4⟩
theorem YS(off:Nat)(l:List Value)(cs:Array Value)(h:off+l.length≤cs.size) :
  ((l.zipIdx 0).foldl (fun cs (x:Value×Nat)=>cs.setIfInBounds (off+x.2) x.1) cs).toList=cs.toList.take off++l++cs.toList.drop (off+l.length):=by
 obtain ⟨h1,h2⟩:=Great.foldl_set off l 0 cs;apply List.ext_getElem?;intro k;rw[zv3,h2 k];simp only[Nat.add_zero,zz3];by_cases hk:k<off
 ·rw[if_neg (by omega),zy7 (by simp;omega)];simp[hk]
 ·rw[zx7 (by simp;omega)];simp only[zx3,zv1,Nat.min_eq_left (show off≤cs.size by omega)];by_cases hk2:k<off+l.length
  ·rw[if_pos ⟨by omega,by omega,by omega⟩,zy7 (by omega)]
  ·rw[if_neg (by omega),zx7 (by omega)];simp only[List.getElem?_drop,zv3]
   congr 1
   omega
theorem vH{w:World}{D:aM}{E:aW}(pl:Nat→Option (Nat×Nat)):∀ (ps:List (Nat×I)) (vs:List (Nat×Value)) (zs zs':List I) (cells:Array Value),
  (∀ i z,zs[i]?=some z→pl i=some (I.sizes (zs.take i),z.size))→aI w D E zs cells.toList→dX zs ps=some zs' →
  fU (fun (p:Nat×I) (v:Nat×Value)=>p.1=v.1∧aV w D E p.2 v.2) ps vs →
  ∃ cells',Instr.fill pl cells vs=some cells'∧aI w D E zs' cells'.toList
 | [],vs,zs,zs',cells,hp,hr,hs,hf=>by
  cases hf;simp only[dX,u8] at hs;subst hs;exact ⟨cells,rfl,hr⟩
 |(i,y)::ps,vs,zs,zs',cells,hp,hr,hs,hf=>by
  cases hf with
  |cons h1 h2 =>
   rename_i v vs;obtain ⟨j,u⟩:=v;simp only at h1;obtain ⟨rfl,hv⟩:=h1;simp only[dX] at hs;split at hs
   ·rename_i z hz;split at hs
    ·rename_i hsz;obtain ⟨hval,hsz⟩:=hsz;obtain ⟨ds,k1,k2⟩:∃ ds,bD y u ds∧ah w D E y ds:=by
      cases y <;>simp[I.b8] at hval <;>exact hv
     have hcells:=k1.cells k2;have hds:u.cells.size=z.size:=by rw[←zv1,hcells,ah.length _ _ k2,hsz]
     obtain ⟨k3,k4⟩:=ajj hr hz k2 hsz;have hcl:cells.toList.length=cells.size:=zv1;have hl:ds.length=u.cells.size:=by rw[←hcells,zv1]
     have hp':∀ k z',(zs.set i y)[k]?=some z'→pl k=some (I.sizes ((zs.set i y).take k),z'.size):=by
      intro k z' hk;have hil:i<zs.length:=(zy5.1 hz).1;have hsizes:∀ k,I.sizes ((zs.set i y).take k)=I.sizes (zs.take k):=by
       intro k;have gen:∀ (zs:List I) (i k:Nat) (z:I),zs[i]?=some z→z.size=y.size→I.sizes ((zs.set i y).take k)=I.sizes (zs.take k):=by
        intro zs
        induction zs with
        |nil=>intro i k z hz _;simp at hz
        |cons q qs ih =>
         intro i k z hz he;cases k with
         |zero=>simp
         |succ k =>
          cases i with
          |zero =>
           simp only[List.getElem?_cons_zero,u8] at hz;subst hz;simp[I.sizes,he]
          |succ i =>
           simp only[List.set_cons_succ,List.take_succ_cons,I.sizes,ih i k z (by simpa using hz) he]
       exact gen zs i k z hz hsz.symm
      rw[hsizes];rw[List.getElem?_set] at hk;split at hk
      ·rename_i hik;subst hik;simp only[u8] at hk;subst hk;rw[hp i z hz,hsz]
      ·exact hp k z' hk
     have hfold:=YS (I.sizes (zs.take i)) u.cells.toList cells (by rw[hcells];omega);rw[hcells] at hfold;obtain ⟨cells',k5,k6⟩:=vH pl ps vs (zs.set i y) zs' ((u.cells.toList.zipIdx 0).foldl (fun cs (x:Value×Nat)=>cs.setIfInBounds (I.sizes (zs.take i)+x.2) x.1) cells) hp'
      (by rw[hcells,hfold];exact k4) hs h2
     refine ⟨cells',?_,k6⟩;unfold Instr.fill;simp only[hp i z hz];rw[if_neg (by simp[hds];omega)];rw[←k5]
     congr 1
     rw[←Array.foldl_toList,Array.toList_zipIdx]
    ·cases hs
   ·cases hs
theorem La{a:Act}{w:World}{D:aM}{E:aW}(hs:aS c A a w D E){P:Program} : ∀ (ps:List (Nat×Operand)) (qs:List (Nat×aJ)),ly P ps=some qs →
  fU (fun (p:Nat×I) (v:Nat×Value)=>p.1=v.1∧aV w D E p.2 v.2) (qs.map fun p=>(p.1,af A p.2)) (ps.map fun p=>(p.1,a.eval p.2))
 | [],qs,h=>by simp[ly] at h;subst h;exact .nil
 |(i,x)::ps,qs,h=>by
  simp only[ly,List.mapM_cons,Option.bind_eq_bind,Option.pure_def,Option.bind_eq_some_iff,zz0,u8] at h;obtain ⟨_,⟨y,hy,rfl⟩,qs',hq,rfl⟩:=h;exact .cons ⟨rfl,cj hs hy⟩ (La hs ps qs' hq)
theorem Jm{t:TypeId}{parts:Array (Nat×Operand)}{ps:List (Nat×aJ)}{zs zs':List I}(ho:o.op=.build t parts)(hz:fY c.P t=some (.agg zs))(hp:ly c.P parts.toList=some ps)
  (hpl:(∃ fs,c.P.underlying t=some (.struct fs)∧(fs.toList.map fun f=>(f.offset,c.P.cellsOf f.type))=lV 0 zs∧(fs.all fun f=>(c.P.info? f.type).isSome)=true) ∨
   (∃ n e,c.P.underlying t=some (.array n e)∧zs.length=n∧(zs.all fun z=>z.size==c.P.cellsOf e)=true∧(c.P.info? e).isSome=true))
  (h:dX zs (ps.map fun p=>(p.1,af A p.2))=some zs'):dR c A o (.agg zs') :=
 .same fun a w D E hs=>by
  obtain ⟨i,z,hi,hzv,hzr⟩:=l7 hz;have hzr:=hzr w D E;simp only[ah] at hzr;have hparts:=La hs parts.toList ps hp;have hmap:(parts.map fun (q:Nat×Operand)=>(q.1,a.eval q.2)).toList=parts.toList.map fun p=>(p.1,a.eval p.2):=by simp
  rcases hpl with ⟨fs,hu,hoffs,hinfo⟩ | ⟨n,e,hu,hn,hev,hinfo⟩
  ·have hpl:∀ i z,zs[i]?=some z→(lV 0 zs)[i]?=some (I.sizes (zs.take i),z.size):=by
    intro i z hiz;rw[Lf,hiz];simp
   obtain ⟨cells',k1,k2⟩:=vH ((lV 0 zs)[·]?) _ _ zs zs' z.cells hpl hzr h hparts;have hm:fs.toList.mapM (fun f=>(c.P.info? f.type).map fun i=>(f.offset,i.size))=some (lV 0 zs):=by
    rw[←hoffs];have hall:∀ f∈fs.toList,(c.P.info? f.type).isSome=true:=fun f hf=>by
     have:=(Array.all_eq_true_iff_forall_mem.1 hinfo) f (by simpa using hf);exact this
    revert hall;generalize fs.toList=l;intro hall
    induction l with
    |nil=>rfl
    |cons f l ih =>
     obtain ⟨j,hj⟩:=zw0.1 (hall f (by simp));simp only[List.mapM_cons,Option.bind_eq_bind,hj,zy4,Option.bind_some,ih (fun g hg=>hall g (by simp[hg])),Option.pure_def,zz9,Program.cellsOf,Option.getD_some]
   have hb:c.P.built t (parts.map fun (q:Nat×Operand)=>(q.1,a.eval q.2)).toList=some cells':=by
    unfold Program.built;simp only[hi,hu,hzv,hm];rw[hmap,←k1]
    congr 1
    funext k
    simp
   exact ⟨.agg cells',by simp only[execOp,ho,Sem.run_bind,run_build w t _ _ hb];rfl,by have:=Kg k2;simpa using this⟩
  ·obtain ⟨ie,hie⟩:=zw0.1 hinfo;have hev':∀ z∈zs,z.size=ie.size:=fun z hz=>by
    have:=zy8.1 hev z hz;simpa[Program.cellsOf,hie] using this
   have hpl:∀ i z,zs[i]?=some z→(fun i=>some (i*ie.size,ie.size)) i=some (I.sizes (zs.take i),z.size):=by
    intro i z hiz;have hl:i<zs.length:=(zy5.1 hiz).1;rw[oT zs i hev' (by omega),hev' z (List.mem_of_getElem? hiz)]
   obtain ⟨cells',k1,k2⟩:=vH (fun i=>some (i*ie.size,ie.size)) _ _ zs zs' z.cells hpl hzr h hparts;have hb:c.P.built t (parts.map fun (q:Nat×Operand)=>(q.1,a.eval q.2)).toList=some cells':=by
    unfold Program.built;simp only[hi,hu,hzv,hie];rw[hmap,←k1]
   exact ⟨.agg cells',by simp only[execOp,ho,Sem.run_bind,run_build w t _ _ hb];rfl,by have:=Kg k2;simpa using this⟩
theorem ph{a:Act}{w:World}{D:aM}{E:aW}(hs:aS c A a w D E){P:Program} : ∀ (xs:List Operand) (ts:List TypeId) (ys:List aJ),mh P xs ts=some ys →
  fU (aV w D E) (ys.map (af A)) (xs.map a.eval)
 | [],_,ys,h=>by simp[mh] at h;subst h;exact .nil
 |x::xs,ts,ys,h=>by
  simp only[mh] at h;split at h
  ·rename_i y ys' h1 h2;simp only[u8] at h;subst h;exact .cons (cj hs h1) (ph hs xs _ ys' h2)
  ·cases h
theorem mT{w:World}{D:aM}{E:aW} : ∀ (xs:List I) (vs:List Value),fU (aV w D E) xs vs→(∀ x∈xs,x.b8=true)→aG w D E xs vs
 | [],vs,h,_=>by cases h;simp[aG]
 |x::xs,vs,h,hv=>by
  cases h with
  |cons h1 h2 =>
   rename_i v vs;have hx:=hv x (by simp);obtain ⟨cs,k1,k2⟩:∃ cs,bD x v cs∧ah w D E x cs:=by
    cases x <;>simp[I.b8] at hx <;>exact h1
   simp only[aG];exact ⟨v,vs,cs,rfl,k1,k2,mT xs vs h2 (fun y hy=>hv y (by simp[hy]))⟩
theorem qP{aA:Bool}{B:ae} : ∀ {xs ys:List I},bZ aA B xs=some ys→∀ x∈xs,x.b8=true
 | [],ys,_,x,hx=>by simp at hx
 |y::xs,ys,h,x,hx=>by
  simp only[bZ] at h;split at h
  ·rename_i z zs h1 h2;rcases zw4.1 hx with rfl | hx
   ·cases x <;>simp_all[a7,I.b8]
   ·exact qP h2 x hx
  ·cases h
theorem af7{f:FuncId}{caps:Array Operand}{ys:List aJ}(ho:o.op=.makeFunc (.func f) #[] caps)(hc:mh c.P caps.toList []=some ys)(hv:∀ y∈ys,(af A y).b8=true):dR c A o (.func f (ys.map (af A))) :=
 .same fun a w D E hs=>by
  have h:=mT _ _ (ph hs caps.toList [] ys hc) (by simpa using hv);have e:caps.map a.eval=(caps.toList.map a.eval).toArray:=by apply Array.ext';simp
  refine ⟨.func (.func f) #[] (caps.toList.map a.eval).toArray,by simp[execOp,ho,Instr.makeFunc,e],⟨_,by simp[bD,I.isAgg];rfl,?_⟩⟩;simp only[ah];exact ⟨_,rfl,h⟩
theorem NF{w:World}{D:aM}{E:aW} : ∀ (xs:List I) (vs:List Value),aG w D E xs vs→aI w D E xs (vs.flatMap fun v=>v.cells.toList)∧vs.length=xs.length∧∀ (sz:Nat),(∀ x∈xs,x.size=sz)→∀ v∈vs,v.cells.size=sz
 | [],vs,h=>by simp only[aG] at h;subst h;simp[aI]
 |x::xs,vs,h=>by
  simp only[aG] at h;obtain ⟨v,rest,cs,rfl,h1,h2,h3⟩:=h;obtain ⟨k1,k2,k3⟩:=NF xs rest h3;have hc:=h1.cells h2;refine ⟨?_,by simp[k2],fun sz hsz u hu =>?_⟩
  ·simp only[List.flatMap_cons,aI];exact ⟨_,_,rfl,by rw[hc];exact h2,k1⟩
  ·rcases zw4.1 hu with rfl | hu
   ·rw[←zv1,hc,ah.length _ _ h2,hsz x (by simp)]
   ·exact k3 sz (fun y hy=>hsz y (by simp[hy])) u hu
def oN(A:ae)(D:aM)(E:aW):aM:=fun b o=>D b o∨∃ n T sz es cap,A.o n=some (.bX T sz es)∧E n=some (.rw (some (b,cap)) es.length)∧o<es.length*sz
theorem aS.oS{a:Act}{w:World}{D:aM}{E:aW}(h:aS c A a w D E):aS c A a w (oN A D E) E∧ir false A D E (oN A D E):=by
 have hblk:∀ {n T sz es b cap},A.o n=some (.bX T sz es)→E n=some (.rw (some (b,cap)) es.length)→c.fj b∧b<w.heap.size:=by
  intro n T sz es b cap hn aw;obtain ⟨aE,k1,k2,k3⟩:=h.bX hn;rw[aw] at k1;simp only[u8,bR.rw.injEq,and_true] at k1;subst k1;obtain ⟨cs,pre,rest,k4,k5,_⟩:=k3;exact ⟨k4,fW k5⟩
 refine ⟨h.Ox (fun _ _ hd=>.inl hd) ?_ ?_ ?_ ?_ ?_ ?_,⟨fun _ _ hd=>.inl hd,fun n T sz es b cap hn aw o ho=>.inr ⟨n,T,sz,es,cap,hn,aw,ho⟩,(fun hb=>by cases hb),fun hb=>by cases hb⟩⟩
 ·rintro b o (hd | ⟨n,T,sz,es,cap,hn,aw,ho⟩) hlt
  ·exact h.da _ _ hd hlt
  ·exact absurd (hblk hn aw).1 hlt
 ·rintro b o (hd | ⟨n,T,sz,es,cap,hn,aw,ho⟩)
  ·exact h.dq _ _ hd
  ·exact (hblk hn aw).2
 ·rintro m x b hm hEm o (hd | ⟨n,T,sz,es,cap,hn,aw,ho⟩)
  ·obtain ⟨b2,cs2,T2,q1,q2,q3,q4,q5⟩:=h.box hm;rw[q1] at hEm;simp only[u8,bR.aA.injEq,and_true] at hEm;subst hEm;exact q5 o hd
  ·have:=h.cU m n _ _ b hEm aw rfl rfl;subst this;rw[hm] at hn;cases hn
 ·rintro m T' sz' es' b cap' hm hEm o (hd | ⟨n,T,sz,es,cap,hn,aw,ho⟩)
  ·obtain ⟨aE,q1,q2,q3⟩:=h.bX hm;rw[hEm] at q1;simp only[u8,bR.rw.injEq,and_true] at q1;subst q1;obtain ⟨cs',pre',rest',q4,q5,q6,q7,q8,q9,q10,q11⟩:=q3;have:=q11 o hd
   rwa [aI.length _ _ q7,I.iK _ q2] at this
  ·have:=h.cU m n _ _ b hEm aw rfl rfl;subst this;rw[hm] at hn;simp only[u8,ai.bX.injEq] at hn;obtain ⟨rfl,rfl,rfl⟩:=hn;exact ho
 ·rintro m T' xs b cap' hm hEm o (hd | ⟨n,T,sz,es,cap,hn,aw,ho⟩)
  ·obtain ⟨aE,q1,_,q3⟩:=h.rR hm;rw[hEm] at q1;simp only[u8,bR.rw.injEq,and_true] at q1;subst q1;obtain ⟨_,_,_,_,_,_,_,_,q4⟩:=q3;exact q4 o hd
  ·have:=h.cU m n _ _ b hEm aw rfl rfl;subst this;rw[hm] at hn;cases hn
 ·rintro m e' b hE' hoth hblk o (hd | ⟨n,T,sz,es,cap,hn,aw,ho⟩)
  ·exact h.yh hE' hoth hblk o hd
  ·have:=h.cU m n _ _ b hE' aw hblk rfl;subst this;rw[hE'] at aw;cases aw;cases hoth
theorem Lb{a:Act}{w:World}{D:aM}{E:aW}(hs:aS c A a w D E){P:Program} : ∀ (ps:List (Nat×Operand)) (qs:List (Nat×aJ)),ly P ps=some qs →
  fU (aV w D E) ((qs.map (·.2)).map (af A)) (ps.map fun p=>a.eval p.2)∧qs.map (·.1)=ps.map (·.1)
 | [],qs,h=>by simp[ly] at h;subst h;exact ⟨.nil,rfl⟩
 |(i,x)::ps,qs,h=>by
  simp only[ly,List.mapM_cons,Option.bind_eq_bind,Option.pure_def,Option.bind_eq_some_iff,zz0,u8] at h;obtain ⟨_,⟨y,hy,rfl⟩,qs',hq,rfl⟩:=h;obtain ⟨h1,h2⟩:=Lb hs ps qs' hq;exact ⟨.cons (cj hs hy) h1,by simp[h2]⟩
theorem aS.newRow{a:Act}{w:World}{D:aM}{E:aW}(h:aS c A a w D E)(o:Obj):aS c A a (w.alloc o) (fun b k=>D b k∨b=w.heap.size) E:=by
 refine h.grow (sm w o) (fun _ _ hd=>.inl hd) ?_ ?_
 ·rintro b k (hd | rfl) hlt
  ·exact hd
  ·omega
 ·rintro b k (hd | rfl)
  ·have:=h.dq _ _ hd;simp;omega
  ·simp
theorem akQ{α:Type}(ps:List (Nat×α))(h:ps.map (·.1)=List.range ps.length):ps=((ps.map (·.2)).zipIdx 0).map fun x=>(x.2,x.1):=by
 apply List.ext_getElem?;intro k;rw[zw2,List.getElem?_zipIdx,zw2];cases hk:ps[k]? with
 |none=>simp
 |some p =>
  have hl:k<ps.length:=(zy5.1 hk).1;have:=congrArg (·[k]?) h;simp only[zw2,hk,zy4,List.getElem?_range hl,u8] at this;simp[←this]
theorem afP{t e:TypeId}{len:Nat}{parts:Array (Nat×Operand)}{ps:List (Nat×aJ)}{es:List I}(ho:o.op=.buildSlice t len parts)(hu:c.P.underlying t=some (.slice e))(hp:ly c.P parts.toList=some ps)
  (hr:ps.map (·.1)=List.range len) (h0:0<c.P.cellsOf e) (hlen:0<len) (hsm:len*c.P.cellsOf e≤16777216) (hz:((c.P.info? e).bind (·.zero)).isSome=true)
  (hes:bZ false A ((ps.map (·.2)).map (af A))=some es) (hev:∀ x∈es,x.size=c.P.cellsOf e) (hcl:I.bW es=true):dR c A o (.slice (c.P.cellsOf e) es):=by
 intro a w D E hs;obtain ⟨hfor,hidx⟩:=Lb hs parts.toList ps hp;obtain ⟨hs1,hw⟩:=hs.oS;have hrv:=mA (E':=E) hs (fun _ _ h=>h) hw _ es _ (mT _ _ hfor (qP hes)) hes;obtain ⟨k1,k2,k3⟩:=NF es _ hrv;have k3:=k3 _ hev;have hl:parts.toList.length=len:=by
  have:=congrArg List.length hidx;rw[hr] at this;simpa using this.symm
 have hesl:es.length=len:=by rw[←k2];simp[hl]
 obtain ⟨z,hz⟩:=zw0.1 hz;obtain ⟨ie,hie,hzz⟩:=Option.bind_eq_some_iff.1 hz;have hsz:ie.size=c.P.cellsOf e:=by simp[Program.cellsOf,hie]
 -- the literal's cells
 have hfill:Instr.fill (fun i=>some (i*ie.size,ie.size)) ((Array.range (len*ie.size)).map (z.cells[· % z.cells.size]!)) (parts.map fun (q:Nat×Operand)=>(q.1,a.eval q.2)).toList =
   some ((parts.toList.map fun p=>a.eval p.2).flatMap fun v=>v.cells.toList).toArray:=by
  have hpz:(parts.map fun (q:Nat×Operand)=>(q.1,a.eval q.2)).toList=((parts.toList.map fun p=>a.eval p.2).zipIdx 0).map fun x=>(x.2,x.1):=by
   have:=akQ (parts.toList.map fun (q:Nat×Operand)=>(q.1,a.eval q.2)) (by simp only[List.map_map,zy2];rw[hl,←hr,hidx];rfl);rw[Array.toList_map,this,List.map_map];rfl
  rw[hpz,hsz];exact Great.fill_whole h0 _ _ (fun v hv=>k3 v hv) (by simp[hl])
 have hrun:=run_buildSlice (P:=c.P) w t e len (parts.map fun (q:Nat×Operand)=>(q.1,a.eval q.2)) _ ie z hu hie hzz (by rw[hsz];omega) (by rw[hsz];exact Nat.ne_of_gt (Nat.mul_pos hlen h0)) hfill;generalize hcells:((parts.toList.map fun p=>a.eval p.2).flatMap fun v=>v.cells.toList)=cells at *;have hs2:=hs1.newRow (.cells cells.toArray e);refine ⟨_,_,_,by simp only[execOp,ho,Sem.run_bind];rw[hrun];rfl,hs2,tr hesl.symm (zz7 _) ?_ (.inr ⟨w.heap.size,0,cells,rfl,?_,?_⟩) hev⟩
 ·unfold maxLen;have:len≤len*c.P.cellsOf e:=Nat.le_mul_of_pos_right _ h0;omega
 ·intro j v hj;refine ⟨?_,.inr rfl⟩;rw[zz4];have:=World.cell?_alloc_new w cells.toArray e j;rw[this];simpa using hj
 ·refine aI.bI ?_ es cells k1;exact dS.grow (sm w _) (fun _ _ hd=>.inl hd)
end
mutual
theorem pB:∀ (ty:cP) (x y:I) (r:Bool),cq ty x y=some r→x.size=ty.size∧y.size=ty.size
 | .i k,x,y,r,h=>by
  simp only[cq] at h;split at h
  ·simp[I.size,cP.size]
  ·cases h
 | .b,x,y,r,h=>by
  simp only[cq] at h;split at h
  ·simp[I.size,cP.size]
  ·cases h
 | .s,x,y,r,h=>by
  simp only[cq] at h;split at h
  ·simp[I.size,cP.size]
  ·cases h
 | .bl l,x,y,r,h=>by
  simp only[cq] at h;split at h
  ·simp only[I.size,cP.size];exact CZ l _ _ r h
  ·cases h
 | .kG n e,x,y,r,h=>by
  simp only[cq] at h;split at h
  ·rename_i fs gs;split at h
   ·rename_i hl;simp only[I.size,cP.size];have:∀ (fs gs:List I) (r:Bool),fs.length=gs.length→(fs.zip gs).foldr (fun p acc=>iu (cq e p.1 p.2) acc) (some true)=some r→I.sizes fs=fs.length*e.size∧I.sizes gs=fs.length*e.size:=by
     intro fs
     induction fs with
     |nil=>intro gs r hl _;cases gs with | nil=>simp[I.sizes] | cons _ _=>simp at hl
     |cons f fs ih =>
      intro gs r hl h;cases gs with
      |nil=>simp at hl
      |cons g gs =>
       simp only[List.zip_cons_cons,List.foldr_cons] at h;unfold iu at h;split at h
       ·rename_i a b h1 h2;obtain ⟨k1,k2⟩:=ih gs b (by simpa using hl) h2;obtain ⟨k3,k4⟩:=pB e f g a h1;simp only[I.sizes,List.length_cons,k1,k2,k3,k4,zu0,Nat.one_mul];omega
       ·cases h
    obtain ⟨k1,k2⟩:=this fs gs r (by omega) h;rw[k1,k2,hl.1];exact ⟨rfl,rfl⟩
   ·cases h
  ·cases h
theorem CZ:∀ (l:List cP) (xs ys:List I) (r:Bool),iU l xs ys=some r→I.sizes xs=cP.sizes l∧I.sizes ys=cP.sizes l
 | [],xs,ys,r,h=>by
  simp only[iU] at h;split at h
  ·simp[I.sizes,cP.sizes]
  ·cases h
 |t::ts,xs,ys,r,h=>by
  simp only[iU] at h;split at h
  ·rename_i f fs g gs;unfold iu at h;split at h
   ·rename_i a b h1 h2;obtain ⟨k1,k2⟩:=pB t f g a h1;obtain ⟨k3,k4⟩:=CZ ts fs gs b h2;simp only[I.sizes,cP.sizes,k1,k2,k3,k4];exact ⟨trivial,trivial⟩
   ·cases h
  ·cases h
end
section
variable {P:Program} {w:World} {D:aM} {E:aW}
theorem vz{d:Nat}{t:TypeId}{ty:cP}(h:gE P d t=some ty)(hs:ty.size=P.cellsOf t){x y:I}{r:Bool}(hr:cq ty x y=some r):∃ s,fS P t=some s∧bY s x=true∧bY s y=true:=by
 have hsz:=pB ty x y r hr;cases d with
 |zero=>simp[gE] at h
 |succ d =>
  simp only[gE] at h;split at h
  ·rename_i k hu;simp only[u8] at h;subst h;simp only[cq] at hr;split at hr
   ·exact ⟨none,by simp[fS,hu],by simp[bY,I.isAgg],by simp[bY,I.isAgg]⟩
   ·cases hr
  ·rename_i hu;simp only[u8] at h;subst h;simp only[cq] at hr;split at hr
   ·exact ⟨none,by simp[fS,hu],by simp[bY,I.isAgg],by simp[bY,I.isAgg]⟩
   ·cases hr
  ·rename_i hu;simp only[u8] at h;subst h;simp only[cq] at hr;split at hr
   ·exact ⟨none,by simp[fS,hu],by simp[bY,I.isAgg],by simp[bY,I.isAgg]⟩
   ·cases hr
  ·rename_i fs hu;split at h
   ·simp only[zz0] at h;obtain ⟨l,_,rfl⟩:=h;simp only[cq] at hr;split at hr
    ·exact ⟨some (P.cellsOf t),by simp[fS,hu],by simp[bY,I.isAgg,hsz.1,hs],by simp[bY,I.isAgg,hsz.2,hs]⟩
    ·cases hr
   ·cases h
  ·rename_i n e hu;split at h
   ·split at h
    ·simp only[u8] at h;subst h;simp only[cq] at hr;split at hr
     ·exact ⟨some (P.cellsOf t),by simp[fS,hu],by simp[bY,I.isAgg,hsz.1,hs],by simp[bY,I.isAgg,hsz.2,hs]⟩
     ·cases hr
    ·cases h
   ·cases h
  ·cases h
theorem C1{k:Nat}{g:Field→Option cP}(hg:∀ (f:Field) (ty:cP),g f=some ty→ty.size=P.cellsOf f.type∧∃ d,gE P d f.type=some ty ∧
   ∀ (x y:I) (u v:Value) (r:Bool),aV w D E x u→aV w D E y v→cq ty x y=some r→(Op.equalIn k f.type u v).run P w=.ok r w) :
  ∀ (fs : List Field) (l : List cP) (xs ys : List I) (r : Bool) (c1 c2 d1 d2 : List Value), fs.mapM g = some l → (∀ f ∈ fs, f.name ≠ "_") → p5 P c1.length fs = true → c1.length = d1.length →
   aI w D E xs c2→aI w D E ys d2→iU l xs ys=some r→(Op.eqFields k (c1++c2).toArray (d1++d2).toArray fs).run P w=.ok r w
 | [],l,xs,ys,r,c1,c2,d1,d2,hm,_,_,_,_,_,h=>by
  simp at hm;subst hm;simp only[iU] at h;split at h
  ·simp only[u8] at h;subst h;simp[Op.eqFields]
  ·cases h
 |f::fs,l,xs,ys,r,c1,c2,d1,d2,hm,hn,ho,hl,hx,hy,h=>by
  simp only[List.mapM_cons,Option.bind_eq_bind,Option.pure_def,Option.bind_eq_some_iff,u8] at hm;obtain ⟨ty,hty,tys,htys,rfl⟩:=hm;simp only[iU] at h;split at h
  case h_2=>cases h
  rename_i x xs y ys;unfold iu at h;split at h
  case h_2=>cases h
  rename_i ra rb h1 h2;simp only[u8] at h;subst h;simp only[aI] at hx hy;obtain ⟨e1,e2,rfl,k1,k2⟩:=hx;obtain ⟨f1,f2,rfl,k3,k4⟩:=hy;obtain ⟨hsz,dd,hd,heq⟩:=hg f ty hty;obtain ⟨s,q1,q2,q3⟩:=vz hd hsz h1;obtain ⟨u,p1,p2⟩:=oO (c1:=c1) (c3:=e2) q1 q2 k1;obtain ⟨v,p3,p4⟩:=oO (c1:=d1) (c3:=f2) q1 q3 k3;simp only[p5,zz2,beq_iff_eq] at ho;have hsx:=pB ty x y ra h1;have hle:e1.length=P.cellsOf f.type:=by rw[ah.length _ _ k1,hsx.1,hsz]
  have hlf:f1.length=P.cellsOf f.type:=by rw[ah.length _ _ k3,hsx.2,hsz]
  have ih:=C1 hg fs tys xs ys rb (c1++e1) e2 (d1++f1) f2 htys (fun g hg=>hn g (by simp[hg])) (by simp only[zz5,hle];exact ho.2) (by simp[hl,hle,hlf]) k2 k4 h2;rw[zz3] at p1 p3;rw[zz3,zz3] at ih;rw[←ho.1] at p1;rw[←hl,←ho.1] at p3;simp only[Op.eqFields,hn f (by simp),ne_eq,not_false_eq_true,if_true,Sem.run_bind,p1,Result.andThen_ok,p3,heq x y u v ra p2 p4 h1];cases ra
  ·simp
  ·simpa using ih
theorem C2{d:Nat}{e:TypeId}{ty:cP}{dd:Nat}(hty:gE P dd e=some ty)(hsz:ty.size=P.cellsOf e)
  (heq:∀ (x y:I) (u v:Value) (r:Bool),aV w D E x u→aV w D E y v→cq ty x y=some r→(Op.equalIn d e u v).run P w=.ok r w) :
  ∀ (m k:Nat) (xs ys:List I) (c1 c2 d1 d2:List Value) (r:Bool),xs.length=m→ys.length=m→c1.length=k*P.cellsOf e→d1.length=k*P.cellsOf e→aI w D E xs c2→aI w D E ys d2 →
   (xs.zip ys).foldr (fun p acc=>iu (cq ty p.1 p.2) acc) (some true)=some r→(Op.eqItems d e (P.cellsOf e) (c1++c2).toArray (d1++d2).toArray (List.range' k m)).run P w=.ok r w
 |0,k,xs,ys,c1,c2,d1,d2,r,hx,hy,_,_,_,_,h=>by
  have e1:=List.eq_nil_of_length_eq_zero hx;subst e1;simp only[List.zip_nil_left,List.foldr_nil,u8] at h;subst h;simp[Op.eqItems]
 |m+1,k,xs,ys,c1,c2,d1,d2,r,hx,hy,hc,hd,hrx,hry,h=>by
  cases xs with
  |nil=>simp at hx
  |cons x xs =>
  cases ys with
  |nil=>simp at hy
  |cons y ys =>
  simp only[List.zip_cons_cons,List.foldr_cons] at h;unfold iu at h;split at h
  case h_2=>cases h
  rename_i ra rb h1 h2;simp only[u8] at h;subst h;simp only[aI] at hrx hry;obtain ⟨e1,e2,rfl,k1,k2⟩:=hrx;obtain ⟨f1,f2,rfl,k3,k4⟩:=hry;obtain ⟨s,q1,q2,q3⟩:=vz hty hsz h1;obtain ⟨u,p1,p2⟩:=oO (c1:=c1) (c3:=e2) q1 q2 k1;obtain ⟨v,p3,p4⟩:=oO (c1:=d1) (c3:=f2) q1 q3 k3;have hsx:=pB ty x y ra h1;have hle:e1.length=P.cellsOf e:=by rw[ah.length _ _ k1,hsx.1,hsz]
  have hlf:f1.length=P.cellsOf e:=by rw[ah.length _ _ k3,hsx.2,hsz]
  have ih:=C2 hty hsz heq m (k+1) xs ys (c1++e1) e2 (d1++f1) f2 rb (by simpa using hx) (by simpa using hy) (by simp only[zz5,hle,hc,zu0,Nat.one_mul]) (by simp only[zz5,hlf,hd,zu0,Nat.one_mul]) k2 k4 h2;rw[zz3] at p1 p3;rw[zz3,zz3] at ih;rw[hc] at p1;rw[hd] at p3;simp only[List.range'_succ,Op.eqItems,Sem.run_bind,p1,Result.andThen_ok,p3,heq x y u v ra p2 p4 h1];cases ra
  ·simp
  ·simpa using ih
theorem sI:∀ (d:Nat) (t:TypeId) (ty:cP),gE P d t=some ty→∀ (x y:I) (u v:Value) (r:Bool),aV w D E x u→aV w D E y v→cq ty x y=some r→∀ dep,d≤dep→(Op.equalIn dep t u v).run P w=.ok r w
 |0,t,ty,h,_,_,_,_,_,_,_,_,_,_=>by simp[gE] at h
 |d+1,t,ty,h,x,y,u,v,r,hx,hy,hr,dep,hdep=>by
  obtain ⟨k,rfl⟩:∃ k,dep=k+1:=⟨dep-1,by omega⟩
  simp only[gE] at h;split at h
  ·rename_i kk hu;simp only[u8] at h;subst h;simp only[cq] at hr;split at hr
   ·split at hr
    ·simp only[u8] at hr;subst hr;rw[(fu hx).1,(fu hy).1];rename_i hk;rw[hk.1,hk.2];exact run_equalIn_int w k t kk kk _ _ hu
    ·cases hr
   ·cases hr
  ·rename_i hu;simp only[u8] at h;subst h;simp only[cq] at hr;split at hr
   ·simp only[u8] at hr;subst hr;rw[lZ hx,lZ hy];exact run_equalIn_bool' w k t _ _ hu
   ·cases hr
  ·rename_i hu;simp only[u8] at h;subst h;simp only[cq] at hr;split at hr
   ·simp only[u8] at hr;subst hr;rw[(nO hx).1,(nO hy).1];exact run_equalIn_string w k t _ _ hu
   ·cases hr
  ·rename_i fs hu;split at h
   ·rename_i hc;simp only[zz0] at h;obtain ⟨l,hl,rfl⟩:=h;simp only[cq] at hr;split at hr
    ·obtain ⟨cs,rfl,h1⟩:=jI hx;obtain ⟨ds,rfl,h2⟩:=jI hy;have hf:P.fieldsOf t=fs:=by simp[Program.fieldsOf,hu]
     rw[run_equalIn_struct w k t _ _ (by rw[hf];exact hu) hc.1,hf];refine C1 (g:=fun f=>match gE P d f.type with | some ty=>if ty.size=P.cellsOf f.type then some ty else none | none=>none) (fun f ty hg =>?_) fs.toList l _ _ r [] cs [] ds hl (fun f hf =>?_) hc.2.2 rfl h1 h2 hr
     ·split at hg
      ·rename_i ty' hty;split at hg
       ·rename_i hs;simp only[u8] at hg;subst hg;exact ⟨hs,d,hty,fun x y u v r hx hy hr=>sI d f.type _ hty x y u v r hx hy hr k (by omega)⟩
       ·cases hg
      ·cases hg
     ·have:=zy8.1 hc.2.1 f hf;simpa using this
    ·cases hr
   ·cases h
  ·rename_i n e hu;split at h
   ·rename_i ty' hty;split at h
    ·rename_i hc;simp only[u8] at h;subst h;simp only[cq] at hr;split at hr
     ·split at hr
      ·rename_i hl;obtain ⟨cs,rfl,h1⟩:=jI hx;obtain ⟨ds,rfl,h2⟩:=jI hy;obtain ⟨i,hi⟩:=zw0.1 hc.2;rw[run_equalIn_array w k _ _ hu hi,List.range_eq_range'];exact C2 hty hc.1 (fun x y u v r hx hy hr=>sI d e _ hty x y u v r hx hy hr k (by omega)) n 0 _ _ [] cs [] ds r hl.1 hl.2 (by simp) (by simp) h1 h2 hr
      ·cases hr
     ·cases hr
    ·cases h
   ·cases h
  ·cases h
end
section
variable {c:cS} {A:ae} {o:Oper} {x:I}
theorem ajJ{P:Program}{w:World}{D:aM}{E:aW}(op:BinOp)(t:TypeId)(x y:Operand){a b:I}{ty:cP}{r:Bool}{u v:Value}(hr:cq ty a b=some r)(hx:aV w D E a u)(hm:P.eqGuardType P.depth t=false) :
  (eqGuard op t x y u v).run P w=.ok () w:=by
 have:u.oneCell'=true∧u≠.nilIface∨∃ cs,u=.agg cs:=by
  cases ty <;>simp only[cq] at hr <;>split at hr <;>first
   |(cases hr;done)
   |(left;rw[(fu hx).1];exact ⟨rfl,by simp⟩)
   |(left;rw[lZ hx];exact ⟨rfl,by simp⟩)
   |(left;rw[(nO hx).1];exact ⟨rfl,by simp⟩)
   |(right;obtain ⟨cs,h,_⟩:=jI hx;exact ⟨_,h⟩)
 rcases this with ⟨h1,h2⟩ | ⟨cs,rfl⟩
 ·exact yH op t x y h1 h2
 ·cases op <;>cases v <;>simp[eqGuard,run_program,hm]
theorem Qy{P:Program}{w:World}{D:aM}{E:aW}{neg:Bool}{t:TypeId}{a b:I}{ty:cP}{r:Bool}{u v:Value}(hr:cq ty a b=some r)(hx:aV w D E a u)(hy:aV w D E b v){dt:Nat}(hdt:dt≤10000)(hty:gE P dt t=some ty) :
  (binOp (if neg then .neq else .eql) t u v).run P w=.ok (.bool (if neg then !r else r)) w:=by
 have he:=sI (w:=w) (D:=D) (E:=E) dt t ty hty a b u v r hx hy hr 10000 hdt;cases ty <;>simp only[cq] at hr <;>split at hr <;>first | (cases hr;done) | skip
 ·rw[(fu hx).1,(fu hy).1] at *;split at hr
  ·rename_i hk;simp only[u8] at hr;subst hr;rw[hk.1,hk.2];cases neg <;>simp[binOp,Op.intCmp,bne]
  ·cases hr
 ·have e1:=lZ hx;have e2:=lZ hy;subst e1 e2;cases neg <;>simp only[binOp,if_true,zz6,if_false] <;>simp[Op.equal,Op.maxDepth,he]
 ·rw[(nO hx).1,(nO hy).1] at *;simp only[u8] at hr;subst hr;cases neg <;>simp[binOp,Op.stringOp]
 ·obtain ⟨cs,rfl,_⟩:=jI hx;obtain ⟨ds,rfl,_⟩:=jI hy;cases neg <;>simp only[if_true,zz6,if_false]
  ·rw[run_eql_struct,he];rfl
  ·rw[run_neq_struct,he];rfl
 ·obtain ⟨cs,rfl,_⟩:=jI hx;obtain ⟨ds,rfl,_⟩:=jI hy;cases neg <;>simp only[if_true,zz6,if_false]
  ·rw[run_eql_struct,he];rfl
  ·rw[run_neq_struct,he];rfl
theorem afU{neg:Bool}{t yt:TypeId}{y z:Operand}{y' z':aJ}{ty:cP}{r:Bool}(ho:o.op=.binOp (if neg then .neq else .eql) t y z yt)(hy:bB c.P 0 y=some y')(hz:bB c.P 0 z=some z')(hg:c.P.eqGuardType c.P.depth t=false)
  (hty:gE c.P 12 t=some ty) (h:cq ty (af A y') (af A z')=some r):dR c A o (.bool (if neg then !r else r)) :=
 .same fun a w D E hs=>by
  have h1:=cj hs hy;have h2:=cj hs hz;refine ⟨_,?_,oE _⟩;simp only[execOp,ho,Sem.run_bind,ajJ _ t y z h h1 hg,Result.andThen_ok,Qy h h1 h2 (dt:=12) (by omega) hty];rfl
theorem wZ{neg:Bool}{t yt e:TypeId}{y z:Operand}{y':aJ}{sz:Nat}{r:Bool}(ho:o.op=.binOp (if neg then .neq else .eql) t y z yt)(hu:c.P.underlying t=some (.slice e))(hy:bB c.P 0 y=some y')(hz:bB c.P 0 z=some (.c (.nils sz)))
  (h:(∃ s,af A y'=.nils s∧r=true)∨(∃ s es,af A y'=.slice s es∧es≠[]∧r=false)∨(∃ n p s lo k,af A y'=.view n p s lo k∧r=false)):dR c A o (.bool (if neg then !r else r)) :=
 .same fun a w D E hs=>by
  have h1:=cj hs hy;have h2:aV w D E (.nils sz) (a.eval z):=cj hs hz;have hv:a.eval z=.slice none 0 0:=by
   obtain ⟨cs,q1,q2⟩:=h2;simp only[ah] at q2;simpa[bD,I.isAgg,q2] using q1.symm
  have hu':(∃ ad n cp,a.eval y=.slice ad n cp∧r=ad.isNone):=by
   rcases h with ⟨s,h,rfl⟩ | ⟨s,es,h,hne,rfl⟩ | ⟨n,p,s,lo,k,h,rfl⟩
   ·rw[h] at h1;obtain ⟨cs,q1,q2⟩:=h1;simp only[ah] at q2;exact ⟨none,0,0,by simpa[bD,I.isAgg,q2] using q1.symm,rfl⟩
   ·rw[h] at h1;obtain ⟨ad,cap,e1,_,_,e4,_⟩:=nN h1;rcases e4 with e4 | ⟨b,off,cs,rfl,_,_⟩
    ·exact absurd e4 hne
    ·exact ⟨_,_,_,e1,rfl⟩
   ·rw[h] at h1;obtain ⟨cs,q1,q2⟩:=h1;simp only[ah] at q2;obtain ⟨b,aO,off,l,_,_,_,q2,_⟩:=q2;exact ⟨_,_,_,by simpa[bD,I.isAgg,q2] using q1.symm,rfl⟩
  obtain ⟨ad,n,cp,hyv,rfl⟩:=hu';have he:∀ d,(Op.equalIn (d+1) t (.slice ad n cp) (.slice none 0 0)).run c.P w=.ok ad.isNone w:=fun d=>by
   cases ad <;>simp[Op.equalIn,run_underlying hu]
  refine ⟨.bool (if neg then !ad.isNone else ad.isNone),?_,oE _⟩;cases neg <;>simp only[execOp,ho,hyv,hv,if_true,zz6,if_false,Sem.run_bind,eqGuard] <;>simp[binOp,Op.equal,Op.maxDepth,he]
end
def iN(c:cS)(A:ae)(o:Oper)(B:ae):Prop :=
 ∀ a w D E,aS c A a w D E→∃ w',((∃ v,(execOp a.eval o).run c.P w=.ok (.value v) w'∧cw c B (a.put o.dst v) w')∨((execOp a.eval o).run c.P w=.ok .skip w'∧cw c B (a.put o.dst undef) w'))
section
variable {c:cS} {A:ae} {o:Oper} {x:I}
theorem dR.does(h:dR c A o x)(hd:∀ k,o.dst=some k→k<c.n):iN c A o (A.aN o.dst x):=by
 intro a w D E hs;obtain ⟨v,w',D',h1,h2,h3⟩:=h a w D E hs;exact ⟨w',.inl ⟨v,h1,D',E,h2.aN hd h3⟩⟩
theorem XN{t:TypeId}{z:I}{d:Nat}(ho:o.op=.alloc t)(hz:fY c.P t=some z)(hd:o.dst=some d)(hn:d<c.n)(hf:A.o d=none):iN c A o ((A.aL d (.box z)).put d (.ptr d [])):=by
 intro a w D E hs;obtain ⟨i,zv,hi,hzv,hzr⟩:=l7 hz;have h1:=hs.rq (T:=t) (.inl hn) hf (hzr w D E);have h2:=h1.put (x:=.ptr d []) (v:=.pointer (some ⟨w.heap.size,0,none⟩)) hn ⟨_,by simp[bD,I.isAgg];rfl,by
  simp only[ah,if_true];exact ⟨w.heap.size,z.aO,0,rfl,by cases z.aO <;>simp[cQ.off],rfl⟩⟩
 exact ⟨w.alloc (.cells zv.cells t),.inl ⟨.pointer (some ⟨w.heap.size,0,none⟩),by simp[execOp,ho,Instr.alloc,zeroValue,typeInfo,hi,hzv,newVar,newRow],D,_,by rw[hd];exact h2⟩⟩
theorem XS{t:TypeId}{y:Operand}{y':aJ}{d:Nat}(ho:o.op=.box t y)(hy:bB c.P t y=some y')(hv:(af A y').b8=true)(hd:o.dst=some d)(hn:d<c.n)(hf:A.o d=none) :
  iN c A o ((A.aL d (.box (af A y'))).put d (.ptr d [])):=by
 intro a w D E hs;obtain ⟨cs,k1,k2⟩:∃ cs,bD (af A y') (a.eval y) cs∧ah w D E (af A y') cs:=by
  have h:=cj hs hy;generalize af A y'=z at *;cases z <;>simp[I.b8] at hv <;>exact h
 have hc:=k1.cells k2;rw[←hc] at k2;have h1:=hs.rq (T:=t) (.inl hn) hf k2;have h2:=h1.put (x:=.ptr d []) (v:=.pointer (some ⟨w.heap.size,0,none⟩)) hn ⟨_,by simp[bD,I.isAgg];rfl,by
  simp only[ah,if_true];exact ⟨w.heap.size,(af A y').aO,0,rfl,by cases (af A y').aO <;>simp[cQ.off],rfl⟩⟩
 exact ⟨w.alloc (.cells (a.eval y).cells t),.inl ⟨.pointer (some ⟨w.heap.size,0,none⟩),by simp[execOp,ho,Instr.box,newVar,newRow],D,_,by rw[hd];exact h2⟩⟩
theorem XY{t:TypeId}{y z:Operand}{y' z':aJ}{s:Option Nat}{n:Nat}{p:List Nat}{b old:I}(ho:o.op=.store t y z)(hk:fS c.P t=some s)(hk1:s.isSome=true∨c.P.cellsOf t=1)(hy:bB c.P 0 y=some y')(hz:bB c.P t z=some z')
  (hp:af A y'=.ptr n p) (hb:A.o n=some (.box b)) (hat:b.at p=some old) (hv:(af A z').b8=true) (hok:bY s (af A z')=true) (hsh:(af A z').aO=old.aO) (hd:o.dst=none) :
  iN c A o (A.aL n (.box (b.dI p (af A z')))):=by
 intro a w D E hs;have h1:=cj hs hy;rw[hp] at h1;obtain ⟨bb,aO,off,h2,h3,h4⟩:=oP h1;obtain ⟨b',cs,T,k1,k2,k3,k4,k5⟩:=hs.box hb;rw[k1] at h2;simp only[u8,bR.aA.injEq] at h2;obtain ⟨rfl,rfl⟩:=h2;obtain ⟨ds,q1,q2⟩:∃ ds,bD (af A z') (a.eval z) ds∧ah w D E (af A z') ds:=by
  have h:=cj hs hz;generalize af A z'=zz at *;cases zz <;>simp[I.b8] at hv <;>exact h
 have hc:=q1.cells q2;obtain ⟨off',p1,p2,p3,p4⟩:=tV p b old _ _ ds k4 hat q2 hsh;rw[h3,u8] at p1;subst p1;have hl:=ah.length _ _ q2;obtain ⟨i,hi⟩:=tc hk;have hsz:ds.length=c.P.cellsOf t:=by
  cases s with
  |none =>
   simp only[bY,Bool.not_eq_true'] at hok;have:(af A z').size=1:=by generalize af A z'=zz at *;cases zz <;>simp_all[I.isAgg,I.size]
   rw[hl,this];rcases hk1 with h | h
   ·cases h
   ·exact h.symm
  |some m =>
   simp only[bY,zz2,beq_iff_eq] at hok;rw[hl,hok.2,xv hk]
 have hcs:(a.eval z).cells.size=ds.length:=by rw[←hc,zv1]
 have hrun:=run_storeCells_at c.P b' off T ds 0 cs w k3 (by rw[zv1] at p2;omega) (ah.mI _ _ q2);simp only[Nat.add_zero] at hrun;have hs2:=hs.NL (y:=b.dI p (af A z')) (cs':=(cs.toList.take off++ds++cs.toList.drop (off+ds.length)).toArray) hb k1 p4 (by simpa using p3);refine ⟨w.setRow b' (cs.toList.take off++ds++cs.toList.drop (off+ds.length)).toArray,.inr ⟨?_,D,E,?_⟩⟩
 ·have e:(a.eval z).cells.toList=ds:=hc;have hg:¬ (a.eval z).cells.size≠c.P.cellsOf t:=by rw[hcs,hsz];simp
  simp only[execOp,ho,h4,Instr.storeAt,Instr.sureAddr,storeVar,Sem.run_bind,Sem.run_pure,Result.andThen_ok,ji hi,Sem.run_ite,if_neg hg,e,hrun]
 ·rw[hd];exact hs2
end
section
variable {c:cS} {A:ae} {a:Act} {w:World} {D:aM} {E:aW}
theorem aS.Ds(h:aS c A a w D E){n:Nat}{T:TypeId}{sz cap:Nat}{es ys:List I}{pre news rest:List Value}{cs:Array Value}{aE:Option (Nat×Nat)}(hn:A.o n=some (.bX T sz es))(aw:E n=some (.rw aE es.length))(hes:aI w D E es pre)
  (hys:aI w D E ys news) (hysz:∀ e∈ys,e.size=sz) (hne:ys≠[]) (hcs:cs.toList=(pre++news)++rest) (hsize:cs.size=cap*sz) (hlen:es.length+ys.length≤cap) (hcap:cap≤maxLen) :
  aS c (A.aL n (.bX T sz (es++ys))) a (w.drew.alloc (.cells cs T)) D (fun m=>if m=n then some (.rw (some (w.heap.size,cap)) (es.length+ys.length)) else E m):=by
 have hlast:0<ys.length:=List.length_pos_iff.2 hne;have hheap:∀ b,b<w.heap.size→(w.drew.alloc (.cells cs T)).heap[b]?=w.heap[b]?:=fun b hb=>Below.heap_alloc w.drew _ b hb;have hl:dS w D E (w.drew.alloc (.cells cs T)) D (fun m=>if m=n then some (.rw (some (w.heap.size,cap)) (es.length+ys.length)) else E m):=by
  have eE:∀ {m:Nat} {e:bR},E m=some e→e.eG=true→(if m=n then some (.rw (some (w.heap.size,cap)) (es.length+ys.length)) else E m)=some e:=fun {m e} he hfx=>by
   have:m≠n:=fun e=>by rw[e,aw] at he;cases he;cases hfx
   rw[if_neg this];exact he
  refine ⟨fun _ _ h=>h,fun b o v _ hv =>?_,fun m b aO he=>eE he rfl,fun m blk' l he =>?_,fun m b he=>eE he rfl,fun m b he=>eE he rfl,fun b es ck _ hm=>(hheap b (fW hm)).trans hm⟩
  ·rw[World.cell?_of_block (hheap b (World.block_lt_of_cell? w _ hv))];exact hv
  ·by_cases hm:m=n
   ·subst hm;rw[aw] at he;simp only[u8,bR.rw.injEq] at he;exact ⟨_,_,if_pos rfl,by omega,fun e=>by omega⟩
   ·exact ⟨blk',l,by simp only[if_neg hm];exact he,zz7 _,fun _=>rfl⟩
 have hown:=h.bT n;rw[hn] at hown;obtain ⟨blk1,hb1,hb2,_⟩:=hown;refine ⟨h.sz,h.eU.mono fun B _ hB=>(hheap B (zx9.1 hB).1).trans hB,fun t=>aV.bI hl (h.eB t),h.dZ.trans ⟨rfl,rfl,rfl,by simp,fun k hk=>hheap k (h.old hk)⟩,h.da,fun b o hd'=>by have:=h.dq b o hd';simp;omega,fun m =>?_,?_,fun m e hm =>?_,h.fb,h.cO,h.fg,h.lg hl⟩
 ·simp only[ae.aL];by_cases hm:m=n
  ·subst hm;simp only[if_true,dg];refine ⟨some (w.heap.size,cap),by simp,fun e he =>?_,?_⟩
   ·rcases zy1.1 he with he | he
    ·exact hb2 e he
    ·exact hysz e he
   ·refine ⟨cs,pre++news,rest,.inl h.dZ.size,heap_alloc_new w.drew _,hcs,?_,hsize,by simpa using hlen,hcap,fun o ho=>absurd (h.dq _ o ho) (Nat.lt_irrefl _)⟩;exact aI.bI hl _ _ (ky _ _ _ _ hes hys)
  ·simp only[if_neg hm];exact (h.bT m).bI hl (by simp only[if_neg hm]) fun e b he hb=>⟨hheap b (h.fV he hb),fun _ ho=>ho⟩
 ·intro m m' e e' b h1 h2 h3 h4;by_cases hm:m=n <;>by_cases hm':m'=n
  ·rw[hm,hm']
  ·simp only[if_pos hm,u8] at h1;simp only[if_neg hm'] at h2;subst h1;simp only[bR.aE,u8] at h3;have:=h.fV h2 h4;omega
  ·simp only[if_neg hm] at h1;simp only[if_pos hm',u8] at h2;subst h2;simp only[bR.aE,u8] at h4;have:=h.fV h1 h3;omega
  ·simp only[if_neg hm] at h1;simp only[if_neg hm'] at h2;exact h.cU m m' e e' b h1 h2 h3 h4
 ·by_cases hmn:m=n
  ·subst hmn;rcases h.ed _ _ hm with k | ⟨e',k,hle⟩
   ·rw[aw] at k;cases k
   ·rw[aw] at k;cases k;exact .inr ⟨_,if_pos rfl,hle.trans (.inr ⟨_,_,_,_,rfl,rfl,by omega,fun e=>by omega⟩)⟩
  ·simp only[if_neg hmn];exact h.ed _ _ hm
theorem aS.aiK(h:aS c A a w D E){n:Nat}{T:TypeId}{sz b cap:Nat}{es ys:List I}{pre news rest:List Value}{cs:Array Value}(hn:A.o n=some (.bX T sz es))(aw:E n=some (.rw (some (b,cap)) es.length))(hb:w.heap[b]?=some (.cells cs T (0,0)))
  (hcs:cs.toList=pre++rest) (hes:aI w D E es pre) (hys:aI w D E ys news) (hysz:∀ e∈ys,e.size=sz) (hne:ys≠[]) (hsize:cs.size=cap*sz) (hlen:es.length+ys.length≤cap) (hcap:cap≤maxLen) (hD:∀ o,D b o→o<pre.length) (hbase:c.fj b) :
  aS c (A.aL n (.bX T sz (es++ys))) a (w.setRow b (pre++news++rest.drop news.length).toArray) D (fun m=>if m=n then some (.rw (some (b,cap)) (es.length+ys.length)) else E m):=by
 have hlast:0<ys.length:=List.length_pos_iff.2 hne;have hown:=h.bT n;rw[hn] at hown;obtain ⟨blk1,hb1,hb2,_⟩:=hown;have hnl:news.length=ys.length*sz:=by rw[aI.length _ _ hys,I.iK _ hysz]
 have hpl:pre.length=es.length*sz:=by rw[aI.length _ _ hes,I.iK _ hb2]
 have hl:dS w D E (w.setRow b (pre++news++rest.drop news.length).toArray) D (fun m=>if m=n then some (.rw (some (b,cap)) (es.length+ys.length)) else E m):=by
  have eE:∀ {m:Nat} {e:bR},E m=some e→e.eG=true→(if m=n then some (.rw (some (b,cap)) (es.length+ys.length)) else E m)=some e:=fun {m e} he hfx=>by
   have:m≠n:=fun e=>by rw[e,aw] at he;cases he;cases hfx
   rw[if_neg this];exact he
  refine ⟨fun _ _ h=>h,fun b1 o v hd hv =>?_,fun m b aO he=>eE he rfl,fun m blk' l he =>?_,fun m b he=>eE he rfl,fun m b he=>eE he rfl,fun b1 es ck _ hm=>(setRow_other w b b1 _ (fun e=>by rw[e,hb] at hm;cases hm)).trans hm⟩
  ·by_cases hbb:b1=b
   ·subst hbb;have ho:=hD o hd;have h1:=setRow_heap w b1 cs (pre++news++rest.drop news.length).toArray T _ hb;rw[cell_of_row _ b1 o _ T (0,0) h1];rw[cell_of_row _ b1 o _ T (0,0) hb] at hv;have e1:cs[o]?=pre[o]?:=by rw[←zv3,hcs,zy7 ho]
    rw[←hv,e1];simp only[List.getElem?_toArray,zz3];rw[zy7 ho]
   ·rw[vh _ _ _ _ hbb];exact hv
  ·by_cases hm:m=n
   ·subst hm;rw[aw] at he;simp only[u8,bR.rw.injEq] at he;exact ⟨_,_,if_pos rfl,by omega,fun e=>by omega⟩
   ·exact ⟨blk',l,by simp only[if_neg hm];exact he,zz7 _,fun _=>rfl⟩
 refine ⟨h.sz,h.eU.mono fun B _ hB=>(setRow_other w b B _ (fun e=>by rw[e,hb] at hB;cases hB)).trans hB,fun t=>aV.bI hl (h.eB t),xu h.dZ hbase _,h.da,fun b1 o hd=>by have:=h.dq b1 o hd;simpa[World.setRow] using this,fun m =>?_,?_,fun m e hm =>?_,h.fb,h.cO,h.fg,h.lg hl⟩
 ·simp only[ae.aL];by_cases hm:m=n
  ·subst hm;simp only[if_true,dg];refine ⟨some (b,cap),by simp,fun e he =>?_,?_⟩
   ·rcases zy1.1 he with he | he
    ·exact hb2 e he
    ·exact hysz e he
   ·refine ⟨_,pre++news,rest.drop news.length,hbase,setRow_heap w b cs _ T _ hb,by simp,aI.bI hl _ _ (ky _ _ _ _ hes hys),?_,by simpa using hlen,hcap,fun o ho =>?_⟩
    ·have e1:cs.size=pre.length+rest.length:=by rw[←zv1,hcs,zz5]
     have e2:news.length+pre.length≤cs.size:=by
      rw[hsize,hnl,hpl,←zu0];exact Nat.mul_le_mul_right _ (by omega)
     simp only[List.size_toArray,zz5,zx0];omega
    ·have:=hD o ho;rw[zz5];omega
  ·simp only[if_neg hm];refine (h.bT m).bI hl (by simp only[if_neg hm]) fun e b1 he hb'=>⟨setRow_other w b b1 _ (fun e1=>hm (h.cU m n e _ b he aw (by rw[hb',e1]) rfl)),fun _ ho=>ho⟩
 ·intro m m' e e' b' h1 h2 h3 h4;by_cases hm:m=n <;>by_cases hm':m'=n
  ·rw[hm,hm']
  ·simp only[if_pos hm,u8] at h1;simp only[if_neg hm'] at h2;subst h1;exact absurd (h.cU m' n e' _ b' h2 aw h4 h3) hm'
  ·simp only[if_neg hm] at h1;simp only[if_pos hm',u8] at h2;subst h2;exact absurd (h.cU m n e _ b' h1 aw h3 h4) hm
  ·simp only[if_neg hm] at h1;simp only[if_neg hm'] at h2;exact h.cU m m' e e' b' h1 h2 h3 h4
 ·by_cases hmn:m=n
  ·subst hmn;rcases h.ed _ _ hm with k | ⟨e',k,hle⟩
   ·rw[aw] at k;cases k
   ·rw[aw] at k;cases k;exact .inr ⟨_,if_pos rfl,hle.trans (.inr ⟨_,_,_,_,rfl,rfl,by omega,fun e=>by omega⟩)⟩
  ·simp only[if_neg hmn];exact h.ed _ _ hm
theorem OD(n:Nat):(Builtin.zeroCells #[Value.int .i64 0] n).toList=(List.replicate n (0:Int)).map (Value.int .i64):=by
 simp only[Builtin.zeroCells,List.size_toArray,List.length_singleton,Nat.mul_one,Nat.mod_one,List.map_replicate];apply List.ext_getElem?;intro k;simp[List.getElem?_replicate];by_cases h:k<n
 ·rw[if_pos h,List.getElem?_range h];rfl
 ·rw[if_neg h,List.getElem?_eq_none (by simpa using h)];rfl
theorem Nc{w:World}{D:aM}{E:aW} : ∀ {xs:List Int} {cs:List Value},aI w D E (xs.map (I.int .i64)) cs→cs=xs.map (Value.int .i64)∧∀ x∈xs,IntKind.i64.min≤x∧x≤IntKind.i64.max
 | [],cs,h=>by
  simp only[zx1,aI] at h;subst h;exact ⟨rfl,by simp⟩
 |x::xs,cs,h=>by
  simp only[zz9,aI] at h;obtain ⟨c1,c2,rfl,h1,h2⟩:=h;obtain ⟨rfl,h3⟩:=Nc h2;have h1':c1=[.int .i64 x]∧IntKind.i64.min≤x∧x≤IntKind.i64.max:=h1;obtain ⟨rfl,h4⟩:=h1';refine ⟨rfl,fun y hy =>?_⟩;rcases zw4.1 hy with rfl | hy
  ·exact h4
  ·exact h3 y hy
theorem aS.Dt(h:aS c A a w D E){n:Nat}{T:TypeId}{cap m':Nat}{es ys:List Int}{cs:Array Value}{aE:Option (Nat×Nat)}(hn:A.o n=some (.cV T es))(aw:E n=some (.rw aE es.length))(hr:∀ x∈es++ys,IntKind.i64.min≤x∧x≤IntKind.i64.max)
  (hne:ys≠[]) (hcs:cs.toList=(es++ys++List.replicate m' 0).map (Value.int .i64)) (hlen:es.length+ys.length+m'=cap) (hcap:cap≤maxLen) :
  aS c (A.aL n (.cV T (es++ys))) a (w.drew.alloc (.cells cs T)) D (fun m=>if m=n then some (.rw (some (w.heap.size,cap)) (es.length+ys.length)) else E m):=by
 have hlast:0<ys.length:=List.length_pos_iff.2 hne;have hheap:∀ b,b<w.heap.size→(w.drew.alloc (.cells cs T)).heap[b]?=w.heap[b]?:=fun b hb=>Below.heap_alloc w.drew _ b hb;have hl:dS w D E (w.drew.alloc (.cells cs T)) D (fun m=>if m=n then some (.rw (some (w.heap.size,cap)) (es.length+ys.length)) else E m):=by
  have eE:∀ {m:Nat} {e:bR},E m=some e→e.eG=true→(if m=n then some (.rw (some (w.heap.size,cap)) (es.length+ys.length)) else E m)=some e:=fun {m e} he hfx=>by
   have:m≠n:=fun e=>by rw[e,aw] at he;cases he;cases hfx
   rw[if_neg this];exact he
  refine ⟨fun _ _ h=>h,fun b o v _ hv =>?_,fun m b aO he=>eE he rfl,fun m blk' l he =>?_,fun m b he=>eE he rfl,fun m b he=>eE he rfl,fun b es ck _ hm=>(hheap b (fW hm)).trans hm⟩
  ·rw[World.cell?_of_block (hheap b (World.block_lt_of_cell? w _ hv))];exact hv
  ·by_cases hm:m=n
   ·subst hm;rw[aw] at he;simp only[u8,bR.rw.injEq] at he;exact ⟨_,_,if_pos rfl,by omega,fun e=>by omega⟩
   ·exact ⟨blk',l,by simp only[if_neg hm];exact he,zz7 _,fun _=>rfl⟩
 refine ⟨h.sz,h.eU.mono fun B _ hB=>(hheap B (zx9.1 hB).1).trans hB,fun t=>aV.bI hl (h.eB t),h.dZ.trans ⟨rfl,rfl,rfl,by simp,fun k hk=>hheap k (h.old hk)⟩,h.da,fun b o hd'=>by have:=h.dq b o hd';simp;omega,fun m =>?_,?_,fun m e hm =>?_,h.fb,h.cO,h.fg,h.lg hl⟩
 ·simp only[ae.aL];by_cases hm:m=n
  ·subst hm;simp only[if_true,dg];exact ⟨some (w.heap.size,cap),by simp,hr,cs,m',.inl h.dZ.size,heap_alloc_new w.drew _,hcs,by simp[hne],by simp only[zz5];exact hlen,hcap,fun o ho=>absurd (h.dq _ o ho) (Nat.lt_irrefl _)⟩
  ·simp only[if_neg hm];exact (h.bT m).bI hl (by simp only[if_neg hm]) fun e b he hb=>⟨hheap b (h.fV he hb),fun _ ho=>ho⟩
 ·intro m m' e e' b h1 h2 h3 h4;by_cases hm:m=n <;>by_cases hm':m'=n
  ·rw[hm,hm']
  ·simp only[if_pos hm,u8] at h1;simp only[if_neg hm'] at h2;subst h1;simp only[bR.aE,u8] at h3;have:=h.fV h2 h4;omega
  ·simp only[if_neg hm] at h1;simp only[if_pos hm',u8] at h2;subst h2;simp only[bR.aE,u8] at h4;have:=h.fV h1 h3;omega
  ·simp only[if_neg hm] at h1;simp only[if_neg hm'] at h2;exact h.cU m m' e e' b h1 h2 h3 h4
 ·by_cases hmn:m=n
  ·subst hmn;rcases h.ed _ _ hm with k | ⟨e',k,hle⟩
   ·rw[aw] at k;cases k
   ·rw[aw] at k;cases k;exact .inr ⟨_,if_pos rfl,hle.trans (.inr ⟨_,_,_,_,rfl,rfl,by omega,fun e=>by omega⟩)⟩
  ·simp only[if_neg hmn];exact h.ed _ _ hm
theorem aS.aiL(h:aS c A a w D E){n:Nat}{T:TypeId}{b cap m':Nat}{es ys:List Int}{cs:Array Value}(hn:A.o n=some (.cV T es))(aw:E n=some (.rw (some (b,cap)) es.length))(hb:w.heap[b]?=some (.cells cs T (0,0)))
  (hr:∀ x∈es++ys,IntKind.i64.min≤x∧x≤IntKind.i64.max) (hne:ys≠[]) (hlen:es.length+ys.length+m'=cap) (hcap:cap≤maxLen) (hD:∀ o,¬ D b o) (hbase:c.fj b) :
  aS c (A.aL n (.cV T (es++ys))) a (w.setRow b ((es++ys++List.replicate m' 0).map (Value.int .i64)).toArray) D (fun m=>if m=n then some (.rw (some (b,cap)) (es.length+ys.length)) else E m):=by
 have hlast:0<ys.length:=List.length_pos_iff.2 hne;have hl:dS w D E (w.setRow b ((es++ys++List.replicate m' 0).map (Value.int .i64)).toArray) D (fun m=>if m=n then some (.rw (some (b,cap)) (es.length+ys.length)) else E m):=by
  have eE:∀ {m:Nat} {e:bR},E m=some e→e.eG=true→(if m=n then some (.rw (some (b,cap)) (es.length+ys.length)) else E m)=some e:=fun {m e} he hfx=>by
   have:m≠n:=fun e=>by rw[e,aw] at he;cases he;cases hfx
   rw[if_neg this];exact he
  refine ⟨fun _ _ h=>h,fun b1 o v hd hv =>?_,fun m b aO he=>eE he rfl,fun m blk' l he =>?_,fun m b he=>eE he rfl,fun m b he=>eE he rfl,fun b1 es ck _ hm=>(setRow_other w b b1 _ (fun e=>by rw[e,hb] at hm;cases hm)).trans hm⟩
  ·by_cases hbb:b1=b
   ·subst hbb;exact absurd hd (hD o)
   ·rw[vh _ _ _ _ hbb];exact hv
  ·by_cases hm:m=n
   ·subst hm;rw[aw] at he;simp only[u8,bR.rw.injEq] at he;exact ⟨_,_,if_pos rfl,by omega,fun e=>by omega⟩
   ·exact ⟨blk',l,by simp only[if_neg hm];exact he,zz7 _,fun _=>rfl⟩
 refine ⟨h.sz,h.eU.mono fun B _ hB=>(setRow_other w b B _ (fun e=>by rw[e,hb] at hB;cases hB)).trans hB,fun t=>aV.bI hl (h.eB t),xu h.dZ hbase _,h.da,fun b1 o hd=>by have:=h.dq b1 o hd;simpa[World.setRow] using this,fun m =>?_,?_,fun m e hm =>?_,h.fb,h.cO,h.fg,h.lg hl⟩
 ·simp only[ae.aL];by_cases hm:m=n
  ·subst hm;simp only[if_true,dg];exact ⟨some (b,cap),by simp,hr,_,m',hbase,setRow_heap w b cs _ T _ hb,by simp,by simp[hne],by simp only[zz5];exact hlen,hcap,hD⟩
  ·simp only[if_neg hm];refine (h.bT m).bI hl (by simp only[if_neg hm]) fun e b1 he hb'=>⟨setRow_other w b b1 _ (fun e1=>hm (h.cU m n e _ b he aw (by rw[hb',e1]) rfl)),fun _ ho=>ho⟩
 ·intro m m' e e' b' h1 h2 h3 h4;by_cases hm:m=n <;>by_cases hm':m'=n
  ·rw[hm,hm']
  ·simp only[if_pos hm,u8] at h1;simp only[if_neg hm'] at h2;subst h1;exact absurd (h.cU m' n e' _ b' h2 aw h4 h3) hm'
  ·simp only[if_neg hm] at h1;simp only[if_pos hm',u8] at h2;subst h2;exact absurd (h.cU m n e _ b' h1 aw h3 h4) hm
  ·simp only[if_neg hm] at h1;simp only[if_neg hm'] at h2;exact h.cU m m' e e' b' h1 h2 h3 h4
 ·by_cases hmn:m=n
  ·subst hmn;rcases h.ed _ _ hm with k | ⟨e',k,hle⟩
   ·rw[aw] at k;cases k
   ·rw[aw] at k;cases k;exact .inr ⟨_,if_pos rfl,hle.trans (.inr ⟨_,_,_,_,rfl,rfl,by omega,fun e=>by omega⟩)⟩
  ·simp only[if_neg hmn];exact h.ed _ _ hm
end
section
variable {c:cS} {A:ae} {o:Oper}
theorem XO{t e:TypeId}{s x:Operand}{s' x':aJ}{n k sz:Nat}{es ys:List I}{z:I}(ho:o.op=.call { callee:=.builtin .append,args := #[s,x],argTypes := #[t,t] })(ht:c.P.underlying t=some (.slice e))(hs':bB c.P t s=some s')(hx':bB c.P t x=some x')
  (hz:fY c.P e=some z) (hzs:z.size=c.P.cellsOf e) (hpos:0<c.P.cellsOf e) (hs:af A s'=.own n k) (hn:A.o n=some (.bX e (c.P.cellsOf e) es)) (hk:k=es.length) (hx:af A x'=.slice sz ys) (hsz:sz=c.P.cellsOf e) (hne:ys≠[])
  (h63:es.length+ys.length≤maxLen) (hby:(es.length+ys.length)*c.P.bytesOf e≤140737488355328) (hd:∀ k,o.dst=some k→k<c.n) :
  iN c A o ((A.aL n (.bX e (c.P.cellsOf e) (es++ys))).aN o.dst (.own n (es.length+ys.length))):=by
 intro a w D E hsim;obtain ⟨i,zv,hi,hzv,hzr⟩:=l7 hz;have hci:c.P.cellsOf e=i.size:=by simp[Program.cellsOf,hi]
 have hbi:c.P.bytesOf e=i.bytes:=by simp[Program.bytesOf,hi]
 have hzc:zv.cells.size=i.size:=by
  have:=ah.length _ _ (hzr w D E);rw[zv1] at this;rw[this,hzs,hci]
 subst hk;have v1:=cj hsim hs';rw[hs] at v1;have v2:=cj hsim hx';rw[hx] at v2;obtain ⟨ad,cp,hxv,hc1,hc2,hc3,hc4⟩:=nN v2;obtain ⟨b2,off2,news,rfl,hr2,hys⟩:=hc3.resolve_left hne;have hobj:=hsim.bT n;rw[hn] at hobj;obtain ⟨aE,aw,hesz,hblk⟩:=hobj;have hnl:news.length=ys.length*i.size:=by rw[aI.length _ _ hys,I.iK _ hc4,hsz,hci]
 have hysz:∀ y∈ys,y.size=c.P.cellsOf e:=fun y hy=>by rw[hc4 y hy,hsz]
 have hnews:∀ j v,news[j]?=some v→w.cell? ((⟨b2,off2,none⟩:Addr).add j)=some v:=fun j v hj=>by
  rw[Addr.add_lit];exact (hr2 j v hj).1
 have h1:=aI.mI _ _ hys;have hsv:match aE with | none=>a.eval s=.slice none 0 0 | some (b,cap)=>a.eval s=.slice (some ⟨b,0,none⟩) es.length cap:=by
  obtain ⟨cs,q1,q2⟩:=v1;simp only[ah] at q2;obtain ⟨blk',l,q3,q4,q5,q6⟩:=q2;rw[aw] at q3;simp only[u8,bR.rw.injEq] at q3;obtain ⟨rfl,rfl⟩:=q3;have q7:=q6 rfl;simp only[bD,I.isAgg] at q1;cases aE with
  |none=>simp only at q7 ⊢;rw[q7] at q1;simpa using q1.symm
  |some bc=>simp only at q7 ⊢;rw[q7] at q1;simpa using q1.symm
 have hl0:0<ys.length:=List.length_pos_iff.2 hne;have h63':=h63;simp only[maxLen] at h63';have run:∀ v' w',(Builtin.append_ #[t,t] o.type #[a.eval s,.slice (some ⟨b2,off2,none⟩) ys.length cp]).run c.P w=.ok v' w'→(execOp a.eval o).run c.P w=.ok (.value v') w':=by
  intro v' w' hr;unfold execOp;simp only[ho,resolve,invoke,builtin,Sem.run_bind,Sem.run_pure,Result.andThen_ok,List.map_toArray,zz9,zx1,hxv,hr]
 have put:∀ (w':World) (b cap:Nat) (v':Value),v'=.slice (some ⟨b,0,none⟩) (es.length+ys.length) cap→aS c (A.aL n (.bX e (c.P.cellsOf e) (es++ys))) a w' D (fun m=>if m=n then some (.rw (some (b,cap)) (es.length+ys.length)) else E m) →
   cw c ((A.aL n (.bX e (c.P.cellsOf e) (es++ys))).aN o.dst (.own n (es.length+ys.length))) (a.put o.dst v') w':=by
  rintro w' b cap v' rfl hs2;refine ⟨D,_,hs2.aN hd ⟨_,by simp[bD,I.isAgg];rfl,?_⟩⟩;simp only[ah,if_true];exact ⟨some (b,cap),es.length+ys.length,rfl,zz7 _,⟨_,_,_,rfl⟩,fun _=>rfl⟩
 cases aE with
 |none =>
  simp only at hblk hsv;subst hblk;have hr:=run_append_nil (P:=c.P) w t o.type e i zv ht hi hzv ⟨b2,off2,none⟩ ys.length cp news hnl hnews hl0 (by simp at h63';omega) (by rw[hbi] at hby;simp at hby;omega);rw[←hsv] at hr;have hge:=grownCap_ge w ys.length 0 e;refine ⟨_,.inl ⟨_,run _ _ hr,put _ w.heap.size (grownCap w ys.length 0 e) _ (by simp) ?_⟩⟩;refine hsim.Ds (pre:=[]) (news:=news) (rest:=(Builtin.zeroCells zv.cells (grownCap w ys.length 0 e-ys.length)).toList) hn aw (by simp[aI]) hys hysz hne (by simp) ?_ (by simpa using hge) (grownCap_le_maxLen w ys.length 0 e (by simpa using h63));simp only[Array.size_append,List.size_toArray,size_zeroCells,hzc,hnl,hci,←zu0]
  congr 1
  omega
 |some bc =>
  obtain ⟨b,cap⟩:=bc;simp only at hblk hsv;obtain ⟨cs,pre,rest,k1,k2,k3,k4,k5,k6,k7,k8⟩:=hblk;have hpl:pre.length=es.length*i.size:=by rw[aI.length _ _ k4,I.iK _ hesz,hci]
  by_cases hroom:es.length+ys.length≤cap
  ·have hfit:es.length*i.size+news.length≤cs.size:=by rw[hnl,k5,hci,←zu0];exact Nat.mul_le_mul_right _ hroom
   have hr:=run_append_room (P:=c.P) w t o.type e i ht hi b es.length cap cs k2 ⟨b2,off2,none⟩ ys.length cp news hnl hnews h1 hroom hfit;rw[←hsv] at hr;refine ⟨_,.inl ⟨_,run _ _ hr,put _ b cap _ rfl ?_⟩⟩;have e1:cs.toList.take (es.length*i.size)=pre:=by rw[k3,←hpl];exact List.take_left
   have e2:cs.toList.drop (es.length*i.size+news.length)=rest.drop news.length:=by rw[k3,←hpl,←List.drop_drop,List.drop_left]
   rw[e1,e2];exact hsim.aiK hn aw k2 k3 k4 hys hysz hne k5 hroom k7 k8 k1
  ·have holds:∀ j v,pre[j]?=some v→w.cell? ((⟨b,0,none⟩:Addr).add j)=some v:=fun j v hj=>by
    rw[Addr.add_lit,zz4,cell_of_row w b j cs e (0,0) k2,←zv3,k3];have:j<pre.length:=(zy5.1 hj).1;rw[zy7 this];exact hj
   have hr:=run_append_grow (P:=c.P) w t o.type e i zv ht hi hzv ⟨b,0,none⟩ es.length cap pre hpl holds ⟨b2,off2,none⟩ ys.length cp news hnl hnews (by omega) (by omega) (growslice_fits (by omega) (by rw[←hbi];exact hby));rw[←hsv] at hr;have hge:=grownCap_ge w (es.length+ys.length) cap e;refine ⟨_,.inl ⟨_,run _ _ hr,put _ w.heap.size (grownCap w (es.length+ys.length) cap e) _ rfl ?_⟩⟩;refine hsim.Ds (pre:=pre) (news:=news) (rest:=(Builtin.zeroCells zv.cells (grownCap w (es.length+ys.length) cap e-(es.length+ys.length))).toList) hn aw k4 hys hysz hne (by simp) ?_ hge (grownCap_le_maxLen w _ cap e h63);simp only[Array.size_append,List.size_toArray,size_zeroCells,hzc,hnl,hpl,hci,←zu0]
   congr 1
   omega
theorem XP{t e:TypeId}{s x:Operand}{s' x':aJ}{n k sz:Nat}{es ys:List Int}(ho:o.op=.call { callee:=.builtin .append,args := #[s,x],argTypes := #[t,t] })(ht:c.P.underlying t=some (.slice e))(hs':bB c.P t s=some s')(hx':bB c.P t x=some x')
  (hz:fY c.P e=some (.int .i64 0)) (h1c:c.P.cellsOf e=1) (hs:af A s'=.own n k) (hn:A.o n=some (.cV e es)) (hk:k=es.length) (hx:af A x'=.slice sz (ys.map (.int .i64))) (hne:ys≠[])
  (h63:es.length+ys.length≤maxLen) (hby:(es.length+ys.length)*c.P.bytesOf e≤140737488355328) (hd:∀ k,o.dst=some k→k<c.n) :
  iN c A o ((A.aL n (.cV e (es++ys))).aN o.dst (.own n (es.length+ys.length))):=by
 intro a w D E hsim;obtain ⟨i,zv,hi,hzv,hzr⟩:=l7 hz;have hci:c.P.cellsOf e=i.size:=by simp[Program.cellsOf,hi]
 have hi1:i.size=1:=hci.symm.trans h1c;have hbi:c.P.bytesOf e=i.bytes:=by simp[Program.bytesOf,hi]
 have hzv2:zv.cells = #[Value.int .i64 0]:=by
  have:zv.cells.toList=[Value.int .i64 0]:=(hzr w D E).1;exact Array.toList_inj.1 this
 subst hk;have v1:=cj hsim hs';rw[hs] at v1;have v2:=cj hsim hx';rw[hx] at v2;obtain ⟨ad,cp,hxv,hc1,hc2,hc3,hc4⟩:=nN v2;obtain ⟨b2,off2,news,rfl,hr2,hys⟩:=hc3.resolve_left (by simpa using hne);rw[zy2] at hxv;obtain ⟨aE,aw,hesr,hblk⟩:=hsim.rR hn;obtain ⟨hnw,hyr⟩:=Nc hys;have hnl0:news.length=ys.length:=by rw[hnw,zy2]
 have hnl:news.length=ys.length*i.size:=by rw[hi1,Nat.mul_one,hnl0]
 have hrr:∀ x∈es++ys,IntKind.i64.min≤x∧x≤IntKind.i64.max:=fun x hx=>by
  rcases zy1.1 hx with h | h
  ·exact hesr x h
  ·exact hyr x h
 have hnews:∀ j v,news[j]?=some v→w.cell? ((⟨b2,off2,none⟩:Addr).add j)=some v:=fun j v hj=>by
  rw[Addr.add_lit];exact (hr2 j v hj).1
 have h1:=aI.mI _ _ hys;have hsv:match aE with | none=>a.eval s=.slice none 0 0 | some (b,cap)=>a.eval s=.slice (some ⟨b,0,none⟩) es.length cap:=by
  obtain ⟨cs,q1,q2⟩:=v1;simp only[ah] at q2;obtain ⟨blk',l,q3,q4,q5,q6⟩:=q2;rw[aw] at q3;simp only[u8,bR.rw.injEq] at q3;obtain ⟨rfl,rfl⟩:=q3;have q7:=q6 rfl;simp only[bD,I.isAgg] at q1;cases aE with
  |none=>simp only at q7 ⊢;rw[q7] at q1;simpa using q1.symm
  |some bc=>simp only at q7 ⊢;rw[q7] at q1;simpa using q1.symm
 have hl0:0<ys.length:=List.length_pos_iff.2 hne;have h63':=h63;simp only[maxLen] at h63';have run:∀ v' w',(Builtin.append_ #[t,t] o.type #[a.eval s,.slice (some ⟨b2,off2,none⟩) ys.length cp]).run c.P w=.ok v' w'→(execOp a.eval o).run c.P w=.ok (.value v') w':=by
  intro v' w' hr;unfold execOp;simp only[ho,resolve,invoke,builtin,Sem.run_bind,Sem.run_pure,Result.andThen_ok,List.map_toArray,zz9,zx1,hxv,hr]
 have put:∀ (w':World) (b cap:Nat) (v':Value),v'=.slice (some ⟨b,0,none⟩) (es.length+ys.length) cap→aS c (A.aL n (.cV e (es++ys))) a w' D (fun m=>if m=n then some (.rw (some (b,cap)) (es.length+ys.length)) else E m) →
   cw c ((A.aL n (.cV e (es++ys))).aN o.dst (.own n (es.length+ys.length))) (a.put o.dst v') w':=by
  rintro w' b cap v' rfl hs2;refine ⟨D,_,hs2.aN hd ⟨_,by simp[bD,I.isAgg];rfl,?_⟩⟩;simp only[ah,if_true];exact ⟨some (b,cap),es.length+ys.length,rfl,zz7 _,⟨_,_,_,rfl⟩,fun _=>rfl⟩
 cases aE with
 |none =>
  simp only at hblk hsv;subst hblk;have hr:=run_append_nil (P:=c.P) w t o.type e i zv ht hi hzv ⟨b2,off2,none⟩ ys.length cp news hnl hnews hl0 (by simp at h63';omega) (by rw[hbi] at hby;simp at hby;omega);rw[←hsv] at hr;have hge:=grownCap_ge w ys.length 0 e;refine ⟨_,.inl ⟨_,run _ _ hr,put _ w.heap.size (grownCap w ys.length 0 e) _ (by simp) ?_⟩⟩;refine hsim.Dt (m':=grownCap w ys.length 0 e-ys.length) hn aw hrr hne ?_ (by simp;omega) (grownCap_le_maxLen w ys.length 0 e (by simpa using h63));rw[hzv2];simp only[Array.toList_append,OD,zy6,zx6,hnw]
 |some bc =>
  obtain ⟨b,cap⟩:=bc;simp only at hblk hsv;obtain ⟨cs,m,k1,k2,k3,k4,k5,k6,k7⟩:=hblk;have hcz:cs.size=cap:=by rw[←zv1,k3];simp;omega
  by_cases hroom:es.length+ys.length≤cap
  ·have hfit:es.length*i.size+news.length≤cs.size:=by rw[hnl,hi1];omega
   have hr:=run_append_room (P:=c.P) w t o.type e i ht hi b es.length cap cs k2 ⟨b2,off2,none⟩ ys.length cp news hnl hnews h1 hroom hfit;rw[←hsv] at hr;refine ⟨_,.inl ⟨_,run _ _ hr,put _ b cap _ rfl ?_⟩⟩;have e0:cs.toList.take (es.length*i.size)++news++cs.toList.drop (es.length*i.size+news.length)=(es++ys++List.replicate (m-ys.length) 0).map (Value.int .i64):=by
    rw[hi1,Nat.mul_one,hnl0,k3,hnw,←List.map_take,←List.map_drop,List.take_left,←List.drop_drop,List.drop_left];simp only[zx6,List.drop_replicate]
   rw[e0];exact hsim.aiL (m':=m-ys.length) hn aw k2 hrr hne (by omega) k6 k7 k1
  ·have hpl:(es.map (Value.int .i64)).length=es.length*i.size:=by rw[hi1];simp
   have holds:∀ j v,(es.map (Value.int .i64))[j]?=some v→w.cell? ((⟨b,0,none⟩:Addr).add j)=some v:=fun j v hj=>by
    rw[Addr.add_lit,zz4,cell_of_row w b j cs e (0,0) k2,←zv3,k3];have:j<(es.map (Value.int .i64)).length:=(zy5.1 hj).1;rw[zx6,zy7 this];exact hj
   have hr:=run_append_grow (P:=c.P) w t o.type e i zv ht hi hzv ⟨b,0,none⟩ es.length cap (es.map (Value.int .i64)) hpl holds ⟨b2,off2,none⟩ ys.length cp news hnl hnews (by omega) (by omega) (growslice_fits (by omega) (by rw[←hbi];exact hby));rw[←hsv] at hr;have hge:=grownCap_ge w (es.length+ys.length) cap e;refine ⟨_,.inl ⟨_,run _ _ hr,put _ w.heap.size (grownCap w (es.length+ys.length) cap e) _ rfl ?_⟩⟩;refine hsim.Dt (m':=grownCap w (es.length+ys.length) cap e-(es.length+ys.length)) hn aw hrr hne ?_ (by omega) (grownCap_le_maxLen w _ cap e h63);rw[hzv2];simp only[Array.toList_append,OD,zx6,hnw]
end
mutual
def I.only(p:Nat→Bool):I→Bool
 | .agg fs | .tuple fs=>I.bU p fs
 | .slice _ es=>I.bU p es
 | .ref x=>x.only p
 | .func _ caps=>I.bU p caps
 | .iface _ v=>v.only p
 | .ptr n _ | .own n _ | .view n _ _ _ _ | .mref n | .dv n=>p n
 | .cI ks vs=>I.bU p ks&&I.bU p vs
 |_=>true
def I.bU(p:Nat→Bool):List I→Bool
 | []=>true
 |x::xs=>x.only p&&I.bU p xs
end
mutual
theorem mJ(p:Nat→Bool):∀ x:I,x.bn=true→x.only p=true
 | .agg fs,h=>by simp only[I.bn,I.only] at *;exact kr p fs h
 | .slice _ es,h=>by simp only[I.bn,I.only] at *;exact kr p es h
 | .ref x,h=>by simp only[I.bn,I.only] at *;exact mJ p x h
 | .func _ caps,h=>by simp only[I.bn,I.only] at *;exact kr p caps h
 | .iface _ v,h=>by simp only[I.bn,I.only] at *;exact mJ p v h
 | .bool _,_ | .int _ _,_ | .cY _,_ | .nilp,_ | .df,_ | .dY,_ | .raw _,_ | .nils _,_ | .c0 _,_=>by simp[I.only]
 | .cI ks vs,h=>by simp only[I.bn,I.only,zz2] at *;exact ⟨kr p ks h.1,kr p vs h.2⟩
 | .ptr _ _,h | .own _ _,h | .view _ _ _ _ _,h | .mref _,h | .dv _,h | .undef,h | .dp,h | .tuple _,h=>by simp[I.bn] at h
theorem kr(p:Nat→Bool):∀ xs:List I,I.bW xs=true→I.bU p xs=true
 | [],_=>rfl
 |x::xs,h=>by
  simp only[I.bW,I.bU,zz2] at *;exact ⟨mJ p x h.1,kr p xs h.2⟩
end
mutual
theorem ah.dB{w:World}{D:aM}{E E':aW}{p:Nat→Bool}(aw:∀ n,p n=true→E' n=E n):∀ (x:I) (cs:List Value),x.only p=true→ah w D E x cs→ah w D E' x cs
 | .agg fs,cs,ho,hr=>by simp only[ah,I.only] at *;exact aI.dB aw fs cs ho hr
 | .bool b,cs,_,hr=>by simpa only[ah] using hr
 | .int k n,cs,_,hr=>by simpa only[ah] using hr
 | .cY s,cs,_,hr=>by simpa only[ah] using hr
 | .nilp,cs,_,hr=>by simpa only[ah] using hr
 | .df,cs,_,hr=>by simpa only[ah] using hr
 | .dY,cs,_,hr=>by simpa only[ah] using hr
 | .raw _,cs,_,hr=>by simpa only[ah] using hr
 | .nils _,cs,_,hr=>by simpa only[ah] using hr
 | .c0 _,cs,_,hr=>by simpa only[ah] using hr
 | .slice sz es,cs,ho,hr=>by
  simp only[ah,I.only] at *;obtain ⟨a,cap,h1,h2,h3,h4,h5⟩:=hr;refine ⟨a,cap,h1,h2,h3,?_,h5⟩;rcases h4 with h4 | ⟨b,off,cs',h6,h7,h8⟩
  ·exact .inl h4
  ·exact .inr ⟨b,off,cs',h6,h7,aI.dB aw es cs' ho h8⟩
 | .ref x,cs,ho,hr=>by
  simp only[ah,I.only] at *;obtain ⟨b,off,cs',h1,h2,h3⟩:=hr;exact ⟨b,off,cs',h1,h2,ah.dB aw x cs' ho h3⟩
 | .func f caps,cs,ho,hr=>by
  simp only[ah,I.only] at *;obtain ⟨vs,h1,h2⟩:=hr;exact ⟨vs,h1,aG.dB aw caps vs ho h2⟩
 | .iface t v,cs,ho,hr=>by
  simp only[ah,I.only] at *;obtain ⟨u,cs',h1,h2,h3⟩:=hr;exact ⟨u,cs',h1,h2,ah.dB aw v cs' ho h3⟩
 | .ptr n p,cs,ho,hr=>by
  simp only[ah,I.only] at *;obtain ⟨b,aO,off,h1,h2⟩:=hr;exact ⟨b,aO,off,(aw n ho).trans h1,h2⟩
 | .own n k,cs,ho,hr=>by
  simp only[ah,I.only] at *;obtain ⟨aE,l,h1,h2⟩:=hr;exact ⟨aE,l,(aw n ho).trans h1,h2⟩
 | .view n p _ _ _,cs,ho,hr=>by
  simp only[ah,I.only] at *;obtain ⟨b,aO,off,l,h1,h2⟩:=hr;exact ⟨b,aO,off,l,(aw n ho).trans h1,h2⟩
 | .mref n,cs,ho,hr=>by
  simp only[ah,I.only] at *;obtain ⟨b,h1,h2⟩:=hr;exact ⟨b,(aw n ho).trans h1,h2⟩
 | .dv n,cs,ho,hr=>by
  simp only[ah,I.only] at *;obtain ⟨b,h1,h2⟩:=hr;exact ⟨b,(aw n ho).trans h1,h2⟩
 | .cI ks vs,cs,ho,hr=>by
  simp only[ah,I.only,zz2] at *;obtain ⟨b,es,ck,h1,h2,h3,h4⟩:=hr;exact ⟨b,es,ck,h1,h2,aG.dB aw ks _ ho.1 h3,aG.dB aw vs _ ho.2 h4⟩
 | .undef,_,_,hr=>by simp only[ah] at hr
 | .dp,_,_,hr=>by simp only[ah] at hr
 | .tuple _,_,_,hr=>by simp only[ah] at hr
theorem aI.dB{w:World}{D:aM}{E E':aW}{p:Nat→Bool}(aw:∀ n,p n=true→E' n=E n):∀ (xs:List I) (cs:List Value),I.bU p xs=true→aI w D E xs cs→aI w D E' xs cs
 | [],cs,_,hr=>by simpa only[aI] using hr
 |x::xs,cs,ho,hr=>by
  simp only[aI,I.bU,zz2] at *;obtain ⟨c1,c2,h1,h2,h3⟩:=hr;exact ⟨c1,c2,h1,ah.dB aw x c1 ho.1 h2,aI.dB aw xs c2 ho.2 h3⟩
theorem aG.dB{w:World}{D:aM}{E E':aW}{p:Nat→Bool}(aw:∀ n,p n=true→E' n=E n):∀ (xs:List I) (vs:List Value),I.bU p xs=true→aG w D E xs vs→aG w D E' xs vs
 | [],vs,_,hr=>by simpa only[aG] using hr
 |x::xs,vs,ho,hr=>by
  simp only[aG,I.bU,zz2] at *;obtain ⟨v,rest,cs,h1,h2,h3,h4⟩:=hr;exact ⟨v,rest,cs,h1,h2,ah.dB aw x cs ho.1 h3,aG.dB aw xs rest ho.2 h4⟩
end
theorem aV.dB{w:World}{D:aM}{E E':aW}{p:Nat→Bool}(aw:∀ n,p n=true→E' n=E n){x:I}{v:Value}(ho:x.only p=true)(hr:aV w D E x v):aV w D E' x v:=by
 cases x <;>simp only[aV] at * <;>first
  |exact hr
  |(obtain ⟨vs,h1,h2⟩:=hr;exact ⟨vs,h1,aG.dB aw _ _ (by simpa[I.only] using ho) h2⟩)
  |(obtain ⟨cs,h1,h2⟩:=hr;exact ⟨cs,h1,ah.dB aw _ _ ho h2⟩)
def ai.only(p:Nat→Bool):ai→Bool
 | .box x=>x.only p
 | .bX _ _ es=>I.bU p es
 | .dQ _=>true
 | .cV _ _=>true
 | .cv ks vs | .it ks vs _ _=>I.bU p ks&&I.bU p vs
def bx:List (Nat×Nat)→Nat→Nat
 | [],n=>n
 |(a,b)::r,n=>if n=a then b else bx r n
mutual
def I.aK(ρ:Nat→Nat):I→I
 | .agg fs=>.agg (I.cJ ρ fs)
 | .tuple fs=>.tuple (I.cJ ρ fs)
 | .slice sz es=>.slice sz (I.cJ ρ es)
 | .ref x=>.ref (x.aK ρ)
 | .func f caps=>.func f (I.cJ ρ caps)
 | .iface t v=>.iface t (v.aK ρ)
 | .ptr n p=>.ptr (ρ n) p
 | .own n k=>.own (ρ n) k
 | .view n p sz lo k=>.view (ρ n) p sz lo k
 | .mref n=>.mref (ρ n)
 | .dv n=>.dv (ρ n)
 | .cI ks vs=>.cI (I.cJ ρ ks) (I.cJ ρ vs)
 | .undef=>.undef | .dp=>.dp | .bool b=>.bool b | .int k n=>.int k n | .cY s=>.cY s
 | .nilp=>.nilp | .df=>.df | .dY=>.dY | .raw u=>.raw u | .nils z=>.nils z | .c0 z=>.c0 z
def I.cJ(ρ:Nat→Nat):List I→List I
 | []=>[]
 |x::xs=>x.aK ρ::I.cJ ρ xs
end
def ai.aK(ρ:Nat→Nat):ai→ai
 | .box x=>.box (x.aK ρ)
 | .bX T sz es=>.bX T sz (I.cJ ρ es)
 | .dQ x=>.dQ x
 | .cV T xs=>.cV T xs
 | .cv ks vs=>.cv (I.cJ ρ ks) (I.cJ ρ vs)
 | .it ks vs left cur=>.it (I.cJ ρ ks) (I.cJ ρ vs) left cur
mutual
theorem rF(ρ:Nat→Nat):∀ x:I,(x.aK ρ).size=x.size
 | .agg fs=>by simp only[I.aK,I.size];exact Np ρ fs
 | .undef | .dp | .bool _ | .int _ _ | .cY _ | .nilp | .df | .dY | .raw _ | .nils _ | .c0 _ | .slice _ _ | .tuple _ | .ref _ | .func _ _ | .iface _ _ | .ptr _ _ | .own _ _ | .view _ _ _ _ _ | .mref _ | .dv _ | .cI _ _=>by simp only[I.aK,I.size]
theorem Np(ρ:Nat→Nat):∀ xs:List I,I.sizes (I.cJ ρ xs)=I.sizes xs
 | []=>rfl
 |x::xs=>by simp only[I.cJ,I.sizes,rF ρ x,Np ρ xs]
end
mutual
theorem yA(ρ:Nat→Nat):∀ x:I,(x.aK ρ).aO=x.aO
 | .agg fs=>by simp only[I.aK,I.aO,cQ.ew.injEq];exact Nn ρ fs
 | .undef | .dp | .bool _ | .int _ _ | .cY _ | .nilp | .df | .dY | .raw _ | .nils _ | .c0 _ | .slice _ _ | .tuple _ | .ref _ | .func _ _ | .iface _ _ | .ptr _ _ | .own _ _ | .view _ _ _ _ _ | .mref _ | .dv _ | .cI _ _=>by simp only[I.aK,I.aO]
theorem Nn(ρ:Nat→Nat):∀ xs:List I,I.cX (I.cJ ρ xs)=I.cX xs
 | []=>rfl
 |x::xs=>by simp only[I.cJ,I.cX,yA ρ x,Nn ρ xs]
end
theorem ajr(ρ:Nat→Nat)(x:I):(x.aK ρ).isAgg=x.isAgg:=by cases x <;>simp[I.aK,I.isAgg]
theorem oM(ρ:Nat→Nat)(xs:List I):I.cJ ρ xs=xs.map (I.aK ρ):=by
 induction xs with
 |nil=>rfl
 |cons x xs ih=>simp[I.cJ,ih]
theorem rG(ρ:Nat→Nat)(xs:List I):(I.cJ ρ xs).length=xs.length:=by rw[oM];simp
theorem Ni(ρ:Nat→Nat)(x:I)(v:Value)(cs:List Value):bD (x.aK ρ) v cs=bD x v cs:=by simp only[bD,ajr]
mutual
/-- A value,its names put for others that stand for the same. -/
theorem ah.aK{w:World}{D:aM}{E E':aW}{p:Nat→Bool}{ρ:Nat→Nat}(aw:∀ n,p n=true→E' (ρ n)=E n):∀ (x:I) (cs:List Value),x.only p=true→(ah w D E' (x.aK ρ) cs↔ah w D E x cs)
 | .agg fs,cs,ho=>by simp only[ah,I.aK,I.only] at *;exact aI.aK aw fs cs ho
 | .bool b,cs,_ | .int k n,cs,_ | .cY s,cs,_ | .nilp,cs,_ | .df,cs,_ | .dY,cs,_ | .raw _,cs,_ | .nils _,cs,_ | .c0 _,cs,_ | .undef,cs,_ | .dp,cs,_ | .tuple _,cs,_=>by simp only[ah,I.aK]
 | .slice sz es,cs,ho=>by
  simp only[ah,I.aK,I.only,rG] at *;have e1:(I.cJ ρ es=[])↔es=[]:=by rw[←zv2,rG,zv2]
  have e2:(∀ e∈I.cJ ρ es,e.size=sz)↔∀ e∈es,e.size=sz:=by
   rw[oM];constructor
   ·intro h e he;rw[←rF ρ e];exact h _ (zx4.2 ⟨e,he,rfl⟩)
   ·intro h e he;obtain ⟨e',he',rfl⟩:=zx4.1 he;rw[rF];exact h _ he'
  simp only[e1,e2];constructor
  ·rintro ⟨a,cap,h1,h2,h3,h4,h5⟩;refine ⟨a,cap,h1,h2,h3,?_,h5⟩;rcases h4 with h4 | ⟨b,off,cs',h6,h7,h8⟩
   ·exact .inl h4
   ·exact .inr ⟨b,off,cs',h6,h7,(aI.aK aw es cs' ho).1 h8⟩
  ·rintro ⟨a,cap,h1,h2,h3,h4,h5⟩;refine ⟨a,cap,h1,h2,h3,?_,h5⟩;rcases h4 with h4 | ⟨b,off,cs',h6,h7,h8⟩
   ·exact .inl h4
   ·exact .inr ⟨b,off,cs',h6,h7,(aI.aK aw es cs' ho).2 h8⟩
 | .ref x,cs,ho=>by
  simp only[ah,I.aK,I.only] at *;constructor
  ·rintro ⟨b,off,cs',h1,h2,h3⟩;exact ⟨b,off,cs',h1,h2,(ah.aK aw x cs' ho).1 h3⟩
  ·rintro ⟨b,off,cs',h1,h2,h3⟩;exact ⟨b,off,cs',h1,h2,(ah.aK aw x cs' ho).2 h3⟩
 | .func f caps,cs,ho=>by
  simp only[ah,I.aK,I.only] at *;constructor
  ·rintro ⟨vs,h1,h2⟩;exact ⟨vs,h1,(aG.aK aw caps vs ho).1 h2⟩
  ·rintro ⟨vs,h1,h2⟩;exact ⟨vs,h1,(aG.aK aw caps vs ho).2 h2⟩
 | .iface t v,cs,ho=>by
  simp only[ah,I.aK,I.only,Ni] at *;constructor
  ·rintro ⟨u,cs',h1,h2,h3⟩;exact ⟨u,cs',h1,h2,(ah.aK aw v cs' ho).1 h3⟩
  ·rintro ⟨u,cs',h1,h2,h3⟩;exact ⟨u,cs',h1,h2,(ah.aK aw v cs' ho).2 h3⟩
 | .ptr n p,cs,ho=>by simp only[ah,I.aK,I.only] at *;rw[aw n ho]
 | .own n k,cs,ho=>by simp only[ah,I.aK,I.only] at *;rw[aw n ho]
 | .view n p _ _ _,cs,ho=>by simp only[ah,I.aK,I.only] at *;rw[aw n ho]
 | .mref n,cs,ho=>by simp only[ah,I.aK,I.only] at *;rw[aw n ho]
 | .dv n,cs,ho=>by simp only[ah,I.aK,I.only] at *;rw[aw n ho]
 | .cI ks vs,cs,ho=>by
  simp only[ah,I.aK,I.only,zz2] at *;constructor
  ·rintro ⟨b,es,ck,h1,h2,h3,h4⟩;exact ⟨b,es,ck,h1,h2,(aG.aK aw ks _ ho.1).1 h3,(aG.aK aw vs _ ho.2).1 h4⟩
  ·rintro ⟨b,es,ck,h1,h2,h3,h4⟩;exact ⟨b,es,ck,h1,h2,(aG.aK aw ks _ ho.1).2 h3,(aG.aK aw vs _ ho.2).2 h4⟩
theorem aI.aK{w:World}{D:aM}{E E':aW}{p:Nat→Bool}{ρ:Nat→Nat}(aw:∀ n,p n=true→E' (ρ n)=E n):∀ (xs:List I) (cs:List Value),I.bU p xs=true→(aI w D E' (I.cJ ρ xs) cs↔aI w D E xs cs)
 | [],cs,_=>by simp only[aI,I.cJ]
 |x::xs,cs,ho=>by
  simp only[aI,I.cJ,I.bU,zz2] at *;constructor
  ·rintro ⟨c1,c2,h1,h2,h3⟩;exact ⟨c1,c2,h1,(ah.aK aw x c1 ho.1).1 h2,(aI.aK aw xs c2 ho.2).1 h3⟩
  ·rintro ⟨c1,c2,h1,h2,h3⟩;exact ⟨c1,c2,h1,(ah.aK aw x c1 ho.1).2 h2,(aI.aK aw xs c2 ho.2).2 h3⟩
theorem aG.aK{w:World}{D:aM}{E E':aW}{p:Nat→Bool}{ρ:Nat→Nat}(aw:∀ n,p n=true→E' (ρ n)=E n):∀ (xs:List I) (vs:List Value),I.bU p xs=true→(aG w D E' (I.cJ ρ xs) vs↔aG w D E xs vs)
 | [],vs,_=>by simp only[aG,I.cJ]
 |x::xs,vs,ho=>by
  simp only[aG,I.cJ,I.bU,zz2,Ni] at *;constructor
  ·rintro ⟨v,rest,cs,h1,h2,h3,h4⟩;exact ⟨v,rest,cs,h1,h2,(ah.aK aw x cs ho.1).1 h3,(aG.aK aw xs rest ho.2).1 h4⟩
  ·rintro ⟨v,rest,cs,h1,h2,h3,h4⟩;exact ⟨v,rest,cs,h1,h2,(ah.aK aw x cs ho.1).2 h3,(aG.aK aw xs rest ho.2).2 h4⟩
end
theorem aV.aK{w:World}{D:aM}{E E':aW}{p:Nat→Bool}{ρ:Nat→Nat}(aw:∀ n,p n=true→E' (ρ n)=E n){x:I}{v:Value}(ho:x.only p=true):aV w D E' (x.aK ρ) v↔aV w D E x v:=by
 cases x <;>first
  |(simp only[aV,I.aK];done)
  |(simp only[aV,I.aK,I.only] at ho ⊢
    constructor
    ·rintro ⟨vs,h1,h2⟩;exact ⟨vs,h1,(aG.aK aw _ _ ho).1 h2⟩
    ·rintro ⟨vs,h1,h2⟩;exact ⟨vs,h1,(aG.aK aw _ _ ho).2 h2⟩)
  |(have key:=fun x cs=>ah.aK (w:=w) (D:=D) aw x cs
    refine exists_congr fun cs=>and_congr ?_ ?_
    ·first | exact Iff.rfl | simp only[bD,I.aK,I.isAgg]
    ·first | exact key _ cs ho | (have h:=key _ cs ho;simpa only[I.aK] using h))
mutual
/-- Values that read no memory: but they may name objects. -/
def I.c5:I→Bool
 | .agg fs | .tuple fs=>I.jb fs
 | .func _ caps=>I.jb caps
 | .iface _ v=>v.c5
 | .slice _ es=>es.isEmpty
 | .ref _ | .cI _ _=>false
 |_=>true
def I.jb:List I→Bool
 | []=>true
 |x::xs=>x.c5&&I.jb xs
end
def ai.c5:ai→Bool
 | .box x=>x.c5
 | .bX _ _ es=>I.jb es
 | .cV _ _=>true
 | .dQ _=>true
 | .cv ks vs=>I.jb ks&&I.jb vs
 | .it .. =>false
mutual
theorem ah.c5{w w':World}{D D':aM}{E:aW} : ∀ (x:I) (cs:List Value),x.c5=true→ah w D E x cs→ah w' D' E x cs
 | .agg fs,cs,hf,hr=>by simp only[ah,I.c5] at *;exact aI.c5 fs cs hf hr
 | .bool b,cs,_,hr | .int k n,cs,_,hr | .cY s,cs,_,hr | .nilp,cs,_,hr | .df,cs,_,hr | .dY,cs,_,hr | .raw _,cs,_,hr | .nils _,cs,_,hr | .c0 _,cs,_,hr
 | .ptr _ _,cs,_,hr | .own _ _,cs,_,hr | .view _ _ _ _ _,cs,_,hr | .mref _,cs,_,hr | .dv _,cs,_,hr=>by simpa only[ah] using hr
 | .func f caps,cs,hf,hr=>by
  simp only[ah,I.c5] at *;obtain ⟨vs,h1,h2⟩:=hr;exact ⟨vs,h1,aG.c5 caps vs hf h2⟩
 | .iface t v,cs,hf,hr=>by
  simp only[ah,I.c5] at *;obtain ⟨u,cs',h1,h2,h3⟩:=hr;exact ⟨u,cs',h1,h2,ah.c5 v cs' hf h3⟩
 | .slice sz es,cs,hf,hr=>by
  simp only[ah,I.c5,List.isEmpty_iff] at *;subst hf;obtain ⟨a,cap,h1,h2,h3,_,h5⟩:=hr;exact ⟨a,cap,h1,h2,h3,.inl rfl,h5⟩
 | .ref _,_,hf,_ | .cI _ _,_,hf,_=>by simp[I.c5] at hf
 | .undef,_,_,hr | .dp,_,_,hr | .tuple _,_,_,hr=>by simp only[ah] at hr
theorem aI.c5{w w':World}{D D':aM}{E:aW} : ∀ (xs:List I) (cs:List Value),I.jb xs=true→aI w D E xs cs→aI w' D' E xs cs
 | [],cs,_,hr=>by simpa only[aI] using hr
 |x::xs,cs,hf,hr=>by
  simp only[aI,I.jb,zz2] at *;obtain ⟨c1,c2,h1,h2,h3⟩:=hr;exact ⟨c1,c2,h1,ah.c5 x c1 hf.1 h2,aI.c5 xs c2 hf.2 h3⟩
theorem aG.c5{w w':World}{D D':aM}{E:aW} : ∀ (xs:List I) (vs:List Value),I.jb xs=true→aG w D E xs vs→aG w' D' E xs vs
 | [],vs,_,hr=>by simpa only[aG] using hr
 |x::xs,vs,hf,hr=>by
  simp only[aG,I.jb,zz2] at *;obtain ⟨v,rest,cs,h1,h2,h3,h4⟩:=hr;exact ⟨v,rest,cs,h1,h2,ah.c5 x cs hf.1 h3,aG.c5 xs rest hf.2 h4⟩
end
theorem aV.c5{w w':World}{D D':aM}{E:aW}{x:I}{v:Value}(hf:x.c5=true)(hr:aV w D E x v):aV w' D' E x v:=by
 cases x <;>simp only[aV] at * <;>first
  |exact hr
  |(obtain ⟨vs,h1,h2⟩:=hr;exact ⟨vs,h1,aG.c5 _ _ (by simpa[I.c5] using hf) h2⟩)
  |(obtain ⟨cs,h1,h2⟩:=hr;exact ⟨cs,h1,ah.c5 _ _ hf h2⟩)
def dH(ρ:List (Nat×Nat))(os:List (Nat×ai)):List (Nat×ai):=os.map fun q=>(bx ρ q.1,q.2.aK (bx ρ))
def pre(ρ:List (Nat×Nat))(os:List (Nat×ai))(n:Nat):Option Nat:=(os.find? fun q=>bx ρ q.1==n).map (·.1)
theorem xp{os:List (Nat×ai)}{m:Nat} : al os m=true↔∃ q∈os,q.1=m:=by
 induction os with
 |nil=>simp[al,ak]
 |cons q os ih =>
  obtain ⟨k,v⟩:=q;simp only[al,ak] at *;by_cases h:m=k
  ·subst h;simp
  ·simp only[if_neg h,ih,zw4,Prod.exists,exists_and_right,exists_eq_right];constructor
   ·rintro ⟨a,b⟩;exact ⟨a,.inr b⟩
   ·rintro ⟨a,b | b⟩
    ·cases b;exact absurd rfl h
    ·exact ⟨a,b⟩
theorem lW{ρ:List (Nat×Nat)}{os:List (Nat×ai)}{n m:Nat}(h:pre ρ os n=some m):al os m=true∧bx ρ m=n:=by
 simp only[pre,zz0] at h;obtain ⟨q,hq,rfl⟩:=h;exact ⟨xp.2 ⟨q,List.mem_of_find?_eq_some hq,rfl⟩,by simpa using List.find?_some hq⟩
theorem yj{ρ:List (Nat×Nat)}{os:List (Nat×ai)}{n m:Nat}(h:pre ρ os n=none)(hm:al os m=true):bx ρ m≠n:=by
 simp only[pre,Option.map_eq_none_iff,List.find?_eq_none] at h;obtain ⟨q,hq,rfl⟩:=xp.1 hm;simpa using h q hq
theorem rm(ρ:List (Nat×Nat))(os os0:List (Nat×ai))(n:Nat):ak (dH ρ os++os0) n=match pre ρ os n with
  |some m=>(ak os m).map (ai.aK (bx ρ))
  |none=>ak os0 n:=by
 induction os with
 |nil=>simp[dH,pre]
 |cons q os ih =>
  obtain ⟨k,v⟩:=q;simp only[dH,zz9,zy0,ak,pre,List.find?_cons] at *;by_cases h:bx ρ k=n
  ·subst h;simp
  ·rw[if_neg (Ne.symm h)];have hb:(bx ρ k==n)=false:=by simpa using h
   rw[hb,ih];simp only;cases hf:os.find? (fun q=>bx ρ q.1==n) with
   |none=>rfl
   |some q =>
    simp only[zy4];have hq:=List.find?_some hf;have hne:q.1≠k:=fun e=>h (by rw[←e];simpa using hq);rw[if_neg hne]
def aw(ρ:List (Nat×Nat))(os:List (Nat×ai))(E:aW):aW:=fun n=>if al os n then E (bx ρ n) else none
structure fZ (ρ:List (Nat×Nat)) (os os0:List (Nat×ai)):Prop where
 bN:∀ m x,ak os m=some x→ak os0 (bx ρ m)=some (x.aK (bx ρ))∧x.only (al os)=true∧x.eG=true
 inj:∀ m m',al os m=true→al os m'=true→bx ρ m=bx ρ m'→m=m'
structure eK (aA:Bool) (ρ:List (Nat×Nat)) (os os0:List (Nat×ai)) (r:I) (os':List (Nat×ai)):Prop where
 bN:∀ m x,ak os' m=some x→x.only (al os')=true∧x.eG=true∧(aA=true→x.c5=true)
 inj:∀ m m',al os' m=true→al os' m'=true→bx ρ m=bx ρ m'→m=m'
 old:∀ m,al os m=true→al os' m=true
 pV:∀ m,al os' m=true→al os m=false→ak os0 (bx ρ m)=none∧bx ρ m<1000000
 yB:r.only (al os')=true∧(aA=true→r.c5=true)
section
variable {c:cS} {a:Act} {w:World} {D:aM} {E:aW} {ts:List (Nat×I)} {os0 os:List (Nat×ai)} {ρ:List (Nat×Nat)}
theorem aS.given(hs:aS c (au ts os0) a w D E)(hg:fZ ρ os os0){m:Nat}(hm:al os m=true):∃ x e,ak os m=some x∧aw ρ os E m=some e∧E (bx ρ m)=some e∧dg (fun _=>True) w D (aw ρ os E) m (some x) ∧
  ∀ b,e.aE=some b→c.fj b∧(∃ o,w.heap[b]?=some o∧xW o=true)∧b<w.heap.size∧(e.eG=true→∀ o,¬ D b o):=by
 cases hx:ak os m with
 |none=>simp[al,hx] at hm
 |some x =>
  obtain ⟨h1,h2,h3⟩:=hg.bN m x hx;have ho:=hs.bT (bx ρ m);simp only[au] at ho;rw[h1] at ho;have hEm:aw ρ os E m=E (bx ρ m):=by simp only[aw,hm,if_true]
  have hin:∀ n,al os n=true→E (bx ρ n)=aw ρ os E n:=fun n hn=>by simp only[aw,hn,if_true]
  cases x with
  |bX T sz es =>
   obtain ⟨aE,k1,k2,k3⟩:=ho;rw[rG] at k1;have h2':I.bU (al os) es=true:=h2;have k2':∀ e∈es,e.size=sz:=fun e he=>by rw[←rF (bx ρ) e];exact k2 _ (by rw[oM];exact zx4.2 ⟨e,he,rfl⟩)
   refine ⟨_,_,rfl,hEm.trans k1,k1,⟨aE,hEm.trans k1,k2',?_⟩,fun b hb =>?_⟩
   ·cases aE with
    |none=>simp only[oM,List.map_eq_nil_iff] at k3;exact k3
    |some bc =>
     obtain ⟨b,cap⟩:=bc;obtain ⟨cs,pr,rest,q1,q2,q3,q4,q5,q6,q7,q8⟩:=k3;rw[rG] at q6;exact ⟨cs,pr,rest,trivial,q2,q3,(aI.aK (p:=al os) hin es _ h2').1 q4,q5,q6,q7,q8⟩
   ·cases aE with
    |none=>cases hb
    |some bc =>
     obtain ⟨b',cap⟩:=bc;cases hb;obtain ⟨cs,pr,rest,q1,q2,_⟩:=k3;exact ⟨q1,⟨_,q2,rfl⟩,fW q2,fun h=>by cases h⟩
  |box y =>
   obtain ⟨b,cs,T,k1,k2,k3,k4,k5⟩:=ho;rw[yA] at k1;refine ⟨_,_,rfl,hEm.trans k1,k1,⟨b,cs,T,hEm.trans k1,trivial,k3,?_,k5⟩,fun b' hb =>?_⟩
   ·exact (ah.aK (p:=al os) hin y _ (by simpa[ai.only] using h2)).1 k4
   ·cases hb;exact ⟨k2,⟨_,k3,rfl⟩,fW k3,fun _=>k5⟩
  |dQ o =>
   obtain ⟨b,k1,k2,k3,k4,k5⟩:=ho;exact ⟨_,_,rfl,hEm.trans k1,k1,⟨b,hEm.trans k1,trivial,k3,k4,k5⟩,fun b' hb=>by cases hb;exact ⟨k2,⟨_,k3,ahC k4⟩,fW k3,fun _=>k5⟩⟩
  |cv ks vs =>
   obtain ⟨b,es,ck,k1,k2,k3,k4,k5,k6,k7⟩:=ho;simp only[ai.only,zz2] at h2;exact ⟨_,_,rfl,hEm.trans k1,k1,⟨b,es,ck,hEm.trans k1,trivial,k3,k4,(aG.aK (p:=al os) hin ks _ h2.1).1 k5,(aG.aK (p:=al os) hin vs _ h2.2).1 k6,k7⟩,
    fun b' hb=>by cases hb;exact ⟨k2,⟨_,k3,rfl⟩,fW k3,fun _=>k7⟩⟩
  |it ks vs left cur=>cases h3
  |cV T xs =>
   obtain ⟨aE,k1,k2,k3⟩:=ho;refine ⟨_,_,rfl,hEm.trans k1,k1,⟨aE,hEm.trans k1,k2,?_⟩,fun b hb =>?_⟩
   ·cases aE with
    |none=>exact k3
    |some bc =>
     obtain ⟨b,cap⟩:=bc;obtain ⟨cs,r,q1,q2⟩:=k3;exact ⟨cs,r,trivial,q2⟩
   ·cases aE with
    |none=>cases hb
    |some bc =>
     obtain ⟨b',cap⟩:=bc;cases hb;obtain ⟨cs,r,q1,q2,_⟩:=k3;exact ⟨q1,⟨_,q2,rfl⟩,fW q2,fun h=>by cases h⟩
theorem aS.sX(hs:aS c (au ts os0) a w D E)(hg:fZ ρ os os0){b:Nat}(hb:dz (aw ρ os E) b):∃ m e,al os m=true∧E (bx ρ m)=some e∧e.aE=some b∧c.fj b∧(∃ o,w.heap[b]?=some o∧xW o=true)∧b<w.heap.size:=by
 obtain ⟨m,e,h1,h2⟩:=hb;by_cases hm:al os m=true
 ·obtain ⟨x,e',k1,k2,k3,k4,k5⟩:=hs.given hg hm;rw[k2,u8] at h1;subst h1;obtain ⟨q1,q2,q3,_⟩:=k5 b h2;exact ⟨m,_,hm,k3,h2,q1,q2,q3⟩
 ·simp[aw,hm] at h1
theorem aS.Jt(hs:aS c (au ts os0) a w D E)(hg:fZ ρ os os0){D1:aM}(hD:∀ b o,D b o→D1 b o)(hown:∀ b o,D1 b o→dz (aw ρ os E) b→D b o):lp (fun _=>True) w D1 (aw ρ os E) (ak os):=by
 refine ⟨fun n =>?_,fun n m e e' b h1 h2 h3 h4 =>?_⟩
 ·cases hx:ak os n with
  |none=>simp[dg,aw,al,hx]
  |some x =>
   have hm:al os n=true:=by simp[al,hx]
   obtain ⟨y,e,k1,k2,k3,k4,k5⟩:=hs.given hg hm;rw[hx,u8] at k1;subst k1;refine k4.bI (E':=aw ρ os E) ⟨hD,fun _ _ _ _ h=>h,fun _ _ _ h=>h,fun _ aE l h=>⟨aE,l,h,zz7 _,fun _=>rfl⟩,fun _ _ h=>h,fun _ _ h=>h,fun _ _ _ _ h=>h⟩ rfl fun e' b' he hb'=>⟨rfl,fun o ho =>?_⟩
   exact hown b' o ho ⟨n,e',he,hb'⟩
 ·have hn:al os n=true:=by
   by_cases h:al os n=true;· exact h
   ·simp[aw,h] at h1
  have hm:al os m=true:=by
    by_cases h:al os m=true;· exact h
    ·simp[aw,h] at h2
  simp only[aw,hn,hm,if_true] at h1 h2;exact hg.inj n m hn hm (hs.cU _ _ e e' b h1 h2 h3 h4)
theorem aS.pk(hs:aS c (au ts os0) a w D E)(hg:fZ ρ os os0){aA:Bool}{D1:aM}(hD:∀ b o,D b o→D1 b o)(hbx:aA=false→∀ b o,D1 b o→D b o){w':World}{D':aM}{E':aW}{v:Value}{r:I}{os':List (Nat×ai)}
  (hb:eK aA ρ os os0 r os') (hr:aV w' D' E' r v) (hh:lp (fun b=>w.heap.size≤b∨dz (aw ρ os E) b) w' D' E' (ak os')) (hk:fO (fun b=>w.heap.size≤b∨dz (aw ρ os E) b) w w')
  (hlive:∀ b o,D' b o→b<w'.heap.size) (hup:∀ b o,D1 b o→D' b o) (hst:iq w D1 w') (hold:∀ b o,D' b o→b<w.heap.size→¬ dz (aw ρ os E) b→D1 b o) (hbox:∀ n e,aw ρ os E n=some e→al os' n=true→∃ e',E' n=some e'∧e.le e') :
  ∃ D2 E2,aS c (au ts (dH ρ os'++os0)) a w' D2 E2∧aV w' D2 E2 (r.aK (bx ρ)) v∧∀ m e,aw ρ os E m=some e→al os' m=true→∃ e',E2 (bx ρ m)=some e'∧e.le e':=by
 obtain ⟨M1,hM1⟩:∃ M1:Nat→Prop,M1=fun b=>w.heap.size≤b∨dz (aw ρ os E) b:=⟨_,rfl⟩
 rw[←hM1] at hh hk;obtain ⟨D2,hD2⟩:∃ D2:aM,D2=fun b o=>D b o∨(M1 b∧D' b o):=⟨_,rfl⟩
 obtain ⟨E2,hE2⟩:∃ E2:aW,E2=fun n=>match pre ρ os' n with | some m=>E' m | none=>E n:=⟨_,rfl⟩
 have mF:∀ b,M1 b→c.fj b:=fun b hb'=>by
  rw[hM1] at hb';rcases hb' with h | h
  ·exact .inl (zv8 hs.dZ.size h)
  ·obtain ⟨m,e,_,_,_,h3,_⟩:=hs.sX hg h;exact h3
 have upD:∀ b o,D b o→D' b o:=fun b o hd=>hup b o (hD b o hd);have E2m:∀ m,al os' m=true→E2 (bx ρ m)=E' m:=fun m hm=>by
  rw[hE2];simp only;cases hp:pre ρ os' (bx ρ m) with
  |none=>exact absurd rfl (yj hp hm)
  |some m' =>
   obtain ⟨h1,h2⟩:=lW hp;rw[hb.inj m' m h1 hm h2]
 have E2o:∀ n,pre ρ os' n=none→E2 n=E n:=fun n hn=>by rw[hE2];simp only[hn]
 -- a name that has a new meaning: one that was handed over,or one that was free
 have cas:∀ n m,pre ρ os' n=some m→(al os m=true∧∃ e e',E n=some e∧E' m=some e'∧e.le e')∨(al os m=false∧E n=none∧c.dM n=none):=fun n m hp=>by
  obtain ⟨h1,h2⟩:=lW hp;cases hm:al os m with
  |true =>
   obtain ⟨y,e,k1,k2,k3,_⟩:=hs.given hg hm;rw[h2] at k3;obtain ⟨e',q1,q2⟩:=hbox m e k2 h1;exact .inl ⟨rfl,e,e',k3,q1,q2⟩
  |false =>
   obtain ⟨k1,k2⟩:=hb.pV m h1 hm;rw[h2] at k1 k2;have ho:=hs.bT n;simp only[au,k1] at ho;exact .inr ⟨rfl,ho,hs.kh (.inr k2)⟩
 have hl:dS w D E w' D2 E2:=by
  have fR:∀ n e,E n=some e→∃ e',E2 n=some e'∧e.le e':=fun n e he=>by
   cases hp:pre ρ os' n with
   |none=>exact ⟨e,by rw[E2o n hp];exact he,.refl e⟩
   |some m =>
    rw[hE2];simp only[hp];rcases cas n m hp with ⟨_,e1,e2,k1,k2,k3⟩ | ⟨_,k1,_⟩
    ·rw[he] at k1;cases k1;exact ⟨e2,k2,k3⟩
    ·rw[he] at k1;cases k1
  have keepf:∀ n e,E n=some e→e.eG=true→E2 n=some e:=fun n e he hf=>by
   obtain ⟨e',k1,k2⟩:=fR n e he;rw[k1,k2.eq hf]
  refine ⟨fun b o h=>by rw[hD2];exact .inl h,fun b o v' hd hv=>hst.cell b o v' (hD b o hd) hv,fun n b aO he=>keepf n _ he rfl,fun n aE l he =>?_,fun n b he=>keepf n _ he rfl,fun n b he=>keepf n _ he rfl,fun b es ck hd hm=>hst.jA b es ck (hD b 0 hd) hm⟩;obtain ⟨e',k1,k2⟩:=fR n _ he;rcases k2 with rfl | ⟨_,_,blk',l',e,rfl,k3,k4⟩
  ·exact ⟨aE,l,k1,zz7 _,fun _=>rfl⟩
  ·cases e;exact ⟨blk',l',k1,k3,k4⟩
 -- blocks of names that were not handed over
 have other:∀ n e b,pre ρ os' n=none→E n=some e→e.aE=some b→¬ M1 b:=fun n e b hp he hb' hm=>by
  rw[hM1] at hm;rcases hm with h | h
  ·exact absurd (hs.fV he hb') (by omega)
  ·obtain ⟨m,e',h1,h2,h3,_⟩:=hs.sX hg h;have:=hs.cU n (bx ρ m) e _ b he h2 hb' h3;exact yj hp (hb.old m h1) this.symm
 have toD2:∀ {x:I} {cs:List Value},(aA=true→x.c5=true)→ah w' D' E2 x cs→ah w' D2 E2 x cs:=fun {x cs} hx h=>by
  cases hbb:aA with
  |true=>exact ah.c5 x cs (hx hbb) h
  |false =>
   refine ah.bI (E:=E2) ⟨fun b o hd =>?_,fun _ _ _ _ h=>h,fun _ _ _ h=>h,fun _ aE l h=>⟨aE,l,h,zz7 _,fun _=>rfl⟩,fun _ _ h=>h,fun _ _ h=>h,fun _ _ _ _ h=>h⟩ x cs h;rw[hD2];by_cases hm:M1 b
   ·exact .inr ⟨hm,hd⟩
   ·rw[hM1] at hm;exact .inl (hbx hbb b o (hold b o hd (Nat.lt_of_not_le fun h=>hm (.inl h)) fun h=>hm (.inr h)))
 have toD2c:∀ {xs:List I} {cs:List Value},I.bU (al os') xs=true→(aA=true→I.jb xs=true)→aI w' D' E' xs cs→aI w' D2 E2 (I.cJ (bx ρ) xs) cs:=fun {xs cs} ho hx h=>by
  cases hbb:aA with
  |true=>exact (aI.aK (w:=w') (D:=D2) (p:=al os') (ρ:=bx ρ) (E:=E') (E':=E2) (fun n hn=>E2m n hn) xs cs ho).2 (aI.c5 xs cs (hx hbb) h)
  |false =>
   have h2:=(aI.aK (w:=w') (D:=D') (p:=al os') (ρ:=bx ρ) (E:=E') (E':=E2) (fun n hn=>E2m n hn) xs cs ho).2 h;refine aI.bI (E:=E2) ⟨fun b o hd =>?_,fun _ _ _ _ h=>h,fun _ _ _ h=>h,fun _ aE l h=>⟨aE,l,h,zz7 _,fun _=>rfl⟩,fun _ _ h=>h,fun _ _ h=>h,fun _ _ _ _ h=>h⟩ _ cs h2;rw[hD2];by_cases hm:M1 b
   ·exact .inr ⟨hm,hd⟩
   ·rw[hM1] at hm;exact .inl (hbx hbb b o (hold b o hd (Nat.lt_of_not_le fun h=>hm (.inl h)) fun h=>hm (.inr h)))
 have toD2s:∀ {xs:List I} {cs:List Value},I.bU (al os') xs=true→(aA=true→I.jb xs=true)→aG w' D' E' xs cs→aG w' D2 E2 (I.cJ (bx ρ) xs) cs:=fun {xs cs} ho hx h=>by
  cases hbb:aA with
  |true=>exact (aG.aK (w:=w') (D:=D2) (p:=al os') (ρ:=bx ρ) (E:=E') (E':=E2) (fun n hn=>E2m n hn) xs cs ho).2 (aG.c5 xs cs (hx hbb) h)
  |false =>
   have h2:=(aG.aK (w:=w') (D:=D') (p:=al os') (ρ:=bx ρ) (E:=E') (E':=E2) (fun n hn=>E2m n hn) xs cs ho).2 h;refine aG.bI (E:=E2) ⟨fun b o hd =>?_,fun _ _ _ _ h=>h,fun _ _ _ h=>h,fun _ aE l h=>⟨aE,l,h,zz7 _,fun _=>rfl⟩,fun _ _ h=>h,fun _ _ h=>h,fun _ _ _ _ h=>h⟩ _ cs h2;rw[hD2];by_cases hm:M1 b
   ·exact .inr ⟨hm,hd⟩
   ·rw[hM1] at hm;exact .inl (hbx hbb b o (hold b o hd (Nat.lt_of_not_le fun h=>hm (.inl h)) fun h=>hm (.inr h)))
 refine ⟨D2,E2,⟨hs.sz,hs.eU.mono fun B _ hB =>?_,fun t=>aV.bI hl (hs.eB t),hs.dZ.trans ⟨hk.os,hk.tape,hk.output,hk.size,fun k hk'=>hk.block k fun h=>hk' (mF k h)⟩,fun b o hd hm =>?_,fun b o hd =>?_,fun n =>?_,?_,fun n e hn =>?_,hs.fb,
  fun b o hd=>hl.da b o (hs.cO b o hd),hs.fg,hs.lg hl⟩,?_,fun m e k1 k3=>by rw[E2m m k3];exact hbox m e k1 k3⟩
 ·refine (hk.block B fun hm =>?_).trans hB;rw[hM1] at hm;rcases hm with h | h
  ·exact absurd (zx9.1 hB).1 (by omega)
  ·obtain ⟨m,e,_,_,_,_,⟨o,h4,h5⟩,_⟩:=hs.sX hg h;rw[hB] at h4;cases h4;cases h5
 ·rw[hD2] at hd;rcases hd with hd | ⟨h1,_⟩
  ·exact hs.da b o hd hm
  ·exact absurd (mF b h1) hm
 ·rw[hD2] at hd;rcases hd with hd | ⟨_,h1⟩
  ·exact Nat.lt_of_lt_of_le (hs.dq b o hd) hk.size
  ·exact hlive b o h1
 ·simp only[au,rm];cases hp:pre ρ os' n with
  |none =>
   simp only;refine (hs.bT n).bI hl (E2o n hp) fun e b he hb'=>⟨hk.block b (other n e b hp he hb'),fun o ho =>?_⟩
   rw[hD2] at ho;rcases ho with ho | ⟨h1,_⟩
   ·exact ho
   ·exact absurd h1 (other n e b hp he hb')
  |some m =>
   simp only;obtain ⟨h1,h2⟩:=lW hp;cases hx:ak os' m with
   |none=>simp[al,hx] at h1
   |some x =>
    obtain ⟨k1,kf,k2⟩:=hb.bN m x hx;have ho:=hh.bT m;rw[hx] at ho;have noD:∀ b,(∀ o,¬ D' b o)→∀ o,¬ D2 b o:=fun b hno o ho=>by
     rw[hD2] at ho;rcases ho with ho | ⟨_,ho⟩
     ·exact hno o (upD b o ho)
     ·exact hno o ho
    cases x with
    |bX T sz es =>
     obtain ⟨aE,q1,q2,q3⟩:=ho;simp only[zy4,ai.aK,dg,rG];refine ⟨aE,by rw[←h2,E2m m h1];exact q1,fun e he =>?_,?_⟩
     ·rw[oM] at he;obtain ⟨e',he',rfl⟩:=zx4.1 he;rw[rF];exact q2 e' he'
     ·cases aE with
      |none=>simp only at q3 ⊢;rw[q3];rfl
      |some bc =>
       obtain ⟨b,cap⟩:=bc;obtain ⟨cs,pr,rest,g1,g2,g3,g4,g5,g6,g7,g8⟩:=q3;refine ⟨cs,pr,rest,mF b g1,g2,g3,toD2c (by simpa[ai.only] using k1) (fun h=>by simpa[ai.c5] using k2 h) g4,g5,g6,g7,fun o ho =>?_⟩;rw[hD2] at ho;rcases ho with ho | ⟨_,ho⟩
       ·exact g8 o (upD b o ho)
       ·exact g8 o ho
    |cV T xs =>
     obtain ⟨aE,q1,q2,q3⟩:=ho;simp only[zy4,ai.aK,dg];refine ⟨aE,by rw[←h2,E2m m h1];exact q1,q2,?_⟩;cases aE with
     |none=>exact q3
     |some bc =>
      obtain ⟨b,cap⟩:=bc;obtain ⟨cs,r,g1,g2,g3,g4,g5,g6,g7⟩:=q3;exact ⟨cs,r,mF b g1,g2,g3,g4,g5,g6,noD b g7⟩
    |dQ x =>
     obtain ⟨b,q1,q2,q3,q4,q5⟩:=ho;simp only[zy4,ai.aK,dg];exact ⟨b,by rw[←h2,E2m m h1];exact q1,mF b q2,q3,q4,noD b q5⟩
    |it ks vs left cur=>cases kf
    |cv ks vs =>
     obtain ⟨b,es,ck,q1,q2,q3,q4,q5,q6,q7⟩:=ho;simp only[zy4,ai.aK,dg];simp only[ai.only,zz2] at k1;simp only[ai.c5,zz2] at k2;exact ⟨b,es,ck,by rw[←h2,E2m m h1];exact q1,mF b q2,q3,q4,toD2s k1.1 (fun h=>(k2 h).1) q5,toD2s k1.2 (fun h=>(k2 h).2) q6,noD b q7⟩
    |box y =>
     obtain ⟨b,cs,T,q1,q2,q3,q4,q5⟩:=ho;simp only[zy4,ai.aK,dg];refine ⟨b,cs,T,by rw[yA,←h2,E2m m h1];exact q1,mF b q2,q3,?_,noD b q5⟩;have h3:=(ah.aK (w:=w') (D:=D') (p:=al os') (ρ:=bx ρ) (E:=E') (E':=E2) (fun n hn=>E2m n hn) y cs.toList (by simpa[ai.only] using k1)).2 q4;cases hbb:aA with
     |true =>
      have h4:ah w' D2 E' y cs.toList:=ah.c5 y _ (k2 hbb) q4;exact (ah.aK (w:=w') (D:=D2) (p:=al os') (ρ:=bx ρ) (E:=E') (E':=E2) (fun n hn=>E2m n hn) y cs.toList (by simpa[ai.only] using k1)).2 h4
     |false=>exact toD2 (fun h=>by rw[hbb] at h;cases h) h3
 ·intro n m e e' b h1 h2 h3 h4;have blk':∀ n m e,pre ρ os' n=some m→E2 n=some e→e.aE=some b→M1 b∧E' m=some e:=fun n m e hp he hb'=>by
   obtain ⟨k1,k2⟩:=lW hp;rw[←k2,E2m m k1] at he;cases hx:ak os' m with
   |none=>simp[al,hx] at k1
   |some x =>
    obtain ⟨_,kf,_⟩:=hb.bN m x hx;have ho:=hh.bT m;rw[hx] at ho;cases x with
    |bX T sz es =>
     obtain ⟨aE,q1,q2,q3⟩:=ho;rw[q1,u8] at he;subst he;cases aE with
     |none=>cases hb'
     |some bc =>
      obtain ⟨b',cap⟩:=bc;cases hb';obtain ⟨cs,pr,rest,g1,_⟩:=q3;exact ⟨g1,q1⟩
    |it ks vs left cur=>cases kf
    |cV T xs =>
     obtain ⟨aE,q1,q2,q3⟩:=ho;rw[q1,u8] at he;subst he;cases aE with
     |none=>cases hb'
     |some bc =>
      obtain ⟨b',cap⟩:=bc;cases hb';obtain ⟨cs,r,g1,_⟩:=q3;exact ⟨g1,q1⟩
    |cv ks vs =>
     obtain ⟨b',es,ck,q1,q2,_⟩:=ho;rw[q1,u8] at he;subst he;cases hb';exact ⟨q2,q1⟩
    |dQ x =>
     obtain ⟨b',q1,q2,_⟩:=ho;rw[q1,u8] at he;subst he;cases hb';exact ⟨q2,q1⟩
    |box y =>
     obtain ⟨b',cs,T,q1,q2,_⟩:=ho;rw[q1,u8] at he;subst he;cases hb';exact ⟨q2,q1⟩
  cases hn:pre ρ os' n with
  |none =>
   have g1:E n=some e:=by rw[←E2o n hn];exact h1
   cases hm:pre ρ os' m with
   |none=>exact hs.cU n m e e' b g1 (by rw[←E2o m hm];exact h2) h3 h4
   |some m'=>exact absurd (blk' m m' e' hm h2 h4).1 (other n e b hn g1 h3)
  |some n' =>
   have g1:=blk' n n' e hn h1 h3;cases hm:pre ρ os' m with
   |none=>exact absurd g1.1 (other m e' b hm (by rw[←E2o m hm];exact h2) h4)
   |some m' =>
    have g2:=blk' m m' e' hm h2 h4;have:=hh.cU n' m' e e' b g1.2 g2.2 h3 h4;rw[←(lW hn).2,←(lW hm).2,this]
 ·cases hp:pre ρ os' n with
  |none=>rw[E2o n hp];exact hs.ed n e hn
  |some m =>
   rcases cas n m hp with ⟨_,e1,e2,k1,k2,k3⟩ | ⟨_,_,k1⟩
   ·rcases hs.ed n e hn with h | ⟨e3,h,h'⟩
    ·rw[h] at k1;cases k1
    ·rw[k1,u8] at h;subst h
     right
     rw[hE2];simp only[hp];exact ⟨e2,k2,h'.trans k3⟩
   ·rw[hn] at k1;cases k1
 ·have h3:=(aV.aK (w:=w') (p:=al os') (ρ:=bx ρ) (E:=E') (E':=E2) (D:=D') (fun n hn=>E2m n hn) (v:=v) hb.yB.1).2 hr;cases hbb:aA with
  |true=>exact (aV.aK (w:=w') (p:=al os') (ρ:=bx ρ) (E:=E') (E':=E2) (D:=D2) (fun n hn=>E2m n hn) (v:=v) hb.yB.1).2 (aV.c5 (hb.yB.2 hbb) hr)
  |false =>
   refine aV.bI (E:=E2) ⟨fun b o hd =>?_,fun _ _ _ _ h=>h,fun _ _ _ h=>h,fun _ aE l h=>⟨aE,l,h,zz7 _,fun _=>rfl⟩,fun _ _ h=>h,fun _ _ h=>h,fun _ _ _ _ h=>h⟩ h3;rw[hD2];by_cases hm:M1 b
   ·exact .inr ⟨hm,hd⟩
   ·rw[hM1] at hm;exact .inl (hbx hbb b o (hold b o hd (Nat.lt_of_not_le fun h=>hm (.inl h)) fun h=>hm (.inr h)))
end
theorem uE(z:Array Value):∀ n:Nat,(Builtin.zeroCells z n).toList=(List.replicate n z.toList).flatten
 |0=>by simp[Builtin.zeroCells]
 |n+1=>by
  rw[List.replicate_succ,List.flatten_cons,←uE z n];apply List.ext_getElem?;intro i;by_cases hz:z.size=0
  ·have hz':z = #[]:=Array.eq_empty_of_size_eq_zero hz;subst hz';simp[Builtin.zeroCells]
  have hpos:0<z.size:=Nat.pos_of_ne_zero hz;by_cases hi:i<z.toList.length
  ·rw[zy7 hi];have hi':i<z.size:=by simpa using hi
   have h1:i<(n+1)*z.size:=by rw[Nat.succ_mul];omega
   simp only[Builtin.zeroCells,Array.toList_map,Array.toList_range,zw2,List.getElem?_range h1,zy4,Nat.mod_eq_of_lt hi'];simp[hi']
  ·rw[zx7 (by omega)];have hi':z.size≤i:=by simpa using hi
   simp only[Builtin.zeroCells,Array.toList_map,Array.toList_range,zw2,zv1];by_cases h2:i<(n+1)*z.size
   ·have h3:i-z.size<n*z.size:=by rw[Nat.succ_mul] at h2;omega
    rw[List.getElem?_range h2,List.getElem?_range h3];simp only[zy4];rw[←Nat.mod_eq_sub_mod hi']
   ·have h3:¬ i-z.size<n*z.size:=by rw[Nat.succ_mul] at h2;omega
    rw[List.getElem?_eq_none (by simpa using h2),List.getElem?_eq_none (by simpa using h3)]
theorem rE{w:World}{D:aM}{E:aW}{z:I}{cs:List Value}(h:ah w D E z cs):∀ n:Nat,aI w D E (List.replicate n z) (List.replicate n cs).flatten
 |0=>by simp[aI]
 |n+1=>by
  simp only[List.replicate_succ,List.flatten_cons,aI];exact ⟨cs,_,rfl,h,rE h n⟩
def eI(A:ae)(sz:Nat):I→Option (List I)
 | .slice z es=>if z=sz then some es else none
 | .nils _=>some []
 | .c0 _=>some []
 | .own n l=>match A.o n with
  |some (.bX _ z es)=>if l=es.length∧z=sz then some es else none
  |_=>none
 | .view n p z lo k=>match cB A (.ptr n p) with
  |some (.agg fs)=>if lo+k≤fs.length∧z=sz then some ((fs.drop lo).take k) else none
  |_=>none
 |_=>none
section
variable {c:cS} {A:ae} {a:Act} {w:World} {D:aM} {E:aW}
theorem aS.view(h:aS c A a w D E){n:Nat}{p:List Nat}{sz lo k:Nat}{v:Value}{fs:List I}(hv:aV w D E (.view n p sz lo k) v)(hx:cB A (.ptr n p)=some (.agg fs)) :
  ∃ y b cs T off c1 c2 c3,A.o n=some (.box y)∧E n=some (.aA b y.aO)∧w.heap[b]?=some (.cells cs T (0,0))∧y.at p=some (.agg fs)∧y.aO.off p=some off∧cs.toList=c1++c2++c3∧c1.length=off∧aI w D E fs c2 ∧
   ah w D E y cs.toList∧(∀ f∈fs,f.size=sz)∧lo+k≤fs.length∧fs.length≤maxLen∧v=.slice (some ⟨b,off+lo*sz,none⟩) k (fs.length-lo):=by
 obtain ⟨z,b',cs',T,off',c1,c2,c3,k1,k2,_,k3,k4,k5,k6,k7,k8,k9,_⟩:=h.at hx;obtain ⟨vs,g1,g2⟩:=hv;simp only[ah] at g2;obtain ⟨b,aO,off,l,h1,h2,h3,h4,h5,h6,h7⟩:=g2;rw[k2] at h1;simp only[u8,bR.aA.injEq] at h1;obtain ⟨rfl,rfl⟩:=h1;rw[k5,u8] at h2;subst h2;rw[mW p z _ k4] at h3;simp only[I.aO,u8,cQ.ew.injEq] at h3;subst h3;rw[I.dw,zy2] at h4 h5 h6;refine ⟨z,b',cs',T,off',c1,c2,c3,k1,k2,k3,k4,k5,k6,k7,by simpa only[ah] using k8,k9,NO h7,h6,h5,?_⟩;simpa[bD,I.isAgg,h4] using g1.symm
theorem aS.nP(h:aS c A a w D E){sz:Nat}{x:I}{v:Value}{ys:List I}(hv:aV w D E x v)(hs:eI A sz x=some ys) :
  ∃ ad cp news,v=.slice ad ys.length cp∧ys.length≤cp∧cp≤maxLen∧aI w D E ys news∧(∀ y∈ys,y.size=sz)∧(ys≠[]→∃ b o,ad=some ⟨b,o,none⟩∧∀ j u,news[j]?=some u→w.cell? ⟨b,o+j,none⟩=some u):=by
 cases x <;>simp only[eI] at hs <;>try (cases hs;done)
 case nils z =>
  simp only[u8] at hs;subst hs;obtain ⟨cs,q1,q2⟩:=hv;simp only[ah] at q2;exact ⟨none,0,[],by simpa[bD,I.isAgg,q2] using q1.symm,by simp,by simp[maxLen],by simp[aI],by simp,fun h=>absurd rfl h⟩
 case c0 z =>
  simp only[u8] at hs;subst hs;obtain ⟨cs,q1,q2⟩:=hv;simp only[ah] at q2;obtain ⟨ad,q2⟩:=q2;exact ⟨ad,0,[],by simpa[bD,I.isAgg,q2] using q1.symm,by simp,by simp[maxLen],by simp[aI],by simp,fun h=>absurd rfl h⟩
 case slice z es =>
  split at hs
  ·rename_i hz;simp only[u8] at hs;subst hs hz;obtain ⟨ad,cap,e1,e2,e3,e4,e5⟩:=nN hv;rcases e4 with rfl | ⟨b,off,cs,rfl,q1,q2⟩
   ·exact ⟨ad,cap,[],e1,e2,e3,by simp[aI],by simp,fun h=>absurd rfl h⟩
   ·exact ⟨_,cap,cs,e1,e2,e3,q2,e5,fun _=>⟨b,off,rfl,fun j u hj=>(q1 j u hj).1⟩⟩
  ·cases hs
 case own n l =>
  split at hs
  ·rename_i T z es hn;split at hs
   ·rename_i hz;obtain ⟨hz1,rfl⟩:=hz;simp only[u8] at hs;subst hs;obtain ⟨aE,k1,k2,k3⟩:=h.bX hn;obtain ⟨cs,q1,q2⟩:=hv;simp only[ah] at q2;obtain ⟨blk',l',g1,g2,_,g4⟩:=q2;rw[k1] at g1;simp only[u8,bR.rw.injEq] at g1;obtain ⟨rfl,rfl⟩:=g1
    replace g4:=g4 hz1
    cases aE with
    |none =>
     simp only at k3 g4;subst k3;have hv':v=.slice none 0 0:=by rw[g4] at q1;simpa[bD,I.isAgg] using q1.symm
     exact ⟨none,0,[],hv',by simp,by simp[maxLen],by simp[aI],by simp,fun h=>absurd rfl h⟩
    |some bc =>
     obtain ⟨b,cap⟩:=bc;simp only at g4;obtain ⟨cs',pre,rest,k4,k5,k6,k7,k8,k9,k10,k11⟩:=k3;refine ⟨some ⟨b,0,none⟩,cap,pre,by rw[←hz1];simpa[bD,I.isAgg,g4] using q1.symm,k9,k10,k7,k2,fun _=>⟨b,0,rfl,fun j u hj =>?_⟩⟩;have:=(oI (D:=fun _ _=>True) (c1:=[]) (c2:=pre) (c3:=rest) k5 (by simpa using k6) (fun _ _=>trivial)) j u hj;simpa using this.1
   ·cases hs
  ·cases hs
 case view n p z lo k =>
  split at hs
  ·rename_i fs hx;split at hs
   ·rename_i hk;obtain ⟨hk,rfl⟩:=hk;simp only[u8] at hs;subst hs;obtain ⟨y,b,cs,T,off,c1,c2,c3,k1,k2,k3,k4,k5,k6,k7,k8,k9,k10,k11,k12,rfl⟩:=h.view hv hx;obtain ⟨d1,d2,d3,rfl,q1,q2,q3⟩:=tY k8 k10 lo k hk;have hlen:((fs.drop lo).take k).length=k:=by rw[zx3,zx0];omega
    refine ⟨some ⟨b,off+lo*z,none⟩,fs.length-lo,d2,by rw[hlen],by rw[hlen];omega,by omega,q2,fun y hy=>k10 y (List.mem_of_mem_drop (List.mem_of_mem_take hy)),fun _=>⟨b,_,rfl,fun j u hj =>?_⟩⟩;have:=(oI (D:=fun _ _=>True) (c1:=c1++d1) (c2:=d2) (c3:=d3++c3) k3 (by rw[k6];simp) (fun _ _=>trivial)) j u hj;rw[zz5,k7,q1] at this;exact this.1
   ·cases hs
  ·cases hs
theorem aS.jj(h:aS c A a w D E){n:Nat}{p:List Nat}{sz j:Nat}{y:I}{fs ys:List I}{b off:Nat}{cs:Array Value}{T:TypeId}{c1 c2 c3 ds:List Value}(hn:A.o n=some (.box y))(aw:E n=some (.aA b y.aO))(hb:w.heap[b]?=some (.cells cs T (0,0)))
  (hat:y.at p=some (.agg fs)) (hoff:y.aO.off p=some off) (hcs:cs.toList=c1++c2++c3) (hc1:c1.length=off) (hfs:aI w D E fs c2) (hy:ah w D E y cs.toList) (hsz:∀ f∈fs,f.size=sz) (hys:aI w D E ys ds) (hj:j+ys.length≤fs.length)
  (hsh:I.cX ys=I.cX ((fs.drop j).take ys.length)) (P:Program) :
  ∃ w',(storeCells ⟨b,off+j*sz,none⟩ ds 0).run P w=.ok () w'∧aS c (A.aL n (.box (y.dI p (.agg (fs.take j++(ys++fs.drop (j+ys.length))))))) a w' D E:=by
 obtain ⟨d1,d2,d3,rfl,q1,q2,q3⟩:=tY hfs hsz j ys.length hj;have hd1:aI w D E (fs.take j) d1:=by
  have e1:fs=fs.take j++fs.drop j:=(zx2 j fs).symm;rw[e1] at hfs;obtain ⟨e1,e2,he,k1,k2⟩:=tX _ _ _ hfs;have hl:e1.length=d1.length:=by
   rw[aI.length _ _ k1,I.iK _ (fun x hx=>hsz x (List.mem_of_mem_take hx)),q1,zx3];congr 1;omega
  have:e1=d1:=by
   have:=congrArg (List.take d1.length) he;rw[List.take_left,←hl,List.take_left] at this;exact this.symm
  rw[←this];exact k1
 have hlen:ds.length=d2.length:=by rw[aI.length _ _ hys,aI.length _ _ q2,←I.mX,←I.mX,hsh]
 have hds:ah w D E (.agg (fs.take j++(ys++fs.drop (j+ys.length)))) (d1++(ds++d3)):=by
  simp only[ah];refine ky _ _ _ _ hd1 (ky _ _ _ _ hys ?_);rw[List.drop_drop] at q3;exact q3
 have hshape:(I.agg (fs.take j++(ys++fs.drop (j+ys.length)))).aO=(I.agg fs).aO:=by
  simp only[I.aO,cQ.ew.injEq,I.dw,zx6];rw[←I.dw ys,hsh,I.dw,←zx6,←zx6]
  congr 1
  rw[←List.drop_drop,zx2,zx2]
 obtain ⟨off',g1,g2,g3,g4⟩:=tV p y _ _ _ _ hy hat hds hshape;rw[hoff,u8] at g1;subst g1;have hst:=run_storeCells_at P b (off+j*sz) T ds 0 cs w hb (by
  have:cs.size=cs.toList.length:=by simp
  rw[this,hcs];simp only[zz5];omega) (aI.mI _ _ hys)
 simp only[Nat.add_zero] at hst;refine ⟨_,hst,?_⟩;refine h.NL hn aw g4 ?_;have e:cs.toList.take (off+j*sz)++ds++cs.toList.drop (off+j*sz+ds.length)=cs.toList.take off++(d1++(ds++d3))++cs.toList.drop (off+(d1++(ds++d3)).length):=by
  rw[hcs];have t1:(c1++(d1++(d2++d3))++c3).take (off+j*sz)=c1++d1:=by
   rw[←hc1,←q1,zz3,List.take_length_add_append,zz3,List.take_left]
  have t2:(c1++(d1++(d2++d3))++c3).drop (off+j*sz+ds.length)=d3++c3:=by
   rw[←hc1,←q1,hlen,zz3,Nat.add_assoc,List.drop_length_add_append,zz3,List.drop_length_add_append,zz3,List.drop_left]
  have t3:(c1++(d1++(d2++d3))++c3).take off=c1:=by rw[←hc1,zz3,List.take_left]
  have t4:(c1++(d1++(d2++d3))++c3).drop (off+(d1++(ds++d3)).length)=c3:=by
   have:(d1++(ds++d3)).length=(d1++(d2++d3)).length:=by simp[hlen]
   rw[this,←hc1,zz3,List.drop_length_add_append,List.drop_left]
  rw[t1,t2,t3,t4];simp
 rw[e];simpa using g3
end
section
variable {c:cS} {A:ae} {o:Oper} {x:I}
theorem mU{P:Program}{w:World}(k:IntKind)(n:Int)(y:Nat)(code:BoundsCode)(g1:0≤n)(g2:n≤y):(Instr.sliceBound (.int k n) y code).run P w=.ok n.toNat w:=by
 simp[Instr.sliceBound,asIntOf,g1,g2]
theorem agc{t e:TypeId}{y:Operand}{y':aJ}{lo hi mx:Option Operand}{lo' hi' mx':Option aJ}{i:TypeInfo}{fs:List I}{n:Nat}{p:List Nat}{sz l0 k:Nat}(ho:o.op=.slice t y lo hi mx)(hu:c.P.underlying t=some (.slice e))(hi0:c.P.info? e=some i)
  (hy:bB c.P 0 y=some y') (h1:iS c.P lo=some lo') (h2:iS c.P hi=some hi') (h3:iS c.P mx=some mx') (hmh:mx'.isSome=true→hi'.isSome=true) (hsz:sz=c.P.cellsOf e)
  (h:af A y'=.view n p sz l0 k) (hd:cB A (.ptr n p)=some (.agg fs)) (hx:hJ n p sz l0 k fs.length (lo'.map (af A)) (hi'.map (af A)) (mx'.map (af A))=some x):dR c A o x :=
 .same fun a w D E hs=>by
  have opt:∀ {q:Option Operand} {q':Option aJ},iS c.P q=some q'→iH w D E (q'.map (af A)) (q.map a.eval):=by
   intro q q' hq;cases q with
   |none=>simp only[iS,u8] at hq;subst hq;simp[iH]
   |some z =>
    simp only[iS,zz0] at hq;obtain ⟨z',hz,rfl⟩:=hq;simpa[iH] using cj hs hz
  have h0:=cj hs hy;rw[h] at h0;obtain ⟨yy,b,cs,T,off,c1,c2,c3,k1,k2,k3,k4,k5,k6,k7,k8,k9,k10,k11,k12,hval⟩:=hs.view h0 hd;have hmh':(mx'.map (af A)).isSome=true→(hi'.map (af A)).isSome=true:=by simpa using hmh
  unfold hJ at hx;split at hx
  ·cases hx
  rename_i hh hbh;split at hx
  ·cases hx
  rename_i ll hbl;have d1:=ry (opt h1) hbl;have d2:=ry (opt h2) hbh;have o3:=opt h3;split at hx
  ·rename_i hmx;split at hx
   case isFalse=>cases hx
   rename_i hb;obtain ⟨b1,b2,b3⟩:=hb;have hvmx:mx.map a.eval=none:=by
    rw[hmx] at o3;cases hq:mx.map a.eval with
    |none=>rfl
    |some v=>rw[hq] at o3;simp[iH] at o3
   have hsb:(Instr.sliceBounds true k (fs.length-l0) (lo.map a.eval) (hi.map a.eval) (mx.map a.eval)).run c.P w=.ok (ll.toNat,hh.toNat,fs.length-l0) w:=by
    rw[hvmx];rcases d2 with ⟨_,g2,hm2⟩ | ⟨_,q2,g2⟩ <;>rcases d1 with ⟨_,g1,hm1⟩ | ⟨_,q1,g1⟩ <;>rw[g1,g2]
    ·subst hm1 hm2;simp[Instr.sliceBounds]
    ·subst hm2;simp[Instr.sliceBounds,mU q1 ll k _ b1 (by omega)]
    ·subst hm1;simp[Instr.sliceBounds,mU q2 hh (fs.length-l0) _ (by omega) (by omega)]
    ·simp[Instr.sliceBounds,mU q2 hh (fs.length-l0) _ (by omega) (by omega),mU q1 ll hh.toNat _ b1 (by omega)]
   have hrun:(Instr.sliceAt t (a.eval y) (lo.map a.eval) (hi.map a.eval) (mx.map a.eval)).run c.P w =
     .ok (.slice (if fs.length-l0=ll.toNat then some ⟨b,off+l0*sz,none⟩ else some ⟨b,off+l0*sz+ll.toNat*c.P.cellsOf e,none⟩) (hh.toNat-ll.toNat) (fs.length-l0-ll.toNat)) w:=by
    rw[hval];simp only[Instr.sliceAt,Instr.slice,Sem.run_bind,run_underlying hu,Result.andThen_ok,hsb,ji hi0,Sem.run_pure,zy4,m3]
   refine ⟨_,by simp only[execOp,ho,Sem.run_bind,hrun];rfl,?_⟩;split at hx
   ·rename_i hl;simp only[u8] at hx;subst hx;have e1:fs.length-l0=ll.toNat:=by omega
    have e2:hh.toNat-ll.toNat=0:=by omega
    rw[if_pos e1,e2,e1,Nat.sub_self];exact ⟨_,by simp[bD,I.isAgg];rfl,by simp only[ah];exact ⟨_,rfl⟩⟩
   ·rename_i hl;simp only[u8] at hx;subst hx;rw[if_neg (by omega)];refine ⟨_,by simp[bD,I.isAgg];rfl,?_⟩;simp only[ah];refine ⟨b,yy.aO,off,I.cX fs,k2,k5,mW p yy _ k4,?_,?_,?_,?_⟩
    ·rw[I.dw,zy2,zu0,Nat.add_assoc,hsz,Nat.sub_sub]
    ·rw[I.dw,zy2];exact k12
    ·rw[I.dw,zy2];omega
    ·rw[I.dw];intro s hs';obtain ⟨f,hf,rfl⟩:=zx4.1 hs';rw[I.l4];exact k10 f hf
  ·rename_i kk m hmx;split at hx
   case isFalse=>cases hx
   rename_i hb;obtain ⟨b1,b2,b3,b4⟩:=hb;simp only[u8] at hx;subst hx;obtain ⟨vmx,hvmx,hvm⟩:∃ v,mx.map a.eval=some v∧v=.int kk m:=by
    rw[hmx] at o3;cases hq:mx.map a.eval with
    |none=>rw[hq] at o3;simp[iH] at o3
    |some v=>rw[hq] at o3;simp only[iH] at o3;exact ⟨v,rfl,(fu o3).1⟩
   subst hvm;have hsb:∃ r,(Instr.sliceBounds true k (fs.length-l0) (lo.map a.eval) (hi.map a.eval) (mx.map a.eval)).run c.P w=.ok r w:=by
    rw[hvmx];rcases d2 with ⟨fx,g2,hm2⟩ | ⟨_,q2,g2⟩
    ·rw[hmx,fx] at hmh';simp at hmh'
    ·rcases d1 with ⟨_,g1,hm1⟩ | ⟨_,q1,g1⟩ <;>rw[g1,g2]
     ·exact ⟨_,by simp[Instr.sliceBounds,mU kk m (fs.length-l0) _ (by omega) b4,mU q2 hh m.toNat _ (by omega) (by omega)];rfl⟩
     ·exact ⟨_,by simp[Instr.sliceBounds,mU kk m (fs.length-l0) _ (by omega) b4,mU q2 hh m.toNat _ (by omega) (by omega),mU q1 ll hh.toNat _ b1 (by omega)];rfl⟩
   obtain ⟨⟨r1,dL,tS⟩,hsb⟩:=hsb;have hrun:∃ v,(Instr.sliceAt t (a.eval y) (lo.map a.eval) (hi.map a.eval) (mx.map a.eval)).run c.P w=.ok v w:=by
    rw[hval];exact ⟨_,by simp only[Instr.sliceAt,Instr.slice,Sem.run_bind,run_underlying hu,Result.andThen_ok,hsb,ji hi0,Sem.run_pure,zy4];rfl⟩
   obtain ⟨v,hrun⟩:=hrun;exact ⟨v,by simp only[execOp,ho,Sem.run_bind,hrun];rfl,by simp[aV]⟩
  ·cases hx
theorem af3{t e:TypeId}{y z:Operand}{y' z':aJ}{i:TypeInfo}{fs:List I}{n:Nat}{p:List Nat}{sz lo k:Nat}{kk:IntKind}{j:Int}(ho:o.op=.indexAddr t y z)(hu:c.P.underlying t=some (.slice e))(hi:c.P.info? e=some i)
  (hy:bB c.P 0 y=some y') (hz:bB c.P 0 z=some z') (hsz:sz=c.P.cellsOf e) (h:af A y'=.view n p sz lo k) (hd:cB A (.ptr n p)=some (.agg fs)) (h':af A z'=.int kk j) (hj:0≤j∧j<k):dR c A o (.ptr n (p++[lo+j.toNat])) :=
 .same fun a w D E hs=>by
  have h0:=cj hs hy;rw[h] at h0;have h1':=cj hs hz;rw[h'] at h1';obtain ⟨yy,b,cs,T,off,c1,c2,c3,k1,k2,k3,k4,k5,k6,k7,k8,k9,k10,k11,k12,hval⟩:=hs.view h0 hd;refine ⟨.pointer (some ⟨b,off+lo*sz+j.toNat*c.P.cellsOf e,none⟩),by simp only[execOp,ho,hval,(fu h1').1,Sem.run_bind,yI hu hi hj];rfl,?_⟩;refine ⟨_,by simp[bD,I.isAgg];rfl,?_⟩;simp only[ah];refine ⟨b,yy.aO,off+(lo+j.toNat)*sz,k2,?_,by rw[zu0,←Nat.add_assoc,hsz]⟩;have hl:lo+j.toNat<fs.length:=by omega
  rw[cQ.tG p yy.aO off (lo+j.toNat) _ k5 (mW p yy _ k4) (by rw[I.dw];simpa using hl),I.dw,←List.map_take,←I.dw,I.mX,oT fs _ k10 (by omega)]
theorem wY{ty:TypeId}{y:Operand}{y':aJ}{n:Nat}{e:TypeId}(ho:o.op=.call { callee:=.builtin .cap,args := #[y],argTypes := #[ty] })(hu:c.P.underlying ty=some (.slice e))
  (hy:bB c.P ty y=some y') (h:∀ a w D E,aS c A a w D E→∀ v,aV w D E (af A y') v→n≤maxLen∧∃ ad l,v=.slice ad l n):dR c A o (.int .i64 n) :=
 .same fun a w D E hs=>by
  obtain ⟨h0,ad,l,hv⟩:=h a w D E hs _ (cj hs hy);exact ⟨.int .i64 n,by simp[execOp,ho,resolve,invoke,builtin,Builtin.cap_,run_underlying hu,hv,goInt],kT (xM h0)⟩
theorem afQ{t e:TypeId}{i:TypeInfo}(ho:o.op=.buildSlice t 0 #[])(hu:c.P.underlying t=some (.slice e))(hi:c.P.info? e=some i):dR c A o (.c0 (c.P.cellsOf e)):=by
 intro a w D E hs;have hs':=hs.newRow (.cells #[] e);refine ⟨.slice (some ⟨w.heap.size,0,none⟩) 0 0,_,_,?_,hs',⟨_,by simp[bD,I.isAgg];rfl,by simp only[ah];exact ⟨_,rfl⟩⟩⟩;simp[execOp,ho,Instr.buildSlice,run_underlying hu,ji hi,newRow,Instr.fill,show (Array.range 0) = #[] from rfl]
theorem ahA{neg:Bool}{t e:TypeId}{y z:Operand}{y':aJ}{yt:TypeId}{s:Nat}(ho:o.op=.binOp (if neg then .neq else .eql) t y z yt)(hu:c.P.underlying t=some (.slice e))(hy:bB c.P 0 y=some y')(hz:bB c.P 0 z=some (.c (.nils s)))
  (h:∃ sz,af A y'=.slice sz []∨af A y'=.c0 sz) {a:Act} {w:World} {D:aM} {E:aW} (hs:aS c A a w D E):∃ b,(execOp a.eval o).run c.P w=.ok (.value (.bool b)) w:=by
 have h0:=cj hs hy;have h1:aV w D E (.nils s) (a.eval z):=cj hs hz;have hv:∃ ad cp,a.eval y=.slice ad 0 cp:=by
  obtain ⟨sz,h | h⟩:=h <;>rw[h] at h0
  ·obtain ⟨ad,cap,e1,_⟩:=nN h0;exact ⟨ad,cap,by simpa using e1⟩
  ·obtain ⟨cs,q1,q2⟩:=h0;simp only[ah] at q2;obtain ⟨ad,q2⟩:=q2;exact ⟨ad,0,by simpa[bD,I.isAgg,q2] using q1.symm⟩
 obtain ⟨ad,cp,hyv⟩:=hv;have hv:a.eval z=.slice none 0 0:=by
  obtain ⟨cs,q1,q2⟩:=h1;simp only[ah] at q2;simpa[bD,I.isAgg,q2] using q1.symm
 have he:∀ d,(Op.equalIn (d+1) t (.slice ad 0 cp) (.slice none 0 0)).run c.P w=.ok ad.isNone w:=fun d=>by
  cases ad <;>simp[Op.equalIn,run_underlying hu]
 refine ⟨if neg then !ad.isNone else ad.isNone,?_⟩;cases neg <;>simp only[execOp,ho,hyv,hv,if_true,zz6,if_false,Sem.run_bind,eqGuard] <;>simp[binOp,Op.equal,Op.maxDepth,he]
def jj(y:I)(p:List Nat)(j:Nat)(fs ys:List I):I:=y.dI p (.agg (fs.take j++(ys++fs.drop (j+ys.length))))
theorem XT{t e:TypeId}{y:Operand}{y':aJ}{z:I}{n:Nat}{p:List Nat}{lo k:Nat}{b:I}{fs:List I}(ho:o.op=.call { callee:=.builtin .clear,args := #[y],argTypes := #[t] })(hu:c.P.underlying t=some (.slice e))(hy:bB c.P t y=some y')
  (hz:fY c.P e=some z) (hv:af A y'=.view n p (c.P.cellsOf e) lo k) (hn:A.o n=some (.box b)) (hat:b.at p=some (.agg fs)) (hsh:I.cX (List.replicate k z)=I.cX ((fs.drop lo).take k)) (hd:o.dst=none) :
  iN c A o (A.aL n (.box (jj b p lo fs (List.replicate k z)))):=by
 intro a w D E hs;obtain ⟨i,zv,hi,hzv,hzr⟩:=l7 hz;have h0:=cj hs hy;rw[hv] at h0;have hx:cB A (.ptr n p)=some (.agg fs):=by simp only[cB,hn,hat]
 obtain ⟨yy,bk,cs,T,off,c1,c2,c3,k1,k2,k3,k4,k5,k6,k7,k8,k9,k10,k11,k12,hval⟩:=hs.view h0 hx;rw[hn] at k1;simp only[u8,ai.box.injEq] at k1;subst k1;have hr:aI w D E (List.replicate k z) (Builtin.zeroCells zv.cells k).toList:=by
  rw[uE];exact rE (hzr w D E) k
 obtain ⟨w',h1,h2⟩:=hs.jj (j:=lo) (ys:=List.replicate k z) hn k2 k3 k4 k5 k6 k7 k8 k9 k10 hr (by simpa using k11) (by simpa using hsh) c.P;cases k with
 |zero =>
  refine ⟨w,.inl ⟨.tuple #[],?_,D,E,?_⟩⟩
  ·simp[execOp,ho,resolve,invoke,builtin,Builtin.clear_,run_underlying hu,hval]
  ·rw[hd];have:jj b p lo fs (List.replicate 0 z)=b.dI p (.agg fs):=by simp[jj]
   have hw:w'=w:=by
    simp[Builtin.zeroCells,storeCells] at h1;exact h1.symm
   rw[hw] at h2;exact h2
 |succ k =>
  refine ⟨w',.inl ⟨.tuple #[],?_,D,E,?_⟩⟩
  ·simp[execOp,ho,resolve,invoke,builtin,Builtin.clear_,run_underlying hu,hval,zeroValue,typeInfo,hi,hzv,h1]
  ·rw[hd];exact h2
theorem XU{t e:TypeId}{y x:Operand}{y' x':aJ}{n:Nat}{p:List Nat}{lo k m:Nat}{b:I}{fs ys:List I}(ho:o.op=.call { callee:=.builtin .copy,args := #[y,x],argTypes := #[t,t] })(hu:c.P.underlying t=some (.slice e))(hi:(c.P.info? e).isSome=true)
  (hy:bB c.P t y=some y') (hx:bB c.P t x=some x') (hv:af A y'=.view n p (c.P.cellsOf e) lo k) (hn:A.o n=some (.box b)) (hat:b.at p=some (.agg fs)) (hs:eI A (c.P.cellsOf e) (af A x')=some ys) (hm:m=min ys.length k)
  (hsh:I.cX (ys.take m)=I.cX ((fs.drop lo).take m)) (hdn:∀ k,o.dst=some k→k<c.n) :
  iN c A o ((A.aL n (.box (jj b p lo fs (ys.take m)))).aN o.dst (.int .i64 m)):=by
 intro a w D E hsim;obtain ⟨i,hi⟩:=zw0.1 hi;have h0:=cj hsim hy;rw[hv] at h0;have hxx:cB A (.ptr n p)=some (.agg fs):=by simp only[cB,hn,hat]
 obtain ⟨yy,bk,cs,T,off,c1,c2,c3,k1,k2,k3,k4,k5,k6,k7,k8,k9,k10,k11,k12,hval⟩:=hsim.view h0 hxx;rw[hn] at k1;simp only[u8,ai.box.injEq] at k1;subst k1;obtain ⟨ad,cp,news,s1,s2,s3,s4,s5,s6⟩:=hsim.nP (cj hsim hx) hs;have hmy:m≤ys.length:=by omega
 have hci:c.P.cellsOf e=i.size:=by simp[Program.cellsOf,hi]
 obtain ⟨d1,d2,d3,e1,e2,e3,e4⟩:=tY s4 s5 0 m (by omega);simp only[Nat.zero_mul,List.drop_zero] at e2 e3;have e2':d1=[]:=List.eq_nil_of_length_eq_zero e2;subst e2';simp only[zy6] at e1;have hlen:(ys.take m).length=m:=by rw[zx3];omega
 have hd2:d2.length=m*i.size:=by rw[aI.length _ _ e3,I.iK (sz:=c.P.cellsOf e) _ (fun y hy=>s5 y (List.mem_of_mem_take hy)),hlen,hci]
 obtain ⟨w',h1,h2⟩:=hsim.jj (j:=lo) (ys:=ys.take m) hn k2 k3 k4 k5 k6 k7 k8 k9 k10 e3 (by rw[hlen];omega) (by rw[hlen];exact hsh) c.P;have hf:(Builtin.firstCells i.size m (.slice ad ys.length cp)).run c.P w=.ok d2.toArray w:=by
  by_cases hm0:m=0
  ·have:d2=[]:=List.eq_nil_of_length_eq_zero (by rw[hd2,hm0];simp);subst this;cases ad with
   |none=>exact run_firstCells_none _ _ _ _ _
   |some ad=>exact run_firstCells_some w i.size m ad ys.length cp [] (by simp[hm0]) (by simp)
  ·obtain ⟨b2,o2,rfl,hr⟩:=s6 (fun h=>by rw[h] at hmy;simp at hmy;omega);refine run_firstCells_some w i.size m _ ys.length cp d2 hd2 fun j v hj =>?_;rw[Addr.add_lit];refine hr j v ?_;rw[e1,zy7 (zy5.1 hj).1];exact hj
 have h63:m≤maxLen:=by omega
 refine ⟨w',.inl ⟨.int .i64 m,?_,D,E,h2.aN hdn (kT (xM h63))⟩⟩;have hmin:Nat.min ys.length k=m:=hm.symm;rw[←hci] at hf;simp only[execOp,ho,resolve,invoke,builtin,Sem.run_bind,Sem.run_pure,Result.andThen_ok,List.map_toArray,zz9,zx1,hval,s1];simp[Builtin.copy_,run_underlying hu,Builtin.lenOf,hmin,ji hi,hf,h1,goInt]
theorem pn{a:Act}{w:World}{D:aM}{E:aW}(hs:aS c A a w D E){sz:Nat}{x:I}{v:Value}{es:List I}(hv:aV w D E x v)(he:eI A sz x=some es) :
  ∃ ad cp olds,v=.slice ad es.length cp∧es.length≤cp∧cp≤maxLen∧aI w D E es olds∧(∀ y∈es,y.size=sz)∧∀ (P:Program) (w':World),(∀ p u,w.cell? p=some u→w'.cell? p=some u)→(Builtin.firstCells sz es.length v).run P w'=.ok olds.toArray w':=by
 obtain ⟨ad,cp,news,s1,s2,s3,s4,s5,s6⟩:=hs.nP hv he;refine ⟨ad,cp,news,s1,s2,s3,s4,s5,fun P w' hw =>?_⟩;have hl:news.length=es.length*sz:=by rw[aI.length _ _ s4,I.iK _ s5]
 rw[s1];by_cases h0:es=[]
 ·subst h0;have:news=[]:=List.eq_nil_of_length_eq_zero (by rw[hl];simp);subst this;cases ad with
  |none=>exact run_firstCells_none _ _ _ _ _
  |some ad=>exact run_firstCells_some w' sz _ ad _ cp [] (by simp) (by simp)
 ·obtain ⟨b,o',rfl,hr⟩:=s6 h0;exact run_firstCells_some w' sz _ _ _ cp news hl fun j v hj=>by rw[Addr.add_lit];exact hw _ _ (hr j v hj)
theorem Qm{t e:TypeId}{s x:Operand}{s' x':aJ}{es ys:List I}{z:I}{d:Nat}(ho:o.op=.call { callee:=.builtin .append,args := #[s,x],argTypes := #[t,t] })(hu:c.P.underlying t=some (.slice e))(hs':bB c.P t s=some s')(hx':bB c.P t x=some x')
  (hz:fY c.P e=some z) (hzs:z.size=c.P.cellsOf e) (hse:eI A (c.P.cellsOf e) (af A s')=some es) (hsx:eI A (c.P.cellsOf e) (af A x')=some ys) (hby:(es.length+ys.length)*c.P.bytesOf e≤140737488355328)
  (hd:o.dst=some d) (hdn:d<c.n) (hf:A.o d=none) (hne:ys≠[]) {a:Act} {w:World} {D:aM} {E:aW} (hsim:aS c A a w D E) (hfull:∀ ad l cp,a.eval s=.slice ad l cp→cp<l+ys.length) (hml:es.length+ys.length≤maxLen) :
  ∃ v w' m,(execOp a.eval o).run c.P w=.ok (.value v) w'∧es.length+ys.length+m≤maxLen ∧
   cw c ((A.aL d (.box (.agg (es++(ys++List.replicate m z))))).aN o.dst (.view d [] (c.P.cellsOf e) 0 (es.length+ys.length))) (a.put o.dst v) w':=by
 obtain ⟨i,zv,hi,hzv,hzr⟩:=l7 hz;have hci:c.P.cellsOf e=i.size:=by simp[Program.cellsOf,hi]
 have hbi:c.P.bytesOf e=i.bytes:=by simp[Program.bytesOf,hi]
 obtain ⟨ad1,cp1,olds,s1,s2,s3,s4,s5,s6⟩:=pn hsim (cj hsim hs') hse;obtain ⟨ad2,cp2,news,t1,t2,t3,t4,t5,t6⟩:=pn hsim (cj hsim hx') hsx;have hlt:=hfull _ _ _ s1;obtain ⟨m,hm⟩:∃ m,m=grownCap w (es.length+ys.length) cp1 e-(es.length+ys.length):=⟨_,rfl⟩
 have hge:=grownCap_ge w (es.length+ys.length) cp1 e;have hle:=grownCap_le_maxLen w (es.length+ys.length) cp1 e hml;obtain ⟨cells,hcells⟩:∃ cells:Array Value,cells=olds.toArray++news.toArray++Builtin.zeroCells zv.cells m:=⟨_,rfl⟩
 have hrun:(Builtin.append_ #[t,t] o.type #[a.eval s,a.eval x]).run c.P w=.ok (.slice (some ⟨w.heap.size,0,none⟩) (es.length+ys.length) (grownCap w (es.length+ys.length) cp1 e)) (w.drew.alloc (.cells cells e)):=by
  have hn:¬ (es.length+ys.length≤cp1):=by omega
  have h63:¬ (9223372036854775807<((es.length:Int)+(ys.length:Int))):=by simp only[maxLen] at hml;omega
  have h48:¬ (281474976710656<Builtin.nextslicecap (es.length+ys.length) cp1*i.bytes):=by
   have h3:(es.length+ys.length)*i.bytes≤140737488355328:=by rw[←hbi];exact hby
   have:=growslice_fits hlt h3;omega
  have g1:=s6 c.P w.drew (fun _ _ h=>h);have g2:=t6 c.P w.drew (fun _ _ h=>h);rw[s1,hci] at g1;rw[t1,hci] at g2;rw[s1,t1,hcells,hm];simp[Builtin.append_,run_underlying hu,sizeOf,typeInfo,zeroValue,hi,hzv,Builtin.lenOf,hn,h63,h48,Question.forced,g1,g2,newRow,grownCap]
  congr 2
  apply Array.ext';simp[zz3]
 have hcl:cells.toList=olds++(news++(List.replicate m zv.cells.toList).flatten):=by
  rw[hcells];simp[uE]
 have hrc:ah w D E (.agg (es++(ys++List.replicate m z))) cells.toList:=by
  rw[hcl];simp only[ah];exact ky _ _ _ _ s4 (ky _ _ _ _ t4 (rE (hzr w D E) m))
 have hsim':aS c A a w.drew D E:=hsim.grow ⟨rfl,rfl,rfl,zz7 _,fun _ _=>rfl⟩ (fun _ _ h=>h) (fun _ _ h _=>h) (fun b o h=>hsim.dq b o h);have hrc':ah w.drew D E (.agg (es++(ys++List.replicate m z))) cells.toList:=ah.bI (w:=w) (w':=w.drew) (D:=D) (E:=E) ⟨fun _ _ h=>h,fun _ _ _ _ h=>h,fun _ _ _ h=>h,fun _ aE l h=>⟨aE,l,h,zz7 _,fun _=>rfl⟩,fun _ _ h=>h,fun _ _ h=>h,fun _ _ _ _ h=>h⟩ _ _ hrc;have h1:=hsim'.rq (T:=e) (.inl hdn) hf hrc';have hall:∀ y∈es++(ys++List.replicate m z),y.size=c.P.cellsOf e:=by
  intro y hy;rcases zy1.1 hy with hy | hy
  ·exact s5 y hy
  ·rcases zy1.1 hy with hy | hy
   ·exact t5 y hy
   ·rw[List.eq_of_mem_replicate hy];exact hzs
 have hlen:(es++(ys++List.replicate m z)).length=es.length+ys.length+m:=by simp[Nat.add_assoc]
 have h2:=h1.put (d:=d) (x:=.view d [] (c.P.cellsOf e) 0 (es.length+ys.length)) (v:=.slice (some ⟨w.heap.size,0,none⟩) (es.length+ys.length) (grownCap w (es.length+ys.length) cp1 e)) hdn ⟨_,by simp[bD,I.isAgg];rfl,by
  simp only[ah,if_true];refine ⟨w.heap.size,(I.agg (es++(ys++List.replicate m z))).aO,0,I.cX (es++(ys++List.replicate m z)),rfl,by cases (I.agg (es++(ys++List.replicate m z))).aO <;>simp[cQ.off],by simp only[I.aO,cQ.part],?_,?_,?_,?_⟩
  ·rw[I.dw,zy2,hlen,hm];simp;omega
  ·rw[I.dw,zy2,hlen];omega
  ·rw[I.dw,zy2,hlen];omega
  ·rw[I.dw];intro s hs;obtain ⟨f,hf,rfl⟩:=zx4.1 hs;rw[I.l4];exact hall f hf⟩
 refine ⟨.slice (some ⟨w.heap.size,0,none⟩) (es.length+ys.length) (grownCap w (es.length+ys.length) cp1 e),w.drew.alloc (.cells cells e),m,?_,by omega,?_⟩
 ·unfold execOp;simp only[ho,resolve,invoke,builtin,Sem.run_bind,Sem.run_pure,Result.andThen_ok,List.map_toArray,zz9,zx1,hrun]
 ·rw[hd];exact ⟨D,_,h2⟩
theorem Qp{t t' e:TypeId}{s x:Operand}{s' x':aJ}{es:List I}{k:Nat}{kx kt:IntKind}{bg:Int}{z:I}{d:Nat}(ho:o.op=.call { callee:=.builtin .append,args := #[s,x],argTypes := #[t,t'] })(hu:c.P.underlying t=some (.slice e))(hs':bB c.P t s=some s')(hx':bB c.P t' x=some x')(ht':c.P.underlying t'=some (.int kt))(hvx:af A x'=.int kx bg)(hk:bg.toNat=k)(hk0:0<k)(hpos:0<c.P.cellsOf e)
  (hz:fY c.P e=some z) (hzs:z.size=c.P.cellsOf e) (hse:eI A (c.P.cellsOf e) (af A s')=some es) (hby:(es.length+k)*c.P.bytesOf e≤140737488355328)
  (hd:o.dst=some d) (hdn:d<c.n) (hf:A.o d=none) {a:Act} {w:World} {D:aM} {E:aW} (hsim:aS c A a w D E) (hfull:∀ ad l cp,a.eval s=.slice ad l cp→cp<l+k) (hml:es.length+k≤maxLen) :
  ∃ v w' m,(execOp a.eval o).run c.P w=.ok (.value v) w'∧es.length+k+m≤maxLen ∧
   cw c ((A.aL d (.box (.agg (es++(List.replicate k z++List.replicate m z))))).aN o.dst (.view d [] (c.P.cellsOf e) 0 (es.length+k))) (a.put o.dst v) w':=by
 obtain ⟨i,zv,hi,hzv,hzr⟩:=l7 hz;have hci:c.P.cellsOf e=i.size:=by simp[Program.cellsOf,hi]
 have hbi:c.P.bytesOf e=i.bytes:=by simp[Program.bytesOf,hi]
 obtain ⟨ad1,cp1,olds,s1,s2,s3,s4,s5,s6⟩:=pn hsim (cj hsim hs') hse;have v2:=cj hsim hx';rw[hvx] at v2;have t1:a.eval x=.int kx ((k:Nat):Int):=by rw[(fu v2).1];congr 1;omega
 have t4:aI w D E (List.replicate k z) (List.replicate k zv.cells.toList).flatten:=rE (hzr w D E) k;have t5:∀ y∈List.replicate k z,y.size=c.P.cellsOf e:=fun y hy=>by rw[List.eq_of_mem_replicate hy];exact hzs
 have hlt:=hfull _ _ _ s1;obtain ⟨m,hm⟩:∃ m,m=grownCap w (es.length+k) cp1 e-(es.length+k):=⟨_,rfl⟩
 have hge:=grownCap_ge w (es.length+k) cp1 e;have hle:=grownCap_le_maxLen w (es.length+k) cp1 e hml;obtain ⟨cells,hcells⟩:∃ cells:Array Value,cells=olds.toArray++Builtin.zeroCells zv.cells k++Builtin.zeroCells zv.cells m:=⟨_,rfl⟩
 have hrun:(Builtin.append_ #[t,t'] o.type #[a.eval s,a.eval x]).run c.P w=.ok (.slice (some ⟨w.heap.size,0,none⟩) (es.length+k) (grownCap w (es.length+k) cp1 e)) (w.drew.alloc (.cells cells e)):=by
  have h3:(es.length+k)*i.bytes≤140737488355328:=by rw[←hbi];exact hby
  have g1:=s6 c.P w.drew (fun _ _ h=>h);rw[s1,hci] at g1;have hfit:=growslice_fits hlt h3;have hkb:k*i.bytes≤(es.length+k)*i.bytes:=Nat.mul_le_mul_right _ (by omega);rw[s1,t1,hcells,hm];exact Lib.run_append_grow_zeros w t t' o.type e i zv kx kt hu ht' hi hzv ad1 es.length cp1 olds g1 k hk0 (by rw[←hci];exact hpos) hlt (by simp only[maxLen] at hml;omega) (by omega) (by omega)
 have hcl:cells.toList=olds++((List.replicate k zv.cells.toList).flatten++(List.replicate m zv.cells.toList).flatten):=by
  rw[hcells];simp[uE]
 have hrc:ah w D E (.agg (es++(List.replicate k z++List.replicate m z))) cells.toList:=by
  rw[hcl];simp only[ah];exact ky _ _ _ _ s4 (ky _ _ _ _ t4 (rE (hzr w D E) m))
 have hsim':aS c A a w.drew D E:=hsim.grow ⟨rfl,rfl,rfl,zz7 _,fun _ _=>rfl⟩ (fun _ _ h=>h) (fun _ _ h _=>h) (fun b o h=>hsim.dq b o h);have hrc':ah w.drew D E (.agg (es++(List.replicate k z++List.replicate m z))) cells.toList:=ah.bI (w:=w) (w':=w.drew) (D:=D) (E:=E) ⟨fun _ _ h=>h,fun _ _ _ _ h=>h,fun _ _ _ h=>h,fun _ aE l h=>⟨aE,l,h,zz7 _,fun _=>rfl⟩,fun _ _ h=>h,fun _ _ h=>h,fun _ _ _ _ h=>h⟩ _ _ hrc;have h1:=hsim'.rq (T:=e) (.inl hdn) hf hrc';have hall:∀ y∈es++(List.replicate k z++List.replicate m z),y.size=c.P.cellsOf e:=by
  intro y hy;rcases zy1.1 hy with hy | hy
  ·exact s5 y hy
  ·rcases zy1.1 hy with hy | hy
   ·exact t5 y hy
   ·rw[List.eq_of_mem_replicate hy];exact hzs
 have hlen:(es++(List.replicate k z++List.replicate m z)).length=es.length+k+m:=by simp[Nat.add_assoc]
 have h2:=h1.put (d:=d) (x:=.view d [] (c.P.cellsOf e) 0 (es.length+k)) (v:=.slice (some ⟨w.heap.size,0,none⟩) (es.length+k) (grownCap w (es.length+k) cp1 e)) hdn ⟨_,by simp[bD,I.isAgg];rfl,by
  simp only[ah,if_true];refine ⟨w.heap.size,(I.agg (es++(List.replicate k z++List.replicate m z))).aO,0,I.cX (es++(List.replicate k z++List.replicate m z)),rfl,by cases (I.agg (es++(List.replicate k z++List.replicate m z))).aO <;>simp[cQ.off],by simp only[I.aO,cQ.part],?_,?_,?_,?_⟩
  ·rw[I.dw,zy2,hlen,hm];simp;omega
  ·rw[I.dw,zy2,hlen];omega
  ·rw[I.dw,zy2,hlen];omega
  ·rw[I.dw];intro s hs;obtain ⟨f,hf,rfl⟩:=zx4.1 hs;rw[I.l4];exact hall f hf⟩
 refine ⟨.slice (some ⟨w.heap.size,0,none⟩) (es.length+k) (grownCap w (es.length+k) cp1 e),w.drew.alloc (.cells cells e),m,?_,by omega,?_⟩
 ·unfold execOp;simp only[ho,resolve,invoke,builtin,Sem.run_bind,Sem.run_pure,Result.andThen_ok,List.map_toArray,zz9,zx1,hrun]
 ·rw[hd];exact ⟨D,_,h2⟩
theorem XQ{t e:TypeId}{s x:Operand}{s' x':aJ}{ys:List I}{n:Nat}{p:List Nat}{lo k:Nat}{b:I}{fs:List I}(ho:o.op=.call { callee:=.builtin .append,args := #[s,x],argTypes := #[t,t] })(hu:c.P.underlying t=some (.slice e))(hi:(c.P.info? e).isSome=true)
  (hs':bB c.P t s=some s') (hx':bB c.P t x=some x') (hv:af A s'=.view n p (c.P.cellsOf e) lo k) (hn:A.o n=some (.box b)) (hat:b.at p=some (.agg fs)) (hsx:eI A (c.P.cellsOf e) (af A x')=some ys) (hroom:lo+k+ys.length≤fs.length)
  (hsh:I.cX ys=I.cX ((fs.drop (lo+k)).take ys.length)) (hdn:∀ k,o.dst=some k→k<c.n) :
  iN c A o ((A.aL n (.box (jj b p (lo+k) fs ys))).aN o.dst (.view n p (c.P.cellsOf e) lo (k+ys.length))):=by
 intro a w D E hsim;obtain ⟨i,hi⟩:=zw0.1 hi;have hci:c.P.cellsOf e=i.size:=by simp[Program.cellsOf,hi]
 have h0:=cj hsim hs';rw[hv] at h0;have hxx:cB A (.ptr n p)=some (.agg fs):=by simp only[cB,hn,hat]
 obtain ⟨yy,bk,cs,T,off,c1,c2,c3,k1,k2,k3,k4,k5,k6,k7,k8,k9,k10,k11,k12,hval⟩:=hsim.view h0 hxx;rw[hn] at k1;simp only[u8,ai.box.injEq] at k1;subst k1;obtain ⟨ad2,cp2,news,t1,t2,t3,t4,t5,t6⟩:=pn hsim (cj hsim hx') hsx;obtain ⟨w',h1,h2⟩:=hsim.jj (j:=lo+k) (ys:=ys) hn k2 k3 k4 k5 k6 k7 k8 k9 k10 t4 hroom hsh c.P;have g2:=t6 c.P w (fun _ _ h=>h);rw[t1,hci] at g2;have hr:k+ys.length≤fs.length-lo:=by omega
 refine ⟨w',.inl ⟨.slice (some ⟨bk,off+lo*c.P.cellsOf e,none⟩) (k+ys.length) (fs.length-lo),?_,D,E,h2.aN hdn ?_⟩⟩
 ·have e1:off+lo*i.size+k*i.size=off+(lo+k)*c.P.cellsOf e:=by rw[hci,zu0];omega
  unfold execOp;simp only[ho,resolve,invoke,builtin,Sem.run_bind,Sem.run_pure,Result.andThen_ok,List.map_toArray,zz9,zx1,hval,t1];simp[Builtin.append_,run_underlying hu,sizeOf,typeInfo,hi,Builtin.lenOf,hr,g2,Addr.add_lit,hci,e1];rw[hci] at h1;simp[h1]
 ·refine ⟨_,by simp[bD,I.isAgg];rfl,?_⟩;simp only[ah];refine ⟨bk,b.aO,off,I.cX fs,k2,k5,mW p b _ k4,?_,?_,?_,?_⟩
  ·rw[I.dw,zy2]
  ·rw[I.dw,zy2];exact k12
  ·rw[I.dw,zy2];omega
  ·rw[I.dw];intro s hs;obtain ⟨f,hf,rfl⟩:=zx4.1 hs;rw[I.l4];exact k10 f hf
theorem XR{t e:TypeId}{s x:Operand}{s' x':aJ}{es:List I}(ho:o.op=.call { callee:=.builtin .append,args := #[s,x],argTypes := #[t,t] })(hu:c.P.underlying t=some (.slice e))(hi:(c.P.info? e).isSome=true)(hs':bB c.P t s=some s')(hx':bB c.P t x=some x')
  (hse:eI A (c.P.cellsOf e) (af A s')=some es) (hsx:eI A (c.P.cellsOf e) (af A x')=some []):dR c A o (af A s') :=
 .same fun a w D E hsim=>by
  obtain ⟨i,hi⟩:=zw0.1 hi;have hci:c.P.cellsOf e=i.size:=by simp[Program.cellsOf,hi]
  obtain ⟨ad1,cp1,olds,s1,s2,s3,s4,s5,s6⟩:=pn hsim (cj hsim hs') hse;obtain ⟨ad2,cp2,news,t1,t2,t3,t4,t5,t6⟩:=pn hsim (cj hsim hx') hsx;have g2:=t6 c.P w (fun _ _ h=>h);rw[t1,hci] at g2;simp only[aI] at t4;subst t4;refine ⟨a.eval s,?_,cj hsim hs'⟩;simp only[List.length_nil] at g2 t1;unfold execOp;simp only[ho,resolve,invoke,builtin,Sem.run_bind,Sem.run_pure,Result.andThen_ok,List.map_toArray,zz9,zx1,s1,t1];cases ad1 <;>simp[Builtin.append_,run_underlying hu,sizeOf,typeInfo,hi,Builtin.lenOf,s2,g2,storeCells]
end
end Go.Abs
