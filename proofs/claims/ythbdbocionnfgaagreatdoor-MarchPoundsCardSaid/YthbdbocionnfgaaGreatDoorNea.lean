/-
  A part of the proof that the law MarchPounds returns true for every input; three tables of Go's library start as the text lays them (the card ties them); conditions: none beyond the statement's own. (part 1 of 6)
-/
import Derived.WalkKit
import Derived.Orders
import Derived.Still
import Derived.RangeFuncSeq
import Derived.RangeFuncLeaves
import Derived.RangeFuncOwn
import Derived.Great.FillDense
import Derived.Great.BuildSlice
import Derived.ChangeKeysEq
import Derived.Laws.AppendOwn
import Derived.Lib.AppendZerosOnto
set_option linter.unusedSimpArgs false
set_option linter.unusedVariables false
set_option maxHeartbeats 16000000
set_option maxRecDepth 100000
namespace Go
theorem y6:type_of% @And.intro:=@And.intro
theorem v6:type_of% @Option.some.injEq:=@Option.some.injEq
theorem u8:type_of% @Nat.le_of_ble_eq_true:=@Nat.le_of_ble_eq_true
theorem t7:type_of% @Option.map_eq_some_iff:=@Option.map_eq_some_iff
theorem t8:type_of% @Bool.and_eq_true:=@Bool.and_eq_true
theorem Z0:type_of% @List.getD_eq_getElem?_getD:=@List.getD_eq_getElem?_getD
theorem Z1:type_of% @Nat.zero_add:=@Nat.zero_add
theorem Z2:type_of% @Bool.false_eq_true:=@Bool.false_eq_true
theorem Z3:type_of% @List.map_cons:=@List.map_cons
theorem Z4:type_of% @Nat.le_refl:=@Nat.le_refl
theorem Z5:type_of% @List.cons_append:=@List.cons_append
theorem Z6:type_of% @List.getElem?_eq_some_iff:=@List.getElem?_eq_some_iff
theorem Z7:type_of% @List.length_append:=@List.length_append
theorem Z8:type_of% @List.length_map:=@List.length_map
theorem Z9:type_of% @List.take_succ_eq_append_getElem:=@List.take_succ_eq_append_getElem
theorem zz0:type_of% @Option.map_some:=@Option.map_some
theorem zz1:type_of% @List.append_assoc:=@List.append_assoc
theorem zz2:type_of% @Array.getElem?_eq_some_iff:=@Array.getElem?_eq_some_iff
theorem zz3:type_of% @List.map_append:=@List.map_append
theorem zz4:type_of% @List.getElem?_eq_getElem:=@List.getElem?_eq_getElem
theorem zz5:type_of% @List.getElem?_append_left:=@List.getElem?_append_left
theorem zz6:type_of% @List.all_eq_true:=@List.all_eq_true
theorem zz7:type_of% @List.getD_cons_zero:=@List.getD_cons_zero
theorem zz8:type_of% @List.getD_cons_succ:=@List.getD_cons_succ
theorem zz9:type_of% @Option.isSome_iff_exists:=@Option.isSome_iff_exists
theorem zy0:type_of% @List.getElem?_map:=@List.getElem?_map
theorem zy1:type_of% @List.mem_map:=@List.mem_map
theorem zy2:type_of% @Array.length_toList:=@Array.length_toList
theorem zy3:type_of% @Nat.zero_le:=@Nat.zero_le
theorem zy4:type_of% @List.mem_singleton:=@List.mem_singleton
theorem zy5:type_of% @List.take_succ_cons:=@List.take_succ_cons
theorem zy6:type_of% @List.mem_range:=@List.mem_range
theorem zy7:type_of% @List.mem_append:=@List.mem_append
theorem zy8:type_of% @List.nil_append:=@List.nil_append
theorem zy9:type_of% @List.length_take:=@List.length_take
theorem zx0:type_of% @List.map_nil:=@List.map_nil
theorem zx1:type_of% @Array.getElem?_toList:=@Array.getElem?_toList
theorem zx2:type_of% @List.getElem?_eq_none:=@List.getElem?_eq_none
theorem zx3:type_of% @List.take_length:=@List.take_length
theorem zx4:type_of% @List.append_nil:=@List.append_nil
theorem zx5:type_of% @List.mem_filter:=@List.mem_filter
theorem zx6:type_of% @List.getElem?_append_right:=@List.getElem?_append_right
theorem zx7:type_of% @List.length_cons:=@List.length_cons
theorem zx8:type_of% @List.getElem_mem:=@List.getElem_mem
theorem zx9:type_of% @Option.bind_eq_some_iff:=@Option.bind_eq_some_iff
theorem zw0:type_of% @Array.getElem?_eq_getElem:=@Array.getElem?_eq_getElem
theorem zw1:type_of% @List.length_singleton:=@List.length_singleton
theorem zw2:type_of% @List.cons.injEq:=@List.cons.injEq
theorem zw3:type_of% @Nat.le_trans:=@Nat.le_trans
theorem zw4:type_of% @List.filter_cons:=@List.filter_cons
theorem zw5:type_of% @List.mem_cons:=@List.mem_cons
end Go
namespace Go.Abs
open Go
inductive I where
 |undef | dw
 |bool (b:Bool)
 |int (k:IntKind) (n:Int)
 |bQ (s:ByteArray)
 |nilp | dB | dX
 |any
 |raw (v:Value)
 |nils (sz:Nat)
 |c0 (sz:Nat)
 |slice (sz:Nat) (es:List I)
 |agg (fs:List I)
 |tuple (fs:List I)
 |ref (c:I)
 |func (f:FuncId) (caps:List I)
 |iface (t:TypeId) (v:I)
 |ptr (n:Nat) (p:List Nat)
 |own (n:Nat) (k:Nat)
 |view (n:Nat) (p:List Nat) (sz lo k:Nat)
 |mref (n:Nat)
 |dq (n:Nat)
 |dj (ks vs:List I)
 deriving Inhabited
inductive cR where
 |one
 |eI (l:List cR)
 deriving Inhabited
mutual
def cR.size:cR→Nat
 | .one=>1
 | .eI l=>cR.sizes l
def cR.sizes:List cR→Nat
 | []=>0
 |s::l=>s.size+cR.sizes l
end
mutual
def I.aX:I→cR
 | .agg fs=>.eI (I.c7 fs)
 |_=>.one
def I.c7:List I→List cR
 | []=>[]
 |f::fs=>f.aX::I.c7 fs
end
mutual
def I.size:I→Nat
 | .agg fs=>I.sizes fs
 |_=>1
def I.sizes:List I→Nat
 | []=>0
 |f::fs=>f.size+I.sizes fs
end
def I.isAgg:I→Bool
 | .agg _=>true
 |_=>false
def cR.off:cR→List Nat→Option Nat
 |_,[]=>some 0
 | .one,_::_=>none
 | .eI l,i::p=>match l[i]? with
  |some s=>(s.off p).map (cR.sizes (l.take i) + ·)
  |none=>none
def cR.part:cR→List Nat→Option cR
 |s,[]=>some s
 | .one,_::_=>none
 | .eI l,i::p=>match l[i]? with
  |some s=>s.part p
  |none=>none
def I.at:I→List Nat→Option I
 |c,[]=>some c
 | .agg fs,i::p=>match fs[i]? with
  |some f=>f.at p
  |none=>none
 |_,_::_=>none
def I.ev:I→List Nat→I→I
 |_,[],v=>v
 | .agg fs,i::p,v=>match fs[i]? with
  |some f=>.agg (fs.set i (f.ev p v))
  |none=>.agg fs
 |c,_::_,_=>c
inductive bM where
 |aL (b:Nat) (aX:cR)
 |rw (aJ:Option (Nat×Nat)) (len:Nat)
 |op (b:Nat)
 |bz (b:Nat)
 |it (b:Nat)
def bM.eg:bM→Bool
 | .rw _ _=>false
 |_=>true
def bM.le(e e':bM):Prop:=e'=e∨∃ aJ l blk' l',e=.rw aJ l∧e'=.rw blk' l'∧l≤l'∧(l'=l→blk'=aJ)
theorem bM.le.refl(e:bM):e.le e:=.inl rfl
theorem bM.le.eq{e e':bM}(h:e.le e')(hf:e.eg=true):e'=e:=by
 rcases h with h | ⟨aJ,l,blk',l',rfl,_⟩
 ·exact h
 ·cases hf
theorem bM.le.trans{a b c:bM}(h:a.le b)(k:b.le c):a.le c:=by
 rcases h with rfl | ⟨aJ,l,blk',l',rfl,rfl,J,U⟩
 ·exact k
 ·rcases k with rfl | ⟨_,_,blk2,l2,e,rfl,ah,ar⟩
  ·exact .inr ⟨aJ,l,blk',l',rfl,rfl,J,U⟩
  ·cases e;exact .inr ⟨aJ,l,blk2,l2,rfl,rfl,by omega,fun e=>by rw[ar (by omega),U (by omega)]⟩
abbrev aP:=Nat→Nat→Prop
abbrev aY:=Nat→Option bM
def reads(w:World)(D:aP)(b off:Nat)(cs:List Value):Prop :=
 ∀ j v,cs[j]?=some v→w.cell? ⟨b,off+j,none⟩=some v∧D b (off+j)
def oz(es:Array MapEntry)(clock:Nat):Prop:=(∀ x∈es.toList,x.born<clock)∧(es.toList.map (·.born)).Nodup
def nU(w:World)(D:aP)(b:Nat)(es:Array MapEntry)(clock:Nat):Prop:=w.heap[b]?=some (.map es clock)∧D b 0∧oz es clock
def bD(e:I)(v:Value)(cs:List Value):Prop:=if e.isAgg then v=.agg cs.toArray else cs=[v]
def jr(f:Nat)(vs:List Value):Value:=if f<1000000 then .func (.func f) #[] vs.toArray else .func (.func (f-1000000)) vs.toArray #[]
theorem mG{f:Nat}(h:f<1000000)(vs:List Value):jr f vs=.func (.func f) #[] vs.toArray:=by simp only[jr,if_pos h]
theorem qv(f:Nat)(vs:List Value):jr (f+1000000) vs=.func (.func f) vs.toArray #[]:=by
 simp only[jr,if_neg (show ¬ f+1000000<1000000 by omega),Nat.add_sub_cancel]
theorem M9{f:Nat}{vs vs':List Value}(h:jr f vs=jr f vs'):vs=vs':=by
 rcases Nat.lt_or_ge f 1000000 with hf | hf
 ·rw[mG hf,mG hf] at h;simpa using h
 ·obtain ⟨g,rfl⟩:∃ g,f=g+1000000:=⟨f-1000000,by omega⟩
  rw[qv,qv] at h;simpa using h
theorem Bn(f:Nat)(vs:List Value):(jr f vs).oneCell'=true:=by
 simp only[jr];split <;>simp[Value.oneCell']
mutual
/-- These cells hold this value. -/
def al(w:World)(D:aP)(E:aY):I→List Value→Prop
 | .agg fs,cs=>aN w D E fs cs
 | .bool b,cs=>cs=[.bool b]
 | .int k n,cs=>cs=[.int k n]∧k.min≤n∧n≤k.max
 | .bQ s,cs=>cs=[.string s]∧s.size≤maxLen
 | .nilp,cs=>cs=[.pointer none]
 | .dB,cs=>cs=[.nilFunc]
 | .dX,cs=>cs=[.nilIface]
 | .any,cs=>∃ v:Value,cs=[v]∧v.oneCell'=true
 | .raw u,cs=>cs=[u]∧u.oneCell'=true
 | .nils _,cs=>cs=[.slice none 0 0]
 | .c0 _,cs=>∃ a,cs=[.slice a 0 0]
 | .slice sz es,cs=>∃ a cap,cs=[.slice a es.length cap]∧es.length≤cap∧cap≤maxLen ∧
   (es=[]∨∃ b off cs',a=some ⟨b,off,none⟩∧reads w D b off cs'∧aN w D E es cs')∧∀ e∈es,e.size=sz
 | .ref c,cs=>∃ b off cs',cs=[.pointer (some ⟨b,off,none⟩)]∧reads w D b off cs'∧al w D E c cs'
 | .func f caps,cs=>∃ vs:List Value,cs=[jr f vs]∧aI w D E caps vs
 | .iface t v,cs=>∃ u cs',cs=[.iface t u]∧bD v u cs'∧al w D E v cs'
 | .ptr n p,cs=>∃ b aX off,E n=some (.aL b aX)∧aX.off p=some off∧cs=[.pointer (some ⟨b,off,none⟩)]
 | .own n k,cs=>∃ aJ l,E n=some (.rw aJ l)∧k≤l∧(∃ a m c,cs=[.slice a m c]) ∧
   (k=l→match aJ with | none=>cs=[.slice none 0 0] | some (b,cap)=>cs=[.slice (some ⟨b,0,none⟩) k cap])
 | .view n p sz lo k,cs=>∃ b aX off l,E n=some (.aL b aX)∧aX.off p=some off∧aX.part p=some (.eI l)∧cs=[.slice (some ⟨b,off+lo*sz,none⟩) k (l.length-lo)]∧l.length≤maxLen∧lo+k≤l.length∧∀ s∈l,s.size=sz
 | .mref n,cs=>∃ b,E n=some (.bz b)∧cs=[.map (some b)]
 | .dq n,cs=>∃ b,E n=some (.it b)∧cs=[.pointer (some ⟨b,0,none⟩)]
 | .dj ks vs,cs=>∃ b es clock,cs=[.map (some b)]∧nU w D b es clock∧aI w D E ks (es.toList.map (·.key))∧aI w D E vs (es.toList.map (·.val))
 | .undef,_ | .dw,_ | .tuple _,_=>False
def aN(w:World)(D:aP)(E:aY):List I→List Value→Prop
 | [],cs=>cs=[]
 |e::es,cs=>∃ c1 c2,cs=c1++c2∧al w D E e c1∧aN w D E es c2
def aI(w:World)(D:aP)(E:aY):List I→List Value→Prop
 | [],vs=>vs=[]
 |e::es,vs=>∃ v rest cs,vs=v::rest∧bD e v cs∧al w D E e cs∧aI w D E es rest
end
def aZ(w:World)(D:aP)(E:aY)(x:I)(v:Value):Prop :=
 match x with
 | .undef=>v=undef
 | .dw=>True
 | .tuple fs=>∃ vs:List Value,v=.tuple vs.toArray∧aI w D E fs vs
 |x=>∃ cs,bD x v cs∧al w D E x cs
structure dW (w:World) (D:aP) (E:aY) (w':World) (D':aP) (E':aY):Prop where
 c9:∀ b o,D b o→D' b o
 cell:∀ b o v,D b o→w.cell? ⟨b,o,none⟩=some v→w'.cell? ⟨b,o,none⟩=some v
 aL:∀ n b aX,E n=some (.aL b aX)→E' n=some (.aL b aX)
 rw:∀ n aJ l,E n=some (.rw aJ l)→∃ blk' l',E' n=some (.rw blk' l')∧l≤l'∧(l'=l→blk'=aJ)
 bz:∀ n b,E n=some (.bz b)→E' n=some (.bz b)
 it:∀ n b,E n=some (.it b)→E' n=some (.it b)
 jd:∀ b es ck,D b 0→w.heap[b]?=some (.map es ck)→w'.heap[b]?=some (.map es ck)
structure gN (w:World) (D:aP) (w':World):Prop where
 cell:∀ b o v,D b o→w.cell? ⟨b,o,none⟩=some v→w'.cell? ⟨b,o,none⟩=some v
 jd:∀ b es ck,D b 0→w.heap[b]?=some (.map es ck)→w'.heap[b]?=some (.map es ck)
theorem gN.refl(w:World)(D:aP):gN w D w:=⟨fun _ _ _ _ h=>h,fun _ _ _ _ h=>h⟩
theorem gN.trans{w w' w'':World}{D D':aP}(h:gN w D w')(hD:∀ b o,D b o→D' b o)(k:gN w' D' w''):gN w D w'' :=
 ⟨fun b o v af hv=>k.cell b o v (hD b o af) (h.cell b o v af hv),fun b es ck af hm=>k.jd b es ck (hD b 0 af) (h.jd b es ck af hm)⟩
theorem dW.fC{w w':World}{D D':aP}{E E':aY}(h:dW w D E w' D' E'):gN w D w':=⟨h.cell,h.jd⟩
theorem nU.later{w w':World}{D D':aP}{E E':aY}(h:dW w D E w' D' E'){b:Nat}{es:Array MapEntry}{clock:Nat}(hr:nU w D b es clock):nU w' D' b es clock :=
 ⟨h.jd _ _ _ hr.2.1 hr.1,h.c9 _ _ hr.2.1,hr.2.2⟩
theorem reads.later{w w':World}{D D':aP}{E E':aY}(h:dW w D E w' D' E'){b off:Nat}{cs:List Value}(hr:reads w D b off cs):reads w' D' b off cs :=
 fun j v hj=>⟨h.cell _ _ _ (hr j v hj).2 (hr j v hj).1,h.c9 _ _ (hr j v hj).2⟩
mutual
theorem al.later{w w':World}{D D':aP}{E E':aY}(h:dW w D E w' D' E'):∀ (x:I) (cs:List Value),al w D E x cs→al w' D' E' x cs
 | .agg fs,cs,hr=>by simp only[al] at *;exact aN.later h fs cs hr
 | .bool b,cs,hr=>by simpa only[al] using hr
 | .int k n,cs,hr=>by simpa only[al] using hr
 | .bQ s,cs,hr=>by simpa only[al] using hr
 | .nilp,cs,hr=>by simpa only[al] using hr
 | .dB,cs,hr=>by simpa only[al] using hr
 | .dX,cs,hr | .any,cs,hr=>by simpa only[al] using hr
 | .raw _,cs,hr=>by simpa only[al] using hr
 | .nils _,cs,hr=>by simpa only[al] using hr
 | .c0 _,cs,hr=>by simpa only[al] using hr
 | .slice sz es,cs,hr=>by
  simp only[al] at *;obtain ⟨a,cap,J,U,ah,ar,h5⟩:=hr;refine ⟨a,cap,J,U,ah,?_,h5⟩;rcases ar with ar | ⟨b,off,cs',h6,h7,h8⟩
  ·exact .inl ar
  ·exact .inr ⟨b,off,cs',h6,h7.later h,aN.later h es cs' h8⟩
 | .ref c,cs,hr=>by
  simp only[al] at *;obtain ⟨b,off,cs',J,U,ah⟩:=hr;exact ⟨b,off,cs',J,U.later h,al.later h c cs' ah⟩
 | .func f caps,cs,hr=>by
  simp only[al] at *;obtain ⟨vs,J,U⟩:=hr;exact ⟨vs,J,aI.later h caps vs U⟩
 | .iface t v,cs,hr=>by
  simp only[al] at *;obtain ⟨u,cs',J,U,ah⟩:=hr;exact ⟨u,cs',J,U,al.later h v cs' ah⟩
 | .ptr n p,cs,hr=>by
  simp only[al] at *;obtain ⟨b,aX,off,J,U,ah⟩:=hr;exact ⟨b,aX,off,h.aL _ _ _ J,U,ah⟩
 | .own n k,cs,hr=>by
  simp only[al] at *;obtain ⟨aJ,l,J,U,ah,ar⟩:=hr;obtain ⟨blk',l',h5,h6,h7⟩:=h.rw _ _ _ J;refine ⟨blk',l',h5,zw3 U h6,ah,fun e =>?_⟩;have e1:l'=l:=by omega
  rw[h7 e1];exact ar (by omega)
 | .view n p _ _ _,cs,hr=>by
  simp only[al] at *;obtain ⟨b,aX,off,l,J,U⟩:=hr;exact ⟨b,aX,off,l,h.aL _ _ _ J,U⟩
 | .mref n,cs,hr=>by
  simp only[al] at *;obtain ⟨b,J,U⟩:=hr;exact ⟨b,h.bz _ _ J,U⟩
 | .dq n,cs,hr=>by
  simp only[al] at *;obtain ⟨b,J,U⟩:=hr;exact ⟨b,h.it _ _ J,U⟩
 | .dj ks vs,cs,hr=>by
  simp only[al] at *;obtain ⟨b,es,clock,J,U,ah,ar⟩:=hr;exact ⟨b,es,clock,J,U.later h,aI.later h ks _ ah,aI.later h vs _ ar⟩
 | .undef,_,hr=>by simp only[al] at hr
 | .dw,_,hr=>by simp only[al] at hr
 | .tuple _,_,hr=>by simp only[al] at hr
theorem aN.later{w w':World}{D D':aP}{E E':aY}(h:dW w D E w' D' E'):∀ (xs:List I) (cs:List Value),aN w D E xs cs→aN w' D' E' xs cs
 | [],cs,hr=>by simpa only[aN] using hr
 |x::xs,cs,hr=>by
  simp only[aN] at *;obtain ⟨c1,c2,J,U,ah⟩:=hr;exact ⟨c1,c2,J,al.later h x c1 U,aN.later h xs c2 ah⟩
theorem aI.later{w w':World}{D D':aP}{E E':aY}(h:dW w D E w' D' E'):∀ (xs:List I) (vs:List Value),aI w D E xs vs→aI w' D' E' xs vs
 | [],vs,hr=>by simpa only[aI] using hr
 |x::xs,vs,hr=>by
  simp only[aI] at *;obtain ⟨v,rest,cs,J,U,ah,ar⟩:=hr;exact ⟨v,rest,cs,J,U,al.later h x cs ah,aI.later h xs rest ar⟩
end
theorem aZ.later{w w':World}{D D':aP}{E E':aY}(h:dW w D E w' D' E'){x:I}{v:Value}(hr:aZ w D E x v):aZ w' D' E' x v:=by
 cases x <;>simp only[aZ] at * <;>first
  |exact hr
  |(obtain ⟨vs,J,U⟩:=hr;exact ⟨vs,J,aI.later h _ _ U⟩)
  |(obtain ⟨cs,J,U⟩:=hr;exact ⟨cs,J,al.later h _ _ U⟩)
mutual
theorem I.ln:∀ x:I,x.aX.size=x.size
 | .agg fs=>by simp only[I.aX,I.size,cR.size];exact I.ml fs
 | .undef | .dw | .bool _ | .int _ _ | .bQ _ | .nilp | .dB | .dX | .any | .raw _ | .nils _ | .c0 _ | .slice _ _ | .tuple _ | .ref _ | .func _ _ | .iface _ _ | .ptr _ _ | .own _ _ | .view _ _ _ _ _ | .mref _ | .dq _ | .dj _ _=>by simp only[I.aX,I.size,cR.size]
theorem I.ml:∀ xs:List I,cR.sizes (I.c7 xs)=I.sizes xs
 | []=>by simp only[I.c7,I.sizes,cR.sizes]
 |x::xs=>by simp only[I.c7,I.sizes,cR.sizes];rw[I.ln x,I.ml xs]
end
mutual
theorem al.length{w:World}{D:aP}{E:aY} : ∀ (x:I) (cs:List Value),al w D E x cs→cs.length=x.size
 | .agg fs,cs,hr=>by simp only[al,I.size] at *;exact aN.length fs cs hr
 | .bool b,cs,hr=>by simp only[al] at hr;simp[hr,I.size]
 | .int k n,cs,hr=>by simp only[al] at hr;simp[hr.1,I.size]
 | .bQ s,cs,hr=>by simp only[al] at hr;simp[hr.1,I.size]
 | .nilp,cs,hr=>by simp only[al] at hr;simp[hr,I.size]
 | .dB,cs,hr=>by simp only[al] at hr;simp[hr,I.size]
 | .dX,cs,hr=>by simp only[al] at hr;simp[hr,I.size]
 | .any,cs,hr=>by simp only[al] at hr;obtain ⟨v,rfl,_⟩:=hr;simp[I.size]
 | .raw u,cs,hr=>by simp only[al] at hr;simp[hr.1,I.size]
 | .nils _,cs,hr=>by simp only[al] at hr;simp[hr,I.size]
 | .c0 _,cs,hr=>by simp only[al] at hr;obtain ⟨a,rfl⟩:=hr;simp[I.size]
 | .slice sz es,cs,hr=>by simp only[al] at hr;obtain ⟨a,cap,rfl,_⟩:=hr;simp[I.size]
 | .ref c,cs,hr=>by simp only[al] at hr;obtain ⟨b,off,cs',rfl,_⟩:=hr;simp[I.size]
 | .func f caps,cs,hr=>by simp only[al] at hr;obtain ⟨vs,rfl,_⟩:=hr;simp[I.size]
 | .iface t v,cs,hr=>by simp only[al] at hr;obtain ⟨u,cs',rfl,_⟩:=hr;simp[I.size]
 | .ptr n p,cs,hr=>by simp only[al] at hr;obtain ⟨b,aX,off,_,_,rfl⟩:=hr;simp[I.size]
 | .own n k,cs,hr=>by simp only[al] at hr;obtain ⟨aJ,l,_,_,⟨a,m,c,rfl⟩,_⟩:=hr;simp[I.size]
 | .view n p _ _ _,cs,hr=>by simp only[al] at hr;obtain ⟨b,aX,off,l,_,_,_,rfl,_⟩:=hr;simp[I.size]
 | .mref n,cs,hr=>by simp only[al] at hr;obtain ⟨b,_,rfl⟩:=hr;simp[I.size]
 | .dq n,cs,hr=>by simp only[al] at hr;obtain ⟨b,_,rfl⟩:=hr;simp[I.size]
 | .dj ks vs,cs,hr=>by simp only[al] at hr;obtain ⟨b,es,ck,rfl,_⟩:=hr;simp[I.size]
 | .undef,_,hr=>by simp only[al] at hr
 | .dw,_,hr=>by simp only[al] at hr
 | .tuple _,_,hr=>by simp only[al] at hr
theorem aN.length{w:World}{D:aP}{E:aY} : ∀ (xs:List I) (cs:List Value),aN w D E xs cs→cs.length=I.sizes xs
 | [],cs,hr=>by simp only[aN] at hr;simp[hr,I.sizes]
 |x::xs,cs,hr=>by
  simp only[aN] at hr;obtain ⟨c1,c2,rfl,J,U⟩:=hr;simp only[Z7,I.sizes,al.length x c1 J,aN.length xs c2 U]
end
mutual
theorem al.lV{w:World}{D:aP}{E:aY} : ∀ (x:I) (cs:List Value),al w D E x cs→∀ v∈cs,v.oneCell'=true
 | .agg fs,cs,hr=>by simp only[al] at hr;exact aN.lV fs cs hr
 | .bool b,cs,hr=>by simp only[al] at hr;simp[hr,Value.oneCell']
 | .int k n,cs,hr=>by simp only[al] at hr;simp[hr.1,Value.oneCell']
 | .bQ s,cs,hr=>by simp only[al] at hr;simp[hr.1,Value.oneCell']
 | .nilp,cs,hr=>by simp only[al] at hr;simp[hr,Value.oneCell']
 | .dB,cs,hr=>by simp only[al] at hr;simp[hr,Value.oneCell']
 | .dX,cs,hr=>by simp only[al] at hr;simp[hr,Value.oneCell']
 | .any,cs,hr=>by simp only[al] at hr;obtain ⟨v,rfl,h⟩:=hr;simpa using h
 | .raw u,cs,hr=>by simp only[al] at hr;simpa[hr.1] using hr.2
 | .nils _,cs,hr=>by simp only[al] at hr;simp[hr,Value.oneCell']
 | .c0 _,cs,hr=>by simp only[al] at hr;obtain ⟨a,rfl⟩:=hr;simp[Value.oneCell']
 | .slice sz es,cs,hr=>by simp only[al] at hr;obtain ⟨a,cap,rfl,_⟩:=hr;simp[Value.oneCell']
 | .ref c,cs,hr=>by simp only[al] at hr;obtain ⟨b,off,cs',rfl,_⟩:=hr;simp[Value.oneCell']
 | .func f caps,cs,hr=>by simp only[al] at hr;obtain ⟨vs,rfl,_⟩:=hr;simp only[jr];split <;>simp[Value.oneCell']
 | .iface t v,cs,hr=>by simp only[al] at hr;obtain ⟨u,cs',rfl,_⟩:=hr;simp[Value.oneCell']
 | .ptr n p,cs,hr=>by simp only[al] at hr;obtain ⟨b,aX,off,_,_,rfl⟩:=hr;simp[Value.oneCell']
 | .own n k,cs,hr=>by simp only[al] at hr;obtain ⟨aJ,l,_,_,⟨a,m,c,rfl⟩,_⟩:=hr;simp[Value.oneCell']
 | .view n p _ _ _,cs,hr=>by simp only[al] at hr;obtain ⟨b,aX,off,l,_,_,_,rfl,_⟩:=hr;simp[Value.oneCell']
 | .mref n,cs,hr=>by simp only[al] at hr;obtain ⟨b,_,rfl⟩:=hr;simp[Value.oneCell']
 | .dq n,cs,hr=>by simp only[al] at hr;obtain ⟨b,_,rfl⟩:=hr;simp[Value.oneCell']
 | .dj ks vs,cs,hr=>by simp only[al] at hr;obtain ⟨b,es,ck,rfl,_⟩:=hr;simp[Value.oneCell']
 | .undef,_,hr=>by simp only[al] at hr
 | .dw,_,hr=>by simp only[al] at hr
 | .tuple _,_,hr=>by simp only[al] at hr
theorem aN.lV{w:World}{D:aP}{E:aY} : ∀ (xs:List I) (cs:List Value),aN w D E xs cs→∀ v∈cs,v.oneCell'=true
 | [],cs,hr=>by simp only[aN] at hr;simp[hr]
 |x::xs,cs,hr=>by
  simp only[aN] at hr;obtain ⟨c1,c2,rfl,J,U⟩:=hr;intro v hv;rcases zy7.1 hv with h | h
  ·exact al.lV x c1 J v h
  ·exact aN.lV xs c2 U v h
end
theorem bD.cells{x:I}{v:Value}{cs:List Value}{w:World}{D:aP}{E:aY}(h:bD x v cs)(hr:al w D E x cs):v.cells.toList=cs:=by
 unfold bD at h;split at h
 ·rw[h];simp[Value.cells]
 ·subst h;have:=al.lV x _ hr v (by simp);cases v <;>simp[Value.cells,Value.oneCell'] at *
theorem l3{w:World}{D:aP}{E:aY} : ∀ (xs:List I) (cs:List Value) (i:Nat) (x:I),aN w D E xs cs→xs[i]?=some x →
  ∃ c1 c2 c3,cs=c1++c2++c3∧c1.length=I.sizes (xs.take i)∧aN w D E (xs.take i) c1∧al w D E x c2∧aN w D E (xs.drop (i+1)) c3
 | [],_,i,x,_,h=>by simp at h
 |y::ys,cs,0,x,hr,h=>by
  simp only[List.getElem?_cons_zero,v6] at h;subst h;simp only[aN] at hr;obtain ⟨c1,c2,rfl,J,U⟩:=hr;exact ⟨[],c1,c2,by simp,by simp[I.sizes],by simp[aN],J,by simpa using U⟩
 |y::ys,cs,i+1,x,hr,h=>by
  simp only[List.getElem?_cons_succ] at h;simp only[aN] at hr;obtain ⟨c0,c',rfl,J,U⟩:=hr;obtain ⟨c1,c2,c3,rfl,ah,ar,h5,h6⟩:=l3 ys c' i x U h;refine ⟨c0++c1,c2,c3,by simp,?_,?_,h5,by simpa using h6⟩
  ·simp only[Z7,zy5,I.sizes,ah,al.length y c0 J]
  ·simp only[zy5,aN];exact ⟨c0,c1,rfl,J,ar⟩
theorem jW{w:World}{D:aP}{E:aY} : ∀ (xs ys:List I) (cs ds:List Value),aN w D E xs cs→aN w D E ys ds→aN w D E (xs++ys) (cs++ds)
 | [],ys,cs,ds,h,k=>by simp only[aN] at h;subst h;simpa using k
 |x::xs,ys,cs,ds,h,k=>by
  simp only[aN,Z5] at *;obtain ⟨c1,c2,rfl,J,U⟩:=h;exact ⟨c1,c2++ds,by simp,J,jW xs ys c2 ds U k⟩
theorem I.im{sz:Nat} : ∀ (xs:List I),(∀ x∈xs,x.size=sz)→I.sizes xs=xs.length*sz
 | [],_=>by simp[I.sizes]
 |x::xs,h=>by
  simp only[I.sizes,zx7];rw[h x (by simp),I.im xs (fun y hy=>h y (by simp[hy])),Nat.add_mul];omega
theorem I.dy:∀ xs:List I,I.c7 xs=xs.map I.aX
 | []=>by simp[I.c7]
 |x::xs=>by simp[I.c7,I.dy xs]
theorem xl{w:World}{D:aP}{E:aY} : ∀ (p:List Nat) (c x:I) (cs:List Value),al w D E c cs→c.at p=some x →
  ∃ off c1 c2 c3,c.aX.off p=some off∧cs=c1++c2++c3∧c1.length=off∧al w D E x c2
 | [],c,x,cs,hr,h=>by
  simp only[I.at,v6] at h;subst h;exact ⟨0,[],cs,[],by cases c.aX <;>simp[cR.off],by simp,rfl,hr⟩
 |i::p,.agg fs,x,cs,hr,h=>by
  simp only[I.at] at h;simp only[al] at hr;cases hf:fs[i]? with
  |none=>simp[hf] at h
  |some f =>
   simp only[hf] at h;obtain ⟨c1,c2,c3,rfl,J,_,ah,_⟩:=l3 fs cs i f hr hf;obtain ⟨off,d1,d2,d3,ar,rfl,h6,h7⟩:=xl p f x c2 ah h;refine ⟨I.sizes (fs.take i)+off,c1++d1,d2,d3++c3,?_,by simp,by simp[J,h6],h7⟩;simp only[I.aX,cR.off,I.dy,zy0,hf,zz0,ar];rw[←List.map_take,←I.dy,I.ml]
 |_::_,.undef,_,_,_,h | _::_,.dw,_,_,_,h | _::_,.bool _,_,_,_,h | _::_,.int _ _,_,_,_,h | _::_,.bQ _,_,_,_,h | _::_,.nilp,_,_,_,h
 |_::_,.dB,_,_,_,h | _::_,.dX,_,_,_,h | _::_,.any,_,_,_,h | _::_,.raw _,_,_,_,h | _::_,.nils _,_,_,_,h | _::_,.c0 _,_,_,_,h | _::_,.slice _ _,_,_,_,h | _::_,.tuple _,_,_,_,h
 |_::_,.ref _,_,_,_,h | _::_,.func _ _,_,_,_,h | _::_,.iface _ _,_,_,_,h | _::_,.ptr _ _,_,_,_,h | _::_,.own _ _,_,_,_,h | _::_,.view _ _ _ _ _,_,_,_,h | _::_,.mref _,_,_,_,h | _::_,.dq _,_,_,_,h | _::_,.dj _ _,_,_,_,h=>by simp[I.at] at h
theorem tF{w:World}{D:aP}{E:aY} : ∀ (p:List Nat) (c x y:I) (cs ds:List Value),al w D E c cs→c.at p=some x→al w D E y ds→y.aX=x.aX →
  ∃ off,c.aX.off p=some off∧off+ds.length≤cs.length∧al w D E (c.ev p y) (cs.take off++ds++cs.drop (off+ds.length))∧(c.ev p y).aX=c.aX
 | [],c,x,y,cs,ds,hr,h,hy,ab=>by
  simp only[I.at,v6] at h;subst h;have aq:ds.length=cs.length:=by rw[al.length _ _ hy,al.length _ _ hr,←I.ln,←I.ln,ab]
  refine ⟨0,by cases c.aX <;>simp[cR.off],by omega,?_,by simpa[I.ev] using ab⟩;simpa[I.ev,aq] using hy
 |i::p,.agg fs,x,y,cs,ds,hr,h,hy,ab=>by
  simp only[I.at] at h;simp only[al] at hr;cases hf:fs[i]? with
  |none=>simp[hf] at h
  |some f =>
   simp only[hf] at h;obtain ⟨c1,c2,c3,rfl,J,U,ah,h3'⟩:=l3 fs cs i f hr hf;obtain ⟨off,ar,h5,h6,h7⟩:=tF p f x y c2 ds ah h hy ab;have hi:i<fs.length:=(Z6.1 hf).1;have hfi:fs[i]=f:=(Z6.1 hf).2;refine ⟨I.sizes (fs.take i)+off,?_,?_,?_,?_⟩
   ·simp only[I.aX,cR.off,I.dy,zy0,hf,zz0,ar];rw[←List.map_take,←I.dy,I.ml]
   ·simp only[Z7,J];omega
   ·simp only[I.ev,hf,al];have e1:fs.set i (f.ev p y)=fs.take i++f.ev p y::fs.drop (i+1):=by rw[List.set_eq_take_append_cons_drop];simp[hi]
    rw[e1];have e2:(c1++c2++c3).take (I.sizes (fs.take i)+off)++ds++(c1++c2++c3).drop (I.sizes (fs.take i)+off+ds.length)=c1++((c2.take off++ds++c2.drop (off+ds.length))++c3):=by
     rw[←J,zz1 c1 c2 c3,List.take_length_add_append,Nat.add_assoc,List.drop_length_add_append,List.take_append_of_le_length (by omega),List.drop_append_of_le_length (by omega)];simp
    rw[e2];refine jW _ _ _ _ U ?_;simp only[aN];exact ⟨_,_,rfl,h6,h3'⟩
   ·simp only[I.ev,hf,I.aX,I.dy,List.map_set,h7,cR.eI.injEq];apply List.ext_getElem?;intro k;rw[List.getElem?_set];split
    ·rename_i hk;subst hk;simp[hi,hfi]
    ·rfl
 |_::_,.undef,_,_,_,_,_,h,_,_ | _::_,.dw,_,_,_,_,_,h,_,_ | _::_,.bool _,_,_,_,_,_,h,_,_ | _::_,.int _ _,_,_,_,_,_,h,_,_ | _::_,.bQ _,_,_,_,_,_,h,_,_ | _::_,.nilp,_,_,_,_,_,h,_,_
 |_::_,.dB,_,_,_,_,_,h,_,_ | _::_,.dX,_,_,_,_,_,h,_,_ | _::_,.any,_,_,_,_,_,h,_,_ | _::_,.raw _,_,_,_,_,_,h,_,_ | _::_,.nils _,_,_,_,_,_,h,_,_ | _::_,.c0 _,_,_,_,_,_,h,_,_ | _::_,.slice _ _,_,_,_,_,_,h,_,_ | _::_,.tuple _,_,_,_,_,_,h,_,_
 |_::_,.ref _,_,_,_,_,_,h,_,_ | _::_,.func _ _,_,_,_,_,_,h,_,_ | _::_,.iface _ _,_,_,_,_,_,h,_,_ | _::_,.ptr _ _,_,_,_,_,_,h,_,_ | _::_,.own _ _,_,_,_,_,_,h,_,_ | _::_,.view _ _ _ _ _,_,_,_,_,_,h,_,_ | _::_,.mref _,_,_,_,_,_,h,_,_ | _::_,.dq _,_,_,_,_,_,h,_,_ | _::_,.dj _ _,_,_,_,_,_,h,_,_=>by simp[I.at] at h
theorem mj:∀ (p:List Nat) (c x:I),c.at p=some x→c.aX.part p=some x.aX
 | [],c,x,h=>by simp only[I.at,v6] at h;subst h;cases c.aX <;>rfl
 |i::p,.agg fs,x,h=>by
  simp only[I.at] at h;cases hf:fs[i]? with
  |none=>simp[hf] at h
  |some f =>
   simp only[hf] at h;simp only[I.aX,cR.part,I.dy,zy0,hf,zz0];exact mj p f x h
 |_::_,.undef,_,h | _::_,.dw,_,h | _::_,.bool _,_,h | _::_,.int _ _,_,h | _::_,.bQ _,_,h | _::_,.nilp,_,h
 |_::_,.dB,_,h | _::_,.dX,_,h | _::_,.any,_,h | _::_,.raw _,_,h | _::_,.nils _,_,h | _::_,.c0 _,_,h | _::_,.slice _ _,_,h | _::_,.tuple _,_,h
 |_::_,.ref _,_,h | _::_,.func _ _,_,h | _::_,.iface _ _,_,h | _::_,.ptr _ _,_,h | _::_,.own _ _,_,h | _::_,.view _ _ _ _ _,_,h | _::_,.mref _,_,h | _::_,.dq _,_,h | _::_,.dj _ _,_,h=>by simp[I.at] at h
end Go.Abs
namespace Go.Abs
open Go Go.RowKit
inductive ao where
 |box (c:I)
 |bU (T:TypeId) (sz:Nat) (es:List I)
 |dJ (o:Obj)
 |bz (ks vs:List I)
 |it (ks vs:List I) (left:List Nat) (cur:Option Nat)
 |dK (T:TypeId) (xs:List Int)
 deriving Inhabited
def ao.eg:ao→Bool
 | .it _ _ _ _=>false
 |_=>true
structure ai where
 t:Nat→I
 o:Nat→Option ao
def ai.put(A:ai)(d:Nat)(v:I):ai:=⟨fun k=>if k=d then v else A.t k,A.o⟩
def ai.aS(A:ai)(d:Option Nat)(v:I):ai:=match d with | some d=>A.put d v | none=>A
def ai.aT(A:ai)(n:Nat)(x:ao):ai:=⟨A.t,fun k=>if k=n then some x else A.o k⟩
def bY:List (Nat×I)→Nat→I
 | [],_=>.dw
 |(k,v)::r,t=>if t=k then v else bY r t
def aj:List (Nat×ao)→Nat→Option ao
 | [],_=>none
 |(k,v)::r,t=>if t=k then some v else aj r t
def av(ts:List (Nat×I))(os:List (Nat×ao)):ai:=⟨bY ts,aj os⟩
def aw(os:List (Nat×ao))(n:Nat):Bool:=(aj os n).isSome
abbrev cK:=I→List (Nat×ao)→Prop
structure cV where
 P:Program
 fV:World
 bF:aP
 n:Nat
 own:Nat→Prop
 dk:aY
 Y:Value→List I→List (Nat×ao)→cK→Prop
 lf:Option Nat
 fq:Option (List Deferred):=none
def dx:Value→List I→List (Nat×ao)→cK→Prop:=fun _ _ _ _=>False
def cV.bC(c:cV):Fence:=match c.lf with
 |none=>Fence.wide
 |some l=>Fence.wide.inRound l
def cV.eZ(c:cV)(b:Nat):Prop:=c.fV.heap.size≤b∨c.own b
structure eY (M:Nat→Prop) (w w':World):Prop where
 os:w'.os=w.os
 tape:w'.tape=w.tape
 output:w'.output=w.output
 size:w.heap.size≤w'.heap.size
 block:∀ k,¬ M k→w'.heap[k]?=w.heap[k]?
theorem eY.refl(M:Nat→Prop)(w:World):eY M w w:=⟨rfl,rfl,rfl,Z4 _,fun _ _=>rfl⟩
theorem eY.trans{M:Nat→Prop}{a b c:World}(h:eY M a b)(k:eY M b c):eY M a c :=
 ⟨k.os.trans h.os,k.tape.trans h.tape,k.output.trans h.output,zw3 h.size k.size,fun i hi=>(k.block i hi).trans (h.block i hi)⟩
theorem eY.grow{M:Nat→Prop}{w w':World}{B:Nat}(h:Below B w w')(hB:∀ k,B≤k→M k):eY M w w' :=
 ⟨h.os,h.tape,h.output,h.size,fun k hk=>h.block k (Nat.lt_of_not_le fun hle=>hk (hB k hle))⟩
theorem eY.Hu{M:Nat→Prop}{w w':World}{B:Nat}(h:eY M w w')(hB:∀ k,k<B→¬ M k):Below B w w' :=
 ⟨h.os,h.tape,h.output,h.size,fun k hk=>h.block k (hB k hk)⟩
def bM.aJ:bM→Option Nat
 | .aL b _=>some b
 | .rw (some (b,_)) _=>some b
 | .rw none _=>none
 | .op b=>some b
 | .bz b=>some b
 | .it b=>some b
def bM.eM:bM→Bool
 | .op _ | .bz _ | .it _=>true
 |_=>false
def ph:Obj→Bool
 | .loop _=>true
 |_=>false
def wT:Obj→Bool
 | .deferred _=>false
 |_=>true
theorem Xi{o:Obj}(h:ph o=true):wT o=true:=by cases o <;>first | rfl | cases h
def nQ(es:Array MapEntry)(bq:Array Nat):List Nat:=(List.range es.size).filter fun i=>match es[i]? with
 |some e => !bq.contains e.born
 |none=>false
def c6(M:Nat→Prop)(w:World)(D:aP)(E:aY)(n:Nat):Option ao→Prop
 |none=>E n=none
 |some (.box x)=>∃ b cs T,E n=some (.aL b x.aX)∧M b∧w.heap[b]?=some (.cells cs T (0,0))∧al w D E x cs.toList∧∀ o,¬ D b o
 |some (.bU T sz es)=>∃ aJ,E n=some (.rw aJ es.length)∧(∀ e∈es,e.size=sz)∧match aJ with
  |none=>es=[]
  |some (b,cap)=>∃ cs pre rest,M b∧w.heap[b]?=some (.cells cs T (0,0))∧cs.toList=pre++rest∧aN w D E es pre ∧
    cs.size=cap*sz∧es.length≤cap∧cap≤maxLen∧∀ o,D b o→o<pre.length
 |some (.dJ x)=>∃ b,E n=some (.op b)∧M b∧w.heap[b]?=some x∧ph x=true∧∀ o,¬ D b o
 |some (.bz ks vs)=>∃ b es clock,E n=some (.bz b)∧M b∧w.heap[b]?=some (.map es clock)∧oz es clock∧aI w D E ks (es.toList.map (·.key))∧aI w D E vs (es.toList.map (·.val))∧∀ o,¬ D b o
 |some (.it ks vs left cur)=>∃ r b es clock since bq last,E n=some (.it r)∧M r∧w.heap[r]?=some (.mapIter (some b) since bq last)∧nU w D b es clock∧aI w D E ks (es.toList.map (·.key))∧aI w D E vs (es.toList.map (·.val)) ∧
   (∀ x∈es.toList,x.born<since)∧(since≤last∧since≤clock)∧left=nQ es bq∧(∀ i,cur=some i→∃ e,es[i]?=some e∧bq.back?=some e.born∧last=clock)∧∀ o,¬ D r o
 |some (.dK T xs)=>∃ aJ,E n=some (.rw aJ xs.length)∧(∀ x∈xs,IntKind.i64.min≤x∧x≤IntKind.i64.max)∧match aJ with
  |none=>xs=[]
  |some (b,cap)=>∃ cs m,M b∧w.heap[b]?=some (.cells cs T (0,0))∧cs.toList=(xs++List.replicate m 0).map (Value.int .i64)∧xs≠[]∧xs.length+m=cap∧cap≤maxLen∧∀ o,¬ D b o
def cL(E:aY)(b:Nat):Prop:=∃ n e,E n=some e∧e.aJ=some b
structure jF (M:Nat→Prop) (w:World) (D:aP) (E:aY) (o:Nat→Option ao):Prop where
 bP:∀ n,c6 M w D E n (o n)
 cQ:∀ n m e e' b,E n=some e→E m=some e'→e.aJ=some b→e'.aJ=some b→n=m
def nt(run:Array Value→World→(Ending→World→Prop)→Prop)(since:World→aP→aY→Prop)(args:List I)(os:List (Nat×ao))(post:cK):Prop :=
 ∀ (w:World) (D:aP) (E:aY) (vs:List Value),since w D E→(∀ b o,D b o→b<w.heap.size)→jF (fun _=>True) w D E (aj os)→aI w D E args vs →
  run vs.toArray w fun e w'=>∃ v D' E' r os',e=.returned v∧post r os'∧aZ w' D' E' r v∧jF (fun b=>w.heap.size≤b∨cL E b) w' D' E' (aj os') ∧
   eY (fun b=>w.heap.size≤b∨cL E b) w w'∧(∀ b o,D b o→D' b o)∧(∀ b o,D' b o→b<w'.heap.size)∧(∀ b o,D' b o→b<w.heap.size→¬ cL E b→D b o) ∧
   (∀ n e,E n=some e→aw os' n=true→∃ e',E' n=some e'∧e.le e')∧gN w D w'
def wv : String := "internal/strconv.uint64pow10"
def WE:Array Value:=(((List.range 20).map fun i=>((10^i:Nat):Int)).map fun z=>Value.int .u64 z).toArray
def gM(P:Program)(w:World)(own:Nat→Prop):Prop :=
 ∀ g,P.globalNamed wv=some g→¬ own g∧w.var? P wv=some WE
theorem gM.nR{P:Program}{w:World}{own own':Nat→Prop}(h:gM P w own)(ho:∀ b,own' b→own b):gM P w own':=fun g hg=>⟨fun k=>(h g hg).1 (ho g k),(h g hg).2⟩
theorem gM.Wy{P:Program}{w w':World}{own own' M:Nat→Prop}(h:gM P w own)(hk:eY M w w')(hM:∀ b,M b→w.heap.size≤b∨own b)(ho:∀ b,own' b→M b):gM P w' own':=fun g hg=>by
 obtain ⟨J,U⟩:=h g hg;have ah:=U;unfold World.var? at U ⊢;rw[hg] at U ⊢;simp only[Option.bind_some] at U ⊢;have hlt:g<w.heap.size:=by
  rcases Nat.lt_or_ge g w.heap.size with h | h
  ·exact h
  ·rw[Array.getElem?_eq_none h] at U;cases U
 have hn:¬ M g:=fun hm=>by
  rcases hM g hm with h | h
  ·omega
  ·exact J h
 refine ⟨fun k=>hn (ho g k),?_⟩;rw[hk.block g hn];exact U
structure yw (c:cV) (w:World) (D:aP) (E:aY):Prop where
 dO:eY c.eZ c.fV w
 cT:∀ b o,c.bF b o→D b o
 c9:∀ b o,D b o→¬ c.eZ b→c.bF b o
 dS:∀ n e,c.dk n=some e→E n=none∨∃ e',E n=some e'∧e.le e'
 fC:gN c.fV c.bF w
 qP:gM c.P w (cL E)
def sg(P:Program)(v:Value)(vs:Array Value)(w:World)(R:Ending→World→Prop):Prop :=
 ∃ l,v=.func (.yield l) #[] #[]∧YieldAt Fence.wide 9 P l vs w R
def oJ(c:cV):Prop:=gM c.P c.fV c.own∧∀ v args os post,c.Y v args os post→nt (sg c.P v) (yw c) args os post
def nu(fq:Option (List Deferred))(fV:World)(ds:List Deferred)(w:World):Prop:=match fq with
 |none=>∃ Bs:List Nat,ds=Bs.map (fun B => { target:=.collected B,args := #[] })∧Bs.Nodup∧∀ B∈Bs,fV.heap.size≤B∧w.heap[B]?=some (.deferred (some []))
 |some l=>ds=l
theorem nu.mono{fq:Option (List Deferred)}{fV w w':World}{ds:List Deferred}(h:nu fq fV ds w)(hk:∀ B,fV.heap.size≤B→w.heap[B]?=some (.deferred (some []))→w'.heap[B]?=some (.deferred (some []))):nu fq fV ds w':=by
 cases fq with
 |none =>
  obtain ⟨Bs,J,U,ah⟩:=h;exact ⟨Bs,J,U,fun B hB=>⟨(ah B hB).1,hk B (ah B hB).1 (ah B hB).2⟩⟩
 |some l=>exact h
theorem nu.grow{fq:Option (List Deferred)}{fV w w':World}{ds:List Deferred}(h:nu fq fV ds w)(hk:Below w.heap.size w w'):nu fq fV ds w' :=
 h.mono fun B _ hB=>(hk.block B (zz2.1 hB).1).trans hB
structure aU (c:cV) (A:ai) (a:Act) (w:World) (D:aP) (E:aY):Prop where
 sz:a.tmps.size=c.n
 eB:nu c.fq c.fV a.defers w
 dR:∀ t,aZ w D E (A.t t) (a.tmps.getD t undef)
 dO:eY c.eZ c.fV w
 c9:∀ b o,D b o→¬ c.eZ b→c.bF b o
 aQ:∀ b o,D b o→b<w.heap.size
 bP:∀ n,c6 c.eZ w D E n (A.o n)
 cQ:∀ n m e e' b,E n=some e→E m=some e'→e.aJ=some b→e'.aJ=some b→n=m
 dS:∀ n e,c.dk n=some e→E n=none∨∃ e',E n=some e'∧e.le e'
 eP:∀ n,c.dk n≠none→c.n≤n∧1000000≤n
 cT:∀ b o,c.bF b o→D b o
 eW:oJ c
 fC:gN c.fV c.bF w
def b5(c:cV)(A:ai)(a:Act)(w:World):Prop:=∃ D E,aU c A a w D E
section
variable {c:cV} {A:ai} {a:Act} {w:World} {D:aP} {E:aY}
theorem aU.kz(h:aU c A a w D E){w':World}{D':aP}{E':aY}(aq:dW w D E w' D' E'):gN c.fV c.bF w':=h.fC.trans h.cT aq.fC
theorem aU.vP(h:aU c A a w D E){n:Nat}{e:bM}(hn:c.dk n=some e)(hf:e.eg=true):E n=none∨E n=some e:=by
 rcases h.dS n e hn with k | ⟨e',k,hle⟩
 ·exact .inl k
 ·rw[hle.eq hf] at k;exact .inr k
theorem tp{M:Nat→Prop}{n:Nat}{x:ao}(h:c6 M w D E n (some x)):E n≠none:=by
 cases x with
 |box x=>obtain ⟨b,cs,T,J,_⟩:=h;rw[J];simp
 |bU T sz es=>obtain ⟨aJ,J,_⟩:=h;rw[J];simp
 |dJ o=>obtain ⟨b,J,_⟩:=h;rw[J];simp
 |bz ks vs=>obtain ⟨b,es,ck,J,_⟩:=h;rw[J];simp
 |it ks vs left=>obtain ⟨r,b,es,ck,si,se,la,J,_⟩:=h;rw[J];simp
 |dK T xs=>obtain ⟨aJ,J,_⟩:=h;rw[J];simp
theorem fJ{w:World}{b:Nat}{o:Obj}(h:w.heap[b]?=some o):b<w.heap.size:=(zz2.1 h).1
theorem aU.fX(h:aU c A a w D E){n:Nat}{e:bM}{b:Nat}(he:E n=some e)(hb:e.aJ=some b):b<w.heap.size:=by
 have:=h.bP n;unfold c6 at this;split at this
 ·simp[this] at he
 ·obtain ⟨b',cs,T,J,U,ah,_⟩:=this;rw[J,v6] at he;subst he;simp only[bM.aJ,v6] at hb;subst hb;exact fJ ah
 ·obtain ⟨aJ,J,U,ah⟩:=this;rw[J,v6] at he;subst he;split at ah
  ·simp[bM.aJ] at hb
  ·obtain ⟨cs,pre,rest,ar,h5,_⟩:=ah;simp only[bM.aJ,v6] at hb;subst hb;exact fJ h5
 ·obtain ⟨b',J,U,ah,_⟩:=this;rw[J,v6] at he;subst he;simp only[bM.aJ,v6] at hb;subst hb;exact fJ ah
 ·obtain ⟨b',es,ck,J,U,ah,_⟩:=this;rw[J,v6] at he;subst he;simp only[bM.aJ,v6] at hb;subst hb;exact fJ ah
 ·obtain ⟨r,b',es,ck,si,se,la,J,U,ah,_⟩:=this;rw[J,v6] at he;subst he;simp only[bM.aJ,v6] at hb;subst hb;exact fJ ah
 ·obtain ⟨aJ,J,U,ah⟩:=this;rw[J,v6] at he;subst he;split at ah
  ·simp[bM.aJ] at hb
  ·obtain ⟨cs,m,ar,h5,_⟩:=ah;simp only[bM.aJ,v6] at hb;subst hb;exact fJ h5
theorem aU.w8(h:aU c A a w D E){n b:Nat}{e:bM}(he:E n=some e)(ho:e.eM=true)(hb:e.aJ=some b):∀ o,¬ D b o:=by
 have:=h.bP n;unfold c6 at this;split at this
 ·rw[this] at he;cases he
 ·obtain ⟨b',cs,T,J,_⟩:=this;rw[J] at he;cases he;cases ho
 ·obtain ⟨aJ,J,_⟩:=this;rw[J] at he;cases he;cases ho
 ·obtain ⟨b',J,_,_,_,h5⟩:=this;rw[J] at he;cases he;cases hb;exact h5
 ·obtain ⟨b',es,ck,J,_,_,_,_,_,h5⟩:=this;rw[J] at he;cases he;cases hb;exact h5
 ·obtain ⟨r,b',es,ck,si,se,la,J,_,_,_,_,_,_,_,_,_,h5⟩:=this;rw[J] at he;cases he;cases hb;exact h5
 ·obtain ⟨aJ,J,_⟩:=this;rw[J] at he;cases he;cases ho
theorem c6.later{M:Nat→Prop}{w':World}{D':aP}{E':aY}{n:Nat}{x:Option ao}(h:c6 M w D E n x)(aq:dW w D E w' D' E')(aA:E' n=E n)
  (hheap:∀ e b,E n=some e→e.aJ=some b→w'.heap[b]?=w.heap[b]?∧∀ o,D' b o→D b o):c6 M w' D' E' n x:=by
 unfold c6 at *;split
 ·rw[aA];exact h
 ·obtain ⟨b,cs,T,J,U,ah,ar,h5⟩:=h;obtain ⟨k1,k2⟩:=hheap _ b J rfl;exact ⟨b,cs,T,aA.trans J,U,k1.trans ah,al.later aq _ _ ar,fun o ho=>h5 o (k2 o ho)⟩
 ·obtain ⟨aJ,J,U,ah⟩:=h;refine ⟨aJ,aA.trans J,U,?_⟩;split
  ·exact ah
  ·rename_i b cap;obtain ⟨cs,pre,rest,ar,h5,h6,h7,h8,h9,h10,h11⟩:=ah;obtain ⟨k1,k2⟩:=hheap _ b J rfl;exact ⟨cs,pre,rest,ar,k1.trans h5,h6,aN.later aq _ _ h7,h8,h9,h10,fun o ho=>h11 o (k2 o ho)⟩
 ·obtain ⟨b,J,U,ah,ar,h5⟩:=h;obtain ⟨k1,k2⟩:=hheap _ b J rfl;exact ⟨b,aA.trans J,U,k1.trans ah,ar,fun o ho=>h5 o (k2 o ho)⟩
 ·obtain ⟨b,es,ck,J,U,ah,ar,h5,h6,h7⟩:=h;obtain ⟨k1,k2⟩:=hheap _ b J rfl;exact ⟨b,es,ck,aA.trans J,U,k1.trans ah,ar,aI.later aq _ _ h5,aI.later aq _ _ h6,fun o ho=>h7 o (k2 o ho)⟩
 ·obtain ⟨r,b,es,ck,si,se,la,J,U,ah,ar,h5,h6,h7,h8,h9,h9',h10⟩:=h;obtain ⟨k1,k2⟩:=hheap _ r J rfl;exact ⟨r,b,es,ck,si,se,la,aA.trans J,U,k1.trans ah,ar.later aq,aI.later aq _ _ h5,aI.later aq _ _ h6,h7,h8,h9,h9',fun o ho=>h10 o (k2 o ho)⟩
 ·obtain ⟨aJ,J,U,ah⟩:=h;refine ⟨aJ,aA.trans J,U,?_⟩;split
  ·exact ah
  ·rename_i b cap;obtain ⟨cs,m,ar,h5,h6,h7,h8,h9,h10⟩:=ah;obtain ⟨k1,k2⟩:=hheap _ b J rfl;exact ⟨cs,m,ar,k1.trans h5,h6,h7,h8,h9,fun o ho=>h10 o (k2 o ho)⟩
theorem dW.grow{w':World}{D':aP}(hb:Below w.heap.size w w')(hD:∀ b o,D b o→D' b o):dW w D E w' D' E:=by
 refine ⟨hD,fun b o v _ hv =>?_,fun _ _ _ h=>h,fun _ aJ l h=>⟨aJ,l,h,Z4 _,fun _=>rfl⟩,fun _ _ h=>h,fun _ _ h=>h,fun b es ck _ hm=>(hb.block b (fJ hm)).trans hm⟩;rw[hb.cell (World.block_lt_of_cell? w _ hv)];exact hv
theorem aU.BV(h:aU c A a w D E){w':World}(hb:Below w.heap.size w w'):eY c.eZ w w':=eY.grow hb fun k hk=>.inl (zw3 h.dO.size hk)
theorem aU.old(h:aU c A a w D E){b:Nat}(hm:¬ c.eZ b):b<w.heap.size :=
 Nat.lt_of_lt_of_le (Nat.lt_of_not_le fun hle=>hm (.inl hle)) h.dO.size
theorem aU.kg(h:aU c A a w D E){d:Nat}(af:d<c.n∨d<1000000):c.dk d=none:=by
 cases bH:c.dk d with
 |none=>rfl
 |some e=>have:=h.eP d (by rw[bH];simp);omega
theorem aU.grow(h:aU c A a w D E){w':World}{D':aP}(hb:Below w.heap.size w w')(hD:∀ b o,D b o→D' b o)
  (hold:∀ b o,D' b o→b<w.heap.size→D b o) (hlive:∀ b o,D' b o→b<w'.heap.size):aU c A a w' D' E:=by
 have aq:dW w D E w' D' E:=dW.grow hb hD;refine ⟨h.sz,h.eB.grow hb,fun t=>aZ.later aq (h.dR t),h.dO.trans (h.BV hb),fun b o af hm=>h.c9 b o (hold b o af (h.old hm)) hm,hlive,
  fun n=>(h.bP n).later aq rfl (fun e b he hb'=>⟨hb.block b (h.fX he hb'),fun o ho=>hold b o ho (h.fX he hb')⟩),h.cQ,h.dS,h.eP,fun b o af=>hD b o (h.cT b o af),h.eW,h.kz aq⟩
theorem aU.FG(h:aU c A a w D E){D':aP}(hD:∀ b o,D b o→D' b o)
  (hold:∀ b o,D' b o→¬ c.eZ b→c.bF b o) (hlive:∀ b o,D' b o→b<w.heap.size)
  (hbox:∀ n x b,A.o n=some (.box x)→E n=some (.aL b x.aX)→∀ o,¬ D' b o)
  (hrow:∀ n T sz es b cap,A.o n=some (.bU T sz es)→E n=some (.rw (some (b,cap)) es.length)→∀ o,D' b o→o<es.length*sz)
  (hui:∀ n T xs b cap,A.o n=some (.dK T xs)→E n=some (.rw (some (b,cap)) xs.length)→∀ o,¬ D' b o)
  (hopq:∀ n e b,E n=some e→e.eM=true→e.aJ=some b→∀ o,¬ D' b o):aU c A a w D' E:=by
 have aq:dW w D E w D' E:=⟨hD,fun _ _ _ _ h=>h,fun _ _ _ h=>h,fun _ aJ l h=>⟨aJ,l,h,Z4 _,fun _=>rfl⟩,fun _ _ h=>h,fun _ _ h=>h,fun _ _ _ _ h=>h⟩
 refine ⟨h.sz,h.eB,fun t=>aZ.later aq (h.dR t),h.dO,hold,hlive,fun n =>?_,h.cQ,h.dS,h.eP,fun b o af=>hD b o (h.cT b o af),h.eW,h.fC⟩;have ho:=h.bP n;cases hx:A.o n with
 |none=>rw[hx] at ho;exact ho
 |some x =>
  cases x with
  |box x =>
   rw[hx] at ho;obtain ⟨b,cs,T,J,U,ah,ar,h5⟩:=ho;exact ⟨b,cs,T,J,U,ah,al.later aq _ _ ar,hbox n x b hx J⟩
  |bU T sz es =>
   rw[hx] at ho;obtain ⟨aJ,J,U,ah⟩:=ho;refine ⟨aJ,J,U,?_⟩;cases aJ with
   |none=>exact ah
   |some bc =>
    obtain ⟨b,cap⟩:=bc;obtain ⟨cs,pre,rest,ar,h5,h6,h7,h8,h9,h10,h11⟩:=ah;refine ⟨cs,pre,rest,ar,h5,h6,aN.later aq _ _ h7,h8,h9,h10,fun o af =>?_⟩;rw[aN.length _ _ h7,I.im _ U];exact hrow n T sz es b cap hx J o af
  |dJ x =>
   rw[hx] at ho;obtain ⟨b,J,U,ah,ar,h5⟩:=ho;exact ⟨b,J,U,ah,ar,hopq n _ b J rfl rfl⟩
  |bz ks vs =>
   rw[hx] at ho;obtain ⟨b,es,ck,J,U,ah,ar,h5,h6,h7⟩:=ho;exact ⟨b,es,ck,J,U,ah,ar,aI.later aq _ _ h5,aI.later aq _ _ h6,hopq n _ b J rfl rfl⟩
  |it ks vs left cur =>
   rw[hx] at ho;obtain ⟨r,b,es,ck,si,se,la,J,U,ah,ar,h5,h6,h7,h8,h9,h9',h10⟩:=ho;exact ⟨r,b,es,ck,si,se,la,J,U,ah,ar.later aq,aI.later aq _ _ h5,aI.later aq _ _ h6,h7,h8,h9,h9',hopq n _ r J rfl rfl⟩
  |dK T xs =>
   rw[hx] at ho;obtain ⟨aJ,J,U,ah⟩:=ho;refine ⟨aJ,J,U,?_⟩;cases aJ with
   |none=>exact ah
   |some bc =>
    obtain ⟨b,cap⟩:=bc;obtain ⟨cs,m,ar,h5,h6,h7,h8,h9,h10⟩:=ah;exact ⟨cs,m,ar,h5,h6,h7,h8,h9,hui n T xs b cap hx J⟩
theorem VL(a:Act)(d:Nat)(v:Value)(t:Nat)(af:d<a.tmps.size):(a.put (some d) v).tmps.getD t undef=if t=d then v else a.tmps.getD t undef:=by
 simp only[Act.put,Array.getD_eq_getD_getElem?,Array.getElem?_setIfInBounds];by_cases h:t=d
 ·subst h;simp[af]
 ·simp[h,Ne.symm h]
theorem aU.put(h:aU c A a w D E){d:Nat}{x:I}{v:Value}(af:d<c.n)(hv:aZ w D E x v):aU c (A.put d x) (a.put (some d) v) w D E:=by
 refine ⟨by simp[Act.put,h.sz],by exact h.eB,fun t =>?_,h.dO,h.c9,h.aQ,h.bP,h.cQ,h.dS,h.eP,h.cT,h.eW,h.fC⟩;rw[VL a d v t (by rw[h.sz];exact af)];simp only[ai.put];split
 ·exact hv
 ·exact h.dR t
theorem aU.aS(h:aU c A a w D E){d:Option Nat}{x:I}{v:Value}(af:∀ k,d=some k→k<c.n)(hv:aZ w D E x v):aU c (A.aS d x) (a.put d v) w D E:=by
 cases d with
 |none=>exact h
 |some d=>exact h.put (af d rfl) hv
theorem qb(w:World)(o:Obj):Below w.heap.size w (w.alloc o):=(Below.refl _ _).alloc (Z4 _) o
theorem Fe{w:World}{D:aP}{E:aY} : ∀ {xs:List I} {vs:List Value},aI w D E xs vs→vs.length=xs.length
 | [],vs,h=>by simp only[aI] at h;subst h;rfl
 |x::xs,vs,h=>by
  simp only[aI] at h;obtain ⟨v,rest,cs,rfl,_,_,ah⟩:=h;simp[Fe ah]
theorem aU.wR(h:aU c A a w D E){d:Nat}{x:ao}{o':Obj}{e:bM}(hdn:d<c.n∨d<1000000)(af:A.o d=none)(heb:e.aJ=some w.heap.size)
  (hx:dW w D E (w.alloc o') D (fun n=>if n=d then some e else E n)→(∀ o,¬ D w.heap.size o)→c6 c.eZ (w.alloc o') D (fun n=>if n=d then some e else E n) d (some x)) :
  aU c (A.aT d x) a (w.alloc o') D (fun n=>if n=d then some e else E n):=by
 have hEd:E d=none:=by have:=h.bP d;rw[af] at this;exact this
 have hne:∀ {n:Nat} {e:bM},E n=some e→n≠d:=fun he e'=>by rw[e',hEd] at he;cases he
 have aq:dW w D E (w.alloc o') D (fun n=>if n=d then some e else E n):=by
  refine ⟨fun _ _ h=>h,fun b o v _ hv =>?_,fun n b aX he =>?_,fun n aJ l he =>?_,fun n b he =>?_,fun n b he =>?_,fun b es ck _ hm=>(Below.heap_alloc w _ b (fJ hm)).trans hm⟩
  ·rw[World.cell?_alloc_lt _ _ _ (World.block_lt_of_cell? w _ hv)];exact hv
  ·simp only[if_neg (hne he)];exact he
  ·exact ⟨aJ,l,by simp only[if_neg (hne he)];exact he,Z4 _,fun _=>rfl⟩
  ·simp only[if_neg (hne he)];exact he
  ·simp only[if_neg (hne he)];exact he
 refine ⟨h.sz,h.eB.grow (qb w _),fun t=>aZ.later aq (h.dR t),h.dO.trans (h.BV (qb w _)),h.c9,fun b o hd'=>by have:=h.aQ b o hd';simp;omega,fun n =>?_,?_,fun n e' hn =>?_,h.eP,h.cT,h.eW,h.kz aq⟩
 ·simp only[ai.aT];by_cases hn:n=d
  ·subst hn;simp only[if_true];exact hx aq fun o ho=>Nat.lt_irrefl _ (h.aQ _ o ho)
  ·simp only[if_neg hn];exact (h.bP n).later aq (by simp only[if_neg hn]) fun e b he hb=>⟨Below.heap_alloc w _ b (h.fX he hb),fun _ ho=>ho⟩
 ·intro n m e1 e2 b J U ah ar;by_cases hn:n=d <;>by_cases hm:m=d
  ·rw[hn,hm]
  ·simp only[if_pos hn,v6] at J;simp only[if_neg hm] at U;subst J;rw[heb] at ah;cases ah;have:=h.fX U ar;omega
  ·simp only[if_neg hn] at J;simp only[if_pos hm,v6] at U;subst U;rw[heb] at ar;cases ar;have:=h.fX J ah;omega
  ·simp only[if_neg hn] at J;simp only[if_neg hm] at U;exact h.cQ n m e1 e2 b J U ah ar
 ·have hnd:n≠d:=fun e=>by rw[e,h.kg hdn] at hn;cases hn
  simp only[if_neg hnd];exact h.dS n e' hn
theorem aU.qZ(h:aU c A a w D E){d:Nat}{x:I}{cs:Array Value}{T:TypeId}(hdn:d<c.n∨d<1000000)(af:A.o d=none)(hx:al w D E x cs.toList) :
  aU c (A.aT d (.box x)) a (w.alloc (.cells cs T)) D (fun n=>if n=d then some (.aL w.heap.size x.aX) else E n) :=
 h.wR hdn af rfl fun aq hno=>⟨w.heap.size,cs,T,by simp,.inl h.dO.size,heap_alloc_new w _,al.later aq _ _ hx,hno⟩
theorem aU.Xf(h:aU c A a w D E){d:Nat}(hdn:d<c.n∨d<1000000)(af:A.o d=none) :
  aU c (A.aT d (.bz [] [])) a (w.alloc (.map #[] 0)) D (fun n=>if n=d then some (.bz w.heap.size) else E n) :=
 h.wR hdn af rfl fun _ hno=>⟨w.heap.size,#[],0,by simp,.inl h.dO.size,heap_alloc_new w _,⟨by simp,by simp⟩,by simp[aI],by simp[aI],hno⟩
theorem aU.Xe(h:aU c A a w D E){d b clock:Nat}{ks vs:List I}{es:Array MapEntry}(hdn:d<c.n∨d<1000000)(af:A.o d=none)(hm:nU w D b es clock)(hk:aI w D E ks (es.toList.map (·.key)))(hv:aI w D E vs (es.toList.map (·.val))) :
  aU c (A.aT d (.it ks vs (List.range ks.length) none)) a (w.alloc (.mapIter (some b) clock #[] clock)) D (fun n=>if n=d then some (.it w.heap.size) else E n) :=
 h.wR hdn af rfl fun aq hno=>⟨w.heap.size,b,es,clock,clock,#[],clock,by simp,.inl h.dO.size,heap_alloc_new w _,hm.later aq,aI.later aq _ _ hk,aI.later aq _ _ hv,hm.2.2.1,⟨Z4 _,Z4 _⟩,by
  have e:ks.length=es.size:=by have:=Fe hk;simpa using this.symm
  rw[e];unfold nQ;exact (List.filter_eq_self.2 fun i hi=>by
   have hi':i<es.size:=by simpa using hi
   simp[zw0 hi']).symm,(fun i hi=>by cases hi),hno⟩
theorem vb(w:World)(g:Nat)(cs:Array Value)(p:Addr)(h:p.block≠g):(w.setRow g cs).cell? p=w.cell? p :=
 World.cell?_of_block (setRow_other w g p.block cs h)
theorem wq{M:Nat→Prop}{fV w:World}(h:eY M fV w){g:Nat}(hg:M g)(cs:Array Value):eY M fV (w.setRow g cs) :=
 h.trans ⟨rfl,rfl,rfl,by simp[World.setRow],fun k hk=>setRow_other w g k cs (fun e=>hk (e▸hg))⟩
theorem aU.xI(h:aU c A a w D E){n b:Nat}{x y:I}{cs':Array Value}(hn:A.o n=some (.box x))(aA:E n=some (.aL b x.aX))(ab:y.aX=x.aX)(hy:al w D E y cs'.toList) :
  aU c (A.aT n (.box y)) a (w.setRow b cs') D E:=by
 have ho:=h.bP n;rw[hn] at ho;obtain ⟨b',cs,T,J,U,ah,ar,h5⟩:=ho;rw[aA] at J;simp only[v6,bM.aL.injEq,and_true] at J;subst J;have aq:dW w D E (w.setRow b cs') D E:=by
  refine ⟨fun _ _ h=>h,fun b1 o v af hv =>?_,fun _ _ _ h=>h,fun _ aJ l h=>⟨aJ,l,h,Z4 _,fun _=>rfl⟩,fun _ _ h=>h,fun _ _ h=>h,fun b1 es ck af hm=>(setRow_other w b b1 _ (fun e=>h5 0 (by rw[←e];exact af))).trans hm⟩;rw[vb _ _ _ _ (fun e=>h5 o (by rw[←e];exact af))];exact hv
 refine ⟨h.sz,h.eB.mono fun B _ hB=>(setRow_other w b B cs' (fun e=>by rw[e,ah] at hB;cases hB)).trans hB,fun t=>aZ.later aq (h.dR t),wq h.dO U _,h.c9,fun b1 o af=>by have:=h.aQ b1 o af;simpa[World.setRow] using this,fun m =>?_,h.cQ,h.dS,h.eP,h.cT,h.eW,h.kz aq⟩;simp only[ai.aT];by_cases hm:m=n
 ·subst hm;simp only[if_true,c6];exact ⟨b,cs',T,by rw[ab];exact aA,U,setRow_heap w b cs cs' T _ ah,al.later aq _ _ hy,h5⟩
 ·simp only[if_neg hm];refine (h.bP m).later aq rfl fun e b1 he hb=>⟨setRow_other w b b1 cs' (fun e1=>hm (h.cQ m n e _ b he aA (by rw[hb,e1]) rfl)),fun _ ho=>ho⟩
theorem vc{w:World}{B:Nat}{o o':Obj}(h:w.heap[B]?=some o)(ho:o.isCells=false){b off:Nat}{v:Value}(hv:w.cell? ⟨b,off,none⟩=some v):(w.putObj B o').cell? ⟨b,off,none⟩=some v:=by
 have hne:b≠B:=fun e=>by
  obtain ⟨o2,U,ah⟩:=cells_of_cell hv;simp only at U;rw[e,h] at U;cases U;rw[ho] at ah;cases ah
 rw[World.cell?_of_block (w:=w) (World.putObj_heap_other hne)];exact hv
theorem aU.xL(h:aU c A a w D E){n b:Nat}{e:bM}{x:ao}{o0 o':Obj}(aA:E n=some e)(ho:e.eM=true)(hb:e.aJ=some b)(hw:w.heap[b]?=some o0)(hnc:o0.isCells=false)(hnd:∀ q,o0≠.deferred q)(hmine:c.eZ b)
  (hx:dW w D E (w.putObj b o') D E→(w.putObj b o').heap[b]?=some o'→(∀ o,¬ D b o)→c6 c.eZ (w.putObj b o') D E n (some x)):aU c (A.aT n x) a (w.putObj b o') D E:=by
 have hno:=h.w8 aA ho hb;have hlt:b<w.heap.size:=fJ hw;have aq:dW w D E (w.putObj b o') D E:=⟨fun _ _ h=>h,fun b1 o1 v _ hv=>vc hw hnc hv,fun _ _ _ h=>h,fun _ aJ l h=>⟨aJ,l,h,Z4 _,fun _=>rfl⟩,fun _ _ h=>h,fun _ _ h=>h,
  fun b1 es ck af hm=>(World.putObj_heap_other (fun e1=>hno 0 (by rw[←e1];exact af))).trans hm⟩
 refine ⟨h.sz,h.eB.mono fun B _ hB=>(World.putObj_heap_other (fun e1=>by rw[e1,hw] at hB;exact hnd _ (Option.some.inj hB))).trans hB,fun t=>aZ.later aq (h.dR t),h.dO.trans ⟨rfl,rfl,rfl,by simp,fun k hk=>World.putObj_heap_other (fun e1=>hk (e1▸hmine))⟩,h.c9,
  fun b1 o1 af=>by have:=h.aQ b1 o1 af;simpa using this,fun m =>?_,h.cQ,h.dS,h.eP,h.cT,h.eW,h.kz aq⟩
 simp only[ai.aT];by_cases hm:m=n
 ·subst hm;simp only[if_true];exact hx aq (World.putObj_heap_same hlt) hno
 ·simp only[if_neg hm];exact (h.bP m).later aq rfl fun e' b1 he hb'=>⟨World.putObj_heap_other (fun e1=>hm (h.cQ m n e' _ b1 he aA hb' (by rw[e1];exact hb))),fun _ ho=>ho⟩
end
inductive aO where
 |t (n:Nat)
 |c (x:I)
 deriving Inhabited
inductive cJ where
 |i (k:IntKind)
 |b
 |s
 |bd (l:List cJ)
 |qa (n:Nat) (e:cJ)
 deriving Inhabited
mutual
def cJ.size:cJ→Nat
 | .i _ | .b | .s=>1
 | .bd l=>cJ.sizes l
 | .qa n e=>n*e.size
def cJ.sizes:List cJ→Nat
 | []=>0
 |t::ts=>t.size+cJ.sizes ts
end
inductive bS where
 |mv (x:aO)
 |pick (c a b:aO)
 |bin (op:BinOp) (x y:aO)
 |eqv (ty:cJ) (neg:Bool) (x y:aO)
 |nilS (neg:Bool) (x:aO)
 |conv (k:IntKind) (x:aO)
 |un (op:UnOp) (x:aO)
 |ld (s:Option Nat) (x:aO)
 |fa (f off:Nat) (x:aO)
 |fl (f off:Nat) (s:Option Nat) (x:aO)
 |ia (n esz:Nat) (x i:aO)
 |is (esz:Nat) (x i:aO)
 |ix (n esz:Nat) (s:Option Nat) (x i:aO)
 |len (x:aO)
 |lenT (x:aO)
 |va (n esz:Nat) (x:aO)
 |sl (esz:Nat) (x:aO) (lo hi mx:Option aO)
 |bld (zs:List I) (parts:List (Nat×aO))
 |bs (T esz:Nat) (parts:List aO)
 |ext (x:aO) (i:Nat)
 |mk (f:FuncId) (caps:List aO)
 |alloc (z:I)
 |box (x:aO)
 |bd (s:Option Nat) (x v:aO)
 |dn (e:TypeId) (esz bytes:Nat) (z:I) (s x:aO)
 |lD (e:TypeId) (esz bytes:Nat) (z:I) (s n:aO)
 |cap (x:aO)
 |bs0 (esz:Nat)
 |jJ (esz:Nat) (z:I) (x:aO)
 |kQ (esz:Nat) (x y:aO)
 |call (f:FuncId) (args:List aO)
 |fH (x:aO) (args:List aO)
 |j5 (f:FuncId) (args:List aO)
 |nilC (x:aO)
 |ptrE (neg:Bool) (x y:aO)
 |max2 (x y:aO)
 |kj (e:TypeId) (bytes:Nat) (z:I) (n:aO)
 |iD
 |lk (ty:cJ) (z:I) (ok:Bool) (m k:aO)
 |eT (ty:cJ) (m k v:aO)
 |iC (ty:cJ) (m k:aO)
 |jz (x:aO)
 |ic (x:aO)
 |ent (x:aO)
 deriving Inhabited
def u7(sz:Nat):Value→Option I
 | .bool b=>some (.bool b)
 | .int k n=>if k.min≤n∧n≤k.max then some (.int k n) else none
 | .string s=>if s.size≤1000000 then some (.bQ s) else none
 | .pointer none=>some .nilp
 | .slice none 0 0=>some (.nils sz)
 | .nilFunc=>some .dB
 | .nilIface=>some .dX
 | .map none=>some (.raw (.map none))
 |_=>none
theorem H5{sz:Nat}{v:Value}{x:I}(h:u7 sz v=some x)(w:World)(D:aP)(E:aY):aZ w D E x v:=by
 unfold u7 at h;split at h
 case h_2 =>
  split at h
  ·rename_i bH;simp only[v6] at h;subst h;exact ⟨_,by simp[bD,I.isAgg];rfl,by simp only[al,true_and];exact bH⟩
  ·simp at h
 case h_3 =>
  split at h
  ·rename_i bH;simp only[v6] at h;subst h;exact ⟨_,by simp[bD,I.isAgg];rfl,by simp only[al,true_and];unfold maxLen;omega⟩
  ·simp at h
 case h_9=>simp at h
 all_goals
  simp only[v6] at h;subst h;exact ⟨_,by simp[bD,I.isAgg];rfl,by simp[al,Value.oneCell']⟩
def Mz(P:Program)(t:TypeId):Nat:=match P.underlying t with | some (.slice e)=>P.cellsOf e | _=>0
def bx(P:Program)(t:TypeId):Operand→Option aO
 | .tmp n=>some (.t n)
 | .const v=>(u7 (Mz P t) v).map .c
 | .func f=>if f<1000000 then some (.c (.func f [])) else none
 | .global _=>none
def ak(A:ai):aO→I
 | .t n=>A.t n
 | .c x=>x
section
variable {c:cV} {A:ai} {a:Act} {w:World} {D:aP} {E:aY}
theorem bX(h:aU c A a w D E){P:Program}{t:TypeId}{x:Operand}{y:aO}(hc:bx P t x=some y):aZ w D E (ak A y) (a.eval x):=by
 cases x with
 |tmp n=>simp only[bx,v6] at hc;subst hc;exact h.dR n
 |const v =>
  simp only[bx,t7] at hc;obtain ⟨z,hz,rfl⟩:=hc;exact H5 hz w D E
 |global g=>simp[bx] at hc
 |func f =>
  simp only[bx] at hc;split at hc
  case isFalse=>cases hc
  rename_i hf;simp only[v6] at hc;subst hc;exact ⟨[.func (.func f) #[] #[]],by simp[bD,I.isAgg,ak,Act.eval],by simp only[al,ak,aI];exact ⟨[],by rw[mG hf],rfl⟩⟩
theorem kv{b:Bool}{v:Value}(h:aZ w D E (.bool b) v):v=.bool b:=by
 obtain ⟨cs,J,U⟩:=h;simp only[al] at U;simp[bD,I.isAgg,U] at J;exact J.symm
theorem eV{k:IntKind}{n:Int}{v:Value}(h:aZ w D E (.int k n) v):v=.int k n∧k.min≤n∧n≤k.max:=by
 obtain ⟨cs,J,U⟩:=h;simp only[al] at U;simp[bD,I.isAgg,U.1] at J;exact ⟨J.symm,U.2⟩
theorem ng{s:ByteArray}{v:Value}(h:aZ w D E (.bQ s) v):v=.string s∧s.size≤maxLen:=by
 obtain ⟨cs,J,U⟩:=h;simp only[al] at U;simp[bD,I.isAgg,U.1] at J;exact ⟨J.symm,U.2⟩
theorem CF{x:I}{v:Value}(hx:x.isAgg=false)(h:al w D E x [v]):aZ w D E x v:=by
 cases x <;>simp only[al] at h <;>first | (simp[I.isAgg] at hx;done) | exact ⟨[v],by simp[bD,I.isAgg],by simpa only[al] using h⟩
theorem je{fs:List I}{v:Value}(h:aZ w D E (.agg fs) v):∃ cs:List Value,v=.agg cs.toArray∧aN w D E fs cs:=by
 obtain ⟨cs,J,U⟩:=h;simp only[al] at U;exact ⟨cs,by simpa[bD,I.isAgg] using J,U⟩
theorem CE{fs:List I}{cs:List Value}(h:aN w D E fs cs):aZ w D E (.agg fs) (.agg cs.toArray):=⟨cs,by simp[bD,I.isAgg],by simpa only[al] using h⟩
theorem nT(b:Bool):aZ w D E (.bool b) (.bool b):=⟨[.bool b],by simp[bD,I.isAgg],by simp[al]⟩
theorem jQ{k:IntKind}{n:Int}(h:k.min≤n∧n≤k.max):aZ w D E (.int k n) (.int k n):=⟨[.int k n],by simp[bD,I.isAgg],by simp only[al,true_and];exact h⟩
theorem lg{n:Nat}{p:List Nat}{v:Value}(h:aZ w D E (.ptr n p) v):∃ b aX off,E n=some (.aL b aX)∧aX.off p=some off∧v=.pointer (some ⟨b,off,none⟩):=by
 obtain ⟨cs,J,U⟩:=h;simp only[al] at U;obtain ⟨b,aX,off,ah,ar,h5⟩:=U;exact ⟨b,aX,off,ah,ar,by simpa[bD,I.isAgg,h5] using J.symm⟩
theorem pP{x:I}{v:Value}(h:aZ w D E (.ref x) v):∃ b off cs,v=.pointer (some ⟨b,off,none⟩)∧reads w D b off cs∧al w D E x cs:=by
 obtain ⟨cs,J,U⟩:=h;simp only[al] at U;obtain ⟨b,off,cs',ah,ar,h5⟩:=U;exact ⟨b,off,cs',by simpa[bD,I.isAgg,ah] using J.symm,ar,h5⟩
theorem tj{x:I}{b off:Nat}{cs:List Value}(J:reads w D b off cs)(U:al w D E x cs):aZ w D E (.ref x) (.pointer (some ⟨b,off,none⟩)) :=
 ⟨_,by simp[bD,I.isAgg];rfl,by simp only[al];exact ⟨b,off,cs,rfl,J,U⟩⟩
theorem nf{sz:Nat}{es:List I}{v:Value}(h:aZ w D E (.slice sz es) v):∃ ad cap,v=.slice ad es.length cap∧es.length≤cap∧cap≤maxLen ∧
  (es=[]∨∃ b off cs,ad=some ⟨b,off,none⟩∧reads w D b off cs∧aN w D E es cs)∧∀ e∈es,e.size=sz:=by
 obtain ⟨cs,J,U⟩:=h;simp only[al] at U;obtain ⟨ad,cap,ah,ar⟩:=U;exact ⟨ad,cap,by simpa[bD,I.isAgg,ah] using J.symm,ar⟩
theorem tk{sz:Nat}{es:List I}{ad:Option Addr}{n cap:Nat}(hn:n=es.length)(J:n≤cap)(U:cap≤maxLen)
  (ah:es=[]∨∃ b off cs,ad=some ⟨b,off,none⟩∧reads w D b off cs∧aN w D E es cs) (ar:∀ e∈es,e.size=sz):aZ w D E (.slice sz es) (.slice ad n cap):=by
 subst hn;exact ⟨_,by simp[bD,I.isAgg];rfl,by simp only[al];exact ⟨ad,cap,rfl,J,U,ah,ar⟩⟩
end
def cH(op:BinOp)(x y:I):Option I :=
 match x,y with
 | .int k a,.int k' b =>
  match op with
  | .shl=>if 0≤b then some (.int k (k.wrap (a*2^(min b.toNat k.bits)))) else none
  | .shr=>if 0≤b then some (.int k (a.fdiv (2^(min b.toNat k.bits)))) else none
  |op=>if k=k' then
   match op with
   | .add=>some (.int k (k.wrap (a+b)))
   | .sub=>some (.int k (k.wrap (a-b)))
   | .mul=>some (.int k (k.wrap (a*b)))
   | .quo=>if b=0 then none else some (.int k (k.wrap (a.tdiv b)))
   | .rem=>if b=0 then none else some (.int k (a.tmod b))
   | .and=>some (.int k (k.wrap ((BitVec.ofInt k.bits a &&& BitVec.ofInt k.bits b).toNat:Int)))
   | .or=>some (.int k (k.wrap ((BitVec.ofInt k.bits a ||| BitVec.ofInt k.bits b).toNat:Int)))
   | .xor=>some (.int k (k.wrap ((BitVec.ofInt k.bits a ^^^ BitVec.ofInt k.bits b).toNat:Int)))
   | .andNot=>some (.int k (k.wrap ((BitVec.ofInt k.bits a &&& ~~~ BitVec.ofInt k.bits b).toNat:Int)))
   | .eql=>some (.bool (a==b))
   | .neq=>some (.bool (a != b))
   | .lss=>some (.bool (decide (a<b)))
   | .leq=>some (.bool (decide (a≤b)))
   | .gtr=>some (.bool (decide (a>b)))
   | .geq=>some (.bool (decide (a≥b)))
   |_=>none
   else none
 | .bQ s,.bQ t =>
  match op with
  | .eql=>some (.bool (s.toList==t.toList))
  | .neq=>some (.bool (!(s.toList==t.toList)))
  | .lss=>some (.bool (Op.bytesLess s.toList t.toList))
  | .leq=>some (.bool (Op.bytesLess s.toList t.toList||s.toList==t.toList))
  | .gtr=>some (.bool (!(Op.bytesLess s.toList t.toList||s.toList==t.toList)))
  | .geq=>some (.bool (!(Op.bytesLess s.toList t.toList)))
  | .add=>if s.size+t.size≤9223372036854775807 then some (.bQ (s++t)) else none
  |_=>none
 |_,_=>none
theorem pW(k:IntKind)(n:Int):k.min≤k.wrap n∧k.wrap n≤k.max:=by
 cases k <;>simp only[IntKind.min,IntKind.max,IntKind.wrap,IntKind.bits,IntKind.signed] <;>simp <;>(try split) <;>omega
theorem ZH(a b:Int):(0≤a→0≤a.tmod b∧a.tmod b≤a)∧(a<0→a≤a.tmod b∧a.tmod b≤0):=by
 have key:∀ n:Nat,0≤(n:Int).tmod b∧(n:Int).tmod b≤n:=by
  intro n;cases b with
  |ofNat m=>show 0≤((n%m:Nat):Int)∧((n%m:Nat):Int)≤n;have:=Nat.mod_le n m;omega
  |negSucc m=>show 0≤((n%(m+1):Nat):Int)∧((n%(m+1):Nat):Int)≤n;have:=Nat.mod_le n (m+1);omega
 refine ⟨fun h =>?_,fun h =>?_⟩
 ·obtain ⟨n,rfl⟩:=Int.eq_ofNat_of_zero_le h;exact key n
 ·obtain ⟨n,hn⟩:=Int.eq_ofNat_of_zero_le (show 0≤-a by omega);have:=key n;rw[←hn,Int.neg_tmod] at this;omega
theorem ZI(k:IntKind)(a b:Int)(h:k.min≤a∧a≤k.max):k.min≤a.tmod b∧a.tmod b≤k.max:=by
 have aW:k.min≤0∧0≤k.max:=by cases k <;>simp[IntKind.min,IntKind.max,IntKind.bits,IntKind.signed]
 have:=ZH a b;omega
theorem MS(a:Int)(m:Int)(hm:0<m):(0≤a→0≤a.fdiv m∧a.fdiv m≤a)∧(a<0→a≤a.fdiv m∧a.fdiv m≤0):=by
 rw[Int.fdiv_eq_ediv_of_nonneg _ (by omega)];have J:=Int.mul_ediv_add_emod a m;have U:=Int.emod_nonneg a (show m≠0 by omega);refine ⟨fun h=>⟨Int.ediv_nonneg h (by omega),Int.ediv_le_self _ h⟩,fun h=>⟨?_,?_⟩⟩
 ·rw[Int.le_ediv_iff_mul_le hm];have:a*m≤a*1:=Int.mul_le_mul_of_nonpos_left (by omega) (by omega);omega
 ·have:=Int.ediv_neg_of_neg_of_pos h hm;omega
theorem MT(k:IntKind)(a:Int)(n:Nat)(h:k.min≤a∧a≤k.max):k.min≤a.fdiv (2^n)∧a.fdiv (2^n)≤k.max:=by
 have aW:k.min≤0∧0≤k.max:=by cases k <;>simp[IntKind.min,IntKind.max,IntKind.bits,IntKind.signed]
 have:=MS a (2^n) (Int.pow_pos (by omega));omega
def cM(A:ai):I→Option I
 | .ref x=>some x
 | .ptr n p=>match A.o n with
  |some (.box x)=>x.at p
  |_=>none
 |_=>none
mutual
def I.bA:I→Bool
 | .agg fs=>I.cq fs
 | .slice _ es=>I.cq es
 | .ref x=>x.bA
 | .func _ caps=>I.cq caps
 | .iface _ v=>v.bA
 | .dj ks vs=>I.cq ks&&I.cq vs
 | .ptr _ _ | .own _ _ | .view _ _ _ _ _ | .mref _ | .dq _ | .undef | .dw | .tuple _=>false
 | .bool _ | .int _ _ | .bQ _ | .nilp | .dB | .dX | .any | .raw _ | .nils _ | .c0 _=>true
def I.cq:List I→Bool
 | []=>true
 |x::xs=>x.bA&&I.cq xs
end
def fR(f:I→Option I):List I→Option (List I)
 | []=>some []
 |x::xs=>match f x,fR f xs with
  |some y,some ys=>some (y::ys)
  |_,_=>none
def c4(A:ai):Nat→I→Option I
 |0,_=>none
 |k+1,x=>if x.bA then some x else match x with
  | .agg fs=>(fR (c4 A k) fs).map .agg
  | .func f caps=>if f<1000000 then (fR (c4 A k) caps).map (.func f) else some .any
  | .ptr n p=>match cM A (.ptr n p) with
   |some y=>(c4 A k y).map .ref
   |none=>none
  | .view n p sz lo l=>match cM A (.ptr n p) with
   |some (.agg fs)=>if I.cq ((fs.drop lo).take l)=true then some (.slice sz ((fs.drop lo).take l)) else none
   |_=>none
  | .mref n=>match A.o n with
   |some (.bz ks vs)=>if I.cq ks=true then (fR (c4 A k) vs).map (.dj ks) else none
   |_=>none
  | .own n l=>match A.o n with
   |some (.bU _ sz es)=>if l=es.length∧I.cq es=true then some (.slice sz es) else none
   |_=>none
  |_=>none
mutual
/-- The value for others to hold: pointers to the frame's own variables and rows become what they hold. -/
def bj(aL:Bool)(A:ai):I→Option I
 | .ptr n p=>if aL then (match cM A (.ptr n p) with | some x=>if x.bA then some (.ref x) else (c4 A 9 x).map .ref | none=>none) else none
 | .own n k=>match A.o n with
  |some (.bU _ sz es)=>if k=es.length∧I.cq es=true then some (.slice sz es) else none
  |_=>none
 | .view n p sz lo k=>if aL then (match cM A (.ptr n p) with
  |some (.agg fs)=>if I.cq ((fs.drop lo).take k)=true then some (.slice sz ((fs.drop lo).take k)) else none
  |_=>none) else none
 | .mref n=>if aL then (match A.o n with
  |some (.bz ks vs)=>if I.cq ks=true then (fR (c4 A 9) vs).map (.dj ks) else none
  |_=>none) else none
 | .dq _=>none
 | .dj ks vs=>if I.cq ks&&I.cq vs then some (.dj ks vs) else none
 | .nils sz=>some (.slice sz [])
 | .c0 sz=>some (.slice sz [])
 | .func f caps=>if f<1000000 then (b8 aL A caps).map (.func f) else some .any
 | .agg fs=>(b8 aL A fs).map .agg
 | .tuple _=>none
 | .undef=>none
 | .dw=>none
 | .bool b=>some (.bool b)
 | .int k n=>some (.int k n)
 | .bQ s=>some (.bQ s)
 | .nilp=>some .nilp
 | .dB=>some .dB
 | .dX=>some .dX
 | .any=>some .any
 | .raw u=>some (.raw u)
 | .slice sz es=>if I.cq es then some (.slice sz es) else none
 | .ref x=>if x.bA then some (.ref x) else none
 | .iface t v=>if v.bA then some (.iface t v) else none
def b8(aL:Bool)(A:ai):List I→Option (List I)
 | []=>some []
 |x::xs=>match bj aL A x,b8 aL A xs with
  |some y,some ys=>some (y::ys)
  |_,_=>none
end
def cg(s:Option Nat)(x:I):Bool:=match s with
 |none => !x.isAgg
 |some n=>x.isAgg&&x.size==n
def I.bT:I→Bool
 | .undef | .dw | .tuple _=>false
 |_=>true
def ja(n esz:Nat)(fs:List I):Bool:=fs.length==n&&fs.all fun f=>f.size==esz
def dQ(zs:List I):List (Nat×I)→Option (List I)
 | []=>some zs
 |(i,v)::rest=>match zs[i]? with
  |some z=>if v.bT=true∧v.size=z.size then dQ (zs.set i v) rest else none
  |none=>none
def jk(x:Option I)(d:Int):Option Int:=match x with
 |none=>some d
 |some (.int _ n)=>some n
 |_=>none
def iP(sz:Nat)(es:List I)(lo hi mx:Option I):Option I :=
 match jk hi es.length with
 |none=>none
 |some h=>match jk mx es.length with
  |none=>none
  |some m=>match jk lo 0 with
   |none=>none
   |some l=>if 0≤l∧l≤h∧h≤m∧m≤es.length then
     (if mx.isSome∧m=l then some (.c0 sz) else some (.slice sz ((es.take h.toNat).drop l.toNat))) else none
def nh(n:Nat)(p:List Nat)(sz lo k total:Nat)(lo' hi' mx':Option I):Option I :=
 match jk hi' k with
 |none=>none
 |some h=>match jk lo' 0 with
  |none=>none
  |some l=>match mx' with
   |none=>if 0≤l∧l≤h∧h≤((total-lo:Nat):Int) then (if l=((total-lo:Nat):Int) then some (.c0 sz) else some (.view n p sz (lo+l.toNat) (h.toNat-l.toNat))) else none
   |some (.int _ m)=>if 0≤l∧l≤h∧h≤m∧m≤((total-lo:Nat):Int) then some .dw else none
   |_=>none
def iY(a b:Option Bool):Option Bool:=match a,b with
 |some x,some y=>some (x&&y)
 |_,_=>none
mutual
/-- '==',part by part. -/
def ca:cJ→I→I→Option Bool
 | .i k,x,y=>match x,y with
  | .int k1 a,.int k2 b=>if k1=k∧k2=k then some (a==b) else none
  |_,_=>none
 | .b,x,y=>match x,y with
  | .bool a,.bool b=>some (a==b)
  |_,_=>none
 | .s,x,y=>match x,y with
  | .bQ a,.bQ b=>some (a.toList==b.toList)
  |_,_=>none
 | .bd l,x,y=>match x,y with
  | .agg fs,.agg gs=>hX l fs gs
  |_,_=>none
 | .qa n e,x,y=>match x,y with
  | .agg fs,.agg gs=>if fs.length=n∧gs.length=n then (fs.zip gs).foldr (fun p acc=>iY (ca e p.1 p.2) acc) (some true) else none
  |_,_=>none
def hX:List cJ→List I→List I→Option Bool
 | [],fs,gs=>match fs,gs with
  | [],[]=>some true
  |_,_=>none
 |t::ts,fs,gs=>match fs,gs with
  |f::fs,g::gs=>iY (ca t f g) (hX ts fs gs)
  |_,_=>none
end
def oV(k:IntKind)(n:Int):Int:=k.wrap ((BitVec.ofInt k.bits (if k.signed then -1 else k.max) ^^^ BitVec.ofInt k.bits n).toNat:Int)
def eD(ty:cJ)(k:I):List I→Nat→Option (Option Nat)
 | [],_=>some none
 |x::xs,i=>match ca ty k x with
  |some true=>some (some i)
  |some false=>eD ty k xs (i+1)
  |none=>none
def fZ(A:ai):I→Option (List I×List I)
 | .dj ks vs=>some (ks,vs)
 | .mref n=>match A.o n with
  |some (.bz ks vs)=>some (ks,vs)
  |_=>none
 | .raw (.map none)=>some ([],[])
 |_=>none
def fk(ty:cJ)(z k:I)(ks vs:List I):Option (I×Bool) :=
 if (ca ty k k).isSome then (match eD ty k ks 0 with
  |some (some i)=>(vs[i]?).map fun v=>(v,true)
  |some none=>some (z,false)
  |none=>none) else none
def iB:I→Option Bool
 | .nilp=>some true
 | .ptr _ _=>some false
 | .ref _=>some false
 |_=>none
def fy(ty:cJ)(k v:I)(ks vs:List I):Option (List I×List I) :=
 if (ca ty k k).isSome=true∧k.bT=true∧v.bT=true then (match eD ty k ks 0 with
  |some (some i)=>some (ks,vs.set i v)
  |some none=>some (ks++[k],vs++[v])
  |none=>none) else none
def lS(ty:cJ)(k:I)(ks vs:List I):Option (List I×List I) :=
 if (ca ty k k).isSome=true then (match eD ty k ks 0 with
  |some (some i)=>some (ks.eraseIdx i,vs.eraseIdx i)
  |some none=>some (ks,vs)
  |none=>none) else none
def lT:I→Option I
 | .ptr n p=>some (.ptr n p)
 | .ref x=>some (.ref x)
 |_=>none
def qY:I→I→Option I
 | .int k a,.int k2 b=>if k=k2 then some (.int k (if b>a then b else a)) else none
 |_,_=>none
def mX(neg:Bool):Option Bool→Option Bool→Option I
 |some a,some b=>if a||b then some (.bool (if neg then !(a&&b) else (a&&b))) else none
 |_,_=>none
def qR(ok:Bool):Option (I×Bool)→Option I
 |some (v,b)=>some (if ok then .tuple [v,.bool b] else v)
 |none=>none
def qQ(ty:cJ)(z:I)(ok:Bool)(k:I):Option (List I×List I)→Option I
 |some (ks,vs)=>qR ok (fk ty z k ks vs)
 |none=>none
def mF(ks vs:List I):Option Nat→Option I
 |some i=>match ks[i]?,vs[i]? with
  |some k,some v=>some (.tuple [k,v])
  |_,_=>none
 |none=>none
def bo(A:ai):bS→Option I
 | .mv x=>some (ak A x)
 | .pick c a b=>match ak A c with | .bool t=>some (if t then ak A a else ak A b) | _=>none
 | .bin op x y=>cH op (ak A x) (ak A y)
 | .eqv ty neg x y=>(ca ty (ak A x) (ak A y)).map fun b=>.bool (if neg then !b else b)
 | .nilS neg x=>match ak A x with
  | .nils _=>some (.bool (!neg))
  | .slice _ es=>if es.isEmpty then none else some (.bool neg)
  | .view _ _ _ _ _=>some (.bool neg)
  |_=>none
 | .conv k x=>match ak A x with | .int _ n=>some (.int k (k.wrap n)) | _=>none
 | .un op x=>match op,ak A x with
  | .not,.bool b=>some (.bool !b)
  | .neg,.int k n=>some (.int k (k.wrap (0-n)))
  | .xor,.int k n=>some (.int k (oV k n))
  |_,_=>none
 | .ld s x=>match cM A (ak A x) with | some v=>if cg s v then some v else none | none=>none
 | .fa f off x=>match ak A x with
  | .ref (.agg fs)=>match fs[f]? with | some v=>if I.sizes (fs.take f)=off then some (.ref v) else none | none=>none
  | .ptr n p=>match cM A (.ptr n p) with | some (.agg fs)=>if f<fs.length∧I.sizes (fs.take f)=off then some (.ptr n (p++[f])) else none | _=>none
  |_=>none
 | .fl f off s x=>match ak A x with
  | .agg fs=>match fs[f]? with | some v=>if I.sizes (fs.take f)=off∧cg s v=true then some v else none | none=>none
  |_=>none
 | .ia n esz x i=>match ak A i with
  | .int _ k=>if 0≤k∧k<n then (match ak A x with
   | .ref (.agg fs)=>if ja n esz fs then (fs[k.toNat]?).map .ref else none
   | .ptr m p=>match cM A (.ptr m p) with | some (.agg fs)=>if ja n esz fs then some (.ptr m (p++[k.toNat])) else none | _=>none
   |_=>none) else none
  |_=>none
 | .is esz x i=>match ak A i with
  | .int _ k=>match ak A x with
   | .slice sz es=>if sz=esz∧0≤k∧k<es.length then (es[k.toNat]?).map .ref else none
   | .own m l=>match A.o m with | some (.bU _ sz es)=>if l=es.length∧sz=esz∧0≤k∧k<es.length then (es[k.toNat]?).map .ref else none | _=>none
   | .view m p sz lo l=>match cM A (.ptr m p) with | some (.agg _)=>if sz=esz∧0≤k∧k<l then some (.ptr m (p++[lo+k.toNat])) else none | _=>none
   |_=>none
  |_=>none
 | .ix n esz s x i=>match ak A i with
  | .int _ k=>if 0≤k∧k<n then (match ak A x with
   | .agg fs=>if ja n esz fs then (match fs[k.toNat]? with | some v=>if cg s v then some v else none | none=>none) else none
   |_=>none) else none
  |_=>none
 | .len x=>match ak A x with
  | .slice _ es=>some (.int .i64 es.length)
  | .nils _ | .c0 _=>some (.int .i64 0)
  | .own m l=>match A.o m with | some (.bU _ _ es)=>if l=es.length then some (.int .i64 es.length) else none | _=>none
  | .view _ _ _ _ k=>some (.int .i64 k)
  |_=>none
 | .cap x=>match ak A x with
  | .nils _ | .c0 _=>some (.int .i64 ((0:Nat):Int))
  | .view n p _ lo _=>match cM A (.ptr n p) with | some (.agg fs)=>some (.int .i64 ((fs.length-lo:Nat):Int)) | _=>none
  |_=>none
 | .bs0 esz=>some (.c0 esz)
 | .lenT x=>match ak A x with
  | .bQ s=>some (.int .i64 s.size)
  |_=>none
 | .va n esz x=>match ak A x with
  | .ptr m p=>match cM A (.ptr m p) with | some (.agg fs)=>if ja n esz fs=true∧n≤maxLen∧n≠0 then some (.view m p esz 0 n) else none | _=>none
  | .ref (.agg fs)=>if ja n esz fs=true∧n≤maxLen∧n≠0 then some (.slice esz fs) else none
  |_=>none
 | .sl esz x lo hi mx=>match ak A x with
  | .slice sz es=>if sz=esz then iP sz es (lo.map (ak A)) (hi.map (ak A)) (mx.map (ak A)) else none
  | .nils sz=>if sz=esz then iP sz [] (lo.map (ak A)) (hi.map (ak A)) (mx.map (ak A)) else none
  | .c0 sz=>if sz=esz then iP sz [] (lo.map (ak A)) (hi.map (ak A)) (mx.map (ak A)) else none
  | .view n p sz l0 k=>match cM A (.ptr n p) with | some (.agg fs)=>if sz=esz then nh n p sz l0 k fs.length (lo.map (ak A)) (hi.map (ak A)) (mx.map (ak A)) else none | _=>none
  |_=>none
 | .bld zs parts=>(dQ zs (parts.map fun p=>(p.1,ak A p.2))).map .agg
 | .nilC x=>lT (ak A x)
 | .max2 x y=>qY (ak A x) (ak A y)
 | .ptrE neg x y=>mX neg (iB (ak A x)) (iB (ak A y))
 | .lk ty z ok m k=>qQ ty z ok (ak A k) (fZ A (ak A m))
 | .ent x=>match ak A x with
  | .dq n=>match A.o n with
   |some (.it ks vs _ cur)=>mF ks vs cur
   |_=>none
  |_=>none
 | .bs _ esz parts=>match b8 false A (parts.map (ak A)) with
  |some es=>if (es.all fun e=>e.size==esz)∧I.cq es then some (.slice esz es) else none
  |none=>none
 | .ext x i=>match ak A x with | .tuple fs=>fs[i]? | _=>none
 | .mk f caps=>if ((caps.map (ak A)).all fun y=>y.bT)=true then some (.func f (caps.map (ak A))) else none
 |_=>none
mutual
theorem al.fP{w:World}{D D':aP}{E E':aY}(hD:∀ b o,D b o→D' b o):∀ (x:I) (cs:List Value),x.bA=true→al w D E x cs→al w D' E' x cs
 | .agg fs,cs,hc,hr=>by simp only[al,I.bA] at *;exact aN.fP hD fs cs hc hr
 | .bool b,cs,_,hr=>by simpa only[al] using hr
 | .int k n,cs,_,hr=>by simpa only[al] using hr
 | .bQ s,cs,_,hr=>by simpa only[al] using hr
 | .nilp,cs,_,hr=>by simpa only[al] using hr
 | .dB,cs,_,hr=>by simpa only[al] using hr
 | .dX,cs,_,hr | .any,cs,_,hr=>by simpa only[al] using hr
 | .raw _,cs,_,hr=>by simpa only[al] using hr
 | .nils _,cs,_,hr=>by simpa only[al] using hr
 | .c0 _,cs,_,hr=>by simpa only[al] using hr
 | .slice sz es,cs,hc,hr=>by
  simp only[al,I.bA] at *;obtain ⟨a,cap,J,U,ah,ar,h5⟩:=hr;refine ⟨a,cap,J,U,ah,?_,h5⟩;rcases ar with ar | ⟨b,off,cs',h6,h7,h8⟩
  ·exact .inl ar
  ·exact .inr ⟨b,off,cs',h6,fun j v hj=>⟨(h7 j v hj).1,hD _ _ (h7 j v hj).2⟩,aN.fP hD es cs' hc h8⟩
 | .ref x,cs,hc,hr=>by
  simp only[al,I.bA] at *;obtain ⟨b,off,cs',J,U,ah⟩:=hr;exact ⟨b,off,cs',J,fun j v hj=>⟨(U j v hj).1,hD _ _ (U j v hj).2⟩,al.fP hD x cs' hc ah⟩
 | .func f caps,cs,hc,hr=>by
  simp only[al,I.bA] at *;obtain ⟨vs,J,U⟩:=hr;exact ⟨vs,J,aI.fP hD caps vs hc U⟩
 | .iface t v,cs,hc,hr=>by
  simp only[al,I.bA] at *;obtain ⟨u,cs',J,U,ah⟩:=hr;exact ⟨u,cs',J,U,al.fP hD v cs' hc ah⟩
 | .ptr n p,_,hc,_=>by simp[I.bA] at hc
 | .own n k,_,hc,_=>by simp[I.bA] at hc
 | .view n p _ _ _,_,hc,_=>by simp[I.bA] at hc
 | .mref n,_,hc,_=>by simp[I.bA] at hc
 | .dq n,_,hc,_=>by simp[I.bA] at hc
 | .dj ks vs,cs,hc,hr=>by
  simp only[al,I.bA,t8] at *;obtain ⟨b,es,ck,J,U,ah,ar⟩:=hr;exact ⟨b,es,ck,J,⟨U.1,hD _ _ U.2.1,U.2.2⟩,aI.fP hD ks _ hc.1 ah,aI.fP hD vs _ hc.2 ar⟩
 | .undef,_,hc,_=>by simp[I.bA] at hc
 | .dw,_,hc,_=>by simp[I.bA] at hc
 | .tuple _,_,hc,_=>by simp[I.bA] at hc
theorem aN.fP{w:World}{D D':aP}{E E':aY}(hD:∀ b o,D b o→D' b o):∀ (xs:List I) (cs:List Value),I.cq xs=true→aN w D E xs cs→aN w D' E' xs cs
 | [],cs,_,hr=>by simpa only[aN] using hr
 |x::xs,cs,hc,hr=>by
  simp only[aN,I.cq,t8] at *;obtain ⟨c1,c2,J,U,ah⟩:=hr;exact ⟨c1,c2,J,al.fP hD x c1 hc.1 U,aN.fP hD xs c2 hc.2 ah⟩
theorem aI.fP{w:World}{D D':aP}{E E':aY}(hD:∀ b o,D b o→D' b o):∀ (xs:List I) (vs:List Value),I.cq xs=true→aI w D E xs vs→aI w D' E' xs vs
 | [],vs,_,hr=>by simpa only[aI] using hr
 |x::xs,vs,hc,hr=>by
  simp only[aI,I.cq,t8] at *;obtain ⟨v,rest,cs,J,U,ah,ar⟩:=hr;exact ⟨v,rest,cs,J,U,al.fP hD x cs hc.1 ah,aI.fP hD xs rest hc.2 ar⟩
end
theorem oc{w:World}{D:aP}{b:Nat}{cs:Array Value}{T:TypeId}{fz:Nat×Nat}(hb:w.heap[b]?=some (.cells cs T fz)){c1 c2 c3:List Value}(hc:cs.toList=c1++c2++c3)
  (hD:∀ o,o<c1.length+c2.length→D b o):reads w D b c1.length c2:=by
 intro j v hj;have hjl:j<c2.length:=(Z6.1 hj).1;refine ⟨?_,hD _ (by omega)⟩;have e:cs[c1.length+j]?=some v:=by
  rw[←zx1,hc,zz1,zx6 (by omega),Nat.add_sub_cancel_left,zz5 (by omega)];exact hj
 simp[World.cell?,hb,e]
section
variable {c:cV} {A:ai} {a:Act} {w:World} {D:aP} {E:aY}
theorem aU.box(h:aU c A a w D E){n:Nat}{x:I}(hn:A.o n=some (.box x)) :
  ∃ b cs T,E n=some (.aL b x.aX)∧c.eZ b∧w.heap[b]?=some (.cells cs T (0,0))∧al w D E x cs.toList∧∀ o,¬ D b o:=by
 have:=h.bP n;rw[hn] at this;exact this
theorem aU.bU(h:aU c A a w D E){n sz:Nat}{T:TypeId}{es:List I}(hn:A.o n=some (.bU T sz es)) :
  ∃ aJ,E n=some (.rw aJ es.length)∧(∀ e∈es,e.size=sz)∧match aJ with
  |none=>es=[]
  |some (b,cap)=>∃ cs pre rest,c.eZ b∧w.heap[b]?=some (.cells cs T (0,0))∧cs.toList=pre++rest∧aN w D E es pre ∧
    cs.size=cap*sz∧es.length≤cap∧cap≤maxLen∧∀ o,D b o→o<pre.length:=by
 have:=h.bP n;rw[hn] at this;exact this
theorem aU.rV(h:aU c A a w D E){n:Nat}{T:TypeId}{xs:List Int}(hn:A.o n=some (.dK T xs)) :
  ∃ aJ,E n=some (.rw aJ xs.length)∧(∀ x∈xs,IntKind.i64.min≤x∧x≤IntKind.i64.max)∧match aJ with
  |none=>xs=[]
  |some (b,cap)=>∃ cs m,c.eZ b∧w.heap[b]?=some (.cells cs T (0,0))∧cs.toList=(xs++List.replicate m 0).map (Value.int .i64)∧xs≠[]∧xs.length+m=cap∧cap≤maxLen∧∀ o,¬ D b o:=by
 have:=h.bP n;rw[hn] at this;exact this
theorem aU.map(h:aU c A a w D E){n:Nat}{ks vs:List I}(hn:A.o n=some (.bz ks vs)) :
  ∃ b es clock,E n=some (.bz b)∧c.eZ b∧w.heap[b]?=some (.map es clock)∧oz es clock∧aI w D E ks (es.toList.map (·.key))∧aI w D E vs (es.toList.map (·.val))∧∀ o,¬ D b o:=by
 have:=h.bP n;rw[hn] at this;exact this
theorem aU.at(h:aU c A a w D E){n:Nat}{p:List Nat}{x:I}(hx:cM A (.ptr n p)=some x) :
  ∃ y b cs T off c1 c2 c3,A.o n=some (.box y)∧E n=some (.aL b y.aX)∧c.eZ b∧w.heap[b]?=some (.cells cs T (0,0))∧y.at p=some x∧y.aX.off p=some off ∧
   cs.toList=c1++c2++c3∧c1.length=off∧al w D E x c2∧al w D E y cs.toList∧∀ o,¬ D b o:=by
 simp only[cM] at hx;split at hx
 ·rename_i y hn;obtain ⟨b,cs,T,J,U,ah,ar,h5⟩:=h.box hn;obtain ⟨off,c1,c2,c3,h6,h7,h8,h9⟩:=xl p y x _ ar hx;exact ⟨y,b,cs,T,off,c1,c2,c3,hn,J,U,ah,hx,h6,h7,h8,h9,ar,h5⟩
 ·cases hx
theorem aU.yK(h:aU c A a w D E){x y:I}{v:Value}(hv:aZ w D E x v)(hx:cM A x=some y) :
  ∃ b off cs,v=.pointer (some ⟨b,off,none⟩)∧(∀ j u,cs[j]?=some u→w.cell? ⟨b,off+j,none⟩=some u)∧al w D E y cs:=by
 cases x with
 |ref z =>
  simp only[cM,v6] at hx;subst hx;obtain ⟨b,off,cs,J,U,ah⟩:=pP hv;exact ⟨b,off,cs,J,fun j u hj=>(U j u hj).1,ah⟩
 |ptr n p =>
  obtain ⟨b,aX,off,J,U,ah⟩:=lg hv;obtain ⟨z,b',cs,T,off',c1,c2,c3,k1,k2,_,k3,_,k5,k6,k7,k8,_,_⟩:=h.at hx;rw[k2] at J;simp only[v6,bM.aL.injEq] at J;obtain ⟨rfl,rfl⟩:=J;rw[k5,v6] at U;subst U;refine ⟨b',off',c2,ah,fun j u hj =>?_,k8⟩;have:=oc (D:=fun _ _=>True) k3 k6 (fun _ _=>trivial);rw[k7] at this;exact (this j u hj).1
 |_=>simp[cM] at hx
theorem tH{w:World}{D:aP}{E:aY} : ∀ (xs ys:List I) (cs:List Value),aN w D E (xs++ys) cs→∃ c1 c2,cs=c1++c2∧aN w D E xs c1∧aN w D E ys c2
 | [],ys,cs,hr=>⟨[],cs,rfl,by simp[aN],hr⟩
 |x::xs,ys,cs,hr=>by
  simp only[Z5,aN] at hr;obtain ⟨d1,d2,rfl,k1,k2⟩:=hr;obtain ⟨e1,e2,rfl,k3,k4⟩:=tH xs ys d2 k2;exact ⟨d1++e1,e2,by simp,by simp only[aN];exact ⟨d1,e1,rfl,k1,k3⟩,k4⟩
theorem Fj{fs:List I}{sz:Nat}(h:∀ s∈I.c7 fs,s.size=sz):∀ f∈fs,f.size=sz:=by
 intro f hf;rw[←I.ln];exact h _ (by rw[I.dy];exact zy1.2 ⟨f,hf,rfl⟩)
theorem tI{w:World}{D:aP}{E:aY}{fs:List I}{cs:List Value}{sz:Nat}(hr:aN w D E fs cs)(hev:∀ f∈fs,f.size=sz)(lo k:Nat)(h:lo+k≤fs.length) :
  ∃ d1 d2 d3,cs=d1++(d2++d3)∧d1.length=lo*sz∧aN w D E ((fs.drop lo).take k) d2∧aN w D E ((fs.drop lo).drop k) d3:=by
 have e1:fs=fs.take lo++((fs.drop lo).take k++(fs.drop lo).drop k):=by rw[List.take_append_drop,List.take_append_drop]
 rw[e1] at hr;obtain ⟨d1,d',rfl,q1,q2⟩:=tH _ _ _ hr;obtain ⟨d2,d3,rfl,q3,q4⟩:=tH _ _ _ q2;refine ⟨d1,d2,d3,rfl,?_,q3,q4⟩;rw[aN.length _ _ q1,I.im _ (fun x hx=>hev x (List.mem_of_mem_take hx)),zy9]
 congr 1
 omega
structure h2 (aL:Bool) (A:ai) (D:aP) (E:aY) (D':aP):Prop where
 c9:∀ b o,D b o→D' b o
 bU:∀ n T sz es b cap,A.o n=some (.bU T sz es)→E n=some (.rw (some (b,cap)) es.length)→∀ o,o<es.length*sz→D' b o
 box:aL=true→∀ n x b aX,A.o n=some (.box x)→E n=some (.aL b aX)→∀ o,o<x.size→D' b o
 map:aL=true→∀ n ks vs b,A.o n=some (.bz ks vs)→E n=some (.bz b)→D' b 0
def ep(A A':ai):Prop:=∀ n x,A.o n=some x→A'.o n=some x
theorem jo{A A':ai}(hu:ep A A'){x v:I}(h:cM A x=some v):cM A' x=some v:=by
 cases x <;>simp only[cM] at h ⊢ <;>try exact h
 rename_i n p;cases ho:A.o n with
 |none=>rw[ho] at h;cases h
 |some y=>rw[ho] at h;rw[hu n y ho];exact h
theorem AQ{A0 A:ai}(hu:ep A0 A){n:Nat}{p:List Nat}{x z:I}(h:cM A0 (.ptr n p)=some x)(hz:A.o n=some (.box z)):A0.o n=some (.box z):=by
 simp only[cM] at h;split at h
 ·rename_i y hy;have:=hu n _ hy;rw[hz] at this;rw[hy,←this]
 ·cases h
theorem aU.EJ(h:aU c A a w D E){A0:ai}(hu:ep A0 A){D':aP}(hw:h2 true A0 D E D'){n:Nat}{p:List Nat}{x:I}{cs:List Value}(hx:cM A0 (.ptr n p)=some x)(hr:al w D E (.ptr n p) cs) :
  ∃ b off c2,cs=[.pointer (some ⟨b,off,none⟩)]∧reads w D' b off c2∧al w D E x c2:=by
 obtain ⟨z,b',cs',T,off',c1,c2,c3,k1,k2,_,k3,k4,k5,k6,k7,k8,k9,_⟩:=h.at (jo hu hx);have k1:=AQ hu hx k1;simp only[al] at hr;obtain ⟨b,aX,off,J,U,ah⟩:=hr;rw[k2] at J;simp only[v6,bM.aL.injEq] at J;obtain ⟨rfl,rfl⟩:=J;rw[k5,v6] at U;subst U;have hsz:=al.length z _ k9;rw[k6] at hsz;simp only[Z7] at hsz;refine ⟨b',off',c2,ah,?_,k8⟩;rw[←k7];exact oc k3 k6 (fun o ho=>hw.box rfl n z b' _ k1 k2 o (by omega))
theorem aU.iP(h:aU c A a w D E){A0:ai}(hu:ep A0 A){D':aP}{E':aY}(hw:h2 true A0 D E D'){n:Nat}{p:List Nat}{sz lo k:Nat}{fs:List I}{cs:List Value}(hx:cM A0 (.ptr n p)=some (.agg fs))(hr:al w D E (.view n p sz lo k) cs)
  (hcl:I.cq ((fs.drop lo).take k)=true):al w D' E' (.slice sz ((fs.drop lo).take k)) cs:=by
 obtain ⟨z,b',cs',T,off',c1,c2,c3,k1,k2,_,k3,k4,k5,k6,k7,k8,k9,_⟩:=h.at (jo hu hx);have k1:=AQ hu hx k1;simp only[al] at hr k8 ⊢;obtain ⟨b,aX,off,l,J,U,ah,ar,h5,h6,h7⟩:=hr;rw[k2] at J;simp only[v6,bM.aL.injEq] at J;obtain ⟨rfl,rfl⟩:=J;rw[k5,v6] at U;subst U;rw[mj p z _ k4] at ah;simp only[I.aX,v6,cR.eI.injEq] at ah;subst ah;have hsz:=al.length z _ k9;rw[k6] at hsz;rw[I.dy,Z8] at ar h5 h6;have hev:=Fj h7;obtain ⟨d1,d2,d3,rfl,q1,q2,q3⟩:=tI k8 hev lo k h6;simp only[Z7] at hsz;have hlen:((fs.drop lo).take k).length=k:=by rw[zy9,List.length_drop];omega
 refine ⟨some ⟨b',off'+lo*sz,none⟩,fs.length-lo,by rw[hlen];exact ar,by rw[hlen];omega,by omega,.inr ⟨b',off'+lo*sz,d2,rfl,?_,aN.fP hw.c9 _ d2 hcl q2⟩,?_⟩
 ·have:=oc (D:=D') (c1:=c1++d1) (c2:=d2) (c3:=d3++c3) k3 (by rw[k6];simp) (fun o ho=>hw.box rfl n z b' _ k1 k2 o (by rw[Z7] at ho;omega));rw[Z7,k7,q1] at this;exact this
 ·intro e he;exact hev e (List.mem_of_mem_drop (List.mem_of_mem_take he))
theorem aU.E5(h:aU c A a w D E){aL:Bool}{A0:ai}(hu:ep A0 A){D':aP}{E':aY}(hw:h2 aL A0 D E D'){n k T sz:Nat}{es:List I}{cs:List Value}(hn:A0.o n=some (.bU T sz es))(hcl:I.cq es=true)(hk:k=es.length)(hr:al w D E (.own n k) cs):al w D' E' (.slice sz es) cs:=by
 subst hk;simp only[al] at hr;obtain ⟨aJ,l,J,U,_,ar⟩:=hr;obtain ⟨blk',k1,k2,k3⟩:=h.bU (hu n _ hn);rw[k1] at J;simp only[v6,bM.rw.injEq] at J;obtain ⟨rfl,rfl⟩:=J;have ar:=ar rfl;cases blk' with
 |none =>
  simp only at k3 ar;subst k3;simp only[al];exact ⟨none,0,by simpa using ar,by simp,by simp[maxLen],by simp,by simp⟩
 |some bc =>
  obtain ⟨b,cap⟩:=bc;simp only at ar;obtain ⟨cs',pre,rest,k4,k5,k6,k7,k8,k9,k10,k11⟩:=k3;simp only[al];refine ⟨some ⟨b,0,none⟩,cap,ar,k9,k10,.inr ⟨b,0,pre,rfl,?_,aN.fP hw.c9 es pre hcl k7⟩,k2⟩;have hp:pre.length=es.length*sz:=by rw[aN.length _ _ k7,I.im _ k2]
  have:=oc (D:=D') (c1:=[]) k5 (by simpa using k6) (fun o ho=>hw.bU n T sz es b cap hn k1 o (by simp at ho;omega));simpa using this
theorem Cw{w:World}{D D':aP}{E E':aY}{f:I→Option I}(hf:∀ x y cs,al w D E x cs→f x=some y→al w D' E' y cs):∀ (xs ys:List I) (cs:List Value),aN w D E xs cs→fR f xs=some ys→aN w D' E' ys cs
 | [],ys,cs,hr,h=>by simp only[fR,v6] at h;subst h;simpa only[aN] using hr
 |x::xs,ys,cs,hr,h=>by
  simp only[fR] at h;split at h
  ·rename_i y ys' J U;simp only[v6] at h;subst h;simp only[aN] at *;obtain ⟨c1,c2,e,k1,k2⟩:=hr;exact ⟨c1,c2,e,hf x y c1 k1 J,Cw hf xs ys' c2 k2 U⟩
  ·cases h
theorem tf{w:World}{D D':aP}{E E':aY}{f:I→Option I}(hf:∀ x y cs,al w D E x cs→f x=some y→al w D' E' y cs)(hp:∀ x y,f x=some y→y.isAgg=x.isAgg):∀ (xs ys:List I) (vs:List Value),aI w D E xs vs→fR f xs=some ys→aI w D' E' ys vs
 | [],ys,cs,hr,h=>by simp only[fR,v6] at h;subst h;simpa only[aI] using hr
 |x::xs,ys,cs,hr,h=>by
  simp only[fR] at h;split at h
  ·rename_i y ys' J U;simp only[v6] at h;subst h;simp only[aI] at *;obtain ⟨v,rest,c1,e,k1,k2,k3⟩:=hr;refine ⟨v,rest,c1,e,?_,hf x y c1 k2 J,tf hf hp xs ys' rest k3 U⟩;unfold bD at *;rw[hp x y J];exact k1
  ·cases h
theorem vG{A0:ai} : ∀ {k:Nat} {x y:I},c4 A0 k x=some y→y.isAgg=x.isAgg
 |0,_,_,h=>by simp[c4] at h
 |k+1,x,y,h=>by
  simp only[c4] at h;split at h
  ·simp only[v6] at h;rw[h]
  ·cases x <;>simp only[] at h <;>first
    |(cases h;done)
    |(split at h <;>first | (simp only[t7] at h;obtain ⟨z,_,rfl⟩:=h;rfl) | (simp only[v6] at h;subst h;rfl);done)
    |(simp only[t7] at h;obtain ⟨z,_,rfl⟩:=h;rfl)
    |((repeat' split at h) <;>first | (cases h;done) | (simp only[v6] at h;subst h;rfl) | (simp only[t7] at h;obtain ⟨z,_,rfl⟩:=h;rfl))
theorem vH(h:aU c A a w D E){A0:ai}(hu:ep A0 A){D':aP}{E':aY}(hw:h2 true A0 D E D'):∀ (k:Nat) (x y:I) (cs:List Value),al w D E x cs→c4 A0 k x=some y→al w D' E' y cs
 |0,_,_,_,_,hf=>by simp[c4] at hf
 |k+1,x,y,cs,hr,hf=>by
  have ih:=vH h hu (E':=E') hw k;simp only[c4] at hf;split at hf
  ·rename_i hcl;simp only[v6] at hf;subst hf;exact al.fP hw.c9 x cs hcl hr
  ·rename_i hcl;cases x <;>simp only[] at hf <;>try (cases hf;done)
   case agg fs =>
    simp only[t7] at hf;obtain ⟨ys,hy,rfl⟩:=hf;simp only[al] at *;exact Cw ih fs ys cs hr hy
   case func f caps =>
    split at hf
    case isFalse =>
     simp only[v6] at hf;subst hf;simp only[al] at *;obtain ⟨vs,J,U⟩:=hr;exact ⟨_,J,Bn f vs⟩
    simp only[t7] at hf;obtain ⟨ys,hy,rfl⟩:=hf;simp only[al] at *;obtain ⟨vs,J,U⟩:=hr;exact ⟨vs,J,tf ih (fun x y hxy=>vG hxy) caps ys vs U hy⟩
   case ptr n p =>
    split at hf
    case h_2=>cases hf
    rename_i z hz;simp only[t7] at hf;obtain ⟨y',hy,rfl⟩:=hf;obtain ⟨b,off,c2,k1,k2,k3⟩:=h.EJ hu hw hz hr;simp only[al];exact ⟨b,off,c2,k1,k2,ih z y' c2 k3 hy⟩
   case view n p sz lo l =>
    split at hf
    case h_2=>cases hf
    rename_i fs hx;split at hf
    case isFalse=>cases hf
    rename_i hc;simp only[v6] at hf;subst hf;exact h.iP hu hw hx hr hc
   case mref n =>
    split at hf
    case h_2=>cases hf
    rename_i ks vs hn;split at hf
    case isFalse=>cases hf
    rename_i hc;simp only[t7] at hf;obtain ⟨ys,hy,rfl⟩:=hf;simp only[al] at hr ⊢;obtain ⟨b,J,U⟩:=hr;obtain ⟨b',es,ck,k1,k2,k3,k4,k5,k6,k7⟩:=h.map (hu n _ hn);rw[k1] at J;cases J;exact ⟨b,es,ck,U,⟨k3,hw.map rfl n ks vs b hn k1,k4⟩,aI.fP hw.c9 ks _ hc k5,tf ih (fun x y hxy=>vG hxy) vs ys _ k6 hy⟩
   case own n l =>
    split at hf
    case h_2=>cases hf
    rename_i T sz es hn;split at hf
    case isFalse=>cases hf
    rename_i hk;simp only[v6] at hf;subst hf;exact h.E5 hu hw hn hk.2 hk.1 hr
mutual
theorem Bg(h:aU c A a w D E){aL:Bool}{A0:ai}(hu:ep A0 A){D':aP}{E':aY}(hw:h2 aL A0 D E D'):∀ (x y:I) (cs:List Value),al w D E x cs→bj aL A0 x=some y→al w D' E' y cs
 | .ptr n p,y,cs,hr,hf=>by
  simp only[bj] at hf;split at hf
  case isFalse=>cases hf
  rename_i hbx;subst hbx;split at hf
  case h_2=>cases hf
  rename_i x hx;obtain ⟨b,off,c2,k1,k2,k3⟩:=h.EJ hu hw hx hr;split at hf
  ·rename_i hcl;simp only[v6] at hf;subst hf;simp only[al];exact ⟨b,off,c2,k1,k2,al.fP hw.c9 x c2 hcl k3⟩
  ·simp only[t7] at hf;obtain ⟨y',hy,rfl⟩:=hf;simp only[al];exact ⟨b,off,c2,k1,k2,vH h hu hw 9 x y' c2 k3 hy⟩
 | .mref n,y,cs,hr,hf=>by
  simp only[bj] at hf;split at hf
  case isFalse=>cases hf
  rename_i hbx;subst hbx;split at hf
  case h_2=>cases hf
  rename_i ks vs hn;split at hf
  case isFalse=>cases hf
  rename_i hc;simp only[t7] at hf;obtain ⟨ys,hy,rfl⟩:=hf;simp only[al] at hr ⊢;obtain ⟨b,J,U⟩:=hr;obtain ⟨b',es,ck,k1,k2,k3,k4,k5,k6,k7⟩:=h.map (hu n _ hn);rw[k1] at J;cases J;exact ⟨b,es,ck,U,⟨k3,hw.map rfl n ks vs b hn k1,k4⟩,aI.fP hw.c9 ks _ hc k5,tf (vH h hu hw 9) (fun x y hxy=>vG hxy) vs ys _ k6 hy⟩
 | .dq _,_,_,_,hf=>by simp[bj] at hf
 | .dj ks vs,y,cs,hr,hf=>by
  simp only[bj] at hf;split at hf
  ·rename_i hc;simp only[v6] at hf;subst hf;exact al.fP hw.c9 _ cs (by simpa[I.bA] using hc) hr
  ·cases hf
 | .own n k,y,cs,hr,hf=>by
  simp only[bj] at hf;split at hf
  case h_2=>cases hf
  rename_i T sz es hn;split at hf
  case isFalse=>cases hf
  rename_i hk;simp only[v6] at hf;subst hf;exact h.E5 hu hw hn hk.2 hk.1 hr
 | .view n p sz lo k,y,cs,hr,hf=>by
  simp only[bj] at hf;split at hf
  case isFalse=>cases hf
  rename_i hbx;subst hbx;split at hf
  case h_2=>cases hf
  rename_i fs hx;split at hf
  case isFalse=>cases hf
  rename_i hcl;simp only[v6] at hf;subst hf;exact h.iP hu hw hx hr hcl
 | .nils sz,y,cs,hr,hf=>by
  simp only[bj,v6] at hf;subst hf;simp only[al] at *;exact ⟨none,0,by simpa using hr,by simp,by simp[maxLen],by simp,by simp⟩
 | .c0 sz,y,cs,hr,hf=>by
  simp only[bj,v6] at hf;subst hf;simp only[al] at *;obtain ⟨ad,hr⟩:=hr;exact ⟨ad,0,by simpa using hr,by simp,by simp[maxLen],by simp,by simp⟩
 | .func f caps,y,cs,hr,hf=>by
  simp only[bj] at hf;split at hf
  case isFalse =>
   simp only[v6] at hf;subst hf;simp only[al] at *;obtain ⟨vs,J,U⟩:=hr;exact ⟨_,J,Bn f vs⟩
  simp only[t7] at hf;obtain ⟨ys,hy,rfl⟩:=hf;simp only[al] at *;obtain ⟨vs,J,U⟩:=hr;exact ⟨vs,J,lL h hu hw caps ys vs U hy⟩
 | .agg fs,y,cs,hr,hf=>by
  simp only[bj,t7] at hf;obtain ⟨ys,hy,rfl⟩:=hf;simp only[al] at *;exact Bh h hu hw fs ys cs hr hy
 | .tuple _,_,_,_,hf=>by simp[bj] at hf
 | .undef,_,_,_,hf=>by simp[bj] at hf
 | .dw,_,_,_,hf=>by simp[bj] at hf
 | .bool b,y,cs,hr,hf=>by simp only[bj,v6] at hf;subst hf;simpa only[al] using hr
 | .int k n,y,cs,hr,hf=>by simp only[bj,v6] at hf;subst hf;simpa only[al] using hr
 | .bQ s,y,cs,hr,hf=>by simp only[bj,v6] at hf;subst hf;simpa only[al] using hr
 | .nilp,y,cs,hr,hf=>by simp only[bj,v6] at hf;subst hf;simpa only[al] using hr
 | .dB,y,cs,hr,hf=>by simp only[bj,v6] at hf;subst hf;simpa only[al] using hr
 | .dX,y,cs,hr,hf | .any,y,cs,hr,hf=>by simp only[bj,v6] at hf;subst hf;simpa only[al] using hr
 | .raw _,y,cs,hr,hf=>by simp only[bj,v6] at hf;subst hf;simpa only[al] using hr
 | .slice sz es,y,cs,hr,hf=>by
  simp only[bj] at hf;split at hf
  ·rename_i hc;simp only[v6] at hf;subst hf;exact al.fP hw.c9 _ cs (by simpa[I.bA] using hc) hr
  ·cases hf
 | .ref x,y,cs,hr,hf=>by
  simp only[bj] at hf;split at hf
  ·rename_i hc;simp only[v6] at hf;subst hf;exact al.fP hw.c9 _ cs (by simpa[I.bA] using hc) hr
  ·cases hf
 | .iface t v,y,cs,hr,hf=>by
  simp only[bj] at hf;split at hf
  ·rename_i hc;simp only[v6] at hf;subst hf;exact al.fP hw.c9 _ cs (by simpa[I.bA] using hc) hr
  ·cases hf
theorem Bh(h:aU c A a w D E){aL:Bool}{A0:ai}(hu:ep A0 A){D':aP}{E':aY}(hw:h2 aL A0 D E D'):∀ (xs ys:List I) (cs:List Value),aN w D E xs cs→b8 aL A0 xs=some ys→aN w D' E' ys cs
 | [],ys,cs,hr,hf=>by simp only[b8,v6] at hf;subst hf;simpa only[aN] using hr
 |x::xs,ys,cs,hr,hf=>by
  simp only[b8] at hf;split at hf
  ·rename_i y ys' J U;simp only[v6] at hf;subst hf;simp only[aN] at *;obtain ⟨c1,c2,e,k1,k2⟩:=hr;exact ⟨c1,c2,e,Bg h hu hw x y c1 k1 J,Bh h hu hw xs ys' c2 k2 U⟩
  ·cases hf
theorem lL(h:aU c A a w D E){aL:Bool}{A0:ai}(hu:ep A0 A){D':aP}{E':aY}(hw:h2 aL A0 D E D'):∀ (xs ys:List I) (vs:List Value),aI w D E xs vs→b8 aL A0 xs=some ys→aI w D' E' ys vs
 | [],ys,cs,hr,hf=>by simp only[b8,v6] at hf;subst hf;simpa only[aI] using hr
 |x::xs,ys,cs,hr,hf=>by
  simp only[b8] at hf;split at hf
  ·rename_i y ys' J U;simp only[v6] at hf;subst hf;simp only[aI] at *;obtain ⟨v,rest,c1,e,k1,k2,k3⟩:=hr;refine ⟨v,rest,c1,e,?_,Bg h hu hw x y c1 k2 J,lL h hu hw xs ys' rest k3 U⟩;have:y.isAgg=x.isAgg:=by
    cases x <;>simp only[bj] at J <;>first
     |(simp at J;done)
     |(simp only[v6] at J;subst J;rfl)
     |(simp only[t7] at J;obtain ⟨z,_,rfl⟩:=J;rfl)
     |((repeat' split at J) <;>first | (simp at J;done) | (simp only[v6] at J;subst J;rfl) | (simp only[t7] at J;obtain ⟨z,_,rfl⟩:=J;rfl))
   unfold bD at *;rw[this];exact k1
  ·cases hf
end
end
def fQ(P:Program)(t:TypeId):Option (Option Nat):=match P.underlying t with
 |some (.struct _) | some (.array _ _)=>some (some (P.cellsOf t))
 |some _=>some none
 |none=>none
def xX(P:Program):Nat→TypeId→Option I
 |0,_=>none
 |d+1,t=>match P.underlying t with
  |some .bool=>some (.bool false)
  |some (.int k)=>some (.int k 0)
  |some .string=>some (.bQ ByteArray.empty)
  |some (.pointer _)=>some .nilp
  |some (.slice e)=>some (.nils (P.cellsOf e))
  |some (.func _ _ _)=>some .dB
  |some (.interface _)=>some .dX
  |some (.map _ _)=>some (.raw (.map none))
  |some (.struct fs)=>(fs.toList.mapM fun f=>xX P d f.type).map .agg
  |some (.array n e)=>(xX P d e).map fun z=>.agg (List.replicate n z)
  |_=>none
def kO:I→Value→Bool
 | .bool b,.bool b'=>b==b'
 | .int k n,.int k' n'=>k==k'&&n==n'&&decide (k.min≤n∧n≤k.max)
 | .bQ s,.string t=>s.size==0&&t.size==0
 | .nilp,.pointer none=>true
 | .nils _,.slice none 0 0=>true
 | .dB,.nilFunc=>true
 | .dX,.nilIface=>true
 | .raw (.map none),.map none=>true
 |_,_=>false
mutual
def mu:I→List Value→Option (List Value)
 | .agg fs,cs=>r2 fs cs
 | .bool b,v::cs=>if kO (.bool b) v then some cs else none
 | .int k n,v::cs=>if kO (.int k n) v then some cs else none
 | .bQ s,v::cs=>if kO (.bQ s) v then some cs else none
 | .nilp,v::cs=>if kO .nilp v then some cs else none
 | .nils z,v::cs=>if kO (.nils z) v then some cs else none
 | .dB,v::cs=>if kO .dB v then some cs else none
 | .dX,v::cs=>if kO .dX v then some cs else none
 | .raw u,v::cs=>if kO (.raw u) v then some cs else none
 |_,_=>none
def r2:List I→List Value→Option (List Value)
 | [],cs=>some cs
 |x::xs,cs=>match mu x cs with
  |some r=>r2 xs r
  |none=>none
end
theorem ByteArray.Mx{s t:ByteArray}(ab:s.size=0)(ht:t.size=0):s=t:=by
 cases s with | mk a=>cases t with | mk b =>
 have ha:a = #[]:=Array.eq_empty_of_size_eq_zero ab;have hb:b = #[]:=Array.eq_empty_of_size_eq_zero ht;rw[ha,hb]
theorem J6{x:I}{v:Value}(h:kO x v=true)(w:World)(D:aP)(E:aY):al w D E x [v]:=by
 unfold kO at h;split at h
 case h_9=>cases h
 case h_1=>simp only[beq_iff_eq] at h;subst h;simp[al]
 case h_2 =>
  simp only[t8,beq_iff_eq,decide_eq_true_eq] at h;obtain ⟨⟨rfl,rfl⟩,h⟩:=h;simp only[al,true_and];exact h
 case h_3 =>
  simp only[t8,beq_iff_eq] at h;have e:=ByteArray.Mx h.1 h.2;subst e;simp only[al,true_and];rw[h.1];exact zy3 _
 all_goals simp[al,Value.oneCell']
mutual
theorem FJ:∀ (x:I) (cs r:List Value),mu x cs=some r→∃ c1,cs=c1++r∧∀ w D E,al w D E x c1
 | .agg fs,cs,r,h=>by
  simp only[mu] at h;obtain ⟨c1,J,U⟩:=FK fs cs r h;exact ⟨c1,J,fun w D E=>by simp only[al];exact U w D E⟩
 | .bool b,v::cs,r,h | .int k n,v::cs,r,h | .bQ s,v::cs,r,h | .nilp,v::cs,r,h | .nils z,v::cs,r,h | .dB,v::cs,r,h | .dX,v::cs,r,h | .raw u,v::cs,r,h=>by
  simp only[mu] at h;split at h
  ·rename_i bH;simp only[v6] at h;subst h;exact ⟨[v],rfl,fun w D E=>J6 bH w D E⟩
  ·cases h
 | .bool b,[],r,h | .int k n,[],r,h | .bQ s,[],r,h | .nilp,[],r,h | .nils z,[],r,h | .dB,[],r,h | .dX,[],r,h | .raw _,[],r,h=>by simp[mu] at h
 | .any,_,_,h | .undef,_,_,h | .dw,_,_,h | .c0 _,_,_,h | .slice _ _,_,_,h | .tuple _,_,_,h | .ref _,_,_,h | .func _ _,_,_,h | .iface _ _,_,_,h | .ptr _ _,_,_,h | .own _ _,_,_,h | .view _ _ _ _ _,_,_,h | .mref _,_,_,h | .dq _,_,_,h | .dj _ _,_,_,h=>by simp[mu] at h
theorem FK:∀ (xs:List I) (cs r:List Value),r2 xs cs=some r→∃ c1,cs=c1++r∧∀ w D E,aN w D E xs c1
 | [],cs,r,h=>by
  simp only[r2,v6] at h;exact ⟨[],by simp[h],fun w D E=>by simp[aN]⟩
 |x::xs,cs,r,h=>by
  simp only[r2] at h;split at h
  ·rename_i r' hx;obtain ⟨c1,J,U⟩:=FJ x cs r' hx;obtain ⟨c2,ah,ar⟩:=FK xs r' r h;exact ⟨c1++c2,by rw[J,ah,zz1],fun w D E=>by simp only[aN];exact ⟨c1,c2,rfl,U w D E,ar w D E⟩⟩
  ·cases h
end
def gj(P:Program)(t:TypeId):Option I :=
 match (P.info? t).bind (·.zero),xX P 12 t with
 |some z,some x=>match mu x z.cells.toList with
  |some []=>some x
  |_=>none
 |_,_=>none
theorem lz{P:Program}{t:TypeId}{x:I}(h:gj P t=some x):∃ i z,P.info? t=some i∧i.zero=some z∧∀ w D E,al w D E x z.cells.toList:=by
 unfold gj at h;split at h
 ·rename_i z x' hz hx;split at h
  ·rename_i hk;simp only[v6] at h;subst h;obtain ⟨i,hi,hz'⟩:=zx9.1 hz;obtain ⟨c1,J,U⟩:=FJ _ _ _ hk;rw[zx4] at J;exact ⟨i,z,hi,hz',fun w D E=>by rw[J];exact U w D E⟩
  ·cases h
 ·cases h
def kW:Nat→List I→List (Nat×Nat)
 |_,[]=>[]
 |k,x::xs=>(k,x.size)::kW (k+x.size) xs
theorem Da:∀ (xs:List I) (k i:Nat),(kW k xs)[i]?=(xs[i]?).map fun x=>(k+I.sizes (xs.take i),x.size)
 | [],k,i=>by simp[kW]
 |x::xs,k,0=>by simp[kW,I.sizes]
 |x::xs,k,i+1=>by
  simp only[kW,List.getElem?_cons_succ,Da xs,zy5,I.sizes];cases xs[i]? <;>simp;omega
def e8 (P : Program) (f : FuncId) : Bool := Nat.blt f 1000000 && (P.funcs[f]?).any fun fn => fn.name != "runtime.NumGoroutine" && fn.body.isSome
def kM(P:Program)(ps:List (Nat×Operand)):Option (List (Nat×aO)):=ps.mapM fun p=>(bx P 0 p.2).map fun x=>(p.1,x)
def iw(P:Program):Option Operand→Option (Option aO)
 |none=>some none
 |some x=>(bx P 0 x).map some
def j6(P:Program):List Operand→List TypeId→Option (List aO)
 | [],_=>some []
 |x::xs,ts=>match bx P (ts.headD 0) x,j6 P xs ts.tail with
  |some y,some ys=>some (y::ys)
  |_,_=>none
def pD(P:Program):Nat→List Field→Bool
 |_,[]=>true
 |k,f::fs=>f.offset==k&&pD P (k+P.cellsOf f.type) fs
def gH(P:Program):Nat→TypeId→Option cJ
 |0,_=>none
 |d+1,t=>match P.underlying t with
  |some (.int k)=>some (.i k)
  |some .bool=>some .b
  |some .string=>some .s
  | some (.struct fs) => if P.stoodInHeld t = false ∧ (fs.toList.all fun f => f.name != "_") = true ∧ pD P 0 fs.toList = true then
    (fs.toList.mapM fun (f:Field)=>match gH P d f.type with
     |some ty=>if ty.size=P.cellsOf f.type then some ty else none
     |none=>none).map .bd else none
  |some (.array n e)=>match gH P d e with
   |some ty=>if ty.size=P.cellsOf e∧(P.info? e).isSome=true then some (.qa n ty) else none
   |none=>none
  |_=>none
def qH:Option TypeDesc→Bool
 |some (.int _)=>true
 |_=>false
def wi:cJ→Bool
 | .i _=>true
 |_=>false
def jO(P:Program)(t:TypeId):Option cJ:=match P.underlying t with
 |some (.int k)=>some (.i k)
 |some (.struct fs)=>match gH P 12 t with
  |some (.bd l)=>if l.all wi=true∧(fs.all fun f=>qH (P.underlying f.type))=true then some (.bd l) else none
  |_=>none
 |_=>none
def ui(P:Program)(t:TypeId)(z:I):Bool:=match (P.info? t).bind (·.zero) with
 |some (.agg _)=>z.isAgg
 |some _ => !z.isAgg
 |none=>false
def xG:Operand→Operand→Bool
 | .tmp a,.tmp b=>a==b
 |_,_=>false
theorem Zc{x y:Operand}(h:xG x y=true):y=x:=by
 unfold xG at h;split at h
 ·simp only[beq_iff_eq] at h;rw[h]
 ·cases h
def df(P:Program)(o:Oper):Option bS :=
 match o.op with
 | .move x | .assign x=>(bx P o.type x).map .mv
 | .pick c a b=>match bx P 0 c,bx P o.type a,bx P o.type b with
  |some c,some a,some b=>some (.pick c a b)
  |_,_,_=>none
 | .binOp op t x y _=>match P.underlying t,bx P 0 x,bx P 0 y with
  |some (.int _),some x,some y | some .string,some x,some y=>some (.bin op x y)
  |some (.slice _),some x,some y=>match y with
   | .c (.nils _)=>if op=.eql∨op=.neq then some (.nilS (op==.neq) x) else none
   |_=>none
  |some (.pointer _),some x,some y=>if op=.eql∨op=.neq then some (.ptrE (op==.neq) x y) else none
  |some _,some x,some y=>if (op=.eql∨op=.neq)∧P.eqGuardType P.depth t=false then (gH P 12 t).map fun ty=>.eqv ty (op==.neq) x y else none
  |_,_,_=>none
 | .unOp op _ x=>(bx P 0 x).map (.un op)
 | .nilCheck x=>(bx P 0 x).map .nilC
 | .makeMap _ none=>some .iD
 | .lookup t m k ok=>match P.underlying t,bx P 0 m,bx P 0 k with
  |some (.map kt et),some m,some k=>match jO P kt,gj P et with
   |some ty,some z=>if ui P et z=true then some (.lk ty z ok m k) else none
   |_,_=>none
  |_,_,_=>none
 | .mapUpdate t m k v | .insert t m k v=>match P.underlying t,bx P 0 m,bx P 0 k with
  |some (.map kt et),some m,some k=>match jO P kt,bx P et v with
   |some ty,some v=>some (.eT ty m k v)
   |_,_=>none
  |_,_,_=>none
 | .makeSlice t l l'=>match P.underlying t,bx P 0 l with
  |some (.slice e),some n=>match gj P e with
   |some z=>if xG l l'=true∧z.size=1∧P.cellsOf e=1 then some (.kj e (P.bytesOf e) z n) else none
   |none=>none
  |_,_=>none
 | .range t x=>match P.underlying t with
  |some (.map _ _)=>(bx P 0 x).map .jz
  |_=>none
 | .next x false=>(bx P 0 x).map .ic
 | .entry x=>(bx P 0 x).map .ent
 | .convert nj dst x=>match P.underlying nj,P.underlying dst,bx P 0 x with
  |some (.int _),some (.int k),some x=>some (.conv k x)
  |_,_,_=>none
 | .load t x=>match fQ P t,bx P 0 x with
  |some s,some x=>some (.ld s x)
  |_,_=>none
 | .fieldAddr t x f=>match P.underlying t,bx P 0 x with
  |some (.struct fs),some x=>match fs[f]? with
   |some fd=>if P.cellsOf fd.type=0 then none else some (.fa f fd.offset x)
   |none=>none
  |_,_=>none
 | .field t x f=>match P.underlying t,bx P 0 x with
  |some (.struct fs),some x=>match fs[f]? with
   |some fd=>(fQ P fd.type).map fun s=>.fl f fd.offset s x
   |none=>none
  |_,_=>none
 | .indexAddr t x i=>match P.underlying t,bx P 0 x,bx P 0 i with
  |some (.array n e),some x,some i=>if (P.info? e).isSome then some (.ia n (P.cellsOf e) x i) else none
  |some (.slice e),some x,some i=>if (P.info? e).isSome then some (.is (P.cellsOf e) x i) else none
  |_,_,_=>none
 | .index t x i=>match P.underlying t,bx P 0 x,bx P 0 i with
  |some (.array n e),some x,some i=>(fQ P e).map fun s=>.ix n (P.cellsOf e) s x i
  |_,_,_=>none
 | .slice t x lo hi mx=>match P.underlying t,bx P 0 x with
  |some (.array n e),some x=>match lo,hi,mx with
   |none,none,none=>if (P.info? e).isSome then some (.va n (P.cellsOf e) x) else none
   |_,_,_=>none
  |some (.slice e),some x=>match iw P lo,iw P hi,iw P mx with
   |some lo,some hi,some mx=>if (mx.isSome=true→hi.isSome=true)∧(P.info? e).isSome=true then some (.sl (P.cellsOf e) x lo hi mx) else none
   |_,_,_=>none
  |_,_=>none
 | .build t parts=>match gj P t,kM P parts.toList with
  |some (.agg zs),some ps=>match P.underlying t with
   |some (.struct fs)=>if (fs.toList.map fun f=>(f.offset,P.cellsOf f.type))=kW 0 zs∧(fs.all fun f=>(P.info? f.type).isSome)=true then some (.bld zs ps) else none
   |some (.array n e)=>if zs.length=n∧(zs.all fun z=>z.size==P.cellsOf e)=true∧(P.info? e).isSome=true then some (.bld zs ps) else none
   |_=>none
  |_,_=>none
 | .buildSlice t len parts=>match P.underlying t with
  |some (.slice e)=>match kM P parts.toList with
   |some ps=>if len=0∧parts = #[]∧(P.info? e).isSome=true then some (.bs0 (P.cellsOf e)) else if ps.map (·.1)=List.range len∧0<P.cellsOf e∧0<len∧len*P.cellsOf e≤16777216∧((P.info? e).bind (·.zero)).isSome=true then some (.bs e (P.cellsOf e) (ps.map (·.2))) else none
   |none=>none
  |_=>none
 | .extract x i=>(bx P 0 x).map fun x=>.ext x i
 | .makeFunc (.func f) first caps=>if f<1000000 then (if first.isEmpty then (j6 P caps.toList []).map (.mk f) else if caps.isEmpty then (j6 P first.toList []).map (.mk (f+1000000)) else none) else none
 | .alloc t=>(gj P t).map .alloc
 | .box t x=>(bx P t x).map .box
 | .store t x v=>match fQ P t,bx P 0 x,bx P t v with
  |some s,some x,some v=>if s.isSome=true∨P.cellsOf t=1 then some (.bd s x v) else none
  |_,_,_=>none
 | .call { callee:=.value (.func f),args,argTypes } =>if e8 P f then (j6 P args.toList argTypes.toList).map (.call f) else (j6 P args.toList argTypes.toList).map (.j5 f)
 | .call { callee:=.value x,args,argTypes } =>match bx P 0 x,j6 P args.toList argTypes.toList with
  |some x,some args=>some (.fH x args)
  |_,_=>none
 | .call { callee:=.builtin .len,args,argTypes } =>match args.toList,argTypes.toList with
  | [x],[t]=>match P.underlying t with
   |some (.slice _)=>(bx P t x).map .len
   |some .string=>(bx P t x).map .lenT
   |_=>none
  |_,_=>none
 | .call { callee:=.builtin .append,args,argTypes } =>match args.toList,argTypes.toList with
  | [s,x],[t,t']=>match P.underlying t,bx P t s,bx P t' x with
   |some (.slice e),some s,some x=>if t=t'∧0<P.cellsOf e∧(gj P e).map I.size=some (P.cellsOf e) then (gj P e).map fun z=>.dn e (P.cellsOf e) (P.bytesOf e) z s x else
    if qH (P.underlying t')=true∧0<P.cellsOf e∧(gj P e).map I.size=some (P.cellsOf e) then (gj P e).map fun z=>.lD e (P.cellsOf e) (P.bytesOf e) z s x else none
   |_,_,_=>none
  |_,_=>none
 | .call { callee:=.builtin .cap,args,argTypes } =>match args.toList,argTypes.toList with
  | [x],[t]=>match P.underlying t with
   |some (.slice _)=>(bx P t x).map .cap
   |_=>none
  |_,_=>none
 | .call { callee:=.builtin .clear,args,argTypes } =>match args.toList,argTypes.toList with
  | [x],[t]=>match P.underlying t,bx P t x with
   |some (.slice e),some x=>(gj P e).map fun z=>.jJ (P.cellsOf e) z x
   |_,_=>none
  |_,_=>none
 | .call { callee:=.builtin .copy,args,argTypes } =>match args.toList,argTypes.toList with
  | [x,y],[t,t']=>match P.underlying t,bx P t x,bx P t' y with
   |some (.slice e),some x,some y=>if t=t'∧(P.info? e).isSome=true then some (.kQ (P.cellsOf e) x y) else none
   |_,_,_=>none
  |_,_=>none
 | .call { callee:=.builtin .delete,args,argTypes } =>match args.toList,argTypes.toList with
  | [m,k],[t,_]=>match P.underlying t,bx P 0 m,bx P 0 k with
   |some (.map kt _),some m,some k=>(jO P kt).map fun ty=>.iC ty m k
   |_,_,_=>none
  |_,_=>none
 | .call { callee:=.builtin .max,args,.. } =>match args.toList with
  | [x,y]=>match bx P 0 x,bx P 0 y with
   |some x,some y=>some (.max2 x y)
   |_,_=>none
  |_=>none
 |_=>none
def dL(c:cV)(A:ai)(o:Oper)(x:I):Prop :=
 ∀ a w D E,aU c A a w D E→∃ v w' D',(execOp a.eval o).run c.P w=.ok (.value v) w'∧aU c A a w' D' E∧aZ w' D' E x v
section
variable {c:cV} {A:ai} {o:Oper} {x:I}
theorem dL.same(h:∀ a w D E,aU c A a w D E→∃ v,(execOp a.eval o).run c.P w=.ok (.value v) w∧aZ w D E x v):dL c A o x :=
 fun a w D E ab=>let ⟨v,J,U⟩:=h a w D E ab;⟨v,w,D,J,ab,U⟩
theorem BS{y:Operand}{z:aO}(ho:o.op=.move y∨o.op=.assign y)(hz:bx c.P o.type y=some z):dL c A o (ak A z) :=
 .same fun a w D E ab=>⟨a.eval y,by rcases ho with ho | ho <;>simp[execOp,ho],bX ab hz⟩
theorem Wb{q y z:Operand}{q' y' z':aO}{t:Bool}(ho:o.op=.pick q y z)(hq:bx c.P 0 q=some q')(hy:bx c.P o.type y=some y')(hz:bx c.P o.type z=some z')
  (ht:ak A q'=.bool t):dL c A o (if t then ak A y' else ak A z') :=
 .same fun a w D E ab=>by
  have J:=bX ab hq;rw[ht] at J;have U:=kv J;refine ⟨if t then a.eval y else a.eval z,by cases t <;>simp[execOp,ho,U,asBool],?_⟩;cases t
  ·exact bX ab hz
  ·exact bX ab hy
theorem xA{P:Program}{w:World}(op:BinOp)(t:TypeId)(x y:Operand){u v:Value}(hu:u.oneCell'=true)(hn:u≠.nilIface):(eqGuard op t x y u v).run P w=.ok () w:=by
 cases op <;>cases u <;>simp[Value.oneCell'] at hu <;>first | (exact absurd rfl hn) | (cases v <;>simp[eqGuard])
theorem GU{op:BinOp}{x y z:I}(h:cH op x y=some z){P:Program}{t:TypeId}{w:World}{D:aP}{E:aY}{u v:Value}(hx:aZ w D E x u)(hy:aZ w D E y v)(xo yo:Operand) :
  ∃ r,(do eqGuard op t xo yo u v;binOp op t u v:Sem Value).run P w=.ok r w∧aZ w D E z r:=by
 unfold cH at h;split at h
 ·rename_i k a k' b;obtain ⟨rfl,ha⟩:=eV hx;obtain ⟨rfl,hb⟩:=eV hy;have hg:∀ op,(eqGuard op t xo yo (.int k a) (.int k' b)).run P w=.ok () w:=fun op=>xA op t xo yo rfl (by simp);simp only[Sem.run_bind,hg,Result.andThen_ok];split at h
  ·split at h
   ·rename_i hb0;simp only[v6] at h;subst h;have:¬ b<0:=by omega
    exact ⟨_,by simp[binOp,Op.shift,this],jQ (pW _ _)⟩
   ·cases h
  ·split at h
   ·rename_i hb0;simp only[v6] at h;subst h;have:¬ b<0:=by omega
    exact ⟨_,by simp[binOp,Op.shift,this],jQ (MT _ _ _ ha)⟩
   ·cases h
  ·rename_i op J U;split at h
   ·rename_i hk;subst hk;split at h <;>first
     |(simp at h;done)
     |(simp only[v6] at h;subst h;exact ⟨_,by simp[binOp,Op.intArith,Op.intBits,Op.intCmp],jQ (pW _ _)⟩)
     |(simp only[v6] at h;subst h;exact ⟨_,by simp[binOp,Op.intCmp],nT _⟩)
     |(split at h
       ·cases h
       ·rename_i hb0;simp only[v6] at h;subst h
        first
         |exact ⟨_,by simp[binOp,Op.intDiv,hb0],jQ (pW _ _)⟩
         |exact ⟨_,by simp[binOp,Op.intDiv,hb0],jQ (ZI _ _ _ ha)⟩)
   ·cases h
 ·rename_i s s';obtain ⟨rfl,hs1⟩:=ng hx;obtain ⟨rfl,hs2⟩:=ng hy;have hg:∀ op,(eqGuard op t xo yo (.string s) (.string s')).run P w=.ok () w:=fun op=>xA op t xo yo rfl (by simp);simp only[Sem.run_bind,hg,Result.andThen_ok];split at h <;>first
   |(simp at h;done)
   |(simp only[v6] at h;subst h;exact ⟨_,by simp[binOp,Op.stringOp],nT _⟩)
   |(split at h
     ·rename_i aq;simp only[v6] at h;subst h;have hl':¬ (((s.size+s'.size:Nat):Int)>IntKind.i64.max):=by
       have e:IntKind.i64.max=9223372036854775807:=by simp[IntKind.max,IntKind.bits,IntKind.signed]
       rw[e];omega
      refine ⟨.string (s++s'),by simp only[binOp,Op.stringOp,if_neg hl',Sem.run_pure],?_⟩;exact ⟨_,by simp[bD,I.isAgg];rfl,by simp only[al,true_and];rw[ByteArray.size_append];unfold maxLen;omega⟩
     ·cases h)
 ·cases h
theorem BQ{op:BinOp}{t yt:TypeId}{y z:Operand}{y' z':aO}(ho:o.op=.binOp op t y z yt)(hy:bx c.P 0 y=some y')(hz:bx c.P 0 z=some z')(h:cH op (ak A y') (ak A z')=some x):dL c A o x :=
 .same fun a w D E ab=>by
  obtain ⟨r,J,U⟩:=GU h (P:=c.P) (t:=t) (bX ab hy) (bX ab hz) y z;exact ⟨r,by simp only[execOp,ho,Sem.run_bind] at *;rw[J];rfl,U⟩
theorem Wa{t:TypeId}{y:Operand}{y':aO}{b:Bool}(ho:o.op=.unOp .not t y)(hy:bx c.P 0 y=some y')(h:ak A y'=.bool b):dL c A o (.bool !b) :=
 .same fun a w D E ab=>by
  have J:=bX ab hy;rw[h] at J;exact ⟨.bool !b,by simp[execOp,ho,kv J,Op.unary],nT _⟩
theorem V9{t:TypeId}{y:Operand}{y':aO}{k:IntKind}{n:Int}(ho:o.op=.unOp .neg t y)(hy:bx c.P 0 y=some y')(h:ak A y'=.int k n):dL c A o (.int k (k.wrap (0-n))) :=
 .same fun a w D E ab=>by
  have J:=bX ab hy;rw[h] at J;exact ⟨.int k (k.wrap (0-n)),by simp[execOp,ho,(eV J).1,Op.unary,Op.intArith],jQ (pW _ _)⟩
theorem VR{t:TypeId}{y:Operand}{y':aO}{k:IntKind}{n:Int}(ho:o.op=.unOp .xor t y)(hy:bx c.P 0 y=some y')(h:ak A y'=.int k n):dL c A o (.int k (oV k n)) :=
 .same fun a w D E ab=>by
  have J:=bX ab hy;rw[h] at J;exact ⟨.int k (oV k n),by simp[execOp,ho,(eV J).1,Op.unary,Op.intBits,oV],jQ (pW _ _)⟩
theorem VQ{nj dst:TypeId}{y:Operand}{y':aO}{k k0 k1:IntKind}{n:Int}(ho:o.op=.convert nj dst y)(J:c.P.underlying nj=some (.int k0))(U:c.P.underlying dst=some (.int k))
  (hy:bx c.P 0 y=some y') (h:ak A y'=.int k1 n):dL c A o (.int k (k.wrap n)) :=
 .same fun a w D E ab=>by
  have ah:=bX ab hy;rw[h] at ah;exact ⟨.int k (k.wrap n),by simp[execOp,ho,(eV ah).1,convert,run_underlying J,run_underlying U,Conv.intToInt],jQ (pW _ _)⟩
theorem VU{y:Operand}{y':aO}{i:Nat}{fs:List I}(ho:o.op=.extract y i)(hy:bx c.P 0 y=some y')(h:ak A y'=.tuple fs)(hi:fs[i]?=some x):dL c A o x :=
 .same fun a w D E ab=>by
  have ah:=bX ab hy;rw[h] at ah;obtain ⟨vs,ar,h5⟩:=ah;have:∀ (fs:List I) (vs:List Value) (i:Nat),aI w D E fs vs→fs[i]?=some x→∃ v,vs[i]?=some v∧aZ w D E x v:=by
   intro fs
   induction fs with
   |nil=>intro vs i _ hi;simp at hi
   |cons f fs ih =>
    intro vs i hr hi;simp only[aI] at hr;obtain ⟨v,rest,cs,rfl,k1,k2,k3⟩:=hr;cases i with
    |zero =>
     simp only[List.getElem?_cons_zero,v6] at hi ⊢;subst hi;refine ⟨v,rfl,?_⟩;cases f <;>simp only[aZ] <;>first | (simp only[al] at k2;done) | exact ⟨cs,k1,k2⟩
    |succ i=>simpa using ih rest i k3 (by simpa using hi)
  obtain ⟨v,h6,h7⟩:=this fs vs i h5 hi;exact ⟨v,by simp[execOp,ho,ar,Instr.extract,h6],h7⟩
theorem ju{w:World}{D:aP}{E:aY}{x:I}{v:Value}{cs:List Value}(J:bD x v cs)(U:al w D E x cs):aZ w D E x v:=by
 cases x <;>simp only[aZ] <;>first | (simp only[al] at U;done) | exact ⟨cs,J,U⟩
theorem Fa{P:Program}{w:World}{t:TypeId}{s:Option Nat}(h:fQ P t=some s):(isAgg t).run P w=.ok s.isSome w:=by
 unfold fQ at h;unfold isAgg;cases hu:P.underlying t with
 |none=>simp[hu] at h
 |some d =>
  rw[Sem.run_bind,run_underlying hu w];cases d <;>simp_all <;>(subst h;rfl)
theorem wy{P:Program}{t:TypeId}{n:Nat}(h:fQ P t=some (some n)):n=P.cellsOf t:=by
 unfold fQ at h;split at h <;>simp_all
theorem wh{P:Program}{t:TypeId}{d:TypeDesc}(h:P.underlying t=some d):∃ i,P.info? t=some i:=by
 unfold Program.underlying at h;cases hi:P.info? t with
 |none=>simp[hi] at h
 |some i=>exact ⟨i,rfl⟩
theorem iM{P:Program}{w:World}{t:TypeId}{i:TypeInfo}(h:P.info? t=some i):(sizeOf t).run P w=.ok (P.cellsOf t) w:=by
 simp[sizeOf,typeInfo,h,Program.cellsOf]
theorem s9{P:Program}{t:TypeId}{s:Option Nat}(h:fQ P t=some s):∃ i,P.info? t=some i:=by
 unfold fQ at h;split at h
 ·rename_i fs hu;exact wh hu
 ·rename_i n e hu;exact wh hu
 ·rename_i d _ _ hu;exact wh hu
 ·cases h
theorem mz(b off j:Nat):(⟨b,off,none⟩:Addr).add j=⟨b,off+j,none⟩:=by unfold Addr.add;split <;>simp_all
theorem Fb{P:Program}{w:World}{D:aP}{E:aY}{t:TypeId}{s:Option Nat}{b off:Nat}{cs:List Value}{y:I}(hk:fQ P t=some s)(hok:cg s y=true)
  (hcs:∀ j u,cs[j]?=some u→w.cell? ⟨b,off+j,none⟩=some u) (hy:al w D E y cs):∃ v,(loadVar t ⟨b,off,none⟩).run P w=.ok v w∧aZ w D E y v:=by
 have hag:=Fa (w:=w) hk;cases s with
 |none =>
  simp only[cg,Bool.not_eq_true'] at hok;have aq:=al.length _ _ hy;have hsz:y.size=1:=by cases y <;>simp_all[I.isAgg,I.size]
  rw[hsz] at aq
  match cs,aq with
  | [v],_ =>
   have:=hcs 0 v rfl;rw[Nat.add_zero] at this;refine ⟨v,?_,CF hok hy⟩;simp only[loadVar,Sem.run_bind,hag,Result.andThen_ok,Option.isSome_none,Z2,if_false,run_load,this]
 |some n =>
  simp only[cg,t8,beq_iff_eq] at hok;obtain ⟨hag',hsz⟩:=hok;have hn:=wy hk;obtain ⟨i,hi⟩:=s9 hk;have aq:=al.length _ _ hy;refine ⟨.agg cs.toArray,?_,ju (by simp[bD,hag']) hy⟩;have hlc:=run_loadCells_list (P:=P) w ⟨b,off,none⟩ cs (fun j u hj=>by rw[mz];exact hcs j u hj);rw[aq,hsz,hn] at hlc;simp only[loadVar,Sem.run_bind,hag,Result.andThen_ok,Option.isSome_some,if_true,iM hi,hlc,Sem.run_pure]
theorem V4{t:TypeId}{y:Operand}{y':aO}{s:Option Nat}(ho:o.op=.load t y)(hk:fQ c.P t=some s)(hy:bx c.P 0 y=some y')(h:cM A (ak A y')=some x)(hok:cg s x=true):dL c A o x :=
 .same fun a w D E ab=>by
  obtain ⟨b,off,cs,J,U,ah⟩:=ab.yK (bX ab hy) h;obtain ⟨v,ar,h5⟩:=Fb hk hok U ah;exact ⟨v,by simp[execOp,ho,Instr.loadAt,J,Instr.sureAddr,ar],h5⟩
theorem tK{w:World}{D:aP}{b off:Nat}{c1 c2 c3:List Value}(h:reads w D b off (c1++c2++c3)):reads w D b (off+c1.length) c2:=by
 intro j v hj;have hjl:j<c2.length:=(Z6.1 hj).1;have:=h (c1.length+j) v (by rw[zz1,zx6 (by omega),Nat.add_sub_cancel_left,zz5 (by omega)];exact hj)
 rwa [←Nat.add_assoc] at this
theorem cR.tr:∀ (p:List Nat) (s:cR) (o i:Nat) (l:List cR),s.off p=some o→s.part p=some (.eI l)→i<l.length→s.off (p++[i])=some (o+cR.sizes (l.take i))
 | [],s,o,i,l,J,U,ah=>by
  simp only[cR.part,v6] at U;subst U;simp only[cR.off,v6] at J;subst J;simp[cR.off,zz4 ah]
 |k::p,.one,o,i,l,J,U,ah=>by simp[cR.part] at U
 |k::p,.eI m,o,i,l,J,U,ah=>by
  simp only[cR.off,cR.part,Z5] at *;cases hk:m[k]? with
  |none=>simp[hk] at U
  |some s =>
   simp only[hk] at J U ⊢;simp only[t7] at J;obtain ⟨o',ar,rfl⟩:=J;rw[cR.tr p s o' i l ar U ah];simp[Nat.add_assoc]
theorem ov{esz:Nat} : ∀ (fs:List I) (k:Nat),(∀ f∈fs,f.size=esz)→k≤fs.length→I.sizes (fs.take k)=k*esz:=by
 intro fs k h hk;rw[I.im _ (fun x hx=>h x (List.mem_of_mem_take hx))];simp[Nat.min_eq_left hk]
theorem ql{n esz:Nat}{fs:List I}(h:ja n esz fs=true):fs.length=n∧∀ f∈fs,f.size=esz:=by
 simp only[ja,t8,beq_iff_eq,zz6] at h;exact h
theorem E8{P:Program}{w:World}{t:TypeId}{f b off:Nat}{fs:Array Field}{fd:Field}(hu:P.underlying t=some (.struct fs))(hf:fs[f]?=some fd)(hz:¬ P.cellsOf fd.type=0) :
  (Instr.fieldAt t (.pointer (some ⟨b,off,none⟩)) f).run P w=.ok (.pointer (some ⟨b,off+fd.offset,none⟩)) w:=by
 have hi:∃ i,P.info? fd.type=some i:=by
  cases h:P.info? fd.type with
  |none=>simp[Program.cellsOf,h] at hz
  |some i=>exact ⟨i,rfl⟩
 obtain ⟨i,hi⟩:=hi;simp only[Instr.fieldAt,Sem.run_bind,run_underlying hu,Result.andThen_ok,hf,Instr.sureAddr,Sem.run_pure,fieldPlace,iM hi,Sem.run_ite,if_neg hz,mz]
theorem VW{t:TypeId}{y:Operand}{y':aO}{f:Nat}{fs:Array Field}{fd:Field}{gs:List I}(ho:o.op=.fieldAddr t y f)(hu:c.P.underlying t=some (.struct fs))(hf:fs[f]?=some fd)(hz:¬ c.P.cellsOf fd.type=0)
  (hy:bx c.P 0 y=some y') (h:ak A y'=.ref (.agg gs)) (hx:gs[f]?=some x) (hoff:I.sizes (gs.take f)=fd.offset):dL c A o (.ref x) :=
 .same fun a w D E ab=>by
  have J:=bX ab hy;rw[h] at J;obtain ⟨b,off,cs,U,ah,ar⟩:=pP J;simp only[al] at ar;obtain ⟨c1,c2,c3,rfl,k1,_,k2,_⟩:=l3 gs cs f x ar hx;refine ⟨_,by simp only[execOp,ho,U,Sem.run_bind,E8 hu hf hz];rfl,tj (cs:=c2) ?_ k2⟩;rw[←hoff,←k1];exact tK ah
theorem VV{t:TypeId}{y:Operand}{y':aO}{f n:Nat}{p:List Nat}{fs:Array Field}{fd:Field}{gs:List I}(ho:o.op=.fieldAddr t y f)(hu:c.P.underlying t=some (.struct fs))(hf:fs[f]?=some fd)(hz:¬ c.P.cellsOf fd.type=0)
  (hy:bx c.P 0 y=some y') (h:ak A y'=.ptr n p) (af:cM A (.ptr n p)=some (.agg gs)) (aq:f<gs.length) (hoff:I.sizes (gs.take f)=fd.offset):dL c A o (.ptr n (p++[f])) :=
 .same fun a w D E ab=>by
  have J:=bX ab hy;rw[h] at J;obtain ⟨b,aX,off,U,ah,ar⟩:=lg J;obtain ⟨z,b',cs,T,off',c1,c2,c3,k1,k2,_,k3,k4,k5,k6,k7,k8,k9,_⟩:=ab.at af;rw[k2] at U;simp only[v6,bM.aL.injEq] at U;obtain ⟨rfl,rfl⟩:=U;refine ⟨_,by simp only[execOp,ho,ar,Sem.run_bind,E8 hu hf hz];rfl,?_⟩;refine ⟨_,by simp[bD,I.isAgg];rfl,?_⟩;simp only[al];refine ⟨b',z.aX,off+fd.offset,k2,?_,rfl⟩;rw[cR.tr p z.aX off f _ ah (mj p z _ k4) (by rw[I.dy];simpa using aq),I.dy,←List.map_take,←I.dy,I.ml,hoff]
theorem E9{P:Program}{w:World}{t e:TypeId}{n b off:Nat}{kk:IntKind}{k:Int}{i:TypeInfo}(hu:P.underlying t=some (.array n e))(hi:P.info? e=some i)(hk:0≤k∧k<n) :
  (Instr.indexAt t (.pointer (some ⟨b,off,none⟩)) (.int kk k)).run P w=.ok (.pointer (some ⟨b,off+k.toNat*P.cellsOf e,none⟩)) w:=by
 simp[Instr.indexAt,asIntOf,run_underlying hu,Instr.sureAddr,hk,iM hi,mz]
theorem xB{P:Program}{w:World}{t e:TypeId}{n b off cap:Nat}{kk:IntKind}{k:Int}{i:TypeInfo}(hu:P.underlying t=some (.slice e))(hi:P.info? e=some i)(hk:0≤k∧k<n) :
  (Instr.indexAt t (.slice (some ⟨b,off,none⟩) n cap) (.int kk k)).run P w=.ok (.pointer (some ⟨b,off+k.toNat*P.cellsOf e,none⟩)) w:=by
 simp[Instr.indexAt,asIntOf,run_underlying hu,hk,iM hi,mz]
theorem VZ{t e:TypeId}{y z:Operand}{y' z':aO}{n:Nat}{i:TypeInfo}{gs:List I}{kk:IntKind}{k:Int}(ho:o.op=.indexAddr t y z)(hu:c.P.underlying t=some (.array n e))(hi:c.P.info? e=some i)
  (hy:bx c.P 0 y=some y') (hz:bx c.P 0 z=some z') (h:ak A y'=.ref (.agg gs)) (h':ak A z'=.int kk k) (hk:0≤k∧k<n) (hev:ja n (c.P.cellsOf e) gs=true) (hx:gs[k.toNat]?=some x):dL c A o (.ref x) :=
 .same fun a w D E ab=>by
  have J:=bX ab hy;rw[h] at J;have h1':=bX ab hz;rw[h'] at h1';obtain ⟨b,off,cs,U,ah,ar⟩:=pP J;simp only[al] at ar;obtain ⟨c1,c2,c3,rfl,k1,_,k2,_⟩:=l3 gs cs k.toNat x ar hx;obtain ⟨e1,e2⟩:=ql hev;have aq:k.toNat<gs.length:=(Z6.1 hx).1;refine ⟨_,by simp only[execOp,ho,U,(eV h1').1,Sem.run_bind,E9 hu hi hk];rfl,tj (cs:=c2) ?_ k2⟩;rw[←ov gs k.toNat e2 (by omega),←k1];exact tK ah
theorem VY{t e:TypeId}{y z:Operand}{y' z':aO}{n m:Nat}{p:List Nat}{i:TypeInfo}{gs:List I}{kk:IntKind}{k:Int}(ho:o.op=.indexAddr t y z)(hu:c.P.underlying t=some (.array n e))(hi:c.P.info? e=some i)
  (hy:bx c.P 0 y=some y') (hz:bx c.P 0 z=some z') (h:ak A y'=.ptr m p) (h':ak A z'=.int kk k) (hk:0≤k∧k<n) (af:cM A (.ptr m p)=some (.agg gs)) (hev:ja n (c.P.cellsOf e) gs=true):dL c A o (.ptr m (p++[k.toNat])) :=
 .same fun a w D E ab=>by
  have J:=bX ab hy;rw[h] at J;have h1':=bX ab hz;rw[h'] at h1';obtain ⟨b,aX,off,U,ah,ar⟩:=lg J;obtain ⟨zz,b',cs,T,off',c1,c2,c3,k1,k2,_,k3,k4,k5,k6,k7,k8,k9,_⟩:=ab.at af;rw[k2] at U;simp only[v6,bM.aL.injEq] at U;obtain ⟨rfl,rfl⟩:=U;obtain ⟨e1,e2⟩:=ql hev;have aq:k.toNat<gs.length:=by omega
  refine ⟨_,by simp only[execOp,ho,ar,(eV h1').1,Sem.run_bind,E9 hu hi hk];rfl,?_⟩;refine ⟨_,by simp[bD,I.isAgg];rfl,?_⟩;simp only[al];refine ⟨b',zz.aX,off+k.toNat*c.P.cellsOf e,k2,?_,rfl⟩;rw[cR.tr p zz.aX off k.toNat _ ah (mj p zz _ k4) (by rw[I.dy];simpa using aq),I.dy,←List.map_take,←I.dy,I.ml,ov gs _ e2 (by omega)]
theorem AU{w:World}{D:aP}{E:aY}{b off sz k:Nat}{cs:List Value}{es:List I}{x:I}(J:reads w D b off cs)(U:aN w D E es cs)(ah:∀ e∈es,e.size=sz)(hx:es[k]?=some x) :
  ∃ c2,reads w D b (off+k*sz) c2∧al w D E x c2:=by
 obtain ⟨c1,c2,c3,rfl,k1,_,k2,_⟩:=l3 es cs k x U hx;have aq:k<es.length:=(Z6.1 hx).1;refine ⟨c2,?_,k2⟩;rw[←ov es k ah (by omega),←k1];exact tK J
theorem V0{t e:TypeId}{y z:Operand}{y' z':aO}{i:TypeInfo}{es:List I}{kk:IntKind}{k:Int}(ho:o.op=.indexAddr t y z)(hu:c.P.underlying t=some (.slice e))(hi:c.P.info? e=some i)
  (hy:bx c.P 0 y=some y') (hz:bx c.P 0 z=some z') (h:ak A y'=.slice (c.P.cellsOf e) es) (h':ak A z'=.int kk k) (hk:0≤k∧k<es.length) (hx:es[k.toNat]?=some x):dL c A o (.ref x) :=
 .same fun a w D E ab=>by
  have J:=bX ab hy;rw[h] at J;have h1':=bX ab hz;rw[h'] at h1';obtain ⟨ad,cap,rfl',U,ah,ar,h5⟩:=nf J;rcases ar with ar | ⟨b,off,cs,rfl,h6,h7⟩
  ·subst ar;simp at hx
  obtain ⟨c2,k1,k2⟩:=AU h6 h7 h5 hx;exact ⟨_,by simp only[execOp,ho,rfl',(eV h1').1,Sem.run_bind,xB hu hi hk];rfl,tj k1 k2⟩
theorem aU.Zh{a:Act}{w:World}{D:aP}{E:aY}(h:aU c A a w D E){n sz b cap:Nat}{T:TypeId}{es:List I}(hn:A.o n=some (.bU T sz es))(aA:E n=some (.rw (some (b,cap)) es.length)) :
  aU c A a w (fun b' o=>D b' o∨(b'=b∧o<es.length*sz)) E:=by
 have hrow:=h.bU hn;obtain ⟨aJ,k1,k2,k3⟩:=hrow;rw[aA] at k1;simp only[v6,bM.rw.injEq,and_true] at k1;subst k1;obtain ⟨cs,pre,rest,k4,k5,k6,k7,k8,k9,k10,k11⟩:=k3;refine h.FG (fun _ _ af=>.inl af) ?_ ?_ ?_ ?_ ?_ ?_
 ·rintro b' o (af | ⟨rfl,_⟩) hlt
  ·exact h.c9 _ _ af hlt
  ·exact absurd k4 hlt
 ·rintro b' o (af | ⟨rfl,_⟩)
  ·exact h.aQ _ _ af
  ·exact fJ k5
 ·rintro m x b' hm hEm o (af | ⟨rfl,_⟩)
  ·obtain ⟨b2,cs2,sf,q1,q2,q3,q4,q5⟩:=h.box hm;rw[q1] at hEm;simp only[v6,bM.aL.injEq,and_true] at hEm;subst hEm;exact q5 o af
  ·have:=h.cQ m n _ _ b' hEm aA rfl rfl;subst this;rw[hm] at hn;cases hn
 ·rintro m T' sz' es' b' cap' hm hEm o (af | ⟨rfl,ho⟩)
  ·obtain ⟨aJ,q1,q2,q3⟩:=h.bU hm;rw[hEm] at q1;simp only[v6,bM.rw.injEq,and_true] at q1;subst q1;obtain ⟨cs',pre',rest',q4,q5,q6,q7,q8,q9,q10,q11⟩:=q3;have:=q11 o af
   rwa [aN.length _ _ q7,I.im _ q2] at this
  ·have:=h.cQ m n _ _ b' hEm aA rfl rfl;subst this;rw[hm] at hn;simp only[v6,ao.bU.injEq] at hn;obtain ⟨rfl,rfl,rfl⟩:=hn;exact ho
 ·rintro m T' xs b' cap' hm hEm o (af | ⟨rfl,ho⟩)
  ·obtain ⟨aJ,q1,_,q3⟩:=h.rV hm;rw[hEm] at q1;simp only[v6,bM.rw.injEq,and_true] at q1;subst q1;obtain ⟨_,_,_,_,_,_,_,_,q4⟩:=q3;exact q4 o af
  ·have:=h.cQ m n _ _ b' hEm aA rfl rfl;subst this;rw[hm] at hn;cases hn
 ·rintro m e' b' hE' hoth hblk o (af | ⟨rfl,_⟩)
  ·exact h.w8 hE' hoth hblk o af
  ·have:=h.cQ m n _ _ b' hE' aA hblk rfl;subst this;rw[hE'] at aA;cases aA;cases hoth
theorem aU.own{a:Act}{w:World}{D:aP}{E:aY}(h:aU c A a w D E){n sz:Nat}{T:TypeId}{es:List I}{v:Value}(hn:A.o n=some (.bU T sz es))(hv:aZ w D E (.own n es.length) v) :
  (es=[]∧E n=some (.rw none 0)∧v=.slice none 0 0) ∨
  ∃ b cap cs pre rest,E n=some (.rw (some (b,cap)) es.length)∧v=.slice (some ⟨b,0,none⟩) es.length cap∧c.eZ b∧w.heap[b]?=some (.cells cs T (0,0))∧cs.toList=pre++rest ∧
   aN w D E es pre∧cs.size=cap*sz∧es.length≤cap∧cap≤maxLen∧(∀ o,D b o→o<pre.length):=by
 obtain ⟨cs0,J,U⟩:=hv;simp only[al] at U;obtain ⟨aJ,l,ah,ar,_,h5⟩:=U;obtain ⟨blk',k1,k2,k3⟩:=h.bU hn;rw[k1] at ah;simp only[v6,bM.rw.injEq] at ah;obtain ⟨rfl,rfl⟩:=ah;have h5:=h5 rfl;cases blk' with
 |none =>
  simp only at k3 h5;subst k3;exact .inl ⟨rfl,k1,by simpa[bD,I.isAgg,h5] using J.symm⟩
 |some bc =>
  obtain ⟨b,cap⟩:=bc;simp only at h5;obtain ⟨cs,pre,rest,k4,k5,k6,k7,k8,k9,k10,k11⟩:=k3;exact .inr ⟨b,cap,cs,pre,rest,k1,by simpa[bD,I.isAgg,h5] using J.symm,k4,k5,k6,k7,k8,k9,k10,k11⟩
theorem V1{t e:TypeId}{y z:Operand}{y' z':aO}{i:TypeInfo}{es:List I}{n:Nat}{kk:IntKind}{k:Int}(ho:o.op=.indexAddr t y z)(hu:c.P.underlying t=some (.slice e))(hi:c.P.info? e=some i)
  (hy:bx c.P 0 y=some y') (hz:bx c.P 0 z=some z') (h:ak A y'=.own n es.length) {T:TypeId} (hn:A.o n=some (.bU T (c.P.cellsOf e) es)) (h':ak A z'=.int kk k) (hk:0≤k∧k<es.length) (hx:es[k.toNat]?=some x):dL c A o (.ref x):=by
 intro a w D E ab;have J:=bX ab hy;rw[h] at J;have h1':=bX ab hz;rw[h'] at h1';rcases ab.own hn J with ⟨rfl,_⟩ | ⟨b,cap,cs,pre,rest,k1,k2,k3,k4,k5,k6,k7,k8,k9,k10⟩
 ·simp at hx
 ·have hs':=ab.Zh hn k1;obtain ⟨aJ,q1,q2,_⟩:=ab.bU hn;have hpl:pre.length=es.length*c.P.cellsOf e:=by rw[aN.length _ _ k6,I.im _ q2]
  have hr:reads w (fun b' o=>D b' o∨(b'=b∧o<es.length*c.P.cellsOf e)) b 0 pre:=by
   have:=oc (D:=fun b' o=>D b' o∨(b'=b∧o<es.length*c.P.cellsOf e)) (c1:=[]) k4 (by simpa using k5) (fun o ho=>.inr ⟨rfl,by simp at ho;omega⟩);simpa using this
  have hrc:aN w (fun b' o=>D b' o∨(b'=b∧o<es.length*c.P.cellsOf e)) E es pre :=
   aN.later ⟨fun _ _ af=>.inl af,fun _ _ _ _ h=>h,fun _ _ _ h=>h,fun _ aJ l h=>⟨aJ,l,h,Z4 _,fun _=>rfl⟩,fun _ _ h=>h,fun _ _ h=>h,fun _ _ _ _ h=>h⟩ es pre k6
  obtain ⟨c2,q3,q4⟩:=AU hr hrc q2 hx;exact ⟨_,w,_,by simp only[execOp,ho,k2,(eV h1').1,Sem.run_bind,xB hu hi hk];rfl,hs',tj q3 q4⟩
end
section
variable {c:cV} {A:ai} {o:Oper} {x:I}
theorem oq{P:Program}{w:World}{D:aP}{E:aY}{t:TypeId}{s:Option Nat}{c1 c2 c3:List Value}{y:I}(hk:fQ P t=some s)(hok:cg s y=true)(hy:al w D E y c2) :
  ∃ v,(part t (c1++c2++c3).toArray c1.length).run P w=.ok v w∧aZ w D E y v:=by
 have hag:=Fa (w:=w) hk;have aq:=al.length _ _ hy;cases s with
 |none =>
  simp only[cg,Bool.not_eq_true'] at hok;have hsz:y.size=1:=by cases y <;>simp_all[I.isAgg,I.size]
  rw[hsz] at aq
  match c2,aq with
  | [v],_ =>
   refine ⟨v,?_,CF hok hy⟩;simp[part,hag]
 |some n =>
  simp only[cg,t8,beq_iff_eq] at hok;obtain ⟨hag',hsz⟩:=hok;have hn:=wy hk;obtain ⟨i,hi⟩:=s9 hk;refine ⟨.agg c2.toArray,?_,ju (by simp[bD,hag']) hy⟩;have e:((c1++c2++c3).toArray.extract c1.length (c1.length+P.cellsOf t))=c2.toArray:=by
   have:P.cellsOf t=c2.length:=by rw[aq,hsz,hn]
   rw[this];simp
  simp only[part,Sem.run_bind,hag,Result.andThen_ok,Option.isSome_some,if_true,iM hi,e,Sem.run_pure]
theorem VX{t:TypeId}{y:Operand}{y':aO}{f:Nat}{s:Option Nat}{fs:Array Field}{fd:Field}{gs:List I}(ho:o.op=.field t y f)(hu:c.P.underlying t=some (.struct fs))(hf:fs[f]?=some fd)(hk:fQ c.P fd.type=some s)
  (hy:bx c.P 0 y=some y') (h:ak A y'=.agg gs) (hx:gs[f]?=some x) (hoff:I.sizes (gs.take f)=fd.offset) (hok:cg s x=true):dL c A o x :=
 .same fun a w D E ab=>by
  have J:=bX ab hy;rw[h] at J;obtain ⟨cs,U,ar⟩:=je J;obtain ⟨c1,c2,c3,rfl,k1,_,k2,_⟩:=l3 gs cs f x ar hx;obtain ⟨v,k3,k4⟩:=oq (c1:=c1) (c3:=c3) hk hok k2;rw[k1,hoff] at k3;exact ⟨v,by simp only[execOp,ho,U,Instr.field,Sem.run_bind,run_underlying hu,Result.andThen_ok,hf,asAgg,Sem.run_pure,k3],k4⟩
theorem V3{t e:TypeId}{y z:Operand}{y' z':aO}{n:Nat}{s:Option Nat}{gs:List I}{kk:IntKind}{k:Int}(ho:o.op=.index t y z)(hu:c.P.underlying t=some (.array n e))(hk:fQ c.P e=some s)
  (hy:bx c.P 0 y=some y') (hz:bx c.P 0 z=some z') (h:ak A y'=.agg gs) (h':ak A z'=.int kk k) (hb:0≤k∧k<n) (hev:ja n (c.P.cellsOf e) gs=true) (hx:gs[k.toNat]?=some x) (hok:cg s x=true):dL c A o x :=
 .same fun a w D E ab=>by
  have J:=bX ab hy;rw[h] at J;have h1':=bX ab hz;rw[h'] at h1';obtain ⟨cs,U,ar⟩:=je J;obtain ⟨c1,c2,c3,rfl,k1,_,k2,_⟩:=l3 gs cs k.toNat x ar hx;obtain ⟨v,k3,k4⟩:=oq (c1:=c1) (c3:=c3) hk hok k2;obtain ⟨e1,e2⟩:=ql hev;obtain ⟨i,hi⟩:=s9 hk;have aq:k.toNat<gs.length:=(Z6.1 hx).1;rw[k1,ov gs k.toNat e2 (by omega)] at k3;exact ⟨v,by simp only[execOp,ho,U,(eV h1').1,Instr.index,Sem.run_bind,asIntOf,run_underlying hu,Result.andThen_ok,Sem.run_ite,if_pos hb,iM hi,Sem.run_pure,k3],k4⟩
theorem wG{n:Nat}(h:n≤maxLen):IntKind.i64.min≤(n:Int)∧(n:Int)≤IntKind.i64.max:=by
 simp only[IntKind.min,IntKind.max,IntKind.bits,IntKind.signed];unfold maxLen at h;simp;omega
theorem o8{ty:TypeId}{y:Operand}{y':aO}{n:Nat}{d:TypeDesc}(ho:o.op=.call { callee:=.builtin .len,args := #[y],argTypes := #[ty] })(hu:c.P.underlying ty=some d)(af:(∃ e,d=.slice e)∨d=.string)
  (hy:bx c.P ty y=some y') (h:∀ a w D E,aU c A a w D E→∀ v,aZ w D E (ak A y') v→n≤maxLen∧((∃ e,d=.slice e)→∃ ad cap,v=.slice ad n cap)∧(d=.string→∃ s,v=.string s∧s.size=n)):dL c A o (.int .i64 n) :=
 .same fun a w D E ab=>by
  obtain ⟨aW,J,U⟩:=h a w D E ab _ (bX ab hy);refine ⟨.int .i64 n,?_,jQ (wG aW)⟩;rcases af with ⟨e,rfl⟩ | rfl
  ·obtain ⟨ad,cap,hv⟩:=J ⟨e,rfl⟩;simp[execOp,ho,resolve,invoke,builtin,Builtin.len_,run_underlying hu,hv,goInt]
  ·obtain ⟨s,hv,ab⟩:=U rfl;simp[execOp,ho,resolve,invoke,builtin,Builtin.len_,run_underlying hu,hv,goInt,ab]
theorem Wf{t e:TypeId}{y:Operand}{y':aO}{n:Nat}{i:TypeInfo}{gs:List I}(ho:o.op=.slice t y none none none)(hu:c.P.underlying t=some (.array n e))(hi:c.P.info? e=some i)
  (hy:bx c.P 0 y=some y') (h:ak A y'=.ref (.agg gs)) (hev:ja n (c.P.cellsOf e) gs=true) (hn:n≤maxLen):dL c A o (.slice (c.P.cellsOf e) gs) :=
 .same fun a w D E ab=>by
  have J:=bX ab hy;rw[h] at J;obtain ⟨b,off,cs,U,ah,ar⟩:=pP J;simp only[al] at ar;obtain ⟨e1,e2⟩:=ql hev;by_cases aW:n=0
  ·exact ⟨.slice (some ⟨b,off,none⟩) 0 0,by simp[execOp,ho,U,Instr.sliceAt,run_underlying hu,Instr.sureAddr,Instr.sliceBounds,iM hi,aW],tk (by omega) (by omega) (by simp[maxLen]) (.inl (List.eq_nil_of_length_eq_zero (by omega))) e2⟩
  ·exact ⟨.slice (some ⟨b,off,none⟩) n n,by simp[execOp,ho,U,Instr.sliceAt,run_underlying hu,Instr.sureAddr,Instr.sliceBounds,iM hi,mz],tk e1.symm (Z4 _) hn (.inr ⟨b,off,cs,rfl,ah,ar⟩) e2⟩
theorem We{t e:TypeId}{y:Operand}{y':aO}{n m:Nat}{p:List Nat}{i:TypeInfo}{gs:List I}(ho:o.op=.slice t y none none none)(hu:c.P.underlying t=some (.array n e))(hi:c.P.info? e=some i)
  (hy:bx c.P 0 y=some y') (h:ak A y'=.ptr m p) (af:cM A (.ptr m p)=some (.agg gs)) (hev:ja n (c.P.cellsOf e) gs=true) (hn:n≤maxLen) (hn0:n≠0):dL c A o (.view m p (c.P.cellsOf e) 0 n) :=
 .same fun a w D E ab=>by
  have J:=bX ab hy;rw[h] at J;obtain ⟨b,aX,off,U,ah,ar⟩:=lg J;obtain ⟨zz,b',cs,T,off',c1,c2,c3,k1,k2,_,k3,k4,k5,k6,k7,k8,k9,_⟩:=ab.at af;rw[k2] at U;simp only[v6,bM.aL.injEq] at U;obtain ⟨rfl,rfl⟩:=U;obtain ⟨e1,e2⟩:=ql hev;refine ⟨.slice (some ⟨b',off,none⟩) n n,by simp[execOp,ho,ar,Instr.sliceAt,run_underlying hu,Instr.sureAddr,Instr.sliceBounds,iM hi,mz],?_⟩;refine ⟨_,by simp[bD,I.isAgg];rfl,?_⟩;simp only[al];refine ⟨b',zz.aX,off,I.c7 gs,k2,ah,mj p zz _ k4,?_,?_,?_,?_⟩
  ·rw[I.dy,Z8,e1];simp
  ·rw[I.dy,Z8,e1];exact hn
  ·rw[I.dy,Z8,e1];omega
  ·rw[I.dy];intro s hs';obtain ⟨f,hf,rfl⟩:=zy1.1 hs';rw[I.ln];exact e2 f hf
theorem YE{w:World}{D:aP}{E:aY}{b off sz:Nat}{cs:List Value}{es:List I}(J:reads w D b off cs)(U:aN w D E es cs)(ah:∀ e∈es,e.size=sz)(l h:Nat)(aq:l≤h)(bH:h≤es.length) :
  ∃ c2,reads w D b (off+l*sz) c2∧aN w D E ((es.take h).drop l) c2:=by
 have hspl:∀ (xs ys:List I) (cs:List Value),aN w D E (xs++ys) cs→∃ c1 c2,cs=c1++c2∧aN w D E xs c1∧aN w D E ys c2:=by
  intro xs
  induction xs with
  |nil=>intro ys cs hr;exact ⟨[],cs,rfl,by simp[aN],hr⟩
  |cons x xs ih =>
   intro ys cs hr;simp only[Z5,aN] at hr;obtain ⟨d1,d2,rfl,k1,k2⟩:=hr;obtain ⟨e1,e2,rfl,k3,k4⟩:=ih ys d2 k2;exact ⟨d1++e1,e2,by simp,by simp only[aN];exact ⟨d1,e1,rfl,k1,k3⟩,k4⟩
 have e1:es=es.take l++((es.take h).drop l++es.drop h):=by
  rw[←zz1]
  conv=>lhs;rw[←List.take_append_drop h es]
  congr 1
  rw[←List.ZG l h es aq]
 rw[e1] at U;obtain ⟨c1,c',rfl,k1,k2⟩:=hspl _ _ _ U;obtain ⟨c2,c3,rfl,k3,k4⟩:=hspl _ _ _ k2;refine ⟨c2,?_,k3⟩;rw[←ov es l ah (by omega),←aN.length _ _ k1];rw[←zz1] at J;exact tK J
 where
 List.ZG {α:Type} (l h:Nat) (es:List α) (aq:l≤h):es.take h=es.take l++(es.take h).drop l:=by
  conv=>lhs;rw[←List.take_append_drop l (es.take h)]
  rw[List.take_take,Nat.min_eq_left aq]
def ij(w:World)(D:aP)(E:aY)(x:Option I)(v:Option Value):Prop:=match x,v with
 |none,none=>True
 |some x,some v=>aZ w D E x v
 |_,_=>False
theorem HW{x:I}{d n:Int}(h:jk (some x) d=some n):∃ k,x=.int k n:=by
 cases x <;>simp[jk] at h
 subst h;exact ⟨_,rfl⟩
theorem rl{w:World}{D:aP}{E:aY}{x:Option I}{v:Option Value}{d n:Int}(h:ij w D E x v)(hb:jk x d=some n) :
  (x=none∧v=none∧d=n)∨(x.isSome=true∧∃ k,v=some (.int k n)):=by
 cases x with
 |none =>
  cases v with
  |some _=>simp[ij] at h
  |none=>simp only[jk,v6] at hb;exact .inl ⟨rfl,rfl,hb⟩
 |some x =>
  cases v with
  |none=>simp[ij] at h
  |some v =>
   obtain ⟨k,rfl⟩:=HW hb;simp only[ij] at h;exact .inr ⟨rfl,k,by rw[(eV h).1]⟩
theorem xC{P:Program}{w:World}{D:aP}{E:aY}{t e:TypeId}{i:TypeInfo}{sz:Nat}{es:List I}{lo hi mx:Option I}{vlo vhi vmx:Option Value}{x:I}{ad:Option Addr}{cap:Nat}
  (hu:P.underlying t=some (.slice e)) (hi':P.info? e=some i) (hsz:sz=P.cellsOf e) (hmh:mx.isSome=true→hi.isSome=true)
  (J:ij w D E lo vlo) (U:ij w D E hi vhi) (ah:ij w D E mx vmx) (hx:iP sz es lo hi mx=some x)
  (hcap:es.length≤cap) (hcm:cap≤maxLen) (hes:es=[]∨∃ b off cs,ad=some ⟨b,off,none⟩∧reads w D b off cs∧aN w D E es cs) (hall:∀ e∈es,e.size=sz) :
  ∃ v,(Instr.sliceAt t (.slice ad es.length cap) vlo vhi vmx).run P w=.ok v w∧aZ w D E x v:=by
 unfold iP at hx;split at hx
 ·cases hx
 rename_i h bH;split at hx
 ·cases hx
 rename_i m hm;split at hx
 ·cases hx
 rename_i l aq;split at hx
 case isFalse=>cases hx
 rename_i hb;obtain ⟨b1,b2,b3,b4⟩:=hb;have sb:∀ (k:IntKind) (n:Int) (y:Nat) (code:BoundsCode),0≤n→n≤y→(Instr.sliceBound (.int k n) y code).run P w=.ok n.toNat w:=fun k n y code g1 g2=>by
  simp[Instr.sliceBound,asIntOf,g1,g2]
 -- the bounds that the program finds
 have key:∃ m':Nat,es.length≤cap∧m'≤cap∧h.toNat≤m'∧(mx.isSome=true→m'=m.toNat)∧(mx=none→m'=cap) ∧
   (Instr.sliceBounds true es.length cap vlo vhi vmx).run P w=.ok (l.toNat,h.toNat,m') w:=by
  have c1:=rl J aq;have c2:=rl U bH;have c3:=rl ah hm;clear J U ah;rcases c3 with ⟨rfl,rfl,hm3⟩ | ⟨s3,k3,rfl⟩
  ·refine ⟨cap,hcap,Z4 _,by omega,fun e=>(by cases e),fun _=>rfl,?_⟩;rcases c2 with ⟨rfl,rfl,hm2⟩ | ⟨s2,k2,rfl⟩ <;>rcases c1 with ⟨rfl,rfl,hm1⟩ | ⟨s1,k1,rfl⟩
   ·subst hm1 hm2;simp[Instr.sliceBounds]
   ·subst hm2;simp[Instr.sliceBounds,sb k1 l es.length _ b1 (by omega)]
   ·subst hm1;simp[Instr.sliceBounds,sb k2 h cap _ (by omega) (by omega)]
   ·simp[Instr.sliceBounds,sb k2 h cap _ (by omega) (by omega),sb k1 l h.toNat _ b1 (by omega)]
  ·refine ⟨m.toNat,hcap,by omega,by omega,fun _=>rfl,fun e=>(by rw[e] at s3;cases s3),?_⟩;rcases c2 with ⟨rfl,rfl,hm2⟩ | ⟨s2,k2,rfl⟩
   ·simp[s3] at hmh
   ·rcases c1 with ⟨rfl,rfl,hm1⟩ | ⟨s1,k1,rfl⟩
    ·subst hm1;simp[Instr.sliceBounds,sb k3 m cap _ (by omega) (by omega),sb k2 h m.toNat _ (by omega) (by omega)]
    ·simp[Instr.sliceBounds,sb k3 m cap _ (by omega) (by omega),sb k2 h m.toNat _ (by omega) (by omega),sb k1 l h.toNat _ b1 (by omega)]
 obtain ⟨m',g1,g2,g3,g4,g5,hsb⟩:=key;have hrun:(Instr.sliceAt t (.slice ad es.length cap) vlo vhi vmx).run P w =
   .ok (.slice (if m'=l.toNat then ad else ad.map (·.add (l.toNat*P.cellsOf e))) (h.toNat-l.toNat) (m'-l.toNat)) w:=by
  simp only[Instr.sliceAt,Instr.slice,Sem.run_bind,run_underlying hu,Result.andThen_ok,hsb,iM hi',Sem.run_pure]
 refine ⟨_,hrun,?_⟩;split at hx
 ·rename_i hc;simp only[v6] at hx;subst hx;have e1:m'=l.toNat:=by rw[g4 hc.1,hc.2]
  have e2:h.toNat-l.toNat=0:=by omega
  rw[if_pos e1,e2,e1,Nat.sub_self];exact ⟨_,by simp[bD,I.isAgg];rfl,by simp only[al];exact ⟨ad,rfl⟩⟩
 ·simp only[v6] at hx;subst hx;have hlen:((es.take h.toNat).drop l.toNat).length=h.toNat-l.toNat:=by simp;omega
  refine tk hlen.symm (by omega) (by omega) ?_ (fun y hy=>hall y (List.mem_of_mem_take (List.mem_of_mem_drop hy)));by_cases hz:h.toNat=l.toNat
  ·left;exact List.eq_nil_of_length_eq_zero (by omega)
  ·right
   rw[if_neg (by omega)];rcases hes with rfl | ⟨b,off,cs,rfl,q1,q2⟩
   ·simp at b4 g3;omega
   ·obtain ⟨c2,q3,q4⟩:=YE q1 q2 hall l.toNat h.toNat (by omega) (by omega);exact ⟨b,off+l.toNat*sz,c2,by simp[mz,hsz],q3,q4⟩
theorem we{t e:TypeId}{y:Operand}{y':aO}{lo hi mx:Option Operand}{lo' hi' mx':Option aO}{i:TypeInfo}{es:List I}(ho:o.op=.slice t y lo hi mx)(hu:c.P.underlying t=some (.slice e))(hi0:c.P.info? e=some i)
  (hy:bx c.P 0 y=some y') (J:iw c.P lo=some lo') (U:iw c.P hi=some hi') (ah:iw c.P mx=some mx') (hmh:mx'.isSome=true→hi'.isSome=true)
  (h:ak A y'=.slice (c.P.cellsOf e) es∨(ak A y'=.nils (c.P.cellsOf e)∧es=[])∨(ak A y'=.c0 (c.P.cellsOf e)∧es=[])) (hx:iP (c.P.cellsOf e) es (lo'.map (ak A)) (hi'.map (ak A)) (mx'.map (ak A))=some x):dL c A o x :=
 .same fun a w D E ab=>by
  have opt:∀ {q:Option Operand} {q':Option aO},iw c.P q=some q'→ij w D E (q'.map (ak A)) (q.map a.eval):=by
   intro q q' hq;cases q with
   |none=>simp only[iw,v6] at hq;subst hq;simp[ij]
   |some z =>
    simp only[iw,t7] at hq;obtain ⟨z',hz,rfl⟩:=hq;simpa[ij] using bX ab hz
  have aW:=bX ab hy;have hmh':(mx'.map (ak A)).isSome=true→(hi'.map (ak A)).isSome=true:=by simpa using hmh
  rcases h with h | ⟨h,rfl⟩ | ⟨h,rfl⟩
  ·rw[h] at aW;obtain ⟨ad,cap,e1,e2,e3,e4,e5⟩:=nf aW;obtain ⟨v,k1,k2⟩:=xC hu hi0 rfl hmh' (opt J) (opt U) (opt ah) hx e2 e3 e4 e5;exact ⟨v,by simp only[execOp,ho,e1,Sem.run_bind,k1];rfl,k2⟩
  ·rw[h] at aW;obtain ⟨cs,q1,q2⟩:=aW;simp only[al] at q2;have e1:a.eval y=.slice none ([]:List I).length 0:=by simpa[bD,I.isAgg,q2] using q1.symm
   obtain ⟨v,k1,k2⟩:=xC (ad:=none) (cap:=0) hu hi0 rfl hmh' (opt J) (opt U) (opt ah) hx (by simp) (by simp[maxLen]) (.inl rfl) (by simp);exact ⟨v,by simp only[execOp,ho,e1,Sem.run_bind,k1];rfl,k2⟩
  ·rw[h] at aW;obtain ⟨cs,q1,q2⟩:=aW;simp only[al] at q2;obtain ⟨ad,q2⟩:=q2;have e1:a.eval y=.slice ad ([]:List I).length 0:=by simpa[bD,I.isAgg,q2] using q1.symm
   obtain ⟨v,k1,k2⟩:=xC (ad:=ad) (cap:=0) hu hi0 rfl hmh' (opt J) (opt U) (opt ah) hx (by simp) (by simp[maxLen]) (.inl rfl) (by simp);exact ⟨v,by simp only[execOp,ho,e1,Sem.run_bind,k1];rfl,k2⟩
end
inductive fE {α β:Type} (R:α→β→Prop):List α→List β→Prop where
 |nil:fE R [] []
 |cons {x:α} {y:β} {xs:List α} {ys:List β} : R x y→fE R xs ys→fE R (x::xs) (y::ys)
section
variable {c:cV} {A:ai} {o:Oper} {x:I}
theorem YD{w:World}{D:aP}{E:aY}{xs:List I}{cs ds:List Value}{i:Nat}{x y:I}(h:aN w D E xs cs)(hx:xs[i]?=some x)(hy:al w D E y ds)(ab:y.size=x.size) :
  I.sizes (xs.take i)+ds.length≤cs.length∧aN w D E (xs.set i y) (cs.take (I.sizes (xs.take i))++ds++cs.drop (I.sizes (xs.take i)+ds.length)):=by
 obtain ⟨c1,c2,c3,rfl,J,U,ah,ar⟩:=l3 xs cs i x h hx;have hi:i<xs.length:=(Z6.1 hx).1;have aq:ds.length=c2.length:=by rw[al.length _ _ hy,al.length _ _ ah,ab]
 refine ⟨by simp only[Z7,J];omega,?_⟩;have e1:xs.set i y=xs.take i++y::xs.drop (i+1):=by rw[List.set_eq_take_append_cons_drop];simp[hi]
 have e2:(c1++c2++c3).take (I.sizes (xs.take i))++ds++(c1++c2++c3).drop (I.sizes (xs.take i)+ds.length)=c1++(ds++c3):=by
  rw[←J,aq,zz1 c1 c2 c3,List.take_left,List.drop_length_add_append,List.drop_left,zz1]
 rw[e1,e2];refine jW _ _ _ _ U ?_;simp only[aN];exact ⟨ds,c3,rfl,hy,ar⟩
theorem Na(off:Nat)(l:List Value)(cs:Array Value)(h:off+l.length≤cs.size) :
  ((l.zipIdx 0).foldl (fun cs (x:Value×Nat)=>cs.setIfInBounds (off+x.2) x.1) cs).toList=cs.toList.take off++l++cs.toList.drop (off+l.length):=by
 obtain ⟨J,U⟩:=Great.foldl_set off l 0 cs;apply List.ext_getElem?;intro k;rw[zx1,U k];simp only[Nat.add_zero,zz1];by_cases hk:k<off
 ·rw[if_neg (by omega),zz5 (by simp;omega)];simp[hk]
 ·rw[zx6 (by simp;omega)];simp only[zy9,zy2,Nat.min_eq_left (show off≤cs.size by omega)];by_cases hk2:k<off+l.length
  ·rw[if_pos ⟨by omega,by omega,by omega⟩,zz5 (by omega)]
  ·rw[if_neg (by omega),zx6 (by omega)];simp only[List.getElem?_drop,zx1]
   congr 1
   omega
theorem vE{w:World}{D:aP}{E:aY}(pl:Nat→Option (Nat×Nat)):∀ (ps:List (Nat×I)) (vs:List (Nat×Value)) (zs zs':List I) (cells:Array Value),
  (∀ i z,zs[i]?=some z→pl i=some (I.sizes (zs.take i),z.size))→aN w D E zs cells.toList→dQ zs ps=some zs' →
  fE (fun (p:Nat×I) (v:Nat×Value)=>p.1=v.1∧aZ w D E p.2 v.2) ps vs →
  ∃ cells',Instr.fill pl cells vs=some cells'∧aN w D E zs' cells'.toList
 | [],vs,zs,zs',cells,hp,hr,ab,hf=>by
  cases hf;simp only[dQ,v6] at ab;subst ab;exact ⟨cells,rfl,hr⟩
 |(i,y)::ps,vs,zs,zs',cells,hp,hr,ab,hf=>by
  cases hf with
  |cons J U =>
   rename_i v vs;obtain ⟨j,u⟩:=v;simp only at J;obtain ⟨rfl,hv⟩:=J;simp only[dQ] at ab;split at ab
   ·rename_i z hz;split at ab
    ·rename_i hsz;obtain ⟨hval,hsz⟩:=hsz;obtain ⟨ds,k1,k2⟩:∃ ds,bD y u ds∧al w D E y ds:=by
      cases y <;>simp[I.bT] at hval <;>exact hv
     have hcells:=k1.cells k2;have hds:u.cells.size=z.size:=by rw[←zy2,hcells,al.length _ _ k2,hsz]
     obtain ⟨k3,k4⟩:=YD hr hz k2 hsz;have hcl:cells.toList.length=cells.size:=zy2;have aq:ds.length=u.cells.size:=by rw[←hcells,zy2]
     have hp':∀ k z',(zs.set i y)[k]?=some z'→pl k=some (I.sizes ((zs.set i y).take k),z'.size):=by
      intro k z' hk;have hil:i<zs.length:=(Z6.1 hz).1;have hsizes:∀ k,I.sizes ((zs.set i y).take k)=I.sizes (zs.take k):=by
       intro k;have gen:∀ (zs:List I) (i k:Nat) (z:I),zs[i]?=some z→z.size=y.size→I.sizes ((zs.set i y).take k)=I.sizes (zs.take k):=by
        intro zs
        induction zs with
        |nil=>intro i k z hz _;simp at hz
        |cons q qs ih =>
         intro i k z hz he;cases k with
         |zero=>simp
         |succ k =>
          cases i with
          |zero =>
           simp only[List.getElem?_cons_zero,v6] at hz;subst hz;simp[I.sizes,he]
          |succ i =>
           simp only[List.set_cons_succ,zy5,I.sizes,ih i k z (by simpa using hz) he]
       exact gen zs i k z hz hsz.symm
      rw[hsizes];rw[List.getElem?_set] at hk;split at hk
      ·rename_i hik;subst hik;simp only[v6] at hk;subst hk;rw[hp i z hz,hsz]
      ·exact hp k z' hk
     have hfold:=Na (I.sizes (zs.take i)) u.cells.toList cells (by rw[hcells];omega);rw[hcells] at hfold;obtain ⟨cells',k5,k6⟩:=vE pl ps vs (zs.set i y) zs' ((u.cells.toList.zipIdx 0).foldl (fun cs (x:Value×Nat)=>cs.setIfInBounds (I.sizes (zs.take i)+x.2) x.1) cells) hp'
      (by rw[hcells,hfold];exact k4) ab U
     refine ⟨cells',?_,k6⟩;unfold Instr.fill;simp only[hp i z hz];rw[if_neg (by simp[hds];omega)];rw[←k5]
     congr 1
     rw[←Array.foldl_toList,Array.toList_zipIdx]
    ·cases ab
   ·cases ab
theorem C7{a:Act}{w:World}{D:aP}{E:aY}(ab:aU c A a w D E){P:Program} : ∀ (ps:List (Nat×Operand)) (qs:List (Nat×aO)),kM P ps=some qs →
  fE (fun (p:Nat×I) (v:Nat×Value)=>p.1=v.1∧aZ w D E p.2 v.2) (qs.map fun p=>(p.1,ak A p.2)) (ps.map fun p=>(p.1,a.eval p.2))
 | [],qs,h=>by simp[kM] at h;subst h;exact .nil
 |(i,x)::ps,qs,h=>by
  simp only[kM,List.mapM_cons,Option.bind_eq_bind,Option.pure_def,zx9,t7,v6] at h;obtain ⟨_,⟨y,hy,rfl⟩,qs',hq,rfl⟩:=h;exact .cons ⟨rfl,bX ab hy⟩ (C7 ab ps qs' hq)
theorem BR{t:TypeId}{parts:Array (Nat×Operand)}{ps:List (Nat×aO)}{zs zs':List I}(ho:o.op=.build t parts)(hz:gj c.P t=some (.agg zs))(hp:kM c.P parts.toList=some ps)
  (hpl:(∃ fs,c.P.underlying t=some (.struct fs)∧(fs.toList.map fun f=>(f.offset,c.P.cellsOf f.type))=kW 0 zs∧(fs.all fun f=>(c.P.info? f.type).isSome)=true) ∨
   (∃ n e,c.P.underlying t=some (.array n e)∧zs.length=n∧(zs.all fun z=>z.size==c.P.cellsOf e)=true∧(c.P.info? e).isSome=true))
  (h:dQ zs (ps.map fun p=>(p.1,ak A p.2))=some zs'):dL c A o (.agg zs') :=
 .same fun a w D E ab=>by
  obtain ⟨i,z,hi,hzv,hzr⟩:=lz hz;have hzr:=hzr w D E;simp only[al] at hzr;have hparts:=C7 ab parts.toList ps hp;have hmap:(parts.map fun (q:Nat×Operand)=>(q.1,a.eval q.2)).toList=parts.toList.map fun p=>(p.1,a.eval p.2):=by simp
  rcases hpl with ⟨fs,hu,hoffs,hinfo⟩ | ⟨n,e,hu,hn,hev,hinfo⟩
  ·have hpl:∀ i z,zs[i]?=some z→(kW 0 zs)[i]?=some (I.sizes (zs.take i),z.size):=by
    intro i z hiz;rw[Da,hiz];simp
   obtain ⟨cells',k1,k2⟩:=vE ((kW 0 zs)[·]?) _ _ zs zs' z.cells hpl hzr h hparts;have hm:fs.toList.mapM (fun f=>(c.P.info? f.type).map fun i=>(f.offset,i.size))=some (kW 0 zs):=by
    rw[←hoffs];have hall:∀ f∈fs.toList,(c.P.info? f.type).isSome=true:=fun f hf=>by
     have:=(Array.all_eq_true_iff_forall_mem.1 hinfo) f (by simpa using hf);exact this
    revert hall;generalize fs.toList=l;intro hall
    induction l with
    |nil=>rfl
    |cons f l ih =>
     obtain ⟨j,hj⟩:=zz9.1 (hall f (by simp));simp only[List.mapM_cons,Option.bind_eq_bind,hj,zz0,Option.bind_some,ih (fun g hg=>hall g (by simp[hg])),Option.pure_def,Z3,Program.cellsOf,Option.getD_some]
   have hb:c.P.built t (parts.map fun (q:Nat×Operand)=>(q.1,a.eval q.2)).toList=some cells':=by
    unfold Program.built;simp only[hi,hu,hzv,hm];rw[hmap,←k1]
    congr 1
    funext k
    simp
   exact ⟨.agg cells',by simp only[execOp,ho,Sem.run_bind,run_build w t _ _ hb];rfl,by have:=CE k2;simpa using this⟩
  ·obtain ⟨ie,hie⟩:=zz9.1 hinfo;have hev':∀ z∈zs,z.size=ie.size:=fun z hz=>by
    have:=zz6.1 hev z hz;simpa[Program.cellsOf,hie] using this
   have hpl:∀ i z,zs[i]?=some z→(fun i=>some (i*ie.size,ie.size)) i=some (I.sizes (zs.take i),z.size):=by
    intro i z hiz;have aq:i<zs.length:=(Z6.1 hiz).1;rw[ov zs i hev' (by omega),hev' z (List.mem_of_getElem? hiz)]
   obtain ⟨cells',k1,k2⟩:=vE (fun i=>some (i*ie.size,ie.size)) _ _ zs zs' z.cells hpl hzr h hparts;have hb:c.P.built t (parts.map fun (q:Nat×Operand)=>(q.1,a.eval q.2)).toList=some cells':=by
    unfold Program.built;simp only[hi,hu,hzv,hie];rw[hmap,←k1]
   exact ⟨.agg cells',by simp only[execOp,ho,Sem.run_bind,run_build w t _ _ hb];rfl,by have:=CE k2;simpa using this⟩
theorem kL{a:Act}{w:World}{D:aP}{E:aY}(ab:aU c A a w D E){P:Program} : ∀ (xs:List Operand) (ts:List TypeId) (ys:List aO),j6 P xs ts=some ys →
  fE (aZ w D E) (ys.map (ak A)) (xs.map a.eval)
 | [],_,ys,h=>by simp[j6] at h;subst h;exact .nil
 |x::xs,ts,ys,h=>by
  simp only[j6] at h;split at h
  ·rename_i y ys' J U;simp only[v6] at h;subst h;exact .cons (bX ab J) (kL ab xs _ ys' U)
  ·cases h
theorem lh{w:World}{D:aP}{E:aY} : ∀ (xs:List I) (vs:List Value),fE (aZ w D E) xs vs→(∀ x∈xs,x.bT=true)→aI w D E xs vs
 | [],vs,h,_=>by cases h;simp[aI]
 |x::xs,vs,h,hv=>by
  cases h with
  |cons J U =>
   rename_i v vs;have hx:=hv x (by simp);obtain ⟨cs,k1,k2⟩:∃ cs,bD x v cs∧al w D E x cs:=by
    cases x <;>simp[I.bT] at hx <;>exact J
   simp only[aI];exact ⟨v,vs,cs,rfl,k1,k2,lh xs vs U (fun y hy=>hv y (by simp[hy]))⟩
theorem qu{aL:Bool}{B:ai} : ∀ {xs ys:List I},b8 aL B xs=some ys→∀ x∈xs,x.bT=true
 | [],ys,_,x,hx=>by simp at hx
 |y::xs,ys,h,x,hx=>by
  simp only[b8] at h;split at h
  ·rename_i z zs J U;rcases zw5.1 hx with rfl | hx
   ·cases x <;>simp_all[bj,I.bT]
   ·exact qu U x hx
  ·cases h
theorem V6{f:FuncId}(hf:f<1000000){caps:Array Operand}{ys:List aO}(ho:o.op=.makeFunc (.func f) #[] caps)(hc:j6 c.P caps.toList []=some ys)(hv:∀ y∈ys,(ak A y).bT=true):dL c A o (.func f (ys.map (ak A))) :=
 .same fun a w D E ab=>by
  have h:=lh _ _ (kL ab caps.toList [] ys hc) (by simpa using hv);have e:caps.map a.eval=(caps.toList.map a.eval).toArray:=by apply Array.ext';simp
  refine ⟨.func (.func f) #[] (caps.toList.map a.eval).toArray,by simp[execOp,ho,Instr.makeFunc,e],⟨_,by simp[bD,I.isAgg];rfl,?_⟩⟩;simp only[al];exact ⟨_,by rw[mG hf],h⟩
theorem V7{f:FuncId}{first:Array Operand}{ys:List aO}(ho:o.op=.makeFunc (.func f) first #[])(hc:j6 c.P first.toList []=some ys)(hv:∀ y∈ys,(ak A y).bT=true):dL c A o (.func (f+1000000) (ys.map (ak A))) :=
 .same fun a w D E ab=>by
  have h:=lh _ _ (kL ab first.toList [] ys hc) (by simpa using hv);have e:first.map a.eval=(first.toList.map a.eval).toArray:=by apply Array.ext';simp
  refine ⟨.func (.func f) (first.toList.map a.eval).toArray #[],by simp[execOp,ho,Instr.makeFunc,e],⟨_,by simp[bD,I.isAgg];rfl,?_⟩⟩;simp only[al];exact ⟨_,by rw[qv],h⟩
theorem Fc{w:World}{D:aP}{E:aY} : ∀ (xs:List I) (vs:List Value),aI w D E xs vs→aN w D E xs (vs.flatMap fun v=>v.cells.toList)∧vs.length=xs.length∧∀ (sz:Nat),(∀ x∈xs,x.size=sz)→∀ v∈vs,v.cells.size=sz
 | [],vs,h=>by simp only[aI] at h;subst h;simp[aN]
 |x::xs,vs,h=>by
  simp only[aI] at h;obtain ⟨v,rest,cs,rfl,J,U,ah⟩:=h;obtain ⟨k1,k2,k3⟩:=Fc xs rest ah;have hc:=J.cells U;refine ⟨?_,by simp[k2],fun sz hsz u hu =>?_⟩
  ·simp only[List.flatMap_cons,aN];exact ⟨_,_,rfl,by rw[hc];exact U,k1⟩
  ·rcases zw5.1 hu with rfl | hu
   ·rw[←zy2,hc,al.length _ _ U,hsz x (by simp)]
   ·exact k3 sz (fun y hy=>hsz y (by simp[hy])) u hu
def oo(A:ai)(D:aP)(E:aY):aP:=fun b o=>D b o∨∃ n T sz es cap,A.o n=some (.bU T sz es)∧E n=some (.rw (some (b,cap)) es.length)∧o<es.length*sz
theorem aU.ou{a:Act}{w:World}{D:aP}{E:aY}(h:aU c A a w D E):aU c A a w (oo A D E) E∧h2 false A D E (oo A D E):=by
 have hblk:∀ {n T sz es b cap},A.o n=some (.bU T sz es)→E n=some (.rw (some (b,cap)) es.length)→c.eZ b∧b<w.heap.size:=by
  intro n T sz es b cap hn aA;obtain ⟨aJ,k1,k2,k3⟩:=h.bU hn;rw[aA] at k1;simp only[v6,bM.rw.injEq,and_true] at k1;subst k1;obtain ⟨cs,pre,rest,k4,k5,_⟩:=k3;exact ⟨k4,fJ k5⟩
 refine ⟨h.FG (fun _ _ af=>.inl af) ?_ ?_ ?_ ?_ ?_ ?_,⟨fun _ _ af=>.inl af,fun n T sz es b cap hn aA o ho=>.inr ⟨n,T,sz,es,cap,hn,aA,ho⟩,(fun hb=>by cases hb),fun hb=>by cases hb⟩⟩
 ·rintro b o (af | ⟨n,T,sz,es,cap,hn,aA,ho⟩) hlt
  ·exact h.c9 _ _ af hlt
  ·exact absurd (hblk hn aA).1 hlt
 ·rintro b o (af | ⟨n,T,sz,es,cap,hn,aA,ho⟩)
  ·exact h.aQ _ _ af
  ·exact (hblk hn aA).2
 ·rintro m x b hm hEm o (af | ⟨n,T,sz,es,cap,hn,aA,ho⟩)
  ·obtain ⟨b2,cs2,sf,q1,q2,q3,q4,q5⟩:=h.box hm;rw[q1] at hEm;simp only[v6,bM.aL.injEq,and_true] at hEm;subst hEm;exact q5 o af
  ·have:=h.cQ m n _ _ b hEm aA rfl rfl;subst this;rw[hm] at hn;cases hn
 ·rintro m T' sz' es' b cap' hm hEm o (af | ⟨n,T,sz,es,cap,hn,aA,ho⟩)
  ·obtain ⟨aJ,q1,q2,q3⟩:=h.bU hm;rw[hEm] at q1;simp only[v6,bM.rw.injEq,and_true] at q1;subst q1;obtain ⟨cs',pre',rest',q4,q5,q6,q7,q8,q9,q10,q11⟩:=q3;have:=q11 o af
   rwa [aN.length _ _ q7,I.im _ q2] at this
  ·have:=h.cQ m n _ _ b hEm aA rfl rfl;subst this;rw[hm] at hn;simp only[v6,ao.bU.injEq] at hn;obtain ⟨rfl,rfl,rfl⟩:=hn;exact ho
 ·rintro m T' xs b cap' hm hEm o (af | ⟨n,T,sz,es,cap,hn,aA,ho⟩)
  ·obtain ⟨aJ,q1,_,q3⟩:=h.rV hm;rw[hEm] at q1;simp only[v6,bM.rw.injEq,and_true] at q1;subst q1;obtain ⟨_,_,_,_,_,_,_,_,q4⟩:=q3;exact q4 o af
  ·have:=h.cQ m n _ _ b hEm aA rfl rfl;subst this;rw[hm] at hn;cases hn
 ·rintro m e' b hE' hoth hblk o (af | ⟨n,T,sz,es,cap,hn,aA,ho⟩)
  ·exact h.w8 hE' hoth hblk o af
  ·have:=h.cQ m n _ _ b hE' aA hblk rfl;subst this;rw[hE'] at aA;cases aA;cases hoth
theorem C8{a:Act}{w:World}{D:aP}{E:aY}(ab:aU c A a w D E){P:Program} : ∀ (ps:List (Nat×Operand)) (qs:List (Nat×aO)),kM P ps=some qs →
  fE (aZ w D E) ((qs.map (·.2)).map (ak A)) (ps.map fun p=>a.eval p.2)∧qs.map (·.1)=ps.map (·.1)
 | [],qs,h=>by simp[kM] at h;subst h;exact ⟨.nil,rfl⟩
 |(i,x)::ps,qs,h=>by
  simp only[kM,List.mapM_cons,Option.bind_eq_bind,Option.pure_def,zx9,t7,v6] at h;obtain ⟨_,⟨y,hy,rfl⟩,qs',hq,rfl⟩:=h;obtain ⟨J,U⟩:=C8 ab ps qs' hq;exact ⟨.cons (bX ab hy) J,by simp[U]⟩
theorem aU.newRow{a:Act}{w:World}{D:aP}{E:aY}(h:aU c A a w D E)(o:Obj):aU c A a (w.alloc o) (fun b k=>D b k∨b=w.heap.size) E:=by
 refine h.grow (qb w o) (fun _ _ af=>.inl af) ?_ ?_
 ·rintro b k (af | rfl) hlt
  ·exact af
  ·omega
 ·rintro b k (af | rfl)
  ·have:=h.aQ _ _ af;simp;omega
  ·simp
theorem ZX{α:Type}(ps:List (Nat×α))(h:ps.map (·.1)=List.range ps.length):ps=((ps.map (·.2)).zipIdx 0).map fun x=>(x.2,x.1):=by
 apply List.ext_getElem?;intro k;rw[zy0,List.getElem?_zipIdx,zy0];cases hk:ps[k]? with
 |none=>simp
 |some p =>
  have aq:k<ps.length:=(Z6.1 hk).1;have:=congrArg (·[k]?) h;simp only[zy0,hk,zz0,List.getElem?_range aq,v6] at this;simp[←this]
theorem VO{t e:TypeId}{len:Nat}{parts:Array (Nat×Operand)}{ps:List (Nat×aO)}{es:List I}(ho:o.op=.buildSlice t len parts)(hu:c.P.underlying t=some (.slice e))(hp:kM c.P parts.toList=some ps)
  (hr:ps.map (·.1)=List.range len) (aW:0<c.P.cellsOf e) (hlen:0<len) (hsm:len*c.P.cellsOf e≤16777216) (hz:((c.P.info? e).bind (·.zero)).isSome=true)
  (hes:b8 false A ((ps.map (·.2)).map (ak A))=some es) (hev:∀ x∈es,x.size=c.P.cellsOf e) (hcl:I.cq es=true):dL c A o (.slice (c.P.cellsOf e) es):=by
 intro a w D E ab;obtain ⟨hfor,hidx⟩:=C8 ab parts.toList ps hp;obtain ⟨hs1,hw⟩:=ab.ou;have hrv:=lL (E':=E) ab (fun _ _ h=>h) hw _ es _ (lh _ _ hfor (qu hes)) hes;obtain ⟨k1,k2,k3⟩:=Fc es _ hrv;have k3:=k3 _ hev;have aq:parts.toList.length=len:=by
  have:=congrArg List.length hidx;rw[hr] at this;simpa using this.symm
 have hesl:es.length=len:=by rw[←k2];simp[aq]
 obtain ⟨z,hz⟩:=zz9.1 hz;obtain ⟨ie,hie,hzz⟩:=zx9.1 hz;have hsz:ie.size=c.P.cellsOf e:=by simp[Program.cellsOf,hie]
 -- the literal's cells
 have hfill:Instr.fill (fun i=>some (i*ie.size,ie.size)) ((Array.range (len*ie.size)).map (z.cells[· % z.cells.size]!)) (parts.map fun (q:Nat×Operand)=>(q.1,a.eval q.2)).toList =
   some ((parts.toList.map fun p=>a.eval p.2).flatMap fun v=>v.cells.toList).toArray:=by
  have hpz:(parts.map fun (q:Nat×Operand)=>(q.1,a.eval q.2)).toList=((parts.toList.map fun p=>a.eval p.2).zipIdx 0).map fun x=>(x.2,x.1):=by
   have:=ZX (parts.toList.map fun (q:Nat×Operand)=>(q.1,a.eval q.2)) (by simp only[List.map_map,Z8];rw[aq,←hr,hidx];rfl);rw[Array.toList_map,this,List.map_map];rfl
  rw[hpz,hsz];exact Great.fill_whole aW _ _ (fun v hv=>k3 v hv) (by simp[aq])
 have hrun:=run_buildSlice (P:=c.P) w t e len (parts.map fun (q:Nat×Operand)=>(q.1,a.eval q.2)) _ ie z hu hie hzz (by rw[hsz];omega) (by rw[hsz];exact Nat.ne_of_gt (Nat.mul_pos hlen aW)) hfill;generalize hcells:((parts.toList.map fun p=>a.eval p.2).flatMap fun v=>v.cells.toList)=cells at *;have hs2:=hs1.newRow (.cells cells.toArray e);refine ⟨_,_,_,by simp only[execOp,ho,Sem.run_bind];rw[hrun];rfl,hs2,tk hesl.symm (Z4 _) ?_ (.inr ⟨w.heap.size,0,cells,rfl,?_,?_⟩) hev⟩
 ·unfold maxLen;have:len≤len*c.P.cellsOf e:=Nat.le_mul_of_pos_right _ aW;omega
 ·intro j v hj;refine ⟨?_,.inr rfl⟩;rw[Z1];have:=World.cell?_alloc_new w cells.toArray e j;rw[this];simpa using hj
 ·refine aN.later ?_ es cells k1;exact dW.grow (qb w _) (fun _ _ af=>.inl af)
end
mutual
theorem oW:∀ (ty:cJ) (x y:I) (r:Bool),ca ty x y=some r→x.size=ty.size∧y.size=ty.size
 | .i k,x,y,r,h=>by
  simp only[ca] at h;split at h
  ·simp[I.size,cJ.size]
  ·cases h
 | .b,x,y,r,h=>by
  simp only[ca] at h;split at h
  ·simp[I.size,cJ.size]
  ·cases h
 | .s,x,y,r,h=>by
  simp only[ca] at h;split at h
  ·simp[I.size,cJ.size]
  ·cases h
 | .bd l,x,y,r,h=>by
  simp only[ca] at h;split at h
  ·simp only[I.size,cJ.size];exact AY l _ _ r h
  ·cases h
 | .qa n e,x,y,r,h=>by
  simp only[ca] at h;split at h
  ·rename_i fs gs;split at h
   ·rename_i aq;simp only[I.size,cJ.size];have:∀ (fs gs:List I) (r:Bool),fs.length=gs.length→(fs.zip gs).foldr (fun p acc=>iY (ca e p.1 p.2) acc) (some true)=some r→I.sizes fs=fs.length*e.size∧I.sizes gs=fs.length*e.size:=by
     intro fs
     induction fs with
     |nil=>intro gs r aq _;cases gs with | nil=>simp[I.sizes] | cons _ _=>simp at aq
     |cons f fs ih =>
      intro gs r aq h;cases gs with
      |nil=>simp at aq
      |cons g gs =>
       simp only[List.zip_cons_cons,List.foldr_cons] at h;unfold iY at h;split at h
       ·rename_i a b J U;obtain ⟨k1,k2⟩:=ih gs b (by simpa using aq) U;obtain ⟨k3,k4⟩:=oW e f g a J;simp only[I.sizes,zx7,k1,k2,k3,k4,Nat.add_mul,Nat.one_mul];omega
       ·cases h
    obtain ⟨k1,k2⟩:=this fs gs r (by omega) h;rw[k1,k2,aq.1];exact ⟨rfl,rfl⟩
   ·cases h
  ·cases h
theorem AY:∀ (l:List cJ) (xs ys:List I) (r:Bool),hX l xs ys=some r→I.sizes xs=cJ.sizes l∧I.sizes ys=cJ.sizes l
 | [],xs,ys,r,h=>by
  simp only[hX] at h;split at h
  ·simp[I.sizes,cJ.sizes]
  ·cases h
 |t::ts,xs,ys,r,h=>by
  simp only[hX] at h;split at h
  ·rename_i f fs g gs;unfold iY at h;split at h
   ·rename_i a b J U;obtain ⟨k1,k2⟩:=oW t f g a J;obtain ⟨k3,k4⟩:=AY ts fs gs b U;simp only[I.sizes,cJ.sizes,k1,k2,k3,k4];exact ⟨trivial,trivial⟩
   ·cases h
  ·cases h
end
section
variable {P:Program} {w:World} {D:aP} {E:aY}
theorem vl{d:Nat}{t:TypeId}{ty:cJ}(h:gH P d t=some ty)(ab:ty.size=P.cellsOf t){x y:I}{r:Bool}(hr:ca ty x y=some r):∃ s,fQ P t=some s∧cg s x=true∧cg s y=true:=by
 have hsz:=oW ty x y r hr;cases d with
 |zero=>simp[gH] at h
 |succ d =>
  simp only[gH] at h;split at h
  ·rename_i k hu;simp only[v6] at h;subst h;simp only[ca] at hr;split at hr
   ·exact ⟨none,by simp[fQ,hu],by simp[cg,I.isAgg],by simp[cg,I.isAgg]⟩
   ·cases hr
  ·rename_i hu;simp only[v6] at h;subst h;simp only[ca] at hr;split at hr
   ·exact ⟨none,by simp[fQ,hu],by simp[cg,I.isAgg],by simp[cg,I.isAgg]⟩
   ·cases hr
  ·rename_i hu;simp only[v6] at h;subst h;simp only[ca] at hr;split at hr
   ·exact ⟨none,by simp[fQ,hu],by simp[cg,I.isAgg],by simp[cg,I.isAgg]⟩
   ·cases hr
  ·rename_i fs hu;split at h
   ·simp only[t7] at h;obtain ⟨l,_,rfl⟩:=h;simp only[ca] at hr;split at hr
    ·exact ⟨some (P.cellsOf t),by simp[fQ,hu],by simp[cg,I.isAgg,hsz.1,ab],by simp[cg,I.isAgg,hsz.2,ab]⟩
    ·cases hr
   ·cases h
  ·rename_i n e hu;split at h
   ·split at h
    ·simp only[v6] at h;subst h;simp only[ca] at hr;split at hr
     ·exact ⟨some (P.cellsOf t),by simp[fQ,hu],by simp[cg,I.isAgg,hsz.1,ab],by simp[cg,I.isAgg,hsz.2,ab]⟩
     ·cases hr
    ·cases h
   ·cases h
  ·cases h
theorem A1{k:Nat}{g:Field→Option cJ}(hg:∀ (f:Field) (ty:cJ),g f=some ty→ty.size=P.cellsOf f.type∧∃ d,gH P d f.type=some ty ∧
   ∀ (x y:I) (u v:Value) (r:Bool),aZ w D E x u→aZ w D E y v→ca ty x y=some r→(Op.equalIn k f.type u v).run P w=.ok r w) :
  ∀ (fs : List Field) (l : List cJ) (xs ys : List I) (r : Bool) (c1 c2 d1 d2 : List Value), fs.mapM g = some l → (∀ f ∈ fs, f.name ≠ "_") → pD P c1.length fs = true → c1.length = d1.length →
   aN w D E xs c2→aN w D E ys d2→hX l xs ys=some r→(Op.eqFields k (c1++c2).toArray (d1++d2).toArray fs).run P w=.ok r w
 | [],l,xs,ys,r,c1,c2,d1,d2,hm,_,_,_,_,_,h=>by
  simp at hm;subst hm;simp only[hX] at h;split at h
  ·simp only[v6] at h;subst h;simp[Op.eqFields]
  ·cases h
 |f::fs,l,xs,ys,r,c1,c2,d1,d2,hm,hn,ho,aq,hx,hy,h=>by
  simp only[List.mapM_cons,Option.bind_eq_bind,Option.pure_def,zx9,v6] at hm;obtain ⟨ty,hty,tys,htys,rfl⟩:=hm;simp only[hX] at h;split at h
  case h_2=>cases h
  rename_i x xs y ys;unfold iY at h;split at h
  case h_2=>cases h
  rename_i ra rb J U;simp only[v6] at h;subst h;simp only[aN] at hx hy;obtain ⟨e1,e2,rfl,k1,k2⟩:=hx;obtain ⟨f1,f2,rfl,k3,k4⟩:=hy;obtain ⟨hsz,dd,af,heq⟩:=hg f ty hty;obtain ⟨s,q1,q2,q3⟩:=vl af hsz J;obtain ⟨u,p1,p2⟩:=oq (c1:=c1) (c3:=e2) q1 q2 k1;obtain ⟨v,p3,p4⟩:=oq (c1:=d1) (c3:=f2) q1 q3 k3;simp only[pD,t8,beq_iff_eq] at ho;have hsx:=oW ty x y ra J;have hle:e1.length=P.cellsOf f.type:=by rw[al.length _ _ k1,hsx.1,hsz]
  have hlf:f1.length=P.cellsOf f.type:=by rw[al.length _ _ k3,hsx.2,hsz]
  have ih:=A1 hg fs tys xs ys rb (c1++e1) e2 (d1++f1) f2 htys (fun g hg=>hn g (by simp[hg])) (by simp only[Z7,hle];exact ho.2) (by simp[aq,hle,hlf]) k2 k4 U;rw[zz1] at p1 p3;rw[zz1,zz1] at ih;rw[←ho.1] at p1;rw[←aq,←ho.1] at p3;simp only[Op.eqFields,hn f (by simp),ne_eq,not_false_eq_true,if_true,Sem.run_bind,p1,Result.andThen_ok,p3,heq x y u v ra p2 p4 J];cases ra
  ·simp
  ·simpa using ih
theorem A2{d:Nat}{e:TypeId}{ty:cJ}{dd:Nat}(hty:gH P dd e=some ty)(hsz:ty.size=P.cellsOf e)
  (heq:∀ (x y:I) (u v:Value) (r:Bool),aZ w D E x u→aZ w D E y v→ca ty x y=some r→(Op.equalIn d e u v).run P w=.ok r w) :
  ∀ (m k:Nat) (xs ys:List I) (c1 c2 d1 d2:List Value) (r:Bool),xs.length=m→ys.length=m→c1.length=k*P.cellsOf e→d1.length=k*P.cellsOf e→aN w D E xs c2→aN w D E ys d2 →
   (xs.zip ys).foldr (fun p acc=>iY (ca ty p.1 p.2) acc) (some true)=some r→(Op.eqItems d e (P.cellsOf e) (c1++c2).toArray (d1++d2).toArray (List.range' k m)).run P w=.ok r w
 |0,k,xs,ys,c1,c2,d1,d2,r,hx,hy,_,_,_,_,h=>by
  have e1:=List.eq_nil_of_length_eq_zero hx;subst e1;simp only[List.zip_nil_left,List.foldr_nil,v6] at h;subst h;simp[Op.eqItems]
 |m+1,k,xs,ys,c1,c2,d1,d2,r,hx,hy,hc,af,hrx,hry,h=>by
  cases xs with
  |nil=>simp at hx
  |cons x xs =>
  cases ys with
  |nil=>simp at hy
  |cons y ys =>
  simp only[List.zip_cons_cons,List.foldr_cons] at h;unfold iY at h;split at h
  case h_2=>cases h
  rename_i ra rb J U;simp only[v6] at h;subst h;simp only[aN] at hrx hry;obtain ⟨e1,e2,rfl,k1,k2⟩:=hrx;obtain ⟨f1,f2,rfl,k3,k4⟩:=hry;obtain ⟨s,q1,q2,q3⟩:=vl hty hsz J;obtain ⟨u,p1,p2⟩:=oq (c1:=c1) (c3:=e2) q1 q2 k1;obtain ⟨v,p3,p4⟩:=oq (c1:=d1) (c3:=f2) q1 q3 k3;have hsx:=oW ty x y ra J;have hle:e1.length=P.cellsOf e:=by rw[al.length _ _ k1,hsx.1,hsz]
  have hlf:f1.length=P.cellsOf e:=by rw[al.length _ _ k3,hsx.2,hsz]
  have ih:=A2 hty hsz heq m (k+1) xs ys (c1++e1) e2 (d1++f1) f2 rb (by simpa using hx) (by simpa using hy) (by simp only[Z7,hle,hc,Nat.add_mul,Nat.one_mul]) (by simp only[Z7,hlf,af,Nat.add_mul,Nat.one_mul]) k2 k4 U;rw[zz1] at p1 p3;rw[zz1,zz1] at ih;rw[hc] at p1;rw[af] at p3;simp only[List.range'_succ,Op.eqItems,Sem.run_bind,p1,Result.andThen_ok,p3,heq x y u v ra p2 p4 J];cases ra
  ·simp
  ·simpa using ih
theorem sG:∀ (d:Nat) (t:TypeId) (ty:cJ),gH P d t=some ty→∀ (x y:I) (u v:Value) (r:Bool),aZ w D E x u→aZ w D E y v→ca ty x y=some r→∀ dep,d≤dep→(Op.equalIn dep t u v).run P w=.ok r w
 |0,t,ty,h,_,_,_,_,_,_,_,_,_,_=>by simp[gH] at h
 |d+1,t,ty,h,x,y,u,v,r,hx,hy,hr,dep,hdep=>by
  obtain ⟨k,rfl⟩:∃ k,dep=k+1:=⟨dep-1,by omega⟩
  simp only[gH] at h;split at h
  ·rename_i kk hu;simp only[v6] at h;subst h;simp only[ca] at hr;split at hr
   ·split at hr
    ·simp only[v6] at hr;subst hr;rw[(eV hx).1,(eV hy).1];rename_i hk;rw[hk.1,hk.2];exact run_equalIn_int w k t kk kk _ _ hu
    ·cases hr
   ·cases hr
  ·rename_i hu;simp only[v6] at h;subst h;simp only[ca] at hr;split at hr
   ·simp only[v6] at hr;subst hr;rw[kv hx,kv hy];exact run_equalIn_bool' w k t _ _ hu
   ·cases hr
  ·rename_i hu;simp only[v6] at h;subst h;simp only[ca] at hr;split at hr
   ·simp only[v6] at hr;subst hr;rw[(ng hx).1,(ng hy).1];exact run_equalIn_string w k t _ _ hu
   ·cases hr
  ·rename_i fs hu;split at h
   ·rename_i hc;simp only[t7] at h;obtain ⟨l,aq,rfl⟩:=h;simp only[ca] at hr;split at hr
    ·obtain ⟨cs,rfl,J⟩:=je hx;obtain ⟨ds,rfl,U⟩:=je hy;have hf:P.fieldsOf t=fs:=by simp[Program.fieldsOf,hu]
     rw[run_equalIn_struct w k t _ _ (by rw[hf];exact hu) hc.1,hf];refine A1 (g:=fun f=>match gH P d f.type with | some ty=>if ty.size=P.cellsOf f.type then some ty else none | none=>none) (fun f ty hg =>?_) fs.toList l _ _ r [] cs [] ds aq (fun f hf =>?_) hc.2.2 rfl J U hr
     ·split at hg
      ·rename_i ty' hty;split at hg
       ·rename_i ab;simp only[v6] at hg;subst hg;exact ⟨ab,d,hty,fun x y u v r hx hy hr=>sG d f.type _ hty x y u v r hx hy hr k (by omega)⟩
       ·cases hg
      ·cases hg
     ·have:=zz6.1 hc.2.1 f hf;simpa using this
    ·cases hr
   ·cases h
  ·rename_i n e hu;split at h
   ·rename_i ty' hty;split at h
    ·rename_i hc;simp only[v6] at h;subst h;simp only[ca] at hr;split at hr
     ·split at hr
      ·rename_i aq;obtain ⟨cs,rfl,J⟩:=je hx;obtain ⟨ds,rfl,U⟩:=je hy;obtain ⟨i,hi⟩:=zz9.1 hc.2;rw[run_equalIn_array w k _ _ hu hi,List.range_eq_range'];exact A2 hty hc.1 (fun x y u v r hx hy hr=>sG d e _ hty x y u v r hx hy hr k (by omega)) n 0 _ _ [] cs [] ds r aq.1 aq.2 (by simp) (by simp) J U hr
      ·cases hr
     ·cases hr
    ·cases h
   ·cases h
  ·cases h
end
section
variable {c:cV} {A:ai} {o:Oper} {x:I}
theorem Za{P:Program}{w:World}{D:aP}{E:aY}(op:BinOp)(t:TypeId)(x y:Operand){a b:I}{ty:cJ}{r:Bool}{u v:Value}(hr:ca ty a b=some r)(hx:aZ w D E a u)(hm:P.eqGuardType P.depth t=false) :
  (eqGuard op t x y u v).run P w=.ok () w:=by
 have:u.oneCell'=true∧u≠.nilIface∨∃ cs,u=.agg cs:=by
  cases ty <;>simp only[ca] at hr <;>split at hr <;>first
   |(cases hr;done)
   |(left;rw[(eV hx).1];exact ⟨rfl,by simp⟩)
   |(left;rw[kv hx];exact ⟨rfl,by simp⟩)
   |(left;rw[(ng hx).1];exact ⟨rfl,by simp⟩)
   |(right;obtain ⟨cs,h,_⟩:=je hx;exact ⟨_,h⟩)
 rcases this with ⟨J,U⟩ | ⟨cs,rfl⟩
 ·exact xA op t x y J U
 ·cases op <;>cases v <;>simp[eqGuard,run_program,hm]
theorem Hv{P:Program}{w:World}{D:aP}{E:aY}{neg:Bool}{t:TypeId}{a b:I}{ty:cJ}{r:Bool}{u v:Value}(hr:ca ty a b=some r)(hx:aZ w D E a u)(hy:aZ w D E b v){dt:Nat}(hdt:dt≤10000)(hty:gH P dt t=some ty) :
  (binOp (if neg then .neq else .eql) t u v).run P w=.ok (.bool (if neg then !r else r)) w:=by
 have he:=sG (w:=w) (D:=D) (E:=E) dt t ty hty a b u v r hx hy hr 10000 hdt;cases ty <;>simp only[ca] at hr <;>split at hr <;>first | (cases hr;done) | skip
 ·rw[(eV hx).1,(eV hy).1] at *;split at hr
  ·rename_i hk;simp only[v6] at hr;subst hr;rw[hk.1,hk.2];cases neg <;>simp[binOp,Op.intCmp,bne]
  ·cases hr
 ·have e1:=kv hx;have e2:=kv hy;subst e1 e2;cases neg <;>simp only[binOp,if_true,Z2,if_false] <;>simp[Op.equal,Op.maxDepth,he]
 ·rw[(ng hx).1,(ng hy).1] at *;simp only[v6] at hr;subst hr;cases neg <;>simp[binOp,Op.stringOp]
 ·obtain ⟨cs,rfl,_⟩:=je hx;obtain ⟨ds,rfl,_⟩:=je hy;cases neg <;>simp only[if_true,Z2,if_false]
  ·rw[run_eql_struct,he];rfl
  ·rw[run_neq_struct,he];rfl
 ·obtain ⟨cs,rfl,_⟩:=je hx;obtain ⟨ds,rfl,_⟩:=je hy;cases neg <;>simp only[if_true,Z2,if_false]
  ·rw[run_eql_struct,he];rfl
  ·rw[run_neq_struct,he];rfl
theorem VT{neg:Bool}{t yt:TypeId}{y z:Operand}{y' z':aO}{ty:cJ}{r:Bool}(ho:o.op=.binOp (if neg then .neq else .eql) t y z yt)(hy:bx c.P 0 y=some y')(hz:bx c.P 0 z=some z')(hg:c.P.eqGuardType c.P.depth t=false)
  (hty:gH c.P 12 t=some ty) (h:ca ty (ak A y') (ak A z')=some r):dL c A o (.bool (if neg then !r else r)) :=
 .same fun a w D E ab=>by
  have J:=bX ab hy;have U:=bX ab hz;refine ⟨_,?_,nT _⟩;simp only[execOp,ho,Sem.run_bind,Za _ t y z h J hg,Result.andThen_ok,Hv h J U (dt:=12) (by omega) hty];rfl
theorem wc{neg:Bool}{t yt e:TypeId}{y z:Operand}{y':aO}{sz:Nat}{r:Bool}(ho:o.op=.binOp (if neg then .neq else .eql) t y z yt)(hu:c.P.underlying t=some (.slice e))(hy:bx c.P 0 y=some y')(hz:bx c.P 0 z=some (.c (.nils sz)))
  (h:(∃ s,ak A y'=.nils s∧r=true)∨(∃ s es,ak A y'=.slice s es∧es≠[]∧r=false)∨(∃ n p s lo k,ak A y'=.view n p s lo k∧r=false)):dL c A o (.bool (if neg then !r else r)) :=
 .same fun a w D E ab=>by
  have J:=bX ab hy;have U:aZ w D E (.nils sz) (a.eval z):=bX ab hz;have hv:a.eval z=.slice none 0 0:=by
   obtain ⟨cs,q1,q2⟩:=U;simp only[al] at q2;simpa[bD,I.isAgg,q2] using q1.symm
  have hu':(∃ ad n cp,a.eval y=.slice ad n cp∧r=ad.isNone):=by
   rcases h with ⟨s,h,rfl⟩ | ⟨s,es,h,hne,rfl⟩ | ⟨n,p,s,lo,k,h,rfl⟩
   ·rw[h] at J;obtain ⟨cs,q1,q2⟩:=J;simp only[al] at q2;exact ⟨none,0,0,by simpa[bD,I.isAgg,q2] using q1.symm,rfl⟩
   ·rw[h] at J;obtain ⟨ad,cap,e1,_,_,e4,_⟩:=nf J;rcases e4 with e4 | ⟨b,off,cs,rfl,_,_⟩
    ·exact absurd e4 hne
    ·exact ⟨_,_,_,e1,rfl⟩
   ·rw[h] at J;obtain ⟨cs,q1,q2⟩:=J;simp only[al] at q2;obtain ⟨b,aX,off,l,_,_,_,q2,_⟩:=q2;exact ⟨_,_,_,by simpa[bD,I.isAgg,q2] using q1.symm,rfl⟩
  obtain ⟨ad,n,cp,hyv,rfl⟩:=hu';have he:∀ d,(Op.equalIn (d+1) t (.slice ad n cp) (.slice none 0 0)).run c.P w=.ok ad.isNone w:=fun d=>by
   cases ad <;>simp[Op.equalIn,run_underlying hu]
  refine ⟨.bool (if neg then !ad.isNone else ad.isNone),?_,nT _⟩;cases neg <;>simp only[execOp,ho,hyv,hv,if_true,Z2,if_false,Sem.run_bind,eqGuard] <;>simp[binOp,Op.equal,Op.maxDepth,he]
end
def h1(c:cV)(A:ai)(o:Oper)(B:ai):Prop :=
 ∀ a w D E,aU c A a w D E→∃ w',((∃ v,(execOp a.eval o).run c.P w=.ok (.value v) w'∧b5 c B (a.put o.dst v) w')∨((execOp a.eval o).run c.P w=.ok .skip w'∧b5 c B (a.put o.dst undef) w'))
section
variable {c:cV} {A:ai} {o:Oper} {x:I}
theorem dL.does(h:dL c A o x)(af:∀ k,o.dst=some k→k<c.n):h1 c A o (A.aS o.dst x):=by
 intro a w D E ab;obtain ⟨v,w',D',J,U,ah⟩:=h a w D E ab;exact ⟨w',.inl ⟨v,J,D',E,U.aS af ah⟩⟩
theorem Ma{t:TypeId}{z:I}{d:Nat}(ho:o.op=.alloc t)(hz:gj c.P t=some z)(af:o.dst=some d)(hn:d<c.n)(hf:A.o d=none):h1 c A o ((A.aT d (.box z)).put d (.ptr d [])):=by
 intro a w D E ab;obtain ⟨i,zv,hi,hzv,hzr⟩:=lz hz;have J:=ab.qZ (T:=t) (.inl hn) hf (hzr w D E);have U:=J.put (x:=.ptr d []) (v:=.pointer (some ⟨w.heap.size,0,none⟩)) hn ⟨_,by simp[bD,I.isAgg];rfl,by
  simp only[al,if_true];exact ⟨w.heap.size,z.aX,0,rfl,by cases z.aX <;>simp[cR.off],rfl⟩⟩
 exact ⟨w.alloc (.cells zv.cells t),.inl ⟨.pointer (some ⟨w.heap.size,0,none⟩),by simp[execOp,ho,Instr.alloc,zeroValue,typeInfo,hi,hzv,newVar,newRow],D,_,by rw[af];exact U⟩⟩
theorem Mf{t:TypeId}{y:Operand}{y':aO}{d:Nat}(ho:o.op=.box t y)(hy:bx c.P t y=some y')(hv:(ak A y').bT=true)(af:o.dst=some d)(hn:d<c.n)(hf:A.o d=none) :
  h1 c A o ((A.aT d (.box (ak A y'))).put d (.ptr d [])):=by
 intro a w D E ab;obtain ⟨cs,k1,k2⟩:∃ cs,bD (ak A y') (a.eval y) cs∧al w D E (ak A y') cs:=by
  have h:=bX ab hy;generalize ak A y'=z at *;cases z <;>simp[I.bT] at hv <;>exact h
 have hc:=k1.cells k2;rw[←hc] at k2;have J:=ab.qZ (T:=t) (.inl hn) hf k2;have U:=J.put (x:=.ptr d []) (v:=.pointer (some ⟨w.heap.size,0,none⟩)) hn ⟨_,by simp[bD,I.isAgg];rfl,by
  simp only[al,if_true];exact ⟨w.heap.size,(ak A y').aX,0,rfl,by cases (ak A y').aX <;>simp[cR.off],rfl⟩⟩
 exact ⟨w.alloc (.cells (a.eval y).cells t),.inl ⟨.pointer (some ⟨w.heap.size,0,none⟩),by simp[execOp,ho,Instr.box,newVar,newRow],D,_,by rw[af];exact U⟩⟩
theorem Mm{t:TypeId}{y z:Operand}{y' z':aO}{s:Option Nat}{n:Nat}{p:List Nat}{b old:I}(ho:o.op=.store t y z)(hk:fQ c.P t=some s)(hk1:s.isSome=true∨c.P.cellsOf t=1)(hy:bx c.P 0 y=some y')(hz:bx c.P t z=some z')
  (hp:ak A y'=.ptr n p) (hb:A.o n=some (.box b)) (hat:b.at p=some old) (hv:(ak A z').bT=true) (hok:cg s (ak A z')=true) (hsh:(ak A z').aX=old.aX) (af:o.dst=none) :
  h1 c A o (A.aT n (.box (b.ev p (ak A z')))):=by
 intro a w D E ab;have J:=bX ab hy;rw[hp] at J;obtain ⟨bb,aX,off,U,ah,ar⟩:=lg J;obtain ⟨b',cs,T,k1,k2,k3,k4,k5⟩:=ab.box hb;rw[k1] at U;simp only[v6,bM.aL.injEq] at U;obtain ⟨rfl,rfl⟩:=U;obtain ⟨ds,q1,q2⟩:∃ ds,bD (ak A z') (a.eval z) ds∧al w D E (ak A z') ds:=by
  have h:=bX ab hz;generalize ak A z'=zz at *;cases zz <;>simp[I.bT] at hv <;>exact h
 have hc:=q1.cells q2;obtain ⟨off',p1,p2,p3,p4⟩:=tF p b old _ _ ds k4 hat q2 hsh;rw[ah,v6] at p1;subst p1;have aq:=al.length _ _ q2;obtain ⟨i,hi⟩:=s9 hk;have hsz:ds.length=c.P.cellsOf t:=by
  cases s with
  |none =>
   simp only[cg,Bool.not_eq_true'] at hok;have:(ak A z').size=1:=by generalize ak A z'=zz at *;cases zz <;>simp_all[I.isAgg,I.size]
   rw[aq,this];rcases hk1 with h | h
   ·cases h
   ·exact h.symm
  |some m =>
   simp only[cg,t8,beq_iff_eq] at hok;rw[aq,hok.2,wy hk]
 have hcs:(a.eval z).cells.size=ds.length:=by rw[←hc,zy2]
 have hrun:=run_storeCells_at c.P b' off T ds 0 cs w k3 (by rw[zy2] at p2;omega) (al.lV _ _ q2);simp only[Nat.add_zero] at hrun;have hs2:=ab.xI (y:=b.ev p (ak A z')) (cs':=(cs.toList.take off++ds++cs.toList.drop (off+ds.length)).toArray) hb k1 p4 (by simpa using p3);refine ⟨w.setRow b' (cs.toList.take off++ds++cs.toList.drop (off+ds.length)).toArray,.inr ⟨?_,D,E,?_⟩⟩
 ·have e:(a.eval z).cells.toList=ds:=hc;have hg:¬ (a.eval z).cells.size≠c.P.cellsOf t:=by rw[hcs,hsz];simp
  simp only[execOp,ho,ar,Instr.storeAt,Instr.sureAddr,storeVar,Sem.run_bind,Sem.run_pure,Result.andThen_ok,iM hi,Sem.run_ite,if_neg hg,e,hrun]
 ·rw[af];exact hs2
end
section
variable {c:cV} {A:ai} {a:Act} {w:World} {D:aP} {E:aY}
theorem aU.Bp(h:aU c A a w D E){n:Nat}{T:TypeId}{sz cap:Nat}{es ys:List I}{pre news rest:List Value}{cs:Array Value}{aJ:Option (Nat×Nat)}(hn:A.o n=some (.bU T sz es))(aA:E n=some (.rw aJ es.length))(hes:aN w D E es pre)
  (hys:aN w D E ys news) (hysz:∀ e∈ys,e.size=sz) (hne:ys≠[]) (hcs:cs.toList=(pre++news)++rest) (hsize:cs.size=cap*sz) (hlen:es.length+ys.length≤cap) (hcap:cap≤maxLen) :
  aU c (A.aT n (.bU T sz (es++ys))) a (w.drew.alloc (.cells cs T)) D (fun m=>if m=n then some (.rw (some (w.heap.size,cap)) (es.length+ys.length)) else E m):=by
 have hlast:0<ys.length:=List.length_pos_iff.2 hne;have hheap:∀ b,b<w.heap.size→(w.drew.alloc (.cells cs T)).heap[b]?=w.heap[b]?:=fun b hb=>Below.heap_alloc w.drew _ b hb;have aq:dW w D E (w.drew.alloc (.cells cs T)) D (fun m=>if m=n then some (.rw (some (w.heap.size,cap)) (es.length+ys.length)) else E m):=by
  have eM:∀ {m:Nat} {e:bM},E m=some e→e.eg=true→(if m=n then some (.rw (some (w.heap.size,cap)) (es.length+ys.length)) else E m)=some e:=fun {m e} he hfx=>by
   have:m≠n:=fun e=>by rw[e,aA] at he;cases he;cases hfx
   rw[if_neg this];exact he
  refine ⟨fun _ _ h=>h,fun b o v _ hv =>?_,fun m b aX he=>eM he rfl,fun m blk' l he =>?_,fun m b he=>eM he rfl,fun m b he=>eM he rfl,fun b es ck _ hm=>(hheap b (fJ hm)).trans hm⟩
  ·rw[World.cell?_of_block (hheap b (World.block_lt_of_cell? w _ hv))];exact hv
  ·by_cases hm:m=n
   ·subst hm;rw[aA] at he;simp only[v6,bM.rw.injEq] at he;exact ⟨_,_,if_pos rfl,by omega,fun e=>by omega⟩
   ·exact ⟨blk',l,by simp only[if_neg hm];exact he,Z4 _,fun _=>rfl⟩
 have hown:=h.bP n;rw[hn] at hown;obtain ⟨blk1,hb1,hb2,_⟩:=hown;refine ⟨h.sz,h.eB.mono fun B _ hB=>(hheap B (zz2.1 hB).1).trans hB,fun t=>aZ.later aq (h.dR t),h.dO.trans ⟨rfl,rfl,rfl,by simp,fun k hk=>hheap k (h.old hk)⟩,h.c9,fun b o hd'=>by have:=h.aQ b o hd';simp;omega,fun m =>?_,?_,fun m e hm =>?_,h.eP,h.cT,h.eW,h.kz aq⟩
 ·simp only[ai.aT];by_cases hm:m=n
  ·subst hm;simp only[if_true,c6];refine ⟨some (w.heap.size,cap),by simp,fun e he =>?_,?_⟩
   ·rcases zy7.1 he with he | he
    ·exact hb2 e he
    ·exact hysz e he
   ·refine ⟨cs,pre++news,rest,.inl h.dO.size,heap_alloc_new w.drew _,hcs,?_,hsize,by simpa using hlen,hcap,fun o ho=>absurd (h.aQ _ o ho) (Nat.lt_irrefl _)⟩;exact aN.later aq _ _ (jW _ _ _ _ hes hys)
  ·simp only[if_neg hm];exact (h.bP m).later aq (by simp only[if_neg hm]) fun e b he hb=>⟨hheap b (h.fX he hb),fun _ ho=>ho⟩
 ·intro m m' e e' b J U ah ar;by_cases hm:m=n <;>by_cases hm':m'=n
  ·rw[hm,hm']
  ·simp only[if_pos hm,v6] at J;simp only[if_neg hm'] at U;subst J;simp only[bM.aJ,v6] at ah;have:=h.fX U ar;omega
  ·simp only[if_neg hm] at J;simp only[if_pos hm',v6] at U;subst U;simp only[bM.aJ,v6] at ar;have:=h.fX J ah;omega
  ·simp only[if_neg hm] at J;simp only[if_neg hm'] at U;exact h.cQ m m' e e' b J U ah ar
 ·by_cases hmn:m=n
  ·subst hmn;rcases h.dS _ _ hm with k | ⟨e',k,hle⟩
   ·rw[aA] at k;cases k
   ·rw[aA] at k;cases k;exact .inr ⟨_,if_pos rfl,hle.trans (.inr ⟨_,_,_,_,rfl,rfl,by omega,fun e=>by omega⟩)⟩
  ·simp only[if_neg hmn];exact h.dS _ _ hm
theorem aU.X3(h:aU c A a w D E){n:Nat}{T:TypeId}{sz b cap:Nat}{es ys:List I}{pre news rest:List Value}{cs:Array Value}(hn:A.o n=some (.bU T sz es))(aA:E n=some (.rw (some (b,cap)) es.length))(hb:w.heap[b]?=some (.cells cs T (0,0)))
  (hcs:cs.toList=pre++rest) (hes:aN w D E es pre) (hys:aN w D E ys news) (hysz:∀ e∈ys,e.size=sz) (hne:ys≠[]) (hsize:cs.size=cap*sz) (hlen:es.length+ys.length≤cap) (hcap:cap≤maxLen) (hD:∀ o,D b o→o<pre.length) (hbase:c.eZ b) :
  aU c (A.aT n (.bU T sz (es++ys))) a (w.setRow b (pre++news++rest.drop news.length).toArray) D (fun m=>if m=n then some (.rw (some (b,cap)) (es.length+ys.length)) else E m):=by
 have hlast:0<ys.length:=List.length_pos_iff.2 hne;have hown:=h.bP n;rw[hn] at hown;obtain ⟨blk1,hb1,hb2,_⟩:=hown;have hnl:news.length=ys.length*sz:=by rw[aN.length _ _ hys,I.im _ hysz]
 have hpl:pre.length=es.length*sz:=by rw[aN.length _ _ hes,I.im _ hb2]
 have aq:dW w D E (w.setRow b (pre++news++rest.drop news.length).toArray) D (fun m=>if m=n then some (.rw (some (b,cap)) (es.length+ys.length)) else E m):=by
  have eM:∀ {m:Nat} {e:bM},E m=some e→e.eg=true→(if m=n then some (.rw (some (b,cap)) (es.length+ys.length)) else E m)=some e:=fun {m e} he hfx=>by
   have:m≠n:=fun e=>by rw[e,aA] at he;cases he;cases hfx
   rw[if_neg this];exact he
  refine ⟨fun _ _ h=>h,fun b1 o v af hv =>?_,fun m b aX he=>eM he rfl,fun m blk' l he =>?_,fun m b he=>eM he rfl,fun m b he=>eM he rfl,fun b1 es ck _ hm=>(setRow_other w b b1 _ (fun e=>by rw[e,hb] at hm;cases hm)).trans hm⟩
  ·by_cases hbb:b1=b
   ·subst hbb;have ho:=hD o af;have J:=setRow_heap w b1 cs (pre++news++rest.drop news.length).toArray T _ hb;rw[cell_of_row _ b1 o _ T (0,0) J];rw[cell_of_row _ b1 o _ T (0,0) hb] at hv;have e1:cs[o]?=pre[o]?:=by rw[←zx1,hcs,zz5 ho]
    rw[←hv,e1];simp only[List.getElem?_toArray,zz1];rw[zz5 ho]
   ·rw[vb _ _ _ _ hbb];exact hv
  ·by_cases hm:m=n
   ·subst hm;rw[aA] at he;simp only[v6,bM.rw.injEq] at he;exact ⟨_,_,if_pos rfl,by omega,fun e=>by omega⟩
   ·exact ⟨blk',l,by simp only[if_neg hm];exact he,Z4 _,fun _=>rfl⟩
 refine ⟨h.sz,h.eB.mono fun B _ hB=>(setRow_other w b B _ (fun e=>by rw[e,hb] at hB;cases hB)).trans hB,fun t=>aZ.later aq (h.dR t),wq h.dO hbase _,h.c9,fun b1 o af=>by have:=h.aQ b1 o af;simpa[World.setRow] using this,fun m =>?_,?_,fun m e hm =>?_,h.eP,h.cT,h.eW,h.kz aq⟩
 ·simp only[ai.aT];by_cases hm:m=n
  ·subst hm;simp only[if_true,c6];refine ⟨some (b,cap),by simp,fun e he =>?_,?_⟩
   ·rcases zy7.1 he with he | he
    ·exact hb2 e he
    ·exact hysz e he
   ·refine ⟨_,pre++news,rest.drop news.length,hbase,setRow_heap w b cs _ T _ hb,by simp,aN.later aq _ _ (jW _ _ _ _ hes hys),?_,by simpa using hlen,hcap,fun o ho =>?_⟩
    ·have e1:cs.size=pre.length+rest.length:=by rw[←zy2,hcs,Z7]
     have e2:news.length+pre.length≤cs.size:=by
      rw[hsize,hnl,hpl,←Nat.add_mul];exact Nat.mul_le_mul_right _ (by omega)
     simp only[List.size_toArray,Z7,List.length_drop];omega
    ·have:=hD o ho;rw[Z7];omega
  ·simp only[if_neg hm];refine (h.bP m).later aq (by simp only[if_neg hm]) fun e b1 he hb'=>⟨setRow_other w b b1 _ (fun e1=>hm (h.cQ m n e _ b he aA (by rw[hb',e1]) rfl)),fun _ ho=>ho⟩
 ·intro m m' e e' b' J U ah ar;by_cases hm:m=n <;>by_cases hm':m'=n
  ·rw[hm,hm']
  ·simp only[if_pos hm,v6] at J;simp only[if_neg hm'] at U;subst J;exact absurd (h.cQ m' n e' _ b' U aA ar ah) hm'
  ·simp only[if_neg hm] at J;simp only[if_pos hm',v6] at U;subst U;exact absurd (h.cQ m n e _ b' J aA ah ar) hm
  ·simp only[if_neg hm] at J;simp only[if_neg hm'] at U;exact h.cQ m m' e e' b' J U ah ar
 ·by_cases hmn:m=n
  ·subst hmn;rcases h.dS _ _ hm with k | ⟨e',k,hle⟩
   ·rw[aA] at k;cases k
   ·rw[aA] at k;cases k;exact .inr ⟨_,if_pos rfl,hle.trans (.inr ⟨_,_,_,_,rfl,rfl,by omega,fun e=>by omega⟩)⟩
  ·simp only[if_neg hmn];exact h.dS _ _ hm
theorem FL(n:Nat):(Builtin.zeroCells #[Value.int .i64 0] n).toList=(List.replicate n (0:Int)).map (Value.int .i64):=by
 simp only[Builtin.zeroCells,List.size_toArray,zw1,Nat.mul_one,Nat.mod_one,List.map_replicate];apply List.ext_getElem?;intro k;simp[List.getElem?_replicate];by_cases h:k<n
 ·rw[if_pos h,List.getElem?_range h];rfl
 ·rw[if_neg h,zx2 (by simpa using h)];rfl
theorem EB{w:World}{D:aP}{E:aY} : ∀ {xs:List Int} {cs:List Value},aN w D E (xs.map (I.int .i64)) cs→cs=xs.map (Value.int .i64)∧∀ x∈xs,IntKind.i64.min≤x∧x≤IntKind.i64.max
 | [],cs,h=>by
  simp only[zx0,aN] at h;subst h;exact ⟨rfl,by simp⟩
 |x::xs,cs,h=>by
  simp only[Z3,aN] at h;obtain ⟨c1,c2,rfl,J,U⟩:=h;obtain ⟨rfl,ah⟩:=EB U;have h1':c1=[.int .i64 x]∧IntKind.i64.min≤x∧x≤IntKind.i64.max:=J;obtain ⟨rfl,ar⟩:=h1';refine ⟨rfl,fun y hy =>?_⟩;rcases zw5.1 hy with rfl | hy
  ·exact ar
  ·exact ah y hy
theorem aU.Bq(h:aU c A a w D E){n:Nat}{T:TypeId}{cap m':Nat}{es ys:List Int}{cs:Array Value}{aJ:Option (Nat×Nat)}(hn:A.o n=some (.dK T es))(aA:E n=some (.rw aJ es.length))(hr:∀ x∈es++ys,IntKind.i64.min≤x∧x≤IntKind.i64.max)
  (hne:ys≠[]) (hcs:cs.toList=(es++ys++List.replicate m' 0).map (Value.int .i64)) (hlen:es.length+ys.length+m'=cap) (hcap:cap≤maxLen) :
  aU c (A.aT n (.dK T (es++ys))) a (w.drew.alloc (.cells cs T)) D (fun m=>if m=n then some (.rw (some (w.heap.size,cap)) (es.length+ys.length)) else E m):=by
 have hlast:0<ys.length:=List.length_pos_iff.2 hne;have hheap:∀ b,b<w.heap.size→(w.drew.alloc (.cells cs T)).heap[b]?=w.heap[b]?:=fun b hb=>Below.heap_alloc w.drew _ b hb;have aq:dW w D E (w.drew.alloc (.cells cs T)) D (fun m=>if m=n then some (.rw (some (w.heap.size,cap)) (es.length+ys.length)) else E m):=by
  have eM:∀ {m:Nat} {e:bM},E m=some e→e.eg=true→(if m=n then some (.rw (some (w.heap.size,cap)) (es.length+ys.length)) else E m)=some e:=fun {m e} he hfx=>by
   have:m≠n:=fun e=>by rw[e,aA] at he;cases he;cases hfx
   rw[if_neg this];exact he
  refine ⟨fun _ _ h=>h,fun b o v _ hv =>?_,fun m b aX he=>eM he rfl,fun m blk' l he =>?_,fun m b he=>eM he rfl,fun m b he=>eM he rfl,fun b es ck _ hm=>(hheap b (fJ hm)).trans hm⟩
  ·rw[World.cell?_of_block (hheap b (World.block_lt_of_cell? w _ hv))];exact hv
  ·by_cases hm:m=n
   ·subst hm;rw[aA] at he;simp only[v6,bM.rw.injEq] at he;exact ⟨_,_,if_pos rfl,by omega,fun e=>by omega⟩
   ·exact ⟨blk',l,by simp only[if_neg hm];exact he,Z4 _,fun _=>rfl⟩
 refine ⟨h.sz,h.eB.mono fun B _ hB=>(hheap B (zz2.1 hB).1).trans hB,fun t=>aZ.later aq (h.dR t),h.dO.trans ⟨rfl,rfl,rfl,by simp,fun k hk=>hheap k (h.old hk)⟩,h.c9,fun b o hd'=>by have:=h.aQ b o hd';simp;omega,fun m =>?_,?_,fun m e hm =>?_,h.eP,h.cT,h.eW,h.kz aq⟩
 ·simp only[ai.aT];by_cases hm:m=n
  ·subst hm;simp only[if_true,c6];exact ⟨some (w.heap.size,cap),by simp,hr,cs,m',.inl h.dO.size,heap_alloc_new w.drew _,hcs,by simp[hne],by simp only[Z7];exact hlen,hcap,fun o ho=>absurd (h.aQ _ o ho) (Nat.lt_irrefl _)⟩
  ·simp only[if_neg hm];exact (h.bP m).later aq (by simp only[if_neg hm]) fun e b he hb=>⟨hheap b (h.fX he hb),fun _ ho=>ho⟩
 ·intro m m' e e' b J U ah ar;by_cases hm:m=n <;>by_cases hm':m'=n
  ·rw[hm,hm']
  ·simp only[if_pos hm,v6] at J;simp only[if_neg hm'] at U;subst J;simp only[bM.aJ,v6] at ah;have:=h.fX U ar;omega
  ·simp only[if_neg hm] at J;simp only[if_pos hm',v6] at U;subst U;simp only[bM.aJ,v6] at ar;have:=h.fX J ah;omega
  ·simp only[if_neg hm] at J;simp only[if_neg hm'] at U;exact h.cQ m m' e e' b J U ah ar
 ·by_cases hmn:m=n
  ·subst hmn;rcases h.dS _ _ hm with k | ⟨e',k,hle⟩
   ·rw[aA] at k;cases k
   ·rw[aA] at k;cases k;exact .inr ⟨_,if_pos rfl,hle.trans (.inr ⟨_,_,_,_,rfl,rfl,by omega,fun e=>by omega⟩)⟩
  ·simp only[if_neg hmn];exact h.dS _ _ hm
theorem aU.X4(h:aU c A a w D E){n:Nat}{T:TypeId}{b cap m':Nat}{es ys:List Int}{cs:Array Value}(hn:A.o n=some (.dK T es))(aA:E n=some (.rw (some (b,cap)) es.length))(hb:w.heap[b]?=some (.cells cs T (0,0)))
  (hr:∀ x∈es++ys,IntKind.i64.min≤x∧x≤IntKind.i64.max) (hne:ys≠[]) (hlen:es.length+ys.length+m'=cap) (hcap:cap≤maxLen) (hD:∀ o,¬ D b o) (hbase:c.eZ b) :
  aU c (A.aT n (.dK T (es++ys))) a (w.setRow b ((es++ys++List.replicate m' 0).map (Value.int .i64)).toArray) D (fun m=>if m=n then some (.rw (some (b,cap)) (es.length+ys.length)) else E m):=by
 have hlast:0<ys.length:=List.length_pos_iff.2 hne;have aq:dW w D E (w.setRow b ((es++ys++List.replicate m' 0).map (Value.int .i64)).toArray) D (fun m=>if m=n then some (.rw (some (b,cap)) (es.length+ys.length)) else E m):=by
  have eM:∀ {m:Nat} {e:bM},E m=some e→e.eg=true→(if m=n then some (.rw (some (b,cap)) (es.length+ys.length)) else E m)=some e:=fun {m e} he hfx=>by
   have:m≠n:=fun e=>by rw[e,aA] at he;cases he;cases hfx
   rw[if_neg this];exact he
  refine ⟨fun _ _ h=>h,fun b1 o v af hv =>?_,fun m b aX he=>eM he rfl,fun m blk' l he =>?_,fun m b he=>eM he rfl,fun m b he=>eM he rfl,fun b1 es ck _ hm=>(setRow_other w b b1 _ (fun e=>by rw[e,hb] at hm;cases hm)).trans hm⟩
  ·by_cases hbb:b1=b
   ·subst hbb;exact absurd af (hD o)
   ·rw[vb _ _ _ _ hbb];exact hv
  ·by_cases hm:m=n
   ·subst hm;rw[aA] at he;simp only[v6,bM.rw.injEq] at he;exact ⟨_,_,if_pos rfl,by omega,fun e=>by omega⟩
   ·exact ⟨blk',l,by simp only[if_neg hm];exact he,Z4 _,fun _=>rfl⟩
 refine ⟨h.sz,h.eB.mono fun B _ hB=>(setRow_other w b B _ (fun e=>by rw[e,hb] at hB;cases hB)).trans hB,fun t=>aZ.later aq (h.dR t),wq h.dO hbase _,h.c9,fun b1 o af=>by have:=h.aQ b1 o af;simpa[World.setRow] using this,fun m =>?_,?_,fun m e hm =>?_,h.eP,h.cT,h.eW,h.kz aq⟩
 ·simp only[ai.aT];by_cases hm:m=n
  ·subst hm;simp only[if_true,c6];exact ⟨some (b,cap),by simp,hr,_,m',hbase,setRow_heap w b cs _ T _ hb,by simp,by simp[hne],by simp only[Z7];exact hlen,hcap,hD⟩
  ·simp only[if_neg hm];refine (h.bP m).later aq (by simp only[if_neg hm]) fun e b1 he hb'=>⟨setRow_other w b b1 _ (fun e1=>hm (h.cQ m n e _ b he aA (by rw[hb',e1]) rfl)),fun _ ho=>ho⟩
 ·intro m m' e e' b' J U ah ar;by_cases hm:m=n <;>by_cases hm':m'=n
  ·rw[hm,hm']
  ·simp only[if_pos hm,v6] at J;simp only[if_neg hm'] at U;subst J;exact absurd (h.cQ m' n e' _ b' U aA ar ah) hm'
  ·simp only[if_neg hm] at J;simp only[if_pos hm',v6] at U;subst U;exact absurd (h.cQ m n e _ b' J aA ah ar) hm
  ·simp only[if_neg hm] at J;simp only[if_neg hm'] at U;exact h.cQ m m' e e' b' J U ah ar
 ·by_cases hmn:m=n
  ·subst hmn;rcases h.dS _ _ hm with k | ⟨e',k,hle⟩
   ·rw[aA] at k;cases k
   ·rw[aA] at k;cases k;exact .inr ⟨_,if_pos rfl,hle.trans (.inr ⟨_,_,_,_,rfl,rfl,by omega,fun e=>by omega⟩)⟩
  ·simp only[if_neg hmn];exact h.dS _ _ hm
end
section
variable {c:cV} {A:ai} {o:Oper}
theorem Mb{t e:TypeId}{s x:Operand}{s' x':aO}{n k sz:Nat}{es ys:List I}{z:I}(ho:o.op=.call { callee:=.builtin .append,args := #[s,x],argTypes := #[t,t] })(ht:c.P.underlying t=some (.slice e))(hs':bx c.P t s=some s')(hx':bx c.P t x=some x')
  (hz:gj c.P e=some z) (hzs:z.size=c.P.cellsOf e) (hpos:0<c.P.cellsOf e) (ab:ak A s'=.own n k) (hn:A.o n=some (.bU e (c.P.cellsOf e) es)) (hk:k=es.length) (hx:ak A x'=.slice sz ys) (hsz:sz=c.P.cellsOf e) (hne:ys≠[])
  (h63:es.length+ys.length≤maxLen) (hby:(es.length+ys.length)*c.P.bytesOf e≤140737488355328) (af:∀ k,o.dst=some k→k<c.n) :
  h1 c A o ((A.aT n (.bU e (c.P.cellsOf e) (es++ys))).aS o.dst (.own n (es.length+ys.length))):=by
 intro a w D E hsim;obtain ⟨i,zv,hi,hzv,hzr⟩:=lz hz;have hci:c.P.cellsOf e=i.size:=by simp[Program.cellsOf,hi]
 have hbi:c.P.bytesOf e=i.bytes:=by simp[Program.bytesOf,hi]
 have hzc:zv.cells.size=i.size:=by
  have:=al.length _ _ (hzr w D E);rw[zy2] at this;rw[this,hzs,hci]
 subst hk;have v1:=bX hsim hs';rw[ab] at v1;have v2:=bX hsim hx';rw[hx] at v2;obtain ⟨ad,cp,hxv,hc1,hc2,hc3,hc4⟩:=nf v2;obtain ⟨b2,off2,news,rfl,hr2,hys⟩:=hc3.resolve_left hne;have hobj:=hsim.bP n;rw[hn] at hobj;obtain ⟨aJ,aA,hesz,hblk⟩:=hobj;have hnl:news.length=ys.length*i.size:=by rw[aN.length _ _ hys,I.im _ hc4,hsz,hci]
 have hysz:∀ y∈ys,y.size=c.P.cellsOf e:=fun y hy=>by rw[hc4 y hy,hsz]
 have hnews:∀ j v,news[j]?=some v→w.cell? ((⟨b2,off2,none⟩:Addr).add j)=some v:=fun j v hj=>by
  rw[Addr.add_lit];exact (hr2 j v hj).1
 have J:=aN.lV _ _ hys;have hsv:match aJ with | none=>a.eval s=.slice none 0 0 | some (b,cap)=>a.eval s=.slice (some ⟨b,0,none⟩) es.length cap:=by
  obtain ⟨cs,q1,q2⟩:=v1;simp only[al] at q2;obtain ⟨blk',l,q3,q4,q5,q6⟩:=q2;rw[aA] at q3;simp only[v6,bM.rw.injEq] at q3;obtain ⟨rfl,rfl⟩:=q3;have q7:=q6 rfl;simp only[bD,I.isAgg] at q1;cases aJ with
  |none=>simp only at q7 ⊢;rw[q7] at q1;simpa using q1.symm
  |some bc=>simp only at q7 ⊢;rw[q7] at q1;simpa using q1.symm
 have hl0:0<ys.length:=List.length_pos_iff.2 hne;have h63':=h63;simp only[maxLen] at h63';have run:∀ v' w',(Builtin.append_ #[t,t] o.type #[a.eval s,.slice (some ⟨b2,off2,none⟩) ys.length cp]).run c.P w=.ok v' w'→(execOp a.eval o).run c.P w=.ok (.value v') w':=by
  intro v' w' hr;unfold execOp;simp only[ho,resolve,invoke,builtin,Sem.run_bind,Sem.run_pure,Result.andThen_ok,List.map_toArray,Z3,zx0,hxv,hr]
 have put:∀ (w':World) (b cap:Nat) (v':Value),v'=.slice (some ⟨b,0,none⟩) (es.length+ys.length) cap→aU c (A.aT n (.bU e (c.P.cellsOf e) (es++ys))) a w' D (fun m=>if m=n then some (.rw (some (b,cap)) (es.length+ys.length)) else E m) →
   b5 c ((A.aT n (.bU e (c.P.cellsOf e) (es++ys))).aS o.dst (.own n (es.length+ys.length))) (a.put o.dst v') w':=by
  rintro w' b cap v' rfl hs2;refine ⟨D,_,hs2.aS af ⟨_,by simp[bD,I.isAgg];rfl,?_⟩⟩;simp only[al,if_true];exact ⟨some (b,cap),es.length+ys.length,rfl,Z4 _,⟨_,_,_,rfl⟩,fun _=>rfl⟩
 cases aJ with
 |none =>
  simp only at hblk hsv;subst hblk;have hr:=run_append_nil (P:=c.P) w t o.type e i zv ht hi hzv ⟨b2,off2,none⟩ ys.length cp news hnl hnews hl0 (by simp at h63';omega) (by rw[hbi] at hby;simp at hby;omega);rw[←hsv] at hr;have hge:=grownCap_ge w ys.length 0 e;refine ⟨_,.inl ⟨_,run _ _ hr,put _ w.heap.size (grownCap w ys.length 0 e) _ (by simp) ?_⟩⟩;refine hsim.Bp (pre:=[]) (news:=news) (rest:=(Builtin.zeroCells zv.cells (grownCap w ys.length 0 e-ys.length)).toList) hn aA (by simp[aN]) hys hysz hne (by simp) ?_ (by simpa using hge) (grownCap_le_maxLen w ys.length 0 e (by simpa using h63));simp only[Array.size_append,List.size_toArray,size_zeroCells,hzc,hnl,hci,←Nat.add_mul]
  congr 1
  omega
 |some bc =>
  obtain ⟨b,cap⟩:=bc;simp only at hblk hsv;obtain ⟨cs,pre,rest,k1,k2,k3,k4,k5,k6,k7,k8⟩:=hblk;have hpl:pre.length=es.length*i.size:=by rw[aN.length _ _ k4,I.im _ hesz,hci]
  by_cases hroom:es.length+ys.length≤cap
  ·have hfit:es.length*i.size+news.length≤cs.size:=by rw[hnl,k5,hci,←Nat.add_mul];exact Nat.mul_le_mul_right _ hroom
   have hr:=run_append_room (P:=c.P) w t o.type e i ht hi b es.length cap cs k2 ⟨b2,off2,none⟩ ys.length cp news hnl hnews J hroom hfit;rw[←hsv] at hr;refine ⟨_,.inl ⟨_,run _ _ hr,put _ b cap _ rfl ?_⟩⟩;have e1:cs.toList.take (es.length*i.size)=pre:=by rw[k3,←hpl];exact List.take_left
   have e2:cs.toList.drop (es.length*i.size+news.length)=rest.drop news.length:=by rw[k3,←hpl,←List.drop_drop,List.drop_left]
   rw[e1,e2];exact hsim.X3 hn aA k2 k3 k4 hys hysz hne k5 hroom k7 k8 k1
  ·have holds:∀ j v,pre[j]?=some v→w.cell? ((⟨b,0,none⟩:Addr).add j)=some v:=fun j v hj=>by
    rw[Addr.add_lit,Z1,cell_of_row w b j cs e (0,0) k2,←zx1,k3];have:j<pre.length:=(Z6.1 hj).1;rw[zz5 this];exact hj
   have hr:=run_append_grow (P:=c.P) w t o.type e i zv ht hi hzv ⟨b,0,none⟩ es.length cap pre hpl holds ⟨b2,off2,none⟩ ys.length cp news hnl hnews (by omega) (by omega) (growslice_fits (by omega) (by rw[←hbi];exact hby));rw[←hsv] at hr;have hge:=grownCap_ge w (es.length+ys.length) cap e;refine ⟨_,.inl ⟨_,run _ _ hr,put _ w.heap.size (grownCap w (es.length+ys.length) cap e) _ rfl ?_⟩⟩;refine hsim.Bp (pre:=pre) (news:=news) (rest:=(Builtin.zeroCells zv.cells (grownCap w (es.length+ys.length) cap e-(es.length+ys.length))).toList) hn aA k4 hys hysz hne (by simp) ?_ hge (grownCap_le_maxLen w _ cap e h63);simp only[Array.size_append,List.size_toArray,size_zeroCells,hzc,hnl,hpl,hci,←Nat.add_mul]
   congr 1
   omega
theorem Mc{t e:TypeId}{s x:Operand}{s' x':aO}{n k sz:Nat}{es ys:List Int}(ho:o.op=.call { callee:=.builtin .append,args := #[s,x],argTypes := #[t,t] })(ht:c.P.underlying t=some (.slice e))(hs':bx c.P t s=some s')(hx':bx c.P t x=some x')
  (hz:gj c.P e=some (.int .i64 0)) (h1c:c.P.cellsOf e=1) (ab:ak A s'=.own n k) (hn:A.o n=some (.dK e es)) (hk:k=es.length) (hx:ak A x'=.slice sz (ys.map (.int .i64))) (hne:ys≠[])
  (h63:es.length+ys.length≤maxLen) (hby:(es.length+ys.length)*c.P.bytesOf e≤140737488355328) (af:∀ k,o.dst=some k→k<c.n) :
  h1 c A o ((A.aT n (.dK e (es++ys))).aS o.dst (.own n (es.length+ys.length))):=by
 intro a w D E hsim;obtain ⟨i,zv,hi,hzv,hzr⟩:=lz hz;have hci:c.P.cellsOf e=i.size:=by simp[Program.cellsOf,hi]
 have hi1:i.size=1:=hci.symm.trans h1c;have hbi:c.P.bytesOf e=i.bytes:=by simp[Program.bytesOf,hi]
 have hzv2:zv.cells = #[Value.int .i64 0]:=by
  have:zv.cells.toList=[Value.int .i64 0]:=(hzr w D E).1;exact Array.toList_inj.1 this
 subst hk;have v1:=bX hsim hs';rw[ab] at v1;have v2:=bX hsim hx';rw[hx] at v2;obtain ⟨ad,cp,hxv,hc1,hc2,hc3,hc4⟩:=nf v2;obtain ⟨b2,off2,news,rfl,hr2,hys⟩:=hc3.resolve_left (by simpa using hne);rw[Z8] at hxv;obtain ⟨aJ,aA,hesr,hblk⟩:=hsim.rV hn;obtain ⟨hnw,hyr⟩:=EB hys;have hnl0:news.length=ys.length:=by rw[hnw,Z8]
 have hnl:news.length=ys.length*i.size:=by rw[hi1,Nat.mul_one,hnl0]
 have hrr:∀ x∈es++ys,IntKind.i64.min≤x∧x≤IntKind.i64.max:=fun x hx=>by
  rcases zy7.1 hx with h | h
  ·exact hesr x h
  ·exact hyr x h
 have hnews:∀ j v,news[j]?=some v→w.cell? ((⟨b2,off2,none⟩:Addr).add j)=some v:=fun j v hj=>by
  rw[Addr.add_lit];exact (hr2 j v hj).1
 have J:=aN.lV _ _ hys;have hsv:match aJ with | none=>a.eval s=.slice none 0 0 | some (b,cap)=>a.eval s=.slice (some ⟨b,0,none⟩) es.length cap:=by
  obtain ⟨cs,q1,q2⟩:=v1;simp only[al] at q2;obtain ⟨blk',l,q3,q4,q5,q6⟩:=q2;rw[aA] at q3;simp only[v6,bM.rw.injEq] at q3;obtain ⟨rfl,rfl⟩:=q3;have q7:=q6 rfl;simp only[bD,I.isAgg] at q1;cases aJ with
  |none=>simp only at q7 ⊢;rw[q7] at q1;simpa using q1.symm
  |some bc=>simp only at q7 ⊢;rw[q7] at q1;simpa using q1.symm
 have hl0:0<ys.length:=List.length_pos_iff.2 hne;have h63':=h63;simp only[maxLen] at h63';have run:∀ v' w',(Builtin.append_ #[t,t] o.type #[a.eval s,.slice (some ⟨b2,off2,none⟩) ys.length cp]).run c.P w=.ok v' w'→(execOp a.eval o).run c.P w=.ok (.value v') w':=by
  intro v' w' hr;unfold execOp;simp only[ho,resolve,invoke,builtin,Sem.run_bind,Sem.run_pure,Result.andThen_ok,List.map_toArray,Z3,zx0,hxv,hr]
 have put:∀ (w':World) (b cap:Nat) (v':Value),v'=.slice (some ⟨b,0,none⟩) (es.length+ys.length) cap→aU c (A.aT n (.dK e (es++ys))) a w' D (fun m=>if m=n then some (.rw (some (b,cap)) (es.length+ys.length)) else E m) →
   b5 c ((A.aT n (.dK e (es++ys))).aS o.dst (.own n (es.length+ys.length))) (a.put o.dst v') w':=by
  rintro w' b cap v' rfl hs2;refine ⟨D,_,hs2.aS af ⟨_,by simp[bD,I.isAgg];rfl,?_⟩⟩;simp only[al,if_true];exact ⟨some (b,cap),es.length+ys.length,rfl,Z4 _,⟨_,_,_,rfl⟩,fun _=>rfl⟩
 cases aJ with
 |none =>
  simp only at hblk hsv;subst hblk;have hr:=run_append_nil (P:=c.P) w t o.type e i zv ht hi hzv ⟨b2,off2,none⟩ ys.length cp news hnl hnews hl0 (by simp at h63';omega) (by rw[hbi] at hby;simp at hby;omega);rw[←hsv] at hr;have hge:=grownCap_ge w ys.length 0 e;refine ⟨_,.inl ⟨_,run _ _ hr,put _ w.heap.size (grownCap w ys.length 0 e) _ (by simp) ?_⟩⟩;refine hsim.Bq (m':=grownCap w ys.length 0 e-ys.length) hn aA hrr hne ?_ (by simp;omega) (grownCap_le_maxLen w ys.length 0 e (by simpa using h63));rw[hzv2];simp only[Array.toList_append,FL,zy8,zz3,hnw]
 |some bc =>
  obtain ⟨b,cap⟩:=bc;simp only at hblk hsv;obtain ⟨cs,m,k1,k2,k3,k4,k5,k6,k7⟩:=hblk;have hcz:cs.size=cap:=by rw[←zy2,k3];simp;omega
  by_cases hroom:es.length+ys.length≤cap
  ·have hfit:es.length*i.size+news.length≤cs.size:=by rw[hnl,hi1];omega
   have hr:=run_append_room (P:=c.P) w t o.type e i ht hi b es.length cap cs k2 ⟨b2,off2,none⟩ ys.length cp news hnl hnews J hroom hfit;rw[←hsv] at hr;refine ⟨_,.inl ⟨_,run _ _ hr,put _ b cap _ rfl ?_⟩⟩;have e0:cs.toList.take (es.length*i.size)++news++cs.toList.drop (es.length*i.size+news.length)=(es++ys++List.replicate (m-ys.length) 0).map (Value.int .i64):=by
    rw[hi1,Nat.mul_one,hnl0,k3,hnw,←List.map_take,←List.map_drop,List.take_left,←List.drop_drop,List.drop_left];simp only[zz3,List.drop_replicate]
   rw[e0];exact hsim.X4 (m':=m-ys.length) hn aA k2 hrr hne (by omega) k6 k7 k1
  ·have hpl:(es.map (Value.int .i64)).length=es.length*i.size:=by rw[hi1];simp
   have holds:∀ j v,(es.map (Value.int .i64))[j]?=some v→w.cell? ((⟨b,0,none⟩:Addr).add j)=some v:=fun j v hj=>by
    rw[Addr.add_lit,Z1,cell_of_row w b j cs e (0,0) k2,←zx1,k3];have:j<(es.map (Value.int .i64)).length:=(Z6.1 hj).1;rw[zz3,zz5 this];exact hj
   have hr:=run_append_grow (P:=c.P) w t o.type e i zv ht hi hzv ⟨b,0,none⟩ es.length cap (es.map (Value.int .i64)) hpl holds ⟨b2,off2,none⟩ ys.length cp news hnl hnews (by omega) (by omega) (growslice_fits (by omega) (by rw[←hbi];exact hby));rw[←hsv] at hr;have hge:=grownCap_ge w (es.length+ys.length) cap e;refine ⟨_,.inl ⟨_,run _ _ hr,put _ w.heap.size (grownCap w (es.length+ys.length) cap e) _ rfl ?_⟩⟩;refine hsim.Bq (m':=grownCap w (es.length+ys.length) cap e-(es.length+ys.length)) hn aA hrr hne ?_ (by omega) (grownCap_le_maxLen w _ cap e h63);rw[hzv2];simp only[Array.toList_append,FL,zz3,hnw]
end
mutual
def I.only(p:Nat→Bool):I→Bool
 | .agg fs | .tuple fs=>I.cv p fs
 | .slice _ es=>I.cv p es
 | .ref x=>x.only p
 | .func _ caps=>I.cv p caps
 | .iface _ v=>v.only p
 | .ptr n _ | .own n _ | .view n _ _ _ _ | .mref n | .dq n=>p n
 | .dj ks vs=>I.cv p ks&&I.cv p vs
 |_=>true
def I.cv(p:Nat→Bool):List I→Bool
 | []=>true
 |x::xs=>x.only p&&I.cv p xs
end
mutual
theorem jS(p:Nat→Bool):∀ x:I,x.bA=true→x.only p=true
 | .agg fs,h=>by simp only[I.bA,I.only] at *;exact mS p fs h
 | .slice _ es,h=>by simp only[I.bA,I.only] at *;exact mS p es h
 | .ref x,h=>by simp only[I.bA,I.only] at *;exact jS p x h
 | .func _ caps,h=>by simp only[I.bA,I.only] at *;exact mS p caps h
 | .iface _ v,h=>by simp only[I.bA,I.only] at *;exact jS p v h
 | .bool _,_ | .int _ _,_ | .bQ _,_ | .nilp,_ | .dB,_ | .dX,_ | .any,_ | .raw _,_ | .nils _,_ | .c0 _,_=>by simp[I.only]
 | .dj ks vs,h=>by simp only[I.bA,I.only,t8] at *;exact ⟨mS p ks h.1,mS p vs h.2⟩
 | .ptr _ _,h | .own _ _,h | .view _ _ _ _ _,h | .mref _,h | .dq _,h | .undef,h | .dw,h | .tuple _,h=>by simp[I.bA] at h
theorem mS(p:Nat→Bool):∀ xs:List I,I.cq xs=true→I.cv p xs=true
 | [],_=>rfl
 |x::xs,h=>by
  simp only[I.cq,I.cv,t8] at *;exact ⟨jS p x h.1,mS p xs h.2⟩
end
mutual
theorem al.db{w:World}{D:aP}{E E':aY}{p:Nat→Bool}(aA:∀ n,p n=true→E' n=E n):∀ (x:I) (cs:List Value),x.only p=true→al w D E x cs→al w D E' x cs
 | .agg fs,cs,ho,hr=>by simp only[al,I.only] at *;exact aN.db aA fs cs ho hr
 | .bool b,cs,_,hr=>by simpa only[al] using hr
 | .int k n,cs,_,hr=>by simpa only[al] using hr
 | .bQ s,cs,_,hr=>by simpa only[al] using hr
 | .nilp,cs,_,hr=>by simpa only[al] using hr
 | .dB,cs,_,hr=>by simpa only[al] using hr
 | .dX,cs,_,hr | .any,cs,_,hr=>by simpa only[al] using hr
 | .raw _,cs,_,hr=>by simpa only[al] using hr
 | .nils _,cs,_,hr=>by simpa only[al] using hr
 | .c0 _,cs,_,hr=>by simpa only[al] using hr
 | .slice sz es,cs,ho,hr=>by
  simp only[al,I.only] at *;obtain ⟨a,cap,J,U,ah,ar,h5⟩:=hr;refine ⟨a,cap,J,U,ah,?_,h5⟩;rcases ar with ar | ⟨b,off,cs',h6,h7,h8⟩
  ·exact .inl ar
  ·exact .inr ⟨b,off,cs',h6,h7,aN.db aA es cs' ho h8⟩
 | .ref x,cs,ho,hr=>by
  simp only[al,I.only] at *;obtain ⟨b,off,cs',J,U,ah⟩:=hr;exact ⟨b,off,cs',J,U,al.db aA x cs' ho ah⟩
 | .func f caps,cs,ho,hr=>by
  simp only[al,I.only] at *;obtain ⟨vs,J,U⟩:=hr;exact ⟨vs,J,aI.db aA caps vs ho U⟩
 | .iface t v,cs,ho,hr=>by
  simp only[al,I.only] at *;obtain ⟨u,cs',J,U,ah⟩:=hr;exact ⟨u,cs',J,U,al.db aA v cs' ho ah⟩
 | .ptr n p,cs,ho,hr=>by
  simp only[al,I.only] at *;obtain ⟨b,aX,off,J,U⟩:=hr;exact ⟨b,aX,off,(aA n ho).trans J,U⟩
 | .own n k,cs,ho,hr=>by
  simp only[al,I.only] at *;obtain ⟨aJ,l,J,U⟩:=hr;exact ⟨aJ,l,(aA n ho).trans J,U⟩
 | .view n p _ _ _,cs,ho,hr=>by
  simp only[al,I.only] at *;obtain ⟨b,aX,off,l,J,U⟩:=hr;exact ⟨b,aX,off,l,(aA n ho).trans J,U⟩
 | .mref n,cs,ho,hr=>by
  simp only[al,I.only] at *;obtain ⟨b,J,U⟩:=hr;exact ⟨b,(aA n ho).trans J,U⟩
 | .dq n,cs,ho,hr=>by
  simp only[al,I.only] at *;obtain ⟨b,J,U⟩:=hr;exact ⟨b,(aA n ho).trans J,U⟩
 | .dj ks vs,cs,ho,hr=>by
  simp only[al,I.only,t8] at *;obtain ⟨b,es,ck,J,U,ah,ar⟩:=hr;exact ⟨b,es,ck,J,U,aI.db aA ks _ ho.1 ah,aI.db aA vs _ ho.2 ar⟩
 | .undef,_,_,hr=>by simp only[al] at hr
 | .dw,_,_,hr=>by simp only[al] at hr
 | .tuple _,_,_,hr=>by simp only[al] at hr
theorem aN.db{w:World}{D:aP}{E E':aY}{p:Nat→Bool}(aA:∀ n,p n=true→E' n=E n):∀ (xs:List I) (cs:List Value),I.cv p xs=true→aN w D E xs cs→aN w D E' xs cs
 | [],cs,_,hr=>by simpa only[aN] using hr
 |x::xs,cs,ho,hr=>by
  simp only[aN,I.cv,t8] at *;obtain ⟨c1,c2,J,U,ah⟩:=hr;exact ⟨c1,c2,J,al.db aA x c1 ho.1 U,aN.db aA xs c2 ho.2 ah⟩
theorem aI.db{w:World}{D:aP}{E E':aY}{p:Nat→Bool}(aA:∀ n,p n=true→E' n=E n):∀ (xs:List I) (vs:List Value),I.cv p xs=true→aI w D E xs vs→aI w D E' xs vs
 | [],vs,_,hr=>by simpa only[aI] using hr
 |x::xs,vs,ho,hr=>by
  simp only[aI,I.cv,t8] at *;obtain ⟨v,rest,cs,J,U,ah,ar⟩:=hr;exact ⟨v,rest,cs,J,U,al.db aA x cs ho.1 ah,aI.db aA xs rest ho.2 ar⟩
end
theorem aZ.db{w:World}{D:aP}{E E':aY}{p:Nat→Bool}(aA:∀ n,p n=true→E' n=E n){x:I}{v:Value}(ho:x.only p=true)(hr:aZ w D E x v):aZ w D E' x v:=by
 cases x <;>simp only[aZ] at * <;>first
  |exact hr
  |(obtain ⟨vs,J,U⟩:=hr;exact ⟨vs,J,aI.db aA _ _ (by simpa[I.only] using ho) U⟩)
  |(obtain ⟨cs,J,U⟩:=hr;exact ⟨cs,J,al.db aA _ _ ho U⟩)
def ao.only(p:Nat→Bool):ao→Bool
 | .box x=>x.only p
 | .bU _ _ es=>I.cv p es
 | .dJ _=>true
 | .dK _ _=>true
 | .bz ks vs | .it ks vs _ _=>I.cv p ks&&I.cv p vs
def bI:List (Nat×Nat)→Nat→Nat
 | [],n=>n
 |(a,b)::r,n=>if n=a then b else bI r n
mutual
def I.bn(ρ:Nat→Nat):I→I
 | .agg fs=>.agg (I.dU ρ fs)
 | .tuple fs=>.tuple (I.dU ρ fs)
 | .slice sz es=>.slice sz (I.dU ρ es)
 | .ref x=>.ref (x.bn ρ)
 | .func f caps=>.func f (I.dU ρ caps)
 | .iface t v=>.iface t (v.bn ρ)
 | .ptr n p=>.ptr (ρ n) p
 | .own n k=>.own (ρ n) k
 | .view n p sz lo k=>.view (ρ n) p sz lo k
 | .mref n=>.mref (ρ n)
 | .dq n=>.dq (ρ n)
 | .dj ks vs=>.dj (I.dU ρ ks) (I.dU ρ vs)
 | .undef=>.undef | .dw=>.dw | .bool b=>.bool b | .int k n=>.int k n | .bQ s=>.bQ s
 | .nilp=>.nilp | .dB=>.dB | .dX=>.dX | .any=>.any | .raw u=>.raw u | .nils z=>.nils z | .c0 z=>.c0 z
def I.dU(ρ:Nat→Nat):List I→List I
 | []=>[]
 |x::xs=>x.bn ρ::I.dU ρ xs
end
def ao.bn(ρ:Nat→Nat):ao→ao
 | .box x=>.box (x.bn ρ)
 | .bU T sz es=>.bU T sz (I.dU ρ es)
 | .dJ x=>.dJ x
 | .dK T xs=>.dK T xs
 | .bz ks vs=>.bz (I.dU ρ ks) (I.dU ρ vs)
 | .it ks vs left cur=>.it (I.dU ρ ks) (I.dU ρ vs) left cur
mutual
theorem rD(ρ:Nat→Nat):∀ x:I,(x.bn ρ).size=x.size
 | .agg fs=>by simp only[I.bn,I.size];exact ET ρ fs
 | .undef | .dw | .bool _ | .int _ _ | .bQ _ | .nilp | .dB | .dX | .any | .raw _ | .nils _ | .c0 _ | .slice _ _ | .tuple _ | .ref _ | .func _ _ | .iface _ _ | .ptr _ _ | .own _ _ | .view _ _ _ _ _ | .mref _ | .dq _ | .dj _ _=>by simp only[I.bn,I.size]
theorem ET(ρ:Nat→Nat):∀ xs:List I,I.sizes (I.dU ρ xs)=I.sizes xs
 | []=>rfl
 |x::xs=>by simp only[I.dU,I.sizes,rD ρ x,ET ρ xs]
end
mutual
theorem xq(ρ:Nat→Nat):∀ x:I,(x.bn ρ).aX=x.aX
 | .agg fs=>by simp only[I.bn,I.aX,cR.eI.injEq];exact ES ρ fs
 | .undef | .dw | .bool _ | .int _ _ | .bQ _ | .nilp | .dB | .dX | .any | .raw _ | .nils _ | .c0 _ | .slice _ _ | .tuple _ | .ref _ | .func _ _ | .iface _ _ | .ptr _ _ | .own _ _ | .view _ _ _ _ _ | .mref _ | .dq _ | .dj _ _=>by simp only[I.bn,I.aX]
theorem ES(ρ:Nat→Nat):∀ xs:List I,I.c7 (I.dU ρ xs)=I.c7 xs
 | []=>rfl
 |x::xs=>by simp only[I.dU,I.c7,xq ρ x,ES ρ xs]
end
theorem YR(ρ:Nat→Nat)(x:I):(x.bn ρ).isAgg=x.isAgg:=by cases x <;>simp[I.bn,I.isAgg]
theorem rF(ρ:Nat→Nat)(xs:List I):I.dU ρ xs=xs.map (I.bn ρ):=by
 induction xs with
 |nil=>rfl
 |cons x xs ih=>simp[I.dU,ih]
theorem rE(ρ:Nat→Nat)(xs:List I):(I.dU ρ xs).length=xs.length:=by rw[rF];simp
theorem EO(ρ:Nat→Nat)(x:I)(v:Value)(cs:List Value):bD (x.bn ρ) v cs=bD x v cs:=by simp only[bD,YR]
mutual
/-- A value,its names put for others that stand for the same. -/
theorem al.bn{w:World}{D:aP}{E E':aY}{p:Nat→Bool}{ρ:Nat→Nat}(aA:∀ n,p n=true→E' (ρ n)=E n):∀ (x:I) (cs:List Value),x.only p=true→(al w D E' (x.bn ρ) cs↔al w D E x cs)
 | .agg fs,cs,ho=>by simp only[al,I.bn,I.only] at *;exact aN.bn aA fs cs ho
 | .bool b,cs,_ | .int k n,cs,_ | .bQ s,cs,_ | .nilp,cs,_ | .dB,cs,_ | .dX,cs,_ | .any,cs,_ | .raw _,cs,_ | .nils _,cs,_ | .c0 _,cs,_ | .undef,cs,_ | .dw,cs,_ | .tuple _,cs,_=>by simp only[al,I.bn]
 | .slice sz es,cs,ho=>by
  simp only[al,I.bn,I.only,rE] at *;have e1:(I.dU ρ es=[])↔es=[]:=by rw[←List.length_eq_zero_iff,rE,List.length_eq_zero_iff]
  have e2:(∀ e∈I.dU ρ es,e.size=sz)↔∀ e∈es,e.size=sz:=by
   rw[rF];constructor
   ·intro h e he;rw[←rD ρ e];exact h _ (zy1.2 ⟨e,he,rfl⟩)
   ·intro h e he;obtain ⟨e',he',rfl⟩:=zy1.1 he;rw[rD];exact h _ he'
  simp only[e1,e2];constructor
  ·rintro ⟨a,cap,J,U,ah,ar,h5⟩;refine ⟨a,cap,J,U,ah,?_,h5⟩;rcases ar with ar | ⟨b,off,cs',h6,h7,h8⟩
   ·exact .inl ar
   ·exact .inr ⟨b,off,cs',h6,h7,(aN.bn aA es cs' ho).1 h8⟩
  ·rintro ⟨a,cap,J,U,ah,ar,h5⟩;refine ⟨a,cap,J,U,ah,?_,h5⟩;rcases ar with ar | ⟨b,off,cs',h6,h7,h8⟩
   ·exact .inl ar
   ·exact .inr ⟨b,off,cs',h6,h7,(aN.bn aA es cs' ho).2 h8⟩
 | .ref x,cs,ho=>by
  simp only[al,I.bn,I.only] at *;constructor
  ·rintro ⟨b,off,cs',J,U,ah⟩;exact ⟨b,off,cs',J,U,(al.bn aA x cs' ho).1 ah⟩
  ·rintro ⟨b,off,cs',J,U,ah⟩;exact ⟨b,off,cs',J,U,(al.bn aA x cs' ho).2 ah⟩
 | .func f caps,cs,ho=>by
  simp only[al,I.bn,I.only] at *;constructor
  ·rintro ⟨vs,J,U⟩;exact ⟨vs,J,(aI.bn aA caps vs ho).1 U⟩
  ·rintro ⟨vs,J,U⟩;exact ⟨vs,J,(aI.bn aA caps vs ho).2 U⟩
 | .iface t v,cs,ho=>by
  simp only[al,I.bn,I.only,EO] at *;constructor
  ·rintro ⟨u,cs',J,U,ah⟩;exact ⟨u,cs',J,U,(al.bn aA v cs' ho).1 ah⟩
  ·rintro ⟨u,cs',J,U,ah⟩;exact ⟨u,cs',J,U,(al.bn aA v cs' ho).2 ah⟩
 | .ptr n p,cs,ho=>by simp only[al,I.bn,I.only] at *;rw[aA n ho]
 | .own n k,cs,ho=>by simp only[al,I.bn,I.only] at *;rw[aA n ho]
 | .view n p _ _ _,cs,ho=>by simp only[al,I.bn,I.only] at *;rw[aA n ho]
 | .mref n,cs,ho=>by simp only[al,I.bn,I.only] at *;rw[aA n ho]
 | .dq n,cs,ho=>by simp only[al,I.bn,I.only] at *;rw[aA n ho]
 | .dj ks vs,cs,ho=>by
  simp only[al,I.bn,I.only,t8] at *;constructor
  ·rintro ⟨b,es,ck,J,U,ah,ar⟩;exact ⟨b,es,ck,J,U,(aI.bn aA ks _ ho.1).1 ah,(aI.bn aA vs _ ho.2).1 ar⟩
  ·rintro ⟨b,es,ck,J,U,ah,ar⟩;exact ⟨b,es,ck,J,U,(aI.bn aA ks _ ho.1).2 ah,(aI.bn aA vs _ ho.2).2 ar⟩
theorem aN.bn{w:World}{D:aP}{E E':aY}{p:Nat→Bool}{ρ:Nat→Nat}(aA:∀ n,p n=true→E' (ρ n)=E n):∀ (xs:List I) (cs:List Value),I.cv p xs=true→(aN w D E' (I.dU ρ xs) cs↔aN w D E xs cs)
 | [],cs,_=>by simp only[aN,I.dU]
 |x::xs,cs,ho=>by
  simp only[aN,I.dU,I.cv,t8] at *;constructor
  ·rintro ⟨c1,c2,J,U,ah⟩;exact ⟨c1,c2,J,(al.bn aA x c1 ho.1).1 U,(aN.bn aA xs c2 ho.2).1 ah⟩
  ·rintro ⟨c1,c2,J,U,ah⟩;exact ⟨c1,c2,J,(al.bn aA x c1 ho.1).2 U,(aN.bn aA xs c2 ho.2).2 ah⟩
theorem aI.bn{w:World}{D:aP}{E E':aY}{p:Nat→Bool}{ρ:Nat→Nat}(aA:∀ n,p n=true→E' (ρ n)=E n):∀ (xs:List I) (vs:List Value),I.cv p xs=true→(aI w D E' (I.dU ρ xs) vs↔aI w D E xs vs)
 | [],vs,_=>by simp only[aI,I.dU]
 |x::xs,vs,ho=>by
  simp only[aI,I.dU,I.cv,t8,EO] at *;constructor
  ·rintro ⟨v,rest,cs,J,U,ah,ar⟩;exact ⟨v,rest,cs,J,U,(al.bn aA x cs ho.1).1 ah,(aI.bn aA xs rest ho.2).1 ar⟩
  ·rintro ⟨v,rest,cs,J,U,ah,ar⟩;exact ⟨v,rest,cs,J,U,(al.bn aA x cs ho.1).2 ah,(aI.bn aA xs rest ho.2).2 ar⟩
end
theorem aZ.bn{w:World}{D:aP}{E E':aY}{p:Nat→Bool}{ρ:Nat→Nat}(aA:∀ n,p n=true→E' (ρ n)=E n){x:I}{v:Value}(ho:x.only p=true):aZ w D E' (x.bn ρ) v↔aZ w D E x v:=by
 cases x <;>first
  |(simp only[aZ,I.bn];done)
  |(simp only[aZ,I.bn,I.only] at ho ⊢
    constructor
    ·rintro ⟨vs,J,U⟩;exact ⟨vs,J,(aI.bn aA _ _ ho).1 U⟩
    ·rintro ⟨vs,J,U⟩;exact ⟨vs,J,(aI.bn aA _ _ ho).2 U⟩)
  |(have key:=fun x cs=>al.bn (w:=w) (D:=D) aA x cs
    refine exists_congr fun cs=>and_congr ?_ ?_
    ·first | exact Iff.rfl | simp only[bD,I.bn,I.isAgg]
    ·first | exact key _ cs ho | (have h:=key _ cs ho;simpa only[I.bn] using h))
mutual
/-- Values that read no memory: but they may name objects. -/
def I.er:I→Bool
 | .agg fs | .tuple fs=>I.jP fs
 | .func _ caps=>I.jP caps
 | .iface _ v=>v.er
 | .slice _ es=>es.isEmpty
 | .ref _ | .dj _ _=>false
 |_=>true
def I.jP:List I→Bool
 | []=>true
 |x::xs=>x.er&&I.jP xs
end
def ao.er:ao→Bool
 | .box x=>x.er
 | .bU _ _ es=>I.jP es
 | .dK _ _=>true
 | .dJ _=>true
 | .bz ks vs=>I.jP ks&&I.jP vs
 | .it .. =>false
mutual
theorem al.er{w w':World}{D D':aP}{E:aY} : ∀ (x:I) (cs:List Value),x.er=true→al w D E x cs→al w' D' E x cs
 | .agg fs,cs,hf,hr=>by simp only[al,I.er] at *;exact aN.er fs cs hf hr
 | .bool b,cs,_,hr | .int k n,cs,_,hr | .bQ s,cs,_,hr | .nilp,cs,_,hr | .dB,cs,_,hr | .dX,cs,_,hr | .any,cs,_,hr | .raw _,cs,_,hr | .nils _,cs,_,hr | .c0 _,cs,_,hr
 | .ptr _ _,cs,_,hr | .own _ _,cs,_,hr | .view _ _ _ _ _,cs,_,hr | .mref _,cs,_,hr | .dq _,cs,_,hr=>by simpa only[al] using hr
 | .func f caps,cs,hf,hr=>by
  simp only[al,I.er] at *;obtain ⟨vs,J,U⟩:=hr;exact ⟨vs,J,aI.er caps vs hf U⟩
 | .iface t v,cs,hf,hr=>by
  simp only[al,I.er] at *;obtain ⟨u,cs',J,U,ah⟩:=hr;exact ⟨u,cs',J,U,al.er v cs' hf ah⟩
 | .slice sz es,cs,hf,hr=>by
  simp only[al,I.er,List.isEmpty_iff] at *;subst hf;obtain ⟨a,cap,J,U,ah,_,h5⟩:=hr;exact ⟨a,cap,J,U,ah,.inl rfl,h5⟩
 | .ref _,_,hf,_ | .dj _ _,_,hf,_=>by simp[I.er] at hf
 | .undef,_,_,hr | .dw,_,_,hr | .tuple _,_,_,hr=>by simp only[al] at hr
theorem aN.er{w w':World}{D D':aP}{E:aY} : ∀ (xs:List I) (cs:List Value),I.jP xs=true→aN w D E xs cs→aN w' D' E xs cs
 | [],cs,_,hr=>by simpa only[aN] using hr
 |x::xs,cs,hf,hr=>by
  simp only[aN,I.jP,t8] at *;obtain ⟨c1,c2,J,U,ah⟩:=hr;exact ⟨c1,c2,J,al.er x c1 hf.1 U,aN.er xs c2 hf.2 ah⟩
theorem aI.er{w w':World}{D D':aP}{E:aY} : ∀ (xs:List I) (vs:List Value),I.jP xs=true→aI w D E xs vs→aI w' D' E xs vs
 | [],vs,_,hr=>by simpa only[aI] using hr
 |x::xs,vs,hf,hr=>by
  simp only[aI,I.jP,t8] at *;obtain ⟨v,rest,cs,J,U,ah,ar⟩:=hr;exact ⟨v,rest,cs,J,U,al.er x cs hf.1 ah,aI.er xs rest hf.2 ar⟩
end
theorem aZ.er{w w':World}{D D':aP}{E:aY}{x:I}{v:Value}(hf:x.er=true)(hr:aZ w D E x v):aZ w' D' E x v:=by
 cases x <;>simp only[aZ] at * <;>first
  |exact hr
  |(obtain ⟨vs,J,U⟩:=hr;exact ⟨vs,J,aI.er _ _ (by simpa[I.er] using hf) U⟩)
  |(obtain ⟨cs,J,U⟩:=hr;exact ⟨cs,J,al.er _ _ hf U⟩)
def dE(ρ:List (Nat×Nat))(os:List (Nat×ao)):List (Nat×ao):=os.map fun q=>(bI ρ q.1,q.2.bn (bI ρ))
def pre(ρ:List (Nat×Nat))(os:List (Nat×ao))(n:Nat):Option Nat:=(os.find? fun q=>bI ρ q.1==n).map (·.1)
theorem wj{os:List (Nat×ao)}{m:Nat} : aw os m=true↔∃ q∈os,q.1=m:=by
 induction os with
 |nil=>simp[aw,aj]
 |cons q os ih =>
  obtain ⟨k,v⟩:=q;simp only[aw,aj] at *;by_cases h:m=k
  ·subst h;simp
  ·simp only[if_neg h,ih,zw5,Prod.exists,exists_and_right,exists_eq_right];constructor
   ·rintro ⟨a,b⟩;exact ⟨a,.inr b⟩
   ·rintro ⟨a,b | b⟩
    ·cases b;exact absurd rfl h
    ·exact ⟨a,b⟩
theorem kX{ρ:List (Nat×Nat)}{os:List (Nat×ao)}{n m:Nat}(h:pre ρ os n=some m):aw os m=true∧bI ρ m=n:=by
 simp only[pre,t7] at h;obtain ⟨q,hq,rfl⟩:=h;exact ⟨wj.2 ⟨q,List.mem_of_find?_eq_some hq,rfl⟩,by simpa using List.find?_some hq⟩
theorem xd{ρ:List (Nat×Nat)}{os:List (Nat×ao)}{n m:Nat}(h:pre ρ os n=none)(hm:aw os m=true):bI ρ m≠n:=by
 simp only[pre,Option.map_eq_none_iff,List.find?_eq_none] at h;obtain ⟨q,hq,rfl⟩:=wj.1 hm;simpa using h q hq
theorem qT(ρ:List (Nat×Nat))(os os0:List (Nat×ao))(n:Nat):aj (dE ρ os++os0) n=match pre ρ os n with
  |some m=>(aj os m).map (ao.bn (bI ρ))
  |none=>aj os0 n:=by
 induction os with
 |nil=>simp[dE,pre]
 |cons q os ih =>
  obtain ⟨k,v⟩:=q;simp only[dE,Z3,Z5,aj,pre,List.find?_cons] at *;by_cases h:bI ρ k=n
  ·subst h;simp
  ·rw[if_neg (Ne.symm h)];have hb:(bI ρ k==n)=false:=by simpa using h
   rw[hb,ih];simp only;cases hf:os.find? (fun q=>bI ρ q.1==n) with
   |none=>rfl
   |some q =>
    simp only[zz0];have hq:=List.find?_some hf;have hne:q.1≠k:=fun e=>h (by rw[←e];simpa using hq);rw[if_neg hne]
def aA(ρ:List (Nat×Nat))(os:List (Nat×ao))(E:aY):aY:=fun n=>if aw os n then E (bI ρ n) else none
structure gl (ρ:List (Nat×Nat)) (os os0:List (Nat×ao)):Prop where
 fG:∀ m x,aj os m=some x→aj os0 (bI ρ m)=some (x.bn (bI ρ))∧x.only (aw os)=true∧x.eg=true
 inj:∀ m m',aw os m=true→aw os m'=true→bI ρ m=bI ρ m'→m=m'
structure gE (aL:Bool) (ρ:List (Nat×Nat)) (os os0:List (Nat×ao)) (r:I) (os':List (Nat×ao)):Prop where
 fG:∀ m x,aj os' m=some x→x.only (aw os')=true∧x.eg=true∧(aL=true→x.er=true)
 inj:∀ m m',aw os' m=true→aw os' m'=true→bI ρ m=bI ρ m'→m=m'
 old:∀ m,aw os m=true→aw os' m=true
 py:∀ m,aw os' m=true→aw os m=false→aj os0 (bI ρ m)=none∧bI ρ m<1000000
 xr:r.only (aw os')=true∧(aL=true→r.er=true)
section
variable {c:cV} {a:Act} {w:World} {D:aP} {E:aY} {ts:List (Nat×I)} {os0 os:List (Nat×ao)} {ρ:List (Nat×Nat)}
theorem aU.given(ab:aU c (av ts os0) a w D E)(hg:gl ρ os os0){m:Nat}(hm:aw os m=true):∃ x e,aj os m=some x∧aA ρ os E m=some e∧E (bI ρ m)=some e∧c6 (fun _=>True) w D (aA ρ os E) m (some x) ∧
  ∀ b,e.aJ=some b→c.eZ b∧(∃ o,w.heap[b]?=some o∧wT o=true)∧b<w.heap.size∧(e.eg=true→∀ o,¬ D b o):=by
 cases hx:aj os m with
 |none=>simp[aw,hx] at hm
 |some x =>
  obtain ⟨J,U,ah⟩:=hg.fG m x hx;have ho:=ab.bP (bI ρ m);simp only[av] at ho;rw[J] at ho;have hEm:aA ρ os E m=E (bI ρ m):=by simp only[aA,hm,if_true]
  have hin:∀ n,aw os n=true→E (bI ρ n)=aA ρ os E n:=fun n hn=>by simp only[aA,hn,if_true]
  cases x with
  |bU T sz es =>
   obtain ⟨aJ,k1,k2,k3⟩:=ho;rw[rE] at k1;have h2':I.cv (aw os) es=true:=U;have k2':∀ e∈es,e.size=sz:=fun e he=>by rw[←rD (bI ρ) e];exact k2 _ (by rw[rF];exact zy1.2 ⟨e,he,rfl⟩)
   refine ⟨_,_,rfl,hEm.trans k1,k1,⟨aJ,hEm.trans k1,k2',?_⟩,fun b hb =>?_⟩
   ·cases aJ with
    |none=>simp only[rF,List.map_eq_nil_iff] at k3;exact k3
    |some bc =>
     obtain ⟨b,cap⟩:=bc;obtain ⟨cs,pr,rest,q1,q2,q3,q4,q5,q6,q7,q8⟩:=k3;rw[rE] at q6;exact ⟨cs,pr,rest,trivial,q2,q3,(aN.bn (p:=aw os) hin es _ h2').1 q4,q5,q6,q7,q8⟩
   ·cases aJ with
    |none=>cases hb
    |some bc =>
     obtain ⟨b',cap⟩:=bc;cases hb;obtain ⟨cs,pr,rest,q1,q2,_⟩:=k3;exact ⟨q1,⟨_,q2,rfl⟩,fJ q2,fun h=>by cases h⟩
  |box y =>
   obtain ⟨b,cs,T,k1,k2,k3,k4,k5⟩:=ho;rw[xq] at k1;refine ⟨_,_,rfl,hEm.trans k1,k1,⟨b,cs,T,hEm.trans k1,trivial,k3,?_,k5⟩,fun b' hb =>?_⟩
   ·exact (al.bn (p:=aw os) hin y _ (by simpa[ao.only] using U)).1 k4
   ·cases hb;exact ⟨k2,⟨_,k3,rfl⟩,fJ k3,fun _=>k5⟩
  |dJ o =>
   obtain ⟨b,k1,k2,k3,k4,k5⟩:=ho;exact ⟨_,_,rfl,hEm.trans k1,k1,⟨b,hEm.trans k1,trivial,k3,k4,k5⟩,fun b' hb=>by cases hb;exact ⟨k2,⟨_,k3,Xi k4⟩,fJ k3,fun _=>k5⟩⟩
  |bz ks vs =>
   obtain ⟨b,es,ck,k1,k2,k3,k4,k5,k6,k7⟩:=ho;simp only[ao.only,t8] at U;exact ⟨_,_,rfl,hEm.trans k1,k1,⟨b,es,ck,hEm.trans k1,trivial,k3,k4,(aI.bn (p:=aw os) hin ks _ U.1).1 k5,(aI.bn (p:=aw os) hin vs _ U.2).1 k6,k7⟩,
    fun b' hb=>by cases hb;exact ⟨k2,⟨_,k3,rfl⟩,fJ k3,fun _=>k7⟩⟩
  |it ks vs left cur=>cases ah
  |dK T xs =>
   obtain ⟨aJ,k1,k2,k3⟩:=ho;refine ⟨_,_,rfl,hEm.trans k1,k1,⟨aJ,hEm.trans k1,k2,?_⟩,fun b hb =>?_⟩
   ·cases aJ with
    |none=>exact k3
    |some bc =>
     obtain ⟨b,cap⟩:=bc;obtain ⟨cs,r,q1,q2⟩:=k3;exact ⟨cs,r,trivial,q2⟩
   ·cases aJ with
    |none=>cases hb
    |some bc =>
     obtain ⟨b',cap⟩:=bc;cases hb;obtain ⟨cs,r,q1,q2,_⟩:=k3;exact ⟨q1,⟨_,q2,rfl⟩,fJ q2,fun h=>by cases h⟩
theorem aU.sQ(ab:aU c (av ts os0) a w D E)(hg:gl ρ os os0){b:Nat}(hb:cL (aA ρ os E) b):∃ m e,aw os m=true∧E (bI ρ m)=some e∧e.aJ=some b∧c.eZ b∧(∃ o,w.heap[b]?=some o∧wT o=true)∧b<w.heap.size:=by
 obtain ⟨m,e,J,U⟩:=hb;by_cases hm:aw os m=true
 ·obtain ⟨x,e',k1,k2,k3,k4,k5⟩:=ab.given hg hm;rw[k2,v6] at J;subst J;obtain ⟨q1,q2,q3,_⟩:=k5 b U;exact ⟨m,_,hm,k3,U,q1,q2,q3⟩
 ·simp[aA,hm] at J
theorem aU.B1(ab:aU c (av ts os0) a w D E)(hg:gl ρ os os0){D1:aP}(hD:∀ b o,D b o→D1 b o)(hown:∀ b o,D1 b o→cL (aA ρ os E) b→D b o):jF (fun _=>True) w D1 (aA ρ os E) (aj os):=by
 refine ⟨fun n =>?_,fun n m e e' b J U ah ar =>?_⟩
 ·cases hx:aj os n with
  |none=>simp[c6,aA,aw,hx]
  |some x =>
   have hm:aw os n=true:=by simp[aw,hx]
   obtain ⟨y,e,k1,k2,k3,k4,k5⟩:=ab.given hg hm;rw[hx,v6] at k1;subst k1;refine k4.later (E':=aA ρ os E) ⟨hD,fun _ _ _ _ h=>h,fun _ _ _ h=>h,fun _ aJ l h=>⟨aJ,l,h,Z4 _,fun _=>rfl⟩,fun _ _ h=>h,fun _ _ h=>h,fun _ _ _ _ h=>h⟩ rfl fun e' b' he hb'=>⟨rfl,fun o ho =>?_⟩
   exact hown b' o ho ⟨n,e',he,hb'⟩
 ·have hn:aw os n=true:=by
   by_cases h:aw os n=true;· exact h
   ·simp[aA,h] at J
  have hm:aw os m=true:=by
    by_cases h:aw os m=true;· exact h
    ·simp[aA,h] at U
  simp only[aA,hn,hm,if_true] at J U;exact hg.inj n m hn hm (ab.cQ _ _ e e' b J U ah ar)
theorem aU.iu(ab:aU c (av ts os0) a w D E)(hg:gl ρ os os0){aL:Bool}{D1:aP}(hD:∀ b o,D b o→D1 b o)(hbx:aL=false→∀ b o,D1 b o→D b o){w':World}{D':aP}{E':aY}{v:Value}{r:I}{os':List (Nat×ao)}
  (hb:gE aL ρ os os0 r os') (hr:aZ w' D' E' r v) (bH:jF (fun b=>w.heap.size≤b∨cL (aA ρ os E) b) w' D' E' (aj os')) (hk:eY (fun b=>w.heap.size≤b∨cL (aA ρ os E) b) w w')
  (hlive:∀ b o,D' b o→b<w'.heap.size) (hup:∀ b o,D1 b o→D' b o) (hst:gN w D1 w') (hold:∀ b o,D' b o→b<w.heap.size→¬ cL (aA ρ os E) b→D1 b o) (hbox:∀ n e,aA ρ os E n=some e→aw os' n=true→∃ e',E' n=some e'∧e.le e') :
  ∃ D2 E2,aU c (av ts (dE ρ os'++os0)) a w' D2 E2∧aZ w' D2 E2 (r.bn (bI ρ)) v∧∀ m e,aA ρ os E m=some e→aw os' m=true→∃ e',E2 (bI ρ m)=some e'∧e.le e':=by
 obtain ⟨M1,hM1⟩:∃ M1:Nat→Prop,M1=fun b=>w.heap.size≤b∨cL (aA ρ os E) b:=⟨_,rfl⟩
 rw[←hM1] at bH hk;obtain ⟨D2,hD2⟩:∃ D2:aP,D2=fun b o=>D b o∨(M1 b∧D' b o):=⟨_,rfl⟩
 obtain ⟨E2,hE2⟩:∃ E2:aY,E2=fun n=>match pre ρ os' n with | some m=>E' m | none=>E n:=⟨_,rfl⟩
 have ib:∀ b,M1 b→c.eZ b:=fun b hb'=>by
  rw[hM1] at hb';rcases hb' with h | h
  ·exact .inl (zw3 ab.dO.size h)
  ·obtain ⟨m,e,_,_,_,ah,_⟩:=ab.sQ hg h;exact ah
 have upD:∀ b o,D b o→D' b o:=fun b o af=>hup b o (hD b o af);have E2m:∀ m,aw os' m=true→E2 (bI ρ m)=E' m:=fun m hm=>by
  rw[hE2];simp only;cases hp:pre ρ os' (bI ρ m) with
  |none=>exact absurd rfl (xd hp hm)
  |some m' =>
   obtain ⟨J,U⟩:=kX hp;rw[hb.inj m' m J hm U]
 have E2o:∀ n,pre ρ os' n=none→E2 n=E n:=fun n hn=>by rw[hE2];simp only[hn]
 -- a name that has a new meaning: one that was handed over,or one that was free
 have cas:∀ n m,pre ρ os' n=some m→(aw os m=true∧∃ e e',E n=some e∧E' m=some e'∧e.le e')∨(aw os m=false∧E n=none∧c.dk n=none):=fun n m hp=>by
  obtain ⟨J,U⟩:=kX hp;cases hm:aw os m with
  |true =>
   obtain ⟨y,e,k1,k2,k3,_⟩:=ab.given hg hm;rw[U] at k3;obtain ⟨e',q1,q2⟩:=hbox m e k2 J;exact .inl ⟨rfl,e,e',k3,q1,q2⟩
  |false =>
   obtain ⟨k1,k2⟩:=hb.py m J hm;rw[U] at k1 k2;have ho:=ab.bP n;simp only[av,k1] at ho;exact .inr ⟨rfl,ho,ab.kg (.inr k2)⟩
 have aq:dW w D E w' D2 E2:=by
  have qK:∀ n e,E n=some e→∃ e',E2 n=some e'∧e.le e':=fun n e he=>by
   cases hp:pre ρ os' n with
   |none=>exact ⟨e,by rw[E2o n hp];exact he,.refl e⟩
   |some m =>
    rw[hE2];simp only[hp];rcases cas n m hp with ⟨_,e1,e2,k1,k2,k3⟩ | ⟨_,k1,_⟩
    ·rw[he] at k1;cases k1;exact ⟨e2,k2,k3⟩
    ·rw[he] at k1;cases k1
  have keepf:∀ n e,E n=some e→e.eg=true→E2 n=some e:=fun n e he hf=>by
   obtain ⟨e',k1,k2⟩:=qK n e he;rw[k1,k2.eq hf]
  refine ⟨fun b o h=>by rw[hD2];exact .inl h,fun b o v' af hv=>hst.cell b o v' (hD b o af) hv,fun n b aX he=>keepf n _ he rfl,fun n aJ l he =>?_,fun n b he=>keepf n _ he rfl,fun n b he=>keepf n _ he rfl,fun b es ck af hm=>hst.jd b es ck (hD b 0 af) hm⟩;obtain ⟨e',k1,k2⟩:=qK n _ he;rcases k2 with rfl | ⟨_,_,blk',l',e,rfl,k3,k4⟩
  ·exact ⟨aJ,l,k1,Z4 _,fun _=>rfl⟩
  ·cases e;exact ⟨blk',l',k1,k3,k4⟩
 -- blocks of names that were not handed over
 have other:∀ n e b,pre ρ os' n=none→E n=some e→e.aJ=some b→¬ M1 b:=fun n e b hp he hb' hm=>by
  rw[hM1] at hm;rcases hm with h | h
  ·exact absurd (ab.fX he hb') (by omega)
  ·obtain ⟨m,e',J,U,ah,_⟩:=ab.sQ hg h;have:=ab.cQ n (bI ρ m) e _ b he U hb' ah;exact xd hp (hb.old m J) this.symm
 have toD2:∀ {x:I} {cs:List Value},(aL=true→x.er=true)→al w' D' E2 x cs→al w' D2 E2 x cs:=fun {x cs} hx h=>by
  cases hbb:aL with
  |true=>exact al.er x cs (hx hbb) h
  |false =>
   refine al.later (E:=E2) ⟨fun b o af =>?_,fun _ _ _ _ h=>h,fun _ _ _ h=>h,fun _ aJ l h=>⟨aJ,l,h,Z4 _,fun _=>rfl⟩,fun _ _ h=>h,fun _ _ h=>h,fun _ _ _ _ h=>h⟩ x cs h;rw[hD2];by_cases hm:M1 b
   ·exact .inr ⟨hm,af⟩
   ·rw[hM1] at hm;exact .inl (hbx hbb b o (hold b o af (Nat.lt_of_not_le fun h=>hm (.inl h)) fun h=>hm (.inr h)))
 have toD2c:∀ {xs:List I} {cs:List Value},I.cv (aw os') xs=true→(aL=true→I.jP xs=true)→aN w' D' E' xs cs→aN w' D2 E2 (I.dU (bI ρ) xs) cs:=fun {xs cs} ho hx h=>by
  cases hbb:aL with
  |true=>exact (aN.bn (w:=w') (D:=D2) (p:=aw os') (ρ:=bI ρ) (E:=E') (E':=E2) (fun n hn=>E2m n hn) xs cs ho).2 (aN.er xs cs (hx hbb) h)
  |false =>
   have U:=(aN.bn (w:=w') (D:=D') (p:=aw os') (ρ:=bI ρ) (E:=E') (E':=E2) (fun n hn=>E2m n hn) xs cs ho).2 h;refine aN.later (E:=E2) ⟨fun b o af =>?_,fun _ _ _ _ h=>h,fun _ _ _ h=>h,fun _ aJ l h=>⟨aJ,l,h,Z4 _,fun _=>rfl⟩,fun _ _ h=>h,fun _ _ h=>h,fun _ _ _ _ h=>h⟩ _ cs U;rw[hD2];by_cases hm:M1 b
   ·exact .inr ⟨hm,af⟩
   ·rw[hM1] at hm;exact .inl (hbx hbb b o (hold b o af (Nat.lt_of_not_le fun h=>hm (.inl h)) fun h=>hm (.inr h)))
 have toD2s:∀ {xs:List I} {cs:List Value},I.cv (aw os') xs=true→(aL=true→I.jP xs=true)→aI w' D' E' xs cs→aI w' D2 E2 (I.dU (bI ρ) xs) cs:=fun {xs cs} ho hx h=>by
  cases hbb:aL with
  |true=>exact (aI.bn (w:=w') (D:=D2) (p:=aw os') (ρ:=bI ρ) (E:=E') (E':=E2) (fun n hn=>E2m n hn) xs cs ho).2 (aI.er xs cs (hx hbb) h)
  |false =>
   have U:=(aI.bn (w:=w') (D:=D') (p:=aw os') (ρ:=bI ρ) (E:=E') (E':=E2) (fun n hn=>E2m n hn) xs cs ho).2 h;refine aI.later (E:=E2) ⟨fun b o af =>?_,fun _ _ _ _ h=>h,fun _ _ _ h=>h,fun _ aJ l h=>⟨aJ,l,h,Z4 _,fun _=>rfl⟩,fun _ _ h=>h,fun _ _ h=>h,fun _ _ _ _ h=>h⟩ _ cs U;rw[hD2];by_cases hm:M1 b
   ·exact .inr ⟨hm,af⟩
   ·rw[hM1] at hm;exact .inl (hbx hbb b o (hold b o af (Nat.lt_of_not_le fun h=>hm (.inl h)) fun h=>hm (.inr h)))
 refine ⟨D2,E2,⟨ab.sz,ab.eB.mono fun B _ hB =>?_,fun t=>aZ.later aq (ab.dR t),ab.dO.trans ⟨hk.os,hk.tape,hk.output,hk.size,fun k hk'=>hk.block k fun h=>hk' (ib k h)⟩,fun b o af hm =>?_,fun b o af =>?_,fun n =>?_,?_,fun n e hn =>?_,ab.eP,
  fun b o af=>aq.c9 b o (ab.cT b o af),ab.eW,ab.kz aq⟩,?_,fun m e k1 k3=>by rw[E2m m k3];exact hbox m e k1 k3⟩
 ·refine (hk.block B fun hm =>?_).trans hB;rw[hM1] at hm;rcases hm with h | h
  ·exact absurd (zz2.1 hB).1 (by omega)
  ·obtain ⟨m,e,_,_,_,_,⟨o,ar,h5⟩,_⟩:=ab.sQ hg h;rw[hB] at ar;cases ar;cases h5
 ·rw[hD2] at af;rcases af with af | ⟨J,_⟩
  ·exact ab.c9 b o af hm
  ·exact absurd (ib b J) hm
 ·rw[hD2] at af;rcases af with af | ⟨_,J⟩
  ·exact Nat.lt_of_lt_of_le (ab.aQ b o af) hk.size
  ·exact hlive b o J
 ·simp only[av,qT];cases hp:pre ρ os' n with
  |none =>
   simp only;refine (ab.bP n).later aq (E2o n hp) fun e b he hb'=>⟨hk.block b (other n e b hp he hb'),fun o ho =>?_⟩
   rw[hD2] at ho;rcases ho with ho | ⟨J,_⟩
   ·exact ho
   ·exact absurd J (other n e b hp he hb')
  |some m =>
   simp only;obtain ⟨J,U⟩:=kX hp;cases hx:aj os' m with
   |none=>simp[aw,hx] at J
   |some x =>
    obtain ⟨k1,kf,k2⟩:=hb.fG m x hx;have ho:=bH.bP m;rw[hx] at ho;have noD:∀ b,(∀ o,¬ D' b o)→∀ o,¬ D2 b o:=fun b hno o ho=>by
     rw[hD2] at ho;rcases ho with ho | ⟨_,ho⟩
     ·exact hno o (upD b o ho)
     ·exact hno o ho
    cases x with
    |bU T sz es =>
     obtain ⟨aJ,q1,q2,q3⟩:=ho;simp only[zz0,ao.bn,c6,rE];refine ⟨aJ,by rw[←U,E2m m J];exact q1,fun e he =>?_,?_⟩
     ·rw[rF] at he;obtain ⟨e',he',rfl⟩:=zy1.1 he;rw[rD];exact q2 e' he'
     ·cases aJ with
      |none=>simp only at q3 ⊢;rw[q3];rfl
      |some bc =>
       obtain ⟨b,cap⟩:=bc;obtain ⟨cs,pr,rest,g1,g2,g3,g4,g5,g6,g7,g8⟩:=q3;refine ⟨cs,pr,rest,ib b g1,g2,g3,toD2c (by simpa[ao.only] using k1) (fun h=>by simpa[ao.er] using k2 h) g4,g5,g6,g7,fun o ho =>?_⟩;rw[hD2] at ho;rcases ho with ho | ⟨_,ho⟩
       ·exact g8 o (upD b o ho)
       ·exact g8 o ho
    |dK T xs =>
     obtain ⟨aJ,q1,q2,q3⟩:=ho;simp only[zz0,ao.bn,c6];refine ⟨aJ,by rw[←U,E2m m J];exact q1,q2,?_⟩;cases aJ with
     |none=>exact q3
     |some bc =>
      obtain ⟨b,cap⟩:=bc;obtain ⟨cs,r,g1,g2,g3,g4,g5,g6,g7⟩:=q3;exact ⟨cs,r,ib b g1,g2,g3,g4,g5,g6,noD b g7⟩
    |dJ x =>
     obtain ⟨b,q1,q2,q3,q4,q5⟩:=ho;simp only[zz0,ao.bn,c6];exact ⟨b,by rw[←U,E2m m J];exact q1,ib b q2,q3,q4,noD b q5⟩
    |it ks vs left cur=>cases kf
    |bz ks vs =>
     obtain ⟨b,es,ck,q1,q2,q3,q4,q5,q6,q7⟩:=ho;simp only[zz0,ao.bn,c6];simp only[ao.only,t8] at k1;simp only[ao.er,t8] at k2;exact ⟨b,es,ck,by rw[←U,E2m m J];exact q1,ib b q2,q3,q4,toD2s k1.1 (fun h=>(k2 h).1) q5,toD2s k1.2 (fun h=>(k2 h).2) q6,noD b q7⟩
    |box y =>
     obtain ⟨b,cs,T,q1,q2,q3,q4,q5⟩:=ho;simp only[zz0,ao.bn,c6];refine ⟨b,cs,T,by rw[xq,←U,E2m m J];exact q1,ib b q2,q3,?_,noD b q5⟩;have ah:=(al.bn (w:=w') (D:=D') (p:=aw os') (ρ:=bI ρ) (E:=E') (E':=E2) (fun n hn=>E2m n hn) y cs.toList (by simpa[ao.only] using k1)).2 q4;cases hbb:aL with
     |true =>
      have ar:al w' D2 E' y cs.toList:=al.er y _ (k2 hbb) q4;exact (al.bn (w:=w') (D:=D2) (p:=aw os') (ρ:=bI ρ) (E:=E') (E':=E2) (fun n hn=>E2m n hn) y cs.toList (by simpa[ao.only] using k1)).2 ar
     |false=>exact toD2 (fun h=>by rw[hbb] at h;cases h) ah
 ·intro n m e e' b J U ah ar;have blk':∀ n m e,pre ρ os' n=some m→E2 n=some e→e.aJ=some b→M1 b∧E' m=some e:=fun n m e hp he hb'=>by
   obtain ⟨k1,k2⟩:=kX hp;rw[←k2,E2m m k1] at he;cases hx:aj os' m with
   |none=>simp[aw,hx] at k1
   |some x =>
    obtain ⟨_,kf,_⟩:=hb.fG m x hx;have ho:=bH.bP m;rw[hx] at ho;cases x with
    |bU T sz es =>
     obtain ⟨aJ,q1,q2,q3⟩:=ho;rw[q1,v6] at he;subst he;cases aJ with
     |none=>cases hb'
     |some bc =>
      obtain ⟨b',cap⟩:=bc;cases hb';obtain ⟨cs,pr,rest,g1,_⟩:=q3;exact ⟨g1,q1⟩
    |it ks vs left cur=>cases kf
    |dK T xs =>
     obtain ⟨aJ,q1,q2,q3⟩:=ho;rw[q1,v6] at he;subst he;cases aJ with
     |none=>cases hb'
     |some bc =>
      obtain ⟨b',cap⟩:=bc;cases hb';obtain ⟨cs,r,g1,_⟩:=q3;exact ⟨g1,q1⟩
    |bz ks vs =>
     obtain ⟨b',es,ck,q1,q2,_⟩:=ho;rw[q1,v6] at he;subst he;cases hb';exact ⟨q2,q1⟩
    |dJ x =>
     obtain ⟨b',q1,q2,_⟩:=ho;rw[q1,v6] at he;subst he;cases hb';exact ⟨q2,q1⟩
    |box y =>
     obtain ⟨b',cs,T,q1,q2,_⟩:=ho;rw[q1,v6] at he;subst he;cases hb';exact ⟨q2,q1⟩
  cases hn:pre ρ os' n with
  |none =>
   have g1:E n=some e:=by rw[←E2o n hn];exact J
   cases hm:pre ρ os' m with
   |none=>exact ab.cQ n m e e' b g1 (by rw[←E2o m hm];exact U) ah ar
   |some m'=>exact absurd (blk' m m' e' hm U ar).1 (other n e b hn g1 ah)
  |some n' =>
   have g1:=blk' n n' e hn J ah;cases hm:pre ρ os' m with
   |none=>exact absurd g1.1 (other m e' b hm (by rw[←E2o m hm];exact U) ar)
   |some m' =>
    have g2:=blk' m m' e' hm U ar;have:=bH.cQ n' m' e e' b g1.2 g2.2 ah ar;rw[←(kX hn).2,←(kX hm).2,this]
 ·cases hp:pre ρ os' n with
  |none=>rw[E2o n hp];exact ab.dS n e hn
  |some m =>
   rcases cas n m hp with ⟨_,e1,e2,k1,k2,k3⟩ | ⟨_,_,k1⟩
   ·rcases ab.dS n e hn with h | ⟨e3,h,h'⟩
    ·rw[h] at k1;cases k1
    ·rw[k1,v6] at h;subst h
     right
     rw[hE2];simp only[hp];exact ⟨e2,k2,h'.trans k3⟩
   ·rw[hn] at k1;cases k1
 ·have ah:=(aZ.bn (w:=w') (p:=aw os') (ρ:=bI ρ) (E:=E') (E':=E2) (D:=D') (fun n hn=>E2m n hn) (v:=v) hb.xr.1).2 hr;cases hbb:aL with
  |true=>exact (aZ.bn (w:=w') (p:=aw os') (ρ:=bI ρ) (E:=E') (E':=E2) (D:=D2) (fun n hn=>E2m n hn) (v:=v) hb.xr.1).2 (aZ.er (hb.xr.2 hbb) hr)
  |false =>
   refine aZ.later (E:=E2) ⟨fun b o af =>?_,fun _ _ _ _ h=>h,fun _ _ _ h=>h,fun _ aJ l h=>⟨aJ,l,h,Z4 _,fun _=>rfl⟩,fun _ _ h=>h,fun _ _ h=>h,fun _ _ _ _ h=>h⟩ ah;rw[hD2];by_cases hm:M1 b
   ·exact .inr ⟨hm,af⟩
   ·rw[hM1] at hm;exact .inl (hbx hbb b o (hold b o af (Nat.lt_of_not_le fun h=>hm (.inl h)) fun h=>hm (.inr h)))
end
theorem uj(z:Array Value):∀ n:Nat,(Builtin.zeroCells z n).toList=(List.replicate n z.toList).flatten
 |0=>by simp[Builtin.zeroCells]
 |n+1=>by
  rw[List.replicate_succ,List.flatten_cons,←uj z n];apply List.ext_getElem?;intro i;by_cases hz:z.size=0
  ·have hz':z = #[]:=Array.eq_empty_of_size_eq_zero hz;subst hz';simp[Builtin.zeroCells]
  have hpos:0<z.size:=Nat.pos_of_ne_zero hz;by_cases hi:i<z.toList.length
  ·rw[zz5 hi];have hi':i<z.size:=by simpa using hi
   have J:i<(n+1)*z.size:=by rw[Nat.succ_mul];omega
   simp only[Builtin.zeroCells,Array.toList_map,Array.toList_range,zy0,List.getElem?_range J,zz0,Nat.mod_eq_of_lt hi'];simp[hi']
  ·rw[zx6 (by omega)];have hi':z.size≤i:=by simpa using hi
   simp only[Builtin.zeroCells,Array.toList_map,Array.toList_range,zy0,zy2];by_cases U:i<(n+1)*z.size
   ·have ah:i-z.size<n*z.size:=by rw[Nat.succ_mul] at U;omega
    rw[List.getElem?_range U,List.getElem?_range ah];simp only[zz0];rw[←Nat.mod_eq_sub_mod hi']
   ·have ah:¬ i-z.size<n*z.size:=by rw[Nat.succ_mul] at U;omega
    rw[zx2 (by simpa using U),zx2 (by simpa using ah)]
theorem ry{w:World}{D:aP}{E:aY}{z:I}{cs:List Value}(h:al w D E z cs):∀ n:Nat,aN w D E (List.replicate n z) (List.replicate n cs).flatten
 |0=>by simp[aN]
 |n+1=>by
  simp only[List.replicate_succ,List.flatten_cons,aN];exact ⟨cs,_,rfl,h,ry h n⟩
def eJ(A:ai)(sz:Nat):I→Option (List I)
 | .slice z es=>if z=sz then some es else none
 | .nils _=>some []
 | .c0 _=>some []
 | .own n l=>match A.o n with
  |some (.bU _ z es)=>if l=es.length∧z=sz then some es else none
  |_=>none
 | .view n p z lo k=>match cM A (.ptr n p) with
  |some (.agg fs)=>if lo+k≤fs.length∧z=sz then some ((fs.drop lo).take k) else none
  |_=>none
 |_=>none
section
variable {c:cV} {A:ai} {a:Act} {w:World} {D:aP} {E:aY}
theorem aU.view(h:aU c A a w D E){n:Nat}{p:List Nat}{sz lo k:Nat}{v:Value}{fs:List I}(hv:aZ w D E (.view n p sz lo k) v)(hx:cM A (.ptr n p)=some (.agg fs)) :
  ∃ y b cs T off c1 c2 c3,A.o n=some (.box y)∧E n=some (.aL b y.aX)∧w.heap[b]?=some (.cells cs T (0,0))∧y.at p=some (.agg fs)∧y.aX.off p=some off∧cs.toList=c1++c2++c3∧c1.length=off∧aN w D E fs c2 ∧
   al w D E y cs.toList∧(∀ f∈fs,f.size=sz)∧lo+k≤fs.length∧fs.length≤maxLen∧v=.slice (some ⟨b,off+lo*sz,none⟩) k (fs.length-lo):=by
 obtain ⟨z,b',cs',T,off',c1,c2,c3,k1,k2,_,k3,k4,k5,k6,k7,k8,k9,_⟩:=h.at hx;obtain ⟨vs,g1,g2⟩:=hv;simp only[al] at g2;obtain ⟨b,aX,off,l,J,U,ah,ar,h5,h6,h7⟩:=g2;rw[k2] at J;simp only[v6,bM.aL.injEq] at J;obtain ⟨rfl,rfl⟩:=J;rw[k5,v6] at U;subst U;rw[mj p z _ k4] at ah;simp only[I.aX,v6,cR.eI.injEq] at ah;subst ah;rw[I.dy,Z8] at ar h5 h6;refine ⟨z,b',cs',T,off',c1,c2,c3,k1,k2,k3,k4,k5,k6,k7,by simpa only[al] using k8,k9,Fj h7,h6,h5,?_⟩;simpa[bD,I.isAgg,ar] using g1.symm
theorem aU.nj(h:aU c A a w D E){sz:Nat}{x:I}{v:Value}{ys:List I}(hv:aZ w D E x v)(ab:eJ A sz x=some ys) :
  ∃ ad cp news,v=.slice ad ys.length cp∧ys.length≤cp∧cp≤maxLen∧aN w D E ys news∧(∀ y∈ys,y.size=sz)∧(ys≠[]→∃ b o,ad=some ⟨b,o,none⟩∧∀ j u,news[j]?=some u→w.cell? ⟨b,o+j,none⟩=some u):=by
 cases x <;>simp only[eJ] at ab <;>try (cases ab;done)
 case nils z =>
  simp only[v6] at ab;subst ab;obtain ⟨cs,q1,q2⟩:=hv;simp only[al] at q2;exact ⟨none,0,[],by simpa[bD,I.isAgg,q2] using q1.symm,by simp,by simp[maxLen],by simp[aN],by simp,fun h=>absurd rfl h⟩
 case c0 z =>
  simp only[v6] at ab;subst ab;obtain ⟨cs,q1,q2⟩:=hv;simp only[al] at q2;obtain ⟨ad,q2⟩:=q2;exact ⟨ad,0,[],by simpa[bD,I.isAgg,q2] using q1.symm,by simp,by simp[maxLen],by simp[aN],by simp,fun h=>absurd rfl h⟩
 case slice z es =>
  split at ab
  ·rename_i hz;simp only[v6] at ab;subst ab hz;obtain ⟨ad,cap,e1,e2,e3,e4,e5⟩:=nf hv;rcases e4 with rfl | ⟨b,off,cs,rfl,q1,q2⟩
   ·exact ⟨ad,cap,[],e1,e2,e3,by simp[aN],by simp,fun h=>absurd rfl h⟩
   ·exact ⟨_,cap,cs,e1,e2,e3,q2,e5,fun _=>⟨b,off,rfl,fun j u hj=>(q1 j u hj).1⟩⟩
  ·cases ab
 case own n l =>
  split at ab
  ·rename_i T z es hn;split at ab
   ·rename_i hz;obtain ⟨hz1,rfl⟩:=hz;simp only[v6] at ab;subst ab;obtain ⟨aJ,k1,k2,k3⟩:=h.bU hn;obtain ⟨cs,q1,q2⟩:=hv;simp only[al] at q2;obtain ⟨blk',l',g1,g2,_,g4⟩:=q2;rw[k1] at g1;simp only[v6,bM.rw.injEq] at g1;obtain ⟨rfl,rfl⟩:=g1
    replace g4:=g4 hz1
    cases aJ with
    |none =>
     simp only at k3 g4;subst k3;have hv':v=.slice none 0 0:=by rw[g4] at q1;simpa[bD,I.isAgg] using q1.symm
     exact ⟨none,0,[],hv',by simp,by simp[maxLen],by simp[aN],by simp,fun h=>absurd rfl h⟩
    |some bc =>
     obtain ⟨b,cap⟩:=bc;simp only at g4;obtain ⟨cs',pre,rest,k4,k5,k6,k7,k8,k9,k10,k11⟩:=k3;refine ⟨some ⟨b,0,none⟩,cap,pre,by rw[←hz1];simpa[bD,I.isAgg,g4] using q1.symm,k9,k10,k7,k2,fun _=>⟨b,0,rfl,fun j u hj =>?_⟩⟩;have:=(oc (D:=fun _ _=>True) (c1:=[]) (c2:=pre) (c3:=rest) k5 (by simpa using k6) (fun _ _=>trivial)) j u hj;simpa using this.1
   ·cases ab
  ·cases ab
 case view n p z lo k =>
  split at ab
  ·rename_i fs hx;split at ab
   ·rename_i hk;obtain ⟨hk,rfl⟩:=hk;simp only[v6] at ab;subst ab;obtain ⟨y,b,cs,T,off,c1,c2,c3,k1,k2,k3,k4,k5,k6,k7,k8,k9,k10,k11,k12,rfl⟩:=h.view hv hx;obtain ⟨d1,d2,d3,rfl,q1,q2,q3⟩:=tI k8 k10 lo k hk;have hlen:((fs.drop lo).take k).length=k:=by rw[zy9,List.length_drop];omega
    refine ⟨some ⟨b,off+lo*z,none⟩,fs.length-lo,d2,by rw[hlen],by rw[hlen];omega,by omega,q2,fun y hy=>k10 y (List.mem_of_mem_drop (List.mem_of_mem_take hy)),fun _=>⟨b,_,rfl,fun j u hj =>?_⟩⟩;have:=(oc (D:=fun _ _=>True) (c1:=c1++d1) (c2:=d2) (c3:=d3++c3) k3 (by rw[k6];simp) (fun _ _=>trivial)) j u hj;rw[Z7,k7,q1] at this;exact this.1
   ·cases ab
  ·cases ab
theorem aU.jf(h:aU c A a w D E){n:Nat}{p:List Nat}{sz j:Nat}{y:I}{fs ys:List I}{b off:Nat}{cs:Array Value}{T:TypeId}{c1 c2 c3 ds:List Value}(hn:A.o n=some (.box y))(aA:E n=some (.aL b y.aX))(hb:w.heap[b]?=some (.cells cs T (0,0)))
  (hat:y.at p=some (.agg fs)) (hoff:y.aX.off p=some off) (hcs:cs.toList=c1++c2++c3) (hc1:c1.length=off) (hfs:aN w D E fs c2) (hy:al w D E y cs.toList) (hsz:∀ f∈fs,f.size=sz) (hys:aN w D E ys ds) (hj:j+ys.length≤fs.length)
  (hsh:I.c7 ys=I.c7 ((fs.drop j).take ys.length)) (P:Program) :
  ∃ w',(storeCells ⟨b,off+j*sz,none⟩ ds 0).run P w=.ok () w'∧aU c (A.aT n (.box (y.ev p (.agg (fs.take j++(ys++fs.drop (j+ys.length))))))) a w' D E:=by
 obtain ⟨d1,d2,d3,rfl,q1,q2,q3⟩:=tI hfs hsz j ys.length hj;have hd1:aN w D E (fs.take j) d1:=by
  have e1:fs=fs.take j++fs.drop j:=(List.take_append_drop j fs).symm;rw[e1] at hfs;obtain ⟨e1,e2,he,k1,k2⟩:=tH _ _ _ hfs;have aq:e1.length=d1.length:=by
   rw[aN.length _ _ k1,I.im _ (fun x hx=>hsz x (List.mem_of_mem_take hx)),q1,zy9];congr 1;omega
  have:e1=d1:=by
   have:=congrArg (List.take d1.length) he;rw[List.take_left,←aq,List.take_left] at this;exact this.symm
  rw[←this];exact k1
 have hlen:ds.length=d2.length:=by rw[aN.length _ _ hys,aN.length _ _ q2,←I.ml,←I.ml,hsh]
 have hds:al w D E (.agg (fs.take j++(ys++fs.drop (j+ys.length)))) (d1++(ds++d3)):=by
  simp only[al];refine jW _ _ _ _ hd1 (jW _ _ _ _ hys ?_);rw[List.drop_drop] at q3;exact q3
 have hshape:(I.agg (fs.take j++(ys++fs.drop (j+ys.length)))).aX=(I.agg fs).aX:=by
  simp only[I.aX,cR.eI.injEq,I.dy,zz3];rw[←I.dy ys,hsh,I.dy,←zz3,←zz3]
  congr 1
  rw[←List.drop_drop,List.take_append_drop,List.take_append_drop]
 obtain ⟨off',g1,g2,g3,g4⟩:=tF p y _ _ _ _ hy hat hds hshape;rw[hoff,v6] at g1;subst g1;have hst:=run_storeCells_at P b (off+j*sz) T ds 0 cs w hb (by
  have:cs.size=cs.toList.length:=by simp
  rw[this,hcs];simp only[Z7];omega) (aN.lV _ _ hys)
 simp only[Nat.add_zero] at hst;refine ⟨_,hst,?_⟩;refine h.xI hn aA g4 ?_;have e:cs.toList.take (off+j*sz)++ds++cs.toList.drop (off+j*sz+ds.length)=cs.toList.take off++(d1++(ds++d3))++cs.toList.drop (off+(d1++(ds++d3)).length):=by
  rw[hcs];have t1:(c1++(d1++(d2++d3))++c3).take (off+j*sz)=c1++d1:=by
   rw[←hc1,←q1,zz1,List.take_length_add_append,zz1,List.take_left]
  have t2:(c1++(d1++(d2++d3))++c3).drop (off+j*sz+ds.length)=d3++c3:=by
   rw[←hc1,←q1,hlen,zz1,Nat.add_assoc,List.drop_length_add_append,zz1,List.drop_length_add_append,zz1,List.drop_left]
  have t3:(c1++(d1++(d2++d3))++c3).take off=c1:=by rw[←hc1,zz1,List.take_left]
  have t4:(c1++(d1++(d2++d3))++c3).drop (off+(d1++(ds++d3)).length)=c3:=by
   have:(d1++(ds++d3)).length=(d1++(d2++d3)).length:=by simp[hlen]
   rw[this,←hc1,zz1,List.drop_length_add_append,List.drop_left]
  rw[t1,t2,t3,t4];simp
 rw[e];simpa using g3
end
section
variable {c:cV} {A:ai} {o:Oper} {x:I}
theorem mh{P:Program}{w:World}(k:IntKind)(n:Int)(y:Nat)(code:BoundsCode)(g1:0≤n)(g2:n≤y):(Instr.sliceBound (.int k n) y code).run P w=.ok n.toNat w:=by
 simp[Instr.sliceBound,asIntOf,g1,g2]
theorem Wd{t e:TypeId}{y:Operand}{y':aO}{lo hi mx:Option Operand}{lo' hi' mx':Option aO}{i:TypeInfo}{fs:List I}{n:Nat}{p:List Nat}{sz l0 k:Nat}(ho:o.op=.slice t y lo hi mx)(hu:c.P.underlying t=some (.slice e))(hi0:c.P.info? e=some i)
  (hy:bx c.P 0 y=some y') (J:iw c.P lo=some lo') (U:iw c.P hi=some hi') (ah:iw c.P mx=some mx') (hmh:mx'.isSome=true→hi'.isSome=true) (hsz:sz=c.P.cellsOf e)
  (h:ak A y'=.view n p sz l0 k) (af:cM A (.ptr n p)=some (.agg fs)) (hx:nh n p sz l0 k fs.length (lo'.map (ak A)) (hi'.map (ak A)) (mx'.map (ak A))=some x):dL c A o x :=
 .same fun a w D E ab=>by
  have opt:∀ {q:Option Operand} {q':Option aO},iw c.P q=some q'→ij w D E (q'.map (ak A)) (q.map a.eval):=by
   intro q q' hq;cases q with
   |none=>simp only[iw,v6] at hq;subst hq;simp[ij]
   |some z =>
    simp only[iw,t7] at hq;obtain ⟨z',hz,rfl⟩:=hq;simpa[ij] using bX ab hz
  have aW:=bX ab hy;rw[h] at aW;obtain ⟨yy,b,cs,T,off,c1,c2,c3,k1,k2,k3,k4,k5,k6,k7,k8,k9,k10,k11,k12,hval⟩:=ab.view aW af;have hmh':(mx'.map (ak A)).isSome=true→(hi'.map (ak A)).isSome=true:=by simpa using hmh
  unfold nh at hx;split at hx
  ·cases hx
  rename_i bH hbh;split at hx
  ·cases hx
  rename_i ll hbl;have d1:=rl (opt J) hbl;have d2:=rl (opt U) hbh;have o3:=opt ah;split at hx
  ·rename_i hmx;split at hx
   case isFalse=>cases hx
   rename_i hb;obtain ⟨b1,b2,b3⟩:=hb;have hvmx:mx.map a.eval=none:=by
    rw[hmx] at o3;cases hq:mx.map a.eval with
    |none=>rfl
    |some v=>rw[hq] at o3;simp[ij] at o3
   have hsb:(Instr.sliceBounds true k (fs.length-l0) (lo.map a.eval) (hi.map a.eval) (mx.map a.eval)).run c.P w=.ok (ll.toNat,bH.toNat,fs.length-l0) w:=by
    rw[hvmx];rcases d2 with ⟨_,g2,hm2⟩ | ⟨_,q2,g2⟩ <;>rcases d1 with ⟨_,g1,hm1⟩ | ⟨_,q1,g1⟩ <;>rw[g1,g2]
    ·subst hm1 hm2;simp[Instr.sliceBounds]
    ·subst hm2;simp[Instr.sliceBounds,mh q1 ll k _ b1 (by omega)]
    ·subst hm1;simp[Instr.sliceBounds,mh q2 bH (fs.length-l0) _ (by omega) (by omega)]
    ·simp[Instr.sliceBounds,mh q2 bH (fs.length-l0) _ (by omega) (by omega),mh q1 ll bH.toNat _ b1 (by omega)]
   have hrun:(Instr.sliceAt t (a.eval y) (lo.map a.eval) (hi.map a.eval) (mx.map a.eval)).run c.P w =
     .ok (.slice (if fs.length-l0=ll.toNat then some ⟨b,off+l0*sz,none⟩ else some ⟨b,off+l0*sz+ll.toNat*c.P.cellsOf e,none⟩) (bH.toNat-ll.toNat) (fs.length-l0-ll.toNat)) w:=by
    rw[hval];simp only[Instr.sliceAt,Instr.slice,Sem.run_bind,run_underlying hu,Result.andThen_ok,hsb,iM hi0,Sem.run_pure,zz0,mz]
   refine ⟨_,by simp only[execOp,ho,Sem.run_bind,hrun];rfl,?_⟩;split at hx
   ·rename_i aq;simp only[v6] at hx;subst hx;have e1:fs.length-l0=ll.toNat:=by omega
    have e2:bH.toNat-ll.toNat=0:=by omega
    rw[if_pos e1,e2,e1,Nat.sub_self];exact ⟨_,by simp[bD,I.isAgg];rfl,by simp only[al];exact ⟨_,rfl⟩⟩
   ·rename_i aq;simp only[v6] at hx;subst hx;rw[if_neg (by omega)];refine ⟨_,by simp[bD,I.isAgg];rfl,?_⟩;simp only[al];refine ⟨b,yy.aX,off,I.c7 fs,k2,k5,mj p yy _ k4,?_,?_,?_,?_⟩
    ·rw[I.dy,Z8,Nat.add_mul,Nat.add_assoc,hsz,Nat.sub_sub]
    ·rw[I.dy,Z8];exact k12
    ·rw[I.dy,Z8];omega
    ·rw[I.dy];intro s hs';obtain ⟨f,hf,rfl⟩:=zy1.1 hs';rw[I.ln];exact k10 f hf
  ·rename_i kk m hmx;split at hx
   case isFalse=>cases hx
   rename_i hb;obtain ⟨b1,b2,b3,b4⟩:=hb;simp only[v6] at hx;subst hx;obtain ⟨vmx,hvmx,hvm⟩:∃ v,mx.map a.eval=some v∧v=.int kk m:=by
    rw[hmx] at o3;cases hq:mx.map a.eval with
    |none=>rw[hq] at o3;simp[ij] at o3
    |some v=>rw[hq] at o3;simp only[ij] at o3;exact ⟨v,rfl,(eV o3).1⟩
   subst hvm;have hsb:∃ r,(Instr.sliceBounds true k (fs.length-l0) (lo.map a.eval) (hi.map a.eval) (mx.map a.eval)).run c.P w=.ok r w:=by
    rw[hvmx];rcases d2 with ⟨g0,g2,hm2⟩ | ⟨_,q2,g2⟩
    ·rw[hmx,g0] at hmh';simp at hmh'
    ·rcases d1 with ⟨_,g1,hm1⟩ | ⟨_,q1,g1⟩ <;>rw[g1,g2]
     ·exact ⟨_,by simp[Instr.sliceBounds,mh kk m (fs.length-l0) _ (by omega) b4,mh q2 bH m.toNat _ (by omega) (by omega)];rfl⟩
     ·exact ⟨_,by simp[Instr.sliceBounds,mh kk m (fs.length-l0) _ (by omega) b4,mh q2 bH m.toNat _ (by omega) (by omega),mh q1 ll bH.toNat _ b1 (by omega)];rfl⟩
   obtain ⟨⟨r1,n5,tE⟩,hsb⟩:=hsb;have hrun:∃ v,(Instr.sliceAt t (a.eval y) (lo.map a.eval) (hi.map a.eval) (mx.map a.eval)).run c.P w=.ok v w:=by
    rw[hval];exact ⟨_,by simp only[Instr.sliceAt,Instr.slice,Sem.run_bind,run_underlying hu,Result.andThen_ok,hsb,iM hi0,Sem.run_pure,zz0];rfl⟩
   obtain ⟨v,hrun⟩:=hrun;exact ⟨v,by simp only[execOp,ho,Sem.run_bind,hrun];rfl,by simp[aZ]⟩
  ·cases hx
theorem V2{t e:TypeId}{y z:Operand}{y' z':aO}{i:TypeInfo}{fs:List I}{n:Nat}{p:List Nat}{sz lo k:Nat}{kk:IntKind}{j:Int}(ho:o.op=.indexAddr t y z)(hu:c.P.underlying t=some (.slice e))(hi:c.P.info? e=some i)
  (hy:bx c.P 0 y=some y') (hz:bx c.P 0 z=some z') (hsz:sz=c.P.cellsOf e) (h:ak A y'=.view n p sz lo k) (af:cM A (.ptr n p)=some (.agg fs)) (h':ak A z'=.int kk j) (hj:0≤j∧j<k):dL c A o (.ptr n (p++[lo+j.toNat])) :=
 .same fun a w D E ab=>by
  have aW:=bX ab hy;rw[h] at aW;have h1':=bX ab hz;rw[h'] at h1';obtain ⟨yy,b,cs,T,off,c1,c2,c3,k1,k2,k3,k4,k5,k6,k7,k8,k9,k10,k11,k12,hval⟩:=ab.view aW af;refine ⟨.pointer (some ⟨b,off+lo*sz+j.toNat*c.P.cellsOf e,none⟩),by simp only[execOp,ho,hval,(eV h1').1,Sem.run_bind,xB hu hi hj];rfl,?_⟩;refine ⟨_,by simp[bD,I.isAgg];rfl,?_⟩;simp only[al];refine ⟨b,yy.aX,off+(lo+j.toNat)*sz,k2,?_,by rw[Nat.add_mul,←Nat.add_assoc,hsz]⟩;have aq:lo+j.toNat<fs.length:=by omega
  rw[cR.tr p yy.aX off (lo+j.toNat) _ k5 (mj p yy _ k4) (by rw[I.dy];simpa using aq),I.dy,←List.map_take,←I.dy,I.ml,ov fs _ k10 (by omega)]
theorem wb{ty:TypeId}{y:Operand}{y':aO}{n:Nat}{e:TypeId}(ho:o.op=.call { callee:=.builtin .cap,args := #[y],argTypes := #[ty] })(hu:c.P.underlying ty=some (.slice e))
  (hy:bx c.P ty y=some y') (h:∀ a w D E,aU c A a w D E→∀ v,aZ w D E (ak A y') v→n≤maxLen∧∃ ad l,v=.slice ad l n):dL c A o (.int .i64 n) :=
 .same fun a w D E ab=>by
  obtain ⟨aW,ad,l,hv⟩:=h a w D E ab _ (bX ab hy);exact ⟨.int .i64 n,by simp[execOp,ho,resolve,invoke,builtin,Builtin.cap_,run_underlying hu,hv,goInt],jQ (wG aW)⟩
theorem VP{t e:TypeId}{i:TypeInfo}(ho:o.op=.buildSlice t 0 #[])(hu:c.P.underlying t=some (.slice e))(hi:c.P.info? e=some i):dL c A o (.c0 (c.P.cellsOf e)):=by
 intro a w D E ab;have hs':=ab.newRow (.cells #[] e);refine ⟨.slice (some ⟨w.heap.size,0,none⟩) 0 0,_,_,?_,hs',⟨_,by simp[bD,I.isAgg];rfl,by simp only[al];exact ⟨_,rfl⟩⟩⟩;simp[execOp,ho,Instr.buildSlice,run_underlying hu,iM hi,newRow,Instr.fill,show (Array.range 0) = #[] from rfl]
theorem Xh{neg:Bool}{t e:TypeId}{y z:Operand}{y':aO}{yt:TypeId}{s:Nat}(ho:o.op=.binOp (if neg then .neq else .eql) t y z yt)(hu:c.P.underlying t=some (.slice e))(hy:bx c.P 0 y=some y')(hz:bx c.P 0 z=some (.c (.nils s)))
  (h:∃ sz,ak A y'=.slice sz []∨ak A y'=.c0 sz) {a:Act} {w:World} {D:aP} {E:aY} (ab:aU c A a w D E):∃ b,(execOp a.eval o).run c.P w=.ok (.value (.bool b)) w:=by
 have aW:=bX ab hy;have J:aZ w D E (.nils s) (a.eval z):=bX ab hz;have hv:∃ ad cp,a.eval y=.slice ad 0 cp:=by
  obtain ⟨sz,h | h⟩:=h <;>rw[h] at aW
  ·obtain ⟨ad,cap,e1,_⟩:=nf aW;exact ⟨ad,cap,by simpa using e1⟩
  ·obtain ⟨cs,q1,q2⟩:=aW;simp only[al] at q2;obtain ⟨ad,q2⟩:=q2;exact ⟨ad,0,by simpa[bD,I.isAgg,q2] using q1.symm⟩
 obtain ⟨ad,cp,hyv⟩:=hv;have hv:a.eval z=.slice none 0 0:=by
  obtain ⟨cs,q1,q2⟩:=J;simp only[al] at q2;simpa[bD,I.isAgg,q2] using q1.symm
 have he:∀ d,(Op.equalIn (d+1) t (.slice ad 0 cp) (.slice none 0 0)).run c.P w=.ok ad.isNone w:=fun d=>by
  cases ad <;>simp[Op.equalIn,run_underlying hu]
 refine ⟨if neg then !ad.isNone else ad.isNone,?_⟩;cases neg <;>simp only[execOp,ho,hyv,hv,if_true,Z2,if_false,Sem.run_bind,eqGuard] <;>simp[binOp,Op.equal,Op.maxDepth,he]
def jf(y:I)(p:List Nat)(j:Nat)(fs ys:List I):I:=y.ev p (.agg (fs.take j++(ys++fs.drop (j+ys.length))))
theorem Mg{t e:TypeId}{y:Operand}{y':aO}{z:I}{n:Nat}{p:List Nat}{lo k:Nat}{b:I}{fs:List I}(ho:o.op=.call { callee:=.builtin .clear,args := #[y],argTypes := #[t] })(hu:c.P.underlying t=some (.slice e))(hy:bx c.P t y=some y')
  (hz:gj c.P e=some z) (hv:ak A y'=.view n p (c.P.cellsOf e) lo k) (hn:A.o n=some (.box b)) (hat:b.at p=some (.agg fs)) (hsh:I.c7 (List.replicate k z)=I.c7 ((fs.drop lo).take k)) (af:o.dst=none) :
  h1 c A o (A.aT n (.box (jf b p lo fs (List.replicate k z)))):=by
 intro a w D E ab;obtain ⟨i,zv,hi,hzv,hzr⟩:=lz hz;have aW:=bX ab hy;rw[hv] at aW;have hx:cM A (.ptr n p)=some (.agg fs):=by simp only[cM,hn,hat]
 obtain ⟨yy,bk,cs,T,off,c1,c2,c3,k1,k2,k3,k4,k5,k6,k7,k8,k9,k10,k11,k12,hval⟩:=ab.view aW hx;rw[hn] at k1;simp only[v6,ao.box.injEq] at k1;subst k1;have hr:aN w D E (List.replicate k z) (Builtin.zeroCells zv.cells k).toList:=by
  rw[uj];exact ry (hzr w D E) k
 obtain ⟨w',J,U⟩:=ab.jf (j:=lo) (ys:=List.replicate k z) hn k2 k3 k4 k5 k6 k7 k8 k9 k10 hr (by simpa using k11) (by simpa using hsh) c.P;cases k with
 |zero =>
  refine ⟨w,.inl ⟨.tuple #[],?_,D,E,?_⟩⟩
  ·simp[execOp,ho,resolve,invoke,builtin,Builtin.clear_,run_underlying hu,hval]
  ·rw[af];have:jf b p lo fs (List.replicate 0 z)=b.ev p (.agg fs):=by simp[jf]
   have hw:w'=w:=by
    simp[Builtin.zeroCells,storeCells] at J;exact J.symm
   rw[hw] at U;exact U
 |succ k =>
  refine ⟨w',.inl ⟨.tuple #[],?_,D,E,?_⟩⟩
  ·simp[execOp,ho,resolve,invoke,builtin,Builtin.clear_,run_underlying hu,hval,zeroValue,typeInfo,hi,hzv,J]
  ·rw[af];exact U
theorem Mh{t e:TypeId}{y x:Operand}{y' x':aO}{n:Nat}{p:List Nat}{lo k m:Nat}{b:I}{fs ys:List I}(ho:o.op=.call { callee:=.builtin .copy,args := #[y,x],argTypes := #[t,t] })(hu:c.P.underlying t=some (.slice e))(hi:(c.P.info? e).isSome=true)
  (hy:bx c.P t y=some y') (hx:bx c.P t x=some x') (hv:ak A y'=.view n p (c.P.cellsOf e) lo k) (hn:A.o n=some (.box b)) (hat:b.at p=some (.agg fs)) (ab:eJ A (c.P.cellsOf e) (ak A x')=some ys) (hm:m=min ys.length k)
  (hsh:I.c7 (ys.take m)=I.c7 ((fs.drop lo).take m)) (hdn:∀ k,o.dst=some k→k<c.n) :
  h1 c A o ((A.aT n (.box (jf b p lo fs (ys.take m)))).aS o.dst (.int .i64 m)):=by
 intro a w D E hsim;obtain ⟨i,hi⟩:=zz9.1 hi;have aW:=bX hsim hy;rw[hv] at aW;have hxx:cM A (.ptr n p)=some (.agg fs):=by simp only[cM,hn,hat]
 obtain ⟨yy,bk,cs,T,off,c1,c2,c3,k1,k2,k3,k4,k5,k6,k7,k8,k9,k10,k11,k12,hval⟩:=hsim.view aW hxx;rw[hn] at k1;simp only[v6,ao.box.injEq] at k1;subst k1;obtain ⟨ad,cp,news,s1,s2,s3,s4,s5,s6⟩:=hsim.nj (bX hsim hx) ab;have hmy:m≤ys.length:=by omega
 have hci:c.P.cellsOf e=i.size:=by simp[Program.cellsOf,hi]
 obtain ⟨d1,d2,d3,e1,e2,e3,e4⟩:=tI s4 s5 0 m (by omega);simp only[Nat.zero_mul,List.drop_zero] at e2 e3;have e2':d1=[]:=List.eq_nil_of_length_eq_zero e2;subst e2';simp only[zy8] at e1;have hlen:(ys.take m).length=m:=by rw[zy9];omega
 have hd2:d2.length=m*i.size:=by rw[aN.length _ _ e3,I.im (sz:=c.P.cellsOf e) _ (fun y hy=>s5 y (List.mem_of_mem_take hy)),hlen,hci]
 obtain ⟨w',J,U⟩:=hsim.jf (j:=lo) (ys:=ys.take m) hn k2 k3 k4 k5 k6 k7 k8 k9 k10 e3 (by rw[hlen];omega) (by rw[hlen];exact hsh) c.P;have hf:(Builtin.firstCells i.size m (.slice ad ys.length cp)).run c.P w=.ok d2.toArray w:=by
  by_cases hm0:m=0
  ·have:d2=[]:=List.eq_nil_of_length_eq_zero (by rw[hd2,hm0];simp);subst this;cases ad with
   |none=>exact run_firstCells_none _ _ _ _ _
   |some ad=>exact run_firstCells_some w i.size m ad ys.length cp [] (by simp[hm0]) (by simp)
  ·obtain ⟨b2,o2,rfl,hr⟩:=s6 (fun h=>by rw[h] at hmy;simp at hmy;omega);refine run_firstCells_some w i.size m _ ys.length cp d2 hd2 fun j v hj =>?_;rw[Addr.add_lit];refine hr j v ?_;rw[e1,zz5 (Z6.1 hj).1];exact hj
 have h63:m≤maxLen:=by omega
 refine ⟨w',.inl ⟨.int .i64 m,?_,D,E,U.aS hdn (jQ (wG h63))⟩⟩;have hmin:Nat.min ys.length k=m:=hm.symm;rw[←hci] at hf;simp only[execOp,ho,resolve,invoke,builtin,Sem.run_bind,Sem.run_pure,Result.andThen_ok,List.map_toArray,Z3,zx0,hval,s1];simp[Builtin.copy_,run_underlying hu,Builtin.lenOf,hmin,iM hi,hf,J,goInt]
theorem oN{a:Act}{w:World}{D:aP}{E:aY}(ab:aU c A a w D E){sz:Nat}{x:I}{v:Value}{es:List I}(hv:aZ w D E x v)(he:eJ A sz x=some es) :
  ∃ ad cp olds,v=.slice ad es.length cp∧es.length≤cp∧cp≤maxLen∧aN w D E es olds∧(∀ y∈es,y.size=sz)∧∀ (P:Program) (w':World),(∀ p u,w.cell? p=some u→w'.cell? p=some u)→(Builtin.firstCells sz es.length v).run P w'=.ok olds.toArray w':=by
 obtain ⟨ad,cp,news,s1,s2,s3,s4,s5,s6⟩:=ab.nj hv he;refine ⟨ad,cp,news,s1,s2,s3,s4,s5,fun P w' hw =>?_⟩;have aq:news.length=es.length*sz:=by rw[aN.length _ _ s4,I.im _ s5]
 rw[s1];by_cases aW:es=[]
 ·subst aW;have:news=[]:=List.eq_nil_of_length_eq_zero (by rw[aq];simp);subst this;cases ad with
  |none=>exact run_firstCells_none _ _ _ _ _
  |some ad=>exact run_firstCells_some w' sz _ ad _ cp [] (by simp) (by simp)
 ·obtain ⟨b,o',rfl,hr⟩:=s6 aW;exact run_firstCells_some w' sz _ _ _ cp news aq fun j v hj=>by rw[Addr.add_lit];exact hw _ _ (hr j v hj)
theorem Hl{t e:TypeId}{s x:Operand}{s' x':aO}{es ys:List I}{z:I}{d:Nat}(ho:o.op=.call { callee:=.builtin .append,args := #[s,x],argTypes := #[t,t] })(hu:c.P.underlying t=some (.slice e))(hs':bx c.P t s=some s')(hx':bx c.P t x=some x')
  (hz:gj c.P e=some z) (hzs:z.size=c.P.cellsOf e) (hse:eJ A (c.P.cellsOf e) (ak A s')=some es) (hsx:eJ A (c.P.cellsOf e) (ak A x')=some ys) (hby:(es.length+ys.length)*c.P.bytesOf e≤140737488355328)
  (af:o.dst=some d) (hdn:d<c.n) (hf:A.o d=none) (hne:ys≠[]) {a:Act} {w:World} {D:aP} {E:aY} (hsim:aU c A a w D E) (hfull:∀ ad l cp,a.eval s=.slice ad l cp→cp<l+ys.length) (hml:es.length+ys.length≤maxLen) :
  ∃ v w' m,(execOp a.eval o).run c.P w=.ok (.value v) w'∧es.length+ys.length+m≤maxLen ∧
   b5 c ((A.aT d (.box (.agg (es++(ys++List.replicate m z))))).aS o.dst (.view d [] (c.P.cellsOf e) 0 (es.length+ys.length))) (a.put o.dst v) w':=by
 obtain ⟨i,zv,hi,hzv,hzr⟩:=lz hz;have hci:c.P.cellsOf e=i.size:=by simp[Program.cellsOf,hi]
 have hbi:c.P.bytesOf e=i.bytes:=by simp[Program.bytesOf,hi]
 obtain ⟨ad1,cp1,olds,s1,s2,s3,s4,s5,s6⟩:=oN hsim (bX hsim hs') hse;obtain ⟨ad2,cp2,news,t1,t2,t3,t4,t5,t6⟩:=oN hsim (bX hsim hx') hsx;have hlt:=hfull _ _ _ s1;obtain ⟨m,hm⟩:∃ m,m=grownCap w (es.length+ys.length) cp1 e-(es.length+ys.length):=⟨_,rfl⟩
 have hge:=grownCap_ge w (es.length+ys.length) cp1 e;have hle:=grownCap_le_maxLen w (es.length+ys.length) cp1 e hml;obtain ⟨cells,hcells⟩:∃ cells:Array Value,cells=olds.toArray++news.toArray++Builtin.zeroCells zv.cells m:=⟨_,rfl⟩
 have hrun:(Builtin.append_ #[t,t] o.type #[a.eval s,a.eval x]).run c.P w=.ok (.slice (some ⟨w.heap.size,0,none⟩) (es.length+ys.length) (grownCap w (es.length+ys.length) cp1 e)) (w.drew.alloc (.cells cells e)):=by
  have hn:¬ (es.length+ys.length≤cp1):=by omega
  have h63:¬ (9223372036854775807<((es.length:Int)+(ys.length:Int))):=by simp only[maxLen] at hml;omega
  have h48:¬ (281474976710656<Builtin.nextslicecap (es.length+ys.length) cp1*i.bytes):=by
   have ah:(es.length+ys.length)*i.bytes≤140737488355328:=by rw[←hbi];exact hby
   have:=growslice_fits hlt ah;omega
  have g1:=s6 c.P w.drew (fun _ _ h=>h);have g2:=t6 c.P w.drew (fun _ _ h=>h);rw[s1,hci] at g1;rw[t1,hci] at g2;rw[s1,t1,hcells,hm];simp[Builtin.append_,run_underlying hu,sizeOf,typeInfo,zeroValue,hi,hzv,Builtin.lenOf,hn,h63,h48,Question.forced,g1,g2,newRow,grownCap]
  congr 2
  apply Array.ext';simp[zz1]
 have hcl:cells.toList=olds++(news++(List.replicate m zv.cells.toList).flatten):=by
  rw[hcells];simp[uj]
 have hrc:al w D E (.agg (es++(ys++List.replicate m z))) cells.toList:=by
  rw[hcl];simp only[al];exact jW _ _ _ _ s4 (jW _ _ _ _ t4 (ry (hzr w D E) m))
 have hsim':aU c A a w.drew D E:=hsim.grow ⟨rfl,rfl,rfl,Z4 _,fun _ _=>rfl⟩ (fun _ _ h=>h) (fun _ _ h _=>h) (fun b o h=>hsim.aQ b o h);have hrc':al w.drew D E (.agg (es++(ys++List.replicate m z))) cells.toList:=al.later (w:=w) (w':=w.drew) (D:=D) (E:=E) ⟨fun _ _ h=>h,fun _ _ _ _ h=>h,fun _ _ _ h=>h,fun _ aJ l h=>⟨aJ,l,h,Z4 _,fun _=>rfl⟩,fun _ _ h=>h,fun _ _ h=>h,fun _ _ _ _ h=>h⟩ _ _ hrc;have J:=hsim'.qZ (T:=e) (.inl hdn) hf hrc';have hall:∀ y∈es++(ys++List.replicate m z),y.size=c.P.cellsOf e:=by
  intro y hy;rcases zy7.1 hy with hy | hy
  ·exact s5 y hy
  ·rcases zy7.1 hy with hy | hy
   ·exact t5 y hy
   ·rw[List.eq_of_mem_replicate hy];exact hzs
 have hlen:(es++(ys++List.replicate m z)).length=es.length+ys.length+m:=by simp[Nat.add_assoc]
 have U:=J.put (d:=d) (x:=.view d [] (c.P.cellsOf e) 0 (es.length+ys.length)) (v:=.slice (some ⟨w.heap.size,0,none⟩) (es.length+ys.length) (grownCap w (es.length+ys.length) cp1 e)) hdn ⟨_,by simp[bD,I.isAgg];rfl,by
  simp only[al,if_true];refine ⟨w.heap.size,(I.agg (es++(ys++List.replicate m z))).aX,0,I.c7 (es++(ys++List.replicate m z)),rfl,by cases (I.agg (es++(ys++List.replicate m z))).aX <;>simp[cR.off],by simp only[I.aX,cR.part],?_,?_,?_,?_⟩
  ·rw[I.dy,Z8,hlen,hm];simp;omega
  ·rw[I.dy,Z8,hlen];omega
  ·rw[I.dy,Z8,hlen];omega
  ·rw[I.dy];intro s ab;obtain ⟨f,hf,rfl⟩:=zy1.1 ab;rw[I.ln];exact hall f hf⟩
 refine ⟨.slice (some ⟨w.heap.size,0,none⟩) (es.length+ys.length) (grownCap w (es.length+ys.length) cp1 e),w.drew.alloc (.cells cells e),m,?_,by omega,?_⟩
 ·unfold execOp;simp only[ho,resolve,invoke,builtin,Sem.run_bind,Sem.run_pure,Result.andThen_ok,List.map_toArray,Z3,zx0,hrun]
 ·rw[af];exact ⟨D,_,U⟩
theorem Hm{t t' e:TypeId}{s x:Operand}{s' x':aO}{es:List I}{k:Nat}{kx kt:IntKind}{bW:Int}{z:I}{d:Nat}(ho:o.op=.call { callee:=.builtin .append,args := #[s,x],argTypes := #[t,t'] })(hu:c.P.underlying t=some (.slice e))(hs':bx c.P t s=some s')(hx':bx c.P t' x=some x')(ht':c.P.underlying t'=some (.int kt))(hvx:ak A x'=.int kx bW)(hk:bW.toNat=k)(hk0:0<k)(hpos:0<c.P.cellsOf e)
  (hz:gj c.P e=some z) (hzs:z.size=c.P.cellsOf e) (hse:eJ A (c.P.cellsOf e) (ak A s')=some es) (hby:(es.length+k)*c.P.bytesOf e≤140737488355328)
  (af:o.dst=some d) (hdn:d<c.n) (hf:A.o d=none) {a:Act} {w:World} {D:aP} {E:aY} (hsim:aU c A a w D E) (hfull:∀ ad l cp,a.eval s=.slice ad l cp→cp<l+k) (hml:es.length+k≤maxLen) :
  ∃ v w' m,(execOp a.eval o).run c.P w=.ok (.value v) w'∧es.length+k+m≤maxLen ∧
   b5 c ((A.aT d (.box (.agg (es++(List.replicate k z++List.replicate m z))))).aS o.dst (.view d [] (c.P.cellsOf e) 0 (es.length+k))) (a.put o.dst v) w':=by
 obtain ⟨i,zv,hi,hzv,hzr⟩:=lz hz;have hci:c.P.cellsOf e=i.size:=by simp[Program.cellsOf,hi]
 have hbi:c.P.bytesOf e=i.bytes:=by simp[Program.bytesOf,hi]
 obtain ⟨ad1,cp1,olds,s1,s2,s3,s4,s5,s6⟩:=oN hsim (bX hsim hs') hse;have v2:=bX hsim hx';rw[hvx] at v2;have t1:a.eval x=.int kx ((k:Nat):Int):=by rw[(eV v2).1];congr 1;omega
 have t4:aN w D E (List.replicate k z) (List.replicate k zv.cells.toList).flatten:=ry (hzr w D E) k;have t5:∀ y∈List.replicate k z,y.size=c.P.cellsOf e:=fun y hy=>by rw[List.eq_of_mem_replicate hy];exact hzs
 have hlt:=hfull _ _ _ s1;obtain ⟨m,hm⟩:∃ m,m=grownCap w (es.length+k) cp1 e-(es.length+k):=⟨_,rfl⟩
 have hge:=grownCap_ge w (es.length+k) cp1 e;have hle:=grownCap_le_maxLen w (es.length+k) cp1 e hml;obtain ⟨cells,hcells⟩:∃ cells:Array Value,cells=olds.toArray++Builtin.zeroCells zv.cells k++Builtin.zeroCells zv.cells m:=⟨_,rfl⟩
 have hrun:(Builtin.append_ #[t,t'] o.type #[a.eval s,a.eval x]).run c.P w=.ok (.slice (some ⟨w.heap.size,0,none⟩) (es.length+k) (grownCap w (es.length+k) cp1 e)) (w.drew.alloc (.cells cells e)):=by
  have ah:(es.length+k)*i.bytes≤140737488355328:=by rw[←hbi];exact hby
  have g1:=s6 c.P w.drew (fun _ _ h=>h);rw[s1,hci] at g1;have hfit:=growslice_fits hlt ah;have hkb:k*i.bytes≤(es.length+k)*i.bytes:=Nat.mul_le_mul_right _ (by omega);rw[s1,t1,hcells,hm];exact Lib.run_append_grow_zeros w t t' o.type e i zv kx kt hu ht' hi hzv ad1 es.length cp1 olds g1 k hk0 (by rw[←hci];exact hpos) hlt (by simp only[maxLen] at hml;omega) (by omega) (by omega)
 have hcl:cells.toList=olds++((List.replicate k zv.cells.toList).flatten++(List.replicate m zv.cells.toList).flatten):=by
  rw[hcells];simp[uj]
 have hrc:al w D E (.agg (es++(List.replicate k z++List.replicate m z))) cells.toList:=by
  rw[hcl];simp only[al];exact jW _ _ _ _ s4 (jW _ _ _ _ t4 (ry (hzr w D E) m))
 have hsim':aU c A a w.drew D E:=hsim.grow ⟨rfl,rfl,rfl,Z4 _,fun _ _=>rfl⟩ (fun _ _ h=>h) (fun _ _ h _=>h) (fun b o h=>hsim.aQ b o h);have hrc':al w.drew D E (.agg (es++(List.replicate k z++List.replicate m z))) cells.toList:=al.later (w:=w) (w':=w.drew) (D:=D) (E:=E) ⟨fun _ _ h=>h,fun _ _ _ _ h=>h,fun _ _ _ h=>h,fun _ aJ l h=>⟨aJ,l,h,Z4 _,fun _=>rfl⟩,fun _ _ h=>h,fun _ _ h=>h,fun _ _ _ _ h=>h⟩ _ _ hrc;have J:=hsim'.qZ (T:=e) (.inl hdn) hf hrc';have hall:∀ y∈es++(List.replicate k z++List.replicate m z),y.size=c.P.cellsOf e:=by
  intro y hy;rcases zy7.1 hy with hy | hy
  ·exact s5 y hy
  ·rcases zy7.1 hy with hy | hy
   ·exact t5 y hy
   ·rw[List.eq_of_mem_replicate hy];exact hzs
 have hlen:(es++(List.replicate k z++List.replicate m z)).length=es.length+k+m:=by simp[Nat.add_assoc]
 have U:=J.put (d:=d) (x:=.view d [] (c.P.cellsOf e) 0 (es.length+k)) (v:=.slice (some ⟨w.heap.size,0,none⟩) (es.length+k) (grownCap w (es.length+k) cp1 e)) hdn ⟨_,by simp[bD,I.isAgg];rfl,by
  simp only[al,if_true];refine ⟨w.heap.size,(I.agg (es++(List.replicate k z++List.replicate m z))).aX,0,I.c7 (es++(List.replicate k z++List.replicate m z)),rfl,by cases (I.agg (es++(List.replicate k z++List.replicate m z))).aX <;>simp[cR.off],by simp only[I.aX,cR.part],?_,?_,?_,?_⟩
  ·rw[I.dy,Z8,hlen,hm];simp;omega
  ·rw[I.dy,Z8,hlen];omega
  ·rw[I.dy,Z8,hlen];omega
  ·rw[I.dy];intro s ab;obtain ⟨f,hf,rfl⟩:=zy1.1 ab;rw[I.ln];exact hall f hf⟩
 refine ⟨.slice (some ⟨w.heap.size,0,none⟩) (es.length+k) (grownCap w (es.length+k) cp1 e),w.drew.alloc (.cells cells e),m,?_,by omega,?_⟩
 ·unfold execOp;simp only[ho,resolve,invoke,builtin,Sem.run_bind,Sem.run_pure,Result.andThen_ok,List.map_toArray,Z3,zx0,hrun]
 ·rw[af];exact ⟨D,_,U⟩
theorem Md{t e:TypeId}{s x:Operand}{s' x':aO}{ys:List I}{n:Nat}{p:List Nat}{lo k:Nat}{b:I}{fs:List I}(ho:o.op=.call { callee:=.builtin .append,args := #[s,x],argTypes := #[t,t] })(hu:c.P.underlying t=some (.slice e))(hi:(c.P.info? e).isSome=true)
  (hs':bx c.P t s=some s') (hx':bx c.P t x=some x') (hv:ak A s'=.view n p (c.P.cellsOf e) lo k) (hn:A.o n=some (.box b)) (hat:b.at p=some (.agg fs)) (hsx:eJ A (c.P.cellsOf e) (ak A x')=some ys) (hroom:lo+k+ys.length≤fs.length)
  (hsh:I.c7 ys=I.c7 ((fs.drop (lo+k)).take ys.length)) (hdn:∀ k,o.dst=some k→k<c.n) :
  h1 c A o ((A.aT n (.box (jf b p (lo+k) fs ys))).aS o.dst (.view n p (c.P.cellsOf e) lo (k+ys.length))):=by
 intro a w D E hsim;obtain ⟨i,hi⟩:=zz9.1 hi;have hci:c.P.cellsOf e=i.size:=by simp[Program.cellsOf,hi]
 have aW:=bX hsim hs';rw[hv] at aW;have hxx:cM A (.ptr n p)=some (.agg fs):=by simp only[cM,hn,hat]
 obtain ⟨yy,bk,cs,T,off,c1,c2,c3,k1,k2,k3,k4,k5,k6,k7,k8,k9,k10,k11,k12,hval⟩:=hsim.view aW hxx;rw[hn] at k1;simp only[v6,ao.box.injEq] at k1;subst k1;obtain ⟨ad2,cp2,news,t1,t2,t3,t4,t5,t6⟩:=oN hsim (bX hsim hx') hsx;obtain ⟨w',J,U⟩:=hsim.jf (j:=lo+k) (ys:=ys) hn k2 k3 k4 k5 k6 k7 k8 k9 k10 t4 hroom hsh c.P;have g2:=t6 c.P w (fun _ _ h=>h);rw[t1,hci] at g2;have hr:k+ys.length≤fs.length-lo:=by omega
 refine ⟨w',.inl ⟨.slice (some ⟨bk,off+lo*c.P.cellsOf e,none⟩) (k+ys.length) (fs.length-lo),?_,D,E,U.aS hdn ?_⟩⟩
 ·have e1:off+lo*i.size+k*i.size=off+(lo+k)*c.P.cellsOf e:=by rw[hci,Nat.add_mul];omega
  unfold execOp;simp only[ho,resolve,invoke,builtin,Sem.run_bind,Sem.run_pure,Result.andThen_ok,List.map_toArray,Z3,zx0,hval,t1];simp[Builtin.append_,run_underlying hu,sizeOf,typeInfo,hi,Builtin.lenOf,hr,g2,Addr.add_lit,hci,e1];rw[hci] at J;simp[J]
 ·refine ⟨_,by simp[bD,I.isAgg];rfl,?_⟩;simp only[al];refine ⟨bk,b.aX,off,I.c7 fs,k2,k5,mj p b _ k4,?_,?_,?_,?_⟩
  ·rw[I.dy,Z8]
  ·rw[I.dy,Z8];exact k12
  ·rw[I.dy,Z8];omega
  ·rw[I.dy];intro s ab;obtain ⟨f,hf,rfl⟩:=zy1.1 ab;rw[I.ln];exact k10 f hf
theorem Me{t e:TypeId}{s x:Operand}{s' x':aO}{es:List I}(ho:o.op=.call { callee:=.builtin .append,args := #[s,x],argTypes := #[t,t] })(hu:c.P.underlying t=some (.slice e))(hi:(c.P.info? e).isSome=true)(hs':bx c.P t s=some s')(hx':bx c.P t x=some x')
  (hse:eJ A (c.P.cellsOf e) (ak A s')=some es) (hsx:eJ A (c.P.cellsOf e) (ak A x')=some []):dL c A o (ak A s') :=
 .same fun a w D E hsim=>by
  obtain ⟨i,hi⟩:=zz9.1 hi;have hci:c.P.cellsOf e=i.size:=by simp[Program.cellsOf,hi]
  obtain ⟨ad1,cp1,olds,s1,s2,s3,s4,s5,s6⟩:=oN hsim (bX hsim hs') hse;obtain ⟨ad2,cp2,news,t1,t2,t3,t4,t5,t6⟩:=oN hsim (bX hsim hx') hsx;have g2:=t6 c.P w (fun _ _ h=>h);rw[t1,hci] at g2;simp only[aN] at t4;subst t4;refine ⟨a.eval s,?_,bX hsim hs'⟩;simp only[List.length_nil] at g2 t1;unfold execOp;simp only[ho,resolve,invoke,builtin,Sem.run_bind,Sem.run_pure,Result.andThen_ok,List.map_toArray,Z3,zx0,s1,t1];cases ad1 <;>simp[Builtin.append_,run_underlying hu,sizeOf,typeInfo,hi,Builtin.lenOf,s2,g2,storeCells]
end
end Go.Abs
