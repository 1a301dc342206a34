/-
  A part of the proof that the law MarchValid returns true for every input; three tables of Go's library start as the text lays them (the card ties them); conditions: none beyond the statement's own. (part 1 of 6)
-/
import Derived.WalkKit
import Derived.Orders
import Derived.Still
import Derived.RangeFuncSeq
import Derived.RangeFuncLeaves
import Derived.RangeFuncOwn
import Derived.Great.FillDense
import Derived.Great.BuildSlice
import Derived.ChangeKeysEq
import Derived.Laws.AppendOwn
import Derived.Lib.AppendZerosOnto
set_option linter.unusedSimpArgs false
set_option linter.unusedVariables false
set_option maxHeartbeats 16000000
set_option maxRecDepth 100000
namespace Go
theorem y6:type_of% @And.intro:=@And.intro
theorem v6:type_of% @Option.some.injEq:=@Option.some.injEq
theorem u8:type_of% @Nat.le_of_ble_eq_true:=@Nat.le_of_ble_eq_true
theorem t7:type_of% @Option.map_eq_some_iff:=@Option.map_eq_some_iff
theorem t8:type_of% @Bool.and_eq_true:=@Bool.and_eq_true
theorem Z0:type_of% @List.getD_eq_getElem?_getD:=@List.getD_eq_getElem?_getD
theorem Z1:type_of% @Nat.zero_add:=@Nat.zero_add
theorem Z2:type_of% @Bool.false_eq_true:=@Bool.false_eq_true
theorem Z3:type_of% @Nat.le_refl:=@Nat.le_refl
theorem Z4:type_of% @List.map_cons:=@List.map_cons
theorem Z5:type_of% @List.getElem?_eq_some_iff:=@List.getElem?_eq_some_iff
theorem Z6:type_of% @List.length_append:=@List.length_append
theorem Z7:type_of% @Option.map_some:=@Option.map_some
theorem Z8:type_of% @List.length_map:=@List.length_map
theorem Z9:type_of% @List.cons_append:=@List.cons_append
theorem Y4:type_of% @Array.getElem?_eq_some_iff:=@Array.getElem?_eq_some_iff
theorem Y5:type_of% @List.append_assoc:=@List.append_assoc
theorem Y6:type_of% @List.map_append:=@List.map_append
theorem Y7:type_of% @List.getElem?_eq_getElem:=@List.getElem?_eq_getElem
theorem Y8:type_of% @List.getElem?_append_left:=@List.getElem?_append_left
theorem Y9:type_of% @List.getD_cons_zero:=@List.getD_cons_zero
theorem zz0:type_of% @List.getD_cons_succ:=@List.getD_cons_succ
theorem zz1:type_of% @List.take_succ_eq_append_getElem:=@List.take_succ_eq_append_getElem
theorem zz2:type_of% @Option.isSome_iff_exists:=@Option.isSome_iff_exists
theorem zz3:type_of% @List.getElem?_map:=@List.getElem?_map
theorem zz4:type_of% @List.all_eq_true:=@List.all_eq_true
theorem zz5:type_of% @List.mem_map:=@List.mem_map
theorem zz6:type_of% @Array.length_toList:=@Array.length_toList
theorem zz7:type_of% @List.mem_singleton:=@List.mem_singleton
theorem zz8:type_of% @List.length_take:=@List.length_take
theorem zz9:type_of% @List.take_succ_cons:=@List.take_succ_cons
theorem zy0:type_of% @List.mem_append:=@List.mem_append
theorem zy1:type_of% @List.map_nil:=@List.map_nil
theorem zy2:type_of% @Array.getElem?_toList:=@Array.getElem?_toList
theorem zy3:type_of% @List.mem_filter:=@List.mem_filter
theorem zy4:type_of% @List.getElem?_append_right:=@List.getElem?_append_right
theorem zy5:type_of% @List.length_cons:=@List.length_cons
theorem zy6:type_of% @Option.bind_eq_some_iff:=@Option.bind_eq_some_iff
theorem zy7:type_of% @Array.getElem?_eq_getElem:=@Array.getElem?_eq_getElem
theorem zy8:type_of% @List.take_append_drop:=@List.take_append_drop
theorem zy9:type_of% @List.getElem?_eq_none:=@List.getElem?_eq_none
theorem zx0:type_of% @List.mem_range:=@List.mem_range
theorem zx1:type_of% @Nat.zero_le:=@Nat.zero_le
theorem zx2:type_of% @List.cons.injEq:=@List.cons.injEq
theorem zx3:type_of% @List.mem_cons:=@List.mem_cons
theorem zx4:type_of% @Nat.le_trans:=@Nat.le_trans
end Go
namespace Go.Abs
open Go
inductive I where
 |undef | du
 |bool (b:Bool)
 |int (k:IntKind) (n:Int)
 |bQ (s:ByteArray)
 |nilp | dA | dY
 |any
 |raw (v:Value)
 |nils (sz:Nat)
 |c0 (sz:Nat)
 |slice (sz:Nat) (es:List I)
 |agg (fs:List I)
 |tuple (fs:List I)
 |ref (c:I)
 |func (f:FuncId) (caps:List I)
 |iface (t:TypeId) (v:I)
 |ptr (n:Nat) (p:List Nat)
 |own (n:Nat) (k:Nat)
 |view (n:Nat) (p:List Nat) (sz lo k:Nat)
 |mref (n:Nat)
 |dk (n:Nat)
 |df (ks vs:List I)
 deriving Inhabited
inductive cP where
 |one
 |eG (l:List cP)
 deriving Inhabited
mutual
def cP.size:cP→Nat
 | .one=>1
 | .eG l=>cP.sizes l
def cP.sizes:List cP→Nat
 | []=>0
 |s::l=>s.size+cP.sizes l
end
mutual
def I.aX:I→cP
 | .agg fs=>.eG (I.cX fs)
 |_=>.one
def I.cX:List I→List cP
 | []=>[]
 |f::fs=>f.aX::I.cX fs
end
mutual
def I.size:I→Nat
 | .agg fs=>I.sizes fs
 |_=>1
def I.sizes:List I→Nat
 | []=>0
 |f::fs=>f.size+I.sizes fs
end
def I.isAgg:I→Bool
 | .agg _=>true
 |_=>false
def cP.off:cP→List Nat→Option Nat
 |_,[]=>some 0
 | .one,_::_=>none
 | .eG l,i::p=>match l[i]? with
  |some s=>(s.off p).map (cP.sizes (l.take i) + ·)
  |none=>none
def cP.part:cP→List Nat→Option cP
 |s,[]=>some s
 | .one,_::_=>none
 | .eG l,i::p=>match l[i]? with
  |some s=>s.part p
  |none=>none
def I.at:I→List Nat→Option I
 |c,[]=>some c
 | .agg fs,i::p=>match fs[i]? with
  |some f=>f.at p
  |none=>none
 |_,_::_=>none
def I.eB:I→List Nat→I→I
 |_,[],v=>v
 | .agg fs,i::p,v=>match fs[i]? with
  |some f=>.agg (fs.set i (f.eB p v))
  |none=>.agg fs
 |c,_::_,_=>c
inductive bM where
 |aN (b:Nat) (aX:cP)
 |rw (aG:Option (Nat×Nat)) (len:Nat)
 |op (b:Nat)
 |bt (b:Nat)
 |it (b:Nat)
def bM.eh:bM→Bool
 | .rw _ _=>false
 |_=>true
def bM.le(e e':bM):Prop:=e'=e∨∃ aG l blk' l',e=.rw aG l∧e'=.rw blk' l'∧l≤l'∧(l'=l→blk'=aG)
theorem bM.le.refl(e:bM):e.le e:=.inl rfl
theorem bM.le.eq{e e':bM}(h:e.le e')(hf:e.eh=true):e'=e:=by
 rcases h with h | ⟨aG,l,blk',l',rfl,_⟩
 ·exact h
 ·cases hf
theorem bM.le.trans{a b c:bM}(h:a.le b)(k:b.le c):a.le c:=by
 rcases h with rfl | ⟨aG,l,blk',l',rfl,rfl,J,U⟩
 ·exact k
 ·rcases k with rfl | ⟨_,_,blk2,l2,e,rfl,ah,ar⟩
  ·exact .inr ⟨aG,l,blk',l',rfl,rfl,J,U⟩
  ·cases e;exact .inr ⟨aG,l,blk2,l2,rfl,rfl,by omega,fun e=>by rw[ar (by omega),U (by omega)]⟩
abbrev aP:=Nat→Nat→Prop
abbrev aY:=Nat→Option bM
def reads(w:World)(D:aP)(b off:Nat)(cs:List Value):Prop :=
 ∀ j v,cs[j]?=some v→w.cell? ⟨b,off+j,none⟩=some v∧D b (off+j)
def ox(es:Array MapEntry)(clock:Nat):Prop:=(∀ x∈es.toList,x.born<clock)∧(es.toList.map (·.born)).Nodup
def nQ(w:World)(D:aP)(b:Nat)(es:Array MapEntry)(clock:Nat):Prop:=w.heap[b]?=some (.map es clock)∧D b 0∧ox es clock
def bA(e:I)(v:Value)(cs:List Value):Prop:=if e.isAgg then v=.agg cs.toArray else cs=[v]
def jr(f:Nat)(vs:List Value):Value:=if f<1000000 then .func (.func f) #[] vs.toArray else .func (.func (f-1000000)) vs.toArray #[]
theorem mB{f:Nat}(h:f<1000000)(vs:List Value):jr f vs=.func (.func f) #[] vs.toArray:=by simp only[jr,if_pos h]
theorem qo(f:Nat)(vs:List Value):jr (f+1000000) vs=.func (.func f) vs.toArray #[]:=by
 simp only[jr,if_neg (show ¬ f+1000000<1000000 by omega),Nat.add_sub_cancel]
theorem MW{f:Nat}{vs vs':List Value}(h:jr f vs=jr f vs'):vs=vs':=by
 rcases Nat.lt_or_ge f 1000000 with hf | hf
 ·rw[mB hf,mB hf] at h;simpa using h
 ·obtain ⟨g,rfl⟩:∃ g,f=g+1000000:=⟨f-1000000,by omega⟩
  rw[qo,qo] at h;simpa using h
theorem A2(f:Nat)(vs:List Value):(jr f vs).oneCell'=true:=by
 simp only[jr];split <;>simp[Value.oneCell']
mutual
/-- These cells hold this value. -/
def al(w:World)(D:aP)(E:aY):I→List Value→Prop
 | .agg fs,cs=>aM w D E fs cs
 | .bool b,cs=>cs=[.bool b]
 | .int k n,cs=>cs=[.int k n]∧k.min≤n∧n≤k.max
 | .bQ s,cs=>cs=[.string s]∧s.size≤maxLen
 | .nilp,cs=>cs=[.pointer none]
 | .dA,cs=>cs=[.nilFunc]
 | .dY,cs=>cs=[.nilIface]
 | .any,cs=>∃ v:Value,cs=[v]∧v.oneCell'=true
 | .raw u,cs=>cs=[u]∧u.oneCell'=true
 | .nils _,cs=>cs=[.slice none 0 0]
 | .c0 _,cs=>∃ a,cs=[.slice a 0 0]
 | .slice sz es,cs=>∃ a cap,cs=[.slice a es.length cap]∧es.length≤cap∧cap≤maxLen ∧
   (es=[]∨∃ b off cs',a=some ⟨b,off,none⟩∧reads w D b off cs'∧aM w D E es cs')∧∀ e∈es,e.size=sz
 | .ref c,cs=>∃ b off cs',cs=[.pointer (some ⟨b,off,none⟩)]∧reads w D b off cs'∧al w D E c cs'
 | .func f caps,cs=>∃ vs:List Value,cs=[jr f vs]∧aF w D E caps vs
 | .iface t v,cs=>∃ u cs',cs=[.iface t u]∧bA v u cs'∧al w D E v cs'
 | .ptr n p,cs=>∃ b aX off,E n=some (.aN b aX)∧aX.off p=some off∧cs=[.pointer (some ⟨b,off,none⟩)]
 | .own n k,cs=>∃ aG l,E n=some (.rw aG l)∧k≤l∧(∃ a m c,cs=[.slice a m c]) ∧
   (k=l→match aG with | none=>cs=[.slice none 0 0] | some (b,cap)=>cs=[.slice (some ⟨b,0,none⟩) k cap])
 | .view n p sz lo k,cs=>∃ b aX off l,E n=some (.aN b aX)∧aX.off p=some off∧aX.part p=some (.eG l)∧cs=[.slice (some ⟨b,off+lo*sz,none⟩) k (l.length-lo)]∧l.length≤maxLen∧lo+k≤l.length∧∀ s∈l,s.size=sz
 | .mref n,cs=>∃ b,E n=some (.bt b)∧cs=[.map (some b)]
 | .dk n,cs=>∃ b,E n=some (.it b)∧cs=[.pointer (some ⟨b,0,none⟩)]
 | .df ks vs,cs=>∃ b es clock,cs=[.map (some b)]∧nQ w D b es clock∧aF w D E ks (es.toList.map (·.key))∧aF w D E vs (es.toList.map (·.val))
 | .undef,_ | .du,_ | .tuple _,_=>False
def aM(w:World)(D:aP)(E:aY):List I→List Value→Prop
 | [],cs=>cs=[]
 |e::es,cs=>∃ c1 c2,cs=c1++c2∧al w D E e c1∧aM w D E es c2
def aF(w:World)(D:aP)(E:aY):List I→List Value→Prop
 | [],vs=>vs=[]
 |e::es,vs=>∃ v rest cs,vs=v::rest∧bA e v cs∧al w D E e cs∧aF w D E es rest
end
def aZ(w:World)(D:aP)(E:aY)(x:I)(v:Value):Prop :=
 match x with
 | .undef=>v=undef
 | .du=>True
 | .tuple fs=>∃ vs:List Value,v=.tuple vs.toArray∧aF w D E fs vs
 |x=>∃ cs,bA x v cs∧al w D E x cs
structure dV (w:World) (D:aP) (E:aY) (w':World) (D':aP) (E':aY):Prop where
 c6:∀ b o,D b o→D' b o
 cell:∀ b o v,D b o→w.cell? ⟨b,o,none⟩=some v→w'.cell? ⟨b,o,none⟩=some v
 aN:∀ n b aX,E n=some (.aN b aX)→E' n=some (.aN b aX)
 rw:∀ n aG l,E n=some (.rw aG l)→∃ blk' l',E' n=some (.rw blk' l')∧l≤l'∧(l'=l→blk'=aG)
 bt:∀ n b,E n=some (.bt b)→E' n=some (.bt b)
 it:∀ n b,E n=some (.it b)→E' n=some (.it b)
 je:∀ b es ck,D b 0→w.heap[b]?=some (.map es ck)→w'.heap[b]?=some (.map es ck)
structure gM (w:World) (D:aP) (w':World):Prop where
 cell:∀ b o v,D b o→w.cell? ⟨b,o,none⟩=some v→w'.cell? ⟨b,o,none⟩=some v
 je:∀ b es ck,D b 0→w.heap[b]?=some (.map es ck)→w'.heap[b]?=some (.map es ck)
theorem gM.refl(w:World)(D:aP):gM w D w:=⟨fun _ _ _ _ h=>h,fun _ _ _ _ h=>h⟩
theorem gM.trans{w w' w'':World}{D D':aP}(h:gM w D w')(hD:∀ b o,D b o→D' b o)(k:gM w' D' w''):gM w D w'' :=
 ⟨fun b o v af hv=>k.cell b o v (hD b o af) (h.cell b o v af hv),fun b es ck af hm=>k.je b es ck (hD b 0 af) (h.je b es ck af hm)⟩
theorem dV.fB{w w':World}{D D':aP}{E E':aY}(h:dV w D E w' D' E'):gM w D w':=⟨h.cell,h.je⟩
theorem nQ.later{w w':World}{D D':aP}{E E':aY}(h:dV w D E w' D' E'){b:Nat}{es:Array MapEntry}{clock:Nat}(hr:nQ w D b es clock):nQ w' D' b es clock :=
 ⟨h.je _ _ _ hr.2.1 hr.1,h.c6 _ _ hr.2.1,hr.2.2⟩
theorem reads.later{w w':World}{D D':aP}{E E':aY}(h:dV w D E w' D' E'){b off:Nat}{cs:List Value}(hr:reads w D b off cs):reads w' D' b off cs :=
 fun j v hj=>⟨h.cell _ _ _ (hr j v hj).2 (hr j v hj).1,h.c6 _ _ (hr j v hj).2⟩
mutual
theorem al.later{w w':World}{D D':aP}{E E':aY}(h:dV w D E w' D' E'):∀ (x:I) (cs:List Value),al w D E x cs→al w' D' E' x cs
 | .agg fs,cs,hr=>by simp only[al] at *;exact aM.later h fs cs hr
 | .bool b,cs,hr=>by simpa only[al] using hr
 | .int k n,cs,hr=>by simpa only[al] using hr
 | .bQ s,cs,hr=>by simpa only[al] using hr
 | .nilp,cs,hr=>by simpa only[al] using hr
 | .dA,cs,hr=>by simpa only[al] using hr
 | .dY,cs,hr | .any,cs,hr=>by simpa only[al] using hr
 | .raw _,cs,hr=>by simpa only[al] using hr
 | .nils _,cs,hr=>by simpa only[al] using hr
 | .c0 _,cs,hr=>by simpa only[al] using hr
 | .slice sz es,cs,hr=>by
  simp only[al] at *;obtain ⟨a,cap,J,U,ah,ar,h5⟩:=hr;refine ⟨a,cap,J,U,ah,?_,h5⟩;rcases ar with ar | ⟨b,off,cs',h6,h7,h8⟩
  ·exact .inl ar
  ·exact .inr ⟨b,off,cs',h6,h7.later h,aM.later h es cs' h8⟩
 | .ref c,cs,hr=>by
  simp only[al] at *;obtain ⟨b,off,cs',J,U,ah⟩:=hr;exact ⟨b,off,cs',J,U.later h,al.later h c cs' ah⟩
 | .func f caps,cs,hr=>by
  simp only[al] at *;obtain ⟨vs,J,U⟩:=hr;exact ⟨vs,J,aF.later h caps vs U⟩
 | .iface t v,cs,hr=>by
  simp only[al] at *;obtain ⟨u,cs',J,U,ah⟩:=hr;exact ⟨u,cs',J,U,al.later h v cs' ah⟩
 | .ptr n p,cs,hr=>by
  simp only[al] at *;obtain ⟨b,aX,off,J,U,ah⟩:=hr;exact ⟨b,aX,off,h.aN _ _ _ J,U,ah⟩
 | .own n k,cs,hr=>by
  simp only[al] at *;obtain ⟨aG,l,J,U,ah,ar⟩:=hr;obtain ⟨blk',l',h5,h6,h7⟩:=h.rw _ _ _ J;refine ⟨blk',l',h5,zx4 U h6,ah,fun e =>?_⟩;have e1:l'=l:=by omega
  rw[h7 e1];exact ar (by omega)
 | .view n p _ _ _,cs,hr=>by
  simp only[al] at *;obtain ⟨b,aX,off,l,J,U⟩:=hr;exact ⟨b,aX,off,l,h.aN _ _ _ J,U⟩
 | .mref n,cs,hr=>by
  simp only[al] at *;obtain ⟨b,J,U⟩:=hr;exact ⟨b,h.bt _ _ J,U⟩
 | .dk n,cs,hr=>by
  simp only[al] at *;obtain ⟨b,J,U⟩:=hr;exact ⟨b,h.it _ _ J,U⟩
 | .df ks vs,cs,hr=>by
  simp only[al] at *;obtain ⟨b,es,clock,J,U,ah,ar⟩:=hr;exact ⟨b,es,clock,J,U.later h,aF.later h ks _ ah,aF.later h vs _ ar⟩
 | .undef,_,hr=>by simp only[al] at hr
 | .du,_,hr=>by simp only[al] at hr
 | .tuple _,_,hr=>by simp only[al] at hr
theorem aM.later{w w':World}{D D':aP}{E E':aY}(h:dV w D E w' D' E'):∀ (xs:List I) (cs:List Value),aM w D E xs cs→aM w' D' E' xs cs
 | [],cs,hr=>by simpa only[aM] using hr
 |x::xs,cs,hr=>by
  simp only[aM] at *;obtain ⟨c1,c2,J,U,ah⟩:=hr;exact ⟨c1,c2,J,al.later h x c1 U,aM.later h xs c2 ah⟩
theorem aF.later{w w':World}{D D':aP}{E E':aY}(h:dV w D E w' D' E'):∀ (xs:List I) (vs:List Value),aF w D E xs vs→aF w' D' E' xs vs
 | [],vs,hr=>by simpa only[aF] using hr
 |x::xs,vs,hr=>by
  simp only[aF] at *;obtain ⟨v,rest,cs,J,U,ah,ar⟩:=hr;exact ⟨v,rest,cs,J,U,al.later h x cs ah,aF.later h xs rest ar⟩
end
theorem aZ.later{w w':World}{D D':aP}{E E':aY}(h:dV w D E w' D' E'){x:I}{v:Value}(hr:aZ w D E x v):aZ w' D' E' x v:=by
 cases x <;>simp only[aZ] at * <;>first
  |exact hr
  |(obtain ⟨vs,J,U⟩:=hr;exact ⟨vs,J,aF.later h _ _ U⟩)
  |(obtain ⟨cs,J,U⟩:=hr;exact ⟨cs,J,al.later h _ _ U⟩)
mutual
theorem I.lq:∀ x:I,x.aX.size=x.size
 | .agg fs=>by simp only[I.aX,I.size,cP.size];exact I.mg fs
 | .undef | .du | .bool _ | .int _ _ | .bQ _ | .nilp | .dA | .dY | .any | .raw _ | .nils _ | .c0 _ | .slice _ _ | .tuple _ | .ref _ | .func _ _ | .iface _ _ | .ptr _ _ | .own _ _ | .view _ _ _ _ _ | .mref _ | .dk _ | .df _ _=>by simp only[I.aX,I.size,cP.size]
theorem I.mg:∀ xs:List I,cP.sizes (I.cX xs)=I.sizes xs
 | []=>by simp only[I.cX,I.sizes,cP.sizes]
 |x::xs=>by simp only[I.cX,I.sizes,cP.sizes];rw[I.lq x,I.mg xs]
end
mutual
theorem al.length{w:World}{D:aP}{E:aY} : ∀ (x:I) (cs:List Value),al w D E x cs→cs.length=x.size
 | .agg fs,cs,hr=>by simp only[al,I.size] at *;exact aM.length fs cs hr
 | .bool b,cs,hr=>by simp only[al] at hr;simp[hr,I.size]
 | .int k n,cs,hr=>by simp only[al] at hr;simp[hr.1,I.size]
 | .bQ s,cs,hr=>by simp only[al] at hr;simp[hr.1,I.size]
 | .nilp,cs,hr=>by simp only[al] at hr;simp[hr,I.size]
 | .dA,cs,hr=>by simp only[al] at hr;simp[hr,I.size]
 | .dY,cs,hr=>by simp only[al] at hr;simp[hr,I.size]
 | .any,cs,hr=>by simp only[al] at hr;obtain ⟨v,rfl,_⟩:=hr;simp[I.size]
 | .raw u,cs,hr=>by simp only[al] at hr;simp[hr.1,I.size]
 | .nils _,cs,hr=>by simp only[al] at hr;simp[hr,I.size]
 | .c0 _,cs,hr=>by simp only[al] at hr;obtain ⟨a,rfl⟩:=hr;simp[I.size]
 | .slice sz es,cs,hr=>by simp only[al] at hr;obtain ⟨a,cap,rfl,_⟩:=hr;simp[I.size]
 | .ref c,cs,hr=>by simp only[al] at hr;obtain ⟨b,off,cs',rfl,_⟩:=hr;simp[I.size]
 | .func f caps,cs,hr=>by simp only[al] at hr;obtain ⟨vs,rfl,_⟩:=hr;simp[I.size]
 | .iface t v,cs,hr=>by simp only[al] at hr;obtain ⟨u,cs',rfl,_⟩:=hr;simp[I.size]
 | .ptr n p,cs,hr=>by simp only[al] at hr;obtain ⟨b,aX,off,_,_,rfl⟩:=hr;simp[I.size]
 | .own n k,cs,hr=>by simp only[al] at hr;obtain ⟨aG,l,_,_,⟨a,m,c,rfl⟩,_⟩:=hr;simp[I.size]
 | .view n p _ _ _,cs,hr=>by simp only[al] at hr;obtain ⟨b,aX,off,l,_,_,_,rfl,_⟩:=hr;simp[I.size]
 | .mref n,cs,hr=>by simp only[al] at hr;obtain ⟨b,_,rfl⟩:=hr;simp[I.size]
 | .dk n,cs,hr=>by simp only[al] at hr;obtain ⟨b,_,rfl⟩:=hr;simp[I.size]
 | .df ks vs,cs,hr=>by simp only[al] at hr;obtain ⟨b,es,ck,rfl,_⟩:=hr;simp[I.size]
 | .undef,_,hr=>by simp only[al] at hr
 | .du,_,hr=>by simp only[al] at hr
 | .tuple _,_,hr=>by simp only[al] at hr
theorem aM.length{w:World}{D:aP}{E:aY} : ∀ (xs:List I) (cs:List Value),aM w D E xs cs→cs.length=I.sizes xs
 | [],cs,hr=>by simp only[aM] at hr;simp[hr,I.sizes]
 |x::xs,cs,hr=>by
  simp only[aM] at hr;obtain ⟨c1,c2,rfl,J,U⟩:=hr;simp only[Z6,I.sizes,al.length x c1 J,aM.length xs c2 U]
end
mutual
theorem al.lV{w:World}{D:aP}{E:aY} : ∀ (x:I) (cs:List Value),al w D E x cs→∀ v∈cs,v.oneCell'=true
 | .agg fs,cs,hr=>by simp only[al] at hr;exact aM.lV fs cs hr
 | .bool b,cs,hr=>by simp only[al] at hr;simp[hr,Value.oneCell']
 | .int k n,cs,hr=>by simp only[al] at hr;simp[hr.1,Value.oneCell']
 | .bQ s,cs,hr=>by simp only[al] at hr;simp[hr.1,Value.oneCell']
 | .nilp,cs,hr=>by simp only[al] at hr;simp[hr,Value.oneCell']
 | .dA,cs,hr=>by simp only[al] at hr;simp[hr,Value.oneCell']
 | .dY,cs,hr=>by simp only[al] at hr;simp[hr,Value.oneCell']
 | .any,cs,hr=>by simp only[al] at hr;obtain ⟨v,rfl,h⟩:=hr;simpa using h
 | .raw u,cs,hr=>by simp only[al] at hr;simpa[hr.1] using hr.2
 | .nils _,cs,hr=>by simp only[al] at hr;simp[hr,Value.oneCell']
 | .c0 _,cs,hr=>by simp only[al] at hr;obtain ⟨a,rfl⟩:=hr;simp[Value.oneCell']
 | .slice sz es,cs,hr=>by simp only[al] at hr;obtain ⟨a,cap,rfl,_⟩:=hr;simp[Value.oneCell']
 | .ref c,cs,hr=>by simp only[al] at hr;obtain ⟨b,off,cs',rfl,_⟩:=hr;simp[Value.oneCell']
 | .func f caps,cs,hr=>by simp only[al] at hr;obtain ⟨vs,rfl,_⟩:=hr;simp only[jr];split <;>simp[Value.oneCell']
 | .iface t v,cs,hr=>by simp only[al] at hr;obtain ⟨u,cs',rfl,_⟩:=hr;simp[Value.oneCell']
 | .ptr n p,cs,hr=>by simp only[al] at hr;obtain ⟨b,aX,off,_,_,rfl⟩:=hr;simp[Value.oneCell']
 | .own n k,cs,hr=>by simp only[al] at hr;obtain ⟨aG,l,_,_,⟨a,m,c,rfl⟩,_⟩:=hr;simp[Value.oneCell']
 | .view n p _ _ _,cs,hr=>by simp only[al] at hr;obtain ⟨b,aX,off,l,_,_,_,rfl,_⟩:=hr;simp[Value.oneCell']
 | .mref n,cs,hr=>by simp only[al] at hr;obtain ⟨b,_,rfl⟩:=hr;simp[Value.oneCell']
 | .dk n,cs,hr=>by simp only[al] at hr;obtain ⟨b,_,rfl⟩:=hr;simp[Value.oneCell']
 | .df ks vs,cs,hr=>by simp only[al] at hr;obtain ⟨b,es,ck,rfl,_⟩:=hr;simp[Value.oneCell']
 | .undef,_,hr=>by simp only[al] at hr
 | .du,_,hr=>by simp only[al] at hr
 | .tuple _,_,hr=>by simp only[al] at hr
theorem aM.lV{w:World}{D:aP}{E:aY} : ∀ (xs:List I) (cs:List Value),aM w D E xs cs→∀ v∈cs,v.oneCell'=true
 | [],cs,hr=>by simp only[aM] at hr;simp[hr]
 |x::xs,cs,hr=>by
  simp only[aM] at hr;obtain ⟨c1,c2,rfl,J,U⟩:=hr;intro v hv;rcases zy0.1 hv with h | h
  ·exact al.lV x c1 J v h
  ·exact aM.lV xs c2 U v h
end
theorem bA.cells{x:I}{v:Value}{cs:List Value}{w:World}{D:aP}{E:aY}(h:bA x v cs)(hr:al w D E x cs):v.cells.toList=cs:=by
 unfold bA at h;split at h
 ·rw[h];simp[Value.cells]
 ·subst h;have:=al.lV x _ hr v (by simp);cases v <;>simp[Value.cells,Value.oneCell'] at *
theorem l3{w:World}{D:aP}{E:aY} : ∀ (xs:List I) (cs:List Value) (i:Nat) (x:I),aM w D E xs cs→xs[i]?=some x →
  ∃ c1 c2 c3,cs=c1++c2++c3∧c1.length=I.sizes (xs.take i)∧aM w D E (xs.take i) c1∧al w D E x c2∧aM w D E (xs.drop (i+1)) c3
 | [],_,i,x,_,h=>by simp at h
 |y::ys,cs,0,x,hr,h=>by
  simp only[List.getElem?_cons_zero,v6] at h;subst h;simp only[aM] at hr;obtain ⟨c1,c2,rfl,J,U⟩:=hr;exact ⟨[],c1,c2,by simp,by simp[I.sizes],by simp[aM],J,by simpa using U⟩
 |y::ys,cs,i+1,x,hr,h=>by
  simp only[List.getElem?_cons_succ] at h;simp only[aM] at hr;obtain ⟨c0,c',rfl,J,U⟩:=hr;obtain ⟨c1,c2,c3,rfl,ah,ar,h5,h6⟩:=l3 ys c' i x U h;refine ⟨c0++c1,c2,c3,by simp,?_,?_,h5,by simpa using h6⟩
  ·simp only[Z6,zz9,I.sizes,ah,al.length y c0 J]
  ·simp only[zz9,aM];exact ⟨c0,c1,rfl,J,ar⟩
theorem jZ{w:World}{D:aP}{E:aY} : ∀ (xs ys:List I) (cs ds:List Value),aM w D E xs cs→aM w D E ys ds→aM w D E (xs++ys) (cs++ds)
 | [],ys,cs,ds,h,k=>by simp only[aM] at h;subst h;simpa using k
 |x::xs,ys,cs,ds,h,k=>by
  simp only[aM,Z9] at *;obtain ⟨c1,c2,rfl,J,U⟩:=h;exact ⟨c1,c2++ds,by simp,J,jZ xs ys c2 ds U k⟩
theorem I.iv{sz:Nat} : ∀ (xs:List I),(∀ x∈xs,x.size=sz)→I.sizes xs=xs.length*sz
 | [],_=>by simp[I.sizes]
 |x::xs,h=>by
  simp only[I.sizes,zy5];rw[h x (by simp),I.iv xs (fun y hy=>h y (by simp[hy])),Nat.add_mul];omega
theorem I.dw:∀ xs:List I,I.cX xs=xs.map I.aX
 | []=>by simp[I.cX]
 |x::xs=>by simp[I.cX,I.dw xs]
theorem xb{w:World}{D:aP}{E:aY} : ∀ (p:List Nat) (c x:I) (cs:List Value),al w D E c cs→c.at p=some x →
  ∃ off c1 c2 c3,c.aX.off p=some off∧cs=c1++c2++c3∧c1.length=off∧al w D E x c2
 | [],c,x,cs,hr,h=>by
  simp only[I.at,v6] at h;subst h;exact ⟨0,[],cs,[],by cases c.aX <;>simp[cP.off],by simp,rfl,hr⟩
 |i::p,.agg fs,x,cs,hr,h=>by
  simp only[I.at] at h;simp only[al] at hr;cases hf:fs[i]? with
  |none=>simp[hf] at h
  |some f =>
   simp only[hf] at h;obtain ⟨c1,c2,c3,rfl,J,_,ah,_⟩:=l3 fs cs i f hr hf;obtain ⟨off,d1,d2,d3,ar,rfl,h6,h7⟩:=xb p f x c2 ah h;refine ⟨I.sizes (fs.take i)+off,c1++d1,d2,d3++c3,?_,by simp,by simp[J,h6],h7⟩;simp only[I.aX,cP.off,I.dw,zz3,hf,Z7,ar];rw[←List.map_take,←I.dw,I.mg]
 |_::_,.undef,_,_,_,h | _::_,.du,_,_,_,h | _::_,.bool _,_,_,_,h | _::_,.int _ _,_,_,_,h | _::_,.bQ _,_,_,_,h | _::_,.nilp,_,_,_,h
 |_::_,.dA,_,_,_,h | _::_,.dY,_,_,_,h | _::_,.any,_,_,_,h | _::_,.raw _,_,_,_,h | _::_,.nils _,_,_,_,h | _::_,.c0 _,_,_,_,h | _::_,.slice _ _,_,_,_,h | _::_,.tuple _,_,_,_,h
 |_::_,.ref _,_,_,_,h | _::_,.func _ _,_,_,_,h | _::_,.iface _ _,_,_,_,h | _::_,.ptr _ _,_,_,_,h | _::_,.own _ _,_,_,_,h | _::_,.view _ _ _ _ _,_,_,_,h | _::_,.mref _,_,_,_,h | _::_,.dk _,_,_,_,h | _::_,.df _ _,_,_,_,h=>by simp[I.at] at h
theorem tA{w:World}{D:aP}{E:aY} : ∀ (p:List Nat) (c x y:I) (cs ds:List Value),al w D E c cs→c.at p=some x→al w D E y ds→y.aX=x.aX →
  ∃ off,c.aX.off p=some off∧off+ds.length≤cs.length∧al w D E (c.eB p y) (cs.take off++ds++cs.drop (off+ds.length))∧(c.eB p y).aX=c.aX
 | [],c,x,y,cs,ds,hr,h,hy,ab=>by
  simp only[I.at,v6] at h;subst h;have ao:ds.length=cs.length:=by rw[al.length _ _ hy,al.length _ _ hr,←I.lq,←I.lq,ab]
  refine ⟨0,by cases c.aX <;>simp[cP.off],by omega,?_,by simpa[I.eB] using ab⟩;simpa[I.eB,ao] using hy
 |i::p,.agg fs,x,y,cs,ds,hr,h,hy,ab=>by
  simp only[I.at] at h;simp only[al] at hr;cases hf:fs[i]? with
  |none=>simp[hf] at h
  |some f =>
   simp only[hf] at h;obtain ⟨c1,c2,c3,rfl,J,U,ah,h3'⟩:=l3 fs cs i f hr hf;obtain ⟨off,ar,h5,h6,h7⟩:=tA p f x y c2 ds ah h hy ab;have hi:i<fs.length:=(Z5.1 hf).1;have hfi:fs[i]=f:=(Z5.1 hf).2;refine ⟨I.sizes (fs.take i)+off,?_,?_,?_,?_⟩
   ·simp only[I.aX,cP.off,I.dw,zz3,hf,Z7,ar];rw[←List.map_take,←I.dw,I.mg]
   ·simp only[Z6,J];omega
   ·simp only[I.eB,hf,al];have e1:fs.set i (f.eB p y)=fs.take i++f.eB p y::fs.drop (i+1):=by rw[List.set_eq_take_append_cons_drop];simp[hi]
    rw[e1];have e2:(c1++c2++c3).take (I.sizes (fs.take i)+off)++ds++(c1++c2++c3).drop (I.sizes (fs.take i)+off+ds.length)=c1++((c2.take off++ds++c2.drop (off+ds.length))++c3):=by
     rw[←J,Y5 c1 c2 c3,List.take_length_add_append,Nat.add_assoc,List.drop_length_add_append,List.take_append_of_le_length (by omega),List.drop_append_of_le_length (by omega)];simp
    rw[e2];refine jZ _ _ _ _ U ?_;simp only[aM];exact ⟨_,_,rfl,h6,h3'⟩
   ·simp only[I.eB,hf,I.aX,I.dw,List.map_set,h7,cP.eG.injEq];apply List.ext_getElem?;intro k;rw[List.getElem?_set];split
    ·rename_i hk;subst hk;simp[hi,hfi]
    ·rfl
 |_::_,.undef,_,_,_,_,_,h,_,_ | _::_,.du,_,_,_,_,_,h,_,_ | _::_,.bool _,_,_,_,_,_,h,_,_ | _::_,.int _ _,_,_,_,_,_,h,_,_ | _::_,.bQ _,_,_,_,_,_,h,_,_ | _::_,.nilp,_,_,_,_,_,h,_,_
 |_::_,.dA,_,_,_,_,_,h,_,_ | _::_,.dY,_,_,_,_,_,h,_,_ | _::_,.any,_,_,_,_,_,h,_,_ | _::_,.raw _,_,_,_,_,_,h,_,_ | _::_,.nils _,_,_,_,_,_,h,_,_ | _::_,.c0 _,_,_,_,_,_,h,_,_ | _::_,.slice _ _,_,_,_,_,_,h,_,_ | _::_,.tuple _,_,_,_,_,_,h,_,_
 |_::_,.ref _,_,_,_,_,_,h,_,_ | _::_,.func _ _,_,_,_,_,_,h,_,_ | _::_,.iface _ _,_,_,_,_,_,h,_,_ | _::_,.ptr _ _,_,_,_,_,_,h,_,_ | _::_,.own _ _,_,_,_,_,_,h,_,_ | _::_,.view _ _ _ _ _,_,_,_,_,_,h,_,_ | _::_,.mref _,_,_,_,_,_,h,_,_ | _::_,.dk _,_,_,_,_,_,h,_,_ | _::_,.df _ _,_,_,_,_,_,h,_,_=>by simp[I.at] at h
theorem mf:∀ (p:List Nat) (c x:I),c.at p=some x→c.aX.part p=some x.aX
 | [],c,x,h=>by simp only[I.at,v6] at h;subst h;cases c.aX <;>rfl
 |i::p,.agg fs,x,h=>by
  simp only[I.at] at h;cases hf:fs[i]? with
  |none=>simp[hf] at h
  |some f =>
   simp only[hf] at h;simp only[I.aX,cP.part,I.dw,zz3,hf,Z7];exact mf p f x h
 |_::_,.undef,_,h | _::_,.du,_,h | _::_,.bool _,_,h | _::_,.int _ _,_,h | _::_,.bQ _,_,h | _::_,.nilp,_,h
 |_::_,.dA,_,h | _::_,.dY,_,h | _::_,.any,_,h | _::_,.raw _,_,h | _::_,.nils _,_,h | _::_,.c0 _,_,h | _::_,.slice _ _,_,h | _::_,.tuple _,_,h
 |_::_,.ref _,_,h | _::_,.func _ _,_,h | _::_,.iface _ _,_,h | _::_,.ptr _ _,_,h | _::_,.own _ _,_,h | _::_,.view _ _ _ _ _,_,h | _::_,.mref _,_,h | _::_,.dk _,_,h | _::_,.df _ _,_,h=>by simp[I.at] at h
end Go.Abs
namespace Go.Abs
open Go Go.RowKit
inductive aq where
 |box (c:I)
 |bY (T:TypeId) (sz:Nat) (es:List I)
 |dG (o:Obj)
 |bt (ks vs:List I)
 |it (ks vs:List I) (left:List Nat) (cur:Option Nat)
 |dH (T:TypeId) (xs:List Int)
 deriving Inhabited
def aq.eh:aq→Bool
 | .it _ _ _ _=>false
 |_=>true
structure ai where
 t:Nat→I
 o:Nat→Option aq
def ai.put(A:ai)(d:Nat)(v:I):ai:=⟨fun k=>if k=d then v else A.t k,A.o⟩
def ai.aT(A:ai)(d:Option Nat)(v:I):ai:=match d with | some d=>A.put d v | none=>A
def ai.aV(A:ai)(n:Nat)(x:aq):ai:=⟨A.t,fun k=>if k=n then some x else A.o k⟩
def bW:List (Nat×I)→Nat→I
 | [],_=>.du
 |(k,v)::r,t=>if t=k then v else bW r t
def aj:List (Nat×aq)→Nat→Option aq
 | [],_=>none
 |(k,v)::r,t=>if t=k then some v else aj r t
def au(ts:List (Nat×I))(os:List (Nat×aq)):ai:=⟨bW ts,aj os⟩
def aw(os:List (Nat×aq))(n:Nat):Bool:=(aj os n).isSome
abbrev cF:=I→List (Nat×aq)→Prop
structure cV where
 P:Program
 fH:World
 bH:aP
 n:Nat
 own:Nat→Prop
 c4:aY
 Y:Value→List I→List (Nat×aq)→cF→Prop
 j2:Option Nat
 fo:Option (List Deferred):=none
def dj:Value→List I→List (Nat×aq)→cF→Prop:=fun _ _ _ _=>False
def cV.bz(c:cV):Fence:=match c.j2 with
 |none=>Fence.wide
 |some l=>Fence.wide.inRound l
def cV.e6(c:cV)(b:Nat):Prop:=c.fH.heap.size≤b∨c.own b
structure eZ (M:Nat→Prop) (w w':World):Prop where
 os:w'.os=w.os
 tape:w'.tape=w.tape
 output:w'.output=w.output
 size:w.heap.size≤w'.heap.size
 block:∀ k,¬ M k→w'.heap[k]?=w.heap[k]?
theorem eZ.refl(M:Nat→Prop)(w:World):eZ M w w:=⟨rfl,rfl,rfl,Z3 _,fun _ _=>rfl⟩
theorem eZ.trans{M:Nat→Prop}{a b c:World}(h:eZ M a b)(k:eZ M b c):eZ M a c :=
 ⟨k.os.trans h.os,k.tape.trans h.tape,k.output.trans h.output,zx4 h.size k.size,fun i hi=>(k.block i hi).trans (h.block i hi)⟩
theorem eZ.grow{M:Nat→Prop}{w w':World}{B:Nat}(h:Below B w w')(hB:∀ k,B≤k→M k):eZ M w w' :=
 ⟨h.os,h.tape,h.output,h.size,fun k hk=>h.block k (Nat.lt_of_not_le fun hle=>hk (hB k hle))⟩
theorem eZ.Hm{M:Nat→Prop}{w w':World}{B:Nat}(h:eZ M w w')(hB:∀ k,k<B→¬ M k):Below B w w' :=
 ⟨h.os,h.tape,h.output,h.size,fun k hk=>h.block k (hB k hk)⟩
def bM.aG:bM→Option Nat
 | .aN b _=>some b
 | .rw (some (b,_)) _=>some b
 | .rw none _=>none
 | .op b=>some b
 | .bt b=>some b
 | .it b=>some b
def bM.eP:bM→Bool
 | .op _ | .bt _ | .it _=>true
 |_=>false
def pd:Obj→Bool
 | .loop _=>true
 |_=>false
def wI:Obj→Bool
 | .deferred _=>false
 |_=>true
theorem Wk{o:Obj}(h:pd o=true):wI o=true:=by cases o <;>first | rfl | cases h
def nM(es:Array MapEntry)(bn:Array Nat):List Nat:=(List.range es.size).filter fun i=>match es[i]? with
 |some e => !bn.contains e.born
 |none=>false
def cZ(M:Nat→Prop)(w:World)(D:aP)(E:aY)(n:Nat):Option aq→Prop
 |none=>E n=none
 |some (.box x)=>∃ b cs T,E n=some (.aN b x.aX)∧M b∧w.heap[b]?=some (.cells cs T (0,0))∧al w D E x cs.toList∧∀ o,¬ D b o
 |some (.bY T sz es)=>∃ aG,E n=some (.rw aG es.length)∧(∀ e∈es,e.size=sz)∧match aG with
  |none=>es=[]
  |some (b,cap)=>∃ cs pre rest,M b∧w.heap[b]?=some (.cells cs T (0,0))∧cs.toList=pre++rest∧aM w D E es pre ∧
    cs.size=cap*sz∧es.length≤cap∧cap≤maxLen∧∀ o,D b o→o<pre.length
 |some (.dG x)=>∃ b,E n=some (.op b)∧M b∧w.heap[b]?=some x∧pd x=true∧∀ o,¬ D b o
 |some (.bt ks vs)=>∃ b es clock,E n=some (.bt b)∧M b∧w.heap[b]?=some (.map es clock)∧ox es clock∧aF w D E ks (es.toList.map (·.key))∧aF w D E vs (es.toList.map (·.val))∧∀ o,¬ D b o
 |some (.it ks vs left cur)=>∃ r b es clock since bn last,E n=some (.it r)∧M r∧w.heap[r]?=some (.mapIter (some b) since bn last)∧nQ w D b es clock∧aF w D E ks (es.toList.map (·.key))∧aF w D E vs (es.toList.map (·.val)) ∧
   (∀ x∈es.toList,x.born<since)∧(since≤last∧since≤clock)∧left=nM es bn∧(∀ i,cur=some i→∃ e,es[i]?=some e∧bn.back?=some e.born∧last=clock)∧∀ o,¬ D r o
 |some (.dH T xs)=>∃ aG,E n=some (.rw aG xs.length)∧(∀ x∈xs,IntKind.i64.min≤x∧x≤IntKind.i64.max)∧match aG with
  |none=>xs=[]
  |some (b,cap)=>∃ cs m,M b∧w.heap[b]?=some (.cells cs T (0,0))∧cs.toList=(xs++List.replicate m 0).map (Value.int .i64)∧xs≠[]∧xs.length+m=cap∧cap≤maxLen∧∀ o,¬ D b o
def cI(E:aY)(b:Nat):Prop:=∃ n e,E n=some e∧e.aG=some b
structure jH (M:Nat→Prop) (w:World) (D:aP) (E:aY) (o:Nat→Option aq):Prop where
 bP:∀ n,cZ M w D E n (o n)
 cN:∀ n m e e' b,E n=some e→E m=some e'→e.aG=some b→e'.aG=some b→n=m
def np(run:Array Value→World→(Ending→World→Prop)→Prop)(since:World→aP→aY→Prop)(args:List I)(os:List (Nat×aq))(post:cF):Prop :=
 ∀ (w:World) (D:aP) (E:aY) (vs:List Value),since w D E→(∀ b o,D b o→b<w.heap.size)→jH (fun _=>True) w D E (aj os)→aF w D E args vs →
  run vs.toArray w fun e w'=>∃ v D' E' r os',e=.returned v∧post r os'∧aZ w' D' E' r v∧jH (fun b=>w.heap.size≤b∨cI E b) w' D' E' (aj os') ∧
   eZ (fun b=>w.heap.size≤b∨cI E b) w w'∧(∀ b o,D b o→D' b o)∧(∀ b o,D' b o→b<w'.heap.size)∧(∀ b o,D' b o→b<w.heap.size→¬ cI E b→D b o) ∧
   (∀ n e,E n=some e→aw os' n=true→∃ e',E' n=some e'∧e.le e')∧gM w D w'
def wh : String := "internal/strconv.uint64pow10"
def VK:Array Value:=(((List.range 20).map fun i=>((10^i:Nat):Int)).map fun z=>Value.int .u64 z).toArray
def gL(P:Program)(w:World)(own:Nat→Prop):Prop :=
 ∀ g,P.globalNamed wh=some g→¬ own g∧w.var? P wh=some VK
theorem gL.nN{P:Program}{w:World}{own own':Nat→Prop}(h:gL P w own)(ho:∀ b,own' b→own b):gL P w own':=fun g hg=>⟨fun k=>(h g hg).1 (ho g k),(h g hg).2⟩
theorem gL.Vx{P:Program}{w w':World}{own own' M:Nat→Prop}(h:gL P w own)(hk:eZ M w w')(hM:∀ b,M b→w.heap.size≤b∨own b)(ho:∀ b,own' b→M b):gL P w' own':=fun g hg=>by
 obtain ⟨J,U⟩:=h g hg;have ah:=U;unfold World.var? at U ⊢;rw[hg] at U ⊢;simp only[Option.bind_some] at U ⊢;have hlt:g<w.heap.size:=by
  rcases Nat.lt_or_ge g w.heap.size with h | h
  ·exact h
  ·rw[Array.getElem?_eq_none h] at U;cases U
 have hn:¬ M g:=fun hm=>by
  rcases hM g hm with h | h
  ·omega
  ·exact J h
 refine ⟨fun k=>hn (ho g k),?_⟩;rw[hk.block g hn];exact U
structure yf (c:cV) (w:World) (D:aP) (E:aY):Prop where
 dM:eZ c.e6 c.fH w
 cT:∀ b o,c.bH b o→D b o
 c6:∀ b o,D b o→¬ c.e6 b→c.bH b o
 dR:∀ n e,c.c4 n=some e→E n=none∨∃ e',E n=some e'∧e.le e'
 fB:gM c.fH c.bH w
 qI:gL c.P w (cI E)
def r9(P:Program)(v:Value)(vs:Array Value)(w:World)(R:Ending→World→Prop):Prop :=
 ∃ l,v=.func (.yield l) #[] #[]∧YieldAt Fence.wide 9 P l vs w R
def oI(c:cV):Prop:=gL c.P c.fH c.own∧∀ v args os post,c.Y v args os post→np (r9 c.P v) (yf c) args os post
def nq(fo:Option (List Deferred))(fH:World)(ds:List Deferred)(w:World):Prop:=match fo with
 |none=>∃ Bs:List Nat,ds=Bs.map (fun B => { target:=.collected B,args := #[] })∧Bs.Nodup∧∀ B∈Bs,fH.heap.size≤B∧w.heap[B]?=some (.deferred (some []))
 |some l=>ds=l
theorem nq.mono{fo:Option (List Deferred)}{fH w w':World}{ds:List Deferred}(h:nq fo fH ds w)(hk:∀ B,fH.heap.size≤B→w.heap[B]?=some (.deferred (some []))→w'.heap[B]?=some (.deferred (some []))):nq fo fH ds w':=by
 cases fo with
 |none =>
  obtain ⟨Bs,J,U,ah⟩:=h;exact ⟨Bs,J,U,fun B hB=>⟨(ah B hB).1,hk B (ah B hB).1 (ah B hB).2⟩⟩
 |some l=>exact h
theorem nq.grow{fo:Option (List Deferred)}{fH w w':World}{ds:List Deferred}(h:nq fo fH ds w)(hk:Below w.heap.size w w'):nq fo fH ds w' :=
 h.mono fun B _ hB=>(hk.block B (Y4.1 hB).1).trans hB
structure aU (c:cV) (A:ai) (a:Act) (w:World) (D:aP) (E:aY):Prop where
 sz:a.tmps.size=c.n
 eD:nq c.fo c.fH a.defers w
 dQ:∀ t,aZ w D E (A.t t) (a.tmps.getD t undef)
 dM:eZ c.e6 c.fH w
 c6:∀ b o,D b o→¬ c.e6 b→c.bH b o
 aQ:∀ b o,D b o→b<w.heap.size
 bP:∀ n,cZ c.e6 w D E n (A.o n)
 cN:∀ n m e e' b,E n=some e→E m=some e'→e.aG=some b→e'.aG=some b→n=m
 dR:∀ n e,c.c4 n=some e→E n=none∨∃ e',E n=some e'∧e.le e'
 eU:∀ n,c.c4 n≠none→c.n≤n∧1000000≤n
 cT:∀ b o,c.bH b o→D b o
 eX:oI c
 fB:gM c.fH c.bH w
def bX(c:cV)(A:ai)(a:Act)(w:World):Prop:=∃ D E,aU c A a w D E
section
variable {c:cV} {A:ai} {a:Act} {w:World} {D:aP} {E:aY}
theorem aU.ku(h:aU c A a w D E){w':World}{D':aP}{E':aY}(ao:dV w D E w' D' E'):gM c.fH c.bH w':=h.fB.trans h.cT ao.fB
theorem aU.vJ(h:aU c A a w D E){n:Nat}{e:bM}(hn:c.c4 n=some e)(hf:e.eh=true):E n=none∨E n=some e:=by
 rcases h.dR n e hn with k | ⟨e',k,hle⟩
 ·exact .inl k
 ·rw[hle.eq hf] at k;exact .inr k
theorem th{M:Nat→Prop}{n:Nat}{x:aq}(h:cZ M w D E n (some x)):E n≠none:=by
 cases x with
 |box x=>obtain ⟨b,cs,T,J,_⟩:=h;rw[J];simp
 |bY T sz es=>obtain ⟨aG,J,_⟩:=h;rw[J];simp
 |dG o=>obtain ⟨b,J,_⟩:=h;rw[J];simp
 |bt ks vs=>obtain ⟨b,es,ck,J,_⟩:=h;rw[J];simp
 |it ks vs left=>obtain ⟨r,b,es,ck,si,se,la,J,_⟩:=h;rw[J];simp
 |dH T xs=>obtain ⟨aG,J,_⟩:=h;rw[J];simp
theorem fM{w:World}{b:Nat}{o:Obj}(h:w.heap[b]?=some o):b<w.heap.size:=(Y4.1 h).1
theorem aU.fY(h:aU c A a w D E){n:Nat}{e:bM}{b:Nat}(he:E n=some e)(hb:e.aG=some b):b<w.heap.size:=by
 have:=h.bP n;unfold cZ at this;split at this
 ·simp[this] at he
 ·obtain ⟨b',cs,T,J,U,ah,_⟩:=this;rw[J,v6] at he;subst he;simp only[bM.aG,v6] at hb;subst hb;exact fM ah
 ·obtain ⟨aG,J,U,ah⟩:=this;rw[J,v6] at he;subst he;split at ah
  ·simp[bM.aG] at hb
  ·obtain ⟨cs,pre,rest,ar,h5,_⟩:=ah;simp only[bM.aG,v6] at hb;subst hb;exact fM h5
 ·obtain ⟨b',J,U,ah,_⟩:=this;rw[J,v6] at he;subst he;simp only[bM.aG,v6] at hb;subst hb;exact fM ah
 ·obtain ⟨b',es,ck,J,U,ah,_⟩:=this;rw[J,v6] at he;subst he;simp only[bM.aG,v6] at hb;subst hb;exact fM ah
 ·obtain ⟨r,b',es,ck,si,se,la,J,U,ah,_⟩:=this;rw[J,v6] at he;subst he;simp only[bM.aG,v6] at hb;subst hb;exact fM ah
 ·obtain ⟨aG,J,U,ah⟩:=this;rw[J,v6] at he;subst he;split at ah
  ·simp[bM.aG] at hb
  ·obtain ⟨cs,m,ar,h5,_⟩:=ah;simp only[bM.aG,v6] at hb;subst hb;exact fM h5
theorem aU.wU(h:aU c A a w D E){n b:Nat}{e:bM}(he:E n=some e)(ho:e.eP=true)(hb:e.aG=some b):∀ o,¬ D b o:=by
 have:=h.bP n;unfold cZ at this;split at this
 ·rw[this] at he;cases he
 ·obtain ⟨b',cs,T,J,_⟩:=this;rw[J] at he;cases he;cases ho
 ·obtain ⟨aG,J,_⟩:=this;rw[J] at he;cases he;cases ho
 ·obtain ⟨b',J,_,_,_,h5⟩:=this;rw[J] at he;cases he;cases hb;exact h5
 ·obtain ⟨b',es,ck,J,_,_,_,_,_,h5⟩:=this;rw[J] at he;cases he;cases hb;exact h5
 ·obtain ⟨r,b',es,ck,si,se,la,J,_,_,_,_,_,_,_,_,_,h5⟩:=this;rw[J] at he;cases he;cases hb;exact h5
 ·obtain ⟨aG,J,_⟩:=this;rw[J] at he;cases he;cases ho
theorem cZ.later{M:Nat→Prop}{w':World}{D':aP}{E':aY}{n:Nat}{x:Option aq}(h:cZ M w D E n x)(ao:dV w D E w' D' E')(ay:E' n=E n)
  (hheap:∀ e b,E n=some e→e.aG=some b→w'.heap[b]?=w.heap[b]?∧∀ o,D' b o→D b o):cZ M w' D' E' n x:=by
 unfold cZ at *;split
 ·rw[ay];exact h
 ·obtain ⟨b,cs,T,J,U,ah,ar,h5⟩:=h;obtain ⟨k1,k2⟩:=hheap _ b J rfl;exact ⟨b,cs,T,ay.trans J,U,k1.trans ah,al.later ao _ _ ar,fun o ho=>h5 o (k2 o ho)⟩
 ·obtain ⟨aG,J,U,ah⟩:=h;refine ⟨aG,ay.trans J,U,?_⟩;split
  ·exact ah
  ·rename_i b cap;obtain ⟨cs,pre,rest,ar,h5,h6,h7,h8,h9,h10,h11⟩:=ah;obtain ⟨k1,k2⟩:=hheap _ b J rfl;exact ⟨cs,pre,rest,ar,k1.trans h5,h6,aM.later ao _ _ h7,h8,h9,h10,fun o ho=>h11 o (k2 o ho)⟩
 ·obtain ⟨b,J,U,ah,ar,h5⟩:=h;obtain ⟨k1,k2⟩:=hheap _ b J rfl;exact ⟨b,ay.trans J,U,k1.trans ah,ar,fun o ho=>h5 o (k2 o ho)⟩
 ·obtain ⟨b,es,ck,J,U,ah,ar,h5,h6,h7⟩:=h;obtain ⟨k1,k2⟩:=hheap _ b J rfl;exact ⟨b,es,ck,ay.trans J,U,k1.trans ah,ar,aF.later ao _ _ h5,aF.later ao _ _ h6,fun o ho=>h7 o (k2 o ho)⟩
 ·obtain ⟨r,b,es,ck,si,se,la,J,U,ah,ar,h5,h6,h7,h8,h9,h9',h10⟩:=h;obtain ⟨k1,k2⟩:=hheap _ r J rfl;exact ⟨r,b,es,ck,si,se,la,ay.trans J,U,k1.trans ah,ar.later ao,aF.later ao _ _ h5,aF.later ao _ _ h6,h7,h8,h9,h9',fun o ho=>h10 o (k2 o ho)⟩
 ·obtain ⟨aG,J,U,ah⟩:=h;refine ⟨aG,ay.trans J,U,?_⟩;split
  ·exact ah
  ·rename_i b cap;obtain ⟨cs,m,ar,h5,h6,h7,h8,h9,h10⟩:=ah;obtain ⟨k1,k2⟩:=hheap _ b J rfl;exact ⟨cs,m,ar,k1.trans h5,h6,h7,h8,h9,fun o ho=>h10 o (k2 o ho)⟩
theorem dV.grow{w':World}{D':aP}(hb:Below w.heap.size w w')(hD:∀ b o,D b o→D' b o):dV w D E w' D' E:=by
 refine ⟨hD,fun b o v _ hv =>?_,fun _ _ _ h=>h,fun _ aG l h=>⟨aG,l,h,Z3 _,fun _=>rfl⟩,fun _ _ h=>h,fun _ _ h=>h,fun b es ck _ hm=>(hb.block b (fM hm)).trans hm⟩;rw[hb.cell (World.block_lt_of_cell? w _ hv)];exact hv
theorem aU.BM(h:aU c A a w D E){w':World}(hb:Below w.heap.size w w'):eZ c.e6 w w':=eZ.grow hb fun k hk=>.inl (zx4 h.dM.size hk)
theorem aU.old(h:aU c A a w D E){b:Nat}(hm:¬ c.e6 b):b<w.heap.size :=
 Nat.lt_of_lt_of_le (Nat.lt_of_not_le fun hle=>hm (.inl hle)) h.dM.size
theorem aU.ke(h:aU c A a w D E){d:Nat}(af:d<c.n∨d<1000000):c.c4 d=none:=by
 cases bC:c.c4 d with
 |none=>rfl
 |some e=>have:=h.eU d (by rw[bC];simp);omega
theorem aU.grow(h:aU c A a w D E){w':World}{D':aP}(hb:Below w.heap.size w w')(hD:∀ b o,D b o→D' b o)
  (hold:∀ b o,D' b o→b<w.heap.size→D b o) (hlive:∀ b o,D' b o→b<w'.heap.size):aU c A a w' D' E:=by
 have ao:dV w D E w' D' E:=dV.grow hb hD;refine ⟨h.sz,h.eD.grow hb,fun t=>aZ.later ao (h.dQ t),h.dM.trans (h.BM hb),fun b o af hm=>h.c6 b o (hold b o af (h.old hm)) hm,hlive,
  fun n=>(h.bP n).later ao rfl (fun e b he hb'=>⟨hb.block b (h.fY he hb'),fun o ho=>hold b o ho (h.fY he hb')⟩),h.cN,h.dR,h.eU,fun b o af=>hD b o (h.cT b o af),h.eX,h.ku ao⟩
theorem aU.Fy(h:aU c A a w D E){D':aP}(hD:∀ b o,D b o→D' b o)
  (hold:∀ b o,D' b o→¬ c.e6 b→c.bH b o) (hlive:∀ b o,D' b o→b<w.heap.size)
  (hbox:∀ n x b,A.o n=some (.box x)→E n=some (.aN b x.aX)→∀ o,¬ D' b o)
  (hrow:∀ n T sz es b cap,A.o n=some (.bY T sz es)→E n=some (.rw (some (b,cap)) es.length)→∀ o,D' b o→o<es.length*sz)
  (hui:∀ n T xs b cap,A.o n=some (.dH T xs)→E n=some (.rw (some (b,cap)) xs.length)→∀ o,¬ D' b o)
  (hopq:∀ n e b,E n=some e→e.eP=true→e.aG=some b→∀ o,¬ D' b o):aU c A a w D' E:=by
 have ao:dV w D E w D' E:=⟨hD,fun _ _ _ _ h=>h,fun _ _ _ h=>h,fun _ aG l h=>⟨aG,l,h,Z3 _,fun _=>rfl⟩,fun _ _ h=>h,fun _ _ h=>h,fun _ _ _ _ h=>h⟩
 refine ⟨h.sz,h.eD,fun t=>aZ.later ao (h.dQ t),h.dM,hold,hlive,fun n =>?_,h.cN,h.dR,h.eU,fun b o af=>hD b o (h.cT b o af),h.eX,h.fB⟩;have ho:=h.bP n;cases hx:A.o n with
 |none=>rw[hx] at ho;exact ho
 |some x =>
  cases x with
  |box x =>
   rw[hx] at ho;obtain ⟨b,cs,T,J,U,ah,ar,h5⟩:=ho;exact ⟨b,cs,T,J,U,ah,al.later ao _ _ ar,hbox n x b hx J⟩
  |bY T sz es =>
   rw[hx] at ho;obtain ⟨aG,J,U,ah⟩:=ho;refine ⟨aG,J,U,?_⟩;cases aG with
   |none=>exact ah
   |some bc =>
    obtain ⟨b,cap⟩:=bc;obtain ⟨cs,pre,rest,ar,h5,h6,h7,h8,h9,h10,h11⟩:=ah;refine ⟨cs,pre,rest,ar,h5,h6,aM.later ao _ _ h7,h8,h9,h10,fun o af =>?_⟩;rw[aM.length _ _ h7,I.iv _ U];exact hrow n T sz es b cap hx J o af
  |dG x =>
   rw[hx] at ho;obtain ⟨b,J,U,ah,ar,h5⟩:=ho;exact ⟨b,J,U,ah,ar,hopq n _ b J rfl rfl⟩
  |bt ks vs =>
   rw[hx] at ho;obtain ⟨b,es,ck,J,U,ah,ar,h5,h6,h7⟩:=ho;exact ⟨b,es,ck,J,U,ah,ar,aF.later ao _ _ h5,aF.later ao _ _ h6,hopq n _ b J rfl rfl⟩
  |it ks vs left cur =>
   rw[hx] at ho;obtain ⟨r,b,es,ck,si,se,la,J,U,ah,ar,h5,h6,h7,h8,h9,h9',h10⟩:=ho;exact ⟨r,b,es,ck,si,se,la,J,U,ah,ar.later ao,aF.later ao _ _ h5,aF.later ao _ _ h6,h7,h8,h9,h9',hopq n _ r J rfl rfl⟩
  |dH T xs =>
   rw[hx] at ho;obtain ⟨aG,J,U,ah⟩:=ho;refine ⟨aG,J,U,?_⟩;cases aG with
   |none=>exact ah
   |some bc =>
    obtain ⟨b,cap⟩:=bc;obtain ⟨cs,m,ar,h5,h6,h7,h8,h9,h10⟩:=ah;exact ⟨cs,m,ar,h5,h6,h7,h8,h9,hui n T xs b cap hx J⟩
theorem UI(a:Act)(d:Nat)(v:Value)(t:Nat)(af:d<a.tmps.size):(a.put (some d) v).tmps.getD t undef=if t=d then v else a.tmps.getD t undef:=by
 simp only[Act.put,Array.getD_eq_getD_getElem?,Array.getElem?_setIfInBounds];by_cases h:t=d
 ·subst h;simp[af]
 ·simp[h,Ne.symm h]
theorem aU.put(h:aU c A a w D E){d:Nat}{x:I}{v:Value}(af:d<c.n)(hv:aZ w D E x v):aU c (A.put d x) (a.put (some d) v) w D E:=by
 refine ⟨by simp[Act.put,h.sz],by exact h.eD,fun t =>?_,h.dM,h.c6,h.aQ,h.bP,h.cN,h.dR,h.eU,h.cT,h.eX,h.fB⟩;rw[UI a d v t (by rw[h.sz];exact af)];simp only[ai.put];split
 ·exact hv
 ·exact h.dQ t
theorem aU.aT(h:aU c A a w D E){d:Option Nat}{x:I}{v:Value}(af:∀ k,d=some k→k<c.n)(hv:aZ w D E x v):aU c (A.aT d x) (a.put d v) w D E:=by
 cases d with
 |none=>exact h
 |some d=>exact h.put (af d rfl) hv
theorem p7(w:World)(o:Obj):Below w.heap.size w (w.alloc o):=(Below.refl _ _).alloc (Z3 _) o
theorem E0{w:World}{D:aP}{E:aY} : ∀ {xs:List I} {vs:List Value},aF w D E xs vs→vs.length=xs.length
 | [],vs,h=>by simp only[aF] at h;subst h;rfl
 |x::xs,vs,h=>by
  simp only[aF] at h;obtain ⟨v,rest,cs,rfl,_,_,ah⟩:=h;simp[E0 ah]
theorem aU.wG(h:aU c A a w D E){d:Nat}{x:aq}{o':Obj}{e:bM}(hdn:d<c.n∨d<1000000)(af:A.o d=none)(heb:e.aG=some w.heap.size)
  (hx:dV w D E (w.alloc o') D (fun n=>if n=d then some e else E n)→(∀ o,¬ D w.heap.size o)→cZ c.e6 (w.alloc o') D (fun n=>if n=d then some e else E n) d (some x)) :
  aU c (A.aV d x) a (w.alloc o') D (fun n=>if n=d then some e else E n):=by
 have hEd:E d=none:=by have:=h.bP d;rw[af] at this;exact this
 have hne:∀ {n:Nat} {e:bM},E n=some e→n≠d:=fun he e'=>by rw[e',hEd] at he;cases he
 have ao:dV w D E (w.alloc o') D (fun n=>if n=d then some e else E n):=by
  refine ⟨fun _ _ h=>h,fun b o v _ hv =>?_,fun n b aX he =>?_,fun n aG l he =>?_,fun n b he =>?_,fun n b he =>?_,fun b es ck _ hm=>(Below.heap_alloc w _ b (fM hm)).trans hm⟩
  ·rw[World.cell?_alloc_lt _ _ _ (World.block_lt_of_cell? w _ hv)];exact hv
  ·simp only[if_neg (hne he)];exact he
  ·exact ⟨aG,l,by simp only[if_neg (hne he)];exact he,Z3 _,fun _=>rfl⟩
  ·simp only[if_neg (hne he)];exact he
  ·simp only[if_neg (hne he)];exact he
 refine ⟨h.sz,h.eD.grow (p7 w _),fun t=>aZ.later ao (h.dQ t),h.dM.trans (h.BM (p7 w _)),h.c6,fun b o hd'=>by have:=h.aQ b o hd';simp;omega,fun n =>?_,?_,fun n e' hn =>?_,h.eU,h.cT,h.eX,h.ku ao⟩
 ·simp only[ai.aV];by_cases hn:n=d
  ·subst hn;simp only[if_true];exact hx ao fun o ho=>Nat.lt_irrefl _ (h.aQ _ o ho)
  ·simp only[if_neg hn];exact (h.bP n).later ao (by simp only[if_neg hn]) fun e b he hb=>⟨Below.heap_alloc w _ b (h.fY he hb),fun _ ho=>ho⟩
 ·intro n m e1 e2 b J U ah ar;by_cases hn:n=d <;>by_cases hm:m=d
  ·rw[hn,hm]
  ·simp only[if_pos hn,v6] at J;simp only[if_neg hm] at U;subst J;rw[heb] at ah;cases ah;have:=h.fY U ar;omega
  ·simp only[if_neg hn] at J;simp only[if_pos hm,v6] at U;subst U;rw[heb] at ar;cases ar;have:=h.fY J ah;omega
  ·simp only[if_neg hn] at J;simp only[if_neg hm] at U;exact h.cN n m e1 e2 b J U ah ar
 ·have hnd:n≠d:=fun e=>by rw[e,h.ke hdn] at hn;cases hn
  simp only[if_neg hnd];exact h.dR n e' hn
theorem aU.qS(h:aU c A a w D E){d:Nat}{x:I}{cs:Array Value}{T:TypeId}(hdn:d<c.n∨d<1000000)(af:A.o d=none)(hx:al w D E x cs.toList) :
  aU c (A.aV d (.box x)) a (w.alloc (.cells cs T)) D (fun n=>if n=d then some (.aN w.heap.size x.aX) else E n) :=
 h.wG hdn af rfl fun ao hno=>⟨w.heap.size,cs,T,by simp,.inl h.dM.size,heap_alloc_new w _,al.later ao _ _ hx,hno⟩
theorem aU.Wg(h:aU c A a w D E){d:Nat}(hdn:d<c.n∨d<1000000)(af:A.o d=none) :
  aU c (A.aV d (.bt [] [])) a (w.alloc (.map #[] 0)) D (fun n=>if n=d then some (.bt w.heap.size) else E n) :=
 h.wG hdn af rfl fun _ hno=>⟨w.heap.size,#[],0,by simp,.inl h.dM.size,heap_alloc_new w _,⟨by simp,by simp⟩,by simp[aF],by simp[aF],hno⟩
theorem aU.Wf(h:aU c A a w D E){d b clock:Nat}{ks vs:List I}{es:Array MapEntry}(hdn:d<c.n∨d<1000000)(af:A.o d=none)(hm:nQ w D b es clock)(hk:aF w D E ks (es.toList.map (·.key)))(hv:aF w D E vs (es.toList.map (·.val))) :
  aU c (A.aV d (.it ks vs (List.range ks.length) none)) a (w.alloc (.mapIter (some b) clock #[] clock)) D (fun n=>if n=d then some (.it w.heap.size) else E n) :=
 h.wG hdn af rfl fun ao hno=>⟨w.heap.size,b,es,clock,clock,#[],clock,by simp,.inl h.dM.size,heap_alloc_new w _,hm.later ao,aF.later ao _ _ hk,aF.later ao _ _ hv,hm.2.2.1,⟨Z3 _,Z3 _⟩,by
  have e:ks.length=es.size:=by have:=E0 hk;simpa using this.symm
  rw[e];unfold nM;exact (List.filter_eq_self.2 fun i hi=>by
   have hi':i<es.size:=by simpa using hi
   simp[zy7 hi']).symm,(fun i hi=>by cases hi),hno⟩
theorem uZ(w:World)(g:Nat)(cs:Array Value)(p:Addr)(h:p.block≠g):(w.setRow g cs).cell? p=w.cell? p :=
 World.cell?_of_block (setRow_other w g p.block cs h)
theorem we{M:Nat→Prop}{fH w:World}(h:eZ M fH w){g:Nat}(hg:M g)(cs:Array Value):eZ M fH (w.setRow g cs) :=
 h.trans ⟨rfl,rfl,rfl,by simp[World.setRow],fun k hk=>setRow_other w g k cs (fun e=>hk (e▸hg))⟩
theorem aU.xy(h:aU c A a w D E){n b:Nat}{x y:I}{cs':Array Value}(hn:A.o n=some (.box x))(ay:E n=some (.aN b x.aX))(ab:y.aX=x.aX)(hy:al w D E y cs'.toList) :
  aU c (A.aV n (.box y)) a (w.setRow b cs') D E:=by
 have ho:=h.bP n;rw[hn] at ho;obtain ⟨b',cs,T,J,U,ah,ar,h5⟩:=ho;rw[ay] at J;simp only[v6,bM.aN.injEq,and_true] at J;subst J;have ao:dV w D E (w.setRow b cs') D E:=by
  refine ⟨fun _ _ h=>h,fun b1 o v af hv =>?_,fun _ _ _ h=>h,fun _ aG l h=>⟨aG,l,h,Z3 _,fun _=>rfl⟩,fun _ _ h=>h,fun _ _ h=>h,fun b1 es ck af hm=>(setRow_other w b b1 _ (fun e=>h5 0 (by rw[←e];exact af))).trans hm⟩;rw[uZ _ _ _ _ (fun e=>h5 o (by rw[←e];exact af))];exact hv
 refine ⟨h.sz,h.eD.mono fun B _ hB=>(setRow_other w b B cs' (fun e=>by rw[e,ah] at hB;cases hB)).trans hB,fun t=>aZ.later ao (h.dQ t),we h.dM U _,h.c6,fun b1 o af=>by have:=h.aQ b1 o af;simpa[World.setRow] using this,fun m =>?_,h.cN,h.dR,h.eU,h.cT,h.eX,h.ku ao⟩;simp only[ai.aV];by_cases hm:m=n
 ·subst hm;simp only[if_true,cZ];exact ⟨b,cs',T,by rw[ab];exact ay,U,setRow_heap w b cs cs' T _ ah,al.later ao _ _ hy,h5⟩
 ·simp only[if_neg hm];refine (h.bP m).later ao rfl fun e b1 he hb=>⟨setRow_other w b b1 cs' (fun e1=>hm (h.cN m n e _ b he ay (by rw[hb,e1]) rfl)),fun _ ho=>ho⟩
theorem u3{w:World}{B:Nat}{o o':Obj}(h:w.heap[B]?=some o)(ho:o.isCells=false){b off:Nat}{v:Value}(hv:w.cell? ⟨b,off,none⟩=some v):(w.putObj B o').cell? ⟨b,off,none⟩=some v:=by
 have hne:b≠B:=fun e=>by
  obtain ⟨o2,U,ah⟩:=cells_of_cell hv;simp only at U;rw[e,h] at U;cases U;rw[ho] at ah;cases ah
 rw[World.cell?_of_block (w:=w) (World.putObj_heap_other hne)];exact hv
theorem aU.xB(h:aU c A a w D E){n b:Nat}{e:bM}{x:aq}{o0 o':Obj}(ay:E n=some e)(ho:e.eP=true)(hb:e.aG=some b)(hw:w.heap[b]?=some o0)(hnc:o0.isCells=false)(hnd:∀ q,o0≠.deferred q)(hmine:c.e6 b)
  (hx:dV w D E (w.putObj b o') D E→(w.putObj b o').heap[b]?=some o'→(∀ o,¬ D b o)→cZ c.e6 (w.putObj b o') D E n (some x)):aU c (A.aV n x) a (w.putObj b o') D E:=by
 have hno:=h.wU ay ho hb;have hlt:b<w.heap.size:=fM hw;have ao:dV w D E (w.putObj b o') D E:=⟨fun _ _ h=>h,fun b1 o1 v _ hv=>u3 hw hnc hv,fun _ _ _ h=>h,fun _ aG l h=>⟨aG,l,h,Z3 _,fun _=>rfl⟩,fun _ _ h=>h,fun _ _ h=>h,
  fun b1 es ck af hm=>(World.putObj_heap_other (fun e1=>hno 0 (by rw[←e1];exact af))).trans hm⟩
 refine ⟨h.sz,h.eD.mono fun B _ hB=>(World.putObj_heap_other (fun e1=>by rw[e1,hw] at hB;exact hnd _ (Option.some.inj hB))).trans hB,fun t=>aZ.later ao (h.dQ t),h.dM.trans ⟨rfl,rfl,rfl,by simp,fun k hk=>World.putObj_heap_other (fun e1=>hk (e1▸hmine))⟩,h.c6,
  fun b1 o1 af=>by have:=h.aQ b1 o1 af;simpa using this,fun m =>?_,h.cN,h.dR,h.eU,h.cT,h.eX,h.ku ao⟩
 simp only[ai.aV];by_cases hm:m=n
 ·subst hm;simp only[if_true];exact hx ao (World.putObj_heap_same hlt) hno
 ·simp only[if_neg hm];exact (h.bP m).later ao rfl fun e' b1 he hb'=>⟨World.putObj_heap_other (fun e1=>hm (h.cN m n e' _ b1 he ay hb' (by rw[e1];exact hb))),fun _ ho=>ho⟩
end
inductive aO where
 |t (n:Nat)
 |c (x:I)
 deriving Inhabited
inductive cE where
 |i (k:IntKind)
 |b
 |s
 |a8 (l:List cE)
 |p6 (n:Nat) (e:cE)
 deriving Inhabited
mutual
def cE.size:cE→Nat
 | .i _ | .b | .s=>1
 | .a8 l=>cE.sizes l
 | .p6 n e=>n*e.size
def cE.sizes:List cE→Nat
 | []=>0
 |t::ts=>t.size+cE.sizes ts
end
inductive bT where
 |mv (x:aO)
 |pick (c a b:aO)
 |bin (op:BinOp) (x y:aO)
 |eqv (ty:cE) (neg:Bool) (x y:aO)
 |nilS (neg:Bool) (x:aO)
 |conv (k:IntKind) (x:aO)
 |un (op:UnOp) (x:aO)
 |ld (s:Option Nat) (x:aO)
 |fa (f off:Nat) (x:aO)
 |fl (f off:Nat) (s:Option Nat) (x:aO)
 |ia (n esz:Nat) (x i:aO)
 |is (esz:Nat) (x i:aO)
 |ix (n esz:Nat) (s:Option Nat) (x i:aO)
 |len (x:aO)
 |lenT (x:aO)
 |va (n esz:Nat) (x:aO)
 |sl (esz:Nat) (x:aO) (lo hi mx:Option aO)
 |bld (zs:List I) (parts:List (Nat×aO))
 |bs (T esz:Nat) (parts:List aO)
 |ext (x:aO) (i:Nat)
 |mk (f:FuncId) (caps:List aO)
 |alloc (z:I)
 |box (x:aO)
 |a8 (s:Option Nat) (x v:aO)
 |dy (e:TypeId) (esz bytes:Nat) (z:I) (s x:aO)
 |lD (e:TypeId) (esz bytes:Nat) (z:I) (s n:aO)
 |cap (x:aO)
 |bs0 (esz:Nat)
 |jM (esz:Nat) (z:I) (x:aO)
 |kN (esz:Nat) (x y:aO)
 |call (f:FuncId) (args:List aO)
 |fQ (x:aO) (args:List aO)
 |j7 (f:FuncId) (args:List aO)
 |nilC (x:aO)
 |ptrE (neg:Bool) (x y:aO)
 |max2 (x y:aO)
 |ki (e:TypeId) (bytes:Nat) (z:I) (n:aO)
 |iJ
 |lk (ty:cE) (z:I) (ok:Bool) (m k:aO)
 |eV (ty:cE) (m k v:aO)
 |iI (ty:cE) (m k:aO)
 |jz (x:aO)
 |ig (x:aO)
 |ent (x:aO)
 deriving Inhabited
def uX(sz:Nat):Value→Option I
 | .bool b=>some (.bool b)
 | .int k n=>if k.min≤n∧n≤k.max then some (.int k n) else none
 | .string s=>if s.size≤1000000 then some (.bQ s) else none
 | .pointer none=>some .nilp
 | .slice none 0 0=>some (.nils sz)
 | .nilFunc=>some .dA
 | .nilIface=>some .dY
 | .map none=>some (.raw (.map none))
 |_=>none
theorem HU{sz:Nat}{v:Value}{x:I}(h:uX sz v=some x)(w:World)(D:aP)(E:aY):aZ w D E x v:=by
 unfold uX at h;split at h
 case h_2 =>
  split at h
  ·rename_i bC;simp only[v6] at h;subst h;exact ⟨_,by simp[bA,I.isAgg];rfl,by simp only[al,true_and];exact bC⟩
  ·simp at h
 case h_3 =>
  split at h
  ·rename_i bC;simp only[v6] at h;subst h;exact ⟨_,by simp[bA,I.isAgg];rfl,by simp only[al,true_and];unfold maxLen;omega⟩
  ·simp at h
 case h_9=>simp at h
 all_goals
  simp only[v6] at h;subst h;exact ⟨_,by simp[bA,I.isAgg];rfl,by simp[al,Value.oneCell']⟩
def Mn(P:Program)(t:TypeId):Nat:=match P.underlying t with | some (.slice e)=>P.cellsOf e | _=>0
def br(P:Program)(t:TypeId):Operand→Option aO
 | .tmp n=>some (.t n)
 | .const v=>(uX (Mn P t) v).map .c
 | .func f=>if f<1000000 then some (.c (.func f [])) else none
 | .global _=>none
def ak(A:ai):aO→I
 | .t n=>A.t n
 | .c x=>x
section
variable {c:cV} {A:ai} {a:Act} {w:World} {D:aP} {E:aY}
theorem bV(h:aU c A a w D E){P:Program}{t:TypeId}{x:Operand}{y:aO}(hc:br P t x=some y):aZ w D E (ak A y) (a.eval x):=by
 cases x with
 |tmp n=>simp only[br,v6] at hc;subst hc;exact h.dQ n
 |const v =>
  simp only[br,t7] at hc;obtain ⟨z,hz,rfl⟩:=hc;exact HU hz w D E
 |global g=>simp[br] at hc
 |func f =>
  simp only[br] at hc;split at hc
  case isFalse=>cases hc
  rename_i hf;simp only[v6] at hc;subst hc;exact ⟨[.func (.func f) #[] #[]],by simp[bA,I.isAgg,ak,Act.eval],by simp only[al,ak,aF];exact ⟨[],by rw[mB hf],rfl⟩⟩
theorem kq{b:Bool}{v:Value}(h:aZ w D E (.bool b) v):v=.bool b:=by
 obtain ⟨cs,J,U⟩:=h;simp only[al] at U;simp[bA,I.isAgg,U] at J;exact J.symm
theorem eW{k:IntKind}{n:Int}{v:Value}(h:aZ w D E (.int k n) v):v=.int k n∧k.min≤n∧n≤k.max:=by
 obtain ⟨cs,J,U⟩:=h;simp only[al] at U;simp[bA,I.isAgg,U.1] at J;exact ⟨J.symm,U.2⟩
theorem mY{s:ByteArray}{v:Value}(h:aZ w D E (.bQ s) v):v=.string s∧s.size≤maxLen:=by
 obtain ⟨cs,J,U⟩:=h;simp only[al] at U;simp[bA,I.isAgg,U.1] at J;exact ⟨J.symm,U.2⟩
theorem CA{x:I}{v:Value}(hx:x.isAgg=false)(h:al w D E x [v]):aZ w D E x v:=by
 cases x <;>simp only[al] at h <;>first | (simp[I.isAgg] at hx;done) | exact ⟨[v],by simp[bA,I.isAgg],by simpa only[al] using h⟩
theorem jg{fs:List I}{v:Value}(h:aZ w D E (.agg fs) v):∃ cs:List Value,v=.agg cs.toArray∧aM w D E fs cs:=by
 obtain ⟨cs,J,U⟩:=h;simp only[al] at U;exact ⟨cs,by simpa[bA,I.isAgg] using J,U⟩
theorem Cz{fs:List I}{cs:List Value}(h:aM w D E fs cs):aZ w D E (.agg fs) (.agg cs.toArray):=⟨cs,by simp[bA,I.isAgg],by simpa only[al] using h⟩
theorem nP(b:Bool):aZ w D E (.bool b) (.bool b):=⟨[.bool b],by simp[bA,I.isAgg],by simp[al]⟩
theorem jS{k:IntKind}{n:Int}(h:k.min≤n∧n≤k.max):aZ w D E (.int k n) (.int k n):=⟨[.int k n],by simp[bA,I.isAgg],by simp only[al,true_and];exact h⟩
theorem lj{n:Nat}{p:List Nat}{v:Value}(h:aZ w D E (.ptr n p) v):∃ b aX off,E n=some (.aN b aX)∧aX.off p=some off∧v=.pointer (some ⟨b,off,none⟩):=by
 obtain ⟨cs,J,U⟩:=h;simp only[al] at U;obtain ⟨b,aX,off,ah,ar,h5⟩:=U;exact ⟨b,aX,off,ah,ar,by simpa[bA,I.isAgg,h5] using J.symm⟩
theorem pM{x:I}{v:Value}(h:aZ w D E (.ref x) v):∃ b off cs,v=.pointer (some ⟨b,off,none⟩)∧reads w D b off cs∧al w D E x cs:=by
 obtain ⟨cs,J,U⟩:=h;simp only[al] at U;obtain ⟨b,off,cs',ah,ar,h5⟩:=U;exact ⟨b,off,cs',by simpa[bA,I.isAgg,ah] using J.symm,ar,h5⟩
theorem tc{x:I}{b off:Nat}{cs:List Value}(J:reads w D b off cs)(U:al w D E x cs):aZ w D E (.ref x) (.pointer (some ⟨b,off,none⟩)) :=
 ⟨_,by simp[bA,I.isAgg];rfl,by simp only[al];exact ⟨b,off,cs,rfl,J,U⟩⟩
theorem mX{sz:Nat}{es:List I}{v:Value}(h:aZ w D E (.slice sz es) v):∃ ad cap,v=.slice ad es.length cap∧es.length≤cap∧cap≤maxLen ∧
  (es=[]∨∃ b off cs,ad=some ⟨b,off,none⟩∧reads w D b off cs∧aM w D E es cs)∧∀ e∈es,e.size=sz:=by
 obtain ⟨cs,J,U⟩:=h;simp only[al] at U;obtain ⟨ad,cap,ah,ar⟩:=U;exact ⟨ad,cap,by simpa[bA,I.isAgg,ah] using J.symm,ar⟩
theorem td{sz:Nat}{es:List I}{ad:Option Addr}{n cap:Nat}(hn:n=es.length)(J:n≤cap)(U:cap≤maxLen)
  (ah:es=[]∨∃ b off cs,ad=some ⟨b,off,none⟩∧reads w D b off cs∧aM w D E es cs) (ar:∀ e∈es,e.size=sz):aZ w D E (.slice sz es) (.slice ad n cap):=by
 subst hn;exact ⟨_,by simp[bA,I.isAgg];rfl,by simp only[al];exact ⟨ad,cap,rfl,J,U,ah,ar⟩⟩
end
def cB(op:BinOp)(x y:I):Option I :=
 match x,y with
 | .int k a,.int k' b =>
  match op with
  | .shl=>if 0≤b then some (.int k (k.wrap (a*2^(min b.toNat k.bits)))) else none
  | .shr=>if 0≤b then some (.int k (a.fdiv (2^(min b.toNat k.bits)))) else none
  |op=>if k=k' then
   match op with
   | .add=>some (.int k (k.wrap (a+b)))
   | .sub=>some (.int k (k.wrap (a-b)))
   | .mul=>some (.int k (k.wrap (a*b)))
   | .quo=>if b=0 then none else some (.int k (k.wrap (a.tdiv b)))
   | .rem=>if b=0 then none else some (.int k (a.tmod b))
   | .and=>some (.int k (k.wrap ((BitVec.ofInt k.bits a &&& BitVec.ofInt k.bits b).toNat:Int)))
   | .or=>some (.int k (k.wrap ((BitVec.ofInt k.bits a ||| BitVec.ofInt k.bits b).toNat:Int)))
   | .xor=>some (.int k (k.wrap ((BitVec.ofInt k.bits a ^^^ BitVec.ofInt k.bits b).toNat:Int)))
   | .andNot=>some (.int k (k.wrap ((BitVec.ofInt k.bits a &&& ~~~ BitVec.ofInt k.bits b).toNat:Int)))
   | .eql=>some (.bool (a==b))
   | .neq=>some (.bool (a != b))
   | .lss=>some (.bool (decide (a<b)))
   | .leq=>some (.bool (decide (a≤b)))
   | .gtr=>some (.bool (decide (a>b)))
   | .geq=>some (.bool (decide (a≥b)))
   |_=>none
   else none
 | .bQ s,.bQ t =>
  match op with
  | .eql=>some (.bool (s.toList==t.toList))
  | .neq=>some (.bool (!(s.toList==t.toList)))
  | .lss=>some (.bool (Op.bytesLess s.toList t.toList))
  | .leq=>some (.bool (Op.bytesLess s.toList t.toList||s.toList==t.toList))
  | .gtr=>some (.bool (!(Op.bytesLess s.toList t.toList||s.toList==t.toList)))
  | .geq=>some (.bool (!(Op.bytesLess s.toList t.toList)))
  | .add=>if s.size+t.size≤9223372036854775807 then some (.bQ (s++t)) else none
  |_=>none
 |_,_=>none
theorem pS(k:IntKind)(n:Int):k.min≤k.wrap n∧k.wrap n≤k.max:=by
 cases k <;>simp only[IntKind.min,IntKind.max,IntKind.wrap,IntKind.bits,IntKind.signed] <;>simp <;>(try split) <;>omega
theorem YJ(a b:Int):(0≤a→0≤a.tmod b∧a.tmod b≤a)∧(a<0→a≤a.tmod b∧a.tmod b≤0):=by
 have key:∀ n:Nat,0≤(n:Int).tmod b∧(n:Int).tmod b≤n:=by
  intro n;cases b with
  |ofNat m=>show 0≤((n%m:Nat):Int)∧((n%m:Nat):Int)≤n;have:=Nat.mod_le n m;omega
  |negSucc m=>show 0≤((n%(m+1):Nat):Int)∧((n%(m+1):Nat):Int)≤n;have:=Nat.mod_le n (m+1);omega
 refine ⟨fun h =>?_,fun h =>?_⟩
 ·obtain ⟨n,rfl⟩:=Int.eq_ofNat_of_zero_le h;exact key n
 ·obtain ⟨n,hn⟩:=Int.eq_ofNat_of_zero_le (show 0≤-a by omega);have:=key n;rw[←hn,Int.neg_tmod] at this;omega
theorem YK(k:IntKind)(a b:Int)(h:k.min≤a∧a≤k.max):k.min≤a.tmod b∧a.tmod b≤k.max:=by
 have aW:k.min≤0∧0≤k.max:=by cases k <;>simp[IntKind.min,IntKind.max,IntKind.bits,IntKind.signed]
 have:=YJ a b;omega
theorem MF(a:Int)(m:Int)(hm:0<m):(0≤a→0≤a.fdiv m∧a.fdiv m≤a)∧(a<0→a≤a.fdiv m∧a.fdiv m≤0):=by
 rw[Int.fdiv_eq_ediv_of_nonneg _ (by omega)];have J:=Int.mul_ediv_add_emod a m;have U:=Int.emod_nonneg a (show m≠0 by omega);refine ⟨fun h=>⟨Int.ediv_nonneg h (by omega),Int.ediv_le_self _ h⟩,fun h=>⟨?_,?_⟩⟩
 ·rw[Int.le_ediv_iff_mul_le hm];have:a*m≤a*1:=Int.mul_le_mul_of_nonpos_left (by omega) (by omega);omega
 ·have:=Int.ediv_neg_of_neg_of_pos h hm;omega
theorem MG(k:IntKind)(a:Int)(n:Nat)(h:k.min≤a∧a≤k.max):k.min≤a.fdiv (2^n)∧a.fdiv (2^n)≤k.max:=by
 have aW:k.min≤0∧0≤k.max:=by cases k <;>simp[IntKind.min,IntKind.max,IntKind.bits,IntKind.signed]
 have:=MF a (2^n) (Int.pow_pos (by omega));omega
def cK(A:ai):I→Option I
 | .ref x=>some x
 | .ptr n p=>match A.o n with
  |some (.box x)=>x.at p
  |_=>none
 |_=>none
mutual
def I.bw:I→Bool
 | .agg fs=>I.cg fs
 | .slice _ es=>I.cg es
 | .ref x=>x.bw
 | .func _ caps=>I.cg caps
 | .iface _ v=>v.bw
 | .df ks vs=>I.cg ks&&I.cg vs
 | .ptr _ _ | .own _ _ | .view _ _ _ _ _ | .mref _ | .dk _ | .undef | .du | .tuple _=>false
 | .bool _ | .int _ _ | .bQ _ | .nilp | .dA | .dY | .any | .raw _ | .nils _ | .c0 _=>true
def I.cg:List I→Bool
 | []=>true
 |x::xs=>x.bw&&I.cg xs
end
def fT(f:I→Option I):List I→Option (List I)
 | []=>some []
 |x::xs=>match f x,fT f xs with
  |some y,some ys=>some (y::ys)
  |_,_=>none
def cY(A:ai):Nat→I→Option I
 |0,_=>none
 |k+1,x=>if x.bw then some x else match x with
  | .agg fs=>(fT (cY A k) fs).map .agg
  | .func f caps=>if f<1000000 then (fT (cY A k) caps).map (.func f) else some .any
  | .ptr n p=>match cK A (.ptr n p) with
   |some y=>(cY A k y).map .ref
   |none=>none
  | .view n p sz lo l=>match cK A (.ptr n p) with
   |some (.agg fs)=>if I.cg ((fs.drop lo).take l)=true then some (.slice sz ((fs.drop lo).take l)) else none
   |_=>none
  | .mref n=>match A.o n with
   |some (.bt ks vs)=>if I.cg ks=true then (fT (cY A k) vs).map (.df ks) else none
   |_=>none
  | .own n l=>match A.o n with
   |some (.bY _ sz es)=>if l=es.length∧I.cg es=true then some (.slice sz es) else none
   |_=>none
  |_=>none
mutual
/-- The value for others to hold: pointers to the frame's own variables and rows become what they hold. -/
def bh(aN:Bool)(A:ai):I→Option I
 | .ptr n p=>if aN then (match cK A (.ptr n p) with | some x=>if x.bw then some (.ref x) else (cY A 9 x).map .ref | none=>none) else none
 | .own n k=>match A.o n with
  |some (.bY _ sz es)=>if k=es.length∧I.cg es=true then some (.slice sz es) else none
  |_=>none
 | .view n p sz lo k=>if aN then (match cK A (.ptr n p) with
  |some (.agg fs)=>if I.cg ((fs.drop lo).take k)=true then some (.slice sz ((fs.drop lo).take k)) else none
  |_=>none) else none
 | .mref n=>if aN then (match A.o n with
  |some (.bt ks vs)=>if I.cg ks=true then (fT (cY A 9) vs).map (.df ks) else none
  |_=>none) else none
 | .dk _=>none
 | .df ks vs=>if I.cg ks&&I.cg vs then some (.df ks vs) else none
 | .nils sz=>some (.slice sz [])
 | .c0 sz=>some (.slice sz [])
 | .func f caps=>if f<1000000 then (b6 aN A caps).map (.func f) else some .any
 | .agg fs=>(b6 aN A fs).map .agg
 | .tuple _=>none
 | .undef=>none
 | .du=>none
 | .bool b=>some (.bool b)
 | .int k n=>some (.int k n)
 | .bQ s=>some (.bQ s)
 | .nilp=>some .nilp
 | .dA=>some .dA
 | .dY=>some .dY
 | .any=>some .any
 | .raw u=>some (.raw u)
 | .slice sz es=>if I.cg es then some (.slice sz es) else none
 | .ref x=>if x.bw then some (.ref x) else none
 | .iface t v=>if v.bw then some (.iface t v) else none
def b6(aN:Bool)(A:ai):List I→Option (List I)
 | []=>some []
 |x::xs=>match bh aN A x,b6 aN A xs with
  |some y,some ys=>some (y::ys)
  |_,_=>none
end
def b7(s:Option Nat)(x:I):Bool:=match s with
 |none => !x.isAgg
 |some n=>x.isAgg&&x.size==n
def I.bU:I→Bool
 | .undef | .du | .tuple _=>false
 |_=>true
def ja(n esz:Nat)(fs:List I):Bool:=fs.length==n&&fs.all fun f=>f.size==esz
def dO(zs:List I):List (Nat×I)→Option (List I)
 | []=>some zs
 |(i,v)::rest=>match zs[i]? with
  |some z=>if v.bU=true∧v.size=z.size then dO (zs.set i v) rest else none
  |none=>none
def jk(x:Option I)(d:Int):Option Int:=match x with
 |none=>some d
 |some (.int _ n)=>some n
 |_=>none
def iR(sz:Nat)(es:List I)(lo hi mx:Option I):Option I :=
 match jk hi es.length with
 |none=>none
 |some h=>match jk mx es.length with
  |none=>none
  |some m=>match jk lo 0 with
   |none=>none
   |some l=>if 0≤l∧l≤h∧h≤m∧m≤es.length then
     (if mx.isSome∧m=l then some (.c0 sz) else some (.slice sz ((es.take h.toNat).drop l.toNat))) else none
def mZ(n:Nat)(p:List Nat)(sz lo k total:Nat)(lo' hi' mx':Option I):Option I :=
 match jk hi' k with
 |none=>none
 |some h=>match jk lo' 0 with
  |none=>none
  |some l=>match mx' with
   |none=>if 0≤l∧l≤h∧h≤((total-lo:Nat):Int) then (if l=((total-lo:Nat):Int) then some (.c0 sz) else some (.view n p sz (lo+l.toNat) (h.toNat-l.toNat))) else none
   |some (.int _ m)=>if 0≤l∧l≤h∧h≤m∧m≤((total-lo:Nat):Int) then some .du else none
   |_=>none
def iX(a b:Option Bool):Option Bool:=match a,b with
 |some x,some y=>some (x&&y)
 |_,_=>none
mutual
/-- '==',part by part. -/
def bZ:cE→I→I→Option Bool
 | .i k,x,y=>match x,y with
  | .int k1 a,.int k2 b=>if k1=k∧k2=k then some (a==b) else none
  |_,_=>none
 | .b,x,y=>match x,y with
  | .bool a,.bool b=>some (a==b)
  |_,_=>none
 | .s,x,y=>match x,y with
  | .bQ a,.bQ b=>some (a.toList==b.toList)
  |_,_=>none
 | .a8 l,x,y=>match x,y with
  | .agg fs,.agg gs=>hJ l fs gs
  |_,_=>none
 | .p6 n e,x,y=>match x,y with
  | .agg fs,.agg gs=>if fs.length=n∧gs.length=n then (fs.zip gs).foldr (fun p acc=>iX (bZ e p.1 p.2) acc) (some true) else none
  |_,_=>none
def hJ:List cE→List I→List I→Option Bool
 | [],fs,gs=>match fs,gs with
  | [],[]=>some true
  |_,_=>none
 |t::ts,fs,gs=>match fs,gs with
  |f::fs,g::gs=>iX (bZ t f g) (hJ ts fs gs)
  |_,_=>none
end
def oS(k:IntKind)(n:Int):Int:=k.wrap ((BitVec.ofInt k.bits (if k.signed then -1 else k.max) ^^^ BitVec.ofInt k.bits n).toNat:Int)
def eF(ty:cE)(k:I):List I→Nat→Option (Option Nat)
 | [],_=>some none
 |x::xs,i=>match bZ ty k x with
  |some true=>some (some i)
  |some false=>eF ty k xs (i+1)
  |none=>none
def gb(A:ai):I→Option (List I×List I)
 | .df ks vs=>some (ks,vs)
 | .mref n=>match A.o n with
  |some (.bt ks vs)=>some (ks,vs)
  |_=>none
 | .raw (.map none)=>some ([],[])
 |_=>none
def fu(ty:cE)(z k:I)(ks vs:List I):Option (I×Bool) :=
 if (bZ ty k k).isSome then (match eF ty k ks 0 with
  |some (some i)=>(vs[i]?).map fun v=>(v,true)
  |some none=>some (z,false)
  |none=>none) else none
def iH:I→Option Bool
 | .nilp=>some true
 | .ptr _ _=>some false
 | .ref _=>some false
 |_=>none
def fw(ty:cE)(k v:I)(ks vs:List I):Option (List I×List I) :=
 if (bZ ty k k).isSome=true∧k.bU=true∧v.bU=true then (match eF ty k ks 0 with
  |some (some i)=>some (ks,vs.set i v)
  |some none=>some (ks++[k],vs++[v])
  |none=>none) else none
def lS(ty:cE)(k:I)(ks vs:List I):Option (List I×List I) :=
 if (bZ ty k k).isSome=true then (match eF ty k ks 0 with
  |some (some i)=>some (ks.eraseIdx i,vs.eraseIdx i)
  |some none=>some (ks,vs)
  |none=>none) else none
def lT:I→Option I
 | .ptr n p=>some (.ptr n p)
 | .ref x=>some (.ref x)
 |_=>none
def qR:I→I→Option I
 | .int k a,.int k2 b=>if k=k2 then some (.int k (if b>a then b else a)) else none
 |_,_=>none
def mR(neg:Bool):Option Bool→Option Bool→Option I
 |some a,some b=>if a||b then some (.bool (if neg then !(a&&b) else (a&&b))) else none
 |_,_=>none
def qK(ok:Bool):Option (I×Bool)→Option I
 |some (v,b)=>some (if ok then .tuple [v,.bool b] else v)
 |none=>none
def qJ(ty:cE)(z:I)(ok:Bool)(k:I):Option (List I×List I)→Option I
 |some (ks,vs)=>qK ok (fu ty z k ks vs)
 |none=>none
def mA(ks vs:List I):Option Nat→Option I
 |some i=>match ks[i]?,vs[i]? with
  |some k,some v=>some (.tuple [k,v])
  |_,_=>none
 |none=>none
def bm(A:ai):bT→Option I
 | .mv x=>some (ak A x)
 | .pick c a b=>match ak A c with | .bool t=>some (if t then ak A a else ak A b) | _=>none
 | .bin op x y=>cB op (ak A x) (ak A y)
 | .eqv ty neg x y=>(bZ ty (ak A x) (ak A y)).map fun b=>.bool (if neg then !b else b)
 | .nilS neg x=>match ak A x with
  | .nils _=>some (.bool (!neg))
  | .slice _ es=>if es.isEmpty then none else some (.bool neg)
  | .view _ _ _ _ _=>some (.bool neg)
  |_=>none
 | .conv k x=>match ak A x with | .int _ n=>some (.int k (k.wrap n)) | _=>none
 | .un op x=>match op,ak A x with
  | .not,.bool b=>some (.bool !b)
  | .neg,.int k n=>some (.int k (k.wrap (0-n)))
  | .xor,.int k n=>some (.int k (oS k n))
  |_,_=>none
 | .ld s x=>match cK A (ak A x) with | some v=>if b7 s v then some v else none | none=>none
 | .fa f off x=>match ak A x with
  | .ref (.agg fs)=>match fs[f]? with | some v=>if I.sizes (fs.take f)=off then some (.ref v) else none | none=>none
  | .ptr n p=>match cK A (.ptr n p) with | some (.agg fs)=>if f<fs.length∧I.sizes (fs.take f)=off then some (.ptr n (p++[f])) else none | _=>none
  |_=>none
 | .fl f off s x=>match ak A x with
  | .agg fs=>match fs[f]? with | some v=>if I.sizes (fs.take f)=off∧b7 s v=true then some v else none | none=>none
  |_=>none
 | .ia n esz x i=>match ak A i with
  | .int _ k=>if 0≤k∧k<n then (match ak A x with
   | .ref (.agg fs)=>if ja n esz fs then (fs[k.toNat]?).map .ref else none
   | .ptr m p=>match cK A (.ptr m p) with | some (.agg fs)=>if ja n esz fs then some (.ptr m (p++[k.toNat])) else none | _=>none
   |_=>none) else none
  |_=>none
 | .is esz x i=>match ak A i with
  | .int _ k=>match ak A x with
   | .slice sz es=>if sz=esz∧0≤k∧k<es.length then (es[k.toNat]?).map .ref else none
   | .own m l=>match A.o m with | some (.bY _ sz es)=>if l=es.length∧sz=esz∧0≤k∧k<es.length then (es[k.toNat]?).map .ref else none | _=>none
   | .view m p sz lo l=>match cK A (.ptr m p) with | some (.agg _)=>if sz=esz∧0≤k∧k<l then some (.ptr m (p++[lo+k.toNat])) else none | _=>none
   |_=>none
  |_=>none
 | .ix n esz s x i=>match ak A i with
  | .int _ k=>if 0≤k∧k<n then (match ak A x with
   | .agg fs=>if ja n esz fs then (match fs[k.toNat]? with | some v=>if b7 s v then some v else none | none=>none) else none
   |_=>none) else none
  |_=>none
 | .len x=>match ak A x with
  | .slice _ es=>some (.int .i64 es.length)
  | .nils _ | .c0 _=>some (.int .i64 0)
  | .own m l=>match A.o m with | some (.bY _ _ es)=>if l=es.length then some (.int .i64 es.length) else none | _=>none
  | .view _ _ _ _ k=>some (.int .i64 k)
  |_=>none
 | .cap x=>match ak A x with
  | .nils _ | .c0 _=>some (.int .i64 ((0:Nat):Int))
  | .view n p _ lo _=>match cK A (.ptr n p) with | some (.agg fs)=>some (.int .i64 ((fs.length-lo:Nat):Int)) | _=>none
  |_=>none
 | .bs0 esz=>some (.c0 esz)
 | .lenT x=>match ak A x with
  | .bQ s=>some (.int .i64 s.size)
  |_=>none
 | .va n esz x=>match ak A x with
  | .ptr m p=>match cK A (.ptr m p) with | some (.agg fs)=>if ja n esz fs=true∧n≤maxLen∧n≠0 then some (.view m p esz 0 n) else none | _=>none
  | .ref (.agg fs)=>if ja n esz fs=true∧n≤maxLen∧n≠0 then some (.slice esz fs) else none
  |_=>none
 | .sl esz x lo hi mx=>match ak A x with
  | .slice sz es=>if sz=esz then iR sz es (lo.map (ak A)) (hi.map (ak A)) (mx.map (ak A)) else none
  | .nils sz=>if sz=esz then iR sz [] (lo.map (ak A)) (hi.map (ak A)) (mx.map (ak A)) else none
  | .c0 sz=>if sz=esz then iR sz [] (lo.map (ak A)) (hi.map (ak A)) (mx.map (ak A)) else none
  | .view n p sz l0 k=>match cK A (.ptr n p) with | some (.agg fs)=>if sz=esz then mZ n p sz l0 k fs.length (lo.map (ak A)) (hi.map (ak A)) (mx.map (ak A)) else none | _=>none
  |_=>none
 | .bld zs parts=>(dO zs (parts.map fun p=>(p.1,ak A p.2))).map .agg
 | .nilC x=>lT (ak A x)
 | .max2 x y=>qR (ak A x) (ak A y)
 | .ptrE neg x y=>mR neg (iH (ak A x)) (iH (ak A y))
 | .lk ty z ok m k=>qJ ty z ok (ak A k) (gb A (ak A m))
 | .ent x=>match ak A x with
  | .dk n=>match A.o n with
   |some (.it ks vs _ cur)=>mA ks vs cur
   |_=>none
  |_=>none
 | .bs _ esz parts=>match b6 false A (parts.map (ak A)) with
  |some es=>if (es.all fun e=>e.size==esz)∧I.cg es then some (.slice esz es) else none
  |none=>none
 | .ext x i=>match ak A x with | .tuple fs=>fs[i]? | _=>none
 | .mk f caps=>if ((caps.map (ak A)).all fun y=>y.bU)=true then some (.func f (caps.map (ak A))) else none
 |_=>none
mutual
theorem al.fR{w:World}{D D':aP}{E E':aY}(hD:∀ b o,D b o→D' b o):∀ (x:I) (cs:List Value),x.bw=true→al w D E x cs→al w D' E' x cs
 | .agg fs,cs,hc,hr=>by simp only[al,I.bw] at *;exact aM.fR hD fs cs hc hr
 | .bool b,cs,_,hr=>by simpa only[al] using hr
 | .int k n,cs,_,hr=>by simpa only[al] using hr
 | .bQ s,cs,_,hr=>by simpa only[al] using hr
 | .nilp,cs,_,hr=>by simpa only[al] using hr
 | .dA,cs,_,hr=>by simpa only[al] using hr
 | .dY,cs,_,hr | .any,cs,_,hr=>by simpa only[al] using hr
 | .raw _,cs,_,hr=>by simpa only[al] using hr
 | .nils _,cs,_,hr=>by simpa only[al] using hr
 | .c0 _,cs,_,hr=>by simpa only[al] using hr
 | .slice sz es,cs,hc,hr=>by
  simp only[al,I.bw] at *;obtain ⟨a,cap,J,U,ah,ar,h5⟩:=hr;refine ⟨a,cap,J,U,ah,?_,h5⟩;rcases ar with ar | ⟨b,off,cs',h6,h7,h8⟩
  ·exact .inl ar
  ·exact .inr ⟨b,off,cs',h6,fun j v hj=>⟨(h7 j v hj).1,hD _ _ (h7 j v hj).2⟩,aM.fR hD es cs' hc h8⟩
 | .ref x,cs,hc,hr=>by
  simp only[al,I.bw] at *;obtain ⟨b,off,cs',J,U,ah⟩:=hr;exact ⟨b,off,cs',J,fun j v hj=>⟨(U j v hj).1,hD _ _ (U j v hj).2⟩,al.fR hD x cs' hc ah⟩
 | .func f caps,cs,hc,hr=>by
  simp only[al,I.bw] at *;obtain ⟨vs,J,U⟩:=hr;exact ⟨vs,J,aF.fR hD caps vs hc U⟩
 | .iface t v,cs,hc,hr=>by
  simp only[al,I.bw] at *;obtain ⟨u,cs',J,U,ah⟩:=hr;exact ⟨u,cs',J,U,al.fR hD v cs' hc ah⟩
 | .ptr n p,_,hc,_=>by simp[I.bw] at hc
 | .own n k,_,hc,_=>by simp[I.bw] at hc
 | .view n p _ _ _,_,hc,_=>by simp[I.bw] at hc
 | .mref n,_,hc,_=>by simp[I.bw] at hc
 | .dk n,_,hc,_=>by simp[I.bw] at hc
 | .df ks vs,cs,hc,hr=>by
  simp only[al,I.bw,t8] at *;obtain ⟨b,es,ck,J,U,ah,ar⟩:=hr;exact ⟨b,es,ck,J,⟨U.1,hD _ _ U.2.1,U.2.2⟩,aF.fR hD ks _ hc.1 ah,aF.fR hD vs _ hc.2 ar⟩
 | .undef,_,hc,_=>by simp[I.bw] at hc
 | .du,_,hc,_=>by simp[I.bw] at hc
 | .tuple _,_,hc,_=>by simp[I.bw] at hc
theorem aM.fR{w:World}{D D':aP}{E E':aY}(hD:∀ b o,D b o→D' b o):∀ (xs:List I) (cs:List Value),I.cg xs=true→aM w D E xs cs→aM w D' E' xs cs
 | [],cs,_,hr=>by simpa only[aM] using hr
 |x::xs,cs,hc,hr=>by
  simp only[aM,I.cg,t8] at *;obtain ⟨c1,c2,J,U,ah⟩:=hr;exact ⟨c1,c2,J,al.fR hD x c1 hc.1 U,aM.fR hD xs c2 hc.2 ah⟩
theorem aF.fR{w:World}{D D':aP}{E E':aY}(hD:∀ b o,D b o→D' b o):∀ (xs:List I) (vs:List Value),I.cg xs=true→aF w D E xs vs→aF w D' E' xs vs
 | [],vs,_,hr=>by simpa only[aF] using hr
 |x::xs,vs,hc,hr=>by
  simp only[aF,I.cg,t8] at *;obtain ⟨v,rest,cs,J,U,ah,ar⟩:=hr;exact ⟨v,rest,cs,J,U,al.fR hD x cs hc.1 ah,aF.fR hD xs rest hc.2 ar⟩
end
theorem n1{w:World}{D:aP}{b:Nat}{cs:Array Value}{T:TypeId}{fz:Nat×Nat}(hb:w.heap[b]?=some (.cells cs T fz)){c1 c2 c3:List Value}(hc:cs.toList=c1++c2++c3)
  (hD:∀ o,o<c1.length+c2.length→D b o):reads w D b c1.length c2:=by
 intro j v hj;have hjl:j<c2.length:=(Z5.1 hj).1;refine ⟨?_,hD _ (by omega)⟩;have e:cs[c1.length+j]?=some v:=by
  rw[←zy2,hc,Y5,zy4 (by omega),Nat.add_sub_cancel_left,Y8 (by omega)];exact hj
 simp[World.cell?,hb,e]
section
variable {c:cV} {A:ai} {a:Act} {w:World} {D:aP} {E:aY}
theorem aU.box(h:aU c A a w D E){n:Nat}{x:I}(hn:A.o n=some (.box x)) :
  ∃ b cs T,E n=some (.aN b x.aX)∧c.e6 b∧w.heap[b]?=some (.cells cs T (0,0))∧al w D E x cs.toList∧∀ o,¬ D b o:=by
 have:=h.bP n;rw[hn] at this;exact this
theorem aU.bY(h:aU c A a w D E){n sz:Nat}{T:TypeId}{es:List I}(hn:A.o n=some (.bY T sz es)) :
  ∃ aG,E n=some (.rw aG es.length)∧(∀ e∈es,e.size=sz)∧match aG with
  |none=>es=[]
  |some (b,cap)=>∃ cs pre rest,c.e6 b∧w.heap[b]?=some (.cells cs T (0,0))∧cs.toList=pre++rest∧aM w D E es pre ∧
    cs.size=cap*sz∧es.length≤cap∧cap≤maxLen∧∀ o,D b o→o<pre.length:=by
 have:=h.bP n;rw[hn] at this;exact this
theorem aU.rO(h:aU c A a w D E){n:Nat}{T:TypeId}{xs:List Int}(hn:A.o n=some (.dH T xs)) :
  ∃ aG,E n=some (.rw aG xs.length)∧(∀ x∈xs,IntKind.i64.min≤x∧x≤IntKind.i64.max)∧match aG with
  |none=>xs=[]
  |some (b,cap)=>∃ cs m,c.e6 b∧w.heap[b]?=some (.cells cs T (0,0))∧cs.toList=(xs++List.replicate m 0).map (Value.int .i64)∧xs≠[]∧xs.length+m=cap∧cap≤maxLen∧∀ o,¬ D b o:=by
 have:=h.bP n;rw[hn] at this;exact this
theorem aU.map(h:aU c A a w D E){n:Nat}{ks vs:List I}(hn:A.o n=some (.bt ks vs)) :
  ∃ b es clock,E n=some (.bt b)∧c.e6 b∧w.heap[b]?=some (.map es clock)∧ox es clock∧aF w D E ks (es.toList.map (·.key))∧aF w D E vs (es.toList.map (·.val))∧∀ o,¬ D b o:=by
 have:=h.bP n;rw[hn] at this;exact this
theorem aU.at(h:aU c A a w D E){n:Nat}{p:List Nat}{x:I}(hx:cK A (.ptr n p)=some x) :
  ∃ y b cs T off c1 c2 c3,A.o n=some (.box y)∧E n=some (.aN b y.aX)∧c.e6 b∧w.heap[b]?=some (.cells cs T (0,0))∧y.at p=some x∧y.aX.off p=some off ∧
   cs.toList=c1++c2++c3∧c1.length=off∧al w D E x c2∧al w D E y cs.toList∧∀ o,¬ D b o:=by
 simp only[cK] at hx;split at hx
 ·rename_i y hn;obtain ⟨b,cs,T,J,U,ah,ar,h5⟩:=h.box hn;obtain ⟨off,c1,c2,c3,h6,h7,h8,h9⟩:=xb p y x _ ar hx;exact ⟨y,b,cs,T,off,c1,c2,c3,hn,J,U,ah,hx,h6,h7,h8,h9,ar,h5⟩
 ·cases hx
theorem aU.yr(h:aU c A a w D E){x y:I}{v:Value}(hv:aZ w D E x v)(hx:cK A x=some y) :
  ∃ b off cs,v=.pointer (some ⟨b,off,none⟩)∧(∀ j u,cs[j]?=some u→w.cell? ⟨b,off+j,none⟩=some u)∧al w D E y cs:=by
 cases x with
 |ref z =>
  simp only[cK,v6] at hx;subst hx;obtain ⟨b,off,cs,J,U,ah⟩:=pM hv;exact ⟨b,off,cs,J,fun j u hj=>(U j u hj).1,ah⟩
 |ptr n p =>
  obtain ⟨b,aX,off,J,U,ah⟩:=lj hv;obtain ⟨z,b',cs,T,off',c1,c2,c3,k1,k2,_,k3,_,k5,k6,k7,k8,_,_⟩:=h.at hx;rw[k2] at J;simp only[v6,bM.aN.injEq] at J;obtain ⟨rfl,rfl⟩:=J;rw[k5,v6] at U;subst U;refine ⟨b',off',c2,ah,fun j u hj =>?_,k8⟩;have:=n1 (D:=fun _ _=>True) k3 k6 (fun _ _=>trivial);rw[k7] at this;exact (this j u hj).1
 |_=>simp[cK] at hx
theorem tC{w:World}{D:aP}{E:aY} : ∀ (xs ys:List I) (cs:List Value),aM w D E (xs++ys) cs→∃ c1 c2,cs=c1++c2∧aM w D E xs c1∧aM w D E ys c2
 | [],ys,cs,hr=>⟨[],cs,rfl,by simp[aM],hr⟩
 |x::xs,ys,cs,hr=>by
  simp only[Z9,aM] at hr;obtain ⟨d1,d2,rfl,k1,k2⟩:=hr;obtain ⟨e1,e2,rfl,k3,k4⟩:=tC xs ys d2 k2;exact ⟨d1++e1,e2,by simp,by simp only[aM];exact ⟨d1,e1,rfl,k1,k3⟩,k4⟩
theorem E9{fs:List I}{sz:Nat}(h:∀ s∈I.cX fs,s.size=sz):∀ f∈fs,f.size=sz:=by
 intro f hf;rw[←I.lq];exact h _ (by rw[I.dw];exact zz5.2 ⟨f,hf,rfl⟩)
theorem tD{w:World}{D:aP}{E:aY}{fs:List I}{cs:List Value}{sz:Nat}(hr:aM w D E fs cs)(hev:∀ f∈fs,f.size=sz)(lo k:Nat)(h:lo+k≤fs.length) :
  ∃ d1 d2 d3,cs=d1++(d2++d3)∧d1.length=lo*sz∧aM w D E ((fs.drop lo).take k) d2∧aM w D E ((fs.drop lo).drop k) d3:=by
 have e1:fs=fs.take lo++((fs.drop lo).take k++(fs.drop lo).drop k):=by rw[zy8,zy8]
 rw[e1] at hr;obtain ⟨d1,d',rfl,q1,q2⟩:=tC _ _ _ hr;obtain ⟨d2,d3,rfl,q3,q4⟩:=tC _ _ _ q2;refine ⟨d1,d2,d3,rfl,?_,q3,q4⟩;rw[aM.length _ _ q1,I.iv _ (fun x hx=>hev x (List.mem_of_mem_take hx)),zz8]
 congr 1
 omega
structure h2 (aN:Bool) (A:ai) (D:aP) (E:aY) (D':aP):Prop where
 c6:∀ b o,D b o→D' b o
 bY:∀ n T sz es b cap,A.o n=some (.bY T sz es)→E n=some (.rw (some (b,cap)) es.length)→∀ o,o<es.length*sz→D' b o
 box:aN=true→∀ n x b aX,A.o n=some (.box x)→E n=some (.aN b aX)→∀ o,o<x.size→D' b o
 map:aN=true→∀ n ks vs b,A.o n=some (.bt ks vs)→E n=some (.bt b)→D' b 0
def er(A A':ai):Prop:=∀ n x,A.o n=some x→A'.o n=some x
theorem jq{A A':ai}(hu:er A A'){x v:I}(h:cK A x=some v):cK A' x=some v:=by
 cases x <;>simp only[cK] at h ⊢ <;>try exact h
 rename_i n p;cases ho:A.o n with
 |none=>rw[ho] at h;cases h
 |some y=>rw[ho] at h;rw[hu n y ho];exact h
theorem Av{A0 A:ai}(hu:er A0 A){n:Nat}{p:List Nat}{x z:I}(h:cK A0 (.ptr n p)=some x)(hz:A.o n=some (.box z)):A0.o n=some (.box z):=by
 simp only[cK] at h;split at h
 ·rename_i y hy;have:=hu n _ hy;rw[hz] at this;rw[hy,←this]
 ·cases h
theorem aU.Ey(h:aU c A a w D E){A0:ai}(hu:er A0 A){D':aP}(hw:h2 true A0 D E D'){n:Nat}{p:List Nat}{x:I}{cs:List Value}(hx:cK A0 (.ptr n p)=some x)(hr:al w D E (.ptr n p) cs) :
  ∃ b off c2,cs=[.pointer (some ⟨b,off,none⟩)]∧reads w D' b off c2∧al w D E x c2:=by
 obtain ⟨z,b',cs',T,off',c1,c2,c3,k1,k2,_,k3,k4,k5,k6,k7,k8,k9,_⟩:=h.at (jq hu hx);have k1:=Av hu hx k1;simp only[al] at hr;obtain ⟨b,aX,off,J,U,ah⟩:=hr;rw[k2] at J;simp only[v6,bM.aN.injEq] at J;obtain ⟨rfl,rfl⟩:=J;rw[k5,v6] at U;subst U;have hsz:=al.length z _ k9;rw[k6] at hsz;simp only[Z6] at hsz;refine ⟨b',off',c2,ah,?_,k8⟩;rw[←k7];exact n1 k3 k6 (fun o ho=>hw.box rfl n z b' _ k1 k2 o (by omega))
theorem aU.iR(h:aU c A a w D E){A0:ai}(hu:er A0 A){D':aP}{E':aY}(hw:h2 true A0 D E D'){n:Nat}{p:List Nat}{sz lo k:Nat}{fs:List I}{cs:List Value}(hx:cK A0 (.ptr n p)=some (.agg fs))(hr:al w D E (.view n p sz lo k) cs)
  (hcl:I.cg ((fs.drop lo).take k)=true):al w D' E' (.slice sz ((fs.drop lo).take k)) cs:=by
 obtain ⟨z,b',cs',T,off',c1,c2,c3,k1,k2,_,k3,k4,k5,k6,k7,k8,k9,_⟩:=h.at (jq hu hx);have k1:=Av hu hx k1;simp only[al] at hr k8 ⊢;obtain ⟨b,aX,off,l,J,U,ah,ar,h5,h6,h7⟩:=hr;rw[k2] at J;simp only[v6,bM.aN.injEq] at J;obtain ⟨rfl,rfl⟩:=J;rw[k5,v6] at U;subst U;rw[mf p z _ k4] at ah;simp only[I.aX,v6,cP.eG.injEq] at ah;subst ah;have hsz:=al.length z _ k9;rw[k6] at hsz;rw[I.dw,Z8] at ar h5 h6;have hev:=E9 h7;obtain ⟨d1,d2,d3,rfl,q1,q2,q3⟩:=tD k8 hev lo k h6;simp only[Z6] at hsz;have hlen:((fs.drop lo).take k).length=k:=by rw[zz8,List.length_drop];omega
 refine ⟨some ⟨b',off'+lo*sz,none⟩,fs.length-lo,by rw[hlen];exact ar,by rw[hlen];omega,by omega,.inr ⟨b',off'+lo*sz,d2,rfl,?_,aM.fR hw.c6 _ d2 hcl q2⟩,?_⟩
 ·have:=n1 (D:=D') (c1:=c1++d1) (c2:=d2) (c3:=d3++c3) k3 (by rw[k6];simp) (fun o ho=>hw.box rfl n z b' _ k1 k2 o (by rw[Z6] at ho;omega));rw[Z6,k7,q1] at this;exact this
 ·intro e he;exact hev e (List.mem_of_mem_drop (List.mem_of_mem_take he))
theorem aU.EO(h:aU c A a w D E){aN:Bool}{A0:ai}(hu:er A0 A){D':aP}{E':aY}(hw:h2 aN A0 D E D'){n k T sz:Nat}{es:List I}{cs:List Value}(hn:A0.o n=some (.bY T sz es))(hcl:I.cg es=true)(hk:k=es.length)(hr:al w D E (.own n k) cs):al w D' E' (.slice sz es) cs:=by
 subst hk;simp only[al] at hr;obtain ⟨aG,l,J,U,_,ar⟩:=hr;obtain ⟨blk',k1,k2,k3⟩:=h.bY (hu n _ hn);rw[k1] at J;simp only[v6,bM.rw.injEq] at J;obtain ⟨rfl,rfl⟩:=J;have ar:=ar rfl;cases blk' with
 |none =>
  simp only at k3 ar;subst k3;simp only[al];exact ⟨none,0,by simpa using ar,by simp,by simp[maxLen],by simp,by simp⟩
 |some bc =>
  obtain ⟨b,cap⟩:=bc;simp only at ar;obtain ⟨cs',pre,rest,k4,k5,k6,k7,k8,k9,k10,k11⟩:=k3;simp only[al];refine ⟨some ⟨b,0,none⟩,cap,ar,k9,k10,.inr ⟨b,0,pre,rfl,?_,aM.fR hw.c6 es pre hcl k7⟩,k2⟩;have hp:pre.length=es.length*sz:=by rw[aM.length _ _ k7,I.iv _ k2]
  have:=n1 (D:=D') (c1:=[]) k5 (by simpa using k6) (fun o ho=>hw.bY n T sz es b cap hn k1 o (by simp at ho;omega));simpa using this
theorem Cr{w:World}{D D':aP}{E E':aY}{f:I→Option I}(hf:∀ x y cs,al w D E x cs→f x=some y→al w D' E' y cs):∀ (xs ys:List I) (cs:List Value),aM w D E xs cs→fT f xs=some ys→aM w D' E' ys cs
 | [],ys,cs,hr,h=>by simp only[fT,v6] at h;subst h;simpa only[aM] using hr
 |x::xs,ys,cs,hr,h=>by
  simp only[fT] at h;split at h
  ·rename_i y ys' J U;simp only[v6] at h;subst h;simp only[aM] at *;obtain ⟨c1,c2,e,k1,k2⟩:=hr;exact ⟨c1,c2,e,hf x y c1 k1 J,Cr hf xs ys' c2 k2 U⟩
  ·cases h
theorem s8{w:World}{D D':aP}{E E':aY}{f:I→Option I}(hf:∀ x y cs,al w D E x cs→f x=some y→al w D' E' y cs)(hp:∀ x y,f x=some y→y.isAgg=x.isAgg):∀ (xs ys:List I) (vs:List Value),aF w D E xs vs→fT f xs=some ys→aF w D' E' ys vs
 | [],ys,cs,hr,h=>by simp only[fT,v6] at h;subst h;simpa only[aF] using hr
 |x::xs,ys,cs,hr,h=>by
  simp only[fT] at h;split at h
  ·rename_i y ys' J U;simp only[v6] at h;subst h;simp only[aF] at *;obtain ⟨v,rest,c1,e,k1,k2,k3⟩:=hr;refine ⟨v,rest,c1,e,?_,hf x y c1 k2 J,s8 hf hp xs ys' rest k3 U⟩;unfold bA at *;rw[hp x y J];exact k1
  ·cases h
theorem vA{A0:ai} : ∀ {k:Nat} {x y:I},cY A0 k x=some y→y.isAgg=x.isAgg
 |0,_,_,h=>by simp[cY] at h
 |k+1,x,y,h=>by
  simp only[cY] at h;split at h
  ·simp only[v6] at h;rw[h]
  ·cases x <;>simp only[] at h <;>first
    |(cases h;done)
    |(split at h <;>first | (simp only[t7] at h;obtain ⟨z,_,rfl⟩:=h;rfl) | (simp only[v6] at h;subst h;rfl);done)
    |(simp only[t7] at h;obtain ⟨z,_,rfl⟩:=h;rfl)
    |((repeat' split at h) <;>first | (cases h;done) | (simp only[v6] at h;subst h;rfl) | (simp only[t7] at h;obtain ⟨z,_,rfl⟩:=h;rfl))
theorem vB(h:aU c A a w D E){A0:ai}(hu:er A0 A){D':aP}{E':aY}(hw:h2 true A0 D E D'):∀ (k:Nat) (x y:I) (cs:List Value),al w D E x cs→cY A0 k x=some y→al w D' E' y cs
 |0,_,_,_,_,hf=>by simp[cY] at hf
 |k+1,x,y,cs,hr,hf=>by
  have ih:=vB h hu (E':=E') hw k;simp only[cY] at hf;split at hf
  ·rename_i hcl;simp only[v6] at hf;subst hf;exact al.fR hw.c6 x cs hcl hr
  ·rename_i hcl;cases x <;>simp only[] at hf <;>try (cases hf;done)
   case agg fs =>
    simp only[t7] at hf;obtain ⟨ys,hy,rfl⟩:=hf;simp only[al] at *;exact Cr ih fs ys cs hr hy
   case func f caps =>
    split at hf
    case isFalse =>
     simp only[v6] at hf;subst hf;simp only[al] at *;obtain ⟨vs,J,U⟩:=hr;exact ⟨_,J,A2 f vs⟩
    simp only[t7] at hf;obtain ⟨ys,hy,rfl⟩:=hf;simp only[al] at *;obtain ⟨vs,J,U⟩:=hr;exact ⟨vs,J,s8 ih (fun x y hxy=>vA hxy) caps ys vs U hy⟩
   case ptr n p =>
    split at hf
    case h_2=>cases hf
    rename_i z hz;simp only[t7] at hf;obtain ⟨y',hy,rfl⟩:=hf;obtain ⟨b,off,c2,k1,k2,k3⟩:=h.Ey hu hw hz hr;simp only[al];exact ⟨b,off,c2,k1,k2,ih z y' c2 k3 hy⟩
   case view n p sz lo l =>
    split at hf
    case h_2=>cases hf
    rename_i fs hx;split at hf
    case isFalse=>cases hf
    rename_i hc;simp only[v6] at hf;subst hf;exact h.iR hu hw hx hr hc
   case mref n =>
    split at hf
    case h_2=>cases hf
    rename_i ks vs hn;split at hf
    case isFalse=>cases hf
    rename_i hc;simp only[t7] at hf;obtain ⟨ys,hy,rfl⟩:=hf;simp only[al] at hr ⊢;obtain ⟨b,J,U⟩:=hr;obtain ⟨b',es,ck,k1,k2,k3,k4,k5,k6,k7⟩:=h.map (hu n _ hn);rw[k1] at J;cases J;exact ⟨b,es,ck,U,⟨k3,hw.map rfl n ks vs b hn k1,k4⟩,aF.fR hw.c6 ks _ hc k5,s8 ih (fun x y hxy=>vA hxy) vs ys _ k6 hy⟩
   case own n l =>
    split at hf
    case h_2=>cases hf
    rename_i T sz es hn;split at hf
    case isFalse=>cases hf
    rename_i hk;simp only[v6] at hf;subst hf;exact h.EO hu hw hn hk.2 hk.1 hr
mutual
theorem AU(h:aU c A a w D E){aN:Bool}{A0:ai}(hu:er A0 A){D':aP}{E':aY}(hw:h2 aN A0 D E D'):∀ (x y:I) (cs:List Value),al w D E x cs→bh aN A0 x=some y→al w D' E' y cs
 | .ptr n p,y,cs,hr,hf=>by
  simp only[bh] at hf;split at hf
  case isFalse=>cases hf
  rename_i hbx;subst hbx;split at hf
  case h_2=>cases hf
  rename_i x hx;obtain ⟨b,off,c2,k1,k2,k3⟩:=h.Ey hu hw hx hr;split at hf
  ·rename_i hcl;simp only[v6] at hf;subst hf;simp only[al];exact ⟨b,off,c2,k1,k2,al.fR hw.c6 x c2 hcl k3⟩
  ·simp only[t7] at hf;obtain ⟨y',hy,rfl⟩:=hf;simp only[al];exact ⟨b,off,c2,k1,k2,vB h hu hw 9 x y' c2 k3 hy⟩
 | .mref n,y,cs,hr,hf=>by
  simp only[bh] at hf;split at hf
  case isFalse=>cases hf
  rename_i hbx;subst hbx;split at hf
  case h_2=>cases hf
  rename_i ks vs hn;split at hf
  case isFalse=>cases hf
  rename_i hc;simp only[t7] at hf;obtain ⟨ys,hy,rfl⟩:=hf;simp only[al] at hr ⊢;obtain ⟨b,J,U⟩:=hr;obtain ⟨b',es,ck,k1,k2,k3,k4,k5,k6,k7⟩:=h.map (hu n _ hn);rw[k1] at J;cases J;exact ⟨b,es,ck,U,⟨k3,hw.map rfl n ks vs b hn k1,k4⟩,aF.fR hw.c6 ks _ hc k5,s8 (vB h hu hw 9) (fun x y hxy=>vA hxy) vs ys _ k6 hy⟩
 | .dk _,_,_,_,hf=>by simp[bh] at hf
 | .df ks vs,y,cs,hr,hf=>by
  simp only[bh] at hf;split at hf
  ·rename_i hc;simp only[v6] at hf;subst hf;exact al.fR hw.c6 _ cs (by simpa[I.bw] using hc) hr
  ·cases hf
 | .own n k,y,cs,hr,hf=>by
  simp only[bh] at hf;split at hf
  case h_2=>cases hf
  rename_i T sz es hn;split at hf
  case isFalse=>cases hf
  rename_i hk;simp only[v6] at hf;subst hf;exact h.EO hu hw hn hk.2 hk.1 hr
 | .view n p sz lo k,y,cs,hr,hf=>by
  simp only[bh] at hf;split at hf
  case isFalse=>cases hf
  rename_i hbx;subst hbx;split at hf
  case h_2=>cases hf
  rename_i fs hx;split at hf
  case isFalse=>cases hf
  rename_i hcl;simp only[v6] at hf;subst hf;exact h.iR hu hw hx hr hcl
 | .nils sz,y,cs,hr,hf=>by
  simp only[bh,v6] at hf;subst hf;simp only[al] at *;exact ⟨none,0,by simpa using hr,by simp,by simp[maxLen],by simp,by simp⟩
 | .c0 sz,y,cs,hr,hf=>by
  simp only[bh,v6] at hf;subst hf;simp only[al] at *;obtain ⟨ad,hr⟩:=hr;exact ⟨ad,0,by simpa using hr,by simp,by simp[maxLen],by simp,by simp⟩
 | .func f caps,y,cs,hr,hf=>by
  simp only[bh] at hf;split at hf
  case isFalse =>
   simp only[v6] at hf;subst hf;simp only[al] at *;obtain ⟨vs,J,U⟩:=hr;exact ⟨_,J,A2 f vs⟩
  simp only[t7] at hf;obtain ⟨ys,hy,rfl⟩:=hf;simp only[al] at *;obtain ⟨vs,J,U⟩:=hr;exact ⟨vs,J,lM h hu hw caps ys vs U hy⟩
 | .agg fs,y,cs,hr,hf=>by
  simp only[bh,t7] at hf;obtain ⟨ys,hy,rfl⟩:=hf;simp only[al] at *;exact AV h hu hw fs ys cs hr hy
 | .tuple _,_,_,_,hf=>by simp[bh] at hf
 | .undef,_,_,_,hf=>by simp[bh] at hf
 | .du,_,_,_,hf=>by simp[bh] at hf
 | .bool b,y,cs,hr,hf=>by simp only[bh,v6] at hf;subst hf;simpa only[al] using hr
 | .int k n,y,cs,hr,hf=>by simp only[bh,v6] at hf;subst hf;simpa only[al] using hr
 | .bQ s,y,cs,hr,hf=>by simp only[bh,v6] at hf;subst hf;simpa only[al] using hr
 | .nilp,y,cs,hr,hf=>by simp only[bh,v6] at hf;subst hf;simpa only[al] using hr
 | .dA,y,cs,hr,hf=>by simp only[bh,v6] at hf;subst hf;simpa only[al] using hr
 | .dY,y,cs,hr,hf | .any,y,cs,hr,hf=>by simp only[bh,v6] at hf;subst hf;simpa only[al] using hr
 | .raw _,y,cs,hr,hf=>by simp only[bh,v6] at hf;subst hf;simpa only[al] using hr
 | .slice sz es,y,cs,hr,hf=>by
  simp only[bh] at hf;split at hf
  ·rename_i hc;simp only[v6] at hf;subst hf;exact al.fR hw.c6 _ cs (by simpa[I.bw] using hc) hr
  ·cases hf
 | .ref x,y,cs,hr,hf=>by
  simp only[bh] at hf;split at hf
  ·rename_i hc;simp only[v6] at hf;subst hf;exact al.fR hw.c6 _ cs (by simpa[I.bw] using hc) hr
  ·cases hf
 | .iface t v,y,cs,hr,hf=>by
  simp only[bh] at hf;split at hf
  ·rename_i hc;simp only[v6] at hf;subst hf;exact al.fR hw.c6 _ cs (by simpa[I.bw] using hc) hr
  ·cases hf
theorem AV(h:aU c A a w D E){aN:Bool}{A0:ai}(hu:er A0 A){D':aP}{E':aY}(hw:h2 aN A0 D E D'):∀ (xs ys:List I) (cs:List Value),aM w D E xs cs→b6 aN A0 xs=some ys→aM w D' E' ys cs
 | [],ys,cs,hr,hf=>by simp only[b6,v6] at hf;subst hf;simpa only[aM] using hr
 |x::xs,ys,cs,hr,hf=>by
  simp only[b6] at hf;split at hf
  ·rename_i y ys' J U;simp only[v6] at hf;subst hf;simp only[aM] at *;obtain ⟨c1,c2,e,k1,k2⟩:=hr;exact ⟨c1,c2,e,AU h hu hw x y c1 k1 J,AV h hu hw xs ys' c2 k2 U⟩
  ·cases hf
theorem lM(h:aU c A a w D E){aN:Bool}{A0:ai}(hu:er A0 A){D':aP}{E':aY}(hw:h2 aN A0 D E D'):∀ (xs ys:List I) (vs:List Value),aF w D E xs vs→b6 aN A0 xs=some ys→aF w D' E' ys vs
 | [],ys,cs,hr,hf=>by simp only[b6,v6] at hf;subst hf;simpa only[aF] using hr
 |x::xs,ys,cs,hr,hf=>by
  simp only[b6] at hf;split at hf
  ·rename_i y ys' J U;simp only[v6] at hf;subst hf;simp only[aF] at *;obtain ⟨v,rest,c1,e,k1,k2,k3⟩:=hr;refine ⟨v,rest,c1,e,?_,AU h hu hw x y c1 k2 J,lM h hu hw xs ys' rest k3 U⟩;have:y.isAgg=x.isAgg:=by
    cases x <;>simp only[bh] at J <;>first
     |(simp at J;done)
     |(simp only[v6] at J;subst J;rfl)
     |(simp only[t7] at J;obtain ⟨z,_,rfl⟩:=J;rfl)
     |((repeat' split at J) <;>first | (simp at J;done) | (simp only[v6] at J;subst J;rfl) | (simp only[t7] at J;obtain ⟨z,_,rfl⟩:=J;rfl))
   unfold bA at *;rw[this];exact k1
  ·cases hf
end
end
def fS(P:Program)(t:TypeId):Option (Option Nat):=match P.underlying t with
 |some (.struct _) | some (.array _ _)=>some (some (P.cellsOf t))
 |some _=>some none
 |none=>none
def xM(P:Program):Nat→TypeId→Option I
 |0,_=>none
 |d+1,t=>match P.underlying t with
  |some .bool=>some (.bool false)
  |some (.int k)=>some (.int k 0)
  |some .string=>some (.bQ ByteArray.empty)
  |some (.pointer _)=>some .nilp
  |some (.slice e)=>some (.nils (P.cellsOf e))
  |some (.func _ _ _)=>some .dA
  |some (.interface _)=>some .dY
  |some (.map _ _)=>some (.raw (.map none))
  |some (.struct fs)=>(fs.toList.mapM fun f=>xM P d f.type).map .agg
  |some (.array n e)=>(xM P d e).map fun z=>.agg (List.replicate n z)
  |_=>none
def kL:I→Value→Bool
 | .bool b,.bool b'=>b==b'
 | .int k n,.int k' n'=>k==k'&&n==n'&&decide (k.min≤n∧n≤k.max)
 | .bQ s,.string t=>s.size==0&&t.size==0
 | .nilp,.pointer none=>true
 | .nils _,.slice none 0 0=>true
 | .dA,.nilFunc=>true
 | .dY,.nilIface=>true
 | .raw (.map none),.map none=>true
 |_,_=>false
mutual
def mj:I→List Value→Option (List Value)
 | .agg fs,cs=>rU fs cs
 | .bool b,v::cs=>if kL (.bool b) v then some cs else none
 | .int k n,v::cs=>if kL (.int k n) v then some cs else none
 | .bQ s,v::cs=>if kL (.bQ s) v then some cs else none
 | .nilp,v::cs=>if kL .nilp v then some cs else none
 | .nils z,v::cs=>if kL (.nils z) v then some cs else none
 | .dA,v::cs=>if kL .dA v then some cs else none
 | .dY,v::cs=>if kL .dY v then some cs else none
 | .raw u,v::cs=>if kL (.raw u) v then some cs else none
 |_,_=>none
def rU:List I→List Value→Option (List Value)
 | [],cs=>some cs
 |x::xs,cs=>match mj x cs with
  |some r=>rU xs r
  |none=>none
end
theorem ByteArray.Ml{s t:ByteArray}(ab:s.size=0)(ht:t.size=0):s=t:=by
 cases s with | mk a=>cases t with | mk b =>
 have ha:a = #[]:=Array.eq_empty_of_size_eq_zero ab;have hb:b = #[]:=Array.eq_empty_of_size_eq_zero ht;rw[ha,hb]
theorem JS{x:I}{v:Value}(h:kL x v=true)(w:World)(D:aP)(E:aY):al w D E x [v]:=by
 unfold kL at h;split at h
 case h_9=>cases h
 case h_1=>simp only[beq_iff_eq] at h;subst h;simp[al]
 case h_2 =>
  simp only[t8,beq_iff_eq,decide_eq_true_eq] at h;obtain ⟨⟨rfl,rfl⟩,h⟩:=h;simp only[al,true_and];exact h
 case h_3 =>
  simp only[t8,beq_iff_eq] at h;have e:=ByteArray.Ml h.1 h.2;subst e;simp only[al,true_and];rw[h.1];exact zx1 _
 all_goals simp[al,Value.oneCell']
mutual
theorem FB:∀ (x:I) (cs r:List Value),mj x cs=some r→∃ c1,cs=c1++r∧∀ w D E,al w D E x c1
 | .agg fs,cs,r,h=>by
  simp only[mj] at h;obtain ⟨c1,J,U⟩:=FC fs cs r h;exact ⟨c1,J,fun w D E=>by simp only[al];exact U w D E⟩
 | .bool b,v::cs,r,h | .int k n,v::cs,r,h | .bQ s,v::cs,r,h | .nilp,v::cs,r,h | .nils z,v::cs,r,h | .dA,v::cs,r,h | .dY,v::cs,r,h | .raw u,v::cs,r,h=>by
  simp only[mj] at h;split at h
  ·rename_i bC;simp only[v6] at h;subst h;exact ⟨[v],rfl,fun w D E=>JS bC w D E⟩
  ·cases h
 | .bool b,[],r,h | .int k n,[],r,h | .bQ s,[],r,h | .nilp,[],r,h | .nils z,[],r,h | .dA,[],r,h | .dY,[],r,h | .raw _,[],r,h=>by simp[mj] at h
 | .any,_,_,h | .undef,_,_,h | .du,_,_,h | .c0 _,_,_,h | .slice _ _,_,_,h | .tuple _,_,_,h | .ref _,_,_,h | .func _ _,_,_,h | .iface _ _,_,_,h | .ptr _ _,_,_,h | .own _ _,_,_,h | .view _ _ _ _ _,_,_,h | .mref _,_,_,h | .dk _,_,_,h | .df _ _,_,_,h=>by simp[mj] at h
theorem FC:∀ (xs:List I) (cs r:List Value),rU xs cs=some r→∃ c1,cs=c1++r∧∀ w D E,aM w D E xs c1
 | [],cs,r,h=>by
  simp only[rU,v6] at h;exact ⟨[],by simp[h],fun w D E=>by simp[aM]⟩
 |x::xs,cs,r,h=>by
  simp only[rU] at h;split at h
  ·rename_i r' hx;obtain ⟨c1,J,U⟩:=FB x cs r' hx;obtain ⟨c2,ah,ar⟩:=FC xs r' r h;exact ⟨c1++c2,by rw[J,ah,Y5],fun w D E=>by simp only[aM];exact ⟨c1,c2,rfl,U w D E,ar w D E⟩⟩
  ·cases h
end
def gm(P:Program)(t:TypeId):Option I :=
 match (P.info? t).bind (·.zero),xM P 12 t with
 |some z,some x=>match mj x z.cells.toList with
  |some []=>some x
  |_=>none
 |_,_=>none
theorem lz{P:Program}{t:TypeId}{x:I}(h:gm P t=some x):∃ i z,P.info? t=some i∧i.zero=some z∧∀ w D E,al w D E x z.cells.toList:=by
 unfold gm at h;split at h
 ·rename_i z x' hz hx;split at h
  ·rename_i hk;simp only[v6] at h;subst h;obtain ⟨i,hi,hz'⟩:=zy6.1 hz;obtain ⟨c1,J,U⟩:=FB _ _ _ hk;rw[List.append_nil] at J;exact ⟨i,z,hi,hz',fun w D E=>by rw[J];exact U w D E⟩
  ·cases h
 ·cases h
def kY:Nat→List I→List (Nat×Nat)
 |_,[]=>[]
 |k,x::xs=>(k,x.size)::kY (k+x.size) xs
theorem C4:∀ (xs:List I) (k i:Nat),(kY k xs)[i]?=(xs[i]?).map fun x=>(k+I.sizes (xs.take i),x.size)
 | [],k,i=>by simp[kY]
 |x::xs,k,0=>by simp[kY,I.sizes]
 |x::xs,k,i+1=>by
  simp only[kY,List.getElem?_cons_succ,C4 xs,zz9,I.sizes];cases xs[i]? <;>simp;omega
def e8 (P : Program) (f : FuncId) : Bool := Nat.blt f 1000000 && (P.funcs[f]?).any fun fn => fn.name != "runtime.NumGoroutine" && fn.body.isSome
def kI(P:Program)(ps:List (Nat×Operand)):Option (List (Nat×aO)):=ps.mapM fun p=>(br P 0 p.2).map fun x=>(p.1,x)
def iC(P:Program):Option Operand→Option (Option aO)
 |none=>some none
 |some x=>(br P 0 x).map some
def j9(P:Program):List Operand→List TypeId→Option (List aO)
 | [],_=>some []
 |x::xs,ts=>match br P (ts.headD 0) x,j9 P xs ts.tail with
  |some y,some ys=>some (y::ys)
  |_,_=>none
def pC(P:Program):Nat→List Field→Bool
 |_,[]=>true
 |k,f::fs=>f.offset==k&&pC P (k+P.cellsOf f.type) fs
def gF(P:Program):Nat→TypeId→Option cE
 |0,_=>none
 |d+1,t=>match P.underlying t with
  |some (.int k)=>some (.i k)
  |some .bool=>some .b
  |some .string=>some .s
  | some (.struct fs) => if P.stoodInHeld t = false ∧ (fs.toList.all fun f => f.name != "_") = true ∧ pC P 0 fs.toList = true then
    (fs.toList.mapM fun (f:Field)=>match gF P d f.type with
     |some ty=>if ty.size=P.cellsOf f.type then some ty else none
     |none=>none).map .a8 else none
  |some (.array n e)=>match gF P d e with
   |some ty=>if ty.size=P.cellsOf e∧(P.info? e).isSome=true then some (.p6 n ty) else none
   |none=>none
  |_=>none
def qC:Option TypeDesc→Bool
 |some (.int _)=>true
 |_=>false
def v7:cE→Bool
 | .i _=>true
 |_=>false
def jQ(P:Program)(t:TypeId):Option cE:=match P.underlying t with
 |some (.int k)=>some (.i k)
 |some (.struct fs)=>match gF P 12 t with
  |some (.a8 l)=>if l.all v7=true∧(fs.all fun f=>qC (P.underlying f.type))=true then some (.a8 l) else none
  |_=>none
 |_=>none
def ug(P:Program)(t:TypeId)(z:I):Bool:=match (P.info? t).bind (·.zero) with
 |some (.agg _)=>z.isAgg
 |some _ => !z.isAgg
 |none=>false
def xv:Operand→Operand→Bool
 | .tmp a,.tmp b=>a==b
 |_,_=>false
theorem Yi{x y:Operand}(h:xv x y=true):y=x:=by
 unfold xv at h;split at h
 ·simp only[beq_iff_eq] at h;rw[h]
 ·cases h
def db(P:Program)(o:Oper):Option bT :=
 match o.op with
 | .move x | .assign x=>(br P o.type x).map .mv
 | .pick c a b=>match br P 0 c,br P o.type a,br P o.type b with
  |some c,some a,some b=>some (.pick c a b)
  |_,_,_=>none
 | .binOp op t x y _=>match P.underlying t,br P 0 x,br P 0 y with
  |some (.int _),some x,some y | some .string,some x,some y=>some (.bin op x y)
  |some (.slice _),some x,some y=>match y with
   | .c (.nils _)=>if op=.eql∨op=.neq then some (.nilS (op==.neq) x) else none
   |_=>none
  |some (.pointer _),some x,some y=>if op=.eql∨op=.neq then some (.ptrE (op==.neq) x y) else none
  |some _,some x,some y=>if (op=.eql∨op=.neq)∧P.eqGuardType P.depth t=false then (gF P 12 t).map fun ty=>.eqv ty (op==.neq) x y else none
  |_,_,_=>none
 | .unOp op _ x=>(br P 0 x).map (.un op)
 | .nilCheck x=>(br P 0 x).map .nilC
 | .makeMap _ none=>some .iJ
 | .lookup t m k ok=>match P.underlying t,br P 0 m,br P 0 k with
  |some (.map kt et),some m,some k=>match jQ P kt,gm P et with
   |some ty,some z=>if ug P et z=true then some (.lk ty z ok m k) else none
   |_,_=>none
  |_,_,_=>none
 | .mapUpdate t m k v | .insert t m k v=>match P.underlying t,br P 0 m,br P 0 k with
  |some (.map kt et),some m,some k=>match jQ P kt,br P et v with
   |some ty,some v=>some (.eV ty m k v)
   |_,_=>none
  |_,_,_=>none
 | .makeSlice t l l'=>match P.underlying t,br P 0 l with
  |some (.slice e),some n=>match gm P e with
   |some z=>if xv l l'=true∧z.size=1∧P.cellsOf e=1 then some (.ki e (P.bytesOf e) z n) else none
   |none=>none
  |_,_=>none
 | .range t x=>match P.underlying t with
  |some (.map _ _)=>(br P 0 x).map .jz
  |_=>none
 | .next x false=>(br P 0 x).map .ig
 | .entry x=>(br P 0 x).map .ent
 | .convert nc dst x=>match P.underlying nc,P.underlying dst,br P 0 x with
  |some (.int _),some (.int k),some x=>some (.conv k x)
  |_,_,_=>none
 | .load t x=>match fS P t,br P 0 x with
  |some s,some x=>some (.ld s x)
  |_,_=>none
 | .fieldAddr t x f=>match P.underlying t,br P 0 x with
  |some (.struct fs),some x=>match fs[f]? with
   |some fd=>if P.cellsOf fd.type=0 then none else some (.fa f fd.offset x)
   |none=>none
  |_,_=>none
 | .field t x f=>match P.underlying t,br P 0 x with
  |some (.struct fs),some x=>match fs[f]? with
   |some fd=>(fS P fd.type).map fun s=>.fl f fd.offset s x
   |none=>none
  |_,_=>none
 | .indexAddr t x i=>match P.underlying t,br P 0 x,br P 0 i with
  |some (.array n e),some x,some i=>if (P.info? e).isSome then some (.ia n (P.cellsOf e) x i) else none
  |some (.slice e),some x,some i=>if (P.info? e).isSome then some (.is (P.cellsOf e) x i) else none
  |_,_,_=>none
 | .index t x i=>match P.underlying t,br P 0 x,br P 0 i with
  |some (.array n e),some x,some i=>(fS P e).map fun s=>.ix n (P.cellsOf e) s x i
  |_,_,_=>none
 | .slice t x lo hi mx=>match P.underlying t,br P 0 x with
  |some (.array n e),some x=>match lo,hi,mx with
   |none,none,none=>if (P.info? e).isSome then some (.va n (P.cellsOf e) x) else none
   |_,_,_=>none
  |some (.slice e),some x=>match iC P lo,iC P hi,iC P mx with
   |some lo,some hi,some mx=>if (mx.isSome=true→hi.isSome=true)∧(P.info? e).isSome=true then some (.sl (P.cellsOf e) x lo hi mx) else none
   |_,_,_=>none
  |_,_=>none
 | .build t parts=>match gm P t,kI P parts.toList with
  |some (.agg zs),some ps=>match P.underlying t with
   |some (.struct fs)=>if (fs.toList.map fun f=>(f.offset,P.cellsOf f.type))=kY 0 zs∧(fs.all fun f=>(P.info? f.type).isSome)=true then some (.bld zs ps) else none
   |some (.array n e)=>if zs.length=n∧(zs.all fun z=>z.size==P.cellsOf e)=true∧(P.info? e).isSome=true then some (.bld zs ps) else none
   |_=>none
  |_,_=>none
 | .buildSlice t len parts=>match P.underlying t with
  |some (.slice e)=>match kI P parts.toList with
   |some ps=>if len=0∧parts = #[]∧(P.info? e).isSome=true then some (.bs0 (P.cellsOf e)) else if ps.map (·.1)=List.range len∧0<P.cellsOf e∧0<len∧len*P.cellsOf e≤16777216∧((P.info? e).bind (·.zero)).isSome=true then some (.bs e (P.cellsOf e) (ps.map (·.2))) else none
   |none=>none
  |_=>none
 | .extract x i=>(br P 0 x).map fun x=>.ext x i
 | .makeFunc (.func f) first caps=>if f<1000000 then (if first.isEmpty then (j9 P caps.toList []).map (.mk f) else if caps.isEmpty then (j9 P first.toList []).map (.mk (f+1000000)) else none) else none
 | .alloc t=>(gm P t).map .alloc
 | .box t x=>(br P t x).map .box
 | .store t x v=>match fS P t,br P 0 x,br P t v with
  |some s,some x,some v=>if s.isSome=true∨P.cellsOf t=1 then some (.a8 s x v) else none
  |_,_,_=>none
 | .call { callee:=.value (.func f),args,argTypes } =>if e8 P f then (j9 P args.toList argTypes.toList).map (.call f) else (j9 P args.toList argTypes.toList).map (.j7 f)
 | .call { callee:=.value x,args,argTypes } =>match br P 0 x,j9 P args.toList argTypes.toList with
  |some x,some args=>some (.fQ x args)
  |_,_=>none
 | .call { callee:=.builtin .len,args,argTypes } =>match args.toList,argTypes.toList with
  | [x],[t]=>match P.underlying t with
   |some (.slice _)=>(br P t x).map .len
   |some .string=>(br P t x).map .lenT
   |_=>none
  |_,_=>none
 | .call { callee:=.builtin .append,args,argTypes } =>match args.toList,argTypes.toList with
  | [s,x],[t,t']=>match P.underlying t,br P t s,br P t' x with
   |some (.slice e),some s,some x=>if t=t'∧0<P.cellsOf e∧(gm P e).map I.size=some (P.cellsOf e) then (gm P e).map fun z=>.dy e (P.cellsOf e) (P.bytesOf e) z s x else
    if qC (P.underlying t')=true∧0<P.cellsOf e∧(gm P e).map I.size=some (P.cellsOf e) then (gm P e).map fun z=>.lD e (P.cellsOf e) (P.bytesOf e) z s x else none
   |_,_,_=>none
  |_,_=>none
 | .call { callee:=.builtin .cap,args,argTypes } =>match args.toList,argTypes.toList with
  | [x],[t]=>match P.underlying t with
   |some (.slice _)=>(br P t x).map .cap
   |_=>none
  |_,_=>none
 | .call { callee:=.builtin .clear,args,argTypes } =>match args.toList,argTypes.toList with
  | [x],[t]=>match P.underlying t,br P t x with
   |some (.slice e),some x=>(gm P e).map fun z=>.jM (P.cellsOf e) z x
   |_,_=>none
  |_,_=>none
 | .call { callee:=.builtin .copy,args,argTypes } =>match args.toList,argTypes.toList with
  | [x,y],[t,t']=>match P.underlying t,br P t x,br P t' y with
   |some (.slice e),some x,some y=>if t=t'∧(P.info? e).isSome=true then some (.kN (P.cellsOf e) x y) else none
   |_,_,_=>none
  |_,_=>none
 | .call { callee:=.builtin .delete,args,argTypes } =>match args.toList,argTypes.toList with
  | [m,k],[t,_]=>match P.underlying t,br P 0 m,br P 0 k with
   |some (.map kt _),some m,some k=>(jQ P kt).map fun ty=>.iI ty m k
   |_,_,_=>none
  |_,_=>none
 | .call { callee:=.builtin .max,args,.. } =>match args.toList with
  | [x,y]=>match br P 0 x,br P 0 y with
   |some x,some y=>some (.max2 x y)
   |_,_=>none
  |_=>none
 |_=>none
def dI(c:cV)(A:ai)(o:Oper)(x:I):Prop :=
 ∀ a w D E,aU c A a w D E→∃ v w' D',(execOp a.eval o).run c.P w=.ok (.value v) w'∧aU c A a w' D' E∧aZ w' D' E x v
section
variable {c:cV} {A:ai} {o:Oper} {x:I}
theorem dI.same(h:∀ a w D E,aU c A a w D E→∃ v,(execOp a.eval o).run c.P w=.ok (.value v) w∧aZ w D E x v):dI c A o x :=
 fun a w D E ab=>let ⟨v,J,U⟩:=h a w D E ab;⟨v,w,D,J,ab,U⟩
theorem BI{y:Operand}{z:aO}(ho:o.op=.move y∨o.op=.assign y)(hz:br c.P o.type y=some z):dI c A o (ak A z) :=
 .same fun a w D E ab=>⟨a.eval y,by rcases ho with ho | ho <;>simp[execOp,ho],bV ab hz⟩
theorem U9{q y z:Operand}{q' y' z':aO}{t:Bool}(ho:o.op=.pick q y z)(hq:br c.P 0 q=some q')(hy:br c.P o.type y=some y')(hz:br c.P o.type z=some z')
  (ht:ak A q'=.bool t):dI c A o (if t then ak A y' else ak A z') :=
 .same fun a w D E ab=>by
  have J:=bV ab hq;rw[ht] at J;have U:=kq J;refine ⟨if t then a.eval y else a.eval z,by cases t <;>simp[execOp,ho,U,asBool],?_⟩;cases t
  ·exact bV ab hz
  ·exact bV ab hy
theorem xn{P:Program}{w:World}(op:BinOp)(t:TypeId)(x y:Operand){u v:Value}(hu:u.oneCell'=true)(hn:u≠.nilIface):(eqGuard op t x y u v).run P w=.ok () w:=by
 cases op <;>cases u <;>simp[Value.oneCell'] at hu <;>first | (exact absurd rfl hn) | (cases v <;>simp[eqGuard])
theorem GL{op:BinOp}{x y z:I}(h:cB op x y=some z){P:Program}{t:TypeId}{w:World}{D:aP}{E:aY}{u v:Value}(hx:aZ w D E x u)(hy:aZ w D E y v)(xo yo:Operand) :
  ∃ r,(do eqGuard op t xo yo u v;binOp op t u v:Sem Value).run P w=.ok r w∧aZ w D E z r:=by
 unfold cB at h;split at h
 ·rename_i k a k' b;obtain ⟨rfl,ha⟩:=eW hx;obtain ⟨rfl,hb⟩:=eW hy;have hg:∀ op,(eqGuard op t xo yo (.int k a) (.int k' b)).run P w=.ok () w:=fun op=>xn op t xo yo rfl (by simp);simp only[Sem.run_bind,hg,Result.andThen_ok];split at h
  ·split at h
   ·rename_i hb0;simp only[v6] at h;subst h;have:¬ b<0:=by omega
    exact ⟨_,by simp[binOp,Op.shift,this],jS (pS _ _)⟩
   ·cases h
  ·split at h
   ·rename_i hb0;simp only[v6] at h;subst h;have:¬ b<0:=by omega
    exact ⟨_,by simp[binOp,Op.shift,this],jS (MG _ _ _ ha)⟩
   ·cases h
  ·rename_i op J U;split at h
   ·rename_i hk;subst hk;split at h <;>first
     |(simp at h;done)
     |(simp only[v6] at h;subst h;exact ⟨_,by simp[binOp,Op.intArith,Op.intBits,Op.intCmp],jS (pS _ _)⟩)
     |(simp only[v6] at h;subst h;exact ⟨_,by simp[binOp,Op.intCmp],nP _⟩)
     |(split at h
       ·cases h
       ·rename_i hb0;simp only[v6] at h;subst h
        first
         |exact ⟨_,by simp[binOp,Op.intDiv,hb0],jS (pS _ _)⟩
         |exact ⟨_,by simp[binOp,Op.intDiv,hb0],jS (YK _ _ _ ha)⟩)
   ·cases h
 ·rename_i s s';obtain ⟨rfl,hs1⟩:=mY hx;obtain ⟨rfl,hs2⟩:=mY hy;have hg:∀ op,(eqGuard op t xo yo (.string s) (.string s')).run P w=.ok () w:=fun op=>xn op t xo yo rfl (by simp);simp only[Sem.run_bind,hg,Result.andThen_ok];split at h <;>first
   |(simp at h;done)
   |(simp only[v6] at h;subst h;exact ⟨_,by simp[binOp,Op.stringOp],nP _⟩)
   |(split at h
     ·rename_i ao;simp only[v6] at h;subst h;have hl':¬ (((s.size+s'.size:Nat):Int)>IntKind.i64.max):=by
       have e:IntKind.i64.max=9223372036854775807:=by simp[IntKind.max,IntKind.bits,IntKind.signed]
       rw[e];omega
      refine ⟨.string (s++s'),by simp only[binOp,Op.stringOp,if_neg hl',Sem.run_pure],?_⟩;exact ⟨_,by simp[bA,I.isAgg];rfl,by simp only[al,true_and];rw[ByteArray.size_append];unfold maxLen;omega⟩
     ·cases h)
 ·cases h
theorem BG{op:BinOp}{t yt:TypeId}{y z:Operand}{y' z':aO}(ho:o.op=.binOp op t y z yt)(hy:br c.P 0 y=some y')(hz:br c.P 0 z=some z')(h:cB op (ak A y') (ak A z')=some x):dI c A o x :=
 .same fun a w D E ab=>by
  obtain ⟨r,J,U⟩:=GL h (P:=c.P) (t:=t) (bV ab hy) (bV ab hz) y z;exact ⟨r,by simp only[execOp,ho,Sem.run_bind] at *;rw[J];rfl,U⟩
theorem U8{t:TypeId}{y:Operand}{y':aO}{b:Bool}(ho:o.op=.unOp .not t y)(hy:br c.P 0 y=some y')(h:ak A y'=.bool b):dI c A o (.bool !b) :=
 .same fun a w D E ab=>by
  have J:=bV ab hy;rw[h] at J;exact ⟨.bool !b,by simp[execOp,ho,kq J,Op.unary],nP _⟩
theorem U7{t:TypeId}{y:Operand}{y':aO}{k:IntKind}{n:Int}(ho:o.op=.unOp .neg t y)(hy:br c.P 0 y=some y')(h:ak A y'=.int k n):dI c A o (.int k (k.wrap (0-n))) :=
 .same fun a w D E ab=>by
  have J:=bV ab hy;rw[h] at J;exact ⟨.int k (k.wrap (0-n)),by simp[execOp,ho,(eW J).1,Op.unary,Op.intArith],jS (pS _ _)⟩
theorem UO{t:TypeId}{y:Operand}{y':aO}{k:IntKind}{n:Int}(ho:o.op=.unOp .xor t y)(hy:br c.P 0 y=some y')(h:ak A y'=.int k n):dI c A o (.int k (oS k n)) :=
 .same fun a w D E ab=>by
  have J:=bV ab hy;rw[h] at J;exact ⟨.int k (oS k n),by simp[execOp,ho,(eW J).1,Op.unary,Op.intBits,oS],jS (pS _ _)⟩
theorem UN{nc dst:TypeId}{y:Operand}{y':aO}{k k0 k1:IntKind}{n:Int}(ho:o.op=.convert nc dst y)(J:c.P.underlying nc=some (.int k0))(U:c.P.underlying dst=some (.int k))
  (hy:br c.P 0 y=some y') (h:ak A y'=.int k1 n):dI c A o (.int k (k.wrap n)) :=
 .same fun a w D E ab=>by
  have ah:=bV ab hy;rw[h] at ah;exact ⟨.int k (k.wrap n),by simp[execOp,ho,(eW ah).1,convert,run_underlying J,run_underlying U,Conv.intToInt],jS (pS _ _)⟩
theorem UR{y:Operand}{y':aO}{i:Nat}{fs:List I}(ho:o.op=.extract y i)(hy:br c.P 0 y=some y')(h:ak A y'=.tuple fs)(hi:fs[i]?=some x):dI c A o x :=
 .same fun a w D E ab=>by
  have ah:=bV ab hy;rw[h] at ah;obtain ⟨vs,ar,h5⟩:=ah;have:∀ (fs:List I) (vs:List Value) (i:Nat),aF w D E fs vs→fs[i]?=some x→∃ v,vs[i]?=some v∧aZ w D E x v:=by
   intro fs
   induction fs with
   |nil=>intro vs i _ hi;simp at hi
   |cons f fs ih =>
    intro vs i hr hi;simp only[aF] at hr;obtain ⟨v,rest,cs,rfl,k1,k2,k3⟩:=hr;cases i with
    |zero =>
     simp only[List.getElem?_cons_zero,v6] at hi ⊢;subst hi;refine ⟨v,rfl,?_⟩;cases f <;>simp only[aZ] <;>first | (simp only[al] at k2;done) | exact ⟨cs,k1,k2⟩
    |succ i=>simpa using ih rest i k3 (by simpa using hi)
  obtain ⟨v,h6,h7⟩:=this fs vs i h5 hi;exact ⟨v,by simp[execOp,ho,ar,Instr.extract,h6],h7⟩
theorem ju{w:World}{D:aP}{E:aY}{x:I}{v:Value}{cs:List Value}(J:bA x v cs)(U:al w D E x cs):aZ w D E x v:=by
 cases x <;>simp only[aZ] <;>first | (simp only[al] at U;done) | exact ⟨cs,J,U⟩
theorem EX{P:Program}{w:World}{t:TypeId}{s:Option Nat}(h:fS P t=some s):(isAgg t).run P w=.ok s.isSome w:=by
 unfold fS at h;unfold isAgg;cases hu:P.underlying t with
 |none=>simp[hu] at h
 |some d =>
  rw[Sem.run_bind,run_underlying hu w];cases d <;>simp_all <;>(subst h;rfl)
theorem wi{P:Program}{t:TypeId}{n:Nat}(h:fS P t=some (some n)):n=P.cellsOf t:=by
 unfold fS at h;split at h <;>simp_all
theorem vZ{P:Program}{t:TypeId}{d:TypeDesc}(h:P.underlying t=some d):∃ i,P.info? t=some i:=by
 unfold Program.underlying at h;cases hi:P.info? t with
 |none=>simp[hi] at h
 |some i=>exact ⟨i,rfl⟩
theorem iP{P:Program}{w:World}{t:TypeId}{i:TypeInfo}(h:P.info? t=some i):(sizeOf t).run P w=.ok (P.cellsOf t) w:=by
 simp[sizeOf,typeInfo,h,Program.cellsOf]
theorem sV{P:Program}{t:TypeId}{s:Option Nat}(h:fS P t=some s):∃ i,P.info? t=some i:=by
 unfold fS at h;split at h
 ·rename_i fs hu;exact vZ hu
 ·rename_i n e hu;exact vZ hu
 ·rename_i d _ _ hu;exact vZ hu
 ·cases h
theorem mq(b off j:Nat):(⟨b,off,none⟩:Addr).add j=⟨b,off+j,none⟩:=by unfold Addr.add;split <;>simp_all
theorem EY{P:Program}{w:World}{D:aP}{E:aY}{t:TypeId}{s:Option Nat}{b off:Nat}{cs:List Value}{y:I}(hk:fS P t=some s)(hok:b7 s y=true)
  (hcs:∀ j u,cs[j]?=some u→w.cell? ⟨b,off+j,none⟩=some u) (hy:al w D E y cs):∃ v,(loadVar t ⟨b,off,none⟩).run P w=.ok v w∧aZ w D E y v:=by
 have hag:=EX (w:=w) hk;cases s with
 |none =>
  simp only[b7,Bool.not_eq_true'] at hok;have ao:=al.length _ _ hy;have hsz:y.size=1:=by cases y <;>simp_all[I.isAgg,I.size]
  rw[hsz] at ao
  match cs,ao with
  | [v],_ =>
   have:=hcs 0 v rfl;rw[Nat.add_zero] at this;refine ⟨v,?_,CA hok hy⟩;simp only[loadVar,Sem.run_bind,hag,Result.andThen_ok,Option.isSome_none,Z2,if_false,run_load,this]
 |some n =>
  simp only[b7,t8,beq_iff_eq] at hok;obtain ⟨hag',hsz⟩:=hok;have hn:=wi hk;obtain ⟨i,hi⟩:=sV hk;have ao:=al.length _ _ hy;refine ⟨.agg cs.toArray,?_,ju (by simp[bA,hag']) hy⟩;have hlc:=run_loadCells_list (P:=P) w ⟨b,off,none⟩ cs (fun j u hj=>by rw[mq];exact hcs j u hj);rw[ao,hsz,hn] at hlc;simp only[loadVar,Sem.run_bind,hag,Result.andThen_ok,Option.isSome_some,if_true,iP hi,hlc,Sem.run_pure]
theorem U2{t:TypeId}{y:Operand}{y':aO}{s:Option Nat}(ho:o.op=.load t y)(hk:fS c.P t=some s)(hy:br c.P 0 y=some y')(h:cK A (ak A y')=some x)(hok:b7 s x=true):dI c A o x :=
 .same fun a w D E ab=>by
  obtain ⟨b,off,cs,J,U,ah⟩:=ab.yr (bV ab hy) h;obtain ⟨v,ar,h5⟩:=EY hk hok U ah;exact ⟨v,by simp[execOp,ho,Instr.loadAt,J,Instr.sureAddr,ar],h5⟩
theorem tF{w:World}{D:aP}{b off:Nat}{c1 c2 c3:List Value}(h:reads w D b off (c1++c2++c3)):reads w D b (off+c1.length) c2:=by
 intro j v hj;have hjl:j<c2.length:=(Z5.1 hj).1;have:=h (c1.length+j) v (by rw[Y5,zy4 (by omega),Nat.add_sub_cancel_left,Y8 (by omega)];exact hj)
 rwa [←Nat.add_assoc] at this
theorem cP.tk:∀ (p:List Nat) (s:cP) (o i:Nat) (l:List cP),s.off p=some o→s.part p=some (.eG l)→i<l.length→s.off (p++[i])=some (o+cP.sizes (l.take i))
 | [],s,o,i,l,J,U,ah=>by
  simp only[cP.part,v6] at U;subst U;simp only[cP.off,v6] at J;subst J;simp[cP.off,Y7 ah]
 |k::p,.one,o,i,l,J,U,ah=>by simp[cP.part] at U
 |k::p,.eG m,o,i,l,J,U,ah=>by
  simp only[cP.off,cP.part,Z9] at *;cases hk:m[k]? with
  |none=>simp[hk] at U
  |some s =>
   simp only[hk] at J U ⊢;simp only[t7] at J;obtain ⟨o',ar,rfl⟩:=J;rw[cP.tk p s o' i l ar U ah];simp[Nat.add_assoc]
theorem oq{esz:Nat} : ∀ (fs:List I) (k:Nat),(∀ f∈fs,f.size=esz)→k≤fs.length→I.sizes (fs.take k)=k*esz:=by
 intro fs k h hk;rw[I.iv _ (fun x hx=>h x (List.mem_of_mem_take hx))];simp[Nat.min_eq_left hk]
theorem qg{n esz:Nat}{fs:List I}(h:ja n esz fs=true):fs.length=n∧∀ f∈fs,f.size=esz:=by
 simp only[ja,t8,beq_iff_eq,zz4] at h;exact h
theorem EV{P:Program}{w:World}{t:TypeId}{f b off:Nat}{fs:Array Field}{fd:Field}(hu:P.underlying t=some (.struct fs))(hf:fs[f]?=some fd)(hz:¬ P.cellsOf fd.type=0) :
  (Instr.fieldAt t (.pointer (some ⟨b,off,none⟩)) f).run P w=.ok (.pointer (some ⟨b,off+fd.offset,none⟩)) w:=by
 have hi:∃ i,P.info? fd.type=some i:=by
  cases h:P.info? fd.type with
  |none=>simp[Program.cellsOf,h] at hz
  |some i=>exact ⟨i,rfl⟩
 obtain ⟨i,hi⟩:=hi;simp only[Instr.fieldAt,Sem.run_bind,run_underlying hu,Result.andThen_ok,hf,Instr.sureAddr,Sem.run_pure,fieldPlace,iP hi,Sem.run_ite,if_neg hz,mq]
theorem UT{t:TypeId}{y:Operand}{y':aO}{f:Nat}{fs:Array Field}{fd:Field}{gs:List I}(ho:o.op=.fieldAddr t y f)(hu:c.P.underlying t=some (.struct fs))(hf:fs[f]?=some fd)(hz:¬ c.P.cellsOf fd.type=0)
  (hy:br c.P 0 y=some y') (h:ak A y'=.ref (.agg gs)) (hx:gs[f]?=some x) (hoff:I.sizes (gs.take f)=fd.offset):dI c A o (.ref x) :=
 .same fun a w D E ab=>by
  have J:=bV ab hy;rw[h] at J;obtain ⟨b,off,cs,U,ah,ar⟩:=pM J;simp only[al] at ar;obtain ⟨c1,c2,c3,rfl,k1,_,k2,_⟩:=l3 gs cs f x ar hx;refine ⟨_,by simp only[execOp,ho,U,Sem.run_bind,EV hu hf hz];rfl,tc (cs:=c2) ?_ k2⟩;rw[←hoff,←k1];exact tF ah
theorem US{t:TypeId}{y:Operand}{y':aO}{f n:Nat}{p:List Nat}{fs:Array Field}{fd:Field}{gs:List I}(ho:o.op=.fieldAddr t y f)(hu:c.P.underlying t=some (.struct fs))(hf:fs[f]?=some fd)(hz:¬ c.P.cellsOf fd.type=0)
  (hy:br c.P 0 y=some y') (h:ak A y'=.ptr n p) (af:cK A (.ptr n p)=some (.agg gs)) (ao:f<gs.length) (hoff:I.sizes (gs.take f)=fd.offset):dI c A o (.ptr n (p++[f])) :=
 .same fun a w D E ab=>by
  have J:=bV ab hy;rw[h] at J;obtain ⟨b,aX,off,U,ah,ar⟩:=lj J;obtain ⟨z,b',cs,T,off',c1,c2,c3,k1,k2,_,k3,k4,k5,k6,k7,k8,k9,_⟩:=ab.at af;rw[k2] at U;simp only[v6,bM.aN.injEq] at U;obtain ⟨rfl,rfl⟩:=U;refine ⟨_,by simp only[execOp,ho,ar,Sem.run_bind,EV hu hf hz];rfl,?_⟩;refine ⟨_,by simp[bA,I.isAgg];rfl,?_⟩;simp only[al];refine ⟨b',z.aX,off+fd.offset,k2,?_,rfl⟩;rw[cP.tk p z.aX off f _ ah (mf p z _ k4) (by rw[I.dw];simpa using ao),I.dw,←List.map_take,←I.dw,I.mg,hoff]
theorem EW{P:Program}{w:World}{t e:TypeId}{n b off:Nat}{kk:IntKind}{k:Int}{i:TypeInfo}(hu:P.underlying t=some (.array n e))(hi:P.info? e=some i)(hk:0≤k∧k<n) :
  (Instr.indexAt t (.pointer (some ⟨b,off,none⟩)) (.int kk k)).run P w=.ok (.pointer (some ⟨b,off+k.toNat*P.cellsOf e,none⟩)) w:=by
 simp[Instr.indexAt,asIntOf,run_underlying hu,Instr.sureAddr,hk,iP hi,mq]
theorem xp{P:Program}{w:World}{t e:TypeId}{n b off cap:Nat}{kk:IntKind}{k:Int}{i:TypeInfo}(hu:P.underlying t=some (.slice e))(hi:P.info? e=some i)(hk:0≤k∧k<n) :
  (Instr.indexAt t (.slice (some ⟨b,off,none⟩) n cap) (.int kk k)).run P w=.ok (.pointer (some ⟨b,off+k.toNat*P.cellsOf e,none⟩)) w:=by
 simp[Instr.indexAt,asIntOf,run_underlying hu,hk,iP hi,mq]
theorem UX{t e:TypeId}{y z:Operand}{y' z':aO}{n:Nat}{i:TypeInfo}{gs:List I}{kk:IntKind}{k:Int}(ho:o.op=.indexAddr t y z)(hu:c.P.underlying t=some (.array n e))(hi:c.P.info? e=some i)
  (hy:br c.P 0 y=some y') (hz:br c.P 0 z=some z') (h:ak A y'=.ref (.agg gs)) (h':ak A z'=.int kk k) (hk:0≤k∧k<n) (hev:ja n (c.P.cellsOf e) gs=true) (hx:gs[k.toNat]?=some x):dI c A o (.ref x) :=
 .same fun a w D E ab=>by
  have J:=bV ab hy;rw[h] at J;have h1':=bV ab hz;rw[h'] at h1';obtain ⟨b,off,cs,U,ah,ar⟩:=pM J;simp only[al] at ar;obtain ⟨c1,c2,c3,rfl,k1,_,k2,_⟩:=l3 gs cs k.toNat x ar hx;obtain ⟨e1,e2⟩:=qg hev;have ao:k.toNat<gs.length:=(Z5.1 hx).1;refine ⟨_,by simp only[execOp,ho,U,(eW h1').1,Sem.run_bind,EW hu hi hk];rfl,tc (cs:=c2) ?_ k2⟩;rw[←oq gs k.toNat e2 (by omega),←k1];exact tF ah
theorem UW{t e:TypeId}{y z:Operand}{y' z':aO}{n m:Nat}{p:List Nat}{i:TypeInfo}{gs:List I}{kk:IntKind}{k:Int}(ho:o.op=.indexAddr t y z)(hu:c.P.underlying t=some (.array n e))(hi:c.P.info? e=some i)
  (hy:br c.P 0 y=some y') (hz:br c.P 0 z=some z') (h:ak A y'=.ptr m p) (h':ak A z'=.int kk k) (hk:0≤k∧k<n) (af:cK A (.ptr m p)=some (.agg gs)) (hev:ja n (c.P.cellsOf e) gs=true):dI c A o (.ptr m (p++[k.toNat])) :=
 .same fun a w D E ab=>by
  have J:=bV ab hy;rw[h] at J;have h1':=bV ab hz;rw[h'] at h1';obtain ⟨b,aX,off,U,ah,ar⟩:=lj J;obtain ⟨zz,b',cs,T,off',c1,c2,c3,k1,k2,_,k3,k4,k5,k6,k7,k8,k9,_⟩:=ab.at af;rw[k2] at U;simp only[v6,bM.aN.injEq] at U;obtain ⟨rfl,rfl⟩:=U;obtain ⟨e1,e2⟩:=qg hev;have ao:k.toNat<gs.length:=by omega
  refine ⟨_,by simp only[execOp,ho,ar,(eW h1').1,Sem.run_bind,EW hu hi hk];rfl,?_⟩;refine ⟨_,by simp[bA,I.isAgg];rfl,?_⟩;simp only[al];refine ⟨b',zz.aX,off+k.toNat*c.P.cellsOf e,k2,?_,rfl⟩;rw[cP.tk p zz.aX off k.toNat _ ah (mf p zz _ k4) (by rw[I.dw];simpa using ao),I.dw,←List.map_take,←I.dw,I.mg,oq gs _ e2 (by omega)]
theorem Az{w:World}{D:aP}{E:aY}{b off sz k:Nat}{cs:List Value}{es:List I}{x:I}(J:reads w D b off cs)(U:aM w D E es cs)(ah:∀ e∈es,e.size=sz)(hx:es[k]?=some x) :
  ∃ c2,reads w D b (off+k*sz) c2∧al w D E x c2:=by
 obtain ⟨c1,c2,c3,rfl,k1,_,k2,_⟩:=l3 es cs k x U hx;have ao:k<es.length:=(Z5.1 hx).1;refine ⟨c2,?_,k2⟩;rw[←oq es k ah (by omega),←k1];exact tF J
theorem UY{t e:TypeId}{y z:Operand}{y' z':aO}{i:TypeInfo}{es:List I}{kk:IntKind}{k:Int}(ho:o.op=.indexAddr t y z)(hu:c.P.underlying t=some (.slice e))(hi:c.P.info? e=some i)
  (hy:br c.P 0 y=some y') (hz:br c.P 0 z=some z') (h:ak A y'=.slice (c.P.cellsOf e) es) (h':ak A z'=.int kk k) (hk:0≤k∧k<es.length) (hx:es[k.toNat]?=some x):dI c A o (.ref x) :=
 .same fun a w D E ab=>by
  have J:=bV ab hy;rw[h] at J;have h1':=bV ab hz;rw[h'] at h1';obtain ⟨ad,cap,rfl',U,ah,ar,h5⟩:=mX J;rcases ar with ar | ⟨b,off,cs,rfl,h6,h7⟩
  ·subst ar;simp at hx
  obtain ⟨c2,k1,k2⟩:=Az h6 h7 h5 hx;exact ⟨_,by simp only[execOp,ho,rfl',(eW h1').1,Sem.run_bind,xp hu hi hk];rfl,tc k1 k2⟩
theorem aU.Yn{a:Act}{w:World}{D:aP}{E:aY}(h:aU c A a w D E){n sz b cap:Nat}{T:TypeId}{es:List I}(hn:A.o n=some (.bY T sz es))(ay:E n=some (.rw (some (b,cap)) es.length)) :
  aU c A a w (fun b' o=>D b' o∨(b'=b∧o<es.length*sz)) E:=by
 have hrow:=h.bY hn;obtain ⟨aG,k1,k2,k3⟩:=hrow;rw[ay] at k1;simp only[v6,bM.rw.injEq,and_true] at k1;subst k1;obtain ⟨cs,pre,rest,k4,k5,k6,k7,k8,k9,k10,k11⟩:=k3;refine h.Fy (fun _ _ af=>.inl af) ?_ ?_ ?_ ?_ ?_ ?_
 ·rintro b' o (af | ⟨rfl,_⟩) hlt
  ·exact h.c6 _ _ af hlt
  ·exact absurd k4 hlt
 ·rintro b' o (af | ⟨rfl,_⟩)
  ·exact h.aQ _ _ af
  ·exact fM k5
 ·rintro m x b' hm hEm o (af | ⟨rfl,_⟩)
  ·obtain ⟨b2,cs2,r8,q1,q2,q3,q4,q5⟩:=h.box hm;rw[q1] at hEm;simp only[v6,bM.aN.injEq,and_true] at hEm;subst hEm;exact q5 o af
  ·have:=h.cN m n _ _ b' hEm ay rfl rfl;subst this;rw[hm] at hn;cases hn
 ·rintro m T' sz' es' b' cap' hm hEm o (af | ⟨rfl,ho⟩)
  ·obtain ⟨aG,q1,q2,q3⟩:=h.bY hm;rw[hEm] at q1;simp only[v6,bM.rw.injEq,and_true] at q1;subst q1;obtain ⟨cs',pre',rest',q4,q5,q6,q7,q8,q9,q10,q11⟩:=q3;have:=q11 o af
   rwa [aM.length _ _ q7,I.iv _ q2] at this
  ·have:=h.cN m n _ _ b' hEm ay rfl rfl;subst this;rw[hm] at hn;simp only[v6,aq.bY.injEq] at hn;obtain ⟨rfl,rfl,rfl⟩:=hn;exact ho
 ·rintro m T' xs b' cap' hm hEm o (af | ⟨rfl,ho⟩)
  ·obtain ⟨aG,q1,_,q3⟩:=h.rO hm;rw[hEm] at q1;simp only[v6,bM.rw.injEq,and_true] at q1;subst q1;obtain ⟨_,_,_,_,_,_,_,_,q4⟩:=q3;exact q4 o af
  ·have:=h.cN m n _ _ b' hEm ay rfl rfl;subst this;rw[hm] at hn;cases hn
 ·rintro m e' b' hE' hoth hblk o (af | ⟨rfl,_⟩)
  ·exact h.wU hE' hoth hblk o af
  ·have:=h.cN m n _ _ b' hE' ay hblk rfl;subst this;rw[hE'] at ay;cases ay;cases hoth
theorem aU.own{a:Act}{w:World}{D:aP}{E:aY}(h:aU c A a w D E){n sz:Nat}{T:TypeId}{es:List I}{v:Value}(hn:A.o n=some (.bY T sz es))(hv:aZ w D E (.own n es.length) v) :
  (es=[]∧E n=some (.rw none 0)∧v=.slice none 0 0) ∨
  ∃ b cap cs pre rest,E n=some (.rw (some (b,cap)) es.length)∧v=.slice (some ⟨b,0,none⟩) es.length cap∧c.e6 b∧w.heap[b]?=some (.cells cs T (0,0))∧cs.toList=pre++rest ∧
   aM w D E es pre∧cs.size=cap*sz∧es.length≤cap∧cap≤maxLen∧(∀ o,D b o→o<pre.length):=by
 obtain ⟨cs0,J,U⟩:=hv;simp only[al] at U;obtain ⟨aG,l,ah,ar,_,h5⟩:=U;obtain ⟨blk',k1,k2,k3⟩:=h.bY hn;rw[k1] at ah;simp only[v6,bM.rw.injEq] at ah;obtain ⟨rfl,rfl⟩:=ah;have h5:=h5 rfl;cases blk' with
 |none =>
  simp only at k3 h5;subst k3;exact .inl ⟨rfl,k1,by simpa[bA,I.isAgg,h5] using J.symm⟩
 |some bc =>
  obtain ⟨b,cap⟩:=bc;simp only at h5;obtain ⟨cs,pre,rest,k4,k5,k6,k7,k8,k9,k10,k11⟩:=k3;exact .inr ⟨b,cap,cs,pre,rest,k1,by simpa[bA,I.isAgg,h5] using J.symm,k4,k5,k6,k7,k8,k9,k10,k11⟩
theorem UZ{t e:TypeId}{y z:Operand}{y' z':aO}{i:TypeInfo}{es:List I}{n:Nat}{kk:IntKind}{k:Int}(ho:o.op=.indexAddr t y z)(hu:c.P.underlying t=some (.slice e))(hi:c.P.info? e=some i)
  (hy:br c.P 0 y=some y') (hz:br c.P 0 z=some z') (h:ak A y'=.own n es.length) {T:TypeId} (hn:A.o n=some (.bY T (c.P.cellsOf e) es)) (h':ak A z'=.int kk k) (hk:0≤k∧k<es.length) (hx:es[k.toNat]?=some x):dI c A o (.ref x):=by
 intro a w D E ab;have J:=bV ab hy;rw[h] at J;have h1':=bV ab hz;rw[h'] at h1';rcases ab.own hn J with ⟨rfl,_⟩ | ⟨b,cap,cs,pre,rest,k1,k2,k3,k4,k5,k6,k7,k8,k9,k10⟩
 ·simp at hx
 ·have hs':=ab.Yn hn k1;obtain ⟨aG,q1,q2,_⟩:=ab.bY hn;have hpl:pre.length=es.length*c.P.cellsOf e:=by rw[aM.length _ _ k6,I.iv _ q2]
  have hr:reads w (fun b' o=>D b' o∨(b'=b∧o<es.length*c.P.cellsOf e)) b 0 pre:=by
   have:=n1 (D:=fun b' o=>D b' o∨(b'=b∧o<es.length*c.P.cellsOf e)) (c1:=[]) k4 (by simpa using k5) (fun o ho=>.inr ⟨rfl,by simp at ho;omega⟩);simpa using this
  have hrc:aM w (fun b' o=>D b' o∨(b'=b∧o<es.length*c.P.cellsOf e)) E es pre :=
   aM.later ⟨fun _ _ af=>.inl af,fun _ _ _ _ h=>h,fun _ _ _ h=>h,fun _ aG l h=>⟨aG,l,h,Z3 _,fun _=>rfl⟩,fun _ _ h=>h,fun _ _ h=>h,fun _ _ _ _ h=>h⟩ es pre k6
  obtain ⟨c2,q3,q4⟩:=Az hr hrc q2 hx;exact ⟨_,w,_,by simp only[execOp,ho,k2,(eW h1').1,Sem.run_bind,xp hu hi hk];rfl,hs',tc q3 q4⟩
end
section
variable {c:cV} {A:ai} {o:Oper} {x:I}
theorem oi{P:Program}{w:World}{D:aP}{E:aY}{t:TypeId}{s:Option Nat}{c1 c2 c3:List Value}{y:I}(hk:fS P t=some s)(hok:b7 s y=true)(hy:al w D E y c2) :
  ∃ v,(part t (c1++c2++c3).toArray c1.length).run P w=.ok v w∧aZ w D E y v:=by
 have hag:=EX (w:=w) hk;have ao:=al.length _ _ hy;cases s with
 |none =>
  simp only[b7,Bool.not_eq_true'] at hok;have hsz:y.size=1:=by cases y <;>simp_all[I.isAgg,I.size]
  rw[hsz] at ao
  match c2,ao with
  | [v],_ =>
   refine ⟨v,?_,CA hok hy⟩;simp[part,hag]
 |some n =>
  simp only[b7,t8,beq_iff_eq] at hok;obtain ⟨hag',hsz⟩:=hok;have hn:=wi hk;obtain ⟨i,hi⟩:=sV hk;refine ⟨.agg c2.toArray,?_,ju (by simp[bA,hag']) hy⟩;have e:((c1++c2++c3).toArray.extract c1.length (c1.length+P.cellsOf t))=c2.toArray:=by
   have:P.cellsOf t=c2.length:=by rw[ao,hsz,hn]
   rw[this];simp
  simp only[part,Sem.run_bind,hag,Result.andThen_ok,Option.isSome_some,if_true,iP hi,e,Sem.run_pure]
theorem UU{t:TypeId}{y:Operand}{y':aO}{f:Nat}{s:Option Nat}{fs:Array Field}{fd:Field}{gs:List I}(ho:o.op=.field t y f)(hu:c.P.underlying t=some (.struct fs))(hf:fs[f]?=some fd)(hk:fS c.P fd.type=some s)
  (hy:br c.P 0 y=some y') (h:ak A y'=.agg gs) (hx:gs[f]?=some x) (hoff:I.sizes (gs.take f)=fd.offset) (hok:b7 s x=true):dI c A o x :=
 .same fun a w D E ab=>by
  have J:=bV ab hy;rw[h] at J;obtain ⟨cs,U,ar⟩:=jg J;obtain ⟨c1,c2,c3,rfl,k1,_,k2,_⟩:=l3 gs cs f x ar hx;obtain ⟨v,k3,k4⟩:=oi (c1:=c1) (c3:=c3) hk hok k2;rw[k1,hoff] at k3;exact ⟨v,by simp only[execOp,ho,U,Instr.field,Sem.run_bind,run_underlying hu,Result.andThen_ok,hf,asAgg,Sem.run_pure,k3],k4⟩
theorem U1{t e:TypeId}{y z:Operand}{y' z':aO}{n:Nat}{s:Option Nat}{gs:List I}{kk:IntKind}{k:Int}(ho:o.op=.index t y z)(hu:c.P.underlying t=some (.array n e))(hk:fS c.P e=some s)
  (hy:br c.P 0 y=some y') (hz:br c.P 0 z=some z') (h:ak A y'=.agg gs) (h':ak A z'=.int kk k) (hb:0≤k∧k<n) (hev:ja n (c.P.cellsOf e) gs=true) (hx:gs[k.toNat]?=some x) (hok:b7 s x=true):dI c A o x :=
 .same fun a w D E ab=>by
  have J:=bV ab hy;rw[h] at J;have h1':=bV ab hz;rw[h'] at h1';obtain ⟨cs,U,ar⟩:=jg J;obtain ⟨c1,c2,c3,rfl,k1,_,k2,_⟩:=l3 gs cs k.toNat x ar hx;obtain ⟨v,k3,k4⟩:=oi (c1:=c1) (c3:=c3) hk hok k2;obtain ⟨e1,e2⟩:=qg hev;obtain ⟨i,hi⟩:=sV hk;have ao:k.toNat<gs.length:=(Z5.1 hx).1;rw[k1,oq gs k.toNat e2 (by omega)] at k3;exact ⟨v,by simp only[execOp,ho,U,(eW h1').1,Instr.index,Sem.run_bind,asIntOf,run_underlying hu,Result.andThen_ok,Sem.run_ite,if_pos hb,iP hi,Sem.run_pure,k3],k4⟩
theorem wq{n:Nat}(h:n≤maxLen):IntKind.i64.min≤(n:Int)∧(n:Int)≤IntKind.i64.max:=by
 simp only[IntKind.min,IntKind.max,IntKind.bits,IntKind.signed];unfold maxLen at h;simp;omega
theorem o5{ty:TypeId}{y:Operand}{y':aO}{n:Nat}{d:TypeDesc}(ho:o.op=.call { callee:=.builtin .len,args := #[y],argTypes := #[ty] })(hu:c.P.underlying ty=some d)(af:(∃ e,d=.slice e)∨d=.string)
  (hy:br c.P ty y=some y') (h:∀ a w D E,aU c A a w D E→∀ v,aZ w D E (ak A y') v→n≤maxLen∧((∃ e,d=.slice e)→∃ ad cap,v=.slice ad n cap)∧(d=.string→∃ s,v=.string s∧s.size=n)):dI c A o (.int .i64 n) :=
 .same fun a w D E ab=>by
  obtain ⟨aW,J,U⟩:=h a w D E ab _ (bV ab hy);refine ⟨.int .i64 n,?_,jS (wq aW)⟩;rcases af with ⟨e,rfl⟩ | rfl
  ·obtain ⟨ad,cap,hv⟩:=J ⟨e,rfl⟩;simp[execOp,ho,resolve,invoke,builtin,Builtin.len_,run_underlying hu,hv,goInt]
  ·obtain ⟨s,hv,ab⟩:=U rfl;simp[execOp,ho,resolve,invoke,builtin,Builtin.len_,run_underlying hu,hv,goInt,ab]
theorem Vd{t e:TypeId}{y:Operand}{y':aO}{n:Nat}{i:TypeInfo}{gs:List I}(ho:o.op=.slice t y none none none)(hu:c.P.underlying t=some (.array n e))(hi:c.P.info? e=some i)
  (hy:br c.P 0 y=some y') (h:ak A y'=.ref (.agg gs)) (hev:ja n (c.P.cellsOf e) gs=true) (hn:n≤maxLen):dI c A o (.slice (c.P.cellsOf e) gs) :=
 .same fun a w D E ab=>by
  have J:=bV ab hy;rw[h] at J;obtain ⟨b,off,cs,U,ah,ar⟩:=pM J;simp only[al] at ar;obtain ⟨e1,e2⟩:=qg hev;by_cases aW:n=0
  ·exact ⟨.slice (some ⟨b,off,none⟩) 0 0,by simp[execOp,ho,U,Instr.sliceAt,run_underlying hu,Instr.sureAddr,Instr.sliceBounds,iP hi,aW],td (by omega) (by omega) (by simp[maxLen]) (.inl (List.eq_nil_of_length_eq_zero (by omega))) e2⟩
  ·exact ⟨.slice (some ⟨b,off,none⟩) n n,by simp[execOp,ho,U,Instr.sliceAt,run_underlying hu,Instr.sureAddr,Instr.sliceBounds,iP hi,mq],td e1.symm (Z3 _) hn (.inr ⟨b,off,cs,rfl,ah,ar⟩) e2⟩
theorem Vc{t e:TypeId}{y:Operand}{y':aO}{n m:Nat}{p:List Nat}{i:TypeInfo}{gs:List I}(ho:o.op=.slice t y none none none)(hu:c.P.underlying t=some (.array n e))(hi:c.P.info? e=some i)
  (hy:br c.P 0 y=some y') (h:ak A y'=.ptr m p) (af:cK A (.ptr m p)=some (.agg gs)) (hev:ja n (c.P.cellsOf e) gs=true) (hn:n≤maxLen) (hn0:n≠0):dI c A o (.view m p (c.P.cellsOf e) 0 n) :=
 .same fun a w D E ab=>by
  have J:=bV ab hy;rw[h] at J;obtain ⟨b,aX,off,U,ah,ar⟩:=lj J;obtain ⟨zz,b',cs,T,off',c1,c2,c3,k1,k2,_,k3,k4,k5,k6,k7,k8,k9,_⟩:=ab.at af;rw[k2] at U;simp only[v6,bM.aN.injEq] at U;obtain ⟨rfl,rfl⟩:=U;obtain ⟨e1,e2⟩:=qg hev;refine ⟨.slice (some ⟨b',off,none⟩) n n,by simp[execOp,ho,ar,Instr.sliceAt,run_underlying hu,Instr.sureAddr,Instr.sliceBounds,iP hi,mq],?_⟩;refine ⟨_,by simp[bA,I.isAgg];rfl,?_⟩;simp only[al];refine ⟨b',zz.aX,off,I.cX gs,k2,ah,mf p zz _ k4,?_,?_,?_,?_⟩
  ·rw[I.dw,Z8,e1];simp
  ·rw[I.dw,Z8,e1];exact hn
  ·rw[I.dw,Z8,e1];omega
  ·rw[I.dw];intro s hs';obtain ⟨f,hf,rfl⟩:=zz5.1 hs';rw[I.lq];exact e2 f hf
theorem XN{w:World}{D:aP}{E:aY}{b off sz:Nat}{cs:List Value}{es:List I}(J:reads w D b off cs)(U:aM w D E es cs)(ah:∀ e∈es,e.size=sz)(l h:Nat)(ao:l≤h)(bC:h≤es.length) :
  ∃ c2,reads w D b (off+l*sz) c2∧aM w D E ((es.take h).drop l) c2:=by
 have hspl:∀ (xs ys:List I) (cs:List Value),aM w D E (xs++ys) cs→∃ c1 c2,cs=c1++c2∧aM w D E xs c1∧aM w D E ys c2:=by
  intro xs
  induction xs with
  |nil=>intro ys cs hr;exact ⟨[],cs,rfl,by simp[aM],hr⟩
  |cons x xs ih =>
   intro ys cs hr;simp only[Z9,aM] at hr;obtain ⟨d1,d2,rfl,k1,k2⟩:=hr;obtain ⟨e1,e2,rfl,k3,k4⟩:=ih ys d2 k2;exact ⟨d1++e1,e2,by simp,by simp only[aM];exact ⟨d1,e1,rfl,k1,k3⟩,k4⟩
 have e1:es=es.take l++((es.take h).drop l++es.drop h):=by
  rw[←Y5]
  conv=>lhs;rw[←zy8 h es]
  congr 1
  rw[←List.YI l h es ao]
 rw[e1] at U;obtain ⟨c1,c',rfl,k1,k2⟩:=hspl _ _ _ U;obtain ⟨c2,c3,rfl,k3,k4⟩:=hspl _ _ _ k2;refine ⟨c2,?_,k3⟩;rw[←oq es l ah (by omega),←aM.length _ _ k1];rw[←Y5] at J;exact tF J
 where
 List.YI {α:Type} (l h:Nat) (es:List α) (ao:l≤h):es.take h=es.take l++(es.take h).drop l:=by
  conv=>lhs;rw[←zy8 l (es.take h)]
  rw[List.take_take,Nat.min_eq_left ao]
def im(w:World)(D:aP)(E:aY)(x:Option I)(v:Option Value):Prop:=match x,v with
 |none,none=>True
 |some x,some v=>aZ w D E x v
 |_,_=>False
theorem HO{x:I}{d n:Int}(h:jk (some x) d=some n):∃ k,x=.int k n:=by
 cases x <;>simp[jk] at h
 subst h;exact ⟨_,rfl⟩
theorem qZ{w:World}{D:aP}{E:aY}{x:Option I}{v:Option Value}{d n:Int}(h:im w D E x v)(hb:jk x d=some n) :
  (x=none∧v=none∧d=n)∨(x.isSome=true∧∃ k,v=some (.int k n)):=by
 cases x with
 |none =>
  cases v with
  |some _=>simp[im] at h
  |none=>simp only[jk,v6] at hb;exact .inl ⟨rfl,rfl,hb⟩
 |some x =>
  cases v with
  |none=>simp[im] at h
  |some v =>
   obtain ⟨k,rfl⟩:=HO hb;simp only[im] at h;exact .inr ⟨rfl,k,by rw[(eW h).1]⟩
theorem xq{P:Program}{w:World}{D:aP}{E:aY}{t e:TypeId}{i:TypeInfo}{sz:Nat}{es:List I}{lo hi mx:Option I}{vlo vhi vmx:Option Value}{x:I}{ad:Option Addr}{cap:Nat}
  (hu:P.underlying t=some (.slice e)) (hi':P.info? e=some i) (hsz:sz=P.cellsOf e) (hmh:mx.isSome=true→hi.isSome=true)
  (J:im w D E lo vlo) (U:im w D E hi vhi) (ah:im w D E mx vmx) (hx:iR sz es lo hi mx=some x)
  (hcap:es.length≤cap) (hcm:cap≤maxLen) (hes:es=[]∨∃ b off cs,ad=some ⟨b,off,none⟩∧reads w D b off cs∧aM w D E es cs) (hall:∀ e∈es,e.size=sz) :
  ∃ v,(Instr.sliceAt t (.slice ad es.length cap) vlo vhi vmx).run P w=.ok v w∧aZ w D E x v:=by
 unfold iR at hx;split at hx
 ·cases hx
 rename_i h bC;split at hx
 ·cases hx
 rename_i m hm;split at hx
 ·cases hx
 rename_i l ao;split at hx
 case isFalse=>cases hx
 rename_i hb;obtain ⟨b1,b2,b3,b4⟩:=hb;have sb:∀ (k:IntKind) (n:Int) (y:Nat) (code:BoundsCode),0≤n→n≤y→(Instr.sliceBound (.int k n) y code).run P w=.ok n.toNat w:=fun k n y code g1 g2=>by
  simp[Instr.sliceBound,asIntOf,g1,g2]
 -- the bounds that the program finds
 have key:∃ m':Nat,es.length≤cap∧m'≤cap∧h.toNat≤m'∧(mx.isSome=true→m'=m.toNat)∧(mx=none→m'=cap) ∧
   (Instr.sliceBounds true es.length cap vlo vhi vmx).run P w=.ok (l.toNat,h.toNat,m') w:=by
  have c1:=qZ J ao;have c2:=qZ U bC;have c3:=qZ ah hm;clear J U ah;rcases c3 with ⟨rfl,rfl,hm3⟩ | ⟨s3,k3,rfl⟩
  ·refine ⟨cap,hcap,Z3 _,by omega,fun e=>(by cases e),fun _=>rfl,?_⟩;rcases c2 with ⟨rfl,rfl,hm2⟩ | ⟨s2,k2,rfl⟩ <;>rcases c1 with ⟨rfl,rfl,hm1⟩ | ⟨s1,k1,rfl⟩
   ·subst hm1 hm2;simp[Instr.sliceBounds]
   ·subst hm2;simp[Instr.sliceBounds,sb k1 l es.length _ b1 (by omega)]
   ·subst hm1;simp[Instr.sliceBounds,sb k2 h cap _ (by omega) (by omega)]
   ·simp[Instr.sliceBounds,sb k2 h cap _ (by omega) (by omega),sb k1 l h.toNat _ b1 (by omega)]
  ·refine ⟨m.toNat,hcap,by omega,by omega,fun _=>rfl,fun e=>(by rw[e] at s3;cases s3),?_⟩;rcases c2 with ⟨rfl,rfl,hm2⟩ | ⟨s2,k2,rfl⟩
   ·simp[s3] at hmh
   ·rcases c1 with ⟨rfl,rfl,hm1⟩ | ⟨s1,k1,rfl⟩
    ·subst hm1;simp[Instr.sliceBounds,sb k3 m cap _ (by omega) (by omega),sb k2 h m.toNat _ (by omega) (by omega)]
    ·simp[Instr.sliceBounds,sb k3 m cap _ (by omega) (by omega),sb k2 h m.toNat _ (by omega) (by omega),sb k1 l h.toNat _ b1 (by omega)]
 obtain ⟨m',g1,g2,g3,g4,g5,hsb⟩:=key;have hrun:(Instr.sliceAt t (.slice ad es.length cap) vlo vhi vmx).run P w =
   .ok (.slice (if m'=l.toNat then ad else ad.map (·.add (l.toNat*P.cellsOf e))) (h.toNat-l.toNat) (m'-l.toNat)) w:=by
  simp only[Instr.sliceAt,Instr.slice,Sem.run_bind,run_underlying hu,Result.andThen_ok,hsb,iP hi',Sem.run_pure]
 refine ⟨_,hrun,?_⟩;split at hx
 ·rename_i hc;simp only[v6] at hx;subst hx;have e1:m'=l.toNat:=by rw[g4 hc.1,hc.2]
  have e2:h.toNat-l.toNat=0:=by omega
  rw[if_pos e1,e2,e1,Nat.sub_self];exact ⟨_,by simp[bA,I.isAgg];rfl,by simp only[al];exact ⟨ad,rfl⟩⟩
 ·simp only[v6] at hx;subst hx;have hlen:((es.take h.toNat).drop l.toNat).length=h.toNat-l.toNat:=by simp;omega
  refine td hlen.symm (by omega) (by omega) ?_ (fun y hy=>hall y (List.mem_of_mem_take (List.mem_of_mem_drop hy)));by_cases hz:h.toNat=l.toNat
  ·left;exact List.eq_nil_of_length_eq_zero (by omega)
  ·right
   rw[if_neg (by omega)];rcases hes with rfl | ⟨b,off,cs,rfl,q1,q2⟩
   ·simp at b4 g3;omega
   ·obtain ⟨c2,q3,q4⟩:=XN q1 q2 hall l.toNat h.toNat (by omega) (by omega);exact ⟨b,off+l.toNat*sz,c2,by simp[mq,hsz],q3,q4⟩
theorem vX{t e:TypeId}{y:Operand}{y':aO}{lo hi mx:Option Operand}{lo' hi' mx':Option aO}{i:TypeInfo}{es:List I}(ho:o.op=.slice t y lo hi mx)(hu:c.P.underlying t=some (.slice e))(hi0:c.P.info? e=some i)
  (hy:br c.P 0 y=some y') (J:iC c.P lo=some lo') (U:iC c.P hi=some hi') (ah:iC c.P mx=some mx') (hmh:mx'.isSome=true→hi'.isSome=true)
  (h:ak A y'=.slice (c.P.cellsOf e) es∨(ak A y'=.nils (c.P.cellsOf e)∧es=[])∨(ak A y'=.c0 (c.P.cellsOf e)∧es=[])) (hx:iR (c.P.cellsOf e) es (lo'.map (ak A)) (hi'.map (ak A)) (mx'.map (ak A))=some x):dI c A o x :=
 .same fun a w D E ab=>by
  have opt:∀ {q:Option Operand} {q':Option aO},iC c.P q=some q'→im w D E (q'.map (ak A)) (q.map a.eval):=by
   intro q q' hq;cases q with
   |none=>simp only[iC,v6] at hq;subst hq;simp[im]
   |some z =>
    simp only[iC,t7] at hq;obtain ⟨z',hz,rfl⟩:=hq;simpa[im] using bV ab hz
  have aW:=bV ab hy;have hmh':(mx'.map (ak A)).isSome=true→(hi'.map (ak A)).isSome=true:=by simpa using hmh
  rcases h with h | ⟨h,rfl⟩ | ⟨h,rfl⟩
  ·rw[h] at aW;obtain ⟨ad,cap,e1,e2,e3,e4,e5⟩:=mX aW;obtain ⟨v,k1,k2⟩:=xq hu hi0 rfl hmh' (opt J) (opt U) (opt ah) hx e2 e3 e4 e5;exact ⟨v,by simp only[execOp,ho,e1,Sem.run_bind,k1];rfl,k2⟩
  ·rw[h] at aW;obtain ⟨cs,q1,q2⟩:=aW;simp only[al] at q2;have e1:a.eval y=.slice none ([]:List I).length 0:=by simpa[bA,I.isAgg,q2] using q1.symm
   obtain ⟨v,k1,k2⟩:=xq (ad:=none) (cap:=0) hu hi0 rfl hmh' (opt J) (opt U) (opt ah) hx (by simp) (by simp[maxLen]) (.inl rfl) (by simp);exact ⟨v,by simp only[execOp,ho,e1,Sem.run_bind,k1];rfl,k2⟩
  ·rw[h] at aW;obtain ⟨cs,q1,q2⟩:=aW;simp only[al] at q2;obtain ⟨ad,q2⟩:=q2;have e1:a.eval y=.slice ad ([]:List I).length 0:=by simpa[bA,I.isAgg,q2] using q1.symm
   obtain ⟨v,k1,k2⟩:=xq (ad:=ad) (cap:=0) hu hi0 rfl hmh' (opt J) (opt U) (opt ah) hx (by simp) (by simp[maxLen]) (.inl rfl) (by simp);exact ⟨v,by simp only[execOp,ho,e1,Sem.run_bind,k1];rfl,k2⟩
end
inductive fD {α β:Type} (R:α→β→Prop):List α→List β→Prop where
 |nil:fD R [] []
 |cons {x:α} {y:β} {xs:List α} {ys:List β} : R x y→fD R xs ys→fD R (x::xs) (y::ys)
section
variable {c:cV} {A:ai} {o:Oper} {x:I}
theorem XM{w:World}{D:aP}{E:aY}{xs:List I}{cs ds:List Value}{i:Nat}{x y:I}(h:aM w D E xs cs)(hx:xs[i]?=some x)(hy:al w D E y ds)(ab:y.size=x.size) :
  I.sizes (xs.take i)+ds.length≤cs.length∧aM w D E (xs.set i y) (cs.take (I.sizes (xs.take i))++ds++cs.drop (I.sizes (xs.take i)+ds.length)):=by
 obtain ⟨c1,c2,c3,rfl,J,U,ah,ar⟩:=l3 xs cs i x h hx;have hi:i<xs.length:=(Z5.1 hx).1;have ao:ds.length=c2.length:=by rw[al.length _ _ hy,al.length _ _ ah,ab]
 refine ⟨by simp only[Z6,J];omega,?_⟩;have e1:xs.set i y=xs.take i++y::xs.drop (i+1):=by rw[List.set_eq_take_append_cons_drop];simp[hi]
 have e2:(c1++c2++c3).take (I.sizes (xs.take i))++ds++(c1++c2++c3).drop (I.sizes (xs.take i)+ds.length)=c1++(ds++c3):=by
  rw[←J,ao,Y5 c1 c2 c3,List.take_left,List.drop_length_add_append,List.drop_left,Y5]
 rw[e1,e2];refine jZ _ _ _ _ U ?_;simp only[aM];exact ⟨ds,c3,rfl,hy,ar⟩
theorem MX(off:Nat)(l:List Value)(cs:Array Value)(h:off+l.length≤cs.size) :
  ((l.zipIdx 0).foldl (fun cs (x:Value×Nat)=>cs.setIfInBounds (off+x.2) x.1) cs).toList=cs.toList.take off++l++cs.toList.drop (off+l.length):=by
 obtain ⟨J,U⟩:=Great.foldl_set off l 0 cs;apply List.ext_getElem?;intro k;rw[zy2,U k];simp only[Nat.add_zero,Y5];by_cases hk:k<off
 ·rw[if_neg (by omega),Y8 (by simp;omega)];simp[hk]
 ·rw[zy4 (by simp;omega)];simp only[zz8,zz6,Nat.min_eq_left (show off≤cs.size by omega)];by_cases hk2:k<off+l.length
  ·rw[if_pos ⟨by omega,by omega,by omega⟩,Y8 (by omega)]
  ·rw[if_neg (by omega),zy4 (by omega)];simp only[List.getElem?_drop,zy2]
   congr 1
   omega
theorem vy{w:World}{D:aP}{E:aY}(pl:Nat→Option (Nat×Nat)):∀ (ps:List (Nat×I)) (vs:List (Nat×Value)) (zs zs':List I) (cells:Array Value),
  (∀ i z,zs[i]?=some z→pl i=some (I.sizes (zs.take i),z.size))→aM w D E zs cells.toList→dO zs ps=some zs' →
  fD (fun (p:Nat×I) (v:Nat×Value)=>p.1=v.1∧aZ w D E p.2 v.2) ps vs →
  ∃ cells',Instr.fill pl cells vs=some cells'∧aM w D E zs' cells'.toList
 | [],vs,zs,zs',cells,hp,hr,ab,hf=>by
  cases hf;simp only[dO,v6] at ab;subst ab;exact ⟨cells,rfl,hr⟩
 |(i,y)::ps,vs,zs,zs',cells,hp,hr,ab,hf=>by
  cases hf with
  |cons J U =>
   rename_i v vs;obtain ⟨j,u⟩:=v;simp only at J;obtain ⟨rfl,hv⟩:=J;simp only[dO] at ab;split at ab
   ·rename_i z hz;split at ab
    ·rename_i hsz;obtain ⟨hval,hsz⟩:=hsz;obtain ⟨ds,k1,k2⟩:∃ ds,bA y u ds∧al w D E y ds:=by
      cases y <;>simp[I.bU] at hval <;>exact hv
     have hcells:=k1.cells k2;have hds:u.cells.size=z.size:=by rw[←zz6,hcells,al.length _ _ k2,hsz]
     obtain ⟨k3,k4⟩:=XM hr hz k2 hsz;have hcl:cells.toList.length=cells.size:=zz6;have ao:ds.length=u.cells.size:=by rw[←hcells,zz6]
     have hp':∀ k z',(zs.set i y)[k]?=some z'→pl k=some (I.sizes ((zs.set i y).take k),z'.size):=by
      intro k z' hk;have hil:i<zs.length:=(Z5.1 hz).1;have hsizes:∀ k,I.sizes ((zs.set i y).take k)=I.sizes (zs.take k):=by
       intro k;have gen:∀ (zs:List I) (i k:Nat) (z:I),zs[i]?=some z→z.size=y.size→I.sizes ((zs.set i y).take k)=I.sizes (zs.take k):=by
        intro zs
        induction zs with
        |nil=>intro i k z hz _;simp at hz
        |cons q qs ih =>
         intro i k z hz he;cases k with
         |zero=>simp
         |succ k =>
          cases i with
          |zero =>
           simp only[List.getElem?_cons_zero,v6] at hz;subst hz;simp[I.sizes,he]
          |succ i =>
           simp only[List.set_cons_succ,zz9,I.sizes,ih i k z (by simpa using hz) he]
       exact gen zs i k z hz hsz.symm
      rw[hsizes];rw[List.getElem?_set] at hk;split at hk
      ·rename_i hik;subst hik;simp only[v6] at hk;subst hk;rw[hp i z hz,hsz]
      ·exact hp k z' hk
     have hfold:=MX (I.sizes (zs.take i)) u.cells.toList cells (by rw[hcells];omega);rw[hcells] at hfold;obtain ⟨cells',k5,k6⟩:=vy pl ps vs (zs.set i y) zs' ((u.cells.toList.zipIdx 0).foldl (fun cs (x:Value×Nat)=>cs.setIfInBounds (I.sizes (zs.take i)+x.2) x.1) cells) hp'
      (by rw[hcells,hfold];exact k4) ab U
     refine ⟨cells',?_,k6⟩;unfold Instr.fill;simp only[hp i z hz];rw[if_neg (by simp[hds];omega)];rw[←k5]
     congr 1
     rw[←Array.foldl_toList,Array.toList_zipIdx]
    ·cases ab
   ·cases ab
theorem C1{a:Act}{w:World}{D:aP}{E:aY}(ab:aU c A a w D E){P:Program} : ∀ (ps:List (Nat×Operand)) (qs:List (Nat×aO)),kI P ps=some qs →
  fD (fun (p:Nat×I) (v:Nat×Value)=>p.1=v.1∧aZ w D E p.2 v.2) (qs.map fun p=>(p.1,ak A p.2)) (ps.map fun p=>(p.1,a.eval p.2))
 | [],qs,h=>by simp[kI] at h;subst h;exact .nil
 |(i,x)::ps,qs,h=>by
  simp only[kI,List.mapM_cons,Option.bind_eq_bind,Option.pure_def,zy6,t7,v6] at h;obtain ⟨_,⟨y,hy,rfl⟩,qs',hq,rfl⟩:=h;exact .cons ⟨rfl,bV ab hy⟩ (C1 ab ps qs' hq)
theorem BH{t:TypeId}{parts:Array (Nat×Operand)}{ps:List (Nat×aO)}{zs zs':List I}(ho:o.op=.build t parts)(hz:gm c.P t=some (.agg zs))(hp:kI c.P parts.toList=some ps)
  (hpl:(∃ fs,c.P.underlying t=some (.struct fs)∧(fs.toList.map fun f=>(f.offset,c.P.cellsOf f.type))=kY 0 zs∧(fs.all fun f=>(c.P.info? f.type).isSome)=true) ∨
   (∃ n e,c.P.underlying t=some (.array n e)∧zs.length=n∧(zs.all fun z=>z.size==c.P.cellsOf e)=true∧(c.P.info? e).isSome=true))
  (h:dO zs (ps.map fun p=>(p.1,ak A p.2))=some zs'):dI c A o (.agg zs') :=
 .same fun a w D E ab=>by
  obtain ⟨i,z,hi,hzv,hzr⟩:=lz hz;have hzr:=hzr w D E;simp only[al] at hzr;have hparts:=C1 ab parts.toList ps hp;have hmap:(parts.map fun (q:Nat×Operand)=>(q.1,a.eval q.2)).toList=parts.toList.map fun p=>(p.1,a.eval p.2):=by simp
  rcases hpl with ⟨fs,hu,hoffs,hinfo⟩ | ⟨n,e,hu,hn,hev,hinfo⟩
  ·have hpl:∀ i z,zs[i]?=some z→(kY 0 zs)[i]?=some (I.sizes (zs.take i),z.size):=by
    intro i z hiz;rw[C4,hiz];simp
   obtain ⟨cells',k1,k2⟩:=vy ((kY 0 zs)[·]?) _ _ zs zs' z.cells hpl hzr h hparts;have hm:fs.toList.mapM (fun f=>(c.P.info? f.type).map fun i=>(f.offset,i.size))=some (kY 0 zs):=by
    rw[←hoffs];have hall:∀ f∈fs.toList,(c.P.info? f.type).isSome=true:=fun f hf=>by
     have:=(Array.all_eq_true_iff_forall_mem.1 hinfo) f (by simpa using hf);exact this
    revert hall;generalize fs.toList=l;intro hall
    induction l with
    |nil=>rfl
    |cons f l ih =>
     obtain ⟨j,hj⟩:=zz2.1 (hall f (by simp));simp only[List.mapM_cons,Option.bind_eq_bind,hj,Z7,Option.bind_some,ih (fun g hg=>hall g (by simp[hg])),Option.pure_def,Z4,Program.cellsOf,Option.getD_some]
   have hb:c.P.built t (parts.map fun (q:Nat×Operand)=>(q.1,a.eval q.2)).toList=some cells':=by
    unfold Program.built;simp only[hi,hu,hzv,hm];rw[hmap,←k1]
    congr 1
    funext k
    simp
   exact ⟨.agg cells',by simp only[execOp,ho,Sem.run_bind,run_build w t _ _ hb];rfl,by have:=Cz k2;simpa using this⟩
  ·obtain ⟨ie,hie⟩:=zz2.1 hinfo;have hev':∀ z∈zs,z.size=ie.size:=fun z hz=>by
    have:=zz4.1 hev z hz;simpa[Program.cellsOf,hie] using this
   have hpl:∀ i z,zs[i]?=some z→(fun i=>some (i*ie.size,ie.size)) i=some (I.sizes (zs.take i),z.size):=by
    intro i z hiz;have ao:i<zs.length:=(Z5.1 hiz).1;rw[oq zs i hev' (by omega),hev' z (List.mem_of_getElem? hiz)]
   obtain ⟨cells',k1,k2⟩:=vy (fun i=>some (i*ie.size,ie.size)) _ _ zs zs' z.cells hpl hzr h hparts;have hb:c.P.built t (parts.map fun (q:Nat×Operand)=>(q.1,a.eval q.2)).toList=some cells':=by
    unfold Program.built;simp only[hi,hu,hzv,hie];rw[hmap,←k1]
   exact ⟨.agg cells',by simp only[execOp,ho,Sem.run_bind,run_build w t _ _ hb];rfl,by have:=Cz k2;simpa using this⟩
theorem kH{a:Act}{w:World}{D:aP}{E:aY}(ab:aU c A a w D E){P:Program} : ∀ (xs:List Operand) (ts:List TypeId) (ys:List aO),j9 P xs ts=some ys →
  fD (aZ w D E) (ys.map (ak A)) (xs.map a.eval)
 | [],_,ys,h=>by simp[j9] at h;subst h;exact .nil
 |x::xs,ts,ys,h=>by
  simp only[j9] at h;split at h
  ·rename_i y ys' J U;simp only[v6] at h;subst h;exact .cons (bV ab J) (kH ab xs _ ys' U)
  ·cases h
theorem ln{w:World}{D:aP}{E:aY} : ∀ (xs:List I) (vs:List Value),fD (aZ w D E) xs vs→(∀ x∈xs,x.bU=true)→aF w D E xs vs
 | [],vs,h,_=>by cases h;simp[aF]
 |x::xs,vs,h,hv=>by
  cases h with
  |cons J U =>
   rename_i v vs;have hx:=hv x (by simp);obtain ⟨cs,k1,k2⟩:∃ cs,bA x v cs∧al w D E x cs:=by
    cases x <;>simp[I.bU] at hx <;>exact J
   simp only[aF];exact ⟨v,vs,cs,rfl,k1,k2,ln xs vs U (fun y hy=>hv y (by simp[hy]))⟩
theorem qn{aN:Bool}{B:ai} : ∀ {xs ys:List I},b6 aN B xs=some ys→∀ x∈xs,x.bU=true
 | [],ys,_,x,hx=>by simp at hx
 |y::xs,ys,h,x,hx=>by
  simp only[b6] at h;split at h
  ·rename_i z zs J U;rcases zx3.1 hx with rfl | hx
   ·cases x <;>simp_all[bh,I.bU]
   ·exact qn U x hx
  ·cases h
theorem U4{f:FuncId}(hf:f<1000000){caps:Array Operand}{ys:List aO}(ho:o.op=.makeFunc (.func f) #[] caps)(hc:j9 c.P caps.toList []=some ys)(hv:∀ y∈ys,(ak A y).bU=true):dI c A o (.func f (ys.map (ak A))) :=
 .same fun a w D E ab=>by
  have h:=ln _ _ (kH ab caps.toList [] ys hc) (by simpa using hv);have e:caps.map a.eval=(caps.toList.map a.eval).toArray:=by apply Array.ext';simp
  refine ⟨.func (.func f) #[] (caps.toList.map a.eval).toArray,by simp[execOp,ho,Instr.makeFunc,e],⟨_,by simp[bA,I.isAgg];rfl,?_⟩⟩;simp only[al];exact ⟨_,by rw[mB hf],h⟩
theorem U5{f:FuncId}{first:Array Operand}{ys:List aO}(ho:o.op=.makeFunc (.func f) first #[])(hc:j9 c.P first.toList []=some ys)(hv:∀ y∈ys,(ak A y).bU=true):dI c A o (.func (f+1000000) (ys.map (ak A))) :=
 .same fun a w D E ab=>by
  have h:=ln _ _ (kH ab first.toList [] ys hc) (by simpa using hv);have e:first.map a.eval=(first.toList.map a.eval).toArray:=by apply Array.ext';simp
  refine ⟨.func (.func f) (first.toList.map a.eval).toArray #[],by simp[execOp,ho,Instr.makeFunc,e],⟨_,by simp[bA,I.isAgg];rfl,?_⟩⟩;simp only[al];exact ⟨_,by rw[qo],h⟩
theorem EZ{w:World}{D:aP}{E:aY} : ∀ (xs:List I) (vs:List Value),aF w D E xs vs→aM w D E xs (vs.flatMap fun v=>v.cells.toList)∧vs.length=xs.length∧∀ (sz:Nat),(∀ x∈xs,x.size=sz)→∀ v∈vs,v.cells.size=sz
 | [],vs,h=>by simp only[aF] at h;subst h;simp[aM]
 |x::xs,vs,h=>by
  simp only[aF] at h;obtain ⟨v,rest,cs,rfl,J,U,ah⟩:=h;obtain ⟨k1,k2,k3⟩:=EZ xs rest ah;have hc:=J.cells U;refine ⟨?_,by simp[k2],fun sz hsz u hu =>?_⟩
  ·simp only[List.flatMap_cons,aM];exact ⟨_,_,rfl,by rw[hc];exact U,k1⟩
  ·rcases zx3.1 hu with rfl | hu
   ·rw[←zz6,hc,al.length _ _ U,hsz x (by simp)]
   ·exact k3 sz (fun y hy=>hsz y (by simp[hy])) u hu
def og(A:ai)(D:aP)(E:aY):aP:=fun b o=>D b o∨∃ n T sz es cap,A.o n=some (.bY T sz es)∧E n=some (.rw (some (b,cap)) es.length)∧o<es.length*sz
theorem aU.oo{a:Act}{w:World}{D:aP}{E:aY}(h:aU c A a w D E):aU c A a w (og A D E) E∧h2 false A D E (og A D E):=by
 have hblk:∀ {n T sz es b cap},A.o n=some (.bY T sz es)→E n=some (.rw (some (b,cap)) es.length)→c.e6 b∧b<w.heap.size:=by
  intro n T sz es b cap hn ay;obtain ⟨aG,k1,k2,k3⟩:=h.bY hn;rw[ay] at k1;simp only[v6,bM.rw.injEq,and_true] at k1;subst k1;obtain ⟨cs,pre,rest,k4,k5,_⟩:=k3;exact ⟨k4,fM k5⟩
 refine ⟨h.Fy (fun _ _ af=>.inl af) ?_ ?_ ?_ ?_ ?_ ?_,⟨fun _ _ af=>.inl af,fun n T sz es b cap hn ay o ho=>.inr ⟨n,T,sz,es,cap,hn,ay,ho⟩,(fun hb=>by cases hb),fun hb=>by cases hb⟩⟩
 ·rintro b o (af | ⟨n,T,sz,es,cap,hn,ay,ho⟩) hlt
  ·exact h.c6 _ _ af hlt
  ·exact absurd (hblk hn ay).1 hlt
 ·rintro b o (af | ⟨n,T,sz,es,cap,hn,ay,ho⟩)
  ·exact h.aQ _ _ af
  ·exact (hblk hn ay).2
 ·rintro m x b hm hEm o (af | ⟨n,T,sz,es,cap,hn,ay,ho⟩)
  ·obtain ⟨b2,cs2,r8,q1,q2,q3,q4,q5⟩:=h.box hm;rw[q1] at hEm;simp only[v6,bM.aN.injEq,and_true] at hEm;subst hEm;exact q5 o af
  ·have:=h.cN m n _ _ b hEm ay rfl rfl;subst this;rw[hm] at hn;cases hn
 ·rintro m T' sz' es' b cap' hm hEm o (af | ⟨n,T,sz,es,cap,hn,ay,ho⟩)
  ·obtain ⟨aG,q1,q2,q3⟩:=h.bY hm;rw[hEm] at q1;simp only[v6,bM.rw.injEq,and_true] at q1;subst q1;obtain ⟨cs',pre',rest',q4,q5,q6,q7,q8,q9,q10,q11⟩:=q3;have:=q11 o af
   rwa [aM.length _ _ q7,I.iv _ q2] at this
  ·have:=h.cN m n _ _ b hEm ay rfl rfl;subst this;rw[hm] at hn;simp only[v6,aq.bY.injEq] at hn;obtain ⟨rfl,rfl,rfl⟩:=hn;exact ho
 ·rintro m T' xs b cap' hm hEm o (af | ⟨n,T,sz,es,cap,hn,ay,ho⟩)
  ·obtain ⟨aG,q1,_,q3⟩:=h.rO hm;rw[hEm] at q1;simp only[v6,bM.rw.injEq,and_true] at q1;subst q1;obtain ⟨_,_,_,_,_,_,_,_,q4⟩:=q3;exact q4 o af
  ·have:=h.cN m n _ _ b hEm ay rfl rfl;subst this;rw[hm] at hn;cases hn
 ·rintro m e' b hE' hoth hblk o (af | ⟨n,T,sz,es,cap,hn,ay,ho⟩)
  ·exact h.wU hE' hoth hblk o af
  ·have:=h.cN m n _ _ b hE' ay hblk rfl;subst this;rw[hE'] at ay;cases ay;cases hoth
theorem C2{a:Act}{w:World}{D:aP}{E:aY}(ab:aU c A a w D E){P:Program} : ∀ (ps:List (Nat×Operand)) (qs:List (Nat×aO)),kI P ps=some qs →
  fD (aZ w D E) ((qs.map (·.2)).map (ak A)) (ps.map fun p=>a.eval p.2)∧qs.map (·.1)=ps.map (·.1)
 | [],qs,h=>by simp[kI] at h;subst h;exact ⟨.nil,rfl⟩
 |(i,x)::ps,qs,h=>by
  simp only[kI,List.mapM_cons,Option.bind_eq_bind,Option.pure_def,zy6,t7,v6] at h;obtain ⟨_,⟨y,hy,rfl⟩,qs',hq,rfl⟩:=h;obtain ⟨J,U⟩:=C2 ab ps qs' hq;exact ⟨.cons (bV ab hy) J,by simp[U]⟩
theorem aU.newRow{a:Act}{w:World}{D:aP}{E:aY}(h:aU c A a w D E)(o:Obj):aU c A a (w.alloc o) (fun b k=>D b k∨b=w.heap.size) E:=by
 refine h.grow (p7 w o) (fun _ _ af=>.inl af) ?_ ?_
 ·rintro b k (af | rfl) hlt
  ·exact af
  ·omega
 ·rintro b k (af | rfl)
  ·have:=h.aQ _ _ af;simp;omega
  ·simp
theorem YZ{α:Type}(ps:List (Nat×α))(h:ps.map (·.1)=List.range ps.length):ps=((ps.map (·.2)).zipIdx 0).map fun x=>(x.2,x.1):=by
 apply List.ext_getElem?;intro k;rw[zz3,List.getElem?_zipIdx,zz3];cases hk:ps[k]? with
 |none=>simp
 |some p =>
  have ao:k<ps.length:=(Z5.1 hk).1;have:=congrArg (·[k]?) h;simp only[zz3,hk,Z7,List.getElem?_range ao,v6] at this;simp[←this]
theorem UL{t e:TypeId}{len:Nat}{parts:Array (Nat×Operand)}{ps:List (Nat×aO)}{es:List I}(ho:o.op=.buildSlice t len parts)(hu:c.P.underlying t=some (.slice e))(hp:kI c.P parts.toList=some ps)
  (hr:ps.map (·.1)=List.range len) (aW:0<c.P.cellsOf e) (hlen:0<len) (hsm:len*c.P.cellsOf e≤16777216) (hz:((c.P.info? e).bind (·.zero)).isSome=true)
  (hes:b6 false A ((ps.map (·.2)).map (ak A))=some es) (hev:∀ x∈es,x.size=c.P.cellsOf e) (hcl:I.cg es=true):dI c A o (.slice (c.P.cellsOf e) es):=by
 intro a w D E ab;obtain ⟨hfor,hidx⟩:=C2 ab parts.toList ps hp;obtain ⟨hs1,hw⟩:=ab.oo;have hrv:=lM (E':=E) ab (fun _ _ h=>h) hw _ es _ (ln _ _ hfor (qn hes)) hes;obtain ⟨k1,k2,k3⟩:=EZ es _ hrv;have k3:=k3 _ hev;have ao:parts.toList.length=len:=by
  have:=congrArg List.length hidx;rw[hr] at this;simpa using this.symm
 have hesl:es.length=len:=by rw[←k2];simp[ao]
 obtain ⟨z,hz⟩:=zz2.1 hz;obtain ⟨ie,hie,hzz⟩:=zy6.1 hz;have hsz:ie.size=c.P.cellsOf e:=by simp[Program.cellsOf,hie]
 -- the literal's cells
 have hfill:Instr.fill (fun i=>some (i*ie.size,ie.size)) ((Array.range (len*ie.size)).map (z.cells[· % z.cells.size]!)) (parts.map fun (q:Nat×Operand)=>(q.1,a.eval q.2)).toList =
   some ((parts.toList.map fun p=>a.eval p.2).flatMap fun v=>v.cells.toList).toArray:=by
  have hpz:(parts.map fun (q:Nat×Operand)=>(q.1,a.eval q.2)).toList=((parts.toList.map fun p=>a.eval p.2).zipIdx 0).map fun x=>(x.2,x.1):=by
   have:=YZ (parts.toList.map fun (q:Nat×Operand)=>(q.1,a.eval q.2)) (by simp only[List.map_map,Z8];rw[ao,←hr,hidx];rfl);rw[Array.toList_map,this,List.map_map];rfl
  rw[hpz,hsz];exact Great.fill_whole aW _ _ (fun v hv=>k3 v hv) (by simp[ao])
 have hrun:=run_buildSlice (P:=c.P) w t e len (parts.map fun (q:Nat×Operand)=>(q.1,a.eval q.2)) _ ie z hu hie hzz (by rw[hsz];omega) (by rw[hsz];exact Nat.ne_of_gt (Nat.mul_pos hlen aW)) hfill;generalize hcells:((parts.toList.map fun p=>a.eval p.2).flatMap fun v=>v.cells.toList)=cells at *;have hs2:=hs1.newRow (.cells cells.toArray e);refine ⟨_,_,_,by simp only[execOp,ho,Sem.run_bind];rw[hrun];rfl,hs2,td hesl.symm (Z3 _) ?_ (.inr ⟨w.heap.size,0,cells,rfl,?_,?_⟩) hev⟩
 ·unfold maxLen;have:len≤len*c.P.cellsOf e:=Nat.le_mul_of_pos_right _ aW;omega
 ·intro j v hj;refine ⟨?_,.inr rfl⟩;rw[Z1];have:=World.cell?_alloc_new w cells.toArray e j;rw[this];simpa using hj
 ·refine aM.later ?_ es cells k1;exact dV.grow (p7 w _) (fun _ _ af=>.inl af)
end
mutual
theorem oT:∀ (ty:cE) (x y:I) (r:Bool),bZ ty x y=some r→x.size=ty.size∧y.size=ty.size
 | .i k,x,y,r,h=>by
  simp only[bZ] at h;split at h
  ·simp[I.size,cE.size]
  ·cases h
 | .b,x,y,r,h=>by
  simp only[bZ] at h;split at h
  ·simp[I.size,cE.size]
  ·cases h
 | .s,x,y,r,h=>by
  simp only[bZ] at h;split at h
  ·simp[I.size,cE.size]
  ·cases h
 | .a8 l,x,y,r,h=>by
  simp only[bZ] at h;split at h
  ·simp only[I.size,cE.size];exact AE l _ _ r h
  ·cases h
 | .p6 n e,x,y,r,h=>by
  simp only[bZ] at h;split at h
  ·rename_i fs gs;split at h
   ·rename_i ao;simp only[I.size,cE.size];have:∀ (fs gs:List I) (r:Bool),fs.length=gs.length→(fs.zip gs).foldr (fun p acc=>iX (bZ e p.1 p.2) acc) (some true)=some r→I.sizes fs=fs.length*e.size∧I.sizes gs=fs.length*e.size:=by
     intro fs
     induction fs with
     |nil=>intro gs r ao _;cases gs with | nil=>simp[I.sizes] | cons _ _=>simp at ao
     |cons f fs ih =>
      intro gs r ao h;cases gs with
      |nil=>simp at ao
      |cons g gs =>
       simp only[List.zip_cons_cons,List.foldr_cons] at h;unfold iX at h;split at h
       ·rename_i a b J U;obtain ⟨k1,k2⟩:=ih gs b (by simpa using ao) U;obtain ⟨k3,k4⟩:=oT e f g a J;simp only[I.sizes,zy5,k1,k2,k3,k4,Nat.add_mul,Nat.one_mul];omega
       ·cases h
    obtain ⟨k1,k2⟩:=this fs gs r (by omega) h;rw[k1,k2,ao.1];exact ⟨rfl,rfl⟩
   ·cases h
  ·cases h
theorem AE:∀ (l:List cE) (xs ys:List I) (r:Bool),hJ l xs ys=some r→I.sizes xs=cE.sizes l∧I.sizes ys=cE.sizes l
 | [],xs,ys,r,h=>by
  simp only[hJ] at h;split at h
  ·simp[I.sizes,cE.sizes]
  ·cases h
 |t::ts,xs,ys,r,h=>by
  simp only[hJ] at h;split at h
  ·rename_i f fs g gs;unfold iX at h;split at h
   ·rename_i a b J U;obtain ⟨k1,k2⟩:=oT t f g a J;obtain ⟨k3,k4⟩:=AE ts fs gs b U;simp only[I.sizes,cE.sizes,k1,k2,k3,k4];exact ⟨trivial,trivial⟩
   ·cases h
  ·cases h
end
section
variable {P:Program} {w:World} {D:aP} {E:aY}
theorem vf{d:Nat}{t:TypeId}{ty:cE}(h:gF P d t=some ty)(ab:ty.size=P.cellsOf t){x y:I}{r:Bool}(hr:bZ ty x y=some r):∃ s,fS P t=some s∧b7 s x=true∧b7 s y=true:=by
 have hsz:=oT ty x y r hr;cases d with
 |zero=>simp[gF] at h
 |succ d =>
  simp only[gF] at h;split at h
  ·rename_i k hu;simp only[v6] at h;subst h;simp only[bZ] at hr;split at hr
   ·exact ⟨none,by simp[fS,hu],by simp[b7,I.isAgg],by simp[b7,I.isAgg]⟩
   ·cases hr
  ·rename_i hu;simp only[v6] at h;subst h;simp only[bZ] at hr;split at hr
   ·exact ⟨none,by simp[fS,hu],by simp[b7,I.isAgg],by simp[b7,I.isAgg]⟩
   ·cases hr
  ·rename_i hu;simp only[v6] at h;subst h;simp only[bZ] at hr;split at hr
   ·exact ⟨none,by simp[fS,hu],by simp[b7,I.isAgg],by simp[b7,I.isAgg]⟩
   ·cases hr
  ·rename_i fs hu;split at h
   ·simp only[t7] at h;obtain ⟨l,_,rfl⟩:=h;simp only[bZ] at hr;split at hr
    ·exact ⟨some (P.cellsOf t),by simp[fS,hu],by simp[b7,I.isAgg,hsz.1,ab],by simp[b7,I.isAgg,hsz.2,ab]⟩
    ·cases hr
   ·cases h
  ·rename_i n e hu;split at h
   ·split at h
    ·simp only[v6] at h;subst h;simp only[bZ] at hr;split at hr
     ·exact ⟨some (P.cellsOf t),by simp[fS,hu],by simp[b7,I.isAgg,hsz.1,ab],by simp[b7,I.isAgg,hsz.2,ab]⟩
     ·cases hr
    ·cases h
   ·cases h
  ·cases h
theorem AG{k:Nat}{g:Field→Option cE}(hg:∀ (f:Field) (ty:cE),g f=some ty→ty.size=P.cellsOf f.type∧∃ d,gF P d f.type=some ty ∧
   ∀ (x y:I) (u v:Value) (r:Bool),aZ w D E x u→aZ w D E y v→bZ ty x y=some r→(Op.equalIn k f.type u v).run P w=.ok r w) :
  ∀ (fs : List Field) (l : List cE) (xs ys : List I) (r : Bool) (c1 c2 d1 d2 : List Value), fs.mapM g = some l → (∀ f ∈ fs, f.name ≠ "_") → pC P c1.length fs = true → c1.length = d1.length →
   aM w D E xs c2→aM w D E ys d2→hJ l xs ys=some r→(Op.eqFields k (c1++c2).toArray (d1++d2).toArray fs).run P w=.ok r w
 | [],l,xs,ys,r,c1,c2,d1,d2,hm,_,_,_,_,_,h=>by
  simp at hm;subst hm;simp only[hJ] at h;split at h
  ·simp only[v6] at h;subst h;simp[Op.eqFields]
  ·cases h
 |f::fs,l,xs,ys,r,c1,c2,d1,d2,hm,hn,ho,ao,hx,hy,h=>by
  simp only[List.mapM_cons,Option.bind_eq_bind,Option.pure_def,zy6,v6] at hm;obtain ⟨ty,hty,tys,htys,rfl⟩:=hm;simp only[hJ] at h;split at h
  case h_2=>cases h
  rename_i x xs y ys;unfold iX at h;split at h
  case h_2=>cases h
  rename_i ra rb J U;simp only[v6] at h;subst h;simp only[aM] at hx hy;obtain ⟨e1,e2,rfl,k1,k2⟩:=hx;obtain ⟨f1,f2,rfl,k3,k4⟩:=hy;obtain ⟨hsz,dd,af,heq⟩:=hg f ty hty;obtain ⟨s,q1,q2,q3⟩:=vf af hsz J;obtain ⟨u,p1,p2⟩:=oi (c1:=c1) (c3:=e2) q1 q2 k1;obtain ⟨v,p3,p4⟩:=oi (c1:=d1) (c3:=f2) q1 q3 k3;simp only[pC,t8,beq_iff_eq] at ho;have hsx:=oT ty x y ra J;have hle:e1.length=P.cellsOf f.type:=by rw[al.length _ _ k1,hsx.1,hsz]
  have hlf:f1.length=P.cellsOf f.type:=by rw[al.length _ _ k3,hsx.2,hsz]
  have ih:=AG hg fs tys xs ys rb (c1++e1) e2 (d1++f1) f2 htys (fun g hg=>hn g (by simp[hg])) (by simp only[Z6,hle];exact ho.2) (by simp[ao,hle,hlf]) k2 k4 U;rw[Y5] at p1 p3;rw[Y5,Y5] at ih;rw[←ho.1] at p1;rw[←ao,←ho.1] at p3;simp only[Op.eqFields,hn f (by simp),ne_eq,not_false_eq_true,if_true,Sem.run_bind,p1,Result.andThen_ok,p3,heq x y u v ra p2 p4 J];cases ra
  ·simp
  ·simpa using ih
theorem AH{d:Nat}{e:TypeId}{ty:cE}{dd:Nat}(hty:gF P dd e=some ty)(hsz:ty.size=P.cellsOf e)
  (heq:∀ (x y:I) (u v:Value) (r:Bool),aZ w D E x u→aZ w D E y v→bZ ty x y=some r→(Op.equalIn d e u v).run P w=.ok r w) :
  ∀ (m k:Nat) (xs ys:List I) (c1 c2 d1 d2:List Value) (r:Bool),xs.length=m→ys.length=m→c1.length=k*P.cellsOf e→d1.length=k*P.cellsOf e→aM w D E xs c2→aM w D E ys d2 →
   (xs.zip ys).foldr (fun p acc=>iX (bZ ty p.1 p.2) acc) (some true)=some r→(Op.eqItems d e (P.cellsOf e) (c1++c2).toArray (d1++d2).toArray (List.range' k m)).run P w=.ok r w
 |0,k,xs,ys,c1,c2,d1,d2,r,hx,hy,_,_,_,_,h=>by
  have e1:=List.eq_nil_of_length_eq_zero hx;subst e1;simp only[List.zip_nil_left,List.foldr_nil,v6] at h;subst h;simp[Op.eqItems]
 |m+1,k,xs,ys,c1,c2,d1,d2,r,hx,hy,hc,af,hrx,hry,h=>by
  cases xs with
  |nil=>simp at hx
  |cons x xs =>
  cases ys with
  |nil=>simp at hy
  |cons y ys =>
  simp only[List.zip_cons_cons,List.foldr_cons] at h;unfold iX at h;split at h
  case h_2=>cases h
  rename_i ra rb J U;simp only[v6] at h;subst h;simp only[aM] at hrx hry;obtain ⟨e1,e2,rfl,k1,k2⟩:=hrx;obtain ⟨f1,f2,rfl,k3,k4⟩:=hry;obtain ⟨s,q1,q2,q3⟩:=vf hty hsz J;obtain ⟨u,p1,p2⟩:=oi (c1:=c1) (c3:=e2) q1 q2 k1;obtain ⟨v,p3,p4⟩:=oi (c1:=d1) (c3:=f2) q1 q3 k3;have hsx:=oT ty x y ra J;have hle:e1.length=P.cellsOf e:=by rw[al.length _ _ k1,hsx.1,hsz]
  have hlf:f1.length=P.cellsOf e:=by rw[al.length _ _ k3,hsx.2,hsz]
  have ih:=AH hty hsz heq m (k+1) xs ys (c1++e1) e2 (d1++f1) f2 rb (by simpa using hx) (by simpa using hy) (by simp only[Z6,hle,hc,Nat.add_mul,Nat.one_mul]) (by simp only[Z6,hlf,af,Nat.add_mul,Nat.one_mul]) k2 k4 U;rw[Y5] at p1 p3;rw[Y5,Y5] at ih;rw[hc] at p1;rw[af] at p3;simp only[List.range'_succ,Op.eqItems,Sem.run_bind,p1,Result.andThen_ok,p3,heq x y u v ra p2 p4 J];cases ra
  ·simp
  ·simpa using ih
theorem sC:∀ (d:Nat) (t:TypeId) (ty:cE),gF P d t=some ty→∀ (x y:I) (u v:Value) (r:Bool),aZ w D E x u→aZ w D E y v→bZ ty x y=some r→∀ dep,d≤dep→(Op.equalIn dep t u v).run P w=.ok r w
 |0,t,ty,h,_,_,_,_,_,_,_,_,_,_=>by simp[gF] at h
 |d+1,t,ty,h,x,y,u,v,r,hx,hy,hr,dep,hdep=>by
  obtain ⟨k,rfl⟩:∃ k,dep=k+1:=⟨dep-1,by omega⟩
  simp only[gF] at h;split at h
  ·rename_i kk hu;simp only[v6] at h;subst h;simp only[bZ] at hr;split at hr
   ·split at hr
    ·simp only[v6] at hr;subst hr;rw[(eW hx).1,(eW hy).1];rename_i hk;rw[hk.1,hk.2];exact run_equalIn_int w k t kk kk _ _ hu
    ·cases hr
   ·cases hr
  ·rename_i hu;simp only[v6] at h;subst h;simp only[bZ] at hr;split at hr
   ·simp only[v6] at hr;subst hr;rw[kq hx,kq hy];exact run_equalIn_bool' w k t _ _ hu
   ·cases hr
  ·rename_i hu;simp only[v6] at h;subst h;simp only[bZ] at hr;split at hr
   ·simp only[v6] at hr;subst hr;rw[(mY hx).1,(mY hy).1];exact run_equalIn_string w k t _ _ hu
   ·cases hr
  ·rename_i fs hu;split at h
   ·rename_i hc;simp only[t7] at h;obtain ⟨l,ao,rfl⟩:=h;simp only[bZ] at hr;split at hr
    ·obtain ⟨cs,rfl,J⟩:=jg hx;obtain ⟨ds,rfl,U⟩:=jg hy;have hf:P.fieldsOf t=fs:=by simp[Program.fieldsOf,hu]
     rw[run_equalIn_struct w k t _ _ (by rw[hf];exact hu) hc.1,hf];refine AG (g:=fun f=>match gF P d f.type with | some ty=>if ty.size=P.cellsOf f.type then some ty else none | none=>none) (fun f ty hg =>?_) fs.toList l _ _ r [] cs [] ds ao (fun f hf =>?_) hc.2.2 rfl J U hr
     ·split at hg
      ·rename_i ty' hty;split at hg
       ·rename_i ab;simp only[v6] at hg;subst hg;exact ⟨ab,d,hty,fun x y u v r hx hy hr=>sC d f.type _ hty x y u v r hx hy hr k (by omega)⟩
       ·cases hg
      ·cases hg
     ·have:=zz4.1 hc.2.1 f hf;simpa using this
    ·cases hr
   ·cases h
  ·rename_i n e hu;split at h
   ·rename_i ty' hty;split at h
    ·rename_i hc;simp only[v6] at h;subst h;simp only[bZ] at hr;split at hr
     ·split at hr
      ·rename_i ao;obtain ⟨cs,rfl,J⟩:=jg hx;obtain ⟨ds,rfl,U⟩:=jg hy;obtain ⟨i,hi⟩:=zz2.1 hc.2;rw[run_equalIn_array w k _ _ hu hi,List.range_eq_range'];exact AH hty hc.1 (fun x y u v r hx hy hr=>sC d e _ hty x y u v r hx hy hr k (by omega)) n 0 _ _ [] cs [] ds r ao.1 ao.2 (by simp) (by simp) J U hr
      ·cases hr
     ·cases hr
    ·cases h
   ·cases h
  ·cases h
end
section
variable {c:cV} {A:ai} {o:Oper} {x:I}
theorem Yg{P:Program}{w:World}{D:aP}{E:aY}(op:BinOp)(t:TypeId)(x y:Operand){a b:I}{ty:cE}{r:Bool}{u v:Value}(hr:bZ ty a b=some r)(hx:aZ w D E a u)(hm:P.eqGuardType P.depth t=false) :
  (eqGuard op t x y u v).run P w=.ok () w:=by
 have:u.oneCell'=true∧u≠.nilIface∨∃ cs,u=.agg cs:=by
  cases ty <;>simp only[bZ] at hr <;>split at hr <;>first
   |(cases hr;done)
   |(left;rw[(eW hx).1];exact ⟨rfl,by simp⟩)
   |(left;rw[kq hx];exact ⟨rfl,by simp⟩)
   |(left;rw[(mY hx).1];exact ⟨rfl,by simp⟩)
   |(right;obtain ⟨cs,h,_⟩:=jg hx;exact ⟨_,h⟩)
 rcases this with ⟨J,U⟩ | ⟨cs,rfl⟩
 ·exact xn op t x y J U
 ·cases op <;>cases v <;>simp[eqGuard,run_program,hm]
theorem Hn{P:Program}{w:World}{D:aP}{E:aY}{neg:Bool}{t:TypeId}{a b:I}{ty:cE}{r:Bool}{u v:Value}(hr:bZ ty a b=some r)(hx:aZ w D E a u)(hy:aZ w D E b v){dt:Nat}(hdt:dt≤10000)(hty:gF P dt t=some ty) :
  (binOp (if neg then .neq else .eql) t u v).run P w=.ok (.bool (if neg then !r else r)) w:=by
 have he:=sC (w:=w) (D:=D) (E:=E) dt t ty hty a b u v r hx hy hr 10000 hdt;cases ty <;>simp only[bZ] at hr <;>split at hr <;>first | (cases hr;done) | skip
 ·rw[(eW hx).1,(eW hy).1] at *;split at hr
  ·rename_i hk;simp only[v6] at hr;subst hr;rw[hk.1,hk.2];cases neg <;>simp[binOp,Op.intCmp,bne]
  ·cases hr
 ·have e1:=kq hx;have e2:=kq hy;subst e1 e2;cases neg <;>simp only[binOp,if_true,Z2,if_false] <;>simp[Op.equal,Op.maxDepth,he]
 ·rw[(mY hx).1,(mY hy).1] at *;simp only[v6] at hr;subst hr;cases neg <;>simp[binOp,Op.stringOp]
 ·obtain ⟨cs,rfl,_⟩:=jg hx;obtain ⟨ds,rfl,_⟩:=jg hy;cases neg <;>simp only[if_true,Z2,if_false]
  ·rw[run_eql_struct,he];rfl
  ·rw[run_neq_struct,he];rfl
 ·obtain ⟨cs,rfl,_⟩:=jg hx;obtain ⟨ds,rfl,_⟩:=jg hy;cases neg <;>simp only[if_true,Z2,if_false]
  ·rw[run_eql_struct,he];rfl
  ·rw[run_neq_struct,he];rfl
theorem UQ{neg:Bool}{t yt:TypeId}{y z:Operand}{y' z':aO}{ty:cE}{r:Bool}(ho:o.op=.binOp (if neg then .neq else .eql) t y z yt)(hy:br c.P 0 y=some y')(hz:br c.P 0 z=some z')(hg:c.P.eqGuardType c.P.depth t=false)
  (hty:gF c.P 12 t=some ty) (h:bZ ty (ak A y') (ak A z')=some r):dI c A o (.bool (if neg then !r else r)) :=
 .same fun a w D E ab=>by
  have J:=bV ab hy;have U:=bV ab hz;refine ⟨_,?_,nP _⟩;simp only[execOp,ho,Sem.run_bind,Yg _ t y z h J hg,Result.andThen_ok,Hn h J U (dt:=12) (by omega) hty];rfl
theorem vW{neg:Bool}{t yt e:TypeId}{y z:Operand}{y':aO}{sz:Nat}{r:Bool}(ho:o.op=.binOp (if neg then .neq else .eql) t y z yt)(hu:c.P.underlying t=some (.slice e))(hy:br c.P 0 y=some y')(hz:br c.P 0 z=some (.c (.nils sz)))
  (h:(∃ s,ak A y'=.nils s∧r=true)∨(∃ s es,ak A y'=.slice s es∧es≠[]∧r=false)∨(∃ n p s lo k,ak A y'=.view n p s lo k∧r=false)):dI c A o (.bool (if neg then !r else r)) :=
 .same fun a w D E ab=>by
  have J:=bV ab hy;have U:aZ w D E (.nils sz) (a.eval z):=bV ab hz;have hv:a.eval z=.slice none 0 0:=by
   obtain ⟨cs,q1,q2⟩:=U;simp only[al] at q2;simpa[bA,I.isAgg,q2] using q1.symm
  have hu':(∃ ad n cp,a.eval y=.slice ad n cp∧r=ad.isNone):=by
   rcases h with ⟨s,h,rfl⟩ | ⟨s,es,h,hne,rfl⟩ | ⟨n,p,s,lo,k,h,rfl⟩
   ·rw[h] at J;obtain ⟨cs,q1,q2⟩:=J;simp only[al] at q2;exact ⟨none,0,0,by simpa[bA,I.isAgg,q2] using q1.symm,rfl⟩
   ·rw[h] at J;obtain ⟨ad,cap,e1,_,_,e4,_⟩:=mX J;rcases e4 with e4 | ⟨b,off,cs,rfl,_,_⟩
    ·exact absurd e4 hne
    ·exact ⟨_,_,_,e1,rfl⟩
   ·rw[h] at J;obtain ⟨cs,q1,q2⟩:=J;simp only[al] at q2;obtain ⟨b,aX,off,l,_,_,_,q2,_⟩:=q2;exact ⟨_,_,_,by simpa[bA,I.isAgg,q2] using q1.symm,rfl⟩
  obtain ⟨ad,n,cp,hyv,rfl⟩:=hu';have he:∀ d,(Op.equalIn (d+1) t (.slice ad n cp) (.slice none 0 0)).run c.P w=.ok ad.isNone w:=fun d=>by
   cases ad <;>simp[Op.equalIn,run_underlying hu]
  refine ⟨.bool (if neg then !ad.isNone else ad.isNone),?_,nP _⟩;cases neg <;>simp only[execOp,ho,hyv,hv,if_true,Z2,if_false,Sem.run_bind,eqGuard] <;>simp[binOp,Op.equal,Op.maxDepth,he]
end
def h1(c:cV)(A:ai)(o:Oper)(B:ai):Prop :=
 ∀ a w D E,aU c A a w D E→∃ w',((∃ v,(execOp a.eval o).run c.P w=.ok (.value v) w'∧bX c B (a.put o.dst v) w')∨((execOp a.eval o).run c.P w=.ok .skip w'∧bX c B (a.put o.dst undef) w'))
section
variable {c:cV} {A:ai} {o:Oper} {x:I}
theorem dI.does(h:dI c A o x)(af:∀ k,o.dst=some k→k<c.n):h1 c A o (A.aT o.dst x):=by
 intro a w D E ab;obtain ⟨v,w',D',J,U,ah⟩:=h a w D E ab;exact ⟨w',.inl ⟨v,J,D',E,U.aT af ah⟩⟩
theorem LX{t:TypeId}{z:I}{d:Nat}(ho:o.op=.alloc t)(hz:gm c.P t=some z)(af:o.dst=some d)(hn:d<c.n)(hf:A.o d=none):h1 c A o ((A.aV d (.box z)).put d (.ptr d [])):=by
 intro a w D E ab;obtain ⟨i,zv,hi,hzv,hzr⟩:=lz hz;have J:=ab.qS (T:=t) (.inl hn) hf (hzr w D E);have U:=J.put (x:=.ptr d []) (v:=.pointer (some ⟨w.heap.size,0,none⟩)) hn ⟨_,by simp[bA,I.isAgg];rfl,by
  simp only[al,if_true];exact ⟨w.heap.size,z.aX,0,rfl,by cases z.aX <;>simp[cP.off],rfl⟩⟩
 exact ⟨w.alloc (.cells zv.cells t),.inl ⟨.pointer (some ⟨w.heap.size,0,none⟩),by simp[execOp,ho,Instr.alloc,zeroValue,typeInfo,hi,hzv,newVar,newRow],D,_,by rw[af];exact U⟩⟩
theorem L2{t:TypeId}{y:Operand}{y':aO}{d:Nat}(ho:o.op=.box t y)(hy:br c.P t y=some y')(hv:(ak A y').bU=true)(af:o.dst=some d)(hn:d<c.n)(hf:A.o d=none) :
  h1 c A o ((A.aV d (.box (ak A y'))).put d (.ptr d [])):=by
 intro a w D E ab;obtain ⟨cs,k1,k2⟩:∃ cs,bA (ak A y') (a.eval y) cs∧al w D E (ak A y') cs:=by
  have h:=bV ab hy;generalize ak A y'=z at *;cases z <;>simp[I.bU] at hv <;>exact h
 have hc:=k1.cells k2;rw[←hc] at k2;have J:=ab.qS (T:=t) (.inl hn) hf k2;have U:=J.put (x:=.ptr d []) (v:=.pointer (some ⟨w.heap.size,0,none⟩)) hn ⟨_,by simp[bA,I.isAgg];rfl,by
  simp only[al,if_true];exact ⟨w.heap.size,(ak A y').aX,0,rfl,by cases (ak A y').aX <;>simp[cP.off],rfl⟩⟩
 exact ⟨w.alloc (.cells (a.eval y).cells t),.inl ⟨.pointer (some ⟨w.heap.size,0,none⟩),by simp[execOp,ho,Instr.box,newVar,newRow],D,_,by rw[af];exact U⟩⟩
theorem L9{t:TypeId}{y z:Operand}{y' z':aO}{s:Option Nat}{n:Nat}{p:List Nat}{b old:I}(ho:o.op=.store t y z)(hk:fS c.P t=some s)(hk1:s.isSome=true∨c.P.cellsOf t=1)(hy:br c.P 0 y=some y')(hz:br c.P t z=some z')
  (hp:ak A y'=.ptr n p) (hb:A.o n=some (.box b)) (hat:b.at p=some old) (hv:(ak A z').bU=true) (hok:b7 s (ak A z')=true) (hsh:(ak A z').aX=old.aX) (af:o.dst=none) :
  h1 c A o (A.aV n (.box (b.eB p (ak A z')))):=by
 intro a w D E ab;have J:=bV ab hy;rw[hp] at J;obtain ⟨bb,aX,off,U,ah,ar⟩:=lj J;obtain ⟨b',cs,T,k1,k2,k3,k4,k5⟩:=ab.box hb;rw[k1] at U;simp only[v6,bM.aN.injEq] at U;obtain ⟨rfl,rfl⟩:=U;obtain ⟨ds,q1,q2⟩:∃ ds,bA (ak A z') (a.eval z) ds∧al w D E (ak A z') ds:=by
  have h:=bV ab hz;generalize ak A z'=zz at *;cases zz <;>simp[I.bU] at hv <;>exact h
 have hc:=q1.cells q2;obtain ⟨off',p1,p2,p3,p4⟩:=tA p b old _ _ ds k4 hat q2 hsh;rw[ah,v6] at p1;subst p1;have ao:=al.length _ _ q2;obtain ⟨i,hi⟩:=sV hk;have hsz:ds.length=c.P.cellsOf t:=by
  cases s with
  |none =>
   simp only[b7,Bool.not_eq_true'] at hok;have:(ak A z').size=1:=by generalize ak A z'=zz at *;cases zz <;>simp_all[I.isAgg,I.size]
   rw[ao,this];rcases hk1 with h | h
   ·cases h
   ·exact h.symm
  |some m =>
   simp only[b7,t8,beq_iff_eq] at hok;rw[ao,hok.2,wi hk]
 have hcs:(a.eval z).cells.size=ds.length:=by rw[←hc,zz6]
 have hrun:=run_storeCells_at c.P b' off T ds 0 cs w k3 (by rw[zz6] at p2;omega) (al.lV _ _ q2);simp only[Nat.add_zero] at hrun;have hs2:=ab.xy (y:=b.eB p (ak A z')) (cs':=(cs.toList.take off++ds++cs.toList.drop (off+ds.length)).toArray) hb k1 p4 (by simpa using p3);refine ⟨w.setRow b' (cs.toList.take off++ds++cs.toList.drop (off+ds.length)).toArray,.inr ⟨?_,D,E,?_⟩⟩
 ·have e:(a.eval z).cells.toList=ds:=hc;have hg:¬ (a.eval z).cells.size≠c.P.cellsOf t:=by rw[hcs,hsz];simp
  simp only[execOp,ho,ar,Instr.storeAt,Instr.sureAddr,storeVar,Sem.run_bind,Sem.run_pure,Result.andThen_ok,iP hi,Sem.run_ite,if_neg hg,e,hrun]
 ·rw[af];exact hs2
end
section
variable {c:cV} {A:ai} {a:Act} {w:World} {D:aP} {E:aY}
theorem aU.A5(h:aU c A a w D E){n:Nat}{T:TypeId}{sz cap:Nat}{es ys:List I}{pre news rest:List Value}{cs:Array Value}{aG:Option (Nat×Nat)}(hn:A.o n=some (.bY T sz es))(ay:E n=some (.rw aG es.length))(hes:aM w D E es pre)
  (hys:aM w D E ys news) (hysz:∀ e∈ys,e.size=sz) (hne:ys≠[]) (hcs:cs.toList=(pre++news)++rest) (hsize:cs.size=cap*sz) (hlen:es.length+ys.length≤cap) (hcap:cap≤maxLen) :
  aU c (A.aV n (.bY T sz (es++ys))) a (w.drew.alloc (.cells cs T)) D (fun m=>if m=n then some (.rw (some (w.heap.size,cap)) (es.length+ys.length)) else E m):=by
 have hlast:0<ys.length:=List.length_pos_iff.2 hne;have hheap:∀ b,b<w.heap.size→(w.drew.alloc (.cells cs T)).heap[b]?=w.heap[b]?:=fun b hb=>Below.heap_alloc w.drew _ b hb;have ao:dV w D E (w.drew.alloc (.cells cs T)) D (fun m=>if m=n then some (.rw (some (w.heap.size,cap)) (es.length+ys.length)) else E m):=by
  have eP:∀ {m:Nat} {e:bM},E m=some e→e.eh=true→(if m=n then some (.rw (some (w.heap.size,cap)) (es.length+ys.length)) else E m)=some e:=fun {m e} he hfx=>by
   have:m≠n:=fun e=>by rw[e,ay] at he;cases he;cases hfx
   rw[if_neg this];exact he
  refine ⟨fun _ _ h=>h,fun b o v _ hv =>?_,fun m b aX he=>eP he rfl,fun m blk' l he =>?_,fun m b he=>eP he rfl,fun m b he=>eP he rfl,fun b es ck _ hm=>(hheap b (fM hm)).trans hm⟩
  ·rw[World.cell?_of_block (hheap b (World.block_lt_of_cell? w _ hv))];exact hv
  ·by_cases hm:m=n
   ·subst hm;rw[ay] at he;simp only[v6,bM.rw.injEq] at he;exact ⟨_,_,if_pos rfl,by omega,fun e=>by omega⟩
   ·exact ⟨blk',l,by simp only[if_neg hm];exact he,Z3 _,fun _=>rfl⟩
 have hown:=h.bP n;rw[hn] at hown;obtain ⟨blk1,hb1,hb2,_⟩:=hown;refine ⟨h.sz,h.eD.mono fun B _ hB=>(hheap B (Y4.1 hB).1).trans hB,fun t=>aZ.later ao (h.dQ t),h.dM.trans ⟨rfl,rfl,rfl,by simp,fun k hk=>hheap k (h.old hk)⟩,h.c6,fun b o hd'=>by have:=h.aQ b o hd';simp;omega,fun m =>?_,?_,fun m e hm =>?_,h.eU,h.cT,h.eX,h.ku ao⟩
 ·simp only[ai.aV];by_cases hm:m=n
  ·subst hm;simp only[if_true,cZ];refine ⟨some (w.heap.size,cap),by simp,fun e he =>?_,?_⟩
   ·rcases zy0.1 he with he | he
    ·exact hb2 e he
    ·exact hysz e he
   ·refine ⟨cs,pre++news,rest,.inl h.dM.size,heap_alloc_new w.drew _,hcs,?_,hsize,by simpa using hlen,hcap,fun o ho=>absurd (h.aQ _ o ho) (Nat.lt_irrefl _)⟩;exact aM.later ao _ _ (jZ _ _ _ _ hes hys)
  ·simp only[if_neg hm];exact (h.bP m).later ao (by simp only[if_neg hm]) fun e b he hb=>⟨hheap b (h.fY he hb),fun _ ho=>ho⟩
 ·intro m m' e e' b J U ah ar;by_cases hm:m=n <;>by_cases hm':m'=n
  ·rw[hm,hm']
  ·simp only[if_pos hm,v6] at J;simp only[if_neg hm'] at U;subst J;simp only[bM.aG,v6] at ah;have:=h.fY U ar;omega
  ·simp only[if_neg hm] at J;simp only[if_pos hm',v6] at U;subst U;simp only[bM.aG,v6] at ar;have:=h.fY J ah;omega
  ·simp only[if_neg hm] at J;simp only[if_neg hm'] at U;exact h.cN m m' e e' b J U ah ar
 ·by_cases hmn:m=n
  ·subst hmn;rcases h.dR _ _ hm with k | ⟨e',k,hle⟩
   ·rw[ay] at k;cases k
   ·rw[ay] at k;cases k;exact .inr ⟨_,if_pos rfl,hle.trans (.inr ⟨_,_,_,_,rfl,rfl,by omega,fun e=>by omega⟩)⟩
  ·simp only[if_neg hmn];exact h.dR _ _ hm
theorem aU.Xc(h:aU c A a w D E){n:Nat}{T:TypeId}{sz b cap:Nat}{es ys:List I}{pre news rest:List Value}{cs:Array Value}(hn:A.o n=some (.bY T sz es))(ay:E n=some (.rw (some (b,cap)) es.length))(hb:w.heap[b]?=some (.cells cs T (0,0)))
  (hcs:cs.toList=pre++rest) (hes:aM w D E es pre) (hys:aM w D E ys news) (hysz:∀ e∈ys,e.size=sz) (hne:ys≠[]) (hsize:cs.size=cap*sz) (hlen:es.length+ys.length≤cap) (hcap:cap≤maxLen) (hD:∀ o,D b o→o<pre.length) (hbase:c.e6 b) :
  aU c (A.aV n (.bY T sz (es++ys))) a (w.setRow b (pre++news++rest.drop news.length).toArray) D (fun m=>if m=n then some (.rw (some (b,cap)) (es.length+ys.length)) else E m):=by
 have hlast:0<ys.length:=List.length_pos_iff.2 hne;have hown:=h.bP n;rw[hn] at hown;obtain ⟨blk1,hb1,hb2,_⟩:=hown;have hnl:news.length=ys.length*sz:=by rw[aM.length _ _ hys,I.iv _ hysz]
 have hpl:pre.length=es.length*sz:=by rw[aM.length _ _ hes,I.iv _ hb2]
 have ao:dV w D E (w.setRow b (pre++news++rest.drop news.length).toArray) D (fun m=>if m=n then some (.rw (some (b,cap)) (es.length+ys.length)) else E m):=by
  have eP:∀ {m:Nat} {e:bM},E m=some e→e.eh=true→(if m=n then some (.rw (some (b,cap)) (es.length+ys.length)) else E m)=some e:=fun {m e} he hfx=>by
   have:m≠n:=fun e=>by rw[e,ay] at he;cases he;cases hfx
   rw[if_neg this];exact he
  refine ⟨fun _ _ h=>h,fun b1 o v af hv =>?_,fun m b aX he=>eP he rfl,fun m blk' l he =>?_,fun m b he=>eP he rfl,fun m b he=>eP he rfl,fun b1 es ck _ hm=>(setRow_other w b b1 _ (fun e=>by rw[e,hb] at hm;cases hm)).trans hm⟩
  ·by_cases hbb:b1=b
   ·subst hbb;have ho:=hD o af;have J:=setRow_heap w b1 cs (pre++news++rest.drop news.length).toArray T _ hb;rw[cell_of_row _ b1 o _ T (0,0) J];rw[cell_of_row _ b1 o _ T (0,0) hb] at hv;have e1:cs[o]?=pre[o]?:=by rw[←zy2,hcs,Y8 ho]
    rw[←hv,e1];simp only[List.getElem?_toArray,Y5];rw[Y8 ho]
   ·rw[uZ _ _ _ _ hbb];exact hv
  ·by_cases hm:m=n
   ·subst hm;rw[ay] at he;simp only[v6,bM.rw.injEq] at he;exact ⟨_,_,if_pos rfl,by omega,fun e=>by omega⟩
   ·exact ⟨blk',l,by simp only[if_neg hm];exact he,Z3 _,fun _=>rfl⟩
 refine ⟨h.sz,h.eD.mono fun B _ hB=>(setRow_other w b B _ (fun e=>by rw[e,hb] at hB;cases hB)).trans hB,fun t=>aZ.later ao (h.dQ t),we h.dM hbase _,h.c6,fun b1 o af=>by have:=h.aQ b1 o af;simpa[World.setRow] using this,fun m =>?_,?_,fun m e hm =>?_,h.eU,h.cT,h.eX,h.ku ao⟩
 ·simp only[ai.aV];by_cases hm:m=n
  ·subst hm;simp only[if_true,cZ];refine ⟨some (b,cap),by simp,fun e he =>?_,?_⟩
   ·rcases zy0.1 he with he | he
    ·exact hb2 e he
    ·exact hysz e he
   ·refine ⟨_,pre++news,rest.drop news.length,hbase,setRow_heap w b cs _ T _ hb,by simp,aM.later ao _ _ (jZ _ _ _ _ hes hys),?_,by simpa using hlen,hcap,fun o ho =>?_⟩
    ·have e1:cs.size=pre.length+rest.length:=by rw[←zz6,hcs,Z6]
     have e2:news.length+pre.length≤cs.size:=by
      rw[hsize,hnl,hpl,←Nat.add_mul];exact Nat.mul_le_mul_right _ (by omega)
     simp only[List.size_toArray,Z6,List.length_drop];omega
    ·have:=hD o ho;rw[Z6];omega
  ·simp only[if_neg hm];refine (h.bP m).later ao (by simp only[if_neg hm]) fun e b1 he hb'=>⟨setRow_other w b b1 _ (fun e1=>hm (h.cN m n e _ b he ay (by rw[hb',e1]) rfl)),fun _ ho=>ho⟩
 ·intro m m' e e' b' J U ah ar;by_cases hm:m=n <;>by_cases hm':m'=n
  ·rw[hm,hm']
  ·simp only[if_pos hm,v6] at J;simp only[if_neg hm'] at U;subst J;exact absurd (h.cN m' n e' _ b' U ay ar ah) hm'
  ·simp only[if_neg hm] at J;simp only[if_pos hm',v6] at U;subst U;exact absurd (h.cN m n e _ b' J ay ah ar) hm
  ·simp only[if_neg hm] at J;simp only[if_neg hm'] at U;exact h.cN m m' e e' b' J U ah ar
 ·by_cases hmn:m=n
  ·subst hmn;rcases h.dR _ _ hm with k | ⟨e',k,hle⟩
   ·rw[ay] at k;cases k
   ·rw[ay] at k;cases k;exact .inr ⟨_,if_pos rfl,hle.trans (.inr ⟨_,_,_,_,rfl,rfl,by omega,fun e=>by omega⟩)⟩
  ·simp only[if_neg hmn];exact h.dR _ _ hm
theorem FD(n:Nat):(Builtin.zeroCells #[Value.int .i64 0] n).toList=(List.replicate n (0:Int)).map (Value.int .i64):=by
 simp only[Builtin.zeroCells,List.size_toArray,List.length_singleton,Nat.mul_one,Nat.mod_one,List.map_replicate];apply List.ext_getElem?;intro k;simp[List.getElem?_replicate];by_cases h:k<n
 ·rw[if_pos h,List.getElem?_range h];rfl
 ·rw[if_neg h,zy9 (by simpa using h)];rfl
theorem Eo{w:World}{D:aP}{E:aY} : ∀ {xs:List Int} {cs:List Value},aM w D E (xs.map (I.int .i64)) cs→cs=xs.map (Value.int .i64)∧∀ x∈xs,IntKind.i64.min≤x∧x≤IntKind.i64.max
 | [],cs,h=>by
  simp only[zy1,aM] at h;subst h;exact ⟨rfl,by simp⟩
 |x::xs,cs,h=>by
  simp only[Z4,aM] at h;obtain ⟨c1,c2,rfl,J,U⟩:=h;obtain ⟨rfl,ah⟩:=Eo U;have h1':c1=[.int .i64 x]∧IntKind.i64.min≤x∧x≤IntKind.i64.max:=J;obtain ⟨rfl,ar⟩:=h1';refine ⟨rfl,fun y hy =>?_⟩;rcases zx3.1 hy with rfl | hy
  ·exact ar
  ·exact ah y hy
theorem aU.A6(h:aU c A a w D E){n:Nat}{T:TypeId}{cap m':Nat}{es ys:List Int}{cs:Array Value}{aG:Option (Nat×Nat)}(hn:A.o n=some (.dH T es))(ay:E n=some (.rw aG es.length))(hr:∀ x∈es++ys,IntKind.i64.min≤x∧x≤IntKind.i64.max)
  (hne:ys≠[]) (hcs:cs.toList=(es++ys++List.replicate m' 0).map (Value.int .i64)) (hlen:es.length+ys.length+m'=cap) (hcap:cap≤maxLen) :
  aU c (A.aV n (.dH T (es++ys))) a (w.drew.alloc (.cells cs T)) D (fun m=>if m=n then some (.rw (some (w.heap.size,cap)) (es.length+ys.length)) else E m):=by
 have hlast:0<ys.length:=List.length_pos_iff.2 hne;have hheap:∀ b,b<w.heap.size→(w.drew.alloc (.cells cs T)).heap[b]?=w.heap[b]?:=fun b hb=>Below.heap_alloc w.drew _ b hb;have ao:dV w D E (w.drew.alloc (.cells cs T)) D (fun m=>if m=n then some (.rw (some (w.heap.size,cap)) (es.length+ys.length)) else E m):=by
  have eP:∀ {m:Nat} {e:bM},E m=some e→e.eh=true→(if m=n then some (.rw (some (w.heap.size,cap)) (es.length+ys.length)) else E m)=some e:=fun {m e} he hfx=>by
   have:m≠n:=fun e=>by rw[e,ay] at he;cases he;cases hfx
   rw[if_neg this];exact he
  refine ⟨fun _ _ h=>h,fun b o v _ hv =>?_,fun m b aX he=>eP he rfl,fun m blk' l he =>?_,fun m b he=>eP he rfl,fun m b he=>eP he rfl,fun b es ck _ hm=>(hheap b (fM hm)).trans hm⟩
  ·rw[World.cell?_of_block (hheap b (World.block_lt_of_cell? w _ hv))];exact hv
  ·by_cases hm:m=n
   ·subst hm;rw[ay] at he;simp only[v6,bM.rw.injEq] at he;exact ⟨_,_,if_pos rfl,by omega,fun e=>by omega⟩
   ·exact ⟨blk',l,by simp only[if_neg hm];exact he,Z3 _,fun _=>rfl⟩
 refine ⟨h.sz,h.eD.mono fun B _ hB=>(hheap B (Y4.1 hB).1).trans hB,fun t=>aZ.later ao (h.dQ t),h.dM.trans ⟨rfl,rfl,rfl,by simp,fun k hk=>hheap k (h.old hk)⟩,h.c6,fun b o hd'=>by have:=h.aQ b o hd';simp;omega,fun m =>?_,?_,fun m e hm =>?_,h.eU,h.cT,h.eX,h.ku ao⟩
 ·simp only[ai.aV];by_cases hm:m=n
  ·subst hm;simp only[if_true,cZ];exact ⟨some (w.heap.size,cap),by simp,hr,cs,m',.inl h.dM.size,heap_alloc_new w.drew _,hcs,by simp[hne],by simp only[Z6];exact hlen,hcap,fun o ho=>absurd (h.aQ _ o ho) (Nat.lt_irrefl _)⟩
  ·simp only[if_neg hm];exact (h.bP m).later ao (by simp only[if_neg hm]) fun e b he hb=>⟨hheap b (h.fY he hb),fun _ ho=>ho⟩
 ·intro m m' e e' b J U ah ar;by_cases hm:m=n <;>by_cases hm':m'=n
  ·rw[hm,hm']
  ·simp only[if_pos hm,v6] at J;simp only[if_neg hm'] at U;subst J;simp only[bM.aG,v6] at ah;have:=h.fY U ar;omega
  ·simp only[if_neg hm] at J;simp only[if_pos hm',v6] at U;subst U;simp only[bM.aG,v6] at ar;have:=h.fY J ah;omega
  ·simp only[if_neg hm] at J;simp only[if_neg hm'] at U;exact h.cN m m' e e' b J U ah ar
 ·by_cases hmn:m=n
  ·subst hmn;rcases h.dR _ _ hm with k | ⟨e',k,hle⟩
   ·rw[ay] at k;cases k
   ·rw[ay] at k;cases k;exact .inr ⟨_,if_pos rfl,hle.trans (.inr ⟨_,_,_,_,rfl,rfl,by omega,fun e=>by omega⟩)⟩
  ·simp only[if_neg hmn];exact h.dR _ _ hm
theorem aU.Xd(h:aU c A a w D E){n:Nat}{T:TypeId}{b cap m':Nat}{es ys:List Int}{cs:Array Value}(hn:A.o n=some (.dH T es))(ay:E n=some (.rw (some (b,cap)) es.length))(hb:w.heap[b]?=some (.cells cs T (0,0)))
  (hr:∀ x∈es++ys,IntKind.i64.min≤x∧x≤IntKind.i64.max) (hne:ys≠[]) (hlen:es.length+ys.length+m'=cap) (hcap:cap≤maxLen) (hD:∀ o,¬ D b o) (hbase:c.e6 b) :
  aU c (A.aV n (.dH T (es++ys))) a (w.setRow b ((es++ys++List.replicate m' 0).map (Value.int .i64)).toArray) D (fun m=>if m=n then some (.rw (some (b,cap)) (es.length+ys.length)) else E m):=by
 have hlast:0<ys.length:=List.length_pos_iff.2 hne;have ao:dV w D E (w.setRow b ((es++ys++List.replicate m' 0).map (Value.int .i64)).toArray) D (fun m=>if m=n then some (.rw (some (b,cap)) (es.length+ys.length)) else E m):=by
  have eP:∀ {m:Nat} {e:bM},E m=some e→e.eh=true→(if m=n then some (.rw (some (b,cap)) (es.length+ys.length)) else E m)=some e:=fun {m e} he hfx=>by
   have:m≠n:=fun e=>by rw[e,ay] at he;cases he;cases hfx
   rw[if_neg this];exact he
  refine ⟨fun _ _ h=>h,fun b1 o v af hv =>?_,fun m b aX he=>eP he rfl,fun m blk' l he =>?_,fun m b he=>eP he rfl,fun m b he=>eP he rfl,fun b1 es ck _ hm=>(setRow_other w b b1 _ (fun e=>by rw[e,hb] at hm;cases hm)).trans hm⟩
  ·by_cases hbb:b1=b
   ·subst hbb;exact absurd af (hD o)
   ·rw[uZ _ _ _ _ hbb];exact hv
  ·by_cases hm:m=n
   ·subst hm;rw[ay] at he;simp only[v6,bM.rw.injEq] at he;exact ⟨_,_,if_pos rfl,by omega,fun e=>by omega⟩
   ·exact ⟨blk',l,by simp only[if_neg hm];exact he,Z3 _,fun _=>rfl⟩
 refine ⟨h.sz,h.eD.mono fun B _ hB=>(setRow_other w b B _ (fun e=>by rw[e,hb] at hB;cases hB)).trans hB,fun t=>aZ.later ao (h.dQ t),we h.dM hbase _,h.c6,fun b1 o af=>by have:=h.aQ b1 o af;simpa[World.setRow] using this,fun m =>?_,?_,fun m e hm =>?_,h.eU,h.cT,h.eX,h.ku ao⟩
 ·simp only[ai.aV];by_cases hm:m=n
  ·subst hm;simp only[if_true,cZ];exact ⟨some (b,cap),by simp,hr,_,m',hbase,setRow_heap w b cs _ T _ hb,by simp,by simp[hne],by simp only[Z6];exact hlen,hcap,hD⟩
  ·simp only[if_neg hm];refine (h.bP m).later ao (by simp only[if_neg hm]) fun e b1 he hb'=>⟨setRow_other w b b1 _ (fun e1=>hm (h.cN m n e _ b he ay (by rw[hb',e1]) rfl)),fun _ ho=>ho⟩
 ·intro m m' e e' b' J U ah ar;by_cases hm:m=n <;>by_cases hm':m'=n
  ·rw[hm,hm']
  ·simp only[if_pos hm,v6] at J;simp only[if_neg hm'] at U;subst J;exact absurd (h.cN m' n e' _ b' U ay ar ah) hm'
  ·simp only[if_neg hm] at J;simp only[if_pos hm',v6] at U;subst U;exact absurd (h.cN m n e _ b' J ay ah ar) hm
  ·simp only[if_neg hm] at J;simp only[if_neg hm'] at U;exact h.cN m m' e e' b' J U ah ar
 ·by_cases hmn:m=n
  ·subst hmn;rcases h.dR _ _ hm with k | ⟨e',k,hle⟩
   ·rw[ay] at k;cases k
   ·rw[ay] at k;cases k;exact .inr ⟨_,if_pos rfl,hle.trans (.inr ⟨_,_,_,_,rfl,rfl,by omega,fun e=>by omega⟩)⟩
  ·simp only[if_neg hmn];exact h.dR _ _ hm
end
section
variable {c:cV} {A:ai} {o:Oper}
theorem LY{t e:TypeId}{s x:Operand}{s' x':aO}{n k sz:Nat}{es ys:List I}{z:I}(ho:o.op=.call { callee:=.builtin .append,args := #[s,x],argTypes := #[t,t] })(ht:c.P.underlying t=some (.slice e))(hs':br c.P t s=some s')(hx':br c.P t x=some x')
  (hz:gm c.P e=some z) (hzs:z.size=c.P.cellsOf e) (hpos:0<c.P.cellsOf e) (ab:ak A s'=.own n k) (hn:A.o n=some (.bY e (c.P.cellsOf e) es)) (hk:k=es.length) (hx:ak A x'=.slice sz ys) (hsz:sz=c.P.cellsOf e) (hne:ys≠[])
  (h63:es.length+ys.length≤maxLen) (hby:(es.length+ys.length)*c.P.bytesOf e≤140737488355328) (af:∀ k,o.dst=some k→k<c.n) :
  h1 c A o ((A.aV n (.bY e (c.P.cellsOf e) (es++ys))).aT o.dst (.own n (es.length+ys.length))):=by
 intro a w D E hsim;obtain ⟨i,zv,hi,hzv,hzr⟩:=lz hz;have hci:c.P.cellsOf e=i.size:=by simp[Program.cellsOf,hi]
 have hbi:c.P.bytesOf e=i.bytes:=by simp[Program.bytesOf,hi]
 have hzc:zv.cells.size=i.size:=by
  have:=al.length _ _ (hzr w D E);rw[zz6] at this;rw[this,hzs,hci]
 subst hk;have v1:=bV hsim hs';rw[ab] at v1;have v2:=bV hsim hx';rw[hx] at v2;obtain ⟨ad,cp,hxv,hc1,hc2,hc3,hc4⟩:=mX v2;obtain ⟨b2,off2,news,rfl,hr2,hys⟩:=hc3.resolve_left hne;have hobj:=hsim.bP n;rw[hn] at hobj;obtain ⟨aG,ay,hesz,hblk⟩:=hobj;have hnl:news.length=ys.length*i.size:=by rw[aM.length _ _ hys,I.iv _ hc4,hsz,hci]
 have hysz:∀ y∈ys,y.size=c.P.cellsOf e:=fun y hy=>by rw[hc4 y hy,hsz]
 have hnews:∀ j v,news[j]?=some v→w.cell? ((⟨b2,off2,none⟩:Addr).add j)=some v:=fun j v hj=>by
  rw[Addr.add_lit];exact (hr2 j v hj).1
 have J:=aM.lV _ _ hys;have hsv:match aG with | none=>a.eval s=.slice none 0 0 | some (b,cap)=>a.eval s=.slice (some ⟨b,0,none⟩) es.length cap:=by
  obtain ⟨cs,q1,q2⟩:=v1;simp only[al] at q2;obtain ⟨blk',l,q3,q4,q5,q6⟩:=q2;rw[ay] at q3;simp only[v6,bM.rw.injEq] at q3;obtain ⟨rfl,rfl⟩:=q3;have q7:=q6 rfl;simp only[bA,I.isAgg] at q1;cases aG with
  |none=>simp only at q7 ⊢;rw[q7] at q1;simpa using q1.symm
  |some bc=>simp only at q7 ⊢;rw[q7] at q1;simpa using q1.symm
 have hl0:0<ys.length:=List.length_pos_iff.2 hne;have h63':=h63;simp only[maxLen] at h63';have run:∀ v' w',(Builtin.append_ #[t,t] o.type #[a.eval s,.slice (some ⟨b2,off2,none⟩) ys.length cp]).run c.P w=.ok v' w'→(execOp a.eval o).run c.P w=.ok (.value v') w':=by
  intro v' w' hr;unfold execOp;simp only[ho,resolve,invoke,builtin,Sem.run_bind,Sem.run_pure,Result.andThen_ok,List.map_toArray,Z4,zy1,hxv,hr]
 have put:∀ (w':World) (b cap:Nat) (v':Value),v'=.slice (some ⟨b,0,none⟩) (es.length+ys.length) cap→aU c (A.aV n (.bY e (c.P.cellsOf e) (es++ys))) a w' D (fun m=>if m=n then some (.rw (some (b,cap)) (es.length+ys.length)) else E m) →
   bX c ((A.aV n (.bY e (c.P.cellsOf e) (es++ys))).aT o.dst (.own n (es.length+ys.length))) (a.put o.dst v') w':=by
  rintro w' b cap v' rfl hs2;refine ⟨D,_,hs2.aT af ⟨_,by simp[bA,I.isAgg];rfl,?_⟩⟩;simp only[al,if_true];exact ⟨some (b,cap),es.length+ys.length,rfl,Z3 _,⟨_,_,_,rfl⟩,fun _=>rfl⟩
 cases aG with
 |none =>
  simp only at hblk hsv;subst hblk;have hr:=run_append_nil (P:=c.P) w t o.type e i zv ht hi hzv ⟨b2,off2,none⟩ ys.length cp news hnl hnews hl0 (by simp at h63';omega) (by rw[hbi] at hby;simp at hby;omega);rw[←hsv] at hr;have hge:=grownCap_ge w ys.length 0 e;refine ⟨_,.inl ⟨_,run _ _ hr,put _ w.heap.size (grownCap w ys.length 0 e) _ (by simp) ?_⟩⟩;refine hsim.A5 (pre:=[]) (news:=news) (rest:=(Builtin.zeroCells zv.cells (grownCap w ys.length 0 e-ys.length)).toList) hn ay (by simp[aM]) hys hysz hne (by simp) ?_ (by simpa using hge) (grownCap_le_maxLen w ys.length 0 e (by simpa using h63));simp only[Array.size_append,List.size_toArray,size_zeroCells,hzc,hnl,hci,←Nat.add_mul]
  congr 1
  omega
 |some bc =>
  obtain ⟨b,cap⟩:=bc;simp only at hblk hsv;obtain ⟨cs,pre,rest,k1,k2,k3,k4,k5,k6,k7,k8⟩:=hblk;have hpl:pre.length=es.length*i.size:=by rw[aM.length _ _ k4,I.iv _ hesz,hci]
  by_cases hroom:es.length+ys.length≤cap
  ·have hfit:es.length*i.size+news.length≤cs.size:=by rw[hnl,k5,hci,←Nat.add_mul];exact Nat.mul_le_mul_right _ hroom
   have hr:=run_append_room (P:=c.P) w t o.type e i ht hi b es.length cap cs k2 ⟨b2,off2,none⟩ ys.length cp news hnl hnews J hroom hfit;rw[←hsv] at hr;refine ⟨_,.inl ⟨_,run _ _ hr,put _ b cap _ rfl ?_⟩⟩;have e1:cs.toList.take (es.length*i.size)=pre:=by rw[k3,←hpl];exact List.take_left
   have e2:cs.toList.drop (es.length*i.size+news.length)=rest.drop news.length:=by rw[k3,←hpl,←List.drop_drop,List.drop_left]
   rw[e1,e2];exact hsim.Xc hn ay k2 k3 k4 hys hysz hne k5 hroom k7 k8 k1
  ·have holds:∀ j v,pre[j]?=some v→w.cell? ((⟨b,0,none⟩:Addr).add j)=some v:=fun j v hj=>by
    rw[Addr.add_lit,Z1,cell_of_row w b j cs e (0,0) k2,←zy2,k3];have:j<pre.length:=(Z5.1 hj).1;rw[Y8 this];exact hj
   have hr:=run_append_grow (P:=c.P) w t o.type e i zv ht hi hzv ⟨b,0,none⟩ es.length cap pre hpl holds ⟨b2,off2,none⟩ ys.length cp news hnl hnews (by omega) (by omega) (growslice_fits (by omega) (by rw[←hbi];exact hby));rw[←hsv] at hr;have hge:=grownCap_ge w (es.length+ys.length) cap e;refine ⟨_,.inl ⟨_,run _ _ hr,put _ w.heap.size (grownCap w (es.length+ys.length) cap e) _ rfl ?_⟩⟩;refine hsim.A5 (pre:=pre) (news:=news) (rest:=(Builtin.zeroCells zv.cells (grownCap w (es.length+ys.length) cap e-(es.length+ys.length))).toList) hn ay k4 hys hysz hne (by simp) ?_ hge (grownCap_le_maxLen w _ cap e h63);simp only[Array.size_append,List.size_toArray,size_zeroCells,hzc,hnl,hpl,hci,←Nat.add_mul]
   congr 1
   omega
theorem LZ{t e:TypeId}{s x:Operand}{s' x':aO}{n k sz:Nat}{es ys:List Int}(ho:o.op=.call { callee:=.builtin .append,args := #[s,x],argTypes := #[t,t] })(ht:c.P.underlying t=some (.slice e))(hs':br c.P t s=some s')(hx':br c.P t x=some x')
  (hz:gm c.P e=some (.int .i64 0)) (h1c:c.P.cellsOf e=1) (ab:ak A s'=.own n k) (hn:A.o n=some (.dH e es)) (hk:k=es.length) (hx:ak A x'=.slice sz (ys.map (.int .i64))) (hne:ys≠[])
  (h63:es.length+ys.length≤maxLen) (hby:(es.length+ys.length)*c.P.bytesOf e≤140737488355328) (af:∀ k,o.dst=some k→k<c.n) :
  h1 c A o ((A.aV n (.dH e (es++ys))).aT o.dst (.own n (es.length+ys.length))):=by
 intro a w D E hsim;obtain ⟨i,zv,hi,hzv,hzr⟩:=lz hz;have hci:c.P.cellsOf e=i.size:=by simp[Program.cellsOf,hi]
 have hi1:i.size=1:=hci.symm.trans h1c;have hbi:c.P.bytesOf e=i.bytes:=by simp[Program.bytesOf,hi]
 have hzv2:zv.cells = #[Value.int .i64 0]:=by
  have:zv.cells.toList=[Value.int .i64 0]:=(hzr w D E).1;exact Array.toList_inj.1 this
 subst hk;have v1:=bV hsim hs';rw[ab] at v1;have v2:=bV hsim hx';rw[hx] at v2;obtain ⟨ad,cp,hxv,hc1,hc2,hc3,hc4⟩:=mX v2;obtain ⟨b2,off2,news,rfl,hr2,hys⟩:=hc3.resolve_left (by simpa using hne);rw[Z8] at hxv;obtain ⟨aG,ay,hesr,hblk⟩:=hsim.rO hn;obtain ⟨hnw,hyr⟩:=Eo hys;have hnl0:news.length=ys.length:=by rw[hnw,Z8]
 have hnl:news.length=ys.length*i.size:=by rw[hi1,Nat.mul_one,hnl0]
 have hrr:∀ x∈es++ys,IntKind.i64.min≤x∧x≤IntKind.i64.max:=fun x hx=>by
  rcases zy0.1 hx with h | h
  ·exact hesr x h
  ·exact hyr x h
 have hnews:∀ j v,news[j]?=some v→w.cell? ((⟨b2,off2,none⟩:Addr).add j)=some v:=fun j v hj=>by
  rw[Addr.add_lit];exact (hr2 j v hj).1
 have J:=aM.lV _ _ hys;have hsv:match aG with | none=>a.eval s=.slice none 0 0 | some (b,cap)=>a.eval s=.slice (some ⟨b,0,none⟩) es.length cap:=by
  obtain ⟨cs,q1,q2⟩:=v1;simp only[al] at q2;obtain ⟨blk',l,q3,q4,q5,q6⟩:=q2;rw[ay] at q3;simp only[v6,bM.rw.injEq] at q3;obtain ⟨rfl,rfl⟩:=q3;have q7:=q6 rfl;simp only[bA,I.isAgg] at q1;cases aG with
  |none=>simp only at q7 ⊢;rw[q7] at q1;simpa using q1.symm
  |some bc=>simp only at q7 ⊢;rw[q7] at q1;simpa using q1.symm
 have hl0:0<ys.length:=List.length_pos_iff.2 hne;have h63':=h63;simp only[maxLen] at h63';have run:∀ v' w',(Builtin.append_ #[t,t] o.type #[a.eval s,.slice (some ⟨b2,off2,none⟩) ys.length cp]).run c.P w=.ok v' w'→(execOp a.eval o).run c.P w=.ok (.value v') w':=by
  intro v' w' hr;unfold execOp;simp only[ho,resolve,invoke,builtin,Sem.run_bind,Sem.run_pure,Result.andThen_ok,List.map_toArray,Z4,zy1,hxv,hr]
 have put:∀ (w':World) (b cap:Nat) (v':Value),v'=.slice (some ⟨b,0,none⟩) (es.length+ys.length) cap→aU c (A.aV n (.dH e (es++ys))) a w' D (fun m=>if m=n then some (.rw (some (b,cap)) (es.length+ys.length)) else E m) →
   bX c ((A.aV n (.dH e (es++ys))).aT o.dst (.own n (es.length+ys.length))) (a.put o.dst v') w':=by
  rintro w' b cap v' rfl hs2;refine ⟨D,_,hs2.aT af ⟨_,by simp[bA,I.isAgg];rfl,?_⟩⟩;simp only[al,if_true];exact ⟨some (b,cap),es.length+ys.length,rfl,Z3 _,⟨_,_,_,rfl⟩,fun _=>rfl⟩
 cases aG with
 |none =>
  simp only at hblk hsv;subst hblk;have hr:=run_append_nil (P:=c.P) w t o.type e i zv ht hi hzv ⟨b2,off2,none⟩ ys.length cp news hnl hnews hl0 (by simp at h63';omega) (by rw[hbi] at hby;simp at hby;omega);rw[←hsv] at hr;have hge:=grownCap_ge w ys.length 0 e;refine ⟨_,.inl ⟨_,run _ _ hr,put _ w.heap.size (grownCap w ys.length 0 e) _ (by simp) ?_⟩⟩;refine hsim.A6 (m':=grownCap w ys.length 0 e-ys.length) hn ay hrr hne ?_ (by simp;omega) (grownCap_le_maxLen w ys.length 0 e (by simpa using h63));rw[hzv2];simp only[Array.toList_append,FD,List.nil_append,Y6,hnw]
 |some bc =>
  obtain ⟨b,cap⟩:=bc;simp only at hblk hsv;obtain ⟨cs,m,k1,k2,k3,k4,k5,k6,k7⟩:=hblk;have hcz:cs.size=cap:=by rw[←zz6,k3];simp;omega
  by_cases hroom:es.length+ys.length≤cap
  ·have hfit:es.length*i.size+news.length≤cs.size:=by rw[hnl,hi1];omega
   have hr:=run_append_room (P:=c.P) w t o.type e i ht hi b es.length cap cs k2 ⟨b2,off2,none⟩ ys.length cp news hnl hnews J hroom hfit;rw[←hsv] at hr;refine ⟨_,.inl ⟨_,run _ _ hr,put _ b cap _ rfl ?_⟩⟩;have e0:cs.toList.take (es.length*i.size)++news++cs.toList.drop (es.length*i.size+news.length)=(es++ys++List.replicate (m-ys.length) 0).map (Value.int .i64):=by
    rw[hi1,Nat.mul_one,hnl0,k3,hnw,←List.map_take,←List.map_drop,List.take_left,←List.drop_drop,List.drop_left];simp only[Y6,List.drop_replicate]
   rw[e0];exact hsim.Xd (m':=m-ys.length) hn ay k2 hrr hne (by omega) k6 k7 k1
  ·have hpl:(es.map (Value.int .i64)).length=es.length*i.size:=by rw[hi1];simp
   have holds:∀ j v,(es.map (Value.int .i64))[j]?=some v→w.cell? ((⟨b,0,none⟩:Addr).add j)=some v:=fun j v hj=>by
    rw[Addr.add_lit,Z1,cell_of_row w b j cs e (0,0) k2,←zy2,k3];have:j<(es.map (Value.int .i64)).length:=(Z5.1 hj).1;rw[Y6,Y8 this];exact hj
   have hr:=run_append_grow (P:=c.P) w t o.type e i zv ht hi hzv ⟨b,0,none⟩ es.length cap (es.map (Value.int .i64)) hpl holds ⟨b2,off2,none⟩ ys.length cp news hnl hnews (by omega) (by omega) (growslice_fits (by omega) (by rw[←hbi];exact hby));rw[←hsv] at hr;have hge:=grownCap_ge w (es.length+ys.length) cap e;refine ⟨_,.inl ⟨_,run _ _ hr,put _ w.heap.size (grownCap w (es.length+ys.length) cap e) _ rfl ?_⟩⟩;refine hsim.A6 (m':=grownCap w (es.length+ys.length) cap e-(es.length+ys.length)) hn ay hrr hne ?_ (by omega) (grownCap_le_maxLen w _ cap e h63);rw[hzv2];simp only[Array.toList_append,FD,Y6,hnw]
end
mutual
def I.only(p:Nat→Bool):I→Bool
 | .agg fs | .tuple fs=>I.ct p fs
 | .slice _ es=>I.ct p es
 | .ref x=>x.only p
 | .func _ caps=>I.ct p caps
 | .iface _ v=>v.only p
 | .ptr n _ | .own n _ | .view n _ _ _ _ | .mref n | .dk n=>p n
 | .df ks vs=>I.ct p ks&&I.ct p vs
 |_=>true
def I.ct(p:Nat→Bool):List I→Bool
 | []=>true
 |x::xs=>x.only p&&I.ct p xs
end
mutual
theorem kl(p:Nat→Bool):∀ x:I,x.bw=true→x.only p=true
 | .agg fs,h=>by simp only[I.bw,I.only] at *;exact nV p fs h
 | .slice _ es,h=>by simp only[I.bw,I.only] at *;exact nV p es h
 | .ref x,h=>by simp only[I.bw,I.only] at *;exact kl p x h
 | .func _ caps,h=>by simp only[I.bw,I.only] at *;exact nV p caps h
 | .iface _ v,h=>by simp only[I.bw,I.only] at *;exact kl p v h
 | .bool _,_ | .int _ _,_ | .bQ _,_ | .nilp,_ | .dA,_ | .dY,_ | .any,_ | .raw _,_ | .nils _,_ | .c0 _,_=>by simp[I.only]
 | .df ks vs,h=>by simp only[I.bw,I.only,t8] at *;exact ⟨nV p ks h.1,nV p vs h.2⟩
 | .ptr _ _,h | .own _ _,h | .view _ _ _ _ _,h | .mref _,h | .dk _,h | .undef,h | .du,h | .tuple _,h=>by simp[I.bw] at h
theorem nV(p:Nat→Bool):∀ xs:List I,I.cg xs=true→I.ct p xs=true
 | [],_=>rfl
 |x::xs,h=>by
  simp only[I.cg,I.ct,t8] at *;exact ⟨kl p x h.1,nV p xs h.2⟩
end
mutual
theorem al.c8{w:World}{D:aP}{E E':aY}{p:Nat→Bool}(ay:∀ n,p n=true→E' n=E n):∀ (x:I) (cs:List Value),x.only p=true→al w D E x cs→al w D E' x cs
 | .agg fs,cs,ho,hr=>by simp only[al,I.only] at *;exact aM.c8 ay fs cs ho hr
 | .bool b,cs,_,hr=>by simpa only[al] using hr
 | .int k n,cs,_,hr=>by simpa only[al] using hr
 | .bQ s,cs,_,hr=>by simpa only[al] using hr
 | .nilp,cs,_,hr=>by simpa only[al] using hr
 | .dA,cs,_,hr=>by simpa only[al] using hr
 | .dY,cs,_,hr | .any,cs,_,hr=>by simpa only[al] using hr
 | .raw _,cs,_,hr=>by simpa only[al] using hr
 | .nils _,cs,_,hr=>by simpa only[al] using hr
 | .c0 _,cs,_,hr=>by simpa only[al] using hr
 | .slice sz es,cs,ho,hr=>by
  simp only[al,I.only] at *;obtain ⟨a,cap,J,U,ah,ar,h5⟩:=hr;refine ⟨a,cap,J,U,ah,?_,h5⟩;rcases ar with ar | ⟨b,off,cs',h6,h7,h8⟩
  ·exact .inl ar
  ·exact .inr ⟨b,off,cs',h6,h7,aM.c8 ay es cs' ho h8⟩
 | .ref x,cs,ho,hr=>by
  simp only[al,I.only] at *;obtain ⟨b,off,cs',J,U,ah⟩:=hr;exact ⟨b,off,cs',J,U,al.c8 ay x cs' ho ah⟩
 | .func f caps,cs,ho,hr=>by
  simp only[al,I.only] at *;obtain ⟨vs,J,U⟩:=hr;exact ⟨vs,J,aF.c8 ay caps vs ho U⟩
 | .iface t v,cs,ho,hr=>by
  simp only[al,I.only] at *;obtain ⟨u,cs',J,U,ah⟩:=hr;exact ⟨u,cs',J,U,al.c8 ay v cs' ho ah⟩
 | .ptr n p,cs,ho,hr=>by
  simp only[al,I.only] at *;obtain ⟨b,aX,off,J,U⟩:=hr;exact ⟨b,aX,off,(ay n ho).trans J,U⟩
 | .own n k,cs,ho,hr=>by
  simp only[al,I.only] at *;obtain ⟨aG,l,J,U⟩:=hr;exact ⟨aG,l,(ay n ho).trans J,U⟩
 | .view n p _ _ _,cs,ho,hr=>by
  simp only[al,I.only] at *;obtain ⟨b,aX,off,l,J,U⟩:=hr;exact ⟨b,aX,off,l,(ay n ho).trans J,U⟩
 | .mref n,cs,ho,hr=>by
  simp only[al,I.only] at *;obtain ⟨b,J,U⟩:=hr;exact ⟨b,(ay n ho).trans J,U⟩
 | .dk n,cs,ho,hr=>by
  simp only[al,I.only] at *;obtain ⟨b,J,U⟩:=hr;exact ⟨b,(ay n ho).trans J,U⟩
 | .df ks vs,cs,ho,hr=>by
  simp only[al,I.only,t8] at *;obtain ⟨b,es,ck,J,U,ah,ar⟩:=hr;exact ⟨b,es,ck,J,U,aF.c8 ay ks _ ho.1 ah,aF.c8 ay vs _ ho.2 ar⟩
 | .undef,_,_,hr=>by simp only[al] at hr
 | .du,_,_,hr=>by simp only[al] at hr
 | .tuple _,_,_,hr=>by simp only[al] at hr
theorem aM.c8{w:World}{D:aP}{E E':aY}{p:Nat→Bool}(ay:∀ n,p n=true→E' n=E n):∀ (xs:List I) (cs:List Value),I.ct p xs=true→aM w D E xs cs→aM w D E' xs cs
 | [],cs,_,hr=>by simpa only[aM] using hr
 |x::xs,cs,ho,hr=>by
  simp only[aM,I.ct,t8] at *;obtain ⟨c1,c2,J,U,ah⟩:=hr;exact ⟨c1,c2,J,al.c8 ay x c1 ho.1 U,aM.c8 ay xs c2 ho.2 ah⟩
theorem aF.c8{w:World}{D:aP}{E E':aY}{p:Nat→Bool}(ay:∀ n,p n=true→E' n=E n):∀ (xs:List I) (vs:List Value),I.ct p xs=true→aF w D E xs vs→aF w D E' xs vs
 | [],vs,_,hr=>by simpa only[aF] using hr
 |x::xs,vs,ho,hr=>by
  simp only[aF,I.ct,t8] at *;obtain ⟨v,rest,cs,J,U,ah,ar⟩:=hr;exact ⟨v,rest,cs,J,U,al.c8 ay x cs ho.1 ah,aF.c8 ay xs rest ho.2 ar⟩
end
theorem aZ.c8{w:World}{D:aP}{E E':aY}{p:Nat→Bool}(ay:∀ n,p n=true→E' n=E n){x:I}{v:Value}(ho:x.only p=true)(hr:aZ w D E x v):aZ w D E' x v:=by
 cases x <;>simp only[aZ] at * <;>first
  |exact hr
  |(obtain ⟨vs,J,U⟩:=hr;exact ⟨vs,J,aF.c8 ay _ _ (by simpa[I.only] using ho) U⟩)
  |(obtain ⟨cs,J,U⟩:=hr;exact ⟨cs,J,al.c8 ay _ _ ho U⟩)
def aq.only(p:Nat→Bool):aq→Bool
 | .box x=>x.only p
 | .bY _ _ es=>I.ct p es
 | .dG _=>true
 | .dH _ _=>true
 | .bt ks vs | .it ks vs _ _=>I.ct p ks&&I.ct p vs
def bI:List (Nat×Nat)→Nat→Nat
 | [],n=>n
 |(a,b)::r,n=>if n=a then b else bI r n
mutual
def I.bl(ρ:Nat→Nat):I→I
 | .agg fs=>.agg (I.dT ρ fs)
 | .tuple fs=>.tuple (I.dT ρ fs)
 | .slice sz es=>.slice sz (I.dT ρ es)
 | .ref x=>.ref (x.bl ρ)
 | .func f caps=>.func f (I.dT ρ caps)
 | .iface t v=>.iface t (v.bl ρ)
 | .ptr n p=>.ptr (ρ n) p
 | .own n k=>.own (ρ n) k
 | .view n p sz lo k=>.view (ρ n) p sz lo k
 | .mref n=>.mref (ρ n)
 | .dk n=>.dk (ρ n)
 | .df ks vs=>.df (I.dT ρ ks) (I.dT ρ vs)
 | .undef=>.undef | .du=>.du | .bool b=>.bool b | .int k n=>.int k n | .bQ s=>.bQ s
 | .nilp=>.nilp | .dA=>.dA | .dY=>.dY | .any=>.any | .raw u=>.raw u | .nils z=>.nils z | .c0 z=>.c0 z
def I.dT(ρ:Nat→Nat):List I→List I
 | []=>[]
 |x::xs=>x.bl ρ::I.dT ρ xs
end
def aq.bl(ρ:Nat→Nat):aq→aq
 | .box x=>.box (x.bl ρ)
 | .bY T sz es=>.bY T sz (I.dT ρ es)
 | .dG x=>.dG x
 | .dH T xs=>.dH T xs
 | .bt ks vs=>.bt (I.dT ρ ks) (I.dT ρ vs)
 | .it ks vs left cur=>.it (I.dT ρ ks) (I.dT ρ vs) left cur
mutual
theorem rv(ρ:Nat→Nat):∀ x:I,(x.bl ρ).size=x.size
 | .agg fs=>by simp only[I.bl,I.size];exact EH ρ fs
 | .undef | .du | .bool _ | .int _ _ | .bQ _ | .nilp | .dA | .dY | .any | .raw _ | .nils _ | .c0 _ | .slice _ _ | .tuple _ | .ref _ | .func _ _ | .iface _ _ | .ptr _ _ | .own _ _ | .view _ _ _ _ _ | .mref _ | .dk _ | .df _ _=>by simp only[I.bl,I.size]
theorem EH(ρ:Nat→Nat):∀ xs:List I,I.sizes (I.dT ρ xs)=I.sizes xs
 | []=>rfl
 |x::xs=>by simp only[I.dT,I.sizes,rv ρ x,EH ρ xs]
end
mutual
theorem xf(ρ:Nat→Nat):∀ x:I,(x.bl ρ).aX=x.aX
 | .agg fs=>by simp only[I.bl,I.aX,cP.eG.injEq];exact EG ρ fs
 | .undef | .du | .bool _ | .int _ _ | .bQ _ | .nilp | .dA | .dY | .any | .raw _ | .nils _ | .c0 _ | .slice _ _ | .tuple _ | .ref _ | .func _ _ | .iface _ _ | .ptr _ _ | .own _ _ | .view _ _ _ _ _ | .mref _ | .dk _ | .df _ _=>by simp only[I.bl,I.aX]
theorem EG(ρ:Nat→Nat):∀ xs:List I,I.cX (I.dT ρ xs)=I.cX xs
 | []=>rfl
 |x::xs=>by simp only[I.dT,I.cX,xf ρ x,EG ρ xs]
end
theorem XX(ρ:Nat→Nat)(x:I):(x.bl ρ).isAgg=x.isAgg:=by cases x <;>simp[I.bl,I.isAgg]
theorem rz(ρ:Nat→Nat)(xs:List I):I.dT ρ xs=xs.map (I.bl ρ):=by
 induction xs with
 |nil=>rfl
 |cons x xs ih=>simp[I.dT,ih]
theorem ry(ρ:Nat→Nat)(xs:List I):(I.dT ρ xs).length=xs.length:=by rw[rz];simp
theorem ED(ρ:Nat→Nat)(x:I)(v:Value)(cs:List Value):bA (x.bl ρ) v cs=bA x v cs:=by simp only[bA,XX]
mutual
/-- A value,its names put for others that stand for the same. -/
theorem al.bl{w:World}{D:aP}{E E':aY}{p:Nat→Bool}{ρ:Nat→Nat}(ay:∀ n,p n=true→E' (ρ n)=E n):∀ (x:I) (cs:List Value),x.only p=true→(al w D E' (x.bl ρ) cs↔al w D E x cs)
 | .agg fs,cs,ho=>by simp only[al,I.bl,I.only] at *;exact aM.bl ay fs cs ho
 | .bool b,cs,_ | .int k n,cs,_ | .bQ s,cs,_ | .nilp,cs,_ | .dA,cs,_ | .dY,cs,_ | .any,cs,_ | .raw _,cs,_ | .nils _,cs,_ | .c0 _,cs,_ | .undef,cs,_ | .du,cs,_ | .tuple _,cs,_=>by simp only[al,I.bl]
 | .slice sz es,cs,ho=>by
  simp only[al,I.bl,I.only,ry] at *;have e1:(I.dT ρ es=[])↔es=[]:=by rw[←List.length_eq_zero_iff,ry,List.length_eq_zero_iff]
  have e2:(∀ e∈I.dT ρ es,e.size=sz)↔∀ e∈es,e.size=sz:=by
   rw[rz];constructor
   ·intro h e he;rw[←rv ρ e];exact h _ (zz5.2 ⟨e,he,rfl⟩)
   ·intro h e he;obtain ⟨e',he',rfl⟩:=zz5.1 he;rw[rv];exact h _ he'
  simp only[e1,e2];constructor
  ·rintro ⟨a,cap,J,U,ah,ar,h5⟩;refine ⟨a,cap,J,U,ah,?_,h5⟩;rcases ar with ar | ⟨b,off,cs',h6,h7,h8⟩
   ·exact .inl ar
   ·exact .inr ⟨b,off,cs',h6,h7,(aM.bl ay es cs' ho).1 h8⟩
  ·rintro ⟨a,cap,J,U,ah,ar,h5⟩;refine ⟨a,cap,J,U,ah,?_,h5⟩;rcases ar with ar | ⟨b,off,cs',h6,h7,h8⟩
   ·exact .inl ar
   ·exact .inr ⟨b,off,cs',h6,h7,(aM.bl ay es cs' ho).2 h8⟩
 | .ref x,cs,ho=>by
  simp only[al,I.bl,I.only] at *;constructor
  ·rintro ⟨b,off,cs',J,U,ah⟩;exact ⟨b,off,cs',J,U,(al.bl ay x cs' ho).1 ah⟩
  ·rintro ⟨b,off,cs',J,U,ah⟩;exact ⟨b,off,cs',J,U,(al.bl ay x cs' ho).2 ah⟩
 | .func f caps,cs,ho=>by
  simp only[al,I.bl,I.only] at *;constructor
  ·rintro ⟨vs,J,U⟩;exact ⟨vs,J,(aF.bl ay caps vs ho).1 U⟩
  ·rintro ⟨vs,J,U⟩;exact ⟨vs,J,(aF.bl ay caps vs ho).2 U⟩
 | .iface t v,cs,ho=>by
  simp only[al,I.bl,I.only,ED] at *;constructor
  ·rintro ⟨u,cs',J,U,ah⟩;exact ⟨u,cs',J,U,(al.bl ay v cs' ho).1 ah⟩
  ·rintro ⟨u,cs',J,U,ah⟩;exact ⟨u,cs',J,U,(al.bl ay v cs' ho).2 ah⟩
 | .ptr n p,cs,ho=>by simp only[al,I.bl,I.only] at *;rw[ay n ho]
 | .own n k,cs,ho=>by simp only[al,I.bl,I.only] at *;rw[ay n ho]
 | .view n p _ _ _,cs,ho=>by simp only[al,I.bl,I.only] at *;rw[ay n ho]
 | .mref n,cs,ho=>by simp only[al,I.bl,I.only] at *;rw[ay n ho]
 | .dk n,cs,ho=>by simp only[al,I.bl,I.only] at *;rw[ay n ho]
 | .df ks vs,cs,ho=>by
  simp only[al,I.bl,I.only,t8] at *;constructor
  ·rintro ⟨b,es,ck,J,U,ah,ar⟩;exact ⟨b,es,ck,J,U,(aF.bl ay ks _ ho.1).1 ah,(aF.bl ay vs _ ho.2).1 ar⟩
  ·rintro ⟨b,es,ck,J,U,ah,ar⟩;exact ⟨b,es,ck,J,U,(aF.bl ay ks _ ho.1).2 ah,(aF.bl ay vs _ ho.2).2 ar⟩
theorem aM.bl{w:World}{D:aP}{E E':aY}{p:Nat→Bool}{ρ:Nat→Nat}(ay:∀ n,p n=true→E' (ρ n)=E n):∀ (xs:List I) (cs:List Value),I.ct p xs=true→(aM w D E' (I.dT ρ xs) cs↔aM w D E xs cs)
 | [],cs,_=>by simp only[aM,I.dT]
 |x::xs,cs,ho=>by
  simp only[aM,I.dT,I.ct,t8] at *;constructor
  ·rintro ⟨c1,c2,J,U,ah⟩;exact ⟨c1,c2,J,(al.bl ay x c1 ho.1).1 U,(aM.bl ay xs c2 ho.2).1 ah⟩
  ·rintro ⟨c1,c2,J,U,ah⟩;exact ⟨c1,c2,J,(al.bl ay x c1 ho.1).2 U,(aM.bl ay xs c2 ho.2).2 ah⟩
theorem aF.bl{w:World}{D:aP}{E E':aY}{p:Nat→Bool}{ρ:Nat→Nat}(ay:∀ n,p n=true→E' (ρ n)=E n):∀ (xs:List I) (vs:List Value),I.ct p xs=true→(aF w D E' (I.dT ρ xs) vs↔aF w D E xs vs)
 | [],vs,_=>by simp only[aF,I.dT]
 |x::xs,vs,ho=>by
  simp only[aF,I.dT,I.ct,t8,ED] at *;constructor
  ·rintro ⟨v,rest,cs,J,U,ah,ar⟩;exact ⟨v,rest,cs,J,U,(al.bl ay x cs ho.1).1 ah,(aF.bl ay xs rest ho.2).1 ar⟩
  ·rintro ⟨v,rest,cs,J,U,ah,ar⟩;exact ⟨v,rest,cs,J,U,(al.bl ay x cs ho.1).2 ah,(aF.bl ay xs rest ho.2).2 ar⟩
end
theorem aZ.bl{w:World}{D:aP}{E E':aY}{p:Nat→Bool}{ρ:Nat→Nat}(ay:∀ n,p n=true→E' (ρ n)=E n){x:I}{v:Value}(ho:x.only p=true):aZ w D E' (x.bl ρ) v↔aZ w D E x v:=by
 cases x <;>first
  |(simp only[aZ,I.bl];done)
  |(simp only[aZ,I.bl,I.only] at ho ⊢
    constructor
    ·rintro ⟨vs,J,U⟩;exact ⟨vs,J,(aF.bl ay _ _ ho).1 U⟩
    ·rintro ⟨vs,J,U⟩;exact ⟨vs,J,(aF.bl ay _ _ ho).2 U⟩)
  |(have key:=fun x cs=>al.bl (w:=w) (D:=D) ay x cs
    refine exists_congr fun cs=>and_congr ?_ ?_
    ·first | exact Iff.rfl | simp only[bA,I.bl,I.isAgg]
    ·first | exact key _ cs ho | (have h:=key _ cs ho;simpa only[I.bl] using h))
mutual
/-- Values that read no memory: but they may name objects. -/
def I.ez:I→Bool
 | .agg fs | .tuple fs=>I.jR fs
 | .func _ caps=>I.jR caps
 | .iface _ v=>v.ez
 | .slice _ es=>es.isEmpty
 | .ref _ | .df _ _=>false
 |_=>true
def I.jR:List I→Bool
 | []=>true
 |x::xs=>x.ez&&I.jR xs
end
def aq.ez:aq→Bool
 | .box x=>x.ez
 | .bY _ _ es=>I.jR es
 | .dH _ _=>true
 | .dG _=>true
 | .bt ks vs=>I.jR ks&&I.jR vs
 | .it .. =>false
mutual
theorem al.ez{w w':World}{D D':aP}{E:aY} : ∀ (x:I) (cs:List Value),x.ez=true→al w D E x cs→al w' D' E x cs
 | .agg fs,cs,hf,hr=>by simp only[al,I.ez] at *;exact aM.ez fs cs hf hr
 | .bool b,cs,_,hr | .int k n,cs,_,hr | .bQ s,cs,_,hr | .nilp,cs,_,hr | .dA,cs,_,hr | .dY,cs,_,hr | .any,cs,_,hr | .raw _,cs,_,hr | .nils _,cs,_,hr | .c0 _,cs,_,hr
 | .ptr _ _,cs,_,hr | .own _ _,cs,_,hr | .view _ _ _ _ _,cs,_,hr | .mref _,cs,_,hr | .dk _,cs,_,hr=>by simpa only[al] using hr
 | .func f caps,cs,hf,hr=>by
  simp only[al,I.ez] at *;obtain ⟨vs,J,U⟩:=hr;exact ⟨vs,J,aF.ez caps vs hf U⟩
 | .iface t v,cs,hf,hr=>by
  simp only[al,I.ez] at *;obtain ⟨u,cs',J,U,ah⟩:=hr;exact ⟨u,cs',J,U,al.ez v cs' hf ah⟩
 | .slice sz es,cs,hf,hr=>by
  simp only[al,I.ez,List.isEmpty_iff] at *;subst hf;obtain ⟨a,cap,J,U,ah,_,h5⟩:=hr;exact ⟨a,cap,J,U,ah,.inl rfl,h5⟩
 | .ref _,_,hf,_ | .df _ _,_,hf,_=>by simp[I.ez] at hf
 | .undef,_,_,hr | .du,_,_,hr | .tuple _,_,_,hr=>by simp only[al] at hr
theorem aM.ez{w w':World}{D D':aP}{E:aY} : ∀ (xs:List I) (cs:List Value),I.jR xs=true→aM w D E xs cs→aM w' D' E xs cs
 | [],cs,_,hr=>by simpa only[aM] using hr
 |x::xs,cs,hf,hr=>by
  simp only[aM,I.jR,t8] at *;obtain ⟨c1,c2,J,U,ah⟩:=hr;exact ⟨c1,c2,J,al.ez x c1 hf.1 U,aM.ez xs c2 hf.2 ah⟩
theorem aF.ez{w w':World}{D D':aP}{E:aY} : ∀ (xs:List I) (vs:List Value),I.jR xs=true→aF w D E xs vs→aF w' D' E xs vs
 | [],vs,_,hr=>by simpa only[aF] using hr
 |x::xs,vs,hf,hr=>by
  simp only[aF,I.jR,t8] at *;obtain ⟨v,rest,cs,J,U,ah,ar⟩:=hr;exact ⟨v,rest,cs,J,U,al.ez x cs hf.1 ah,aF.ez xs rest hf.2 ar⟩
end
theorem aZ.ez{w w':World}{D D':aP}{E:aY}{x:I}{v:Value}(hf:x.ez=true)(hr:aZ w D E x v):aZ w' D' E x v:=by
 cases x <;>simp only[aZ] at * <;>first
  |exact hr
  |(obtain ⟨vs,J,U⟩:=hr;exact ⟨vs,J,aF.ez _ _ (by simpa[I.ez] using hf) U⟩)
  |(obtain ⟨cs,J,U⟩:=hr;exact ⟨cs,J,al.ez _ _ hf U⟩)
def dB(ρ:List (Nat×Nat))(os:List (Nat×aq)):List (Nat×aq):=os.map fun q=>(bI ρ q.1,q.2.bl (bI ρ))
def pre(ρ:List (Nat×Nat))(os:List (Nat×aq))(n:Nat):Option Nat:=(os.find? fun q=>bI ρ q.1==n).map (·.1)
theorem v8{os:List (Nat×aq)}{m:Nat} : aw os m=true↔∃ q∈os,q.1=m:=by
 induction os with
 |nil=>simp[aw,aj]
 |cons q os ih =>
  obtain ⟨k,v⟩:=q;simp only[aw,aj] at *;by_cases h:m=k
  ·subst h;simp
  ·simp only[if_neg h,ih,zx3,Prod.exists,exists_and_right,exists_eq_right];constructor
   ·rintro ⟨a,b⟩;exact ⟨a,.inr b⟩
   ·rintro ⟨a,b | b⟩
    ·cases b;exact absurd rfl h
    ·exact ⟨a,b⟩
theorem kZ{ρ:List (Nat×Nat)}{os:List (Nat×aq)}{n m:Nat}(h:pre ρ os n=some m):aw os m=true∧bI ρ m=n:=by
 simp only[pre,t7] at h;obtain ⟨q,hq,rfl⟩:=h;exact ⟨v8.2 ⟨q,List.mem_of_find?_eq_some hq,rfl⟩,by simpa using List.find?_some hq⟩
theorem w0{ρ:List (Nat×Nat)}{os:List (Nat×aq)}{n m:Nat}(h:pre ρ os n=none)(hm:aw os m=true):bI ρ m≠n:=by
 simp only[pre,Option.map_eq_none_iff,List.find?_eq_none] at h;obtain ⟨q,hq,rfl⟩:=v8.1 hm;simpa using h q hq
theorem qM(ρ:List (Nat×Nat))(os os0:List (Nat×aq))(n:Nat):aj (dB ρ os++os0) n=match pre ρ os n with
  |some m=>(aj os m).map (aq.bl (bI ρ))
  |none=>aj os0 n:=by
 induction os with
 |nil=>simp[dB,pre]
 |cons q os ih =>
  obtain ⟨k,v⟩:=q;simp only[dB,Z4,Z9,aj,pre,List.find?_cons] at *;by_cases h:bI ρ k=n
  ·subst h;simp
  ·rw[if_neg (Ne.symm h)];have hb:(bI ρ k==n)=false:=by simpa using h
   rw[hb,ih];simp only;cases hf:os.find? (fun q=>bI ρ q.1==n) with
   |none=>rfl
   |some q =>
    simp only[Z7];have hq:=List.find?_some hf;have hne:q.1≠k:=fun e=>h (by rw[←e];simpa using hq);rw[if_neg hne]
def ay(ρ:List (Nat×Nat))(os:List (Nat×aq))(E:aY):aY:=fun n=>if aw os n then E (bI ρ n) else none
structure gn (ρ:List (Nat×Nat)) (os os0:List (Nat×aq)):Prop where
 fK:∀ m x,aj os m=some x→aj os0 (bI ρ m)=some (x.bl (bI ρ))∧x.only (aw os)=true∧x.eh=true
 inj:∀ m m',aw os m=true→aw os m'=true→bI ρ m=bI ρ m'→m=m'
structure gC (aN:Bool) (ρ:List (Nat×Nat)) (os os0:List (Nat×aq)) (r:I) (os':List (Nat×aq)):Prop where
 fK:∀ m x,aj os' m=some x→x.only (aw os')=true∧x.eh=true∧(aN=true→x.ez=true)
 inj:∀ m m',aw os' m=true→aw os' m'=true→bI ρ m=bI ρ m'→m=m'
 old:∀ m,aw os m=true→aw os' m=true
 px:∀ m,aw os' m=true→aw os m=false→aj os0 (bI ρ m)=none∧bI ρ m<1000000
 xg:r.only (aw os')=true∧(aN=true→r.ez=true)
section
variable {c:cV} {a:Act} {w:World} {D:aP} {E:aY} {ts:List (Nat×I)} {os0 os:List (Nat×aq)} {ρ:List (Nat×Nat)}
theorem aU.given(ab:aU c (au ts os0) a w D E)(hg:gn ρ os os0){m:Nat}(hm:aw os m=true):∃ x e,aj os m=some x∧ay ρ os E m=some e∧E (bI ρ m)=some e∧cZ (fun _=>True) w D (ay ρ os E) m (some x) ∧
  ∀ b,e.aG=some b→c.e6 b∧(∃ o,w.heap[b]?=some o∧wI o=true)∧b<w.heap.size∧(e.eh=true→∀ o,¬ D b o):=by
 cases hx:aj os m with
 |none=>simp[aw,hx] at hm
 |some x =>
  obtain ⟨J,U,ah⟩:=hg.fK m x hx;have ho:=ab.bP (bI ρ m);simp only[au] at ho;rw[J] at ho;have hEm:ay ρ os E m=E (bI ρ m):=by simp only[ay,hm,if_true]
  have hin:∀ n,aw os n=true→E (bI ρ n)=ay ρ os E n:=fun n hn=>by simp only[ay,hn,if_true]
  cases x with
  |bY T sz es =>
   obtain ⟨aG,k1,k2,k3⟩:=ho;rw[ry] at k1;have h2':I.ct (aw os) es=true:=U;have k2':∀ e∈es,e.size=sz:=fun e he=>by rw[←rv (bI ρ) e];exact k2 _ (by rw[rz];exact zz5.2 ⟨e,he,rfl⟩)
   refine ⟨_,_,rfl,hEm.trans k1,k1,⟨aG,hEm.trans k1,k2',?_⟩,fun b hb =>?_⟩
   ·cases aG with
    |none=>simp only[rz,List.map_eq_nil_iff] at k3;exact k3
    |some bc =>
     obtain ⟨b,cap⟩:=bc;obtain ⟨cs,pr,rest,q1,q2,q3,q4,q5,q6,q7,q8⟩:=k3;rw[ry] at q6;exact ⟨cs,pr,rest,trivial,q2,q3,(aM.bl (p:=aw os) hin es _ h2').1 q4,q5,q6,q7,q8⟩
   ·cases aG with
    |none=>cases hb
    |some bc =>
     obtain ⟨b',cap⟩:=bc;cases hb;obtain ⟨cs,pr,rest,q1,q2,_⟩:=k3;exact ⟨q1,⟨_,q2,rfl⟩,fM q2,fun h=>by cases h⟩
  |box y =>
   obtain ⟨b,cs,T,k1,k2,k3,k4,k5⟩:=ho;rw[xf] at k1;refine ⟨_,_,rfl,hEm.trans k1,k1,⟨b,cs,T,hEm.trans k1,trivial,k3,?_,k5⟩,fun b' hb =>?_⟩
   ·exact (al.bl (p:=aw os) hin y _ (by simpa[aq.only] using U)).1 k4
   ·cases hb;exact ⟨k2,⟨_,k3,rfl⟩,fM k3,fun _=>k5⟩
  |dG o =>
   obtain ⟨b,k1,k2,k3,k4,k5⟩:=ho;exact ⟨_,_,rfl,hEm.trans k1,k1,⟨b,hEm.trans k1,trivial,k3,k4,k5⟩,fun b' hb=>by cases hb;exact ⟨k2,⟨_,k3,Wk k4⟩,fM k3,fun _=>k5⟩⟩
  |bt ks vs =>
   obtain ⟨b,es,ck,k1,k2,k3,k4,k5,k6,k7⟩:=ho;simp only[aq.only,t8] at U;exact ⟨_,_,rfl,hEm.trans k1,k1,⟨b,es,ck,hEm.trans k1,trivial,k3,k4,(aF.bl (p:=aw os) hin ks _ U.1).1 k5,(aF.bl (p:=aw os) hin vs _ U.2).1 k6,k7⟩,
    fun b' hb=>by cases hb;exact ⟨k2,⟨_,k3,rfl⟩,fM k3,fun _=>k7⟩⟩
  |it ks vs left cur=>cases ah
  |dH T xs =>
   obtain ⟨aG,k1,k2,k3⟩:=ho;refine ⟨_,_,rfl,hEm.trans k1,k1,⟨aG,hEm.trans k1,k2,?_⟩,fun b hb =>?_⟩
   ·cases aG with
    |none=>exact k3
    |some bc =>
     obtain ⟨b,cap⟩:=bc;obtain ⟨cs,r,q1,q2⟩:=k3;exact ⟨cs,r,trivial,q2⟩
   ·cases aG with
    |none=>cases hb
    |some bc =>
     obtain ⟨b',cap⟩:=bc;cases hb;obtain ⟨cs,r,q1,q2,_⟩:=k3;exact ⟨q1,⟨_,q2,rfl⟩,fM q2,fun h=>by cases h⟩
theorem aU.sM(ab:aU c (au ts os0) a w D E)(hg:gn ρ os os0){b:Nat}(hb:cI (ay ρ os E) b):∃ m e,aw os m=true∧E (bI ρ m)=some e∧e.aG=some b∧c.e6 b∧(∃ o,w.heap[b]?=some o∧wI o=true)∧b<w.heap.size:=by
 obtain ⟨m,e,J,U⟩:=hb;by_cases hm:aw os m=true
 ·obtain ⟨x,e',k1,k2,k3,k4,k5⟩:=ab.given hg hm;rw[k2,v6] at J;subst J;obtain ⟨q1,q2,q3,_⟩:=k5 b U;exact ⟨m,_,hm,k3,U,q1,q2,q3⟩
 ·simp[ay,hm] at J
theorem aU.BS(ab:aU c (au ts os0) a w D E)(hg:gn ρ os os0){D1:aP}(hD:∀ b o,D b o→D1 b o)(hown:∀ b o,D1 b o→cI (ay ρ os E) b→D b o):jH (fun _=>True) w D1 (ay ρ os E) (aj os):=by
 refine ⟨fun n =>?_,fun n m e e' b J U ah ar =>?_⟩
 ·cases hx:aj os n with
  |none=>simp[cZ,ay,aw,hx]
  |some x =>
   have hm:aw os n=true:=by simp[aw,hx]
   obtain ⟨y,e,k1,k2,k3,k4,k5⟩:=ab.given hg hm;rw[hx,v6] at k1;subst k1;refine k4.later (E':=ay ρ os E) ⟨hD,fun _ _ _ _ h=>h,fun _ _ _ h=>h,fun _ aG l h=>⟨aG,l,h,Z3 _,fun _=>rfl⟩,fun _ _ h=>h,fun _ _ h=>h,fun _ _ _ _ h=>h⟩ rfl fun e' b' he hb'=>⟨rfl,fun o ho =>?_⟩
   exact hown b' o ho ⟨n,e',he,hb'⟩
 ·have hn:aw os n=true:=by
   by_cases h:aw os n=true;· exact h
   ·simp[ay,h] at J
  have hm:aw os m=true:=by
    by_cases h:aw os m=true;· exact h
    ·simp[ay,h] at U
  simp only[ay,hn,hm,if_true] at J U;exact hg.inj n m hn hm (ab.cN _ _ e e' b J U ah ar)
theorem aU.iA(ab:aU c (au ts os0) a w D E)(hg:gn ρ os os0){aN:Bool}{D1:aP}(hD:∀ b o,D b o→D1 b o)(hbx:aN=false→∀ b o,D1 b o→D b o){w':World}{D':aP}{E':aY}{v:Value}{r:I}{os':List (Nat×aq)}
  (hb:gC aN ρ os os0 r os') (hr:aZ w' D' E' r v) (bC:jH (fun b=>w.heap.size≤b∨cI (ay ρ os E) b) w' D' E' (aj os')) (hk:eZ (fun b=>w.heap.size≤b∨cI (ay ρ os E) b) w w')
  (hlive:∀ b o,D' b o→b<w'.heap.size) (hup:∀ b o,D1 b o→D' b o) (hst:gM w D1 w') (hold:∀ b o,D' b o→b<w.heap.size→¬ cI (ay ρ os E) b→D1 b o) (hbox:∀ n e,ay ρ os E n=some e→aw os' n=true→∃ e',E' n=some e'∧e.le e') :
  ∃ D2 E2,aU c (au ts (dB ρ os'++os0)) a w' D2 E2∧aZ w' D2 E2 (r.bl (bI ρ)) v∧∀ m e,ay ρ os E m=some e→aw os' m=true→∃ e',E2 (bI ρ m)=some e'∧e.le e':=by
 obtain ⟨M1,hM1⟩:∃ M1:Nat→Prop,M1=fun b=>w.heap.size≤b∨cI (ay ρ os E) b:=⟨_,rfl⟩
 rw[←hM1] at bC hk;obtain ⟨D2,hD2⟩:∃ D2:aP,D2=fun b o=>D b o∨(M1 b∧D' b o):=⟨_,rfl⟩
 obtain ⟨E2,hE2⟩:∃ E2:aY,E2=fun n=>match pre ρ os' n with | some m=>E' m | none=>E n:=⟨_,rfl⟩
 have ib:∀ b,M1 b→c.e6 b:=fun b hb'=>by
  rw[hM1] at hb';rcases hb' with h | h
  ·exact .inl (zx4 ab.dM.size h)
  ·obtain ⟨m,e,_,_,_,ah,_⟩:=ab.sM hg h;exact ah
 have upD:∀ b o,D b o→D' b o:=fun b o af=>hup b o (hD b o af);have E2m:∀ m,aw os' m=true→E2 (bI ρ m)=E' m:=fun m hm=>by
  rw[hE2];simp only;cases hp:pre ρ os' (bI ρ m) with
  |none=>exact absurd rfl (w0 hp hm)
  |some m' =>
   obtain ⟨J,U⟩:=kZ hp;rw[hb.inj m' m J hm U]
 have E2o:∀ n,pre ρ os' n=none→E2 n=E n:=fun n hn=>by rw[hE2];simp only[hn]
 -- a name that has a new meaning: one that was handed over,or one that was free
 have cas:∀ n m,pre ρ os' n=some m→(aw os m=true∧∃ e e',E n=some e∧E' m=some e'∧e.le e')∨(aw os m=false∧E n=none∧c.c4 n=none):=fun n m hp=>by
  obtain ⟨J,U⟩:=kZ hp;cases hm:aw os m with
  |true =>
   obtain ⟨y,e,k1,k2,k3,_⟩:=ab.given hg hm;rw[U] at k3;obtain ⟨e',q1,q2⟩:=hbox m e k2 J;exact .inl ⟨rfl,e,e',k3,q1,q2⟩
  |false =>
   obtain ⟨k1,k2⟩:=hb.px m J hm;rw[U] at k1 k2;have ho:=ab.bP n;simp only[au,k1] at ho;exact .inr ⟨rfl,ho,ab.ke (.inr k2)⟩
 have ao:dV w D E w' D2 E2:=by
  have eT:∀ n e,E n=some e→∃ e',E2 n=some e'∧e.le e':=fun n e he=>by
   cases hp:pre ρ os' n with
   |none=>exact ⟨e,by rw[E2o n hp];exact he,.refl e⟩
   |some m =>
    rw[hE2];simp only[hp];rcases cas n m hp with ⟨_,e1,e2,k1,k2,k3⟩ | ⟨_,k1,_⟩
    ·rw[he] at k1;cases k1;exact ⟨e2,k2,k3⟩
    ·rw[he] at k1;cases k1
  have keepf:∀ n e,E n=some e→e.eh=true→E2 n=some e:=fun n e he hf=>by
   obtain ⟨e',k1,k2⟩:=eT n e he;rw[k1,k2.eq hf]
  refine ⟨fun b o h=>by rw[hD2];exact .inl h,fun b o v' af hv=>hst.cell b o v' (hD b o af) hv,fun n b aX he=>keepf n _ he rfl,fun n aG l he =>?_,fun n b he=>keepf n _ he rfl,fun n b he=>keepf n _ he rfl,fun b es ck af hm=>hst.je b es ck (hD b 0 af) hm⟩;obtain ⟨e',k1,k2⟩:=eT n _ he;rcases k2 with rfl | ⟨_,_,blk',l',e,rfl,k3,k4⟩
  ·exact ⟨aG,l,k1,Z3 _,fun _=>rfl⟩
  ·cases e;exact ⟨blk',l',k1,k3,k4⟩
 -- blocks of names that were not handed over
 have other:∀ n e b,pre ρ os' n=none→E n=some e→e.aG=some b→¬ M1 b:=fun n e b hp he hb' hm=>by
  rw[hM1] at hm;rcases hm with h | h
  ·exact absurd (ab.fY he hb') (by omega)
  ·obtain ⟨m,e',J,U,ah,_⟩:=ab.sM hg h;have:=ab.cN n (bI ρ m) e _ b he U hb' ah;exact w0 hp (hb.old m J) this.symm
 have toD2:∀ {x:I} {cs:List Value},(aN=true→x.ez=true)→al w' D' E2 x cs→al w' D2 E2 x cs:=fun {x cs} hx h=>by
  cases hbb:aN with
  |true=>exact al.ez x cs (hx hbb) h
  |false =>
   refine al.later (E:=E2) ⟨fun b o af =>?_,fun _ _ _ _ h=>h,fun _ _ _ h=>h,fun _ aG l h=>⟨aG,l,h,Z3 _,fun _=>rfl⟩,fun _ _ h=>h,fun _ _ h=>h,fun _ _ _ _ h=>h⟩ x cs h;rw[hD2];by_cases hm:M1 b
   ·exact .inr ⟨hm,af⟩
   ·rw[hM1] at hm;exact .inl (hbx hbb b o (hold b o af (Nat.lt_of_not_le fun h=>hm (.inl h)) fun h=>hm (.inr h)))
 have toD2c:∀ {xs:List I} {cs:List Value},I.ct (aw os') xs=true→(aN=true→I.jR xs=true)→aM w' D' E' xs cs→aM w' D2 E2 (I.dT (bI ρ) xs) cs:=fun {xs cs} ho hx h=>by
  cases hbb:aN with
  |true=>exact (aM.bl (w:=w') (D:=D2) (p:=aw os') (ρ:=bI ρ) (E:=E') (E':=E2) (fun n hn=>E2m n hn) xs cs ho).2 (aM.ez xs cs (hx hbb) h)
  |false =>
   have U:=(aM.bl (w:=w') (D:=D') (p:=aw os') (ρ:=bI ρ) (E:=E') (E':=E2) (fun n hn=>E2m n hn) xs cs ho).2 h;refine aM.later (E:=E2) ⟨fun b o af =>?_,fun _ _ _ _ h=>h,fun _ _ _ h=>h,fun _ aG l h=>⟨aG,l,h,Z3 _,fun _=>rfl⟩,fun _ _ h=>h,fun _ _ h=>h,fun _ _ _ _ h=>h⟩ _ cs U;rw[hD2];by_cases hm:M1 b
   ·exact .inr ⟨hm,af⟩
   ·rw[hM1] at hm;exact .inl (hbx hbb b o (hold b o af (Nat.lt_of_not_le fun h=>hm (.inl h)) fun h=>hm (.inr h)))
 have toD2s:∀ {xs:List I} {cs:List Value},I.ct (aw os') xs=true→(aN=true→I.jR xs=true)→aF w' D' E' xs cs→aF w' D2 E2 (I.dT (bI ρ) xs) cs:=fun {xs cs} ho hx h=>by
  cases hbb:aN with
  |true=>exact (aF.bl (w:=w') (D:=D2) (p:=aw os') (ρ:=bI ρ) (E:=E') (E':=E2) (fun n hn=>E2m n hn) xs cs ho).2 (aF.ez xs cs (hx hbb) h)
  |false =>
   have U:=(aF.bl (w:=w') (D:=D') (p:=aw os') (ρ:=bI ρ) (E:=E') (E':=E2) (fun n hn=>E2m n hn) xs cs ho).2 h;refine aF.later (E:=E2) ⟨fun b o af =>?_,fun _ _ _ _ h=>h,fun _ _ _ h=>h,fun _ aG l h=>⟨aG,l,h,Z3 _,fun _=>rfl⟩,fun _ _ h=>h,fun _ _ h=>h,fun _ _ _ _ h=>h⟩ _ cs U;rw[hD2];by_cases hm:M1 b
   ·exact .inr ⟨hm,af⟩
   ·rw[hM1] at hm;exact .inl (hbx hbb b o (hold b o af (Nat.lt_of_not_le fun h=>hm (.inl h)) fun h=>hm (.inr h)))
 refine ⟨D2,E2,⟨ab.sz,ab.eD.mono fun B _ hB =>?_,fun t=>aZ.later ao (ab.dQ t),ab.dM.trans ⟨hk.os,hk.tape,hk.output,hk.size,fun k hk'=>hk.block k fun h=>hk' (ib k h)⟩,fun b o af hm =>?_,fun b o af =>?_,fun n =>?_,?_,fun n e hn =>?_,ab.eU,
  fun b o af=>ao.c6 b o (ab.cT b o af),ab.eX,ab.ku ao⟩,?_,fun m e k1 k3=>by rw[E2m m k3];exact hbox m e k1 k3⟩
 ·refine (hk.block B fun hm =>?_).trans hB;rw[hM1] at hm;rcases hm with h | h
  ·exact absurd (Y4.1 hB).1 (by omega)
  ·obtain ⟨m,e,_,_,_,_,⟨o,ar,h5⟩,_⟩:=ab.sM hg h;rw[hB] at ar;cases ar;cases h5
 ·rw[hD2] at af;rcases af with af | ⟨J,_⟩
  ·exact ab.c6 b o af hm
  ·exact absurd (ib b J) hm
 ·rw[hD2] at af;rcases af with af | ⟨_,J⟩
  ·exact Nat.lt_of_lt_of_le (ab.aQ b o af) hk.size
  ·exact hlive b o J
 ·simp only[au,qM];cases hp:pre ρ os' n with
  |none =>
   simp only;refine (ab.bP n).later ao (E2o n hp) fun e b he hb'=>⟨hk.block b (other n e b hp he hb'),fun o ho =>?_⟩
   rw[hD2] at ho;rcases ho with ho | ⟨J,_⟩
   ·exact ho
   ·exact absurd J (other n e b hp he hb')
  |some m =>
   simp only;obtain ⟨J,U⟩:=kZ hp;cases hx:aj os' m with
   |none=>simp[aw,hx] at J
   |some x =>
    obtain ⟨k1,kf,k2⟩:=hb.fK m x hx;have ho:=bC.bP m;rw[hx] at ho;have noD:∀ b,(∀ o,¬ D' b o)→∀ o,¬ D2 b o:=fun b hno o ho=>by
     rw[hD2] at ho;rcases ho with ho | ⟨_,ho⟩
     ·exact hno o (upD b o ho)
     ·exact hno o ho
    cases x with
    |bY T sz es =>
     obtain ⟨aG,q1,q2,q3⟩:=ho;simp only[Z7,aq.bl,cZ,ry];refine ⟨aG,by rw[←U,E2m m J];exact q1,fun e he =>?_,?_⟩
     ·rw[rz] at he;obtain ⟨e',he',rfl⟩:=zz5.1 he;rw[rv];exact q2 e' he'
     ·cases aG with
      |none=>simp only at q3 ⊢;rw[q3];rfl
      |some bc =>
       obtain ⟨b,cap⟩:=bc;obtain ⟨cs,pr,rest,g1,g2,g3,g4,g5,g6,g7,g8⟩:=q3;refine ⟨cs,pr,rest,ib b g1,g2,g3,toD2c (by simpa[aq.only] using k1) (fun h=>by simpa[aq.ez] using k2 h) g4,g5,g6,g7,fun o ho =>?_⟩;rw[hD2] at ho;rcases ho with ho | ⟨_,ho⟩
       ·exact g8 o (upD b o ho)
       ·exact g8 o ho
    |dH T xs =>
     obtain ⟨aG,q1,q2,q3⟩:=ho;simp only[Z7,aq.bl,cZ];refine ⟨aG,by rw[←U,E2m m J];exact q1,q2,?_⟩;cases aG with
     |none=>exact q3
     |some bc =>
      obtain ⟨b,cap⟩:=bc;obtain ⟨cs,r,g1,g2,g3,g4,g5,g6,g7⟩:=q3;exact ⟨cs,r,ib b g1,g2,g3,g4,g5,g6,noD b g7⟩
    |dG x =>
     obtain ⟨b,q1,q2,q3,q4,q5⟩:=ho;simp only[Z7,aq.bl,cZ];exact ⟨b,by rw[←U,E2m m J];exact q1,ib b q2,q3,q4,noD b q5⟩
    |it ks vs left cur=>cases kf
    |bt ks vs =>
     obtain ⟨b,es,ck,q1,q2,q3,q4,q5,q6,q7⟩:=ho;simp only[Z7,aq.bl,cZ];simp only[aq.only,t8] at k1;simp only[aq.ez,t8] at k2;exact ⟨b,es,ck,by rw[←U,E2m m J];exact q1,ib b q2,q3,q4,toD2s k1.1 (fun h=>(k2 h).1) q5,toD2s k1.2 (fun h=>(k2 h).2) q6,noD b q7⟩
    |box y =>
     obtain ⟨b,cs,T,q1,q2,q3,q4,q5⟩:=ho;simp only[Z7,aq.bl,cZ];refine ⟨b,cs,T,by rw[xf,←U,E2m m J];exact q1,ib b q2,q3,?_,noD b q5⟩;have ah:=(al.bl (w:=w') (D:=D') (p:=aw os') (ρ:=bI ρ) (E:=E') (E':=E2) (fun n hn=>E2m n hn) y cs.toList (by simpa[aq.only] using k1)).2 q4;cases hbb:aN with
     |true =>
      have ar:al w' D2 E' y cs.toList:=al.ez y _ (k2 hbb) q4;exact (al.bl (w:=w') (D:=D2) (p:=aw os') (ρ:=bI ρ) (E:=E') (E':=E2) (fun n hn=>E2m n hn) y cs.toList (by simpa[aq.only] using k1)).2 ar
     |false=>exact toD2 (fun h=>by rw[hbb] at h;cases h) ah
 ·intro n m e e' b J U ah ar;have blk':∀ n m e,pre ρ os' n=some m→E2 n=some e→e.aG=some b→M1 b∧E' m=some e:=fun n m e hp he hb'=>by
   obtain ⟨k1,k2⟩:=kZ hp;rw[←k2,E2m m k1] at he;cases hx:aj os' m with
   |none=>simp[aw,hx] at k1
   |some x =>
    obtain ⟨_,kf,_⟩:=hb.fK m x hx;have ho:=bC.bP m;rw[hx] at ho;cases x with
    |bY T sz es =>
     obtain ⟨aG,q1,q2,q3⟩:=ho;rw[q1,v6] at he;subst he;cases aG with
     |none=>cases hb'
     |some bc =>
      obtain ⟨b',cap⟩:=bc;cases hb';obtain ⟨cs,pr,rest,g1,_⟩:=q3;exact ⟨g1,q1⟩
    |it ks vs left cur=>cases kf
    |dH T xs =>
     obtain ⟨aG,q1,q2,q3⟩:=ho;rw[q1,v6] at he;subst he;cases aG with
     |none=>cases hb'
     |some bc =>
      obtain ⟨b',cap⟩:=bc;cases hb';obtain ⟨cs,r,g1,_⟩:=q3;exact ⟨g1,q1⟩
    |bt ks vs =>
     obtain ⟨b',es,ck,q1,q2,_⟩:=ho;rw[q1,v6] at he;subst he;cases hb';exact ⟨q2,q1⟩
    |dG x =>
     obtain ⟨b',q1,q2,_⟩:=ho;rw[q1,v6] at he;subst he;cases hb';exact ⟨q2,q1⟩
    |box y =>
     obtain ⟨b',cs,T,q1,q2,_⟩:=ho;rw[q1,v6] at he;subst he;cases hb';exact ⟨q2,q1⟩
  cases hn:pre ρ os' n with
  |none =>
   have g1:E n=some e:=by rw[←E2o n hn];exact J
   cases hm:pre ρ os' m with
   |none=>exact ab.cN n m e e' b g1 (by rw[←E2o m hm];exact U) ah ar
   |some m'=>exact absurd (blk' m m' e' hm U ar).1 (other n e b hn g1 ah)
  |some n' =>
   have g1:=blk' n n' e hn J ah;cases hm:pre ρ os' m with
   |none=>exact absurd g1.1 (other m e' b hm (by rw[←E2o m hm];exact U) ar)
   |some m' =>
    have g2:=blk' m m' e' hm U ar;have:=bC.cN n' m' e e' b g1.2 g2.2 ah ar;rw[←(kZ hn).2,←(kZ hm).2,this]
 ·cases hp:pre ρ os' n with
  |none=>rw[E2o n hp];exact ab.dR n e hn
  |some m =>
   rcases cas n m hp with ⟨_,e1,e2,k1,k2,k3⟩ | ⟨_,_,k1⟩
   ·rcases ab.dR n e hn with h | ⟨e3,h,h'⟩
    ·rw[h] at k1;cases k1
    ·rw[k1,v6] at h;subst h
     right
     rw[hE2];simp only[hp];exact ⟨e2,k2,h'.trans k3⟩
   ·rw[hn] at k1;cases k1
 ·have ah:=(aZ.bl (w:=w') (p:=aw os') (ρ:=bI ρ) (E:=E') (E':=E2) (D:=D') (fun n hn=>E2m n hn) (v:=v) hb.xg.1).2 hr;cases hbb:aN with
  |true=>exact (aZ.bl (w:=w') (p:=aw os') (ρ:=bI ρ) (E:=E') (E':=E2) (D:=D2) (fun n hn=>E2m n hn) (v:=v) hb.xg.1).2 (aZ.ez (hb.xg.2 hbb) hr)
  |false =>
   refine aZ.later (E:=E2) ⟨fun b o af =>?_,fun _ _ _ _ h=>h,fun _ _ _ h=>h,fun _ aG l h=>⟨aG,l,h,Z3 _,fun _=>rfl⟩,fun _ _ h=>h,fun _ _ h=>h,fun _ _ _ _ h=>h⟩ ah;rw[hD2];by_cases hm:M1 b
   ·exact .inr ⟨hm,af⟩
   ·rw[hM1] at hm;exact .inl (hbx hbb b o (hold b o af (Nat.lt_of_not_le fun h=>hm (.inl h)) fun h=>hm (.inr h)))
end
theorem uh(z:Array Value):∀ n:Nat,(Builtin.zeroCells z n).toList=(List.replicate n z.toList).flatten
 |0=>by simp[Builtin.zeroCells]
 |n+1=>by
  rw[List.replicate_succ,List.flatten_cons,←uh z n];apply List.ext_getElem?;intro i;by_cases hz:z.size=0
  ·have hz':z = #[]:=Array.eq_empty_of_size_eq_zero hz;subst hz';simp[Builtin.zeroCells]
  have hpos:0<z.size:=Nat.pos_of_ne_zero hz;by_cases hi:i<z.toList.length
  ·rw[Y8 hi];have hi':i<z.size:=by simpa using hi
   have J:i<(n+1)*z.size:=by rw[Nat.succ_mul];omega
   simp only[Builtin.zeroCells,Array.toList_map,Array.toList_range,zz3,List.getElem?_range J,Z7,Nat.mod_eq_of_lt hi'];simp[hi']
  ·rw[zy4 (by omega)];have hi':z.size≤i:=by simpa using hi
   simp only[Builtin.zeroCells,Array.toList_map,Array.toList_range,zz3,zz6];by_cases U:i<(n+1)*z.size
   ·have ah:i-z.size<n*z.size:=by rw[Nat.succ_mul] at U;omega
    rw[List.getElem?_range U,List.getElem?_range ah];simp only[Z7];rw[←Nat.mod_eq_sub_mod hi']
   ·have ah:¬ i-z.size<n*z.size:=by rw[Nat.succ_mul] at U;omega
    rw[zy9 (by simpa using U),zy9 (by simpa using ah)]
theorem rm{w:World}{D:aP}{E:aY}{z:I}{cs:List Value}(h:al w D E z cs):∀ n:Nat,aM w D E (List.replicate n z) (List.replicate n cs).flatten
 |0=>by simp[aM]
 |n+1=>by
  simp only[List.replicate_succ,List.flatten_cons,aM];exact ⟨cs,_,rfl,h,rm h n⟩
def eK(A:ai)(sz:Nat):I→Option (List I)
 | .slice z es=>if z=sz then some es else none
 | .nils _=>some []
 | .c0 _=>some []
 | .own n l=>match A.o n with
  |some (.bY _ z es)=>if l=es.length∧z=sz then some es else none
  |_=>none
 | .view n p z lo k=>match cK A (.ptr n p) with
  |some (.agg fs)=>if lo+k≤fs.length∧z=sz then some ((fs.drop lo).take k) else none
  |_=>none
 |_=>none
section
variable {c:cV} {A:ai} {a:Act} {w:World} {D:aP} {E:aY}
theorem aU.view(h:aU c A a w D E){n:Nat}{p:List Nat}{sz lo k:Nat}{v:Value}{fs:List I}(hv:aZ w D E (.view n p sz lo k) v)(hx:cK A (.ptr n p)=some (.agg fs)) :
  ∃ y b cs T off c1 c2 c3,A.o n=some (.box y)∧E n=some (.aN b y.aX)∧w.heap[b]?=some (.cells cs T (0,0))∧y.at p=some (.agg fs)∧y.aX.off p=some off∧cs.toList=c1++c2++c3∧c1.length=off∧aM w D E fs c2 ∧
   al w D E y cs.toList∧(∀ f∈fs,f.size=sz)∧lo+k≤fs.length∧fs.length≤maxLen∧v=.slice (some ⟨b,off+lo*sz,none⟩) k (fs.length-lo):=by
 obtain ⟨z,b',cs',T,off',c1,c2,c3,k1,k2,_,k3,k4,k5,k6,k7,k8,k9,_⟩:=h.at hx;obtain ⟨vs,g1,g2⟩:=hv;simp only[al] at g2;obtain ⟨b,aX,off,l,J,U,ah,ar,h5,h6,h7⟩:=g2;rw[k2] at J;simp only[v6,bM.aN.injEq] at J;obtain ⟨rfl,rfl⟩:=J;rw[k5,v6] at U;subst U;rw[mf p z _ k4] at ah;simp only[I.aX,v6,cP.eG.injEq] at ah;subst ah;rw[I.dw,Z8] at ar h5 h6;refine ⟨z,b',cs',T,off',c1,c2,c3,k1,k2,k3,k4,k5,k6,k7,by simpa only[al] using k8,k9,E9 h7,h6,h5,?_⟩;simpa[bA,I.isAgg,ar] using g1.symm
theorem aU.nc(h:aU c A a w D E){sz:Nat}{x:I}{v:Value}{ys:List I}(hv:aZ w D E x v)(ab:eK A sz x=some ys) :
  ∃ ad cp news,v=.slice ad ys.length cp∧ys.length≤cp∧cp≤maxLen∧aM w D E ys news∧(∀ y∈ys,y.size=sz)∧(ys≠[]→∃ b o,ad=some ⟨b,o,none⟩∧∀ j u,news[j]?=some u→w.cell? ⟨b,o+j,none⟩=some u):=by
 cases x <;>simp only[eK] at ab <;>try (cases ab;done)
 case nils z =>
  simp only[v6] at ab;subst ab;obtain ⟨cs,q1,q2⟩:=hv;simp only[al] at q2;exact ⟨none,0,[],by simpa[bA,I.isAgg,q2] using q1.symm,by simp,by simp[maxLen],by simp[aM],by simp,fun h=>absurd rfl h⟩
 case c0 z =>
  simp only[v6] at ab;subst ab;obtain ⟨cs,q1,q2⟩:=hv;simp only[al] at q2;obtain ⟨ad,q2⟩:=q2;exact ⟨ad,0,[],by simpa[bA,I.isAgg,q2] using q1.symm,by simp,by simp[maxLen],by simp[aM],by simp,fun h=>absurd rfl h⟩
 case slice z es =>
  split at ab
  ·rename_i hz;simp only[v6] at ab;subst ab hz;obtain ⟨ad,cap,e1,e2,e3,e4,e5⟩:=mX hv;rcases e4 with rfl | ⟨b,off,cs,rfl,q1,q2⟩
   ·exact ⟨ad,cap,[],e1,e2,e3,by simp[aM],by simp,fun h=>absurd rfl h⟩
   ·exact ⟨_,cap,cs,e1,e2,e3,q2,e5,fun _=>⟨b,off,rfl,fun j u hj=>(q1 j u hj).1⟩⟩
  ·cases ab
 case own n l =>
  split at ab
  ·rename_i T z es hn;split at ab
   ·rename_i hz;obtain ⟨hz1,rfl⟩:=hz;simp only[v6] at ab;subst ab;obtain ⟨aG,k1,k2,k3⟩:=h.bY hn;obtain ⟨cs,q1,q2⟩:=hv;simp only[al] at q2;obtain ⟨blk',l',g1,g2,_,g4⟩:=q2;rw[k1] at g1;simp only[v6,bM.rw.injEq] at g1;obtain ⟨rfl,rfl⟩:=g1
    replace g4:=g4 hz1
    cases aG with
    |none =>
     simp only at k3 g4;subst k3;have hv':v=.slice none 0 0:=by rw[g4] at q1;simpa[bA,I.isAgg] using q1.symm
     exact ⟨none,0,[],hv',by simp,by simp[maxLen],by simp[aM],by simp,fun h=>absurd rfl h⟩
    |some bc =>
     obtain ⟨b,cap⟩:=bc;simp only at g4;obtain ⟨cs',pre,rest,k4,k5,k6,k7,k8,k9,k10,k11⟩:=k3;refine ⟨some ⟨b,0,none⟩,cap,pre,by rw[←hz1];simpa[bA,I.isAgg,g4] using q1.symm,k9,k10,k7,k2,fun _=>⟨b,0,rfl,fun j u hj =>?_⟩⟩;have:=(n1 (D:=fun _ _=>True) (c1:=[]) (c2:=pre) (c3:=rest) k5 (by simpa using k6) (fun _ _=>trivial)) j u hj;simpa using this.1
   ·cases ab
  ·cases ab
 case view n p z lo k =>
  split at ab
  ·rename_i fs hx;split at ab
   ·rename_i hk;obtain ⟨hk,rfl⟩:=hk;simp only[v6] at ab;subst ab;obtain ⟨y,b,cs,T,off,c1,c2,c3,k1,k2,k3,k4,k5,k6,k7,k8,k9,k10,k11,k12,rfl⟩:=h.view hv hx;obtain ⟨d1,d2,d3,rfl,q1,q2,q3⟩:=tD k8 k10 lo k hk;have hlen:((fs.drop lo).take k).length=k:=by rw[zz8,List.length_drop];omega
    refine ⟨some ⟨b,off+lo*z,none⟩,fs.length-lo,d2,by rw[hlen],by rw[hlen];omega,by omega,q2,fun y hy=>k10 y (List.mem_of_mem_drop (List.mem_of_mem_take hy)),fun _=>⟨b,_,rfl,fun j u hj =>?_⟩⟩;have:=(n1 (D:=fun _ _=>True) (c1:=c1++d1) (c2:=d2) (c3:=d3++c3) k3 (by rw[k6];simp) (fun _ _=>trivial)) j u hj;rw[Z6,k7,q1] at this;exact this.1
   ·cases ab
  ·cases ab
theorem aU.jh(h:aU c A a w D E){n:Nat}{p:List Nat}{sz j:Nat}{y:I}{fs ys:List I}{b off:Nat}{cs:Array Value}{T:TypeId}{c1 c2 c3 ds:List Value}(hn:A.o n=some (.box y))(ay:E n=some (.aN b y.aX))(hb:w.heap[b]?=some (.cells cs T (0,0)))
  (hat:y.at p=some (.agg fs)) (hoff:y.aX.off p=some off) (hcs:cs.toList=c1++c2++c3) (hc1:c1.length=off) (hfs:aM w D E fs c2) (hy:al w D E y cs.toList) (hsz:∀ f∈fs,f.size=sz) (hys:aM w D E ys ds) (hj:j+ys.length≤fs.length)
  (hsh:I.cX ys=I.cX ((fs.drop j).take ys.length)) (P:Program) :
  ∃ w',(storeCells ⟨b,off+j*sz,none⟩ ds 0).run P w=.ok () w'∧aU c (A.aV n (.box (y.eB p (.agg (fs.take j++(ys++fs.drop (j+ys.length))))))) a w' D E:=by
 obtain ⟨d1,d2,d3,rfl,q1,q2,q3⟩:=tD hfs hsz j ys.length hj;have hd1:aM w D E (fs.take j) d1:=by
  have e1:fs=fs.take j++fs.drop j:=(zy8 j fs).symm;rw[e1] at hfs;obtain ⟨e1,e2,he,k1,k2⟩:=tC _ _ _ hfs;have ao:e1.length=d1.length:=by
   rw[aM.length _ _ k1,I.iv _ (fun x hx=>hsz x (List.mem_of_mem_take hx)),q1,zz8];congr 1;omega
  have:e1=d1:=by
   have:=congrArg (List.take d1.length) he;rw[List.take_left,←ao,List.take_left] at this;exact this.symm
  rw[←this];exact k1
 have hlen:ds.length=d2.length:=by rw[aM.length _ _ hys,aM.length _ _ q2,←I.mg,←I.mg,hsh]
 have hds:al w D E (.agg (fs.take j++(ys++fs.drop (j+ys.length)))) (d1++(ds++d3)):=by
  simp only[al];refine jZ _ _ _ _ hd1 (jZ _ _ _ _ hys ?_);rw[List.drop_drop] at q3;exact q3
 have hshape:(I.agg (fs.take j++(ys++fs.drop (j+ys.length)))).aX=(I.agg fs).aX:=by
  simp only[I.aX,cP.eG.injEq,I.dw,Y6];rw[←I.dw ys,hsh,I.dw,←Y6,←Y6]
  congr 1
  rw[←List.drop_drop,zy8,zy8]
 obtain ⟨off',g1,g2,g3,g4⟩:=tA p y _ _ _ _ hy hat hds hshape;rw[hoff,v6] at g1;subst g1;have hst:=run_storeCells_at P b (off+j*sz) T ds 0 cs w hb (by
  have:cs.size=cs.toList.length:=by simp
  rw[this,hcs];simp only[Z6];omega) (aM.lV _ _ hys)
 simp only[Nat.add_zero] at hst;refine ⟨_,hst,?_⟩;refine h.xy hn ay g4 ?_;have e:cs.toList.take (off+j*sz)++ds++cs.toList.drop (off+j*sz+ds.length)=cs.toList.take off++(d1++(ds++d3))++cs.toList.drop (off+(d1++(ds++d3)).length):=by
  rw[hcs];have t1:(c1++(d1++(d2++d3))++c3).take (off+j*sz)=c1++d1:=by
   rw[←hc1,←q1,Y5,List.take_length_add_append,Y5,List.take_left]
  have t2:(c1++(d1++(d2++d3))++c3).drop (off+j*sz+ds.length)=d3++c3:=by
   rw[←hc1,←q1,hlen,Y5,Nat.add_assoc,List.drop_length_add_append,Y5,List.drop_length_add_append,Y5,List.drop_left]
  have t3:(c1++(d1++(d2++d3))++c3).take off=c1:=by rw[←hc1,Y5,List.take_left]
  have t4:(c1++(d1++(d2++d3))++c3).drop (off+(d1++(ds++d3)).length)=c3:=by
   have:(d1++(ds++d3)).length=(d1++(d2++d3)).length:=by simp[hlen]
   rw[this,←hc1,Y5,List.drop_length_add_append,List.drop_left]
  rw[t1,t2,t3,t4];simp
 rw[e];simpa using g3
end
section
variable {c:cV} {A:ai} {o:Oper} {x:I}
theorem me{P:Program}{w:World}(k:IntKind)(n:Int)(y:Nat)(code:BoundsCode)(g1:0≤n)(g2:n≤y):(Instr.sliceBound (.int k n) y code).run P w=.ok n.toNat w:=by
 simp[Instr.sliceBound,asIntOf,g1,g2]
theorem Vb{t e:TypeId}{y:Operand}{y':aO}{lo hi mx:Option Operand}{lo' hi' mx':Option aO}{i:TypeInfo}{fs:List I}{n:Nat}{p:List Nat}{sz l0 k:Nat}(ho:o.op=.slice t y lo hi mx)(hu:c.P.underlying t=some (.slice e))(hi0:c.P.info? e=some i)
  (hy:br c.P 0 y=some y') (J:iC c.P lo=some lo') (U:iC c.P hi=some hi') (ah:iC c.P mx=some mx') (hmh:mx'.isSome=true→hi'.isSome=true) (hsz:sz=c.P.cellsOf e)
  (h:ak A y'=.view n p sz l0 k) (af:cK A (.ptr n p)=some (.agg fs)) (hx:mZ n p sz l0 k fs.length (lo'.map (ak A)) (hi'.map (ak A)) (mx'.map (ak A))=some x):dI c A o x :=
 .same fun a w D E ab=>by
  have opt:∀ {q:Option Operand} {q':Option aO},iC c.P q=some q'→im w D E (q'.map (ak A)) (q.map a.eval):=by
   intro q q' hq;cases q with
   |none=>simp only[iC,v6] at hq;subst hq;simp[im]
   |some z =>
    simp only[iC,t7] at hq;obtain ⟨z',hz,rfl⟩:=hq;simpa[im] using bV ab hz
  have aW:=bV ab hy;rw[h] at aW;obtain ⟨yy,b,cs,T,off,c1,c2,c3,k1,k2,k3,k4,k5,k6,k7,k8,k9,k10,k11,k12,hval⟩:=ab.view aW af;have hmh':(mx'.map (ak A)).isSome=true→(hi'.map (ak A)).isSome=true:=by simpa using hmh
  unfold mZ at hx;split at hx
  ·cases hx
  rename_i bC hbh;split at hx
  ·cases hx
  rename_i ll hbl;have d1:=qZ (opt J) hbl;have d2:=qZ (opt U) hbh;have o3:=opt ah;split at hx
  ·rename_i hmx;split at hx
   case isFalse=>cases hx
   rename_i hb;obtain ⟨b1,b2,b3⟩:=hb;have hvmx:mx.map a.eval=none:=by
    rw[hmx] at o3;cases hq:mx.map a.eval with
    |none=>rfl
    |some v=>rw[hq] at o3;simp[im] at o3
   have hsb:(Instr.sliceBounds true k (fs.length-l0) (lo.map a.eval) (hi.map a.eval) (mx.map a.eval)).run c.P w=.ok (ll.toNat,bC.toNat,fs.length-l0) w:=by
    rw[hvmx];rcases d2 with ⟨_,g2,hm2⟩ | ⟨_,q2,g2⟩ <;>rcases d1 with ⟨_,g1,hm1⟩ | ⟨_,q1,g1⟩ <;>rw[g1,g2]
    ·subst hm1 hm2;simp[Instr.sliceBounds]
    ·subst hm2;simp[Instr.sliceBounds,me q1 ll k _ b1 (by omega)]
    ·subst hm1;simp[Instr.sliceBounds,me q2 bC (fs.length-l0) _ (by omega) (by omega)]
    ·simp[Instr.sliceBounds,me q2 bC (fs.length-l0) _ (by omega) (by omega),me q1 ll bC.toNat _ b1 (by omega)]
   have hrun:(Instr.sliceAt t (a.eval y) (lo.map a.eval) (hi.map a.eval) (mx.map a.eval)).run c.P w =
     .ok (.slice (if fs.length-l0=ll.toNat then some ⟨b,off+l0*sz,none⟩ else some ⟨b,off+l0*sz+ll.toNat*c.P.cellsOf e,none⟩) (bC.toNat-ll.toNat) (fs.length-l0-ll.toNat)) w:=by
    rw[hval];simp only[Instr.sliceAt,Instr.slice,Sem.run_bind,run_underlying hu,Result.andThen_ok,hsb,iP hi0,Sem.run_pure,Z7,mq]
   refine ⟨_,by simp only[execOp,ho,Sem.run_bind,hrun];rfl,?_⟩;split at hx
   ·rename_i ao;simp only[v6] at hx;subst hx;have e1:fs.length-l0=ll.toNat:=by omega
    have e2:bC.toNat-ll.toNat=0:=by omega
    rw[if_pos e1,e2,e1,Nat.sub_self];exact ⟨_,by simp[bA,I.isAgg];rfl,by simp only[al];exact ⟨_,rfl⟩⟩
   ·rename_i ao;simp only[v6] at hx;subst hx;rw[if_neg (by omega)];refine ⟨_,by simp[bA,I.isAgg];rfl,?_⟩;simp only[al];refine ⟨b,yy.aX,off,I.cX fs,k2,k5,mf p yy _ k4,?_,?_,?_,?_⟩
    ·rw[I.dw,Z8,Nat.add_mul,Nat.add_assoc,hsz,Nat.sub_sub]
    ·rw[I.dw,Z8];exact k12
    ·rw[I.dw,Z8];omega
    ·rw[I.dw];intro s hs';obtain ⟨f,hf,rfl⟩:=zz5.1 hs';rw[I.lq];exact k10 f hf
  ·rename_i kk m hmx;split at hx
   case isFalse=>cases hx
   rename_i hb;obtain ⟨b1,b2,b3,b4⟩:=hb;simp only[v6] at hx;subst hx;obtain ⟨vmx,hvmx,hvm⟩:∃ v,mx.map a.eval=some v∧v=.int kk m:=by
    rw[hmx] at o3;cases hq:mx.map a.eval with
    |none=>rw[hq] at o3;simp[im] at o3
    |some v=>rw[hq] at o3;simp only[im] at o3;exact ⟨v,rfl,(eW o3).1⟩
   subst hvm;have hsb:∃ r,(Instr.sliceBounds true k (fs.length-l0) (lo.map a.eval) (hi.map a.eval) (mx.map a.eval)).run c.P w=.ok r w:=by
    rw[hvmx];rcases d2 with ⟨g0,g2,hm2⟩ | ⟨_,q2,g2⟩
    ·rw[hmx,g0] at hmh';simp at hmh'
    ·rcases d1 with ⟨_,g1,hm1⟩ | ⟨_,q1,g1⟩ <;>rw[g1,g2]
     ·exact ⟨_,by simp[Instr.sliceBounds,me kk m (fs.length-l0) _ (by omega) b4,me q2 bC m.toNat _ (by omega) (by omega)];rfl⟩
     ·exact ⟨_,by simp[Instr.sliceBounds,me kk m (fs.length-l0) _ (by omega) b4,me q2 bC m.toNat _ (by omega) (by omega),me q1 ll bC.toNat _ b1 (by omega)];rfl⟩
   obtain ⟨⟨r1,nZ,tz⟩,hsb⟩:=hsb;have hrun:∃ v,(Instr.sliceAt t (a.eval y) (lo.map a.eval) (hi.map a.eval) (mx.map a.eval)).run c.P w=.ok v w:=by
    rw[hval];exact ⟨_,by simp only[Instr.sliceAt,Instr.slice,Sem.run_bind,run_underlying hu,Result.andThen_ok,hsb,iP hi0,Sem.run_pure,Z7];rfl⟩
   obtain ⟨v,hrun⟩:=hrun;exact ⟨v,by simp only[execOp,ho,Sem.run_bind,hrun];rfl,by simp[aZ]⟩
  ·cases hx
theorem U0{t e:TypeId}{y z:Operand}{y' z':aO}{i:TypeInfo}{fs:List I}{n:Nat}{p:List Nat}{sz lo k:Nat}{kk:IntKind}{j:Int}(ho:o.op=.indexAddr t y z)(hu:c.P.underlying t=some (.slice e))(hi:c.P.info? e=some i)
  (hy:br c.P 0 y=some y') (hz:br c.P 0 z=some z') (hsz:sz=c.P.cellsOf e) (h:ak A y'=.view n p sz lo k) (af:cK A (.ptr n p)=some (.agg fs)) (h':ak A z'=.int kk j) (hj:0≤j∧j<k):dI c A o (.ptr n (p++[lo+j.toNat])) :=
 .same fun a w D E ab=>by
  have aW:=bV ab hy;rw[h] at aW;have h1':=bV ab hz;rw[h'] at h1';obtain ⟨yy,b,cs,T,off,c1,c2,c3,k1,k2,k3,k4,k5,k6,k7,k8,k9,k10,k11,k12,hval⟩:=ab.view aW af;refine ⟨.pointer (some ⟨b,off+lo*sz+j.toNat*c.P.cellsOf e,none⟩),by simp only[execOp,ho,hval,(eW h1').1,Sem.run_bind,xp hu hi hj];rfl,?_⟩;refine ⟨_,by simp[bA,I.isAgg];rfl,?_⟩;simp only[al];refine ⟨b,yy.aX,off+(lo+j.toNat)*sz,k2,?_,by rw[Nat.add_mul,←Nat.add_assoc,hsz]⟩;have ao:lo+j.toNat<fs.length:=by omega
  rw[cP.tk p yy.aX off (lo+j.toNat) _ k5 (mf p yy _ k4) (by rw[I.dw];simpa using ao),I.dw,←List.map_take,←I.dw,I.mg,oq fs _ k10 (by omega)]
theorem vV{ty:TypeId}{y:Operand}{y':aO}{n:Nat}{e:TypeId}(ho:o.op=.call { callee:=.builtin .cap,args := #[y],argTypes := #[ty] })(hu:c.P.underlying ty=some (.slice e))
  (hy:br c.P ty y=some y') (h:∀ a w D E,aU c A a w D E→∀ v,aZ w D E (ak A y') v→n≤maxLen∧∃ ad l,v=.slice ad l n):dI c A o (.int .i64 n) :=
 .same fun a w D E ab=>by
  obtain ⟨aW,ad,l,hv⟩:=h a w D E ab _ (bV ab hy);exact ⟨.int .i64 n,by simp[execOp,ho,resolve,invoke,builtin,Builtin.cap_,run_underlying hu,hv,goInt],jS (wq aW)⟩
theorem UM{t e:TypeId}{i:TypeInfo}(ho:o.op=.buildSlice t 0 #[])(hu:c.P.underlying t=some (.slice e))(hi:c.P.info? e=some i):dI c A o (.c0 (c.P.cellsOf e)):=by
 intro a w D E ab;have hs':=ab.newRow (.cells #[] e);refine ⟨.slice (some ⟨w.heap.size,0,none⟩) 0 0,_,_,?_,hs',⟨_,by simp[bA,I.isAgg];rfl,by simp only[al];exact ⟨_,rfl⟩⟩⟩;simp[execOp,ho,Instr.buildSlice,run_underlying hu,iP hi,newRow,Instr.fill,show (Array.range 0) = #[] from rfl]
theorem Wj{neg:Bool}{t e:TypeId}{y z:Operand}{y':aO}{yt:TypeId}{s:Nat}(ho:o.op=.binOp (if neg then .neq else .eql) t y z yt)(hu:c.P.underlying t=some (.slice e))(hy:br c.P 0 y=some y')(hz:br c.P 0 z=some (.c (.nils s)))
  (h:∃ sz,ak A y'=.slice sz []∨ak A y'=.c0 sz) {a:Act} {w:World} {D:aP} {E:aY} (ab:aU c A a w D E):∃ b,(execOp a.eval o).run c.P w=.ok (.value (.bool b)) w:=by
 have aW:=bV ab hy;have J:aZ w D E (.nils s) (a.eval z):=bV ab hz;have hv:∃ ad cp,a.eval y=.slice ad 0 cp:=by
  obtain ⟨sz,h | h⟩:=h <;>rw[h] at aW
  ·obtain ⟨ad,cap,e1,_⟩:=mX aW;exact ⟨ad,cap,by simpa using e1⟩
  ·obtain ⟨cs,q1,q2⟩:=aW;simp only[al] at q2;obtain ⟨ad,q2⟩:=q2;exact ⟨ad,0,by simpa[bA,I.isAgg,q2] using q1.symm⟩
 obtain ⟨ad,cp,hyv⟩:=hv;have hv:a.eval z=.slice none 0 0:=by
  obtain ⟨cs,q1,q2⟩:=J;simp only[al] at q2;simpa[bA,I.isAgg,q2] using q1.symm
 have he:∀ d,(Op.equalIn (d+1) t (.slice ad 0 cp) (.slice none 0 0)).run c.P w=.ok ad.isNone w:=fun d=>by
  cases ad <;>simp[Op.equalIn,run_underlying hu]
 refine ⟨if neg then !ad.isNone else ad.isNone,?_⟩;cases neg <;>simp only[execOp,ho,hyv,hv,if_true,Z2,if_false,Sem.run_bind,eqGuard] <;>simp[binOp,Op.equal,Op.maxDepth,he]
def jh(y:I)(p:List Nat)(j:Nat)(fs ys:List I):I:=y.eB p (.agg (fs.take j++(ys++fs.drop (j+ys.length))))
theorem L3{t e:TypeId}{y:Operand}{y':aO}{z:I}{n:Nat}{p:List Nat}{lo k:Nat}{b:I}{fs:List I}(ho:o.op=.call { callee:=.builtin .clear,args := #[y],argTypes := #[t] })(hu:c.P.underlying t=some (.slice e))(hy:br c.P t y=some y')
  (hz:gm c.P e=some z) (hv:ak A y'=.view n p (c.P.cellsOf e) lo k) (hn:A.o n=some (.box b)) (hat:b.at p=some (.agg fs)) (hsh:I.cX (List.replicate k z)=I.cX ((fs.drop lo).take k)) (af:o.dst=none) :
  h1 c A o (A.aV n (.box (jh b p lo fs (List.replicate k z)))):=by
 intro a w D E ab;obtain ⟨i,zv,hi,hzv,hzr⟩:=lz hz;have aW:=bV ab hy;rw[hv] at aW;have hx:cK A (.ptr n p)=some (.agg fs):=by simp only[cK,hn,hat]
 obtain ⟨yy,bk,cs,T,off,c1,c2,c3,k1,k2,k3,k4,k5,k6,k7,k8,k9,k10,k11,k12,hval⟩:=ab.view aW hx;rw[hn] at k1;simp only[v6,aq.box.injEq] at k1;subst k1;have hr:aM w D E (List.replicate k z) (Builtin.zeroCells zv.cells k).toList:=by
  rw[uh];exact rm (hzr w D E) k
 obtain ⟨w',J,U⟩:=ab.jh (j:=lo) (ys:=List.replicate k z) hn k2 k3 k4 k5 k6 k7 k8 k9 k10 hr (by simpa using k11) (by simpa using hsh) c.P;cases k with
 |zero =>
  refine ⟨w,.inl ⟨.tuple #[],?_,D,E,?_⟩⟩
  ·simp[execOp,ho,resolve,invoke,builtin,Builtin.clear_,run_underlying hu,hval]
  ·rw[af];have:jh b p lo fs (List.replicate 0 z)=b.eB p (.agg fs):=by simp[jh]
   have hw:w'=w:=by
    simp[Builtin.zeroCells,storeCells] at J;exact J.symm
   rw[hw] at U;exact U
 |succ k =>
  refine ⟨w',.inl ⟨.tuple #[],?_,D,E,?_⟩⟩
  ·simp[execOp,ho,resolve,invoke,builtin,Builtin.clear_,run_underlying hu,hval,zeroValue,typeInfo,hi,hzv,J]
  ·rw[af];exact U
theorem L4{t e:TypeId}{y x:Operand}{y' x':aO}{n:Nat}{p:List Nat}{lo k m:Nat}{b:I}{fs ys:List I}(ho:o.op=.call { callee:=.builtin .copy,args := #[y,x],argTypes := #[t,t] })(hu:c.P.underlying t=some (.slice e))(hi:(c.P.info? e).isSome=true)
  (hy:br c.P t y=some y') (hx:br c.P t x=some x') (hv:ak A y'=.view n p (c.P.cellsOf e) lo k) (hn:A.o n=some (.box b)) (hat:b.at p=some (.agg fs)) (ab:eK A (c.P.cellsOf e) (ak A x')=some ys) (hm:m=min ys.length k)
  (hsh:I.cX (ys.take m)=I.cX ((fs.drop lo).take m)) (hdn:∀ k,o.dst=some k→k<c.n) :
  h1 c A o ((A.aV n (.box (jh b p lo fs (ys.take m)))).aT o.dst (.int .i64 m)):=by
 intro a w D E hsim;obtain ⟨i,hi⟩:=zz2.1 hi;have aW:=bV hsim hy;rw[hv] at aW;have hxx:cK A (.ptr n p)=some (.agg fs):=by simp only[cK,hn,hat]
 obtain ⟨yy,bk,cs,T,off,c1,c2,c3,k1,k2,k3,k4,k5,k6,k7,k8,k9,k10,k11,k12,hval⟩:=hsim.view aW hxx;rw[hn] at k1;simp only[v6,aq.box.injEq] at k1;subst k1;obtain ⟨ad,cp,news,s1,s2,s3,s4,s5,s6⟩:=hsim.nc (bV hsim hx) ab;have hmy:m≤ys.length:=by omega
 have hci:c.P.cellsOf e=i.size:=by simp[Program.cellsOf,hi]
 obtain ⟨d1,d2,d3,e1,e2,e3,e4⟩:=tD s4 s5 0 m (by omega);simp only[Nat.zero_mul,List.drop_zero] at e2 e3;have e2':d1=[]:=List.eq_nil_of_length_eq_zero e2;subst e2';simp only[List.nil_append] at e1;have hlen:(ys.take m).length=m:=by rw[zz8];omega
 have hd2:d2.length=m*i.size:=by rw[aM.length _ _ e3,I.iv (sz:=c.P.cellsOf e) _ (fun y hy=>s5 y (List.mem_of_mem_take hy)),hlen,hci]
 obtain ⟨w',J,U⟩:=hsim.jh (j:=lo) (ys:=ys.take m) hn k2 k3 k4 k5 k6 k7 k8 k9 k10 e3 (by rw[hlen];omega) (by rw[hlen];exact hsh) c.P;have hf:(Builtin.firstCells i.size m (.slice ad ys.length cp)).run c.P w=.ok d2.toArray w:=by
  by_cases hm0:m=0
  ·have:d2=[]:=List.eq_nil_of_length_eq_zero (by rw[hd2,hm0];simp);subst this;cases ad with
   |none=>exact run_firstCells_none _ _ _ _ _
   |some ad=>exact run_firstCells_some w i.size m ad ys.length cp [] (by simp[hm0]) (by simp)
  ·obtain ⟨b2,o2,rfl,hr⟩:=s6 (fun h=>by rw[h] at hmy;simp at hmy;omega);refine run_firstCells_some w i.size m _ ys.length cp d2 hd2 fun j v hj =>?_;rw[Addr.add_lit];refine hr j v ?_;rw[e1,Y8 (Z5.1 hj).1];exact hj
 have h63:m≤maxLen:=by omega
 refine ⟨w',.inl ⟨.int .i64 m,?_,D,E,U.aT hdn (jS (wq h63))⟩⟩;have hmin:Nat.min ys.length k=m:=hm.symm;rw[←hci] at hf;simp only[execOp,ho,resolve,invoke,builtin,Sem.run_bind,Sem.run_pure,Result.andThen_ok,List.map_toArray,Z4,zy1,hval,s1];simp[Builtin.copy_,run_underlying hu,Builtin.lenOf,hmin,iP hi,hf,J,goInt]
theorem oM{a:Act}{w:World}{D:aP}{E:aY}(ab:aU c A a w D E){sz:Nat}{x:I}{v:Value}{es:List I}(hv:aZ w D E x v)(he:eK A sz x=some es) :
  ∃ ad cp olds,v=.slice ad es.length cp∧es.length≤cp∧cp≤maxLen∧aM w D E es olds∧(∀ y∈es,y.size=sz)∧∀ (P:Program) (w':World),(∀ p u,w.cell? p=some u→w'.cell? p=some u)→(Builtin.firstCells sz es.length v).run P w'=.ok olds.toArray w':=by
 obtain ⟨ad,cp,news,s1,s2,s3,s4,s5,s6⟩:=ab.nc hv he;refine ⟨ad,cp,news,s1,s2,s3,s4,s5,fun P w' hw =>?_⟩;have ao:news.length=es.length*sz:=by rw[aM.length _ _ s4,I.iv _ s5]
 rw[s1];by_cases aW:es=[]
 ·subst aW;have:news=[]:=List.eq_nil_of_length_eq_zero (by rw[ao];simp);subst this;cases ad with
  |none=>exact run_firstCells_none _ _ _ _ _
  |some ad=>exact run_firstCells_some w' sz _ ad _ cp [] (by simp) (by simp)
 ·obtain ⟨b,o',rfl,hr⟩:=s6 aW;exact run_firstCells_some w' sz _ _ _ cp news ao fun j v hj=>by rw[Addr.add_lit];exact hw _ _ (hr j v hj)
theorem Hd{t e:TypeId}{s x:Operand}{s' x':aO}{es ys:List I}{z:I}{d:Nat}(ho:o.op=.call { callee:=.builtin .append,args := #[s,x],argTypes := #[t,t] })(hu:c.P.underlying t=some (.slice e))(hs':br c.P t s=some s')(hx':br c.P t x=some x')
  (hz:gm c.P e=some z) (hzs:z.size=c.P.cellsOf e) (hse:eK A (c.P.cellsOf e) (ak A s')=some es) (hsx:eK A (c.P.cellsOf e) (ak A x')=some ys) (hby:(es.length+ys.length)*c.P.bytesOf e≤140737488355328)
  (af:o.dst=some d) (hdn:d<c.n) (hf:A.o d=none) (hne:ys≠[]) {a:Act} {w:World} {D:aP} {E:aY} (hsim:aU c A a w D E) (hfull:∀ ad l cp,a.eval s=.slice ad l cp→cp<l+ys.length) (hml:es.length+ys.length≤maxLen) :
  ∃ v w' m,(execOp a.eval o).run c.P w=.ok (.value v) w'∧es.length+ys.length+m≤maxLen ∧
   bX c ((A.aV d (.box (.agg (es++(ys++List.replicate m z))))).aT o.dst (.view d [] (c.P.cellsOf e) 0 (es.length+ys.length))) (a.put o.dst v) w':=by
 obtain ⟨i,zv,hi,hzv,hzr⟩:=lz hz;have hci:c.P.cellsOf e=i.size:=by simp[Program.cellsOf,hi]
 have hbi:c.P.bytesOf e=i.bytes:=by simp[Program.bytesOf,hi]
 obtain ⟨ad1,cp1,olds,s1,s2,s3,s4,s5,s6⟩:=oM hsim (bV hsim hs') hse;obtain ⟨ad2,cp2,news,t1,t2,t3,t4,t5,t6⟩:=oM hsim (bV hsim hx') hsx;have hlt:=hfull _ _ _ s1;obtain ⟨m,hm⟩:∃ m,m=grownCap w (es.length+ys.length) cp1 e-(es.length+ys.length):=⟨_,rfl⟩
 have hge:=grownCap_ge w (es.length+ys.length) cp1 e;have hle:=grownCap_le_maxLen w (es.length+ys.length) cp1 e hml;obtain ⟨cells,hcells⟩:∃ cells:Array Value,cells=olds.toArray++news.toArray++Builtin.zeroCells zv.cells m:=⟨_,rfl⟩
 have hrun:(Builtin.append_ #[t,t] o.type #[a.eval s,a.eval x]).run c.P w=.ok (.slice (some ⟨w.heap.size,0,none⟩) (es.length+ys.length) (grownCap w (es.length+ys.length) cp1 e)) (w.drew.alloc (.cells cells e)):=by
  have hn:¬ (es.length+ys.length≤cp1):=by omega
  have h63:¬ (9223372036854775807<((es.length:Int)+(ys.length:Int))):=by simp only[maxLen] at hml;omega
  have h48:¬ (281474976710656<Builtin.nextslicecap (es.length+ys.length) cp1*i.bytes):=by
   have ah:(es.length+ys.length)*i.bytes≤140737488355328:=by rw[←hbi];exact hby
   have:=growslice_fits hlt ah;omega
  have g1:=s6 c.P w.drew (fun _ _ h=>h);have g2:=t6 c.P w.drew (fun _ _ h=>h);rw[s1,hci] at g1;rw[t1,hci] at g2;rw[s1,t1,hcells,hm];simp[Builtin.append_,run_underlying hu,sizeOf,typeInfo,zeroValue,hi,hzv,Builtin.lenOf,hn,h63,h48,Question.forced,g1,g2,newRow,grownCap]
  congr 2
  apply Array.ext';simp[Y5]
 have hcl:cells.toList=olds++(news++(List.replicate m zv.cells.toList).flatten):=by
  rw[hcells];simp[uh]
 have hrc:al w D E (.agg (es++(ys++List.replicate m z))) cells.toList:=by
  rw[hcl];simp only[al];exact jZ _ _ _ _ s4 (jZ _ _ _ _ t4 (rm (hzr w D E) m))
 have hsim':aU c A a w.drew D E:=hsim.grow ⟨rfl,rfl,rfl,Z3 _,fun _ _=>rfl⟩ (fun _ _ h=>h) (fun _ _ h _=>h) (fun b o h=>hsim.aQ b o h);have hrc':al w.drew D E (.agg (es++(ys++List.replicate m z))) cells.toList:=al.later (w:=w) (w':=w.drew) (D:=D) (E:=E) ⟨fun _ _ h=>h,fun _ _ _ _ h=>h,fun _ _ _ h=>h,fun _ aG l h=>⟨aG,l,h,Z3 _,fun _=>rfl⟩,fun _ _ h=>h,fun _ _ h=>h,fun _ _ _ _ h=>h⟩ _ _ hrc;have J:=hsim'.qS (T:=e) (.inl hdn) hf hrc';have hall:∀ y∈es++(ys++List.replicate m z),y.size=c.P.cellsOf e:=by
  intro y hy;rcases zy0.1 hy with hy | hy
  ·exact s5 y hy
  ·rcases zy0.1 hy with hy | hy
   ·exact t5 y hy
   ·rw[List.eq_of_mem_replicate hy];exact hzs
 have hlen:(es++(ys++List.replicate m z)).length=es.length+ys.length+m:=by simp[Nat.add_assoc]
 have U:=J.put (d:=d) (x:=.view d [] (c.P.cellsOf e) 0 (es.length+ys.length)) (v:=.slice (some ⟨w.heap.size,0,none⟩) (es.length+ys.length) (grownCap w (es.length+ys.length) cp1 e)) hdn ⟨_,by simp[bA,I.isAgg];rfl,by
  simp only[al,if_true];refine ⟨w.heap.size,(I.agg (es++(ys++List.replicate m z))).aX,0,I.cX (es++(ys++List.replicate m z)),rfl,by cases (I.agg (es++(ys++List.replicate m z))).aX <;>simp[cP.off],by simp only[I.aX,cP.part],?_,?_,?_,?_⟩
  ·rw[I.dw,Z8,hlen,hm];simp;omega
  ·rw[I.dw,Z8,hlen];omega
  ·rw[I.dw,Z8,hlen];omega
  ·rw[I.dw];intro s ab;obtain ⟨f,hf,rfl⟩:=zz5.1 ab;rw[I.lq];exact hall f hf⟩
 refine ⟨.slice (some ⟨w.heap.size,0,none⟩) (es.length+ys.length) (grownCap w (es.length+ys.length) cp1 e),w.drew.alloc (.cells cells e),m,?_,by omega,?_⟩
 ·unfold execOp;simp only[ho,resolve,invoke,builtin,Sem.run_bind,Sem.run_pure,Result.andThen_ok,List.map_toArray,Z4,zy1,hrun]
 ·rw[af];exact ⟨D,_,U⟩
theorem He{t t' e:TypeId}{s x:Operand}{s' x':aO}{es:List I}{k:Nat}{kx kt:IntKind}{ca:Int}{z:I}{d:Nat}(ho:o.op=.call { callee:=.builtin .append,args := #[s,x],argTypes := #[t,t'] })(hu:c.P.underlying t=some (.slice e))(hs':br c.P t s=some s')(hx':br c.P t' x=some x')(ht':c.P.underlying t'=some (.int kt))(hvx:ak A x'=.int kx ca)(hk:ca.toNat=k)(hk0:0<k)(hpos:0<c.P.cellsOf e)
  (hz:gm c.P e=some z) (hzs:z.size=c.P.cellsOf e) (hse:eK A (c.P.cellsOf e) (ak A s')=some es) (hby:(es.length+k)*c.P.bytesOf e≤140737488355328)
  (af:o.dst=some d) (hdn:d<c.n) (hf:A.o d=none) {a:Act} {w:World} {D:aP} {E:aY} (hsim:aU c A a w D E) (hfull:∀ ad l cp,a.eval s=.slice ad l cp→cp<l+k) (hml:es.length+k≤maxLen) :
  ∃ v w' m,(execOp a.eval o).run c.P w=.ok (.value v) w'∧es.length+k+m≤maxLen ∧
   bX c ((A.aV d (.box (.agg (es++(List.replicate k z++List.replicate m z))))).aT o.dst (.view d [] (c.P.cellsOf e) 0 (es.length+k))) (a.put o.dst v) w':=by
 obtain ⟨i,zv,hi,hzv,hzr⟩:=lz hz;have hci:c.P.cellsOf e=i.size:=by simp[Program.cellsOf,hi]
 have hbi:c.P.bytesOf e=i.bytes:=by simp[Program.bytesOf,hi]
 obtain ⟨ad1,cp1,olds,s1,s2,s3,s4,s5,s6⟩:=oM hsim (bV hsim hs') hse;have v2:=bV hsim hx';rw[hvx] at v2;have t1:a.eval x=.int kx ((k:Nat):Int):=by rw[(eW v2).1];congr 1;omega
 have t4:aM w D E (List.replicate k z) (List.replicate k zv.cells.toList).flatten:=rm (hzr w D E) k;have t5:∀ y∈List.replicate k z,y.size=c.P.cellsOf e:=fun y hy=>by rw[List.eq_of_mem_replicate hy];exact hzs
 have hlt:=hfull _ _ _ s1;obtain ⟨m,hm⟩:∃ m,m=grownCap w (es.length+k) cp1 e-(es.length+k):=⟨_,rfl⟩
 have hge:=grownCap_ge w (es.length+k) cp1 e;have hle:=grownCap_le_maxLen w (es.length+k) cp1 e hml;obtain ⟨cells,hcells⟩:∃ cells:Array Value,cells=olds.toArray++Builtin.zeroCells zv.cells k++Builtin.zeroCells zv.cells m:=⟨_,rfl⟩
 have hrun:(Builtin.append_ #[t,t'] o.type #[a.eval s,a.eval x]).run c.P w=.ok (.slice (some ⟨w.heap.size,0,none⟩) (es.length+k) (grownCap w (es.length+k) cp1 e)) (w.drew.alloc (.cells cells e)):=by
  have ah:(es.length+k)*i.bytes≤140737488355328:=by rw[←hbi];exact hby
  have g1:=s6 c.P w.drew (fun _ _ h=>h);rw[s1,hci] at g1;have hfit:=growslice_fits hlt ah;have hkb:k*i.bytes≤(es.length+k)*i.bytes:=Nat.mul_le_mul_right _ (by omega);rw[s1,t1,hcells,hm];exact Lib.run_append_grow_zeros w t t' o.type e i zv kx kt hu ht' hi hzv ad1 es.length cp1 olds g1 k hk0 (by rw[←hci];exact hpos) hlt (by simp only[maxLen] at hml;omega) (by omega) (by omega)
 have hcl:cells.toList=olds++((List.replicate k zv.cells.toList).flatten++(List.replicate m zv.cells.toList).flatten):=by
  rw[hcells];simp[uh]
 have hrc:al w D E (.agg (es++(List.replicate k z++List.replicate m z))) cells.toList:=by
  rw[hcl];simp only[al];exact jZ _ _ _ _ s4 (jZ _ _ _ _ t4 (rm (hzr w D E) m))
 have hsim':aU c A a w.drew D E:=hsim.grow ⟨rfl,rfl,rfl,Z3 _,fun _ _=>rfl⟩ (fun _ _ h=>h) (fun _ _ h _=>h) (fun b o h=>hsim.aQ b o h);have hrc':al w.drew D E (.agg (es++(List.replicate k z++List.replicate m z))) cells.toList:=al.later (w:=w) (w':=w.drew) (D:=D) (E:=E) ⟨fun _ _ h=>h,fun _ _ _ _ h=>h,fun _ _ _ h=>h,fun _ aG l h=>⟨aG,l,h,Z3 _,fun _=>rfl⟩,fun _ _ h=>h,fun _ _ h=>h,fun _ _ _ _ h=>h⟩ _ _ hrc;have J:=hsim'.qS (T:=e) (.inl hdn) hf hrc';have hall:∀ y∈es++(List.replicate k z++List.replicate m z),y.size=c.P.cellsOf e:=by
  intro y hy;rcases zy0.1 hy with hy | hy
  ·exact s5 y hy
  ·rcases zy0.1 hy with hy | hy
   ·exact t5 y hy
   ·rw[List.eq_of_mem_replicate hy];exact hzs
 have hlen:(es++(List.replicate k z++List.replicate m z)).length=es.length+k+m:=by simp[Nat.add_assoc]
 have U:=J.put (d:=d) (x:=.view d [] (c.P.cellsOf e) 0 (es.length+k)) (v:=.slice (some ⟨w.heap.size,0,none⟩) (es.length+k) (grownCap w (es.length+k) cp1 e)) hdn ⟨_,by simp[bA,I.isAgg];rfl,by
  simp only[al,if_true];refine ⟨w.heap.size,(I.agg (es++(List.replicate k z++List.replicate m z))).aX,0,I.cX (es++(List.replicate k z++List.replicate m z)),rfl,by cases (I.agg (es++(List.replicate k z++List.replicate m z))).aX <;>simp[cP.off],by simp only[I.aX,cP.part],?_,?_,?_,?_⟩
  ·rw[I.dw,Z8,hlen,hm];simp;omega
  ·rw[I.dw,Z8,hlen];omega
  ·rw[I.dw,Z8,hlen];omega
  ·rw[I.dw];intro s ab;obtain ⟨f,hf,rfl⟩:=zz5.1 ab;rw[I.lq];exact hall f hf⟩
 refine ⟨.slice (some ⟨w.heap.size,0,none⟩) (es.length+k) (grownCap w (es.length+k) cp1 e),w.drew.alloc (.cells cells e),m,?_,by omega,?_⟩
 ·unfold execOp;simp only[ho,resolve,invoke,builtin,Sem.run_bind,Sem.run_pure,Result.andThen_ok,List.map_toArray,Z4,zy1,hrun]
 ·rw[af];exact ⟨D,_,U⟩
theorem L0{t e:TypeId}{s x:Operand}{s' x':aO}{ys:List I}{n:Nat}{p:List Nat}{lo k:Nat}{b:I}{fs:List I}(ho:o.op=.call { callee:=.builtin .append,args := #[s,x],argTypes := #[t,t] })(hu:c.P.underlying t=some (.slice e))(hi:(c.P.info? e).isSome=true)
  (hs':br c.P t s=some s') (hx':br c.P t x=some x') (hv:ak A s'=.view n p (c.P.cellsOf e) lo k) (hn:A.o n=some (.box b)) (hat:b.at p=some (.agg fs)) (hsx:eK A (c.P.cellsOf e) (ak A x')=some ys) (hroom:lo+k+ys.length≤fs.length)
  (hsh:I.cX ys=I.cX ((fs.drop (lo+k)).take ys.length)) (hdn:∀ k,o.dst=some k→k<c.n) :
  h1 c A o ((A.aV n (.box (jh b p (lo+k) fs ys))).aT o.dst (.view n p (c.P.cellsOf e) lo (k+ys.length))):=by
 intro a w D E hsim;obtain ⟨i,hi⟩:=zz2.1 hi;have hci:c.P.cellsOf e=i.size:=by simp[Program.cellsOf,hi]
 have aW:=bV hsim hs';rw[hv] at aW;have hxx:cK A (.ptr n p)=some (.agg fs):=by simp only[cK,hn,hat]
 obtain ⟨yy,bk,cs,T,off,c1,c2,c3,k1,k2,k3,k4,k5,k6,k7,k8,k9,k10,k11,k12,hval⟩:=hsim.view aW hxx;rw[hn] at k1;simp only[v6,aq.box.injEq] at k1;subst k1;obtain ⟨ad2,cp2,news,t1,t2,t3,t4,t5,t6⟩:=oM hsim (bV hsim hx') hsx;obtain ⟨w',J,U⟩:=hsim.jh (j:=lo+k) (ys:=ys) hn k2 k3 k4 k5 k6 k7 k8 k9 k10 t4 hroom hsh c.P;have g2:=t6 c.P w (fun _ _ h=>h);rw[t1,hci] at g2;have hr:k+ys.length≤fs.length-lo:=by omega
 refine ⟨w',.inl ⟨.slice (some ⟨bk,off+lo*c.P.cellsOf e,none⟩) (k+ys.length) (fs.length-lo),?_,D,E,U.aT hdn ?_⟩⟩
 ·have e1:off+lo*i.size+k*i.size=off+(lo+k)*c.P.cellsOf e:=by rw[hci,Nat.add_mul];omega
  unfold execOp;simp only[ho,resolve,invoke,builtin,Sem.run_bind,Sem.run_pure,Result.andThen_ok,List.map_toArray,Z4,zy1,hval,t1];simp[Builtin.append_,run_underlying hu,sizeOf,typeInfo,hi,Builtin.lenOf,hr,g2,Addr.add_lit,hci,e1];rw[hci] at J;simp[J]
 ·refine ⟨_,by simp[bA,I.isAgg];rfl,?_⟩;simp only[al];refine ⟨bk,b.aX,off,I.cX fs,k2,k5,mf p b _ k4,?_,?_,?_,?_⟩
  ·rw[I.dw,Z8]
  ·rw[I.dw,Z8];exact k12
  ·rw[I.dw,Z8];omega
  ·rw[I.dw];intro s ab;obtain ⟨f,hf,rfl⟩:=zz5.1 ab;rw[I.lq];exact k10 f hf
theorem L1{t e:TypeId}{s x:Operand}{s' x':aO}{es:List I}(ho:o.op=.call { callee:=.builtin .append,args := #[s,x],argTypes := #[t,t] })(hu:c.P.underlying t=some (.slice e))(hi:(c.P.info? e).isSome=true)(hs':br c.P t s=some s')(hx':br c.P t x=some x')
  (hse:eK A (c.P.cellsOf e) (ak A s')=some es) (hsx:eK A (c.P.cellsOf e) (ak A x')=some []):dI c A o (ak A s') :=
 .same fun a w D E hsim=>by
  obtain ⟨i,hi⟩:=zz2.1 hi;have hci:c.P.cellsOf e=i.size:=by simp[Program.cellsOf,hi]
  obtain ⟨ad1,cp1,olds,s1,s2,s3,s4,s5,s6⟩:=oM hsim (bV hsim hs') hse;obtain ⟨ad2,cp2,news,t1,t2,t3,t4,t5,t6⟩:=oM hsim (bV hsim hx') hsx;have g2:=t6 c.P w (fun _ _ h=>h);rw[t1,hci] at g2;simp only[aM] at t4;subst t4;refine ⟨a.eval s,?_,bV hsim hs'⟩;simp only[List.length_nil] at g2 t1;unfold execOp;simp only[ho,resolve,invoke,builtin,Sem.run_bind,Sem.run_pure,Result.andThen_ok,List.map_toArray,Z4,zy1,s1,t1];cases ad1 <;>simp[Builtin.append_,run_underlying hu,sizeOf,typeInfo,hi,Builtin.lenOf,s2,g2,storeCells]
end
end Go.Abs
