/-
  A part of the proof that the law MarchTexts returns true for every input; seven variables of Go's library start as the text lays them (the card ties them); conditions: none beyond the statement's own. (part 1 of 7)
-/
import Derived.WalkKit
import Derived.Orders
import Derived.Still
import Derived.RangeFuncSeq
import Derived.RangeFuncLeaves
import Derived.RangeFuncOwn
import Derived.Great.FillDense
import Derived.Great.BuildSlice
import Derived.ChangeKeysEq
import Derived.Laws.AppendOwn
set_option linter.unusedSimpArgs false
set_option linter.unusedVariables false
set_option maxHeartbeats 16000000
set_option maxRecDepth 100000
namespace Go
theorem y6:type_of% @And.intro:=@And.intro
theorem v6:type_of% @Option.some.injEq:=@Option.some.injEq
theorem t7:type_of% @Nat.le_of_ble_eq_true:=@Nat.le_of_ble_eq_true
theorem t8:type_of% @Option.map_eq_some_iff:=@Option.map_eq_some_iff
theorem zz0:type_of% @Bool.and_eq_true:=@Bool.and_eq_true
theorem zz1:type_of% @List.getD_eq_getElem?_getD:=@List.getD_eq_getElem?_getD
theorem zz2:type_of% @Bool.false_eq_true:=@Bool.false_eq_true
theorem zz3:type_of% @Nat.le_refl:=@Nat.le_refl
theorem zz4:type_of% @Nat.zero_add:=@Nat.zero_add
theorem zz5:type_of% @List.map_cons:=@List.map_cons
theorem zz6:type_of% @List.length_map:=@List.length_map
theorem zz7:type_of% @List.getElem?_eq_some_iff:=@List.getElem?_eq_some_iff
theorem zz8:type_of% @List.length_append:=@List.length_append
theorem zz9:type_of% @Option.map_some:=@Option.map_some
theorem zy0:type_of% @List.take_succ_eq_append_getElem:=@List.take_succ_eq_append_getElem
theorem zy1:type_of% @List.cons_append:=@List.cons_append
theorem zy2:type_of% @List.getElem?_eq_getElem:=@List.getElem?_eq_getElem
theorem zy3:type_of% @List.append_assoc:=@List.append_assoc
theorem zy4:type_of% @Array.getElem?_eq_some_iff:=@Array.getElem?_eq_some_iff
theorem zy5:type_of% @List.map_append:=@List.map_append
theorem zy6:type_of% @List.getElem?_append_left:=@List.getElem?_append_left
theorem zy7:type_of% @List.getD_cons_zero:=@List.getD_cons_zero
theorem zy8:type_of% @List.getD_cons_succ:=@List.getD_cons_succ
theorem zy9:type_of% @List.mem_map:=@List.mem_map
theorem zx0:type_of% @Option.isSome_iff_exists:=@Option.isSome_iff_exists
theorem zx1:type_of% @List.mem_singleton:=@List.mem_singleton
theorem zx2:type_of% @List.length_take:=@List.length_take
theorem zx3:type_of% @List.mem_cons:=@List.mem_cons
theorem zx4:type_of% @List.getElem?_map:=@List.getElem?_map
theorem zx5:type_of% @List.all_eq_true:=@List.all_eq_true
theorem zx6:type_of% @Array.length_toList:=@Array.length_toList
theorem zx7:type_of% @List.map_nil:=@List.map_nil
theorem zx8:type_of% @List.length_cons:=@List.length_cons
theorem zx9:type_of% @Int.eq_ofNat_of_zero_le:=@Int.eq_ofNat_of_zero_le
theorem zw0:type_of% @List.mem_append:=@List.mem_append
theorem zw1:type_of% @Nat.zero_le:=@Nat.zero_le
theorem zw2:type_of% @List.take_succ_cons:=@List.take_succ_cons
theorem zw3:type_of% @List.cons.injEq:=@List.cons.injEq
theorem zw4:type_of% @List.append_nil:=@List.append_nil
theorem zw5:type_of% @Option.map_none:=@Option.map_none
theorem zw6:type_of% @List.length_singleton:=@List.length_singleton
theorem zw7:type_of% @List.getElem_mem:=@List.getElem_mem
theorem zw8:type_of% @Array.getElem?_toList:=@Array.getElem?_toList
theorem zw9:type_of% @List.length_drop:=@List.length_drop
theorem zv0:type_of% @List.take_append_drop:=@List.take_append_drop
theorem zv1:type_of% @List.getElem?_eq_none:=@List.getElem?_eq_none
theorem zv2:type_of% @List.mem_filter:=@List.mem_filter
theorem zv3:type_of% @List.getElem?_append_right:=@List.getElem?_append_right
theorem zv4:type_of% @List.length_pos_iff:=@List.length_pos_iff
theorem zv5:type_of% @List.take_length:=@List.take_length
theorem zv6:type_of% @Option.bind_eq_some_iff:=@Option.bind_eq_some_iff
theorem zv7:type_of% @Array.getElem?_eq_getElem:=@Array.getElem?_eq_getElem
theorem zv8:type_of% @List.mem_range:=@List.mem_range
theorem zv9:type_of% @Option.bind_some:=@Option.bind_some
theorem zu0:type_of% @Nat.le_trans:=@Nat.le_trans
end Go
namespace Go.Abs
open Go
inductive I where
 |undef | dF
 |bool (b:Bool)
 |int (k:IntKind) (n:Int)
 |bm (s:ByteArray)
 |nilp | dK | dL
 |any
 |raw (v:Value)
 |nils (sz:Nat)
 |c0 (sz:Nat)
 |slice (sz:Nat) (es:List I)
 |agg (fs:List I)
 |tuple (fs:List I)
 |ref (c:I)
 |func (f:FuncId) (caps:List I)
 |iface (t:TypeId) (v:I)
 |ptr (n:Nat) (p:List Nat)
 |own (n:Nat) (k:Nat)
 |view (n:Nat) (p:List Nat) (sz lo k:Nat)
 |mref (n:Nat)
 |dC (n:Nat)
 |dx (ks vs:List I)
 deriving Inhabited
inductive cW where
 |one
 |db (l:List cW)
 deriving Inhabited
mutual
def cW.size:cW→Nat
 | .one=>1
 | .db l=>cW.sizes l
def cW.sizes:List cW→Nat
 | []=>0
 |s::l=>s.size+cW.sizes l
end
mutual
def I.bg:I→cW
 | .agg fs=>.db (I.de fs)
 |_=>.one
def I.de:List I→List cW
 | []=>[]
 |f::fs=>f.bg::I.de fs
end
mutual
def I.size:I→Nat
 | .agg fs=>I.sizes fs
 |_=>1
def I.sizes:List I→Nat
 | []=>0
 |f::fs=>f.size+I.sizes fs
end
def I.isAgg:I→Bool
 | .agg _=>true
 |_=>false
def cW.off:cW→List Nat→Option Nat
 |_,[]=>some 0
 | .one,_::_=>none
 | .db l,i::p=>match l[i]? with
  |some s=>(s.off p).map (cW.sizes (l.take i) + ·)
  |none=>none
def cW.part:cW→List Nat→Option cW
 |s,[]=>some s
 | .one,_::_=>none
 | .db l,i::p=>match l[i]? with
  |some s=>s.part p
  |none=>none
def I.at:I→List Nat→Option I
 |c,[]=>some c
 | .agg fs,i::p=>match fs[i]? with
  |some f=>f.at p
  |none=>none
 |_,_::_=>none
def I.ev:I→List Nat→I→I
 |_,[],v=>v
 | .agg fs,i::p,v=>match fs[i]? with
  |some f=>.agg (fs.set i (f.ev p v))
  |none=>.agg fs
 |c,_::_,_=>c
inductive bR where
 |aP (b:Nat) (bg:cW)
 |rw (aK:Option (Nat×Nat)) (len:Nat)
 |op (b:Nat)
 |bD (b:Nat)
 |it (b:Nat)
def bR.eG:bR→Bool
 | .rw _ _=>false
 |_=>true
def bR.le(e e':bR):Prop:=e'=e∨∃ aK l blk' l',e=.rw aK l∧e'=.rw blk' l'∧l≤l'∧(l'=l→blk'=aK)
theorem bR.le.refl(e:bR):e.le e:=.inl rfl
theorem bR.le.eq{e e':bR}(h:e.le e')(hf:e.eG=true):e'=e:=by
 rcases h with h | ⟨aK,l,blk',l',rfl,_⟩
 ·exact h
 ·cases hf
theorem bR.le.trans{a b c:bR}(h:a.le b)(k:b.le c):a.le c:=by
 rcases h with rfl | ⟨aK,l,blk',l',rfl,rfl,J,U⟩
 ·exact k
 ·rcases k with rfl | ⟨_,_,blk2,l2,e,rfl,af,ar⟩
  ·exact .inr ⟨aK,l,blk',l',rfl,rfl,J,U⟩
  ·cases e;exact .inr ⟨aK,l,blk2,l2,rfl,rfl,by omega,fun e=>by rw[ar (by omega),U (by omega)]⟩
abbrev aS:=Nat→Nat→Prop
abbrev bf:=Nat→Option bR
def reads(w:World)(D:aS)(b off:Nat)(cs:List Value):Prop :=
 ∀ j v,cs[j]?=some v→w.cell? ⟨b,off+j,none⟩=some v∧D b (off+j)
def o9(es:Array MapEntry)(clock:Nat):Prop:=(∀ x∈es.toList,x.born<clock)∧(es.toList.map (·.born)).Nodup
def oG(w:World)(D:aS)(b:Nat)(es:Array MapEntry)(clock:Nat):Prop:=w.heap[b]?=some (.map es clock)∧D b 0∧o9 es clock
def bC(e:I)(v:Value)(cs:List Value):Prop:=if e.isAgg then v=.agg cs.toArray else cs=[v]
def jY(f:Nat)(vs:List Value):Value:=if f<1000000 then .func (.func f) #[] vs.toArray else .func (.func (f-1000000)) vs.toArray #[]
theorem nr{f:Nat}(h:f<1000000)(vs:List Value):jY f vs=.func (.func f) #[] vs.toArray:=by simp only[jY,if_pos h]
theorem rp(f:Nat)(vs:List Value):jY (f+1000000) vs=.func (.func f) vs.toArray #[]:=by
 simp only[jY,if_neg (show ¬ f+1000000<1000000 by omega),Nat.add_sub_cancel]
theorem P8{f:Nat}{vs vs':List Value}(h:jY f vs=jY f vs'):vs=vs':=by
 rcases Nat.lt_or_ge f 1000000 with hf | hf
 ·rw[nr hf,nr hf] at h;simpa using h
 ·obtain ⟨g,rfl⟩:∃ g,f=g+1000000:=⟨f-1000000,by omega⟩
  rw[rp,rp] at h;simpa using h
theorem Da(f:Nat)(vs:List Value):(jY f vs).oneCell'=true:=by
 simp only[jY];split <;>simp[Value.oneCell']
mutual
/-- These cells hold this value. -/
def al(w:World)(D:aS)(E:bf):I→List Value→Prop
 | .agg fs,cs=>aN w D E fs cs
 | .bool b,cs=>cs=[.bool b]
 | .int k n,cs=>cs=[.int k n]∧k.min≤n∧n≤k.max
 | .bm s,cs=>cs=[.string s]∧s.size≤maxLen
 | .nilp,cs=>cs=[.pointer none]
 | .dK,cs=>cs=[.nilFunc]
 | .dL,cs=>cs=[.nilIface]
 | .any,cs=>∃ v:Value,cs=[v]∧v.oneCell'=true
 | .raw u,cs=>cs=[u]∧u.oneCell'=true
 | .nils _,cs=>cs=[.slice none 0 0]
 | .c0 _,cs=>∃ a,cs=[.slice a 0 0]
 | .slice sz es,cs=>∃ a cap,cs=[.slice a es.length cap]∧es.length≤cap∧cap≤maxLen ∧
   (es=[]∨∃ b off cs',a=some ⟨b,off,none⟩∧reads w D b off cs'∧aN w D E es cs')∧∀ e∈es,e.size=sz
 | .ref c,cs=>∃ b off cs',cs=[.pointer (some ⟨b,off,none⟩)]∧reads w D b off cs'∧al w D E c cs'
 | .func f caps,cs=>∃ vs:List Value,cs=[jY f vs]∧aH w D E caps vs
 | .iface t v,cs=>∃ u cs',cs=[.iface t u]∧bC v u cs'∧al w D E v cs'
 | .ptr n p,cs=>∃ b bg off,E n=some (.aP b bg)∧bg.off p=some off∧cs=[.pointer (some ⟨b,off,none⟩)]
 | .own n k,cs=>∃ aK l,E n=some (.rw aK l)∧k≤l∧(∃ a m c,cs=[.slice a m c]) ∧
   (k=l→match aK with | none=>cs=[.slice none 0 0] | some (b,cap)=>cs=[.slice (some ⟨b,0,none⟩) k cap])
 | .view n p sz lo k,cs=>∃ b bg off l,E n=some (.aP b bg)∧bg.off p=some off∧bg.part p=some (.db l)∧cs=[.slice (some ⟨b,off+lo*sz,none⟩) k (l.length-lo)]∧l.length≤maxLen∧lo+k≤l.length∧∀ s∈l,s.size=sz
 | .mref n,cs=>∃ b,E n=some (.bD b)∧cs=[.map (some b)]
 | .dC n,cs=>∃ b,E n=some (.it b)∧cs=[.pointer (some ⟨b,0,none⟩)]
 | .dx ks vs,cs=>∃ b es clock,cs=[.map (some b)]∧oG w D b es clock∧aH w D E ks (es.toList.map (·.key))∧aH w D E vs (es.toList.map (·.val))
 | .undef,_ | .dF,_ | .tuple _,_=>False
def aN(w:World)(D:aS)(E:bf):List I→List Value→Prop
 | [],cs=>cs=[]
 |e::es,cs=>∃ c1 c2,cs=c1++c2∧al w D E e c1∧aN w D E es c2
def aH(w:World)(D:aS)(E:bf):List I→List Value→Prop
 | [],vs=>vs=[]
 |e::es,vs=>∃ v rest cs,vs=v::rest∧bC e v cs∧al w D E e cs∧aH w D E es rest
end
def a8(w:World)(D:aS)(E:bf)(x:I)(v:Value):Prop :=
 match x with
 | .undef=>v=undef
 | .dF=>True
 | .tuple fs=>∃ vs:List Value,v=.tuple vs.toArray∧aH w D E fs vs
 |x=>∃ cs,bC x v cs∧al w D E x cs
structure ef (w:World) (D:aS) (E:bf) (w':World) (D':aS) (E':bf):Prop where
 dh:∀ b o,D b o→D' b o
 cell:∀ b o v,D b o→w.cell? ⟨b,o,none⟩=some v→w'.cell? ⟨b,o,none⟩=some v
 aP:∀ n b bg,E n=some (.aP b bg)→E' n=some (.aP b bg)
 rw:∀ n aK l,E n=some (.rw aK l)→∃ blk' l',E' n=some (.rw blk' l')∧l≤l'∧(l'=l→blk'=aK)
 bD:∀ n b,E n=some (.bD b)→E' n=some (.bD b)
 it:∀ n b,E n=some (.it b)→E' n=some (.it b)
 jN:∀ b es ck,D b 0→w.heap[b]?=some (.map es ck)→w'.heap[b]?=some (.map es ck)
structure hZ (w:World) (D:aS) (w':World):Prop where
 cell:∀ b o v,D b o→w.cell? ⟨b,o,none⟩=some v→w'.cell? ⟨b,o,none⟩=some v
 jN:∀ b es ck,D b 0→w.heap[b]?=some (.map es ck)→w'.heap[b]?=some (.map es ck)
theorem hZ.refl(w:World)(D:aS):hZ w D w:=⟨fun _ _ _ _ h=>h,fun _ _ _ _ h=>h⟩
theorem hZ.trans{w w' w'':World}{D D':aS}(h:hZ w D w')(hD:∀ b o,D b o→D' b o)(k:hZ w' D' w''):hZ w D w'' :=
 ⟨fun b o v ah hv=>k.cell b o v (hD b o ah) (h.cell b o v ah hv),fun b es ck ah hm=>k.jN b es ck (hD b 0 ah) (h.jN b es ck ah hm)⟩
theorem ef.fO{w w':World}{D D':aS}{E E':bf}(h:ef w D E w' D' E'):hZ w D w':=⟨h.cell,h.jN⟩
theorem oG.later{w w':World}{D D':aS}{E E':bf}(h:ef w D E w' D' E'){b:Nat}{es:Array MapEntry}{clock:Nat}(hr:oG w D b es clock):oG w' D' b es clock :=
 ⟨h.jN _ _ _ hr.2.1 hr.1,h.dh _ _ hr.2.1,hr.2.2⟩
theorem reads.later{w w':World}{D D':aS}{E E':bf}(h:ef w D E w' D' E'){b off:Nat}{cs:List Value}(hr:reads w D b off cs):reads w' D' b off cs :=
 fun j v hj=>⟨h.cell _ _ _ (hr j v hj).2 (hr j v hj).1,h.dh _ _ (hr j v hj).2⟩
mutual
theorem al.later{w w':World}{D D':aS}{E E':bf}(h:ef w D E w' D' E'):∀ (x:I) (cs:List Value),al w D E x cs→al w' D' E' x cs
 | .agg fs,cs,hr=>by simp only[al] at *;exact aN.later h fs cs hr
 | .bool b,cs,hr=>by simpa only[al] using hr
 | .int k n,cs,hr=>by simpa only[al] using hr
 | .bm s,cs,hr=>by simpa only[al] using hr
 | .nilp,cs,hr=>by simpa only[al] using hr
 | .dK,cs,hr=>by simpa only[al] using hr
 | .dL,cs,hr | .any,cs,hr=>by simpa only[al] using hr
 | .raw _,cs,hr=>by simpa only[al] using hr
 | .nils _,cs,hr=>by simpa only[al] using hr
 | .c0 _,cs,hr=>by simpa only[al] using hr
 | .slice sz es,cs,hr=>by
  simp only[al] at *;obtain ⟨a,cap,J,U,af,ar,h5⟩:=hr;refine ⟨a,cap,J,U,af,?_,h5⟩;rcases ar with ar | ⟨b,off,cs',h6,h7,h8⟩
  ·exact .inl ar
  ·exact .inr ⟨b,off,cs',h6,h7.later h,aN.later h es cs' h8⟩
 | .ref c,cs,hr=>by
  simp only[al] at *;obtain ⟨b,off,cs',J,U,af⟩:=hr;exact ⟨b,off,cs',J,U.later h,al.later h c cs' af⟩
 | .func f caps,cs,hr=>by
  simp only[al] at *;obtain ⟨vs,J,U⟩:=hr;exact ⟨vs,J,aH.later h caps vs U⟩
 | .iface t v,cs,hr=>by
  simp only[al] at *;obtain ⟨u,cs',J,U,af⟩:=hr;exact ⟨u,cs',J,U,al.later h v cs' af⟩
 | .ptr n p,cs,hr=>by
  simp only[al] at *;obtain ⟨b,bg,off,J,U,af⟩:=hr;exact ⟨b,bg,off,h.aP _ _ _ J,U,af⟩
 | .own n k,cs,hr=>by
  simp only[al] at *;obtain ⟨aK,l,J,U,af,ar⟩:=hr;obtain ⟨blk',l',h5,h6,h7⟩:=h.rw _ _ _ J;refine ⟨blk',l',h5,zu0 U h6,af,fun e =>?_⟩;have e1:l'=l:=by omega
  rw[h7 e1];exact ar (by omega)
 | .view n p _ _ _,cs,hr=>by
  simp only[al] at *;obtain ⟨b,bg,off,l,J,U⟩:=hr;exact ⟨b,bg,off,l,h.aP _ _ _ J,U⟩
 | .mref n,cs,hr=>by
  simp only[al] at *;obtain ⟨b,J,U⟩:=hr;exact ⟨b,h.bD _ _ J,U⟩
 | .dC n,cs,hr=>by
  simp only[al] at *;obtain ⟨b,J,U⟩:=hr;exact ⟨b,h.it _ _ J,U⟩
 | .dx ks vs,cs,hr=>by
  simp only[al] at *;obtain ⟨b,es,clock,J,U,af,ar⟩:=hr;exact ⟨b,es,clock,J,U.later h,aH.later h ks _ af,aH.later h vs _ ar⟩
 | .undef,_,hr=>by simp only[al] at hr
 | .dF,_,hr=>by simp only[al] at hr
 | .tuple _,_,hr=>by simp only[al] at hr
theorem aN.later{w w':World}{D D':aS}{E E':bf}(h:ef w D E w' D' E'):∀ (xs:List I) (cs:List Value),aN w D E xs cs→aN w' D' E' xs cs
 | [],cs,hr=>by simpa only[aN] using hr
 |x::xs,cs,hr=>by
  simp only[aN] at *;obtain ⟨c1,c2,J,U,af⟩:=hr;exact ⟨c1,c2,J,al.later h x c1 U,aN.later h xs c2 af⟩
theorem aH.later{w w':World}{D D':aS}{E E':bf}(h:ef w D E w' D' E'):∀ (xs:List I) (vs:List Value),aH w D E xs vs→aH w' D' E' xs vs
 | [],vs,hr=>by simpa only[aH] using hr
 |x::xs,vs,hr=>by
  simp only[aH] at *;obtain ⟨v,rest,cs,J,U,af,ar⟩:=hr;exact ⟨v,rest,cs,J,U,al.later h x cs af,aH.later h xs rest ar⟩
end
theorem a8.later{w w':World}{D D':aS}{E E':bf}(h:ef w D E w' D' E'){x:I}{v:Value}(hr:a8 w D E x v):a8 w' D' E' x v:=by
 cases x <;>simp only[a8] at * <;>first
  |exact hr
  |(obtain ⟨vs,J,U⟩:=hr;exact ⟨vs,J,aH.later h _ _ U⟩)
  |(obtain ⟨cs,J,U⟩:=hr;exact ⟨cs,J,al.later h _ _ U⟩)
mutual
theorem I.l8:∀ x:I,x.bg.size=x.size
 | .agg fs=>by simp only[I.bg,I.size,cW.size];exact I.mY fs
 | .undef | .dF | .bool _ | .int _ _ | .bm _ | .nilp | .dK | .dL | .any | .raw _ | .nils _ | .c0 _ | .slice _ _ | .tuple _ | .ref _ | .func _ _ | .iface _ _ | .ptr _ _ | .own _ _ | .view _ _ _ _ _ | .mref _ | .dC _ | .dx _ _=>by simp only[I.bg,I.size,cW.size]
theorem I.mY:∀ xs:List I,cW.sizes (I.de xs)=I.sizes xs
 | []=>by simp only[I.de,I.sizes,cW.sizes]
 |x::xs=>by simp only[I.de,I.sizes,cW.sizes];rw[I.l8 x,I.mY xs]
end
mutual
theorem al.length{w:World}{D:aS}{E:bf} : ∀ (x:I) (cs:List Value),al w D E x cs→cs.length=x.size
 | .agg fs,cs,hr=>by simp only[al,I.size] at *;exact aN.length fs cs hr
 | .bool b,cs,hr=>by simp only[al] at hr;simp[hr,I.size]
 | .int k n,cs,hr=>by simp only[al] at hr;simp[hr.1,I.size]
 | .bm s,cs,hr=>by simp only[al] at hr;simp[hr.1,I.size]
 | .nilp,cs,hr=>by simp only[al] at hr;simp[hr,I.size]
 | .dK,cs,hr=>by simp only[al] at hr;simp[hr,I.size]
 | .dL,cs,hr=>by simp only[al] at hr;simp[hr,I.size]
 | .any,cs,hr=>by simp only[al] at hr;obtain ⟨v,rfl,_⟩:=hr;simp[I.size]
 | .raw u,cs,hr=>by simp only[al] at hr;simp[hr.1,I.size]
 | .nils _,cs,hr=>by simp only[al] at hr;simp[hr,I.size]
 | .c0 _,cs,hr=>by simp only[al] at hr;obtain ⟨a,rfl⟩:=hr;simp[I.size]
 | .slice sz es,cs,hr=>by simp only[al] at hr;obtain ⟨a,cap,rfl,_⟩:=hr;simp[I.size]
 | .ref c,cs,hr=>by simp only[al] at hr;obtain ⟨b,off,cs',rfl,_⟩:=hr;simp[I.size]
 | .func f caps,cs,hr=>by simp only[al] at hr;obtain ⟨vs,rfl,_⟩:=hr;simp[I.size]
 | .iface t v,cs,hr=>by simp only[al] at hr;obtain ⟨u,cs',rfl,_⟩:=hr;simp[I.size]
 | .ptr n p,cs,hr=>by simp only[al] at hr;obtain ⟨b,bg,off,_,_,rfl⟩:=hr;simp[I.size]
 | .own n k,cs,hr=>by simp only[al] at hr;obtain ⟨aK,l,_,_,⟨a,m,c,rfl⟩,_⟩:=hr;simp[I.size]
 | .view n p _ _ _,cs,hr=>by simp only[al] at hr;obtain ⟨b,bg,off,l,_,_,_,rfl,_⟩:=hr;simp[I.size]
 | .mref n,cs,hr=>by simp only[al] at hr;obtain ⟨b,_,rfl⟩:=hr;simp[I.size]
 | .dC n,cs,hr=>by simp only[al] at hr;obtain ⟨b,_,rfl⟩:=hr;simp[I.size]
 | .dx ks vs,cs,hr=>by simp only[al] at hr;obtain ⟨b,es,ck,rfl,_⟩:=hr;simp[I.size]
 | .undef,_,hr=>by simp only[al] at hr
 | .dF,_,hr=>by simp only[al] at hr
 | .tuple _,_,hr=>by simp only[al] at hr
theorem aN.length{w:World}{D:aS}{E:bf} : ∀ (xs:List I) (cs:List Value),aN w D E xs cs→cs.length=I.sizes xs
 | [],cs,hr=>by simp only[aN] at hr;simp[hr,I.sizes]
 |x::xs,cs,hr=>by
  simp only[aN] at hr;obtain ⟨c1,c2,rfl,J,U⟩:=hr;simp only[zz8,I.sizes,al.length x c1 J,aN.length xs c2 U]
end
mutual
theorem al.mI{w:World}{D:aS}{E:bf} : ∀ (x:I) (cs:List Value),al w D E x cs→∀ v∈cs,v.oneCell'=true
 | .agg fs,cs,hr=>by simp only[al] at hr;exact aN.mI fs cs hr
 | .bool b,cs,hr=>by simp only[al] at hr;simp[hr,Value.oneCell']
 | .int k n,cs,hr=>by simp only[al] at hr;simp[hr.1,Value.oneCell']
 | .bm s,cs,hr=>by simp only[al] at hr;simp[hr.1,Value.oneCell']
 | .nilp,cs,hr=>by simp only[al] at hr;simp[hr,Value.oneCell']
 | .dK,cs,hr=>by simp only[al] at hr;simp[hr,Value.oneCell']
 | .dL,cs,hr=>by simp only[al] at hr;simp[hr,Value.oneCell']
 | .any,cs,hr=>by simp only[al] at hr;obtain ⟨v,rfl,h⟩:=hr;simpa using h
 | .raw u,cs,hr=>by simp only[al] at hr;simpa[hr.1] using hr.2
 | .nils _,cs,hr=>by simp only[al] at hr;simp[hr,Value.oneCell']
 | .c0 _,cs,hr=>by simp only[al] at hr;obtain ⟨a,rfl⟩:=hr;simp[Value.oneCell']
 | .slice sz es,cs,hr=>by simp only[al] at hr;obtain ⟨a,cap,rfl,_⟩:=hr;simp[Value.oneCell']
 | .ref c,cs,hr=>by simp only[al] at hr;obtain ⟨b,off,cs',rfl,_⟩:=hr;simp[Value.oneCell']
 | .func f caps,cs,hr=>by simp only[al] at hr;obtain ⟨vs,rfl,_⟩:=hr;simp only[jY];split <;>simp[Value.oneCell']
 | .iface t v,cs,hr=>by simp only[al] at hr;obtain ⟨u,cs',rfl,_⟩:=hr;simp[Value.oneCell']
 | .ptr n p,cs,hr=>by simp only[al] at hr;obtain ⟨b,bg,off,_,_,rfl⟩:=hr;simp[Value.oneCell']
 | .own n k,cs,hr=>by simp only[al] at hr;obtain ⟨aK,l,_,_,⟨a,m,c,rfl⟩,_⟩:=hr;simp[Value.oneCell']
 | .view n p _ _ _,cs,hr=>by simp only[al] at hr;obtain ⟨b,bg,off,l,_,_,_,rfl,_⟩:=hr;simp[Value.oneCell']
 | .mref n,cs,hr=>by simp only[al] at hr;obtain ⟨b,_,rfl⟩:=hr;simp[Value.oneCell']
 | .dC n,cs,hr=>by simp only[al] at hr;obtain ⟨b,_,rfl⟩:=hr;simp[Value.oneCell']
 | .dx ks vs,cs,hr=>by simp only[al] at hr;obtain ⟨b,es,ck,rfl,_⟩:=hr;simp[Value.oneCell']
 | .undef,_,hr=>by simp only[al] at hr
 | .dF,_,hr=>by simp only[al] at hr
 | .tuple _,_,hr=>by simp only[al] at hr
theorem aN.mI{w:World}{D:aS}{E:bf} : ∀ (xs:List I) (cs:List Value),aN w D E xs cs→∀ v∈cs,v.oneCell'=true
 | [],cs,hr=>by simp only[aN] at hr;simp[hr]
 |x::xs,cs,hr=>by
  simp only[aN] at hr;obtain ⟨c1,c2,rfl,J,U⟩:=hr;intro v hv;rcases zw0.1 hv with h | h
  ·exact al.mI x c1 J v h
  ·exact aN.mI xs c2 U v h
end
theorem bC.cells{x:I}{v:Value}{cs:List Value}{w:World}{D:aS}{E:bf}(h:bC x v cs)(hr:al w D E x cs):v.cells.toList=cs:=by
 unfold bC at h;split at h
 ·rw[h];simp[Value.cells]
 ·subst h;have:=al.mI x _ hr v (by simp);cases v <;>simp[Value.cells,Value.oneCell'] at *
theorem mM{w:World}{D:aS}{E:bf} : ∀ (xs:List I) (cs:List Value) (i:Nat) (x:I),aN w D E xs cs→xs[i]?=some x →
  ∃ c1 c2 c3,cs=c1++c2++c3∧c1.length=I.sizes (xs.take i)∧aN w D E (xs.take i) c1∧al w D E x c2∧aN w D E (xs.drop (i+1)) c3
 | [],_,i,x,_,h=>by simp at h
 |y::ys,cs,0,x,hr,h=>by
  simp only[List.getElem?_cons_zero,v6] at h;subst h;simp only[aN] at hr;obtain ⟨c1,c2,rfl,J,U⟩:=hr;exact ⟨[],c1,c2,by simp,by simp[I.sizes],by simp[aN],J,by simpa using U⟩
 |y::ys,cs,i+1,x,hr,h=>by
  simp only[List.getElem?_cons_succ] at h;simp only[aN] at hr;obtain ⟨c0,c',rfl,J,U⟩:=hr;obtain ⟨c1,c2,c3,rfl,af,ar,h5,h6⟩:=mM ys c' i x U h;refine ⟨c0++c1,c2,c3,by simp,?_,?_,h5,by simpa using h6⟩
  ·simp only[zz8,zw2,I.sizes,af,al.length y c0 J]
  ·simp only[zw2,aN];exact ⟨c0,c1,rfl,J,ar⟩
theorem kD{w:World}{D:aS}{E:bf} : ∀ (xs ys:List I) (cs ds:List Value),aN w D E xs cs→aN w D E ys ds→aN w D E (xs++ys) (cs++ds)
 | [],ys,cs,ds,h,k=>by simp only[aN] at h;subst h;simpa using k
 |x::xs,ys,cs,ds,h,k=>by
  simp only[aN,zy1] at *;obtain ⟨c1,c2,rfl,J,U⟩:=h;exact ⟨c1,c2++ds,by simp,J,kD xs ys c2 ds U k⟩
theorem I.iM{sz:Nat} : ∀ (xs:List I),(∀ x∈xs,x.size=sz)→I.sizes xs=xs.length*sz
 | [],_=>by simp[I.sizes]
 |x::xs,h=>by
  simp only[I.sizes,zx8];rw[h x (by simp),I.iM xs (fun y hy=>h y (by simp[hy])),Nat.add_mul];omega
theorem I.dG:∀ xs:List I,I.de xs=xs.map I.bg
 | []=>by simp[I.de]
 |x::xs=>by simp[I.de,I.dG xs]
theorem y7{w:World}{D:aS}{E:bf} : ∀ (p:List Nat) (c x:I) (cs:List Value),al w D E c cs→c.at p=some x →
  ∃ off c1 c2 c3,c.bg.off p=some off∧cs=c1++c2++c3∧c1.length=off∧al w D E x c2
 | [],c,x,cs,hr,h=>by
  simp only[I.at,v6] at h;subst h;exact ⟨0,[],cs,[],by cases c.bg <;>simp[cW.off],by simp,rfl,hr⟩
 |i::p,.agg fs,x,cs,hr,h=>by
  simp only[I.at] at h;simp only[al] at hr;cases hf:fs[i]? with
  |none=>simp[hf] at h
  |some f =>
   simp only[hf] at h;obtain ⟨c1,c2,c3,rfl,J,_,af,_⟩:=mM fs cs i f hr hf;obtain ⟨off,d1,d2,d3,ar,rfl,h6,h7⟩:=y7 p f x c2 af h;refine ⟨I.sizes (fs.take i)+off,c1++d1,d2,d3++c3,?_,by simp,by simp[J,h6],h7⟩;simp only[I.bg,cW.off,I.dG,zx4,hf,zz9,ar];rw[←List.map_take,←I.dG,I.mY]
 |_::_,.undef,_,_,_,h | _::_,.dF,_,_,_,h | _::_,.bool _,_,_,_,h | _::_,.int _ _,_,_,_,h | _::_,.bm _,_,_,_,h | _::_,.nilp,_,_,_,h
 |_::_,.dK,_,_,_,h | _::_,.dL,_,_,_,h | _::_,.any,_,_,_,h | _::_,.raw _,_,_,_,h | _::_,.nils _,_,_,_,h | _::_,.c0 _,_,_,_,h | _::_,.slice _ _,_,_,_,h | _::_,.tuple _,_,_,_,h
 |_::_,.ref _,_,_,_,h | _::_,.func _ _,_,_,_,h | _::_,.iface _ _,_,_,_,h | _::_,.ptr _ _,_,_,_,h | _::_,.own _ _,_,_,_,h | _::_,.view _ _ _ _ _,_,_,_,h | _::_,.mref _,_,_,_,h | _::_,.dC _,_,_,_,h | _::_,.dx _ _,_,_,_,h=>by simp[I.at] at h
theorem uU{w:World}{D:aS}{E:bf} : ∀ (p:List Nat) (c x y:I) (cs ds:List Value),al w D E c cs→c.at p=some x→al w D E y ds→y.bg=x.bg →
  ∃ off,c.bg.off p=some off∧off+ds.length≤cs.length∧al w D E (c.ev p y) (cs.take off++ds++cs.drop (off+ds.length))∧(c.ev p y).bg=c.bg
 | [],c,x,y,cs,ds,hr,h,hy,ab=>by
  simp only[I.at,v6] at h;subst h;have ao:ds.length=cs.length:=by rw[al.length _ _ hy,al.length _ _ hr,←I.l8,←I.l8,ab]
  refine ⟨0,by cases c.bg <;>simp[cW.off],by omega,?_,by simpa[I.ev] using ab⟩;simpa[I.ev,ao] using hy
 |i::p,.agg fs,x,y,cs,ds,hr,h,hy,ab=>by
  simp only[I.at] at h;simp only[al] at hr;cases hf:fs[i]? with
  |none=>simp[hf] at h
  |some f =>
   simp only[hf] at h;obtain ⟨c1,c2,c3,rfl,J,U,af,h3'⟩:=mM fs cs i f hr hf;obtain ⟨off,ar,h5,h6,h7⟩:=uU p f x y c2 ds af h hy ab;have hi:i<fs.length:=(zz7.1 hf).1;have hfi:fs[i]=f:=(zz7.1 hf).2;refine ⟨I.sizes (fs.take i)+off,?_,?_,?_,?_⟩
   ·simp only[I.bg,cW.off,I.dG,zx4,hf,zz9,ar];rw[←List.map_take,←I.dG,I.mY]
   ·simp only[zz8,J];omega
   ·simp only[I.ev,hf,al];have e1:fs.set i (f.ev p y)=fs.take i++f.ev p y::fs.drop (i+1):=by rw[List.set_eq_take_append_cons_drop];simp[hi]
    rw[e1];have e2:(c1++c2++c3).take (I.sizes (fs.take i)+off)++ds++(c1++c2++c3).drop (I.sizes (fs.take i)+off+ds.length)=c1++((c2.take off++ds++c2.drop (off+ds.length))++c3):=by
     rw[←J,zy3 c1 c2 c3,List.take_length_add_append,Nat.add_assoc,List.drop_length_add_append,List.take_append_of_le_length (by omega),List.drop_append_of_le_length (by omega)];simp
    rw[e2];refine kD _ _ _ _ U ?_;simp only[aN];exact ⟨_,_,rfl,h6,h3'⟩
   ·simp only[I.ev,hf,I.bg,I.dG,List.map_set,h7,cW.db.injEq];apply List.ext_getElem?;intro k;rw[List.getElem?_set];split
    ·rename_i hk;subst hk;simp[hi,hfi]
    ·rfl
 |_::_,.undef,_,_,_,_,_,h,_,_ | _::_,.dF,_,_,_,_,_,h,_,_ | _::_,.bool _,_,_,_,_,_,h,_,_ | _::_,.int _ _,_,_,_,_,_,h,_,_ | _::_,.bm _,_,_,_,_,_,h,_,_ | _::_,.nilp,_,_,_,_,_,h,_,_
 |_::_,.dK,_,_,_,_,_,h,_,_ | _::_,.dL,_,_,_,_,_,h,_,_ | _::_,.any,_,_,_,_,_,h,_,_ | _::_,.raw _,_,_,_,_,_,h,_,_ | _::_,.nils _,_,_,_,_,_,h,_,_ | _::_,.c0 _,_,_,_,_,_,h,_,_ | _::_,.slice _ _,_,_,_,_,_,h,_,_ | _::_,.tuple _,_,_,_,_,_,h,_,_
 |_::_,.ref _,_,_,_,_,_,h,_,_ | _::_,.func _ _,_,_,_,_,_,h,_,_ | _::_,.iface _ _,_,_,_,_,_,h,_,_ | _::_,.ptr _ _,_,_,_,_,_,h,_,_ | _::_,.own _ _,_,_,_,_,_,h,_,_ | _::_,.view _ _ _ _ _,_,_,_,_,_,h,_,_ | _::_,.mref _,_,_,_,_,_,h,_,_ | _::_,.dC _,_,_,_,_,_,h,_,_ | _::_,.dx _ _,_,_,_,_,_,h,_,_=>by simp[I.at] at h
theorem mX:∀ (p:List Nat) (c x:I),c.at p=some x→c.bg.part p=some x.bg
 | [],c,x,h=>by simp only[I.at,v6] at h;subst h;cases c.bg <;>rfl
 |i::p,.agg fs,x,h=>by
  simp only[I.at] at h;cases hf:fs[i]? with
  |none=>simp[hf] at h
  |some f =>
   simp only[hf] at h;simp only[I.bg,cW.part,I.dG,zx4,hf,zz9];exact mX p f x h
 |_::_,.undef,_,h | _::_,.dF,_,h | _::_,.bool _,_,h | _::_,.int _ _,_,h | _::_,.bm _,_,h | _::_,.nilp,_,h
 |_::_,.dK,_,h | _::_,.dL,_,h | _::_,.any,_,h | _::_,.raw _,_,h | _::_,.nils _,_,h | _::_,.c0 _,_,h | _::_,.slice _ _,_,h | _::_,.tuple _,_,h
 |_::_,.ref _,_,h | _::_,.func _ _,_,h | _::_,.iface _ _,_,h | _::_,.ptr _ _,_,h | _::_,.own _ _,_,h | _::_,.view _ _ _ _ _,_,h | _::_,.mref _,_,h | _::_,.dC _,_,h | _::_,.dx _ _,_,h=>by simp[I.at] at h
end Go.Abs
namespace Go.Abs
open Go Go.RowKit
inductive aq where
 |box (c:I)
 |bV (T:TypeId) (sz:Nat) (es:List I)
 |dR (o:Obj)
 |bD (ks vs:List I)
 |it (ks vs:List I) (left:List Nat) (cur:Option Nat)
 |dT (T:TypeId) (xs:List Int)
 deriving Inhabited
def aq.eG:aq→Bool
 | .it _ _ _ _=>false
 |_=>true
structure ai where
 t:Nat→I
 o:Nat→Option aq
def ai.put(A:ai)(d:Nat)(v:I):ai:=⟨fun k=>if k=d then v else A.t k,A.o⟩
def ai.aW(A:ai)(d:Option Nat)(v:I):ai:=match d with | some d=>A.put d v | none=>A
def ai.aT(A:ai)(n:Nat)(x:aq):ai:=⟨A.t,fun k=>if k=n then some x else A.o k⟩
def b9:List (Nat×I)→Nat→I
 | [],_=>.dF
 |(k,v)::r,t=>if t=k then v else b9 r t
def ak:List (Nat×aq)→Nat→Option aq
 | [],_=>none
 |(k,v)::r,t=>if t=k then some v else ak r t
def aw(ts:List (Nat×I))(os:List (Nat×aq)):ai:=⟨b9 ts,ak os⟩
def ay(os:List (Nat×aq))(n:Nat):Bool:=(ak os n).isSome
abbrev cL:=I→List (Nat×aq)→Prop
structure cV where
 P:Program
 eM:World
 bH:aS
 n:Nat
 own:Nat→Prop
 cP:bf
 Y:Value→List I→List (Nat×aq)→cL→Prop
 kE:Option Nat
 fx:Option (List Deferred):=none
def dA:Value→List I→List (Nat×aq)→cL→Prop:=fun _ _ _ _=>False
def cV.bB(c:cV):Fence:=match c.kE with
 |none=>Fence.wide
 |some l=>Fence.wide.inRound l
def cV.fu(c:cV)(b:Nat):Prop:=c.eM.heap.size≤b∨c.own b
structure ft (M:Nat→Prop) (w w':World):Prop where
 os:w'.os=w.os
 tape:w'.tape=w.tape
 output:w'.output=w.output
 size:w.heap.size≤w'.heap.size
 block:∀ k,¬ M k→w'.heap[k]?=w.heap[k]?
theorem ft.refl(M:Nat→Prop)(w:World):ft M w w:=⟨rfl,rfl,rfl,zz3 _,fun _ _=>rfl⟩
theorem ft.trans{M:Nat→Prop}{a b c:World}(h:ft M a b)(k:ft M b c):ft M a c :=
 ⟨k.os.trans h.os,k.tape.trans h.tape,k.output.trans h.output,zu0 h.size k.size,fun i hi=>(k.block i hi).trans (h.block i hi)⟩
theorem ft.grow{M:Nat→Prop}{w w':World}{B:Nat}(h:Below B w w')(hB:∀ k,B≤k→M k):ft M w w' :=
 ⟨h.os,h.tape,h.output,h.size,fun k hk=>h.block k (Nat.lt_of_not_le fun hle=>hk (hB k hle))⟩
theorem ft.J8{M:Nat→Prop}{w w':World}{B:Nat}(h:ft M w w')(hB:∀ k,k<B→¬ M k):Below B w w' :=
 ⟨h.os,h.tape,h.output,h.size,fun k hk=>h.block k (hB k hk)⟩
def bR.aK:bR→Option Nat
 | .aP b _=>some b
 | .rw (some (b,_)) _=>some b
 | .rw none _=>none
 | .op b=>some b
 | .bD b=>some b
 | .it b=>some b
def bR.e9:bR→Bool
 | .op _ | .bD _ | .it _=>true
 |_=>false
def pX:Obj→Bool
 | .loop _=>true
 |_=>false
def yp:Obj→Bool
 | .deferred _=>false
 |_=>true
theorem aby{o:Obj}(h:pX o=true):yp o=true:=by cases o <;>first | rfl | cases h
def oC(es:Array MapEntry)(bA:Array Nat):List Nat:=(List.range es.size).filter fun i=>match es[i]? with
 |some e => !bA.contains e.born
 |none=>false
def dc(M:Nat→Prop)(w:World)(D:aS)(E:bf)(n:Nat):Option aq→Prop
 |none=>E n=none
 |some (.box x)=>∃ b cs T,E n=some (.aP b x.bg)∧M b∧w.heap[b]?=some (.cells cs T (0,0))∧al w D E x cs.toList∧∀ o,¬ D b o
 |some (.bV T sz es)=>∃ aK,E n=some (.rw aK es.length)∧(∀ e∈es,e.size=sz)∧match aK with
  |none=>es=[]
  |some (b,cap)=>∃ cs pre rest,M b∧w.heap[b]?=some (.cells cs T (0,0))∧cs.toList=pre++rest∧aN w D E es pre ∧
    cs.size=cap*sz∧es.length≤cap∧cap≤maxLen∧∀ o,D b o→o<pre.length
 |some (.dR x)=>∃ b,E n=some (.op b)∧M b∧w.heap[b]?=some x∧pX x=true∧∀ o,¬ D b o
 |some (.bD ks vs)=>∃ b es clock,E n=some (.bD b)∧M b∧w.heap[b]?=some (.map es clock)∧o9 es clock∧aH w D E ks (es.toList.map (·.key))∧aH w D E vs (es.toList.map (·.val))∧∀ o,¬ D b o
 |some (.it ks vs left cur)=>∃ r b es clock since bA last,E n=some (.it r)∧M r∧w.heap[r]?=some (.mapIter (some b) since bA last)∧oG w D b es clock∧aH w D E ks (es.toList.map (·.key))∧aH w D E vs (es.toList.map (·.val)) ∧
   (∀ x∈es.toList,x.born<since)∧(since≤last∧since≤clock)∧left=oC es bA∧(∀ i,cur=some i→∃ e,es[i]?=some e∧bA.back?=some e.born∧last=clock)∧∀ o,¬ D r o
 |some (.dT T xs)=>∃ aK,E n=some (.rw aK xs.length)∧(∀ x∈xs,IntKind.i64.min≤x∧x≤IntKind.i64.max)∧match aK with
  |none=>xs=[]
  |some (b,cap)=>∃ cs m,M b∧w.heap[b]?=some (.cells cs T (0,0))∧cs.toList=(xs++List.replicate m 0).map (Value.int .i64)∧xs≠[]∧xs.length+m=cap∧cap≤maxLen∧∀ o,¬ D b o
def cN(E:bf)(b:Nat):Prop:=∃ n e,E n=some e∧e.aK=some b
structure kh (M:Nat→Prop) (w:World) (D:aS) (E:bf) (o:Nat→Option aq):Prop where
 bU:∀ n,dc M w D E n (o n)
 cU:∀ n m e e' b,E n=some e→E m=some e'→e.aK=some b→e'.aK=some b→n=m
def nY(run:Array Value→World→(Ending→World→Prop)→Prop)(since:World→aS→bf→Prop)(args:List I)(os:List (Nat×aq))(post:cL):Prop :=
 ∀ (w:World) (D:aS) (E:bf) (vs:List Value),since w D E→(∀ b o,D b o→b<w.heap.size)→kh (fun _=>True) w D E (ak os)→aH w D E args vs →
  run vs.toArray w fun e w'=>∃ v D' E' r os',e=.returned v∧post r os'∧a8 w' D' E' r v∧kh (fun b=>w.heap.size≤b∨cN E b) w' D' E' (ak os') ∧
   ft (fun b=>w.heap.size≤b∨cN E b) w w'∧(∀ b o,D b o→D' b o)∧(∀ b o,D' b o→b<w'.heap.size)∧(∀ b o,D' b o→b<w.heap.size→¬ cN E b→D b o) ∧
   (∀ n e,E n=some e→ay os' n=true→∃ e',E' n=some e'∧e.le e')∧hZ w D w'
def xX : String := "internal/strconv.uint64pow10"
def Ev:Array Value:=(((List.range 20).map fun i=>((10^i:Nat):Int)).map fun z=>Value.int .u64 z).toArray
inductive sW where
 |yP | int | pK
def rO:sW→Array Value→Prop
 | .yP,v=>v=Ev
 | .int,v=>∃ m:Int,v = #[.int .i64 m]
 | .pK,v=>∃ t p,v = #[.iface t p]
def ny : List (String × sW) := [(xX, .yP), ("internal/bytealg.MaxLen", .int), ("strconv.ErrSyntax", .pK), ("strconv.ErrRange", .pK)]
def gb(P:Program)(w:World)(own:Nat→Prop):Prop :=
 ∀ q∈ny,∀ g,P.globalNamed q.1=some g→¬ own g∧∃ v,w.var? P q.1=some v∧rO q.2 v
theorem gb.oD{P:Program}{w:World}{own own':Nat→Prop}(h:gb P w own)(ho:∀ b,own' b→own b):gb P w own':=fun q hq g hg=>⟨fun k=>(h q hq g hg).1 (ho g k),(h q hq g hg).2⟩
theorem gb.aaI{P:Program}{w w':World}{own own' M:Nat→Prop}(h:gb P w own)(hk:ft M w w')(hM:∀ b,M b→w.heap.size≤b∨own b)(ho:∀ b,own' b→M b):gb P w' own':=fun q hq g hg=>by
 obtain ⟨J,v,U,hv⟩:=h q hq g hg;have af:=U;unfold World.var? at U;rw[hg] at U;simp only[zv9] at U;have hlt:g<w.heap.size:=by
  rcases Nat.lt_or_ge g w.heap.size with h | h
  ·exact h
  ·rw[Array.getElem?_eq_none h] at U;cases U
 have hn:¬ M g:=fun hm=>by
  rcases hM g hm with h | h
  ·omega
  ·exact J h
 refine ⟨fun k=>hn (ho g k),v,?_,hv⟩;unfold World.var?;rw[hg];simp only[zv9];rw[hk.block g hn];exact U
theorem gb.tV{P:Program}{w:World}{own:Nat→Prop}(h:gb P w own){n:String}{k:sW}(hm:(n,k)∈ny){g:Nat}(hg:P.globalNamed n=some g):∃ v,w.var? P n=some v∧rO k v:=(h _ hm g hg).2
theorem gb.cell{P:Program}{w:World}{own:Nat→Prop}(h:gb P w own){n:String}{k:sW}(hm:(n,k)∈ny){g:Nat}(hg:P.globalNamed n=some g):∃ v,(∀ j,w.cell? ⟨g,j,Option.none⟩=v[j]?)∧rO k v:=by
 obtain ⟨v,J,U⟩:=h.tV hm hg;refine ⟨v,fun j =>?_,U⟩;unfold World.var? at J;rw[hg] at J;simp only[zv9] at J;unfold World.cell?;split at J
 ·rename_i cs T fz hb;simp only[v6] at J;subst J;simp[hb]
 ·cases J
structure As (c:cV) (w:World) (D:aS) (E:bf):Prop where
 dZ:ft c.fu c.eM w
 cX:∀ b o,c.bH b o→D b o
 dh:∀ b o,D b o→¬ c.fu b→c.bH b o
 ec:∀ n e,c.cP n=some e→E n=none∨∃ e',E n=some e'∧e.le e'
 fO:hZ c.eM c.bH w
 rN:gb c.P w (cN E)
def ta(P:Program)(v:Value)(vs:Array Value)(w:World)(R:Ending→World→Prop):Prop :=
 ∃ l,v=.func (.yield l) #[] #[]∧YieldAt Fence.wide 9 P l vs w R
def pt(c:cV):Prop:=gb c.P c.eM c.own∧∀ v args os post,c.Y v args os post→nY (ta c.P v) (As c) args os post
def nZ(fx:Option (List Deferred))(eM:World)(ds:List Deferred)(w:World):Prop:=match fx with
 |none=>∃ Bs:List Nat,ds=Bs.map (fun B => { target:=.collected B,args := #[] })∧Bs.Nodup∧∀ B∈Bs,eM.heap.size≤B∧w.heap[B]?=some (.deferred (some []))
 |some l=>ds=l
theorem nZ.mono{fx:Option (List Deferred)}{eM w w':World}{ds:List Deferred}(h:nZ fx eM ds w)(hk:∀ B,eM.heap.size≤B→w.heap[B]?=some (.deferred (some []))→w'.heap[B]?=some (.deferred (some []))):nZ fx eM ds w':=by
 cases fx with
 |none =>
  obtain ⟨Bs,J,U,af⟩:=h;exact ⟨Bs,J,U,fun B hB=>⟨(af B hB).1,hk B (af B hB).1 (af B hB).2⟩⟩
 |some l=>exact h
theorem nZ.grow{fx:Option (List Deferred)}{eM w w':World}{ds:List Deferred}(h:nZ fx eM ds w)(hk:Below w.heap.size w w'):nZ fx eM ds w' :=
 h.mono fun B _ hB=>(hk.block B (zy4.1 hB).1).trans hB
structure aX (c:cV) (A:ai) (a:Act) (w:World) (D:aS) (E:bf):Prop where
 sz:a.tmps.size=c.n
 eS:nZ c.fx c.eM a.defers w
 eb:∀ t,a8 w D E (A.t t) (a.tmps.getD t undef)
 dZ:ft c.fu c.eM w
 dh:∀ b o,D b o→¬ c.fu b→c.bH b o
 aU:∀ b o,D b o→b<w.heap.size
 bU:∀ n,dc c.fu w D E n (A.o n)
 cU:∀ n m e e' b,E n=some e→E m=some e'→e.aK=some b→e'.aK=some b→n=m
 ec:∀ n e,c.cP n=some e→E n=none∨∃ e',E n=some e'∧e.le e'
 fe:∀ n,c.cP n≠none→c.n≤n∧1000000≤n
 cX:∀ b o,c.bH b o→D b o
 fp:pt c
 fO:hZ c.eM c.bH w
def cd(c:cV)(A:ai)(a:Act)(w:World):Prop:=∃ D E,aX c A a w D E
section
variable {c:cV} {A:ai} {a:Act} {w:World} {D:aS} {E:bf}
theorem aX.lp(h:aX c A a w D E){w':World}{D':aS}{E':bf}(ao:ef w D E w' D' E'):hZ c.eM c.bH w':=h.fO.trans h.cX ao.fO
theorem aX.xy(h:aX c A a w D E){n:Nat}{e:bR}(hn:c.cP n=some e)(hf:e.eG=true):E n=none∨E n=some e:=by
 rcases h.ec n e hn with k | ⟨e',k,hle⟩
 ·exact .inl k
 ·rw[hle.eq hf] at k;exact .inr k
theorem uB{M:Nat→Prop}{n:Nat}{x:aq}(h:dc M w D E n (some x)):E n≠none:=by
 cases x with
 |box x=>obtain ⟨b,cs,T,J,_⟩:=h;rw[J];simp
 |bV T sz es=>obtain ⟨aK,J,_⟩:=h;rw[J];simp
 |dR o=>obtain ⟨b,J,_⟩:=h;rw[J];simp
 |bD ks vs=>obtain ⟨b,es,ck,J,_⟩:=h;rw[J];simp
 |it ks vs left=>obtain ⟨r,b,es,ck,eZ,se,la,J,_⟩:=h;rw[J];simp
 |dT T xs=>obtain ⟨aK,J,_⟩:=h;rw[J];simp
theorem fX{w:World}{b:Nat}{o:Obj}(h:w.heap[b]?=some o):b<w.heap.size:=(zy4.1 h).1
theorem aX.gw(h:aX c A a w D E){n:Nat}{e:bR}{b:Nat}(he:E n=some e)(hb:e.aK=some b):b<w.heap.size:=by
 have:=h.bU n;unfold dc at this;split at this
 ·simp[this] at he
 ·obtain ⟨b',cs,T,J,U,af,_⟩:=this;rw[J,v6] at he;subst he;simp only[bR.aK,v6] at hb;subst hb;exact fX af
 ·obtain ⟨aK,J,U,af⟩:=this;rw[J,v6] at he;subst he;split at af
  ·simp[bR.aK] at hb
  ·obtain ⟨cs,pre,rest,ar,h5,_⟩:=af;simp only[bR.aK,v6] at hb;subst hb;exact fX h5
 ·obtain ⟨b',J,U,af,_⟩:=this;rw[J,v6] at he;subst he;simp only[bR.aK,v6] at hb;subst hb;exact fX af
 ·obtain ⟨b',es,ck,J,U,af,_⟩:=this;rw[J,v6] at he;subst he;simp only[bR.aK,v6] at hb;subst hb;exact fX af
 ·obtain ⟨r,b',es,ck,eZ,se,la,J,U,af,_⟩:=this;rw[J,v6] at he;subst he;simp only[bR.aK,v6] at hb;subst hb;exact fX af
 ·obtain ⟨aK,J,U,af⟩:=this;rw[J,v6] at he;subst he;split at af
  ·simp[bR.aK] at hb
  ·obtain ⟨cs,m,ar,h5,_⟩:=af;simp only[bR.aK,v6] at hb;subst hb;exact fX h5
theorem aX.yJ(h:aX c A a w D E){n b:Nat}{e:bR}(he:E n=some e)(ho:e.e9=true)(hb:e.aK=some b):∀ o,¬ D b o:=by
 have:=h.bU n;unfold dc at this;split at this
 ·rw[this] at he;cases he
 ·obtain ⟨b',cs,T,J,_⟩:=this;rw[J] at he;cases he;cases ho
 ·obtain ⟨aK,J,_⟩:=this;rw[J] at he;cases he;cases ho
 ·obtain ⟨b',J,_,_,_,h5⟩:=this;rw[J] at he;cases he;cases hb;exact h5
 ·obtain ⟨b',es,ck,J,_,_,_,_,_,h5⟩:=this;rw[J] at he;cases he;cases hb;exact h5
 ·obtain ⟨r,b',es,ck,eZ,se,la,J,_,_,_,_,_,_,_,_,_,h5⟩:=this;rw[J] at he;cases he;cases hb;exact h5
 ·obtain ⟨aK,J,_⟩:=this;rw[J] at he;cases he;cases ho
theorem dc.later{M:Nat→Prop}{w':World}{D':aS}{E':bf}{n:Nat}{x:Option aq}(h:dc M w D E n x)(ao:ef w D E w' D' E')(aF:E' n=E n)
  (hheap:∀ e b,E n=some e→e.aK=some b→w'.heap[b]?=w.heap[b]?∧∀ o,D' b o→D b o):dc M w' D' E' n x:=by
 unfold dc at *;split
 ·rw[aF];exact h
 ·obtain ⟨b,cs,T,J,U,af,ar,h5⟩:=h;obtain ⟨k1,k2⟩:=hheap _ b J rfl;exact ⟨b,cs,T,aF.trans J,U,k1.trans af,al.later ao _ _ ar,fun o ho=>h5 o (k2 o ho)⟩
 ·obtain ⟨aK,J,U,af⟩:=h;refine ⟨aK,aF.trans J,U,?_⟩;split
  ·exact af
  ·rename_i b cap;obtain ⟨cs,pre,rest,ar,h5,h6,h7,h8,h9,h10,h11⟩:=af;obtain ⟨k1,k2⟩:=hheap _ b J rfl;exact ⟨cs,pre,rest,ar,k1.trans h5,h6,aN.later ao _ _ h7,h8,h9,h10,fun o ho=>h11 o (k2 o ho)⟩
 ·obtain ⟨b,J,U,af,ar,h5⟩:=h;obtain ⟨k1,k2⟩:=hheap _ b J rfl;exact ⟨b,aF.trans J,U,k1.trans af,ar,fun o ho=>h5 o (k2 o ho)⟩
 ·obtain ⟨b,es,ck,J,U,af,ar,h5,h6,h7⟩:=h;obtain ⟨k1,k2⟩:=hheap _ b J rfl;exact ⟨b,es,ck,aF.trans J,U,k1.trans af,ar,aH.later ao _ _ h5,aH.later ao _ _ h6,fun o ho=>h7 o (k2 o ho)⟩
 ·obtain ⟨r,b,es,ck,eZ,se,la,J,U,af,ar,h5,h6,h7,h8,h9,h9',h10⟩:=h;obtain ⟨k1,k2⟩:=hheap _ r J rfl;exact ⟨r,b,es,ck,eZ,se,la,aF.trans J,U,k1.trans af,ar.later ao,aH.later ao _ _ h5,aH.later ao _ _ h6,h7,h8,h9,h9',fun o ho=>h10 o (k2 o ho)⟩
 ·obtain ⟨aK,J,U,af⟩:=h;refine ⟨aK,aF.trans J,U,?_⟩;split
  ·exact af
  ·rename_i b cap;obtain ⟨cs,m,ar,h5,h6,h7,h8,h9,h10⟩:=af;obtain ⟨k1,k2⟩:=hheap _ b J rfl;exact ⟨cs,m,ar,k1.trans h5,h6,h7,h8,h9,fun o ho=>h10 o (k2 o ho)⟩
theorem ef.grow{w':World}{D':aS}(hb:Below w.heap.size w w')(hD:∀ b o,D b o→D' b o):ef w D E w' D' E:=by
 refine ⟨hD,fun b o v _ hv =>?_,fun _ _ _ h=>h,fun _ aK l h=>⟨aK,l,h,zz3 _,fun _=>rfl⟩,fun _ _ h=>h,fun _ _ h=>h,fun b es ck _ hm=>(hb.block b (fX hm)).trans hm⟩;rw[hb.cell (World.block_lt_of_cell? w _ hv)];exact hv
theorem aX.D0(h:aX c A a w D E){w':World}(hb:Below w.heap.size w w'):ft c.fu w w':=ft.grow hb fun k hk=>.inl (zu0 h.dZ.size hk)
theorem aX.old(h:aX c A a w D E){b:Nat}(hm:¬ c.fu b):b<w.heap.size :=
 Nat.lt_of_lt_of_le (Nat.lt_of_not_le fun hle=>hm (.inl hle)) h.dZ.size
theorem aX.jK(h:aX c A a w D E){d:Nat}(ah:d<c.n∨d<1000000):c.cP d=none:=by
 cases bz:c.cP d with
 |none=>rfl
 |some e=>have:=h.fe d (by rw[bz];simp);omega
theorem aX.grow(h:aX c A a w D E){w':World}{D':aS}(hb:Below w.heap.size w w')(hD:∀ b o,D b o→D' b o)
  (hold:∀ b o,D' b o→b<w.heap.size→D b o) (hlive:∀ b o,D' b o→b<w'.heap.size):aX c A a w' D' E:=by
 have ao:ef w D E w' D' E:=ef.grow hb hD;refine ⟨h.sz,h.eS.grow hb,fun t=>a8.later ao (h.eb t),h.dZ.trans (h.D0 hb),fun b o ah hm=>h.dh b o (hold b o ah (h.old hm)) hm,hlive,
  fun n=>(h.bU n).later ao rfl (fun e b he hb'=>⟨hb.block b (h.gw he hb'),fun o ho=>hold b o ho (h.gw he hb')⟩),h.cU,h.ec,h.fe,fun b o ah=>hD b o (h.cX b o ah),h.fp,h.lp ao⟩
theorem aX.Ie(h:aX c A a w D E){D':aS}(hD:∀ b o,D b o→D' b o)
  (hold:∀ b o,D' b o→¬ c.fu b→c.bH b o) (hlive:∀ b o,D' b o→b<w.heap.size)
  (hbox:∀ n x b,A.o n=some (.box x)→E n=some (.aP b x.bg)→∀ o,¬ D' b o)
  (hrow:∀ n T sz es b cap,A.o n=some (.bV T sz es)→E n=some (.rw (some (b,cap)) es.length)→∀ o,D' b o→o<es.length*sz)
  (hui:∀ n T xs b cap,A.o n=some (.dT T xs)→E n=some (.rw (some (b,cap)) xs.length)→∀ o,¬ D' b o)
  (hopq:∀ n e b,E n=some e→e.e9=true→e.aK=some b→∀ o,¬ D' b o):aX c A a w D' E:=by
 have ao:ef w D E w D' E:=⟨hD,fun _ _ _ _ h=>h,fun _ _ _ h=>h,fun _ aK l h=>⟨aK,l,h,zz3 _,fun _=>rfl⟩,fun _ _ h=>h,fun _ _ h=>h,fun _ _ _ _ h=>h⟩
 refine ⟨h.sz,h.eS,fun t=>a8.later ao (h.eb t),h.dZ,hold,hlive,fun n =>?_,h.cU,h.ec,h.fe,fun b o ah=>hD b o (h.cX b o ah),h.fp,h.fO⟩;have ho:=h.bU n;cases hx:A.o n with
 |none=>rw[hx] at ho;exact ho
 |some x =>
  cases x with
  |box x =>
   rw[hx] at ho;obtain ⟨b,cs,T,J,U,af,ar,h5⟩:=ho;exact ⟨b,cs,T,J,U,af,al.later ao _ _ ar,hbox n x b hx J⟩
  |bV T sz es =>
   rw[hx] at ho;obtain ⟨aK,J,U,af⟩:=ho;refine ⟨aK,J,U,?_⟩;cases aK with
   |none=>exact af
   |some bc =>
    obtain ⟨b,cap⟩:=bc;obtain ⟨cs,pre,rest,ar,h5,h6,h7,h8,h9,h10,h11⟩:=af;refine ⟨cs,pre,rest,ar,h5,h6,aN.later ao _ _ h7,h8,h9,h10,fun o ah =>?_⟩;rw[aN.length _ _ h7,I.iM _ U];exact hrow n T sz es b cap hx J o ah
  |dR x =>
   rw[hx] at ho;obtain ⟨b,J,U,af,ar,h5⟩:=ho;exact ⟨b,J,U,af,ar,hopq n _ b J rfl rfl⟩
  |bD ks vs =>
   rw[hx] at ho;obtain ⟨b,es,ck,J,U,af,ar,h5,h6,h7⟩:=ho;exact ⟨b,es,ck,J,U,af,ar,aH.later ao _ _ h5,aH.later ao _ _ h6,hopq n _ b J rfl rfl⟩
  |it ks vs left cur =>
   rw[hx] at ho;obtain ⟨r,b,es,ck,eZ,se,la,J,U,af,ar,h5,h6,h7,h8,h9,h9',h10⟩:=ho;exact ⟨r,b,es,ck,eZ,se,la,J,U,af,ar.later ao,aH.later ao _ _ h5,aH.later ao _ _ h6,h7,h8,h9,h9',hopq n _ r J rfl rfl⟩
  |dT T xs =>
   rw[hx] at ho;obtain ⟨aK,J,U,af⟩:=ho;refine ⟨aK,J,U,?_⟩;cases aK with
   |none=>exact af
   |some bc =>
    obtain ⟨b,cap⟩:=bc;obtain ⟨cs,m,ar,h5,h6,h7,h8,h9,h10⟩:=af;exact ⟨cs,m,ar,h5,h6,h7,h8,h9,hui n T xs b cap hx J⟩
theorem ZI(a:Act)(d:Nat)(v:Value)(t:Nat)(ah:d<a.tmps.size):(a.put (some d) v).tmps.getD t undef=if t=d then v else a.tmps.getD t undef:=by
 simp only[Act.put,Array.getD_eq_getD_getElem?,Array.getElem?_setIfInBounds];by_cases h:t=d
 ·subst h;simp[ah]
 ·simp[h,Ne.symm h]
theorem aX.put(h:aX c A a w D E){d:Nat}{x:I}{v:Value}(ah:d<c.n)(hv:a8 w D E x v):aX c (A.put d x) (a.put (some d) v) w D E:=by
 refine ⟨by simp[Act.put,h.sz],by exact h.eS,fun t =>?_,h.dZ,h.dh,h.aU,h.bU,h.cU,h.ec,h.fe,h.cX,h.fp,h.fO⟩;rw[ZI a d v t (by rw[h.sz];exact ah)];simp only[ai.put];split
 ·exact hv
 ·exact h.eb t
theorem aX.aW(h:aX c A a w D E){d:Option Nat}{x:I}{v:Value}(ah:∀ k,d=some k→k<c.n)(hv:a8 w D E x v):aX c (A.aW d x) (a.put d v) w D E:=by
 cases d with
 |none=>exact h
 |some d=>exact h.put (ah d rfl) hv
theorem qT(w:World)(o:Obj):Below w.heap.size w (w.alloc o):=(Below.refl _ _).alloc (zz3 _) o
theorem HB{w:World}{D:aS}{E:bf} : ∀ {xs:List I} {vs:List Value},aH w D E xs vs→vs.length=xs.length
 | [],vs,h=>by simp only[aH] at h;subst h;rfl
 |x::xs,vs,h=>by
  simp only[aH] at h;obtain ⟨v,rest,cs,rfl,_,_,af⟩:=h;simp[HB af]
theorem aX.ym(h:aX c A a w D E){d:Nat}{x:aq}{o':Obj}{e:bR}(hdn:d<c.n∨d<1000000)(ah:A.o d=none)(heb:e.aK=some w.heap.size)
  (hx:ef w D E (w.alloc o') D (fun n=>if n=d then some e else E n)→(∀ o,¬ D w.heap.size o)→dc c.fu (w.alloc o') D (fun n=>if n=d then some e else E n) d (some x)) :
  aX c (A.aT d x) a (w.alloc o') D (fun n=>if n=d then some e else E n):=by
 have hEd:E d=none:=by have:=h.bU d;rw[ah] at this;exact this
 have hne:∀ {n:Nat} {e:bR},E n=some e→n≠d:=fun he e'=>by rw[e',hEd] at he;cases he
 have ao:ef w D E (w.alloc o') D (fun n=>if n=d then some e else E n):=by
  refine ⟨fun _ _ h=>h,fun b o v _ hv =>?_,fun n b bg he =>?_,fun n aK l he =>?_,fun n b he =>?_,fun n b he =>?_,fun b es ck _ hm=>(Below.heap_alloc w _ b (fX hm)).trans hm⟩
  ·rw[World.cell?_alloc_lt _ _ _ (World.block_lt_of_cell? w _ hv)];exact hv
  ·simp only[if_neg (hne he)];exact he
  ·exact ⟨aK,l,by simp only[if_neg (hne he)];exact he,zz3 _,fun _=>rfl⟩
  ·simp only[if_neg (hne he)];exact he
  ·simp only[if_neg (hne he)];exact he
 refine ⟨h.sz,h.eS.grow (qT w _),fun t=>a8.later ao (h.eb t),h.dZ.trans (h.D0 (qT w _)),h.dh,fun b o hd'=>by have:=h.aU b o hd';simp;omega,fun n =>?_,?_,fun n e' hn =>?_,h.fe,h.cX,h.fp,h.lp ao⟩
 ·simp only[ai.aT];by_cases hn:n=d
  ·subst hn;simp only[if_true];exact hx ao fun o ho=>Nat.lt_irrefl _ (h.aU _ o ho)
  ·simp only[if_neg hn];exact (h.bU n).later ao (by simp only[if_neg hn]) fun e b he hb=>⟨Below.heap_alloc w _ b (h.gw he hb),fun _ ho=>ho⟩
 ·intro n m e1 e2 b J U af ar;by_cases hn:n=d <;>by_cases hm:m=d
  ·rw[hn,hm]
  ·simp only[if_pos hn,v6] at J;simp only[if_neg hm] at U;subst J;rw[heb] at af;cases af;have:=h.gw U ar;omega
  ·simp only[if_neg hn] at J;simp only[if_pos hm,v6] at U;subst U;rw[heb] at ar;cases ar;have:=h.gw J af;omega
  ·simp only[if_neg hn] at J;simp only[if_neg hm] at U;exact h.cU n m e1 e2 b J U af ar
 ·have hnd:n≠d:=fun e=>by rw[e,h.jK hdn] at hn;cases hn
  simp only[if_neg hnd];exact h.ec n e' hn
theorem aX.rX(h:aX c A a w D E){d:Nat}{x:I}{cs:Array Value}{T:TypeId}(hdn:d<c.n∨d<1000000)(ah:A.o d=none)(hx:al w D E x cs.toList) :
  aX c (A.aT d (.box x)) a (w.alloc (.cells cs T)) D (fun n=>if n=d then some (.aP w.heap.size x.bg) else E n) :=
 h.ym hdn ah rfl fun ao hno=>⟨w.heap.size,cs,T,by simp,.inl h.dZ.size,heap_alloc_new w _,al.later ao _ _ hx,hno⟩
theorem aX.abv(h:aX c A a w D E){d:Nat}(hdn:d<c.n∨d<1000000)(ah:A.o d=none) :
  aX c (A.aT d (.bD [] [])) a (w.alloc (.map #[] 0)) D (fun n=>if n=d then some (.bD w.heap.size) else E n) :=
 h.ym hdn ah rfl fun _ hno=>⟨w.heap.size,#[],0,by simp,.inl h.dZ.size,heap_alloc_new w _,⟨by simp,by simp⟩,by simp[aH],by simp[aH],hno⟩
theorem aX.abu(h:aX c A a w D E){d b clock:Nat}{ks vs:List I}{es:Array MapEntry}(hdn:d<c.n∨d<1000000)(ah:A.o d=none)(hm:oG w D b es clock)(hk:aH w D E ks (es.toList.map (·.key)))(hv:aH w D E vs (es.toList.map (·.val))) :
  aX c (A.aT d (.it ks vs (List.range ks.length) none)) a (w.alloc (.mapIter (some b) clock #[] clock)) D (fun n=>if n=d then some (.it w.heap.size) else E n) :=
 h.ym hdn ah rfl fun ao hno=>⟨w.heap.size,b,es,clock,clock,#[],clock,by simp,.inl h.dZ.size,heap_alloc_new w _,hm.later ao,aH.later ao _ _ hk,aH.later ao _ _ hv,hm.2.2.1,⟨zz3 _,zz3 _⟩,by
  have e:ks.length=es.size:=by have:=HB hk;simpa using this.symm
  rw[e];unfold oC;exact (List.filter_eq_self.2 fun i hi=>by
   have hi':i<es.size:=by simpa using hi
   simp[zv7 hi']).symm,(fun i hi=>by cases hi),hno⟩
theorem wJ(w:World)(g:Nat)(cs:Array Value)(p:Addr)(h:p.block≠g):(w.setRow g cs).cell? p=w.cell? p :=
 World.cell?_of_block (setRow_other w g p.block cs h)
theorem xV{M:Nat→Prop}{eM w:World}(h:ft M eM w){g:Nat}(hg:M g)(cs:Array Value):ft M eM (w.setRow g cs) :=
 h.trans ⟨rfl,rfl,rfl,by simp[World.setRow],fun k hk=>setRow_other w g k cs (fun e=>hk (e▸hg))⟩
theorem aX.zu(h:aX c A a w D E){n b:Nat}{x y:I}{cs':Array Value}(hn:A.o n=some (.box x))(aF:E n=some (.aP b x.bg))(ab:y.bg=x.bg)(hy:al w D E y cs'.toList) :
  aX c (A.aT n (.box y)) a (w.setRow b cs') D E:=by
 have ho:=h.bU n;rw[hn] at ho;obtain ⟨b',cs,T,J,U,af,ar,h5⟩:=ho;rw[aF] at J;simp only[v6,bR.aP.injEq,and_true] at J;subst J;have ao:ef w D E (w.setRow b cs') D E:=by
  refine ⟨fun _ _ h=>h,fun b1 o v ah hv =>?_,fun _ _ _ h=>h,fun _ aK l h=>⟨aK,l,h,zz3 _,fun _=>rfl⟩,fun _ _ h=>h,fun _ _ h=>h,fun b1 es ck ah hm=>(setRow_other w b b1 _ (fun e=>h5 0 (by rw[←e];exact ah))).trans hm⟩;rw[wJ _ _ _ _ (fun e=>h5 o (by rw[←e];exact ah))];exact hv
 refine ⟨h.sz,h.eS.mono fun B _ hB=>(setRow_other w b B cs' (fun e=>by rw[e,af] at hB;cases hB)).trans hB,fun t=>a8.later ao (h.eb t),xV h.dZ U _,h.dh,fun b1 o ah=>by have:=h.aU b1 o ah;simpa[World.setRow] using this,fun m =>?_,h.cU,h.ec,h.fe,h.cX,h.fp,h.lp ao⟩;simp only[ai.aT];by_cases hm:m=n
 ·subst hm;simp only[if_true,dc];exact ⟨b,cs',T,by rw[ab];exact aF,U,setRow_heap w b cs cs' T _ af,al.later ao _ _ hy,h5⟩
 ·simp only[if_neg hm];refine (h.bU m).later ao rfl fun e b1 he hb=>⟨setRow_other w b b1 cs' (fun e1=>hm (h.cU m n e _ b he aF (by rw[hb,e1]) rfl)),fun _ ho=>ho⟩
theorem wK{w:World}{B:Nat}{o o':Obj}(h:w.heap[B]?=some o)(ho:o.isCells=false){b off:Nat}{v:Value}(hv:w.cell? ⟨b,off,none⟩=some v):(w.putObj B o').cell? ⟨b,off,none⟩=some v:=by
 have hne:b≠B:=fun e=>by
  obtain ⟨o2,U,af⟩:=cells_of_cell hv;simp only at U;rw[e,h] at U;cases U;rw[ho] at af;cases af
 rw[World.cell?_of_block (w:=w) (World.putObj_heap_other hne)];exact hv
theorem aX.zy(h:aX c A a w D E){n b:Nat}{e:bR}{x:aq}{o0 o':Obj}(aF:E n=some e)(ho:e.e9=true)(hb:e.aK=some b)(hw:w.heap[b]?=some o0)(hnc:o0.isCells=false)(hnd:∀ q,o0≠.deferred q)(hmine:c.fu b)
  (hx:ef w D E (w.putObj b o') D E→(w.putObj b o').heap[b]?=some o'→(∀ o,¬ D b o)→dc c.fu (w.putObj b o') D E n (some x)):aX c (A.aT n x) a (w.putObj b o') D E:=by
 have hno:=h.yJ aF ho hb;have hlt:b<w.heap.size:=fX hw;have ao:ef w D E (w.putObj b o') D E:=⟨fun _ _ h=>h,fun b1 o1 v _ hv=>wK hw hnc hv,fun _ _ _ h=>h,fun _ aK l h=>⟨aK,l,h,zz3 _,fun _=>rfl⟩,fun _ _ h=>h,fun _ _ h=>h,
  fun b1 es ck ah hm=>(World.putObj_heap_other (fun e1=>hno 0 (by rw[←e1];exact ah))).trans hm⟩
 refine ⟨h.sz,h.eS.mono fun B _ hB=>(World.putObj_heap_other (fun e1=>by rw[e1,hw] at hB;exact hnd _ (Option.some.inj hB))).trans hB,fun t=>a8.later ao (h.eb t),h.dZ.trans ⟨rfl,rfl,rfl,by simp,fun k hk=>World.putObj_heap_other (fun e1=>hk (e1▸hmine))⟩,h.dh,
  fun b1 o1 ah=>by have:=h.aU b1 o1 ah;simpa using this,fun m =>?_,h.cU,h.ec,h.fe,h.cX,h.fp,h.lp ao⟩
 simp only[ai.aT];by_cases hm:m=n
 ·subst hm;simp only[if_true];exact hx ao (World.putObj_heap_same hlt) hno
 ·simp only[if_neg hm];exact (h.bU m).later ao rfl fun e' b1 he hb'=>⟨World.putObj_heap_other (fun e1=>hm (h.cU m n e' _ b1 he aF hb' (by rw[e1];exact hb))),fun _ ho=>ho⟩
end
inductive aM where
 |t (n:Nat)
 |c (x:I)
 deriving Inhabited
inductive cK where
 |i (k:IntKind)
 |b
 |s
 |bh (l:List cK)
 |qS (n:Nat) (e:cK)
 deriving Inhabited
mutual
def cK.size:cK→Nat
 | .i _ | .b | .s=>1
 | .bh l=>cK.sizes l
 | .qS n e=>n*e.size
def cK.sizes:List cK→Nat
 | []=>0
 |t::ts=>t.size+cK.sizes ts
end
inductive vN where
 |eZ
 |ss (lo hi:Bool)
 |oI (neg:Bool)
 deriving Inhabited,DecidableEq
inductive bW where
 |mv (x:aM)
 |pick (c a b:aM)
 |bin (op:BinOp) (x y:aM)
 |eqv (ty:cK) (neg:Bool) (x y:aM)
 |nilS (neg:Bool) (x:aM)
 |conv (k:IntKind) (x:aM)
 |un (op:UnOp) (x:aM)
 |ld (s:Option Nat) (x:aM)
 |fa (f off:Nat) (x:aM)
 |fl (f off:Nat) (s:Option Nat) (x:aM)
 |ia (n esz:Nat) (x i:aM)
 |is (esz:Nat) (x i:aM)
 |ix (n esz:Nat) (s:Option Nat) (x i:aM)
 |len (x:aM)
 |lenT (x:aM)
 |va (n esz:Nat) (x:aM)
 |sl (esz:Nat) (x:aM) (lo hi mx:Option aM)
 |bld (zs:List I) (parts:List (Nat×aM))
 |bs (T esz:Nat) (parts:List aM)
 |ext (x:aM) (i:Nat)
 |mk (f:FuncId) (caps:List aM)
 |alloc (z:I)
 |box (x:aM)
 |bh (s:Option Nat) (x v:aM)
 |dk (e:TypeId) (esz bytes:Nat) (z:I) (s x:aM)
 |mg (e:TypeId) (esz bytes:Nat) (z:I) (s n:aM)
 |cap (x:aM)
 |bs0 (esz:Nat)
 |kj (esz:Nat) (z:I) (x:aM)
 |lK (esz:Nat) (x y:aM)
 |call (f:FuncId) (args:List aM)
 |gi (x:aM) (args:List aM)
 |kJ (f:FuncId) (args:List aM)
 |nilC (x:aM)
 |ptrE (neg:Bool) (x y:aM)
 |max2 (x y:aM)
 |prim (p:vN) (xs:List aM)
 |b2s (x:aM)
 |kV (e:TypeId) (bytes:Nat) (z:I) (n:aM)
 |jo
 |lk (ty:cK) (z:I) (ok:Bool) (m k:aM)
 |fj (ty:cK) (m k v:aM)
 |jn (ty:cK) (m k:aM)
 |j9 (x:aM)
 |iW (x:aM)
 |ent (x:aM)
 deriving Inhabited
def tu(sz:Nat):Value→Option I
 | .bool b=>some (.bool b)
 | .int k n=>if k.min≤n∧n≤k.max then some (.int k n) else none
 | .string s=>if s.size≤1000000 then some (.bm s) else none
 | .pointer none=>some .nilp
 | .slice none 0 0=>some (.nils sz)
 | .nilFunc=>some .dK
 | .nilIface=>some .dL
 | .map none=>some (.raw (.map none))
 |_=>none
theorem KD{sz:Nat}{v:Value}{x:I}(h:tu sz v=some x)(w:World)(D:aS)(E:bf):a8 w D E x v:=by
 unfold tu at h;split at h
 case h_2 =>
  split at h
  ·rename_i bz;simp only[v6] at h;subst h;exact ⟨_,by simp[bC,I.isAgg];rfl,by simp only[al,true_and];exact bz⟩
  ·simp at h
 case h_3 =>
  split at h
  ·rename_i bz;simp only[v6] at h;subst h;exact ⟨_,by simp[bC,I.isAgg];rfl,by simp only[al,true_and];unfold maxLen;omega⟩
  ·simp at h
 case h_9=>simp at h
 all_goals
  simp only[v6] at h;subst h;exact ⟨_,by simp[bC,I.isAgg];rfl,by simp[al,Value.oneCell']⟩
def Px(P:Program)(t:TypeId):Nat:=match P.underlying t with | some (.slice e)=>P.cellsOf e | _=>0
def bq(P:Program)(t:TypeId):Operand→Option aM
 | .tmp n=>some (.t n)
 | .const v=>(tu (Px P t) v).map .c
 | .func f=>if f<1000000 then some (.c (.func f [])) else none
 | .global _=>none
def aj(A:ai):aM→I
 | .t n=>A.t n
 | .c x=>x
section
variable {c:cV} {A:ai} {a:Act} {w:World} {D:aS} {E:bf}
theorem bS(h:aX c A a w D E){P:Program}{t:TypeId}{x:Operand}{y:aM}(hc:bq P t x=some y):a8 w D E (aj A y) (a.eval x):=by
 cases x with
 |tmp n=>simp only[bq,v6] at hc;subst hc;exact h.eb n
 |const v =>
  simp only[bq,t8] at hc;obtain ⟨z,hz,rfl⟩:=hc;exact KD hz w D E
 |global g=>simp[bq] at hc
 |func f =>
  simp only[bq] at hc;split at hc
  case isFalse=>cases hc
  rename_i hf;simp only[v6] at hc;subst hc;exact ⟨[.func (.func f) #[] #[]],by simp[bC,I.isAgg,aj,Act.eval],by simp only[al,aj,aH];exact ⟨[],by rw[nr hf],rfl⟩⟩
theorem lg{b:Bool}{v:Value}(h:a8 w D E (.bool b) v):v=.bool b:=by
 obtain ⟨cs,J,U⟩:=h;simp only[al] at U;simp[bC,I.isAgg,U] at J;exact J.symm
theorem eJ{k:IntKind}{n:Int}{v:Value}(h:a8 w D E (.int k n) v):v=.int k n∧k.min≤n∧n≤k.max:=by
 obtain ⟨cs,J,U⟩:=h;simp only[al] at U;simp[bC,I.isAgg,U.1] at J;exact ⟨J.symm,U.2⟩
theorem iw{s:ByteArray}{v:Value}(h:a8 w D E (.bm s) v):v=.string s∧s.size≤maxLen:=by
 obtain ⟨cs,J,U⟩:=h;simp only[al] at U;simp[bC,I.isAgg,U.1] at J;exact ⟨J.symm,U.2⟩
theorem E8{x:I}{v:Value}(hx:x.isAgg=false)(h:al w D E x [v]):a8 w D E x v:=by
 cases x <;>simp only[al] at h <;>first | (simp[I.isAgg] at hx;done) | exact ⟨[v],by simp[bC,I.isAgg],by simpa only[al] using h⟩
theorem jP{fs:List I}{v:Value}(h:a8 w D E (.agg fs) v):∃ cs:List Value,v=.agg cs.toArray∧aN w D E fs cs:=by
 obtain ⟨cs,J,U⟩:=h;simp only[al] at U;exact ⟨cs,by simpa[bC,I.isAgg] using J,U⟩
theorem E7{fs:List I}{cs:List Value}(h:aN w D E fs cs):a8 w D E (.agg fs) (.agg cs.toArray):=⟨cs,by simp[bC,I.isAgg],by simpa only[al] using h⟩
theorem mF(b:Bool):a8 w D E (.bool b) (.bool b):=⟨[.bool b],by simp[bC,I.isAgg],by simp[al]⟩
theorem j2{k:IntKind}{n:Int}(h:k.min≤n∧n≤k.max):a8 w D E (.int k n) (.int k n):=⟨[.int k n],by simp[bC,I.isAgg],by simp only[al,true_and];exact h⟩
theorem l5{n:Nat}{p:List Nat}{v:Value}(h:a8 w D E (.ptr n p) v):∃ b bg off,E n=some (.aP b bg)∧bg.off p=some off∧v=.pointer (some ⟨b,off,none⟩):=by
 obtain ⟨cs,J,U⟩:=h;simp only[al] at U;obtain ⟨b,bg,off,af,ar,h5⟩:=U;exact ⟨b,bg,off,af,ar,by simpa[bC,I.isAgg,h5] using J.symm⟩
theorem qA{x:I}{v:Value}(h:a8 w D E (.ref x) v):∃ b off cs,v=.pointer (some ⟨b,off,none⟩)∧reads w D b off cs∧al w D E x cs:=by
 obtain ⟨cs,J,U⟩:=h;simp only[al] at U;obtain ⟨b,off,cs',af,ar,h5⟩:=U;exact ⟨b,off,cs',by simpa[bC,I.isAgg,af] using J.symm,ar,h5⟩
theorem uv{x:I}{b off:Nat}{cs:List Value}(J:reads w D b off cs)(U:al w D E x cs):a8 w D E (.ref x) (.pointer (some ⟨b,off,none⟩)) :=
 ⟨_,by simp[bC,I.isAgg];rfl,by simp only[al];exact ⟨b,off,cs,rfl,J,U⟩⟩
theorem nP{sz:Nat}{es:List I}{v:Value}(h:a8 w D E (.slice sz es) v):∃ ad cap,v=.slice ad es.length cap∧es.length≤cap∧cap≤maxLen ∧
  (es=[]∨∃ b off cs,ad=some ⟨b,off,none⟩∧reads w D b off cs∧aN w D E es cs)∧∀ e∈es,e.size=sz:=by
 obtain ⟨cs,J,U⟩:=h;simp only[al] at U;obtain ⟨ad,cap,af,ar⟩:=U;exact ⟨ad,cap,by simpa[bC,I.isAgg,af] using J.symm,ar⟩
theorem uw{sz:Nat}{es:List I}{ad:Option Addr}{n cap:Nat}(hn:n=es.length)(J:n≤cap)(U:cap≤maxLen)
  (af:es=[]∨∃ b off cs,ad=some ⟨b,off,none⟩∧reads w D b off cs∧aN w D E es cs) (ar:∀ e∈es,e.size=sz):a8 w D E (.slice sz es) (.slice ad n cap):=by
 subst hn;exact ⟨_,by simp[bC,I.isAgg];rfl,by simp only[al];exact ⟨ad,cap,rfl,J,U,af,ar⟩⟩
end
def cu(op:BinOp)(x y:I):Option I :=
 match x,y with
 | .int k a,.int k' b =>
  match op with
  | .shl=>if 0≤b then some (.int k (k.wrap (a*2^(min b.toNat k.bits)))) else none
  | .shr=>if 0≤b then some (.int k (a.fdiv (2^(min b.toNat k.bits)))) else none
  |op=>if k=k' then
   match op with
   | .add=>some (.int k (k.wrap (a+b)))
   | .sub=>some (.int k (k.wrap (a-b)))
   | .mul=>some (.int k (k.wrap (a*b)))
   | .quo=>if b=0 then none else some (.int k (k.wrap (a.tdiv b)))
   | .rem=>if b=0 then none else some (.int k (a.tmod b))
   | .and=>some (.int k (k.wrap ((BitVec.ofInt k.bits a &&& BitVec.ofInt k.bits b).toNat:Int)))
   | .or=>some (.int k (k.wrap ((BitVec.ofInt k.bits a ||| BitVec.ofInt k.bits b).toNat:Int)))
   | .xor=>some (.int k (k.wrap ((BitVec.ofInt k.bits a ^^^ BitVec.ofInt k.bits b).toNat:Int)))
   | .andNot=>some (.int k (k.wrap ((BitVec.ofInt k.bits a &&& ~~~ BitVec.ofInt k.bits b).toNat:Int)))
   | .eql=>some (.bool (a==b))
   | .neq=>some (.bool (a != b))
   | .lss=>some (.bool (decide (a<b)))
   | .leq=>some (.bool (decide (a≤b)))
   | .gtr=>some (.bool (decide (a>b)))
   | .geq=>some (.bool (decide (a≥b)))
   |_=>none
   else none
 | .bm s,.bm t =>
  match op with
  | .eql=>some (.bool (s.toList==t.toList))
  | .neq=>some (.bool (!(s.toList==t.toList)))
  | .lss=>some (.bool (Op.bytesLess s.toList t.toList))
  | .leq=>some (.bool (Op.bytesLess s.toList t.toList||s.toList==t.toList))
  | .gtr=>some (.bool (!(Op.bytesLess s.toList t.toList||s.toList==t.toList)))
  | .geq=>some (.bool (!(Op.bytesLess s.toList t.toList)))
  | .add=>if s.size+t.size≤9223372036854775807 then some (.bm (s++t)) else none
  |_=>none
 |_,_=>none
theorem qH(k:IntKind)(n:Int):k.min≤k.wrap n∧k.wrap n≤k.max:=by
 cases k <;>simp only[IntKind.min,IntKind.max,IntKind.wrap,IntKind.bits,IntKind.signed] <;>simp <;>(try split) <;>omega
theorem aeg(a b:Int):(0≤a→0≤a.tmod b∧a.tmod b≤a)∧(a<0→a≤a.tmod b∧a.tmod b≤0):=by
 have key:∀ n:Nat,0≤(n:Int).tmod b∧(n:Int).tmod b≤n:=by
  intro n;cases b with
  |ofNat m=>show 0≤((n%m:Nat):Int)∧((n%m:Nat):Int)≤n;have:=Nat.mod_le n m;omega
  |negSucc m=>show 0≤((n%(m+1):Nat):Int)∧((n%(m+1):Nat):Int)≤n;have:=Nat.mod_le n (m+1);omega
 refine ⟨fun h =>?_,fun h =>?_⟩
 ·obtain ⟨n,rfl⟩:=zx9 h;exact key n
 ·obtain ⟨n,hn⟩:=zx9 (show 0≤-a by omega);have:=key n;rw[←hn,Int.neg_tmod] at this;omega
theorem aeh(k:IntKind)(a b:Int)(h:k.min≤a∧a≤k.max):k.min≤a.tmod b∧a.tmod b≤k.max:=by
 have aR:k.min≤0∧0≤k.max:=by cases k <;>simp[IntKind.min,IntKind.max,IntKind.bits,IntKind.signed]
 have:=aeg a b;omega
theorem PR(a:Int)(m:Int)(hm:0<m):(0≤a→0≤a.fdiv m∧a.fdiv m≤a)∧(a<0→a≤a.fdiv m∧a.fdiv m≤0):=by
 rw[Int.fdiv_eq_ediv_of_nonneg _ (by omega)];have J:=Int.mul_ediv_add_emod a m;have U:=Int.emod_nonneg a (show m≠0 by omega);refine ⟨fun h=>⟨Int.ediv_nonneg h (by omega),Int.ediv_le_self _ h⟩,fun h=>⟨?_,?_⟩⟩
 ·rw[Int.le_ediv_iff_mul_le hm];have:a*m≤a*1:=Int.mul_le_mul_of_nonpos_left (by omega) (by omega);omega
 ·have:=Int.ediv_neg_of_neg_of_pos h hm;omega
theorem PS(k:IntKind)(a:Int)(n:Nat)(h:k.min≤a∧a≤k.max):k.min≤a.fdiv (2^n)∧a.fdiv (2^n)≤k.max:=by
 have aR:k.min≤0∧0≤k.max:=by cases k <;>simp[IntKind.min,IntKind.max,IntKind.bits,IntKind.signed]
 have:=PR a (2^n) (Int.pow_pos (by omega));omega
def cM(A:ai):I→Option I
 | .ref x=>some x
 | .ptr n p=>match A.o n with
  |some (.box x)=>x.at p
  |_=>none
 |_=>none
mutual
def I.bG:I→Bool
 | .agg fs=>I.cv fs
 | .slice _ es=>I.cv es
 | .ref x=>x.bG
 | .func _ caps=>I.cv caps
 | .iface _ v=>v.bG
 | .dx ks vs=>I.cv ks&&I.cv vs
 | .ptr _ _ | .own _ _ | .view _ _ _ _ _ | .mref _ | .dC _ | .undef | .dF | .tuple _=>false
 | .bool _ | .int _ _ | .bm _ | .nilp | .dK | .dL | .any | .raw _ | .nils _ | .c0 _=>true
def I.cv:List I→Bool
 | []=>true
 |x::xs=>x.bG&&I.cv xs
end
def gm(f:I→Option I):List I→Option (List I)
 | []=>some []
 |x::xs=>match f x,gm f xs with
  |some y,some ys=>some (y::ys)
  |_,_=>none
def c8(A:ai):Nat→I→Option I
 |0,_=>none
 |k+1,x=>if x.bG then some x else match x with
  | .agg fs=>(gm (c8 A k) fs).map .agg
  | .func f caps=>if f<1000000 then (gm (c8 A k) caps).map (.func f) else some .any
  | .ptr n p=>match cM A (.ptr n p) with
   |some y=>(c8 A k y).map .ref
   |none=>none
  | .view n p sz lo l=>match cM A (.ptr n p) with
   |some (.agg fs)=>if I.cv ((fs.drop lo).take l)=true then some (.slice sz ((fs.drop lo).take l)) else none
   |_=>none
  | .mref n=>match A.o n with
   |some (.bD ks vs)=>if I.cv ks=true then (gm (c8 A k) vs).map (.dx ks) else none
   |_=>none
  | .own n l=>match A.o n with
   |some (.bV _ sz es)=>if l=es.length∧I.cv es=true then some (.slice sz es) else none
   |_=>none
  |_=>none
mutual
/-- The value for others to hold: pointers to the frame's own variables and rows become what they hold. -/
def br(aP:Bool)(A:ai):I→Option I
 | .ptr n p=>if aP then (match cM A (.ptr n p) with | some x=>if x.bG then some (.ref x) else (c8 A 9 x).map .ref | none=>none) else none
 | .own n k=>match A.o n with
  |some (.bV _ sz es)=>if k=es.length∧I.cv es=true then some (.slice sz es) else none
  |_=>none
 | .view n p sz lo k=>if aP then (match cM A (.ptr n p) with
  |some (.agg fs)=>if I.cv ((fs.drop lo).take k)=true then some (.slice sz ((fs.drop lo).take k)) else none
  |_=>none) else none
 | .mref n=>if aP then (match A.o n with
  |some (.bD ks vs)=>if I.cv ks=true then (gm (c8 A 9) vs).map (.dx ks) else none
  |_=>none) else none
 | .dC _=>none
 | .dx ks vs=>if I.cv ks&&I.cv vs then some (.dx ks vs) else none
 | .nils sz=>some (.slice sz [])
 | .c0 sz=>some (.slice sz [])
 | .func f caps=>if f<1000000 then (cm aP A caps).map (.func f) else some .any
 | .agg fs=>(cm aP A fs).map .agg
 | .tuple _=>none
 | .undef=>none
 | .dF=>none
 | .bool b=>some (.bool b)
 | .int k n=>some (.int k n)
 | .bm s=>some (.bm s)
 | .nilp=>some .nilp
 | .dK=>some .dK
 | .dL=>some .dL
 | .any=>some .any
 | .raw u=>some (.raw u)
 | .slice sz es=>if I.cv es then some (.slice sz es) else none
 | .ref x=>if x.bG then some (.ref x) else none
 | .iface t v=>if v.bG then some (.iface t v) else none
def cm(aP:Bool)(A:ai):List I→Option (List I)
 | []=>some []
 |x::xs=>match br aP A x,cm aP A xs with
  |some y,some ys=>some (y::ys)
  |_,_=>none
end
def ca(s:Option Nat)(x:I):Bool:=match s with
 |none => !x.isAgg
 |some n=>x.isAgg&&x.size==n
def I.bX:I→Bool
 | .undef | .dF | .tuple _=>false
 |_=>true
def jI(n esz:Nat)(fs:List I):Bool:=fs.length==n&&fs.all fun f=>f.size==esz
def dS(zs:List I):List (Nat×I)→Option (List I)
 | []=>some zs
 |(i,v)::rest=>match zs[i]? with
  |some z=>if v.bX=true∧v.size=z.size then dS (zs.set i v) rest else none
  |none=>none
def jf(x:Option I)(d:Int):Option Int:=match x with
 |none=>some d
 |some (.int _ n)=>some n
 |_=>none
def iN(sz:Nat)(es:List I)(lo hi mx:Option I):Option I :=
 match jf hi es.length with
 |none=>none
 |some h=>match jf mx es.length with
  |none=>none
  |some m=>match jf lo 0 with
   |none=>none
   |some l=>if 0≤l∧l≤h∧h≤m∧m≤es.length then
     (if mx.isSome∧m=l then some (.c0 sz) else some (.slice sz ((es.take h.toNat).drop l.toNat))) else none
def nQ(n:Nat)(p:List Nat)(sz lo k total:Nat)(lo' hi' mx':Option I):Option I :=
 match jf hi' k with
 |none=>none
 |some h=>match jf lo' 0 with
  |none=>none
  |some l=>match mx' with
   |none=>if 0≤l∧l≤h∧h≤((total-lo:Nat):Int) then (if l=((total-lo:Nat):Int) then some (.c0 sz) else some (.view n p sz (lo+l.toNat) (h.toNat-l.toNat))) else none
   |some (.int _ m)=>if 0≤l∧l≤h∧h≤m∧m≤((total-lo:Nat):Int) then some .dF else none
   |_=>none
def jE(a b:Option Bool):Option Bool:=match a,b with
 |some x,some y=>some (x&&y)
 |_,_=>none
mutual
/-- '==',part by part. -/
def cj:cK→I→I→Option Bool
 | .i k,x,y=>match x,y with
  | .int k1 a,.int k2 b=>if k1=k∧k2=k then some (a==b) else none
  |_,_=>none
 | .b,x,y=>match x,y with
  | .bool a,.bool b=>some (a==b)
  |_,_=>none
 | .s,x,y=>match x,y with
  | .bm a,.bm b=>some (a.toList==b.toList)
  |_,_=>none
 | .bh l,x,y=>match x,y with
  | .agg fs,.agg gs=>iD l fs gs
  |_,_=>none
 | .qS n e,x,y=>match x,y with
  | .agg fs,.agg gs=>if fs.length=n∧gs.length=n then (fs.zip gs).foldr (fun p acc=>jE (cj e p.1 p.2) acc) (some true) else none
  |_,_=>none
def iD:List cK→List I→List I→Option Bool
 | [],fs,gs=>match fs,gs with
  | [],[]=>some true
  |_,_=>none
 |t::ts,fs,gs=>match fs,gs with
  |f::fs,g::gs=>jE (cj t f g) (iD ts fs gs)
  |_,_=>none
end
def pG(k:IntKind)(n:Int):Int:=k.wrap ((BitVec.ofInt k.bits (if k.signed then -1 else k.max) ^^^ BitVec.ofInt k.bits n).toNat:Int)
def eT(ty:cK)(k:I):List I→Nat→Option (Option Nat)
 | [],_=>some none
 |x::xs,i=>match cj ty k x with
  |some true=>some (some i)
  |some false=>eT ty k xs (i+1)
  |none=>none
def gy(A:ai):I→Option (List I×List I)
 | .dx ks vs=>some (ks,vs)
 | .mref n=>match A.o n with
  |some (.bD ks vs)=>some (ks,vs)
  |_=>none
 | .raw (.map none)=>some ([],[])
 |_=>none
def fJ(ty:cK)(z k:I)(ks vs:List I):Option (I×Bool) :=
 if (cj ty k k).isSome then (match eT ty k ks 0 with
  |some (some i)=>(vs[i]?).map fun v=>(v,true)
  |some none=>some (z,false)
  |none=>none) else none
def jm:I→Option Bool
 | .nilp=>some true
 | .ptr _ _=>some false
 | .ref _=>some false
 |_=>none
def fL(ty:cK)(k v:I)(ks vs:List I):Option (List I×List I) :=
 if (cj ty k k).isSome=true∧k.bX=true∧v.bX=true then (match eT ty k ks 0 with
  |some (some i)=>some (ks,vs.set i v)
  |some none=>some (ks++[k],vs++[v])
  |none=>none) else none
def mE(ty:cK)(k:I)(ks vs:List I):Option (List I×List I) :=
 if (cj ty k k).isSome=true then (match eT ty k ks 0 with
  |some (some i)=>some (ks.eraseIdx i,vs.eraseIdx i)
  |some none=>some (ks,vs)
  |none=>none) else none
def mG:I→Option I
 | .ptr n p=>some (.ptr n p)
 | .ref x=>some (.ref x)
 |_=>none
def rW:I→I→Option I
 | .int k a,.int k2 b=>if k=k2 then some (.int k (if b>a then b else a)) else none
 |_,_=>none
def nI(neg:Bool):Option Bool→Option Bool→Option I
 |some a,some b=>if a||b then some (.bool (if neg then !(a&&b) else (a&&b))) else none
 |_,_=>none
def rQ(ok:Bool):Option (I×Bool)→Option I
 |some (v,b)=>some (if ok then .tuple [v,.bool b] else v)
 |none=>none
def rP(ty:cK)(z:I)(ok:Bool)(k:I):Option (List I×List I)→Option I
 |some (ks,vs)=>rQ ok (fJ ty z k ks vs)
 |none=>none
def np(ks vs:List I):Option Nat→Option I
 |some i=>match ks[i]?,vs[i]? with
  |some k,some v=>some (.tuple [k,v])
  |_,_=>none
 |none=>none
def qW:List I→Option (List UInt8)
 | []=>some []
 |x::xs=>match x,qW xs with
  | .int .u8 n,some l=>some (UInt8.ofNat n.toNat::l)
  |_,_=>none
def dX(A:ai)(sz:Nat):I→Option (List I)
 | .slice z es=>if z=sz then some es else none
 | .nils _=>some []
 | .c0 _=>some []
 | .own n l=>match A.o n with
  |some (.bV _ z es)=>if l=es.length∧z=sz then some es else none
  |_=>none
 | .view n p z lo k=>match cM A (.ptr n p) with
  |some (.agg fs)=>if lo+k≤fs.length∧z=sz then some ((fs.drop lo).take k) else none
  |_=>none
 |_=>none
def iv:vN→List I→Option I
 | .eZ,[.bm s,.int _ i]=>if 0≤i then (s.data.toList[i.toNat]?).map fun b=>.int .u8 b.toNat else none
 | .ss false true,[.bm s,.int _ h]=>if 0≤h∧h≤s.size then some (.bm (s.extract 0 h.toNat)) else none
 | .ss true false,[.bm s,.int _ l]=>if 0≤l∧l≤s.size then some (.bm (s.extract l.toNat s.size)) else none
 | .ss true true,[.bm s,.int _ l,.int _ h]=>if 0≤l∧l≤h∧h≤s.size then some (.bm (s.extract l.toNat h.toNat)) else none
 | .oI neg,[.dL]=>some (.bool (!neg))
 | .oI neg,[.iface _ _]=>some (.bool neg)
 |_,_=>none
def oc:Option (List I)→Option I
 |some es=>(qW es).map fun l=>.bm ⟨l.toArray⟩
 |none=>none
def bo(A:ai):bW→Option I
 | .mv x=>some (aj A x)
 | .pick c a b=>match aj A c with | .bool t=>some (if t then aj A a else aj A b) | _=>none
 | .bin op x y=>cu op (aj A x) (aj A y)
 | .eqv ty neg x y=>(cj ty (aj A x) (aj A y)).map fun b=>.bool (if neg then !b else b)
 | .nilS neg x=>match aj A x with
  | .nils _=>some (.bool (!neg))
  | .slice _ es=>if es.isEmpty then none else some (.bool neg)
  | .view _ _ _ _ _=>some (.bool neg)
  |_=>none
 | .conv k x=>match aj A x with | .int _ n=>some (.int k (k.wrap n)) | _=>none
 | .un op x=>match op,aj A x with
  | .not,.bool b=>some (.bool !b)
  | .neg,.int k n=>some (.int k (k.wrap (0-n)))
  | .xor,.int k n=>some (.int k (pG k n))
  |_,_=>none
 | .ld s x=>match cM A (aj A x) with | some v=>if ca s v then some v else none | none=>none
 | .fa f off x=>match aj A x with
  | .ref (.agg fs)=>match fs[f]? with | some v=>if I.sizes (fs.take f)=off then some (.ref v) else none | none=>none
  | .ptr n p=>match cM A (.ptr n p) with | some (.agg fs)=>if f<fs.length∧I.sizes (fs.take f)=off then some (.ptr n (p++[f])) else none | _=>none
  |_=>none
 | .fl f off s x=>match aj A x with
  | .agg fs=>match fs[f]? with | some v=>if I.sizes (fs.take f)=off∧ca s v=true then some v else none | none=>none
  |_=>none
 | .ia n esz x i=>match aj A i with
  | .int _ k=>if 0≤k∧k<n then (match aj A x with
   | .ref (.agg fs)=>if jI n esz fs then (fs[k.toNat]?).map .ref else none
   | .ptr m p=>match cM A (.ptr m p) with | some (.agg fs)=>if jI n esz fs then some (.ptr m (p++[k.toNat])) else none | _=>none
   |_=>none) else none
  |_=>none
 | .is esz x i=>match aj A i with
  | .int _ k=>match aj A x with
   | .slice sz es=>if sz=esz∧0≤k∧k<es.length then (es[k.toNat]?).map .ref else none
   | .own m l=>match A.o m with | some (.bV _ sz es)=>if l=es.length∧sz=esz∧0≤k∧k<es.length then (es[k.toNat]?).map .ref else none | _=>none
   | .view m p sz lo l=>match cM A (.ptr m p) with | some (.agg _)=>if sz=esz∧0≤k∧k<l then some (.ptr m (p++[lo+k.toNat])) else none | _=>none
   |_=>none
  |_=>none
 | .ix n esz s x i=>match aj A i with
  | .int _ k=>if 0≤k∧k<n then (match aj A x with
   | .agg fs=>if jI n esz fs then (match fs[k.toNat]? with | some v=>if ca s v then some v else none | none=>none) else none
   |_=>none) else none
  |_=>none
 | .len x=>match aj A x with
  | .slice _ es=>some (.int .i64 es.length)
  | .nils _ | .c0 _=>some (.int .i64 0)
  | .own m l=>match A.o m with | some (.bV _ _ es)=>if l=es.length then some (.int .i64 es.length) else none | _=>none
  | .view _ _ _ _ k=>some (.int .i64 k)
  |_=>none
 | .cap x=>match aj A x with
  | .nils _ | .c0 _=>some (.int .i64 ((0:Nat):Int))
  | .view n p _ lo _=>match cM A (.ptr n p) with | some (.agg fs)=>some (.int .i64 ((fs.length-lo:Nat):Int)) | _=>none
  |_=>none
 | .bs0 esz=>some (.c0 esz)
 | .lenT x=>match aj A x with
  | .bm s=>some (.int .i64 s.size)
  |_=>none
 | .va n esz x=>match aj A x with
  | .ptr m p=>match cM A (.ptr m p) with | some (.agg fs)=>if jI n esz fs=true∧n≤maxLen∧n≠0 then some (.view m p esz 0 n) else none | _=>none
  | .ref (.agg fs)=>if jI n esz fs=true∧n≤maxLen∧n≠0 then some (.slice esz fs) else none
  |_=>none
 | .sl esz x lo hi mx=>match aj A x with
  | .slice sz es=>if sz=esz then iN sz es (lo.map (aj A)) (hi.map (aj A)) (mx.map (aj A)) else none
  | .nils sz=>if sz=esz then iN sz [] (lo.map (aj A)) (hi.map (aj A)) (mx.map (aj A)) else none
  | .c0 sz=>if sz=esz then iN sz [] (lo.map (aj A)) (hi.map (aj A)) (mx.map (aj A)) else none
  | .view n p sz l0 k=>match cM A (.ptr n p) with | some (.agg fs)=>if sz=esz then nQ n p sz l0 k fs.length (lo.map (aj A)) (hi.map (aj A)) (mx.map (aj A)) else none | _=>none
  |_=>none
 | .bld zs parts=>(dS zs (parts.map fun p=>(p.1,aj A p.2))).map .agg
 | .nilC x=>mG (aj A x)
 | .max2 x y=>rW (aj A x) (aj A y)
 | .prim p xs=>iv p (xs.map (aj A))
 | .b2s x=>oc (dX A 1 (aj A x))
 | .ptrE neg x y=>nI neg (jm (aj A x)) (jm (aj A y))
 | .lk ty z ok m k=>rP ty z ok (aj A k) (gy A (aj A m))
 | .ent x=>match aj A x with
  | .dC n=>match A.o n with
   |some (.it ks vs _ cur)=>np ks vs cur
   |_=>none
  |_=>none
 | .bs _ esz parts=>match cm false A (parts.map (aj A)) with
  |some es=>if (es.all fun e=>e.size==esz)∧I.cv es then some (.slice esz es) else none
  |none=>none
 | .ext x i=>match aj A x with | .tuple fs=>fs[i]? | _=>none
 | .mk f caps=>if ((caps.map (aj A)).all fun y=>y.bX)=true then some (.func f (caps.map (aj A))) else none
 |_=>none
mutual
theorem al.gj{w:World}{D D':aS}{E E':bf}(hD:∀ b o,D b o→D' b o):∀ (x:I) (cs:List Value),x.bG=true→al w D E x cs→al w D' E' x cs
 | .agg fs,cs,hc,hr=>by simp only[al,I.bG] at *;exact aN.gj hD fs cs hc hr
 | .bool b,cs,_,hr=>by simpa only[al] using hr
 | .int k n,cs,_,hr=>by simpa only[al] using hr
 | .bm s,cs,_,hr=>by simpa only[al] using hr
 | .nilp,cs,_,hr=>by simpa only[al] using hr
 | .dK,cs,_,hr=>by simpa only[al] using hr
 | .dL,cs,_,hr | .any,cs,_,hr=>by simpa only[al] using hr
 | .raw _,cs,_,hr=>by simpa only[al] using hr
 | .nils _,cs,_,hr=>by simpa only[al] using hr
 | .c0 _,cs,_,hr=>by simpa only[al] using hr
 | .slice sz es,cs,hc,hr=>by
  simp only[al,I.bG] at *;obtain ⟨a,cap,J,U,af,ar,h5⟩:=hr;refine ⟨a,cap,J,U,af,?_,h5⟩;rcases ar with ar | ⟨b,off,cs',h6,h7,h8⟩
  ·exact .inl ar
  ·exact .inr ⟨b,off,cs',h6,fun j v hj=>⟨(h7 j v hj).1,hD _ _ (h7 j v hj).2⟩,aN.gj hD es cs' hc h8⟩
 | .ref x,cs,hc,hr=>by
  simp only[al,I.bG] at *;obtain ⟨b,off,cs',J,U,af⟩:=hr;exact ⟨b,off,cs',J,fun j v hj=>⟨(U j v hj).1,hD _ _ (U j v hj).2⟩,al.gj hD x cs' hc af⟩
 | .func f caps,cs,hc,hr=>by
  simp only[al,I.bG] at *;obtain ⟨vs,J,U⟩:=hr;exact ⟨vs,J,aH.gj hD caps vs hc U⟩
 | .iface t v,cs,hc,hr=>by
  simp only[al,I.bG] at *;obtain ⟨u,cs',J,U,af⟩:=hr;exact ⟨u,cs',J,U,al.gj hD v cs' hc af⟩
 | .ptr n p,_,hc,_=>by simp[I.bG] at hc
 | .own n k,_,hc,_=>by simp[I.bG] at hc
 | .view n p _ _ _,_,hc,_=>by simp[I.bG] at hc
 | .mref n,_,hc,_=>by simp[I.bG] at hc
 | .dC n,_,hc,_=>by simp[I.bG] at hc
 | .dx ks vs,cs,hc,hr=>by
  simp only[al,I.bG,zz0] at *;obtain ⟨b,es,ck,J,U,af,ar⟩:=hr;exact ⟨b,es,ck,J,⟨U.1,hD _ _ U.2.1,U.2.2⟩,aH.gj hD ks _ hc.1 af,aH.gj hD vs _ hc.2 ar⟩
 | .undef,_,hc,_=>by simp[I.bG] at hc
 | .dF,_,hc,_=>by simp[I.bG] at hc
 | .tuple _,_,hc,_=>by simp[I.bG] at hc
theorem aN.gj{w:World}{D D':aS}{E E':bf}(hD:∀ b o,D b o→D' b o):∀ (xs:List I) (cs:List Value),I.cv xs=true→aN w D E xs cs→aN w D' E' xs cs
 | [],cs,_,hr=>by simpa only[aN] using hr
 |x::xs,cs,hc,hr=>by
  simp only[aN,I.cv,zz0] at *;obtain ⟨c1,c2,J,U,af⟩:=hr;exact ⟨c1,c2,J,al.gj hD x c1 hc.1 U,aN.gj hD xs c2 hc.2 af⟩
theorem aH.gj{w:World}{D D':aS}{E E':bf}(hD:∀ b o,D b o→D' b o):∀ (xs:List I) (vs:List Value),I.cv xs=true→aH w D E xs vs→aH w D' E' xs vs
 | [],vs,_,hr=>by simpa only[aH] using hr
 |x::xs,vs,hc,hr=>by
  simp only[aH,I.cv,zz0] at *;obtain ⟨v,rest,cs,J,U,af,ar⟩:=hr;exact ⟨v,rest,cs,J,U,al.gj hD x cs hc.1 af,aH.gj hD xs rest hc.2 ar⟩
end
theorem oQ{w:World}{D:aS}{b:Nat}{cs:Array Value}{T:TypeId}{fz:Nat×Nat}(hb:w.heap[b]?=some (.cells cs T fz)){c1 c2 c3:List Value}(hc:cs.toList=c1++c2++c3)
  (hD:∀ o,o<c1.length+c2.length→D b o):reads w D b c1.length c2:=by
 intro j v hj;have hjl:j<c2.length:=(zz7.1 hj).1;refine ⟨?_,hD _ (by omega)⟩;have e:cs[c1.length+j]?=some v:=by
  rw[←zw8,hc,zy3,zv3 (by omega),Nat.add_sub_cancel_left,zy6 (by omega)];exact hj
 simp[World.cell?,hb,e]
section
variable {c:cV} {A:ai} {a:Act} {w:World} {D:aS} {E:bf}
theorem aX.box(h:aX c A a w D E){n:Nat}{x:I}(hn:A.o n=some (.box x)) :
  ∃ b cs T,E n=some (.aP b x.bg)∧c.fu b∧w.heap[b]?=some (.cells cs T (0,0))∧al w D E x cs.toList∧∀ o,¬ D b o:=by
 have:=h.bU n;rw[hn] at this;exact this
theorem aX.bV(h:aX c A a w D E){n sz:Nat}{T:TypeId}{es:List I}(hn:A.o n=some (.bV T sz es)) :
  ∃ aK,E n=some (.rw aK es.length)∧(∀ e∈es,e.size=sz)∧match aK with
  |none=>es=[]
  |some (b,cap)=>∃ cs pre rest,c.fu b∧w.heap[b]?=some (.cells cs T (0,0))∧cs.toList=pre++rest∧aN w D E es pre ∧
    cs.size=cap*sz∧es.length≤cap∧cap≤maxLen∧∀ o,D b o→o<pre.length:=by
 have:=h.bU n;rw[hn] at this;exact this
theorem aX.sH(h:aX c A a w D E){n:Nat}{T:TypeId}{xs:List Int}(hn:A.o n=some (.dT T xs)) :
  ∃ aK,E n=some (.rw aK xs.length)∧(∀ x∈xs,IntKind.i64.min≤x∧x≤IntKind.i64.max)∧match aK with
  |none=>xs=[]
  |some (b,cap)=>∃ cs m,c.fu b∧w.heap[b]?=some (.cells cs T (0,0))∧cs.toList=(xs++List.replicate m 0).map (Value.int .i64)∧xs≠[]∧xs.length+m=cap∧cap≤maxLen∧∀ o,¬ D b o:=by
 have:=h.bU n;rw[hn] at this;exact this
theorem aX.map(h:aX c A a w D E){n:Nat}{ks vs:List I}(hn:A.o n=some (.bD ks vs)) :
  ∃ b es clock,E n=some (.bD b)∧c.fu b∧w.heap[b]?=some (.map es clock)∧o9 es clock∧aH w D E ks (es.toList.map (·.key))∧aH w D E vs (es.toList.map (·.val))∧∀ o,¬ D b o:=by
 have:=h.bU n;rw[hn] at this;exact this
theorem aX.at(h:aX c A a w D E){n:Nat}{p:List Nat}{x:I}(hx:cM A (.ptr n p)=some x) :
  ∃ y b cs T off c1 c2 c3,A.o n=some (.box y)∧E n=some (.aP b y.bg)∧c.fu b∧w.heap[b]?=some (.cells cs T (0,0))∧y.at p=some x∧y.bg.off p=some off ∧
   cs.toList=c1++c2++c3∧c1.length=off∧al w D E x c2∧al w D E y cs.toList∧∀ o,¬ D b o:=by
 simp only[cM] at hx;split at hx
 ·rename_i y hn;obtain ⟨b,cs,T,J,U,af,ar,h5⟩:=h.box hn;obtain ⟨off,c1,c2,c3,h6,h7,h8,h9⟩:=y7 p y x _ ar hx;exact ⟨y,b,cs,T,off,c1,c2,c3,hn,J,U,af,hx,h6,h7,h8,h9,ar,h5⟩
 ·cases hx
theorem aX.AF(h:aX c A a w D E){x y:I}{v:Value}(hv:a8 w D E x v)(hx:cM A x=some y) :
  ∃ b off cs,v=.pointer (some ⟨b,off,none⟩)∧(∀ j u,cs[j]?=some u→w.cell? ⟨b,off+j,none⟩=some u)∧al w D E y cs:=by
 cases x with
 |ref z =>
  simp only[cM,v6] at hx;subst hx;obtain ⟨b,off,cs,J,U,af⟩:=qA hv;exact ⟨b,off,cs,J,fun j u hj=>(U j u hj).1,af⟩
 |ptr n p =>
  obtain ⟨b,bg,off,J,U,af⟩:=l5 hv;obtain ⟨z,b',cs,T,off',c1,c2,c3,k1,k2,_,k3,_,k5,k6,k7,k8,_,_⟩:=h.at hx;rw[k2] at J;simp only[v6,bR.aP.injEq] at J;obtain ⟨rfl,rfl⟩:=J;rw[k5,v6] at U;subst U;refine ⟨b',off',c2,af,fun j u hj =>?_,k8⟩;have:=oQ (D:=fun _ _=>True) k3 k6 (fun _ _=>trivial);rw[k7] at this;exact (this j u hj).1
 |_=>simp[cM] at hx
theorem uW{w:World}{D:aS}{E:bf} : ∀ (xs ys:List I) (cs:List Value),aN w D E (xs++ys) cs→∃ c1 c2,cs=c1++c2∧aN w D E xs c1∧aN w D E ys c2
 | [],ys,cs,hr=>⟨[],cs,rfl,by simp[aN],hr⟩
 |x::xs,ys,cs,hr=>by
  simp only[zy1,aN] at hr;obtain ⟨d1,d2,rfl,k1,k2⟩:=hr;obtain ⟨e1,e2,rfl,k3,k4⟩:=uW xs ys d2 k2;exact ⟨d1++e1,e2,by simp,by simp only[aN];exact ⟨d1,e1,rfl,k1,k3⟩,k4⟩
theorem HN{fs:List I}{sz:Nat}(h:∀ s∈I.de fs,s.size=sz):∀ f∈fs,f.size=sz:=by
 intro f hf;rw[←I.l8];exact h _ (by rw[I.dG];exact zy9.2 ⟨f,hf,rfl⟩)
theorem uX{w:World}{D:aS}{E:bf}{fs:List I}{cs:List Value}{sz:Nat}(hr:aN w D E fs cs)(hev:∀ f∈fs,f.size=sz)(lo k:Nat)(h:lo+k≤fs.length) :
  ∃ d1 d2 d3,cs=d1++(d2++d3)∧d1.length=lo*sz∧aN w D E ((fs.drop lo).take k) d2∧aN w D E ((fs.drop lo).drop k) d3:=by
 have e1:fs=fs.take lo++((fs.drop lo).take k++(fs.drop lo).drop k):=by rw[zv0,zv0]
 rw[e1] at hr;obtain ⟨d1,d',rfl,q1,q2⟩:=uW _ _ _ hr;obtain ⟨d2,d3,rfl,q3,q4⟩:=uW _ _ _ q2;refine ⟨d1,d2,d3,rfl,?_,q3,q4⟩;rw[aN.length _ _ q1,I.iM _ (fun x hx=>hev x (List.mem_of_mem_take hx)),zx2]
 congr 1
 omega
structure iP (aP:Bool) (A:ai) (D:aS) (E:bf) (D':aS):Prop where
 dh:∀ b o,D b o→D' b o
 bV:∀ n T sz es b cap,A.o n=some (.bV T sz es)→E n=some (.rw (some (b,cap)) es.length)→∀ o,o<es.length*sz→D' b o
 box:aP=true→∀ n x b bg,A.o n=some (.box x)→E n=some (.aP b bg)→∀ o,o<x.size→D' b o
 map:aP=true→∀ n ks vs b,A.o n=some (.bD ks vs)→E n=some (.bD b)→D' b 0
def eE(A A':ai):Prop:=∀ n x,A.o n=some x→A'.o n=some x
theorem jG{A A':ai}(hu:eE A A'){x v:I}(h:cM A x=some v):cM A' x=some v:=by
 cases x <;>simp only[cM] at h ⊢ <;>try exact h
 rename_i n p;cases ho:A.o n with
 |none=>rw[ho] at h;cases h
 |some y=>rw[ho] at h;rw[hu n y ho];exact h
theorem CC{A0 A:ai}(hu:eE A0 A){n:Nat}{p:List Nat}{x z:I}(h:cM A0 (.ptr n p)=some x)(hz:A.o n=some (.box z)):A0.o n=some (.box z):=by
 simp only[cM] at h;split at h
 ·rename_i y hy;have:=hu n _ hy;rw[hz] at this;rw[hy,←this]
 ·cases h
theorem aX.Hb(h:aX c A a w D E){A0:ai}(hu:eE A0 A){D':aS}(hw:iP true A0 D E D'){n:Nat}{p:List Nat}{x:I}{cs:List Value}(hx:cM A0 (.ptr n p)=some x)(hr:al w D E (.ptr n p) cs) :
  ∃ b off c2,cs=[.pointer (some ⟨b,off,none⟩)]∧reads w D' b off c2∧al w D E x c2:=by
 obtain ⟨z,b',cs',T,off',c1,c2,c3,k1,k2,_,k3,k4,k5,k6,k7,k8,k9,_⟩:=h.at (jG hu hx);have k1:=CC hu hx k1;simp only[al] at hr;obtain ⟨b,bg,off,J,U,af⟩:=hr;rw[k2] at J;simp only[v6,bR.aP.injEq] at J;obtain ⟨rfl,rfl⟩:=J;rw[k5,v6] at U;subst U;have hsz:=al.length z _ k9;rw[k6] at hsz;simp only[zz8] at hsz;refine ⟨b',off',c2,af,?_,k8⟩;rw[←k7];exact oQ k3 k6 (fun o ho=>hw.box rfl n z b' _ k1 k2 o (by omega))
theorem aX.iN(h:aX c A a w D E){A0:ai}(hu:eE A0 A){D':aS}{E':bf}(hw:iP true A0 D E D'){n:Nat}{p:List Nat}{sz lo k:Nat}{fs:List I}{cs:List Value}(hx:cM A0 (.ptr n p)=some (.agg fs))(hr:al w D E (.view n p sz lo k) cs)
  (hcl:I.cv ((fs.drop lo).take k)=true):al w D' E' (.slice sz ((fs.drop lo).take k)) cs:=by
 obtain ⟨z,b',cs',T,off',c1,c2,c3,k1,k2,_,k3,k4,k5,k6,k7,k8,k9,_⟩:=h.at (jG hu hx);have k1:=CC hu hx k1;simp only[al] at hr k8 ⊢;obtain ⟨b,bg,off,l,J,U,af,ar,h5,h6,h7⟩:=hr;rw[k2] at J;simp only[v6,bR.aP.injEq] at J;obtain ⟨rfl,rfl⟩:=J;rw[k5,v6] at U;subst U;rw[mX p z _ k4] at af;simp only[I.bg,v6,cW.db.injEq] at af;subst af;have hsz:=al.length z _ k9;rw[k6] at hsz;rw[I.dG,zz6] at ar h5 h6;have hev:=HN h7;obtain ⟨d1,d2,d3,rfl,q1,q2,q3⟩:=uX k8 hev lo k h6;simp only[zz8] at hsz;have hlen:((fs.drop lo).take k).length=k:=by rw[zx2,zw9];omega
 refine ⟨some ⟨b',off'+lo*sz,none⟩,fs.length-lo,by rw[hlen];exact ar,by rw[hlen];omega,by omega,.inr ⟨b',off'+lo*sz,d2,rfl,?_,aN.gj hw.dh _ d2 hcl q2⟩,?_⟩
 ·have:=oQ (D:=D') (c1:=c1++d1) (c2:=d2) (c3:=d3++c3) k3 (by rw[k6];simp) (fun o ho=>hw.box rfl n z b' _ k1 k2 o (by rw[zz8] at ho;omega));rw[zz8,k7,q1] at this;exact this
 ·intro e he;exact hev e (List.mem_of_mem_drop (List.mem_of_mem_take he))
theorem aX.Hr(h:aX c A a w D E){aP:Bool}{A0:ai}(hu:eE A0 A){D':aS}{E':bf}(hw:iP aP A0 D E D'){n k T sz:Nat}{es:List I}{cs:List Value}(hn:A0.o n=some (.bV T sz es))(hcl:I.cv es=true)(hk:k=es.length)(hr:al w D E (.own n k) cs):al w D' E' (.slice sz es) cs:=by
 subst hk;simp only[al] at hr;obtain ⟨aK,l,J,U,_,ar⟩:=hr;obtain ⟨blk',k1,k2,k3⟩:=h.bV (hu n _ hn);rw[k1] at J;simp only[v6,bR.rw.injEq] at J;obtain ⟨rfl,rfl⟩:=J;have ar:=ar rfl;cases blk' with
 |none =>
  simp only at k3 ar;subst k3;simp only[al];exact ⟨none,0,by simpa using ar,by simp,by simp[maxLen],by simp,by simp⟩
 |some bc =>
  obtain ⟨b,cap⟩:=bc;simp only at ar;obtain ⟨cs',pre,rest,k4,k5,k6,k7,k8,k9,k10,k11⟩:=k3;simp only[al];refine ⟨some ⟨b,0,none⟩,cap,ar,k9,k10,.inr ⟨b,0,pre,rfl,?_,aN.gj hw.dh es pre hcl k7⟩,k2⟩;have hp:pre.length=es.length*sz:=by rw[aN.length _ _ k7,I.iM _ k2]
  have:=oQ (D:=D') (c1:=[]) k5 (by simpa using k6) (fun o ho=>hw.bV n T sz es b cap hn k1 o (by simp at ho;omega));simpa using this
theorem ET{w:World}{D D':aS}{E E':bf}{f:I→Option I}(hf:∀ x y cs,al w D E x cs→f x=some y→al w D' E' y cs):∀ (xs ys:List I) (cs:List Value),aN w D E xs cs→gm f xs=some ys→aN w D' E' ys cs
 | [],ys,cs,hr,h=>by simp only[gm,v6] at h;subst h;simpa only[aN] using hr
 |x::xs,ys,cs,hr,h=>by
  simp only[gm] at h;split at h
  ·rename_i y ys' J U;simp only[v6] at h;subst h;simp only[aN] at *;obtain ⟨c1,c2,e,k1,k2⟩:=hr;exact ⟨c1,c2,e,hf x y c1 k1 J,ET hf xs ys' c2 k2 U⟩
  ·cases h
theorem uq{w:World}{D D':aS}{E E':bf}{f:I→Option I}(hf:∀ x y cs,al w D E x cs→f x=some y→al w D' E' y cs)(hp:∀ x y,f x=some y→y.isAgg=x.isAgg):∀ (xs ys:List I) (vs:List Value),aH w D E xs vs→gm f xs=some ys→aH w D' E' ys vs
 | [],ys,cs,hr,h=>by simp only[gm,v6] at h;subst h;simpa only[aH] using hr
 |x::xs,ys,cs,hr,h=>by
  simp only[gm] at h;split at h
  ·rename_i y ys' J U;simp only[v6] at h;subst h;simp only[aH] at *;obtain ⟨v,rest,c1,e,k1,k2,k3⟩:=hr;refine ⟨v,rest,c1,e,?_,hf x y c1 k2 J,uq hf hp xs ys' rest k3 U⟩;unfold bC at *;rw[hp x y J];exact k1
  ·cases h
theorem xm{A0:ai} : ∀ {k:Nat} {x y:I},c8 A0 k x=some y→y.isAgg=x.isAgg
 |0,_,_,h=>by simp[c8] at h
 |k+1,x,y,h=>by
  simp only[c8] at h;split at h
  ·simp only[v6] at h;rw[h]
  ·cases x <;>simp only[] at h <;>first
    |(cases h;done)
    |(split at h <;>first | (simp only[t8] at h;obtain ⟨z,_,rfl⟩:=h;rfl) | (simp only[v6] at h;subst h;rfl);done)
    |(simp only[t8] at h;obtain ⟨z,_,rfl⟩:=h;rfl)
    |((repeat' split at h) <;>first | (cases h;done) | (simp only[v6] at h;subst h;rfl) | (simp only[t8] at h;obtain ⟨z,_,rfl⟩:=h;rfl))
theorem xn(h:aX c A a w D E){A0:ai}(hu:eE A0 A){D':aS}{E':bf}(hw:iP true A0 D E D'):∀ (k:Nat) (x y:I) (cs:List Value),al w D E x cs→c8 A0 k x=some y→al w D' E' y cs
 |0,_,_,_,_,hf=>by simp[c8] at hf
 |k+1,x,y,cs,hr,hf=>by
  have ih:=xn h hu (E':=E') hw k;simp only[c8] at hf;split at hf
  ·rename_i hcl;simp only[v6] at hf;subst hf;exact al.gj hw.dh x cs hcl hr
  ·rename_i hcl;cases x <;>simp only[] at hf <;>try (cases hf;done)
   case agg fs =>
    simp only[t8] at hf;obtain ⟨ys,hy,rfl⟩:=hf;simp only[al] at *;exact ET ih fs ys cs hr hy
   case func f caps =>
    split at hf
    case isFalse =>
     simp only[v6] at hf;subst hf;simp only[al] at *;obtain ⟨vs,J,U⟩:=hr;exact ⟨_,J,Da f vs⟩
    simp only[t8] at hf;obtain ⟨ys,hy,rfl⟩:=hf;simp only[al] at *;obtain ⟨vs,J,U⟩:=hr;exact ⟨vs,J,uq ih (fun x y hxy=>xm hxy) caps ys vs U hy⟩
   case ptr n p =>
    split at hf
    case h_2=>cases hf
    rename_i z hz;simp only[t8] at hf;obtain ⟨y',hy,rfl⟩:=hf;obtain ⟨b,off,c2,k1,k2,k3⟩:=h.Hb hu hw hz hr;simp only[al];exact ⟨b,off,c2,k1,k2,ih z y' c2 k3 hy⟩
   case view n p sz lo l =>
    split at hf
    case h_2=>cases hf
    rename_i fs hx;split at hf
    case isFalse=>cases hf
    rename_i hc;simp only[v6] at hf;subst hf;exact h.iN hu hw hx hr hc
   case mref n =>
    split at hf
    case h_2=>cases hf
    rename_i ks vs hn;split at hf
    case isFalse=>cases hf
    rename_i hc;simp only[t8] at hf;obtain ⟨ys,hy,rfl⟩:=hf;simp only[al] at hr ⊢;obtain ⟨b,J,U⟩:=hr;obtain ⟨b',es,ck,k1,k2,k3,k4,k5,k6,k7⟩:=h.map (hu n _ hn);rw[k1] at J;cases J;exact ⟨b,es,ck,U,⟨k3,hw.map rfl n ks vs b hn k1,k4⟩,aH.gj hw.dh ks _ hc k5,uq ih (fun x y hxy=>xm hxy) vs ys _ k6 hy⟩
   case own n l =>
    split at hf
    case h_2=>cases hf
    rename_i T sz es hn;split at hf
    case isFalse=>cases hf
    rename_i hk;simp only[v6] at hf;subst hf;exact h.Hr hu hw hn hk.2 hk.1 hr
mutual
theorem C3(h:aX c A a w D E){aP:Bool}{A0:ai}(hu:eE A0 A){D':aS}{E':bf}(hw:iP aP A0 D E D'):∀ (x y:I) (cs:List Value),al w D E x cs→br aP A0 x=some y→al w D' E' y cs
 | .ptr n p,y,cs,hr,hf=>by
  simp only[br] at hf;split at hf
  case isFalse=>cases hf
  rename_i hbx;subst hbx;split at hf
  case h_2=>cases hf
  rename_i x hx;obtain ⟨b,off,c2,k1,k2,k3⟩:=h.Hb hu hw hx hr;split at hf
  ·rename_i hcl;simp only[v6] at hf;subst hf;simp only[al];exact ⟨b,off,c2,k1,k2,al.gj hw.dh x c2 hcl k3⟩
  ·simp only[t8] at hf;obtain ⟨y',hy,rfl⟩:=hf;simp only[al];exact ⟨b,off,c2,k1,k2,xn h hu hw 9 x y' c2 k3 hy⟩
 | .mref n,y,cs,hr,hf=>by
  simp only[br] at hf;split at hf
  case isFalse=>cases hf
  rename_i hbx;subst hbx;split at hf
  case h_2=>cases hf
  rename_i ks vs hn;split at hf
  case isFalse=>cases hf
  rename_i hc;simp only[t8] at hf;obtain ⟨ys,hy,rfl⟩:=hf;simp only[al] at hr ⊢;obtain ⟨b,J,U⟩:=hr;obtain ⟨b',es,ck,k1,k2,k3,k4,k5,k6,k7⟩:=h.map (hu n _ hn);rw[k1] at J;cases J;exact ⟨b,es,ck,U,⟨k3,hw.map rfl n ks vs b hn k1,k4⟩,aH.gj hw.dh ks _ hc k5,uq (xn h hu hw 9) (fun x y hxy=>xm hxy) vs ys _ k6 hy⟩
 | .dC _,_,_,_,hf=>by simp[br] at hf
 | .dx ks vs,y,cs,hr,hf=>by
  simp only[br] at hf;split at hf
  ·rename_i hc;simp only[v6] at hf;subst hf;exact al.gj hw.dh _ cs (by simpa[I.bG] using hc) hr
  ·cases hf
 | .own n k,y,cs,hr,hf=>by
  simp only[br] at hf;split at hf
  case h_2=>cases hf
  rename_i T sz es hn;split at hf
  case isFalse=>cases hf
  rename_i hk;simp only[v6] at hf;subst hf;exact h.Hr hu hw hn hk.2 hk.1 hr
 | .view n p sz lo k,y,cs,hr,hf=>by
  simp only[br] at hf;split at hf
  case isFalse=>cases hf
  rename_i hbx;subst hbx;split at hf
  case h_2=>cases hf
  rename_i fs hx;split at hf
  case isFalse=>cases hf
  rename_i hcl;simp only[v6] at hf;subst hf;exact h.iN hu hw hx hr hcl
 | .nils sz,y,cs,hr,hf=>by
  simp only[br,v6] at hf;subst hf;simp only[al] at *;exact ⟨none,0,by simpa using hr,by simp,by simp[maxLen],by simp,by simp⟩
 | .c0 sz,y,cs,hr,hf=>by
  simp only[br,v6] at hf;subst hf;simp only[al] at *;obtain ⟨ad,hr⟩:=hr;exact ⟨ad,0,by simpa using hr,by simp,by simp[maxLen],by simp,by simp⟩
 | .func f caps,y,cs,hr,hf=>by
  simp only[br] at hf;split at hf
  case isFalse =>
   simp only[v6] at hf;subst hf;simp only[al] at *;obtain ⟨vs,J,U⟩:=hr;exact ⟨_,J,Da f vs⟩
  simp only[t8] at hf;obtain ⟨ys,hy,rfl⟩:=hf;simp only[al] at *;obtain ⟨vs,J,U⟩:=hr;exact ⟨vs,J,mw h hu hw caps ys vs U hy⟩
 | .agg fs,y,cs,hr,hf=>by
  simp only[br,t8] at hf;obtain ⟨ys,hy,rfl⟩:=hf;simp only[al] at *;exact C4 h hu hw fs ys cs hr hy
 | .tuple _,_,_,_,hf=>by simp[br] at hf
 | .undef,_,_,_,hf=>by simp[br] at hf
 | .dF,_,_,_,hf=>by simp[br] at hf
 | .bool b,y,cs,hr,hf=>by simp only[br,v6] at hf;subst hf;simpa only[al] using hr
 | .int k n,y,cs,hr,hf=>by simp only[br,v6] at hf;subst hf;simpa only[al] using hr
 | .bm s,y,cs,hr,hf=>by simp only[br,v6] at hf;subst hf;simpa only[al] using hr
 | .nilp,y,cs,hr,hf=>by simp only[br,v6] at hf;subst hf;simpa only[al] using hr
 | .dK,y,cs,hr,hf=>by simp only[br,v6] at hf;subst hf;simpa only[al] using hr
 | .dL,y,cs,hr,hf | .any,y,cs,hr,hf=>by simp only[br,v6] at hf;subst hf;simpa only[al] using hr
 | .raw _,y,cs,hr,hf=>by simp only[br,v6] at hf;subst hf;simpa only[al] using hr
 | .slice sz es,y,cs,hr,hf=>by
  simp only[br] at hf;split at hf
  ·rename_i hc;simp only[v6] at hf;subst hf;exact al.gj hw.dh _ cs (by simpa[I.bG] using hc) hr
  ·cases hf
 | .ref x,y,cs,hr,hf=>by
  simp only[br] at hf;split at hf
  ·rename_i hc;simp only[v6] at hf;subst hf;exact al.gj hw.dh _ cs (by simpa[I.bG] using hc) hr
  ·cases hf
 | .iface t v,y,cs,hr,hf=>by
  simp only[br] at hf;split at hf
  ·rename_i hc;simp only[v6] at hf;subst hf;exact al.gj hw.dh _ cs (by simpa[I.bG] using hc) hr
  ·cases hf
theorem C4(h:aX c A a w D E){aP:Bool}{A0:ai}(hu:eE A0 A){D':aS}{E':bf}(hw:iP aP A0 D E D'):∀ (xs ys:List I) (cs:List Value),aN w D E xs cs→cm aP A0 xs=some ys→aN w D' E' ys cs
 | [],ys,cs,hr,hf=>by simp only[cm,v6] at hf;subst hf;simpa only[aN] using hr
 |x::xs,ys,cs,hr,hf=>by
  simp only[cm] at hf;split at hf
  ·rename_i y ys' J U;simp only[v6] at hf;subst hf;simp only[aN] at *;obtain ⟨c1,c2,e,k1,k2⟩:=hr;exact ⟨c1,c2,e,C3 h hu hw x y c1 k1 J,C4 h hu hw xs ys' c2 k2 U⟩
  ·cases hf
theorem mw(h:aX c A a w D E){aP:Bool}{A0:ai}(hu:eE A0 A){D':aS}{E':bf}(hw:iP aP A0 D E D'):∀ (xs ys:List I) (vs:List Value),aH w D E xs vs→cm aP A0 xs=some ys→aH w D' E' ys vs
 | [],ys,cs,hr,hf=>by simp only[cm,v6] at hf;subst hf;simpa only[aH] using hr
 |x::xs,ys,cs,hr,hf=>by
  simp only[cm] at hf;split at hf
  ·rename_i y ys' J U;simp only[v6] at hf;subst hf;simp only[aH] at *;obtain ⟨v,rest,c1,e,k1,k2,k3⟩:=hr;refine ⟨v,rest,c1,e,?_,C3 h hu hw x y c1 k2 J,mw h hu hw xs ys' rest k3 U⟩;have:y.isAgg=x.isAgg:=by
    cases x <;>simp only[br] at J <;>first
     |(simp at J;done)
     |(simp only[v6] at J;subst J;rfl)
     |(simp only[t8] at J;obtain ⟨z,_,rfl⟩:=J;rfl)
     |((repeat' split at J) <;>first | (simp at J;done) | (simp only[v6] at J;subst J;rfl) | (simp only[t8] at J;obtain ⟨z,_,rfl⟩:=J;rfl))
   unfold bC at *;rw[this];exact k1
  ·cases hf
end
end
def gl(P:Program)(t:TypeId):Option (Option Nat):=match P.underlying t with
 |some (.struct _) | some (.array _ _)=>some (some (P.cellsOf t))
 |some _=>some none
 |none=>none
def zO(P:Program):Nat→TypeId→Option I
 |0,_=>none
 |d+1,t=>match P.underlying t with
  |some .bool=>some (.bool false)
  |some (.int k)=>some (.int k 0)
  |some .string=>some (.bm ByteArray.empty)
  |some (.pointer _)=>some .nilp
  |some (.slice e)=>some (.nils (P.cellsOf e))
  |some (.func _ _ _)=>some .dK
  |some (.interface _)=>some .dL
  |some (.map _ _)=>some (.raw (.map none))
  |some (.struct fs)=>(fs.toList.mapM fun f=>zO P d f.type).map .agg
  |some (.array n e)=>(zO P d e).map fun z=>.agg (List.replicate n z)
  |_=>none
def lH:I→Value→Bool
 | .bool b,.bool b'=>b==b'
 | .int k n,.int k' n'=>k==k'&&n==n'&&decide (k.min≤n∧n≤k.max)
 | .bm s,.string t=>s.size==0&&t.size==0
 | .nilp,.pointer none=>true
 | .nils _,.slice none 0 0=>true
 | .dK,.nilFunc=>true
 | .dL,.nilIface=>true
 | .raw (.map none),.map none=>true
 |_,_=>false
mutual
def nc:I→List Value→Option (List Value)
 | .agg fs,cs=>sN fs cs
 | .bool b,v::cs=>if lH (.bool b) v then some cs else none
 | .int k n,v::cs=>if lH (.int k n) v then some cs else none
 | .bm s,v::cs=>if lH (.bm s) v then some cs else none
 | .nilp,v::cs=>if lH .nilp v then some cs else none
 | .nils z,v::cs=>if lH (.nils z) v then some cs else none
 | .dK,v::cs=>if lH .dK v then some cs else none
 | .dL,v::cs=>if lH .dL v then some cs else none
 | .raw u,v::cs=>if lH (.raw u) v then some cs else none
 |_,_=>none
def sN:List I→List Value→Option (List Value)
 | [],cs=>some cs
 |x::xs,cs=>match nc x cs with
  |some r=>sN xs r
  |none=>none
end
theorem ByteArray.Pv{s t:ByteArray}(ab:s.size=0)(ht:t.size=0):s=t:=by
 cases s with | mk a=>cases t with | mk b =>
 have ha:a = #[]:=Array.eq_empty_of_size_eq_zero ab;have hb:b = #[]:=Array.eq_empty_of_size_eq_zero ht;rw[ha,hb]
theorem MK{x:I}{v:Value}(h:lH x v=true)(w:World)(D:aS)(E:bf):al w D E x [v]:=by
 unfold lH at h;split at h
 case h_9=>cases h
 case h_1=>simp only[beq_iff_eq] at h;subst h;simp[al]
 case h_2 =>
  simp only[zz0,beq_iff_eq,decide_eq_true_eq] at h;obtain ⟨⟨rfl,rfl⟩,h⟩:=h;simp only[al,true_and];exact h
 case h_3 =>
  simp only[zz0,beq_iff_eq] at h;have e:=ByteArray.Pv h.1 h.2;subst e;simp only[al,true_and];rw[h.1];exact zw1 _
 all_goals simp[al,Value.oneCell']
mutual
theorem Ih:∀ (x:I) (cs r:List Value),nc x cs=some r→∃ c1,cs=c1++r∧∀ w D E,al w D E x c1
 | .agg fs,cs,r,h=>by
  simp only[nc] at h;obtain ⟨c1,J,U⟩:=Ii fs cs r h;exact ⟨c1,J,fun w D E=>by simp only[al];exact U w D E⟩
 | .bool b,v::cs,r,h | .int k n,v::cs,r,h | .bm s,v::cs,r,h | .nilp,v::cs,r,h | .nils z,v::cs,r,h | .dK,v::cs,r,h | .dL,v::cs,r,h | .raw u,v::cs,r,h=>by
  simp only[nc] at h;split at h
  ·rename_i bz;simp only[v6] at h;subst h;exact ⟨[v],rfl,fun w D E=>MK bz w D E⟩
  ·cases h
 | .bool b,[],r,h | .int k n,[],r,h | .bm s,[],r,h | .nilp,[],r,h | .nils z,[],r,h | .dK,[],r,h | .dL,[],r,h | .raw _,[],r,h=>by simp[nc] at h
 | .any,_,_,h | .undef,_,_,h | .dF,_,_,h | .c0 _,_,_,h | .slice _ _,_,_,h | .tuple _,_,_,h | .ref _,_,_,h | .func _ _,_,_,h | .iface _ _,_,_,h | .ptr _ _,_,_,h | .own _ _,_,_,h | .view _ _ _ _ _,_,_,h | .mref _,_,_,h | .dC _,_,_,h | .dx _ _,_,_,h=>by simp[nc] at h
theorem Ii:∀ (xs:List I) (cs r:List Value),sN xs cs=some r→∃ c1,cs=c1++r∧∀ w D E,aN w D E xs c1
 | [],cs,r,h=>by
  simp only[sN,v6] at h;exact ⟨[],by simp[h],fun w D E=>by simp[aN]⟩
 |x::xs,cs,r,h=>by
  simp only[sN] at h;split at h
  ·rename_i r' hx;obtain ⟨c1,J,U⟩:=Ih x cs r' hx;obtain ⟨c2,af,ar⟩:=Ii xs r' r h;exact ⟨c1++c2,by rw[J,af,zy3],fun w D E=>by simp only[aN];exact ⟨c1,c2,rfl,U w D E,ar w D E⟩⟩
  ·cases h
end
def gF(P:Program)(t:TypeId):Option I :=
 match (P.info? t).bind (·.zero),zO P 12 t with
 |some z,some x=>match nc x z.cells.toList with
  |some []=>some x
  |_=>none
 |_,_=>none
theorem me{P:Program}{t:TypeId}{x:I}(h:gF P t=some x):∃ i z,P.info? t=some i∧i.zero=some z∧∀ w D E,al w D E x z.cells.toList:=by
 unfold gF at h;split at h
 ·rename_i z x' hz hx;split at h
  ·rename_i hk;simp only[v6] at h;subst h;obtain ⟨i,hi,hz'⟩:=zv6.1 hz;obtain ⟨c1,J,U⟩:=Ih _ _ _ hk;rw[zw4] at J;exact ⟨i,z,hi,hz',fun w D E=>by rw[J];exact U w D E⟩
  ·cases h
 ·cases h
def lX:Nat→List I→List (Nat×Nat)
 |_,[]=>[]
 |k,x::xs=>(k,x.size)::lX (k+x.size) xs
theorem FG:∀ (xs:List I) (k i:Nat),(lX k xs)[i]?=(xs[i]?).map fun x=>(k+I.sizes (xs.take i),x.size)
 | [],k,i=>by simp[lX]
 |x::xs,k,0=>by simp[lX,I.sizes]
 |x::xs,k,i+1=>by
  simp only[lX,List.getElem?_cons_succ,FG xs,zw2,I.sizes];cases xs[i]? <;>simp;omega
def fy (P : Program) (f : FuncId) : Bool := Nat.blt f 1000000 && (P.funcs[f]?).any fun fn => fn.name != "runtime.NumGoroutine" && fn.body.isSome
def lF(P:Program)(ps:List (Nat×Operand)):Option (List (Nat×aM)):=ps.mapM fun p=>(bq P 0 p.2).map fun x=>(p.1,x)
def jh(P:Program):Option Operand→Option (Option aM)
 |none=>some none
 |some x=>(bq P 0 x).map some
def kN(P:Program):List Operand→List TypeId→Option (List aM)
 | [],_=>some []
 |x::xs,ts=>match bq P (ts.headD 0) x,kN P xs ts.tail with
  |some y,some ys=>some (y::ys)
  |_,_=>none
def qj(P:Program):Nat→List Field→Bool
 |_,[]=>true
 |k,f::fs=>f.offset==k&&qj P (k+P.cellsOf f.type) fs
def hd(P:Program):Nat→TypeId→Option cK
 |0,_=>none
 |d+1,t=>match P.underlying t with
  |some (.int k)=>some (.i k)
  |some .bool=>some .b
  |some .string=>some .s
  | some (.struct fs) => if P.stoodInHeld t = false ∧ (fs.toList.all fun f => f.name != "_") = true ∧ qj P 0 fs.toList = true then
    (fs.toList.mapM fun (f:Field)=>match hd P d f.type with
     |some ty=>if ty.size=P.cellsOf f.type then some ty else none
     |none=>none).map .bh else none
  |some (.array n e)=>match hd P d e with
   |some ty=>if ty.size=P.cellsOf e∧(P.info? e).isSome=true then some (.qS n ty) else none
   |none=>none
  |_=>none
def rG:Option TypeDesc→Bool
 |some (.int _)=>true
 |_=>false
def xQ:cK→Bool
 | .i _=>true
 |_=>false
def kq(P:Program)(t:TypeId):Option cK:=match P.underlying t with
 |some (.int k)=>some (.i k)
 |some (.struct fs)=>match hd P 12 t with
  |some (.bh l)=>if l.all xQ=true∧(fs.all fun f=>rG (P.underlying f.type))=true then some (.bh l) else none
  |_=>none
 |_=>none
def vA(P:Program)(t:TypeId)(z:I):Bool:=match (P.info? t).bind (·.zero) with
 |some (.agg _)=>z.isAgg
 |some _ => !z.isAgg
 |none=>false
def zr:Operand→Operand→Bool
 | .tmp a,.tmp b=>a==b
 |_,_=>false
theorem adH{x y:Operand}(h:zr x y=true):y=x:=by
 unfold zr at h;split at h
 ·simp only[beq_iff_eq] at h;rw[h]
 ·cases h
def dv(P:Program)(o:Oper):Option bW :=
 match o.op with
 | .move x | .assign x=>(bq P o.type x).map .mv
 | .pick c a b=>match bq P 0 c,bq P o.type a,bq P o.type b with
  |some c,some a,some b=>some (.pick c a b)
  |_,_,_=>none
 | .binOp op t x y _=>match P.underlying t,bq P 0 x,bq P 0 y with
  |some (.int _),some x,some y | some .string,some x,some y=>some (.bin op x y)
  |some (.slice _),some x,some y=>match y with
   | .c (.nils _)=>if op=.eql∨op=.neq then some (.nilS (op==.neq) x) else none
   |_=>none
  |some (.pointer _),some x,some y=>if op=.eql∨op=.neq then some (.ptrE (op==.neq) x y) else none
  |some (.interface _),some x,some y=>match y with
   | .c .dL=>if op=.eql∨op=.neq then some (.prim (.oI (op==.neq)) [x]) else none
   |_=>none
  |some _,some x,some y=>if (op=.eql∨op=.neq)∧P.eqGuardType P.depth t=false then (hd P 12 t).map fun ty=>.eqv ty (op==.neq) x y else none
  |_,_,_=>none
 | .unOp op _ x=>(bq P 0 x).map (.un op)
 | .nilCheck x=>(bq P 0 x).map .nilC
 | .makeMap _ none=>some .jo
 | .lookup t m k ok=>match P.underlying t,bq P 0 m,bq P 0 k with
  |some (.map kt et),some m,some k=>match kq P kt,gF P et with
   |some ty,some z=>if vA P et z=true then some (.lk ty z ok m k) else none
   |_,_=>none
  |_,_,_=>none
 | .mapUpdate t m k v | .insert t m k v=>match P.underlying t,bq P 0 m,bq P 0 k with
  |some (.map kt et),some m,some k=>match kq P kt,bq P et v with
   |some ty,some v=>some (.fj ty m k v)
   |_,_=>none
  |_,_,_=>none
 | .makeSlice t l l'=>match P.underlying t,bq P 0 l with
  |some (.slice e),some n=>match gF P e with
   |some z=>if zr l l'=true∧z.size=1∧P.cellsOf e=1 then some (.kV e (P.bytesOf e) z n) else none
   |none=>none
  |_,_=>none
 | .range t x=>match P.underlying t with
  |some (.map _ _)=>(bq P 0 x).map .j9
  |_=>none
 | .next x false=>(bq P 0 x).map .iW
 | .entry x=>(bq P 0 x).map .ent
 | .convert na dst x=>match P.underlying na,P.underlying dst,bq P 0 x with
  |some (.int _),some (.int k),some x=>some (.conv k x)
  |some (.slice e),some .string,some x=>match P.underlying e with
   |some (.int .u8)=>some (.b2s x)
   |_=>none
  |_,_,_=>none
 | .load t x=>match gl P t,bq P 0 x with
  |some s,some x=>some (.ld s x)
  |_,_=>none
 | .fieldAddr t x f=>match P.underlying t,bq P 0 x with
  |some (.struct fs),some x=>match fs[f]? with
   |some fd=>if P.cellsOf fd.type=0 then none else some (.fa f fd.offset x)
   |none=>none
  |_,_=>none
 | .field t x f=>match P.underlying t,bq P 0 x with
  |some (.struct fs),some x=>match fs[f]? with
   |some fd=>(gl P fd.type).map fun s=>.fl f fd.offset s x
   |none=>none
  |_,_=>none
 | .indexAddr t x i=>match P.underlying t,bq P 0 x,bq P 0 i with
  |some (.array n e),some x,some i=>if (P.info? e).isSome then some (.ia n (P.cellsOf e) x i) else none
  |some (.slice e),some x,some i=>if (P.info? e).isSome then some (.is (P.cellsOf e) x i) else none
  |_,_,_=>none
 | .index t x i=>match P.underlying t,bq P 0 x,bq P 0 i with
  |some (.array n e),some x,some i=>(gl P e).map fun s=>.ix n (P.cellsOf e) s x i
  |some .string,some x,some i=>some (.prim .eZ [x,i])
  |_,_,_=>none
 | .slice t x lo hi mx=>match P.underlying t,bq P 0 x with
  |some (.array n e),some x=>match lo,hi,mx with
   |none,none,none=>if (P.info? e).isSome then some (.va n (P.cellsOf e) x) else none
   |_,_,_=>none
  |some (.slice e),some x=>match jh P lo,jh P hi,jh P mx with
   |some lo,some hi,some mx=>if (mx.isSome=true→hi.isSome=true)∧(P.info? e).isSome=true then some (.sl (P.cellsOf e) x lo hi mx) else none
   |_,_,_=>none
  |some .string,some x=>match lo,hi,mx with
   |none,some hi,none=>(bq P 0 hi).map fun hi=>.prim (.ss false true) [x,hi]
   |some lo,none,none=>(bq P 0 lo).map fun lo=>.prim (.ss true false) [x,lo]
   |some lo,some hi,none=>match bq P 0 lo,bq P 0 hi with
    |some lo,some hi=>some (.prim (.ss true true) [x,lo,hi])
    |_,_=>none
   |_,_,_=>none
  |_,_=>none
 | .build t parts=>match gF P t,lF P parts.toList with
  |some (.agg zs),some ps=>match P.underlying t with
   |some (.struct fs)=>if (fs.toList.map fun f=>(f.offset,P.cellsOf f.type))=lX 0 zs∧(fs.all fun f=>(P.info? f.type).isSome)=true then some (.bld zs ps) else none
   |some (.array n e)=>if zs.length=n∧(zs.all fun z=>z.size==P.cellsOf e)=true∧(P.info? e).isSome=true then some (.bld zs ps) else none
   |_=>none
  |_,_=>none
 | .buildSlice t len parts=>match P.underlying t with
  |some (.slice e)=>match lF P parts.toList with
   |some ps=>if len=0∧parts = #[]∧(P.info? e).isSome=true then some (.bs0 (P.cellsOf e)) else if ps.map (·.1)=List.range len∧0<P.cellsOf e∧0<len∧len*P.cellsOf e≤16777216∧((P.info? e).bind (·.zero)).isSome=true then some (.bs e (P.cellsOf e) (ps.map (·.2))) else none
   |none=>none
  |_=>none
 | .extract x i=>(bq P 0 x).map fun x=>.ext x i
 | .makeFunc (.func f) first caps=>if f<1000000 then (if first.isEmpty then (kN P caps.toList []).map (.mk f) else if caps.isEmpty then (kN P first.toList []).map (.mk (f+1000000)) else none) else none
 | .alloc t=>(gF P t).map .alloc
 | .box t x=>(bq P t x).map .box
 | .store t x v=>match gl P t,bq P 0 x,bq P t v with
  |some s,some x,some v=>if s.isSome=true∨P.cellsOf t=1 then some (.bh s x v) else none
  |_,_,_=>none
 | .call { callee:=.value (.func f),args,argTypes } =>if fy P f then (kN P args.toList argTypes.toList).map (.call f) else (kN P args.toList argTypes.toList).map (.kJ f)
 | .call { callee:=.value x,args,argTypes } =>match bq P 0 x,kN P args.toList argTypes.toList with
  |some x,some args=>some (.gi x args)
  |_,_=>none
 | .call { callee:=.builtin .len,args,argTypes } =>match args.toList,argTypes.toList with
  | [x],[t]=>match P.underlying t with
   |some (.slice _)=>(bq P t x).map .len
   |some .string=>(bq P t x).map .lenT
   |_=>none
  |_,_=>none
 | .call { callee:=.builtin .append,args,argTypes } =>match args.toList,argTypes.toList with
  | [s,x],[t,t']=>match P.underlying t,bq P t s,bq P t' x with
   |some (.slice e),some s,some x=>if t=t'∧0<P.cellsOf e∧(gF P e).map I.size=some (P.cellsOf e) then (gF P e).map fun z=>.dk e (P.cellsOf e) (P.bytesOf e) z s x else
    if rG (P.underlying t')=true∧0<P.cellsOf e∧(gF P e).map I.size=some (P.cellsOf e) then (gF P e).map fun z=>.mg e (P.cellsOf e) (P.bytesOf e) z s x else none
   |_,_,_=>none
  |_,_=>none
 | .call { callee:=.builtin .cap,args,argTypes } =>match args.toList,argTypes.toList with
  | [x],[t]=>match P.underlying t with
   |some (.slice _)=>(bq P t x).map .cap
   |_=>none
  |_,_=>none
 | .call { callee:=.builtin .clear,args,argTypes } =>match args.toList,argTypes.toList with
  | [x],[t]=>match P.underlying t,bq P t x with
   |some (.slice e),some x=>(gF P e).map fun z=>.kj (P.cellsOf e) z x
   |_,_=>none
  |_,_=>none
 | .call { callee:=.builtin .copy,args,argTypes } =>match args.toList,argTypes.toList with
  | [x,y],[t,t']=>match P.underlying t,bq P t x,bq P t' y with
   |some (.slice e),some x,some y=>if t=t'∧(P.info? e).isSome=true then some (.lK (P.cellsOf e) x y) else none
   |_,_,_=>none
  |_,_=>none
 | .call { callee:=.builtin .delete,args,argTypes } =>match args.toList,argTypes.toList with
  | [m,k],[t,_]=>match P.underlying t,bq P 0 m,bq P 0 k with
   |some (.map kt _),some m,some k=>(kq P kt).map fun ty=>.jn ty m k
   |_,_,_=>none
  |_,_=>none
 | .call { callee:=.builtin .max,args,.. } =>match args.toList with
  | [x,y]=>match bq P 0 x,bq P 0 y with
   |some x,some y=>some (.max2 x y)
   |_,_=>none
  |_=>none
 |_=>none
def dy(c:cV)(A:ai)(o:Oper)(x:I):Prop :=
 ∀ a w D E,aX c A a w D E→∃ v w' D',(execOp a.eval o).run c.P w=.ok (.value v) w'∧aX c A a w' D' E∧a8 w' D' E x v
section
variable {c:cV} {A:ai} {o:Oper} {x:I}
theorem dy.same(h:∀ a w D E,aX c A a w D E→∃ v,(execOp a.eval o).run c.P w=.ok (.value v) w∧a8 w D E x v):dy c A o x :=
 fun a w D E ab=>let ⟨v,J,U⟩:=h a w D E ab;⟨v,w,D,J,ab,U⟩
theorem DW{y:Operand}{z:aM}(ho:o.op=.move y∨o.op=.assign y)(hz:bq c.P o.type y=some z):dy c A o (aj A z) :=
 .same fun a w D E ab=>⟨a.eval y,by rcases ho with ho | ho <;>simp[execOp,ho],bS ab hz⟩
theorem aaa{q y z:Operand}{q' y' z':aM}{t:Bool}(ho:o.op=.pick q y z)(hq:bq c.P 0 q=some q')(hy:bq c.P o.type y=some y')(hz:bq c.P o.type z=some z')
  (ht:aj A q'=.bool t):dy c A o (if t then aj A y' else aj A z') :=
 .same fun a w D E ab=>by
  have J:=bS ab hq;rw[ht] at J;have U:=lg J;refine ⟨if t then a.eval y else a.eval z,by cases t <;>simp[execOp,ho,U,asBool],?_⟩;cases t
  ·exact bS ab hz
  ·exact bS ab hy
theorem zj{P:Program}{w:World}(op:BinOp)(t:TypeId)(x y:Operand){u v:Value}(hu:u.oneCell'=true)(hn:u≠.nilIface):(eqGuard op t x y u v).run P w=.ok () w:=by
 cases op <;>cases u <;>simp[Value.oneCell'] at hu <;>first | (exact absurd rfl hn) | (cases v <;>simp[eqGuard])
theorem Jx{op:BinOp}{x y z:I}(h:cu op x y=some z){P:Program}{t:TypeId}{w:World}{D:aS}{E:bf}{u v:Value}(hx:a8 w D E x u)(hy:a8 w D E y v)(xo yo:Operand) :
  ∃ r,(do eqGuard op t xo yo u v;binOp op t u v:Sem Value).run P w=.ok r w∧a8 w D E z r:=by
 unfold cu at h;split at h
 ·rename_i k a k' b;obtain ⟨rfl,ha⟩:=eJ hx;obtain ⟨rfl,hb⟩:=eJ hy;have hg:∀ op,(eqGuard op t xo yo (.int k a) (.int k' b)).run P w=.ok () w:=fun op=>zj op t xo yo rfl (by simp);simp only[Sem.run_bind,hg,Result.andThen_ok];split at h
  ·split at h
   ·rename_i hb0;simp only[v6] at h;subst h;have:¬ b<0:=by omega
    exact ⟨_,by simp[binOp,Op.shift,this],j2 (qH _ _)⟩
   ·cases h
  ·split at h
   ·rename_i hb0;simp only[v6] at h;subst h;have:¬ b<0:=by omega
    exact ⟨_,by simp[binOp,Op.shift,this],j2 (PS _ _ _ ha)⟩
   ·cases h
  ·rename_i op J U;split at h
   ·rename_i hk;subst hk;split at h <;>first
     |(simp at h;done)
     |(simp only[v6] at h;subst h;exact ⟨_,by simp[binOp,Op.intArith,Op.intBits,Op.intCmp],j2 (qH _ _)⟩)
     |(simp only[v6] at h;subst h;exact ⟨_,by simp[binOp,Op.intCmp],mF _⟩)
     |(split at h
       ·cases h
       ·rename_i hb0;simp only[v6] at h;subst h
        first
         |exact ⟨_,by simp[binOp,Op.intDiv,hb0],j2 (qH _ _)⟩
         |exact ⟨_,by simp[binOp,Op.intDiv,hb0],j2 (aeh _ _ _ ha)⟩)
   ·cases h
 ·rename_i s s';obtain ⟨rfl,hs1⟩:=iw hx;obtain ⟨rfl,hs2⟩:=iw hy;have hg:∀ op,(eqGuard op t xo yo (.string s) (.string s')).run P w=.ok () w:=fun op=>zj op t xo yo rfl (by simp);simp only[Sem.run_bind,hg,Result.andThen_ok];split at h <;>first
   |(simp at h;done)
   |(simp only[v6] at h;subst h;exact ⟨_,by simp[binOp,Op.stringOp],mF _⟩)
   |(split at h
     ·rename_i ao;simp only[v6] at h;subst h;have hl':¬ (((s.size+s'.size:Nat):Int)>IntKind.i64.max):=by
       have e:IntKind.i64.max=9223372036854775807:=by simp[IntKind.max,IntKind.bits,IntKind.signed]
       rw[e];omega
      refine ⟨.string (s++s'),by simp only[binOp,Op.stringOp,if_neg hl',Sem.run_pure],?_⟩;exact ⟨_,by simp[bC,I.isAgg];rfl,by simp only[al,true_and];rw[ByteArray.size_append];unfold maxLen;omega⟩
     ·cases h)
 ·cases h
theorem DU{op:BinOp}{t yt:TypeId}{y z:Operand}{y' z':aM}(ho:o.op=.binOp op t y z yt)(hy:bq c.P 0 y=some y')(hz:bq c.P 0 z=some z')(h:cu op (aj A y') (aj A z')=some x):dy c A o x :=
 .same fun a w D E ab=>by
  obtain ⟨r,J,U⟩:=Jx h (P:=c.P) (t:=t) (bS ab hy) (bS ab hz) y z;exact ⟨r,by simp only[execOp,ho,Sem.run_bind] at *;rw[J];rfl,U⟩
theorem Z9{t:TypeId}{y:Operand}{y':aM}{b:Bool}(ho:o.op=.unOp .not t y)(hy:bq c.P 0 y=some y')(h:aj A y'=.bool b):dy c A o (.bool !b) :=
 .same fun a w D E ab=>by
  have J:=bS ab hy;rw[h] at J;exact ⟨.bool !b,by simp[execOp,ho,lg J,Op.unary],mF _⟩
theorem Z7{t:TypeId}{y:Operand}{y':aM}{k:IntKind}{n:Int}(ho:o.op=.unOp .neg t y)(hy:bq c.P 0 y=some y')(h:aj A y'=.int k n):dy c A o (.int k (k.wrap (0-n))) :=
 .same fun a w D E ab=>by
  have J:=bS ab hy;rw[h] at J;exact ⟨.int k (k.wrap (0-n)),by simp[execOp,ho,(eJ J).1,Op.unary,Op.intArith],j2 (qH _ _)⟩
theorem ZP{t:TypeId}{y:Operand}{y':aM}{k:IntKind}{n:Int}(ho:o.op=.unOp .xor t y)(hy:bq c.P 0 y=some y')(h:aj A y'=.int k n):dy c A o (.int k (pG k n)) :=
 .same fun a w D E ab=>by
  have J:=bS ab hy;rw[h] at J;exact ⟨.int k (pG k n),by simp[execOp,ho,(eJ J).1,Op.unary,Op.intBits,pG],j2 (qH _ _)⟩
theorem ZO{na dst:TypeId}{y:Operand}{y':aM}{k k0 k1:IntKind}{n:Int}(ho:o.op=.convert na dst y)(J:c.P.underlying na=some (.int k0))(U:c.P.underlying dst=some (.int k))
  (hy:bq c.P 0 y=some y') (h:aj A y'=.int k1 n):dy c A o (.int k (k.wrap n)) :=
 .same fun a w D E ab=>by
  have af:=bS ab hy;rw[h] at af;exact ⟨.int k (k.wrap n),by simp[execOp,ho,(eJ af).1,convert,run_underlying J,run_underlying U,Conv.intToInt],j2 (qH _ _)⟩
theorem ZS{y:Operand}{y':aM}{i:Nat}{fs:List I}(ho:o.op=.extract y i)(hy:bq c.P 0 y=some y')(h:aj A y'=.tuple fs)(hi:fs[i]?=some x):dy c A o x :=
 .same fun a w D E ab=>by
  have af:=bS ab hy;rw[h] at af;obtain ⟨vs,ar,h5⟩:=af;have:∀ (fs:List I) (vs:List Value) (i:Nat),aH w D E fs vs→fs[i]?=some x→∃ v,vs[i]?=some v∧a8 w D E x v:=by
   intro fs
   induction fs with
   |nil=>intro vs i _ hi;simp at hi
   |cons f fs ih =>
    intro vs i hr hi;simp only[aH] at hr;obtain ⟨v,rest,cs,rfl,k1,k2,k3⟩:=hr;cases i with
    |zero =>
     simp only[List.getElem?_cons_zero,v6] at hi ⊢;subst hi;refine ⟨v,rfl,?_⟩;cases f <;>simp only[a8] <;>first | (simp only[al] at k2;done) | exact ⟨cs,k1,k2⟩
    |succ i=>simpa using ih rest i k3 (by simpa using hi)
  obtain ⟨v,h6,h7⟩:=this fs vs i h5 hi;exact ⟨v,by simp[execOp,ho,ar,Instr.extract,h6],h7⟩
theorem gL{w:World}{D:aS}{E:bf}{x:I}{v:Value}{cs:List Value}(J:bC x v cs)(U:al w D E x cs):a8 w D E x v:=by
 cases x <;>simp only[a8] <;>first | (simp only[al] at U;done) | exact ⟨cs,J,U⟩
theorem Hy{P:Program}{w:World}{t:TypeId}{s:Option Nat}(h:gl P t=some s):(isAgg t).run P w=.ok s.isSome w:=by
 unfold gl at h;unfold isAgg;cases hu:P.underlying t with
 |none=>simp[hu] at h
 |some d =>
  rw[Sem.run_bind,run_underlying hu w];cases d <;>simp_all <;>(subst h;rfl)
theorem xZ{P:Program}{t:TypeId}{n:Nat}(h:gl P t=some (some n)):n=P.cellsOf t:=by
 unfold gl at h;split at h <;>simp_all
theorem xP{P:Program}{t:TypeId}{d:TypeDesc}(h:P.underlying t=some d):∃ i,P.info? t=some i:=by
 unfold Program.underlying at h;cases hi:P.info? t with
 |none=>simp[hi] at h
 |some i=>exact ⟨i,rfl⟩
theorem jw{P:Program}{w:World}{t:TypeId}{i:TypeInfo}(h:P.info? t=some i):(sizeOf t).run P w=.ok (P.cellsOf t) w:=by
 simp[sizeOf,typeInfo,h,Program.cellsOf]
theorem uh{P:Program}{t:TypeId}{s:Option Nat}(h:gl P t=some s):∃ i,P.info? t=some i:=by
 unfold gl at h;split at h
 ·rename_i fs hu;exact xP hu
 ·rename_i n e hu;exact xP hu
 ·rename_i d _ _ hu;exact xP hu
 ·cases h
theorem ni(b off j:Nat):(⟨b,off,none⟩:Addr).add j=⟨b,off+j,none⟩:=by unfold Addr.add;split <;>simp_all
theorem Hz{P:Program}{w:World}{D:aS}{E:bf}{t:TypeId}{s:Option Nat}{b off:Nat}{cs:List Value}{y:I}(hk:gl P t=some s)(hok:ca s y=true)
  (hcs:∀ j u,cs[j]?=some u→w.cell? ⟨b,off+j,none⟩=some u) (hy:al w D E y cs):∃ v,(loadVar t ⟨b,off,none⟩).run P w=.ok v w∧a8 w D E y v:=by
 have hag:=Hy (w:=w) hk;cases s with
 |none =>
  simp only[ca,Bool.not_eq_true'] at hok;have ao:=al.length _ _ hy;have hsz:y.size=1:=by cases y <;>simp_all[I.isAgg,I.size]
  rw[hsz] at ao
  match cs,ao with
  | [v],_ =>
   have:=hcs 0 v rfl;rw[Nat.add_zero] at this;refine ⟨v,?_,E8 hok hy⟩;simp only[loadVar,Sem.run_bind,hag,Result.andThen_ok,Option.isSome_none,zz2,if_false,run_load,this]
 |some n =>
  simp only[ca,zz0,beq_iff_eq] at hok;obtain ⟨hag',hsz⟩:=hok;have hn:=xZ hk;obtain ⟨i,hi⟩:=uh hk;have ao:=al.length _ _ hy;refine ⟨.agg cs.toArray,?_,gL (by simp[bC,hag']) hy⟩;have hlc:=run_loadCells_list (P:=P) w ⟨b,off,none⟩ cs (fun j u hj=>by rw[ni];exact hcs j u hj);rw[ao,hsz,hn] at hlc;simp only[loadVar,Sem.run_bind,hag,Result.andThen_ok,Option.isSome_some,if_true,jw hi,hlc,Sem.run_pure]
theorem Z2{t:TypeId}{y:Operand}{y':aM}{s:Option Nat}(ho:o.op=.load t y)(hk:gl c.P t=some s)(hy:bq c.P 0 y=some y')(h:cM A (aj A y')=some x)(hok:ca s x=true):dy c A o x :=
 .same fun a w D E ab=>by
  obtain ⟨b,off,cs,J,U,af⟩:=ab.AF (bS ab hy) h;obtain ⟨v,ar,h5⟩:=Hz hk hok U af;exact ⟨v,by simp[execOp,ho,Instr.loadAt,J,Instr.sureAddr,ar],h5⟩
theorem uZ{w:World}{D:aS}{b off:Nat}{c1 c2 c3:List Value}(h:reads w D b off (c1++c2++c3)):reads w D b (off+c1.length) c2:=by
 intro j v hj;have hjl:j<c2.length:=(zz7.1 hj).1;have:=h (c1.length+j) v (by rw[zy3,zv3 (by omega),Nat.add_sub_cancel_left,zy6 (by omega)];exact hj)
 rwa [←Nat.add_assoc] at this
theorem cW.uE:∀ (p:List Nat) (s:cW) (o i:Nat) (l:List cW),s.off p=some o→s.part p=some (.db l)→i<l.length→s.off (p++[i])=some (o+cW.sizes (l.take i))
 | [],s,o,i,l,J,U,af=>by
  simp only[cW.part,v6] at U;subst U;simp only[cW.off,v6] at J;subst J;simp[cW.off,zy2 af]
 |k::p,.one,o,i,l,J,U,af=>by simp[cW.part] at U
 |k::p,.db m,o,i,l,J,U,af=>by
  simp only[cW.off,cW.part,zy1] at *;cases hk:m[k]? with
  |none=>simp[hk] at U
  |some s =>
   simp only[hk] at J U ⊢;simp only[t8] at J;obtain ⟨o',ar,rfl⟩:=J;rw[cW.uE p s o' i l ar U af];simp[Nat.add_assoc]
theorem o6{esz:Nat} : ∀ (fs:List I) (k:Nat),(∀ f∈fs,f.size=esz)→k≤fs.length→I.sizes (fs.take k)=k*esz:=by
 intro fs k h hk;rw[I.iM _ (fun x hx=>h x (List.mem_of_mem_take hx))];simp[Nat.min_eq_left hk]
theorem rh{n esz:Nat}{fs:List I}(h:jI n esz fs=true):fs.length=n∧∀ f∈fs,f.size=esz:=by
 simp only[jI,zz0,beq_iff_eq,zx5] at h;exact h
theorem Hw{P:Program}{w:World}{t:TypeId}{f b off:Nat}{fs:Array Field}{fd:Field}(hu:P.underlying t=some (.struct fs))(hf:fs[f]?=some fd)(hz:¬ P.cellsOf fd.type=0) :
  (Instr.fieldAt t (.pointer (some ⟨b,off,none⟩)) f).run P w=.ok (.pointer (some ⟨b,off+fd.offset,none⟩)) w:=by
 have hi:∃ i,P.info? fd.type=some i:=by
  cases h:P.info? fd.type with
  |none=>simp[Program.cellsOf,h] at hz
  |some i=>exact ⟨i,rfl⟩
 obtain ⟨i,hi⟩:=hi;simp only[Instr.fieldAt,Sem.run_bind,run_underlying hu,Result.andThen_ok,hf,Instr.sureAddr,Sem.run_pure,fieldPlace,jw hi,Sem.run_ite,if_neg hz,ni]
theorem ZU{t:TypeId}{y:Operand}{y':aM}{f:Nat}{fs:Array Field}{fd:Field}{gs:List I}(ho:o.op=.fieldAddr t y f)(hu:c.P.underlying t=some (.struct fs))(hf:fs[f]?=some fd)(hz:¬ c.P.cellsOf fd.type=0)
  (hy:bq c.P 0 y=some y') (h:aj A y'=.ref (.agg gs)) (hx:gs[f]?=some x) (hoff:I.sizes (gs.take f)=fd.offset):dy c A o (.ref x) :=
 .same fun a w D E ab=>by
  have J:=bS ab hy;rw[h] at J;obtain ⟨b,off,cs,U,af,ar⟩:=qA J;simp only[al] at ar;obtain ⟨c1,c2,c3,rfl,k1,_,k2,_⟩:=mM gs cs f x ar hx;refine ⟨_,by simp only[execOp,ho,U,Sem.run_bind,Hw hu hf hz];rfl,uv (cs:=c2) ?_ k2⟩;rw[←hoff,←k1];exact uZ af
theorem ZT{t:TypeId}{y:Operand}{y':aM}{f n:Nat}{p:List Nat}{fs:Array Field}{fd:Field}{gs:List I}(ho:o.op=.fieldAddr t y f)(hu:c.P.underlying t=some (.struct fs))(hf:fs[f]?=some fd)(hz:¬ c.P.cellsOf fd.type=0)
  (hy:bq c.P 0 y=some y') (h:aj A y'=.ptr n p) (ah:cM A (.ptr n p)=some (.agg gs)) (ao:f<gs.length) (hoff:I.sizes (gs.take f)=fd.offset):dy c A o (.ptr n (p++[f])) :=
 .same fun a w D E ab=>by
  have J:=bS ab hy;rw[h] at J;obtain ⟨b,bg,off,U,af,ar⟩:=l5 J;obtain ⟨z,b',cs,T,off',c1,c2,c3,k1,k2,_,k3,k4,k5,k6,k7,k8,k9,_⟩:=ab.at ah;rw[k2] at U;simp only[v6,bR.aP.injEq] at U;obtain ⟨rfl,rfl⟩:=U;refine ⟨_,by simp only[execOp,ho,ar,Sem.run_bind,Hw hu hf hz];rfl,?_⟩;refine ⟨_,by simp[bC,I.isAgg];rfl,?_⟩;simp only[al];refine ⟨b',z.bg,off+fd.offset,k2,?_,rfl⟩;rw[cW.uE p z.bg off f _ af (mX p z _ k4) (by rw[I.dG];simpa using ao),I.dG,←List.map_take,←I.dG,I.mY,hoff]
theorem Hx{P:Program}{w:World}{t e:TypeId}{n b off:Nat}{kk:IntKind}{k:Int}{i:TypeInfo}(hu:P.underlying t=some (.array n e))(hi:P.info? e=some i)(hk:0≤k∧k<n) :
  (Instr.indexAt t (.pointer (some ⟨b,off,none⟩)) (.int kk k)).run P w=.ok (.pointer (some ⟨b,off+k.toNat*P.cellsOf e,none⟩)) w:=by
 simp[Instr.indexAt,asIntOf,run_underlying hu,Instr.sureAddr,hk,jw hi,ni]
theorem zk{P:Program}{w:World}{t e:TypeId}{n b off cap:Nat}{kk:IntKind}{k:Int}{i:TypeInfo}(hu:P.underlying t=some (.slice e))(hi:P.info? e=some i)(hk:0≤k∧k<n) :
  (Instr.indexAt t (.slice (some ⟨b,off,none⟩) n cap) (.int kk k)).run P w=.ok (.pointer (some ⟨b,off+k.toNat*P.cellsOf e,none⟩)) w:=by
 simp[Instr.indexAt,asIntOf,run_underlying hu,hk,jw hi,ni]
theorem ZX{t e:TypeId}{y z:Operand}{y' z':aM}{n:Nat}{i:TypeInfo}{gs:List I}{kk:IntKind}{k:Int}(ho:o.op=.indexAddr t y z)(hu:c.P.underlying t=some (.array n e))(hi:c.P.info? e=some i)
  (hy:bq c.P 0 y=some y') (hz:bq c.P 0 z=some z') (h:aj A y'=.ref (.agg gs)) (h':aj A z'=.int kk k) (hk:0≤k∧k<n) (hev:jI n (c.P.cellsOf e) gs=true) (hx:gs[k.toNat]?=some x):dy c A o (.ref x) :=
 .same fun a w D E ab=>by
  have J:=bS ab hy;rw[h] at J;have h1':=bS ab hz;rw[h'] at h1';obtain ⟨b,off,cs,U,af,ar⟩:=qA J;simp only[al] at ar;obtain ⟨c1,c2,c3,rfl,k1,_,k2,_⟩:=mM gs cs k.toNat x ar hx;obtain ⟨e1,e2⟩:=rh hev;have ao:k.toNat<gs.length:=(zz7.1 hx).1;refine ⟨_,by simp only[execOp,ho,U,(eJ h1').1,Sem.run_bind,Hx hu hi hk];rfl,uv (cs:=c2) ?_ k2⟩;rw[←o6 gs k.toNat e2 (by omega),←k1];exact uZ af
theorem ZW{t e:TypeId}{y z:Operand}{y' z':aM}{n m:Nat}{p:List Nat}{i:TypeInfo}{gs:List I}{kk:IntKind}{k:Int}(ho:o.op=.indexAddr t y z)(hu:c.P.underlying t=some (.array n e))(hi:c.P.info? e=some i)
  (hy:bq c.P 0 y=some y') (hz:bq c.P 0 z=some z') (h:aj A y'=.ptr m p) (h':aj A z'=.int kk k) (hk:0≤k∧k<n) (ah:cM A (.ptr m p)=some (.agg gs)) (hev:jI n (c.P.cellsOf e) gs=true):dy c A o (.ptr m (p++[k.toNat])) :=
 .same fun a w D E ab=>by
  have J:=bS ab hy;rw[h] at J;have h1':=bS ab hz;rw[h'] at h1';obtain ⟨b,bg,off,U,af,ar⟩:=l5 J;obtain ⟨zz,b',cs,T,off',c1,c2,c3,k1,k2,_,k3,k4,k5,k6,k7,k8,k9,_⟩:=ab.at ah;rw[k2] at U;simp only[v6,bR.aP.injEq] at U;obtain ⟨rfl,rfl⟩:=U;obtain ⟨e1,e2⟩:=rh hev;have ao:k.toNat<gs.length:=by omega
  refine ⟨_,by simp only[execOp,ho,ar,(eJ h1').1,Sem.run_bind,Hx hu hi hk];rfl,?_⟩;refine ⟨_,by simp[bC,I.isAgg];rfl,?_⟩;simp only[al];refine ⟨b',zz.bg,off+k.toNat*c.P.cellsOf e,k2,?_,rfl⟩;rw[cW.uE p zz.bg off k.toNat _ af (mX p zz _ k4) (by rw[I.dG];simpa using ao),I.dG,←List.map_take,←I.dG,I.mY,o6 gs _ e2 (by omega)]
theorem CK{w:World}{D:aS}{E:bf}{b off sz k:Nat}{cs:List Value}{es:List I}{x:I}(J:reads w D b off cs)(U:aN w D E es cs)(af:∀ e∈es,e.size=sz)(hx:es[k]?=some x) :
  ∃ c2,reads w D b (off+k*sz) c2∧al w D E x c2:=by
 obtain ⟨c1,c2,c3,rfl,k1,_,k2,_⟩:=mM es cs k x U hx;have ao:k<es.length:=(zz7.1 hx).1;refine ⟨c2,?_,k2⟩;rw[←o6 es k af (by omega),←k1];exact uZ J
theorem ZY{t e:TypeId}{y z:Operand}{y' z':aM}{i:TypeInfo}{es:List I}{kk:IntKind}{k:Int}(ho:o.op=.indexAddr t y z)(hu:c.P.underlying t=some (.slice e))(hi:c.P.info? e=some i)
  (hy:bq c.P 0 y=some y') (hz:bq c.P 0 z=some z') (h:aj A y'=.slice (c.P.cellsOf e) es) (h':aj A z'=.int kk k) (hk:0≤k∧k<es.length) (hx:es[k.toNat]?=some x):dy c A o (.ref x) :=
 .same fun a w D E ab=>by
  have J:=bS ab hy;rw[h] at J;have h1':=bS ab hz;rw[h'] at h1';obtain ⟨ad,cap,rfl',U,af,ar,h5⟩:=nP J;rcases ar with ar | ⟨b,off,cs,rfl,h6,h7⟩
  ·subst ar;simp at hx
  obtain ⟨c2,k1,k2⟩:=CK h6 h7 h5 hx;exact ⟨_,by simp only[execOp,ho,rfl',(eJ h1').1,Sem.run_bind,zk hu hi hk];rfl,uv k1 k2⟩
theorem aX.adM{a:Act}{w:World}{D:aS}{E:bf}(h:aX c A a w D E){n sz b cap:Nat}{T:TypeId}{es:List I}(hn:A.o n=some (.bV T sz es))(aF:E n=some (.rw (some (b,cap)) es.length)) :
  aX c A a w (fun b' o=>D b' o∨(b'=b∧o<es.length*sz)) E:=by
 have hrow:=h.bV hn;obtain ⟨aK,k1,k2,k3⟩:=hrow;rw[aF] at k1;simp only[v6,bR.rw.injEq,and_true] at k1;subst k1;obtain ⟨cs,pre,rest,k4,k5,k6,k7,k8,k9,k10,k11⟩:=k3;refine h.Ie (fun _ _ ah=>.inl ah) ?_ ?_ ?_ ?_ ?_ ?_
 ·rintro b' o (ah | ⟨rfl,_⟩) hlt
  ·exact h.dh _ _ ah hlt
  ·exact absurd k4 hlt
 ·rintro b' o (ah | ⟨rfl,_⟩)
  ·exact h.aU _ _ ah
  ·exact fX k5
 ·rintro m x b' hm hEm o (ah | ⟨rfl,_⟩)
  ·obtain ⟨b2,cs2,s9,q1,q2,q3,q4,q5⟩:=h.box hm;rw[q1] at hEm;simp only[v6,bR.aP.injEq,and_true] at hEm;subst hEm;exact q5 o ah
  ·have:=h.cU m n _ _ b' hEm aF rfl rfl;subst this;rw[hm] at hn;cases hn
 ·rintro m T' sz' es' b' cap' hm hEm o (ah | ⟨rfl,ho⟩)
  ·obtain ⟨aK,q1,q2,q3⟩:=h.bV hm;rw[hEm] at q1;simp only[v6,bR.rw.injEq,and_true] at q1;subst q1;obtain ⟨cs',pre',rest',q4,q5,q6,q7,q8,q9,q10,q11⟩:=q3;have:=q11 o ah
   rwa [aN.length _ _ q7,I.iM _ q2] at this
  ·have:=h.cU m n _ _ b' hEm aF rfl rfl;subst this;rw[hm] at hn;simp only[v6,aq.bV.injEq] at hn;obtain ⟨rfl,rfl,rfl⟩:=hn;exact ho
 ·rintro m T' xs b' cap' hm hEm o (ah | ⟨rfl,ho⟩)
  ·obtain ⟨aK,q1,_,q3⟩:=h.sH hm;rw[hEm] at q1;simp only[v6,bR.rw.injEq,and_true] at q1;subst q1;obtain ⟨_,_,_,_,_,_,_,_,q4⟩:=q3;exact q4 o ah
  ·have:=h.cU m n _ _ b' hEm aF rfl rfl;subst this;rw[hm] at hn;cases hn
 ·rintro m e' b' hE' hoth hblk o (ah | ⟨rfl,_⟩)
  ·exact h.yJ hE' hoth hblk o ah
  ·have:=h.cU m n _ _ b' hE' aF hblk rfl;subst this;rw[hE'] at aF;cases aF;cases hoth
theorem aX.own{a:Act}{w:World}{D:aS}{E:bf}(h:aX c A a w D E){n sz:Nat}{T:TypeId}{es:List I}{v:Value}(hn:A.o n=some (.bV T sz es))(hv:a8 w D E (.own n es.length) v) :
  (es=[]∧E n=some (.rw none 0)∧v=.slice none 0 0) ∨
  ∃ b cap cs pre rest,E n=some (.rw (some (b,cap)) es.length)∧v=.slice (some ⟨b,0,none⟩) es.length cap∧c.fu b∧w.heap[b]?=some (.cells cs T (0,0))∧cs.toList=pre++rest ∧
   aN w D E es pre∧cs.size=cap*sz∧es.length≤cap∧cap≤maxLen∧(∀ o,D b o→o<pre.length):=by
 obtain ⟨cs0,J,U⟩:=hv;simp only[al] at U;obtain ⟨aK,l,af,ar,_,h5⟩:=U;obtain ⟨blk',k1,k2,k3⟩:=h.bV hn;rw[k1] at af;simp only[v6,bR.rw.injEq] at af;obtain ⟨rfl,rfl⟩:=af;have h5:=h5 rfl;cases blk' with
 |none =>
  simp only at k3 h5;subst k3;exact .inl ⟨rfl,k1,by simpa[bC,I.isAgg,h5] using J.symm⟩
 |some bc =>
  obtain ⟨b,cap⟩:=bc;simp only at h5;obtain ⟨cs,pre,rest,k4,k5,k6,k7,k8,k9,k10,k11⟩:=k3;exact .inr ⟨b,cap,cs,pre,rest,k1,by simpa[bC,I.isAgg,h5] using J.symm,k4,k5,k6,k7,k8,k9,k10,k11⟩
theorem ZZ{t e:TypeId}{y z:Operand}{y' z':aM}{i:TypeInfo}{es:List I}{n:Nat}{kk:IntKind}{k:Int}(ho:o.op=.indexAddr t y z)(hu:c.P.underlying t=some (.slice e))(hi:c.P.info? e=some i)
  (hy:bq c.P 0 y=some y') (hz:bq c.P 0 z=some z') (h:aj A y'=.own n es.length) {T:TypeId} (hn:A.o n=some (.bV T (c.P.cellsOf e) es)) (h':aj A z'=.int kk k) (hk:0≤k∧k<es.length) (hx:es[k.toNat]?=some x):dy c A o (.ref x):=by
 intro a w D E ab;have J:=bS ab hy;rw[h] at J;have h1':=bS ab hz;rw[h'] at h1';rcases ab.own hn J with ⟨rfl,_⟩ | ⟨b,cap,cs,pre,rest,k1,k2,k3,k4,k5,k6,k7,k8,k9,k10⟩
 ·simp at hx
 ·have hs':=ab.adM hn k1;obtain ⟨aK,q1,q2,_⟩:=ab.bV hn;have hpl:pre.length=es.length*c.P.cellsOf e:=by rw[aN.length _ _ k6,I.iM _ q2]
  have hr:reads w (fun b' o=>D b' o∨(b'=b∧o<es.length*c.P.cellsOf e)) b 0 pre:=by
   have:=oQ (D:=fun b' o=>D b' o∨(b'=b∧o<es.length*c.P.cellsOf e)) (c1:=[]) k4 (by simpa using k5) (fun o ho=>.inr ⟨rfl,by simp at ho;omega⟩);simpa using this
  have hrc:aN w (fun b' o=>D b' o∨(b'=b∧o<es.length*c.P.cellsOf e)) E es pre :=
   aN.later ⟨fun _ _ ah=>.inl ah,fun _ _ _ _ h=>h,fun _ _ _ h=>h,fun _ aK l h=>⟨aK,l,h,zz3 _,fun _=>rfl⟩,fun _ _ h=>h,fun _ _ h=>h,fun _ _ _ _ h=>h⟩ es pre k6
  obtain ⟨c2,q3,q4⟩:=CK hr hrc q2 hx;exact ⟨_,w,_,by simp only[execOp,ho,k2,(eJ h1').1,Sem.run_bind,zk hu hi hk];rfl,hs',uv q3 q4⟩
end
section
variable {c:cV} {A:ai} {o:Oper} {x:I}
theorem oY{P:Program}{w:World}{D:aS}{E:bf}{t:TypeId}{s:Option Nat}{c1 c2 c3:List Value}{y:I}(hk:gl P t=some s)(hok:ca s y=true)(hy:al w D E y c2) :
  ∃ v,(part t (c1++c2++c3).toArray c1.length).run P w=.ok v w∧a8 w D E y v:=by
 have hag:=Hy (w:=w) hk;have ao:=al.length _ _ hy;cases s with
 |none =>
  simp only[ca,Bool.not_eq_true'] at hok;have hsz:y.size=1:=by cases y <;>simp_all[I.isAgg,I.size]
  rw[hsz] at ao
  match c2,ao with
  | [v],_ =>
   refine ⟨v,?_,E8 hok hy⟩;simp[part,hag]
 |some n =>
  simp only[ca,zz0,beq_iff_eq] at hok;obtain ⟨hag',hsz⟩:=hok;have hn:=xZ hk;obtain ⟨i,hi⟩:=uh hk;refine ⟨.agg c2.toArray,?_,gL (by simp[bC,hag']) hy⟩;have e:((c1++c2++c3).toArray.extract c1.length (c1.length+P.cellsOf t))=c2.toArray:=by
   have:P.cellsOf t=c2.length:=by rw[ao,hsz,hn]
   rw[this];simp
  simp only[part,Sem.run_bind,hag,Result.andThen_ok,Option.isSome_some,if_true,jw hi,e,Sem.run_pure]
theorem ZV{t:TypeId}{y:Operand}{y':aM}{f:Nat}{s:Option Nat}{fs:Array Field}{fd:Field}{gs:List I}(ho:o.op=.field t y f)(hu:c.P.underlying t=some (.struct fs))(hf:fs[f]?=some fd)(hk:gl c.P fd.type=some s)
  (hy:bq c.P 0 y=some y') (h:aj A y'=.agg gs) (hx:gs[f]?=some x) (hoff:I.sizes (gs.take f)=fd.offset) (hok:ca s x=true):dy c A o x :=
 .same fun a w D E ab=>by
  have J:=bS ab hy;rw[h] at J;obtain ⟨cs,U,ar⟩:=jP J;obtain ⟨c1,c2,c3,rfl,k1,_,k2,_⟩:=mM gs cs f x ar hx;obtain ⟨v,k3,k4⟩:=oY (c1:=c1) (c3:=c3) hk hok k2;rw[k1,hoff] at k3;exact ⟨v,by simp only[execOp,ho,U,Instr.field,Sem.run_bind,run_underlying hu,Result.andThen_ok,hf,asAgg,Sem.run_pure,k3],k4⟩
theorem Z1{t e:TypeId}{y z:Operand}{y' z':aM}{n:Nat}{s:Option Nat}{gs:List I}{kk:IntKind}{k:Int}(ho:o.op=.index t y z)(hu:c.P.underlying t=some (.array n e))(hk:gl c.P e=some s)
  (hy:bq c.P 0 y=some y') (hz:bq c.P 0 z=some z') (h:aj A y'=.agg gs) (h':aj A z'=.int kk k) (hb:0≤k∧k<n) (hev:jI n (c.P.cellsOf e) gs=true) (hx:gs[k.toNat]?=some x) (hok:ca s x=true):dy c A o x :=
 .same fun a w D E ab=>by
  have J:=bS ab hy;rw[h] at J;have h1':=bS ab hz;rw[h'] at h1';obtain ⟨cs,U,ar⟩:=jP J;obtain ⟨c1,c2,c3,rfl,k1,_,k2,_⟩:=mM gs cs k.toNat x ar hx;obtain ⟨v,k3,k4⟩:=oY (c1:=c1) (c3:=c3) hk hok k2;obtain ⟨e1,e2⟩:=rh hev;obtain ⟨i,hi⟩:=uh hk;have ao:k.toNat<gs.length:=(zz7.1 hx).1;rw[k1,o6 gs k.toNat e2 (by omega)] at k3;exact ⟨v,by simp only[execOp,ho,U,(eJ h1').1,Instr.index,Sem.run_bind,asIntOf,run_underlying hu,Result.andThen_ok,Sem.run_ite,if_pos hb,jw hi,Sem.run_pure,k3],k4⟩
theorem x9{n:Nat}(h:n≤maxLen):IntKind.i64.min≤(n:Int)∧(n:Int)≤IntKind.i64.max:=by
 simp only[IntKind.min,IntKind.max,IntKind.bits,IntKind.signed];unfold maxLen at h;simp;omega
theorem pR{ty:TypeId}{y:Operand}{y':aM}{n:Nat}{d:TypeDesc}(ho:o.op=.call { callee:=.builtin .len,args := #[y],argTypes := #[ty] })(hu:c.P.underlying ty=some d)(ah:(∃ e,d=.slice e)∨d=.string)
  (hy:bq c.P ty y=some y') (h:∀ a w D E,aX c A a w D E→∀ v,a8 w D E (aj A y') v→n≤maxLen∧((∃ e,d=.slice e)→∃ ad cap,v=.slice ad n cap)∧(d=.string→∃ s,v=.string s∧s.size=n)):dy c A o (.int .i64 n) :=
 .same fun a w D E ab=>by
  obtain ⟨aR,J,U⟩:=h a w D E ab _ (bS ab hy);refine ⟨.int .i64 n,?_,j2 (x9 aR)⟩;rcases ah with ⟨e,rfl⟩ | rfl
  ·obtain ⟨ad,cap,hv⟩:=J ⟨e,rfl⟩;simp[execOp,ho,resolve,invoke,builtin,Builtin.len_,run_underlying hu,hv,goInt]
  ·obtain ⟨s,hv,ab⟩:=U rfl;simp[execOp,ho,resolve,invoke,builtin,Builtin.len_,run_underlying hu,hv,goInt,ab]
theorem aai{t e:TypeId}{y:Operand}{y':aM}{n:Nat}{i:TypeInfo}{gs:List I}(ho:o.op=.slice t y none none none)(hu:c.P.underlying t=some (.array n e))(hi:c.P.info? e=some i)
  (hy:bq c.P 0 y=some y') (h:aj A y'=.ref (.agg gs)) (hev:jI n (c.P.cellsOf e) gs=true) (hn:n≤maxLen):dy c A o (.slice (c.P.cellsOf e) gs) :=
 .same fun a w D E ab=>by
  have J:=bS ab hy;rw[h] at J;obtain ⟨b,off,cs,U,af,ar⟩:=qA J;simp only[al] at ar;obtain ⟨e1,e2⟩:=rh hev;by_cases aR:n=0
  ·exact ⟨.slice (some ⟨b,off,none⟩) 0 0,by simp[execOp,ho,U,Instr.sliceAt,run_underlying hu,Instr.sureAddr,Instr.sliceBounds,jw hi,aR],uw (by omega) (by omega) (by simp[maxLen]) (.inl (List.eq_nil_of_length_eq_zero (by omega))) e2⟩
  ·exact ⟨.slice (some ⟨b,off,none⟩) n n,by simp[execOp,ho,U,Instr.sliceAt,run_underlying hu,Instr.sureAddr,Instr.sliceBounds,jw hi,ni],uw e1.symm (zz3 _) hn (.inr ⟨b,off,cs,rfl,af,ar⟩) e2⟩
theorem aah{t e:TypeId}{y:Operand}{y':aM}{n m:Nat}{p:List Nat}{i:TypeInfo}{gs:List I}(ho:o.op=.slice t y none none none)(hu:c.P.underlying t=some (.array n e))(hi:c.P.info? e=some i)
  (hy:bq c.P 0 y=some y') (h:aj A y'=.ptr m p) (ah:cM A (.ptr m p)=some (.agg gs)) (hev:jI n (c.P.cellsOf e) gs=true) (hn:n≤maxLen) (hn0:n≠0):dy c A o (.view m p (c.P.cellsOf e) 0 n) :=
 .same fun a w D E ab=>by
  have J:=bS ab hy;rw[h] at J;obtain ⟨b,bg,off,U,af,ar⟩:=l5 J;obtain ⟨zz,b',cs,T,off',c1,c2,c3,k1,k2,_,k3,k4,k5,k6,k7,k8,k9,_⟩:=ab.at ah;rw[k2] at U;simp only[v6,bR.aP.injEq] at U;obtain ⟨rfl,rfl⟩:=U;obtain ⟨e1,e2⟩:=rh hev;refine ⟨.slice (some ⟨b',off,none⟩) n n,by simp[execOp,ho,ar,Instr.sliceAt,run_underlying hu,Instr.sureAddr,Instr.sliceBounds,jw hi,ni],?_⟩;refine ⟨_,by simp[bC,I.isAgg];rfl,?_⟩;simp only[al];refine ⟨b',zz.bg,off,I.de gs,k2,af,mX p zz _ k4,?_,?_,?_,?_⟩
  ·rw[I.dG,zz6,e1];simp
  ·rw[I.dG,zz6,e1];exact hn
  ·rw[I.dG,zz6,e1];omega
  ·rw[I.dG];intro s hs';obtain ⟨f,hf,rfl⟩:=zy9.1 hs';rw[I.l8];exact e2 f hf
theorem ac6{w:World}{D:aS}{E:bf}{b off sz:Nat}{cs:List Value}{es:List I}(J:reads w D b off cs)(U:aN w D E es cs)(af:∀ e∈es,e.size=sz)(l h:Nat)(ao:l≤h)(bz:h≤es.length) :
  ∃ c2,reads w D b (off+l*sz) c2∧aN w D E ((es.take h).drop l) c2:=by
 have hspl:∀ (xs ys:List I) (cs:List Value),aN w D E (xs++ys) cs→∃ c1 c2,cs=c1++c2∧aN w D E xs c1∧aN w D E ys c2:=by
  intro xs
  induction xs with
  |nil=>intro ys cs hr;exact ⟨[],cs,rfl,by simp[aN],hr⟩
  |cons x xs ih =>
   intro ys cs hr;simp only[zy1,aN] at hr;obtain ⟨d1,d2,rfl,k1,k2⟩:=hr;obtain ⟨e1,e2,rfl,k3,k4⟩:=ih ys d2 k2;exact ⟨d1++e1,e2,by simp,by simp only[aN];exact ⟨d1,e1,rfl,k1,k3⟩,k4⟩
 have e1:es=es.take l++((es.take h).drop l++es.drop h):=by
  rw[←zy3]
  conv=>lhs;rw[←zv0 h es]
  congr 1
  rw[←List.aef l h es ao]
 rw[e1] at U;obtain ⟨c1,c',rfl,k1,k2⟩:=hspl _ _ _ U;obtain ⟨c2,c3,rfl,k3,k4⟩:=hspl _ _ _ k2;refine ⟨c2,?_,k3⟩;rw[←o6 es l af (by omega),←aN.length _ _ k1];rw[←zy3] at J;exact uZ J
 where
 List.aef {α:Type} (l h:Nat) (es:List α) (ao:l≤h):es.take h=es.take l++(es.take h).drop l:=by
  conv=>lhs;rw[←zv0 l (es.take h)]
  rw[List.take_take,Nat.min_eq_left ao]
def iY(w:World)(D:aS)(E:bf)(x:Option I)(v:Option Value):Prop:=match x,v with
 |none,none=>True
 |some x,some v=>a8 w D E x v
 |_,_=>False
theorem KA{x:I}{d n:Int}(h:jf (some x) d=some n):∃ k,x=.int k n:=by
 cases x <;>simp[jf] at h
 subst h;exact ⟨_,rfl⟩
theorem r4{w:World}{D:aS}{E:bf}{x:Option I}{v:Option Value}{d n:Int}(h:iY w D E x v)(hb:jf x d=some n) :
  (x=none∧v=none∧d=n)∨(x.isSome=true∧∃ k,v=some (.int k n)):=by
 cases x with
 |none =>
  cases v with
  |some _=>simp[iY] at h
  |none=>simp only[jf,v6] at hb;exact .inl ⟨rfl,rfl,hb⟩
 |some x =>
  cases v with
  |none=>simp[iY] at h
  |some v =>
   obtain ⟨k,rfl⟩:=KA hb;simp only[iY] at h;exact .inr ⟨rfl,k,by rw[(eJ h).1]⟩
theorem zl{P:Program}{w:World}{D:aS}{E:bf}{t e:TypeId}{i:TypeInfo}{sz:Nat}{es:List I}{lo hi mx:Option I}{vlo vhi vmx:Option Value}{x:I}{ad:Option Addr}{cap:Nat}
  (hu:P.underlying t=some (.slice e)) (hi':P.info? e=some i) (hsz:sz=P.cellsOf e) (hmh:mx.isSome=true→hi.isSome=true)
  (J:iY w D E lo vlo) (U:iY w D E hi vhi) (af:iY w D E mx vmx) (hx:iN sz es lo hi mx=some x)
  (hcap:es.length≤cap) (hcm:cap≤maxLen) (hes:es=[]∨∃ b off cs,ad=some ⟨b,off,none⟩∧reads w D b off cs∧aN w D E es cs) (hall:∀ e∈es,e.size=sz) :
  ∃ v,(Instr.sliceAt t (.slice ad es.length cap) vlo vhi vmx).run P w=.ok v w∧a8 w D E x v:=by
 unfold iN at hx;split at hx
 ·cases hx
 rename_i h bz;split at hx
 ·cases hx
 rename_i m hm;split at hx
 ·cases hx
 rename_i l ao;split at hx
 case isFalse=>cases hx
 rename_i hb;obtain ⟨b1,b2,b3,b4⟩:=hb;have sb:∀ (k:IntKind) (n:Int) (y:Nat) (code:BoundsCode),0≤n→n≤y→(Instr.sliceBound (.int k n) y code).run P w=.ok n.toNat w:=fun k n y code g1 g2=>by
  simp[Instr.sliceBound,asIntOf,g1,g2]
 -- the bounds that the program finds
 have key:∃ m':Nat,es.length≤cap∧m'≤cap∧h.toNat≤m'∧(mx.isSome=true→m'=m.toNat)∧(mx=none→m'=cap) ∧
   (Instr.sliceBounds true es.length cap vlo vhi vmx).run P w=.ok (l.toNat,h.toNat,m') w:=by
  have c1:=r4 J ao;have c2:=r4 U bz;have c3:=r4 af hm;clear J U af;rcases c3 with ⟨rfl,rfl,hm3⟩ | ⟨s3,k3,rfl⟩
  ·refine ⟨cap,hcap,zz3 _,by omega,fun e=>(by cases e),fun _=>rfl,?_⟩;rcases c2 with ⟨rfl,rfl,hm2⟩ | ⟨s2,k2,rfl⟩ <;>rcases c1 with ⟨rfl,rfl,hm1⟩ | ⟨s1,k1,rfl⟩
   ·subst hm1 hm2;simp[Instr.sliceBounds]
   ·subst hm2;simp[Instr.sliceBounds,sb k1 l es.length _ b1 (by omega)]
   ·subst hm1;simp[Instr.sliceBounds,sb k2 h cap _ (by omega) (by omega)]
   ·simp[Instr.sliceBounds,sb k2 h cap _ (by omega) (by omega),sb k1 l h.toNat _ b1 (by omega)]
  ·refine ⟨m.toNat,hcap,by omega,by omega,fun _=>rfl,fun e=>(by rw[e] at s3;cases s3),?_⟩;rcases c2 with ⟨rfl,rfl,hm2⟩ | ⟨s2,k2,rfl⟩
   ·simp[s3] at hmh
   ·rcases c1 with ⟨rfl,rfl,hm1⟩ | ⟨s1,k1,rfl⟩
    ·subst hm1;simp[Instr.sliceBounds,sb k3 m cap _ (by omega) (by omega),sb k2 h m.toNat _ (by omega) (by omega)]
    ·simp[Instr.sliceBounds,sb k3 m cap _ (by omega) (by omega),sb k2 h m.toNat _ (by omega) (by omega),sb k1 l h.toNat _ b1 (by omega)]
 obtain ⟨m',g1,g2,g3,g4,g5,hsb⟩:=key;have hrun:(Instr.sliceAt t (.slice ad es.length cap) vlo vhi vmx).run P w =
   .ok (.slice (if m'=l.toNat then ad else ad.map (·.add (l.toNat*P.cellsOf e))) (h.toNat-l.toNat) (m'-l.toNat)) w:=by
  simp only[Instr.sliceAt,Instr.slice,Sem.run_bind,run_underlying hu,Result.andThen_ok,hsb,jw hi',Sem.run_pure]
 refine ⟨_,hrun,?_⟩;split at hx
 ·rename_i hc;simp only[v6] at hx;subst hx;have e1:m'=l.toNat:=by rw[g4 hc.1,hc.2]
  have e2:h.toNat-l.toNat=0:=by omega
  rw[if_pos e1,e2,e1,Nat.sub_self];exact ⟨_,by simp[bC,I.isAgg];rfl,by simp only[al];exact ⟨ad,rfl⟩⟩
 ·simp only[v6] at hx;subst hx;have hlen:((es.take h.toNat).drop l.toNat).length=h.toNat-l.toNat:=by simp;omega
  refine uw hlen.symm (by omega) (by omega) ?_ (fun y hy=>hall y (List.mem_of_mem_take (List.mem_of_mem_drop hy)));by_cases hz:h.toNat=l.toNat
  ·left;exact List.eq_nil_of_length_eq_zero (by omega)
  ·right
   rw[if_neg (by omega)];rcases hes with rfl | ⟨b,off,cs,rfl,q1,q2⟩
   ·simp at b4 g3;omega
   ·obtain ⟨c2,q3,q4⟩:=ac6 q1 q2 hall l.toNat h.toNat (by omega) (by omega);exact ⟨b,off+l.toNat*sz,c2,by simp[ni,hsz],q3,q4⟩
theorem xN{t e:TypeId}{y:Operand}{y':aM}{lo hi mx:Option Operand}{lo' hi' mx':Option aM}{i:TypeInfo}{es:List I}(ho:o.op=.slice t y lo hi mx)(hu:c.P.underlying t=some (.slice e))(hi0:c.P.info? e=some i)
  (hy:bq c.P 0 y=some y') (J:jh c.P lo=some lo') (U:jh c.P hi=some hi') (af:jh c.P mx=some mx') (hmh:mx'.isSome=true→hi'.isSome=true)
  (h:aj A y'=.slice (c.P.cellsOf e) es∨(aj A y'=.nils (c.P.cellsOf e)∧es=[])∨(aj A y'=.c0 (c.P.cellsOf e)∧es=[])) (hx:iN (c.P.cellsOf e) es (lo'.map (aj A)) (hi'.map (aj A)) (mx'.map (aj A))=some x):dy c A o x :=
 .same fun a w D E ab=>by
  have opt:∀ {q:Option Operand} {q':Option aM},jh c.P q=some q'→iY w D E (q'.map (aj A)) (q.map a.eval):=by
   intro q q' hq;cases q with
   |none=>simp only[jh,v6] at hq;subst hq;simp[iY]
   |some z =>
    simp only[jh,t8] at hq;obtain ⟨z',hz,rfl⟩:=hq;simpa[iY] using bS ab hz
  have aR:=bS ab hy;have hmh':(mx'.map (aj A)).isSome=true→(hi'.map (aj A)).isSome=true:=by simpa using hmh
  rcases h with h | ⟨h,rfl⟩ | ⟨h,rfl⟩
  ·rw[h] at aR;obtain ⟨ad,cap,e1,e2,e3,e4,e5⟩:=nP aR;obtain ⟨v,k1,k2⟩:=zl hu hi0 rfl hmh' (opt J) (opt U) (opt af) hx e2 e3 e4 e5;exact ⟨v,by simp only[execOp,ho,e1,Sem.run_bind,k1];rfl,k2⟩
  ·rw[h] at aR;obtain ⟨cs,q1,q2⟩:=aR;simp only[al] at q2;have e1:a.eval y=.slice none ([]:List I).length 0:=by simpa[bC,I.isAgg,q2] using q1.symm
   obtain ⟨v,k1,k2⟩:=zl (ad:=none) (cap:=0) hu hi0 rfl hmh' (opt J) (opt U) (opt af) hx (by simp) (by simp[maxLen]) (.inl rfl) (by simp);exact ⟨v,by simp only[execOp,ho,e1,Sem.run_bind,k1];rfl,k2⟩
  ·rw[h] at aR;obtain ⟨cs,q1,q2⟩:=aR;simp only[al] at q2;obtain ⟨ad,q2⟩:=q2;have e1:a.eval y=.slice ad ([]:List I).length 0:=by simpa[bC,I.isAgg,q2] using q1.symm
   obtain ⟨v,k1,k2⟩:=zl (ad:=ad) (cap:=0) hu hi0 rfl hmh' (opt J) (opt U) (opt af) hx (by simp) (by simp[maxLen]) (.inl rfl) (by simp);exact ⟨v,by simp only[execOp,ho,e1,Sem.run_bind,k1];rfl,k2⟩
end
inductive fQ {α β:Type} (R:α→β→Prop):List α→List β→Prop where
 |nil:fQ R [] []
 |cons {x:α} {y:β} {xs:List α} {ys:List β} : R x y→fQ R xs ys→fQ R (x::xs) (y::ys)
section
variable {c:cV} {A:ai} {o:Oper} {x:I}
theorem ac5{w:World}{D:aS}{E:bf}{xs:List I}{cs ds:List Value}{i:Nat}{x y:I}(h:aN w D E xs cs)(hx:xs[i]?=some x)(hy:al w D E y ds)(ab:y.size=x.size) :
  I.sizes (xs.take i)+ds.length≤cs.length∧aN w D E (xs.set i y) (cs.take (I.sizes (xs.take i))++ds++cs.drop (I.sizes (xs.take i)+ds.length)):=by
 obtain ⟨c1,c2,c3,rfl,J,U,af,ar⟩:=mM xs cs i x h hx;have hi:i<xs.length:=(zz7.1 hx).1;have ao:ds.length=c2.length:=by rw[al.length _ _ hy,al.length _ _ af,ab]
 refine ⟨by simp only[zz8,J];omega,?_⟩;have e1:xs.set i y=xs.take i++y::xs.drop (i+1):=by rw[List.set_eq_take_append_cons_drop];simp[hi]
 have e2:(c1++c2++c3).take (I.sizes (xs.take i))++ds++(c1++c2++c3).drop (I.sizes (xs.take i)+ds.length)=c1++(ds++c3):=by
  rw[←J,ao,zy3 c1 c2 c3,List.take_left,List.drop_length_add_append,List.drop_left,zy3]
 rw[e1,e2];refine kD _ _ _ _ U ?_;simp only[aN];exact ⟨ds,c3,rfl,hy,ar⟩
theorem P9(off:Nat)(l:List Value)(cs:Array Value)(h:off+l.length≤cs.size) :
  ((l.zipIdx 0).foldl (fun cs (x:Value×Nat)=>cs.setIfInBounds (off+x.2) x.1) cs).toList=cs.toList.take off++l++cs.toList.drop (off+l.length):=by
 obtain ⟨J,U⟩:=Great.foldl_set off l 0 cs;apply List.ext_getElem?;intro k;rw[zw8,U k];simp only[Nat.add_zero,zy3];by_cases hk:k<off
 ·rw[if_neg (by omega),zy6 (by simp;omega)];simp[hk]
 ·rw[zv3 (by simp;omega)];simp only[zx2,zx6,Nat.min_eq_left (show off≤cs.size by omega)];by_cases hk2:k<off+l.length
  ·rw[if_pos ⟨by omega,by omega,by omega⟩,zy6 (by omega)]
  ·rw[if_neg (by omega),zv3 (by omega)];simp only[List.getElem?_drop,zw8]
   congr 1
   omega
theorem xk{w:World}{D:aS}{E:bf}(pl:Nat→Option (Nat×Nat)):∀ (ps:List (Nat×I)) (vs:List (Nat×Value)) (zs zs':List I) (cells:Array Value),
  (∀ i z,zs[i]?=some z→pl i=some (I.sizes (zs.take i),z.size))→aN w D E zs cells.toList→dS zs ps=some zs' →
  fQ (fun (p:Nat×I) (v:Nat×Value)=>p.1=v.1∧a8 w D E p.2 v.2) ps vs →
  ∃ cells',Instr.fill pl cells vs=some cells'∧aN w D E zs' cells'.toList
 | [],vs,zs,zs',cells,hp,hr,ab,hf=>by
  cases hf;simp only[dS,v6] at ab;subst ab;exact ⟨cells,rfl,hr⟩
 |(i,y)::ps,vs,zs,zs',cells,hp,hr,ab,hf=>by
  cases hf with
  |cons J U =>
   rename_i v vs;obtain ⟨j,u⟩:=v;simp only at J;obtain ⟨rfl,hv⟩:=J;simp only[dS] at ab;split at ab
   ·rename_i z hz;split at ab
    ·rename_i hsz;obtain ⟨hval,hsz⟩:=hsz;obtain ⟨ds,k1,k2⟩:∃ ds,bC y u ds∧al w D E y ds:=by
      cases y <;>simp[I.bX] at hval <;>exact hv
     have hcells:=k1.cells k2;have hds:u.cells.size=z.size:=by rw[←zx6,hcells,al.length _ _ k2,hsz]
     obtain ⟨k3,k4⟩:=ac5 hr hz k2 hsz;have hcl:cells.toList.length=cells.size:=zx6;have ao:ds.length=u.cells.size:=by rw[←hcells,zx6]
     have hp':∀ k z',(zs.set i y)[k]?=some z'→pl k=some (I.sizes ((zs.set i y).take k),z'.size):=by
      intro k z' hk;have hil:i<zs.length:=(zz7.1 hz).1;have hsizes:∀ k,I.sizes ((zs.set i y).take k)=I.sizes (zs.take k):=by
       intro k;have gen:∀ (zs:List I) (i k:Nat) (z:I),zs[i]?=some z→z.size=y.size→I.sizes ((zs.set i y).take k)=I.sizes (zs.take k):=by
        intro zs
        induction zs with
        |nil=>intro i k z hz _;simp at hz
        |cons q qs ih =>
         intro i k z hz he;cases k with
         |zero=>simp
         |succ k =>
          cases i with
          |zero =>
           simp only[List.getElem?_cons_zero,v6] at hz;subst hz;simp[I.sizes,he]
          |succ i =>
           simp only[List.set_cons_succ,zw2,I.sizes,ih i k z (by simpa using hz) he]
       exact gen zs i k z hz hsz.symm
      rw[hsizes];rw[List.getElem?_set] at hk;split at hk
      ·rename_i hik;subst hik;simp only[v6] at hk;subst hk;rw[hp i z hz,hsz]
      ·exact hp k z' hk
     have hfold:=P9 (I.sizes (zs.take i)) u.cells.toList cells (by rw[hcells];omega);rw[hcells] at hfold;obtain ⟨cells',k5,k6⟩:=xk pl ps vs (zs.set i y) zs' ((u.cells.toList.zipIdx 0).foldl (fun cs (x:Value×Nat)=>cs.setIfInBounds (I.sizes (zs.take i)+x.2) x.1) cells) hp'
      (by rw[hcells,hfold];exact k4) ab U
     refine ⟨cells',?_,k6⟩;unfold Instr.fill;simp only[hp i z hz];rw[if_neg (by simp[hds];omega)];rw[←k5]
     congr 1
     rw[←Array.foldl_toList,Array.toList_zipIdx]
    ·cases ab
   ·cases ab
theorem FD{a:Act}{w:World}{D:aS}{E:bf}(ab:aX c A a w D E){P:Program} : ∀ (ps:List (Nat×Operand)) (qs:List (Nat×aM)),lF P ps=some qs →
  fQ (fun (p:Nat×I) (v:Nat×Value)=>p.1=v.1∧a8 w D E p.2 v.2) (qs.map fun p=>(p.1,aj A p.2)) (ps.map fun p=>(p.1,a.eval p.2))
 | [],qs,h=>by simp[lF] at h;subst h;exact .nil
 |(i,x)::ps,qs,h=>by
  simp only[lF,List.mapM_cons,Option.bind_eq_bind,Option.pure_def,zv6,t8,v6] at h;obtain ⟨_,⟨y,hy,rfl⟩,qs',hq,rfl⟩:=h;exact .cons ⟨rfl,bS ab hy⟩ (FD ab ps qs' hq)
theorem DV{t:TypeId}{parts:Array (Nat×Operand)}{ps:List (Nat×aM)}{zs zs':List I}(ho:o.op=.build t parts)(hz:gF c.P t=some (.agg zs))(hp:lF c.P parts.toList=some ps)
  (hpl:(∃ fs,c.P.underlying t=some (.struct fs)∧(fs.toList.map fun f=>(f.offset,c.P.cellsOf f.type))=lX 0 zs∧(fs.all fun f=>(c.P.info? f.type).isSome)=true) ∨
   (∃ n e,c.P.underlying t=some (.array n e)∧zs.length=n∧(zs.all fun z=>z.size==c.P.cellsOf e)=true∧(c.P.info? e).isSome=true))
  (h:dS zs (ps.map fun p=>(p.1,aj A p.2))=some zs'):dy c A o (.agg zs') :=
 .same fun a w D E ab=>by
  obtain ⟨i,z,hi,hzv,hzr⟩:=me hz;have hzr:=hzr w D E;simp only[al] at hzr;have hparts:=FD ab parts.toList ps hp;have hmap:(parts.map fun (q:Nat×Operand)=>(q.1,a.eval q.2)).toList=parts.toList.map fun p=>(p.1,a.eval p.2):=by simp
  rcases hpl with ⟨fs,hu,hoffs,hinfo⟩ | ⟨n,e,hu,hn,hev,hinfo⟩
  ·have hpl:∀ i z,zs[i]?=some z→(lX 0 zs)[i]?=some (I.sizes (zs.take i),z.size):=by
    intro i z hiz;rw[FG,hiz];simp
   obtain ⟨cells',k1,k2⟩:=xk ((lX 0 zs)[·]?) _ _ zs zs' z.cells hpl hzr h hparts;have hm:fs.toList.mapM (fun f=>(c.P.info? f.type).map fun i=>(f.offset,i.size))=some (lX 0 zs):=by
    rw[←hoffs];have hall:∀ f∈fs.toList,(c.P.info? f.type).isSome=true:=fun f hf=>by
     have:=(Array.all_eq_true_iff_forall_mem.1 hinfo) f (by simpa using hf);exact this
    revert hall;generalize fs.toList=l;intro hall
    induction l with
    |nil=>rfl
    |cons f l ih =>
     obtain ⟨j,hj⟩:=zx0.1 (hall f (by simp));simp only[List.mapM_cons,Option.bind_eq_bind,hj,zz9,zv9,ih (fun g hg=>hall g (by simp[hg])),Option.pure_def,zz5,Program.cellsOf,Option.getD_some]
   have hb:c.P.built t (parts.map fun (q:Nat×Operand)=>(q.1,a.eval q.2)).toList=some cells':=by
    unfold Program.built;simp only[hi,hu,hzv,hm];rw[hmap,←k1]
    congr 1
    funext k
    simp
   exact ⟨.agg cells',by simp only[execOp,ho,Sem.run_bind,run_build w t _ _ hb];rfl,by have:=E7 k2;simpa using this⟩
  ·obtain ⟨ie,hie⟩:=zx0.1 hinfo;have hev':∀ z∈zs,z.size=ie.size:=fun z hz=>by
    have:=zx5.1 hev z hz;simpa[Program.cellsOf,hie] using this
   have hpl:∀ i z,zs[i]?=some z→(fun i=>some (i*ie.size,ie.size)) i=some (I.sizes (zs.take i),z.size):=by
    intro i z hiz;have ao:i<zs.length:=(zz7.1 hiz).1;rw[o6 zs i hev' (by omega),hev' z (List.mem_of_getElem? hiz)]
   obtain ⟨cells',k1,k2⟩:=xk (fun i=>some (i*ie.size,ie.size)) _ _ zs zs' z.cells hpl hzr h hparts;have hb:c.P.built t (parts.map fun (q:Nat×Operand)=>(q.1,a.eval q.2)).toList=some cells':=by
    unfold Program.built;simp only[hi,hu,hzv,hie];rw[hmap,←k1]
   exact ⟨.agg cells',by simp only[execOp,ho,Sem.run_bind,run_build w t _ _ hb];rfl,by have:=E7 k2;simpa using this⟩
theorem lE{a:Act}{w:World}{D:aS}{E:bf}(ab:aX c A a w D E){P:Program} : ∀ (xs:List Operand) (ts:List TypeId) (ys:List aM),kN P xs ts=some ys →
  fQ (a8 w D E) (ys.map (aj A)) (xs.map a.eval)
 | [],_,ys,h=>by simp[kN] at h;subst h;exact .nil
 |x::xs,ts,ys,h=>by
  simp only[kN] at h;split at h
  ·rename_i y ys' J U;simp only[v6] at h;subst h;exact .cons (bS ab J) (lE ab xs _ ys' U)
  ·cases h
theorem l6{w:World}{D:aS}{E:bf} : ∀ (xs:List I) (vs:List Value),fQ (a8 w D E) xs vs→(∀ x∈xs,x.bX=true)→aH w D E xs vs
 | [],vs,h,_=>by cases h;simp[aH]
 |x::xs,vs,h,hv=>by
  cases h with
  |cons J U =>
   rename_i v vs;have hx:=hv x (by simp);obtain ⟨cs,k1,k2⟩:∃ cs,bC x v cs∧al w D E x cs:=by
    cases x <;>simp[I.bX] at hx <;>exact J
   simp only[aH];exact ⟨v,vs,cs,rfl,k1,k2,l6 xs vs U (fun y hy=>hv y (by simp[hy]))⟩
theorem rn{aP:Bool}{B:ai} : ∀ {xs ys:List I},cm aP B xs=some ys→∀ x∈xs,x.bX=true
 | [],ys,_,x,hx=>by simp at hx
 |y::xs,ys,h,x,hx=>by
  simp only[cm] at h;split at h
  ·rename_i z zs J U;rcases zx3.1 hx with rfl | hx
   ·cases x <;>simp_all[br,I.bX]
   ·exact rn U x hx
  ·cases h
theorem Z4{f:FuncId}(hf:f<1000000){caps:Array Operand}{ys:List aM}(ho:o.op=.makeFunc (.func f) #[] caps)(hc:kN c.P caps.toList []=some ys)(hv:∀ y∈ys,(aj A y).bX=true):dy c A o (.func f (ys.map (aj A))) :=
 .same fun a w D E ab=>by
  have h:=l6 _ _ (lE ab caps.toList [] ys hc) (by simpa using hv);have e:caps.map a.eval=(caps.toList.map a.eval).toArray:=by apply Array.ext';simp
  refine ⟨.func (.func f) #[] (caps.toList.map a.eval).toArray,by simp[execOp,ho,Instr.makeFunc,e],⟨_,by simp[bC,I.isAgg];rfl,?_⟩⟩;simp only[al];exact ⟨_,by rw[nr hf],h⟩
theorem Z5{f:FuncId}{first:Array Operand}{ys:List aM}(ho:o.op=.makeFunc (.func f) first #[])(hc:kN c.P first.toList []=some ys)(hv:∀ y∈ys,(aj A y).bX=true):dy c A o (.func (f+1000000) (ys.map (aj A))) :=
 .same fun a w D E ab=>by
  have h:=l6 _ _ (lE ab first.toList [] ys hc) (by simpa using hv);have e:first.map a.eval=(first.toList.map a.eval).toArray:=by apply Array.ext';simp
  refine ⟨.func (.func f) (first.toList.map a.eval).toArray #[],by simp[execOp,ho,Instr.makeFunc,e],⟨_,by simp[bC,I.isAgg];rfl,?_⟩⟩;simp only[al];exact ⟨_,by rw[rp],h⟩
theorem HA{w:World}{D:aS}{E:bf} : ∀ (xs:List I) (vs:List Value),aH w D E xs vs→aN w D E xs (vs.flatMap fun v=>v.cells.toList)∧vs.length=xs.length∧∀ (sz:Nat),(∀ x∈xs,x.size=sz)→∀ v∈vs,v.cells.size=sz
 | [],vs,h=>by simp only[aH] at h;subst h;simp[aN]
 |x::xs,vs,h=>by
  simp only[aH] at h;obtain ⟨v,rest,cs,rfl,J,U,af⟩:=h;obtain ⟨k1,k2,k3⟩:=HA xs rest af;have hc:=J.cells U;refine ⟨?_,by simp[k2],fun sz hsz u hu =>?_⟩
  ·simp only[List.flatMap_cons,aN];exact ⟨_,_,rfl,by rw[hc];exact U,k1⟩
  ·rcases zx3.1 hu with rfl | hu
   ·rw[←zx6,hc,al.length _ _ U,hsz x (by simp)]
   ·exact k3 sz (fun y hy=>hsz y (by simp[hy])) u hu
def oX(A:ai)(D:aS)(E:bf):aS:=fun b o=>D b o∨∃ n T sz es cap,A.o n=some (.bV T sz es)∧E n=some (.rw (some (b,cap)) es.length)∧o<es.length*sz
theorem aX.o5{a:Act}{w:World}{D:aS}{E:bf}(h:aX c A a w D E):aX c A a w (oX A D E) E∧iP false A D E (oX A D E):=by
 have hblk:∀ {n T sz es b cap},A.o n=some (.bV T sz es)→E n=some (.rw (some (b,cap)) es.length)→c.fu b∧b<w.heap.size:=by
  intro n T sz es b cap hn aF;obtain ⟨aK,k1,k2,k3⟩:=h.bV hn;rw[aF] at k1;simp only[v6,bR.rw.injEq,and_true] at k1;subst k1;obtain ⟨cs,pre,rest,k4,k5,_⟩:=k3;exact ⟨k4,fX k5⟩
 refine ⟨h.Ie (fun _ _ ah=>.inl ah) ?_ ?_ ?_ ?_ ?_ ?_,⟨fun _ _ ah=>.inl ah,fun n T sz es b cap hn aF o ho=>.inr ⟨n,T,sz,es,cap,hn,aF,ho⟩,(fun hb=>by cases hb),fun hb=>by cases hb⟩⟩
 ·rintro b o (ah | ⟨n,T,sz,es,cap,hn,aF,ho⟩) hlt
  ·exact h.dh _ _ ah hlt
  ·exact absurd (hblk hn aF).1 hlt
 ·rintro b o (ah | ⟨n,T,sz,es,cap,hn,aF,ho⟩)
  ·exact h.aU _ _ ah
  ·exact (hblk hn aF).2
 ·rintro m x b hm hEm o (ah | ⟨n,T,sz,es,cap,hn,aF,ho⟩)
  ·obtain ⟨b2,cs2,s9,q1,q2,q3,q4,q5⟩:=h.box hm;rw[q1] at hEm;simp only[v6,bR.aP.injEq,and_true] at hEm;subst hEm;exact q5 o ah
  ·have:=h.cU m n _ _ b hEm aF rfl rfl;subst this;rw[hm] at hn;cases hn
 ·rintro m T' sz' es' b cap' hm hEm o (ah | ⟨n,T,sz,es,cap,hn,aF,ho⟩)
  ·obtain ⟨aK,q1,q2,q3⟩:=h.bV hm;rw[hEm] at q1;simp only[v6,bR.rw.injEq,and_true] at q1;subst q1;obtain ⟨cs',pre',rest',q4,q5,q6,q7,q8,q9,q10,q11⟩:=q3;have:=q11 o ah
   rwa [aN.length _ _ q7,I.iM _ q2] at this
  ·have:=h.cU m n _ _ b hEm aF rfl rfl;subst this;rw[hm] at hn;simp only[v6,aq.bV.injEq] at hn;obtain ⟨rfl,rfl,rfl⟩:=hn;exact ho
 ·rintro m T' xs b cap' hm hEm o (ah | ⟨n,T,sz,es,cap,hn,aF,ho⟩)
  ·obtain ⟨aK,q1,_,q3⟩:=h.sH hm;rw[hEm] at q1;simp only[v6,bR.rw.injEq,and_true] at q1;subst q1;obtain ⟨_,_,_,_,_,_,_,_,q4⟩:=q3;exact q4 o ah
  ·have:=h.cU m n _ _ b hEm aF rfl rfl;subst this;rw[hm] at hn;cases hn
 ·rintro m e' b hE' hoth hblk o (ah | ⟨n,T,sz,es,cap,hn,aF,ho⟩)
  ·exact h.yJ hE' hoth hblk o ah
  ·have:=h.cU m n _ _ b hE' aF hblk rfl;subst this;rw[hE'] at aF;cases aF;cases hoth
theorem FE{a:Act}{w:World}{D:aS}{E:bf}(ab:aX c A a w D E){P:Program} : ∀ (ps:List (Nat×Operand)) (qs:List (Nat×aM)),lF P ps=some qs →
  fQ (a8 w D E) ((qs.map (·.2)).map (aj A)) (ps.map fun p=>a.eval p.2)∧qs.map (·.1)=ps.map (·.1)
 | [],qs,h=>by simp[lF] at h;subst h;exact ⟨.nil,rfl⟩
 |(i,x)::ps,qs,h=>by
  simp only[lF,List.mapM_cons,Option.bind_eq_bind,Option.pure_def,zv6,t8,v6] at h;obtain ⟨_,⟨y,hy,rfl⟩,qs',hq,rfl⟩:=h;obtain ⟨J,U⟩:=FE ab ps qs' hq;exact ⟨.cons (bS ab hy) J,by simp[U]⟩
theorem aX.newRow{a:Act}{w:World}{D:aS}{E:bf}(h:aX c A a w D E)(o:Obj):aX c A a (w.alloc o) (fun b k=>D b k∨b=w.heap.size) E:=by
 refine h.grow (qT w o) (fun _ _ ah=>.inl ah) ?_ ?_
 ·rintro b k (ah | rfl) hlt
  ·exact ah
  ·omega
 ·rintro b k (ah | rfl)
  ·have:=h.aU _ _ ah;simp;omega
  ·simp
theorem aex{α:Type}(ps:List (Nat×α))(h:ps.map (·.1)=List.range ps.length):ps=((ps.map (·.2)).zipIdx 0).map fun x=>(x.2,x.1):=by
 apply List.ext_getElem?;intro k;rw[zx4,List.getElem?_zipIdx,zx4];cases hk:ps[k]? with
 |none=>simp
 |some p =>
  have ao:k<ps.length:=(zz7.1 hk).1;have:=congrArg (·[k]?) h;simp only[zx4,hk,zz9,List.getElem?_range ao,v6] at this;simp[←this]
theorem ZM{t e:TypeId}{len:Nat}{parts:Array (Nat×Operand)}{ps:List (Nat×aM)}{es:List I}(ho:o.op=.buildSlice t len parts)(hu:c.P.underlying t=some (.slice e))(hp:lF c.P parts.toList=some ps)
  (hr:ps.map (·.1)=List.range len) (aR:0<c.P.cellsOf e) (hlen:0<len) (hsm:len*c.P.cellsOf e≤16777216) (hz:((c.P.info? e).bind (·.zero)).isSome=true)
  (hes:cm false A ((ps.map (·.2)).map (aj A))=some es) (hev:∀ x∈es,x.size=c.P.cellsOf e) (hcl:I.cv es=true):dy c A o (.slice (c.P.cellsOf e) es):=by
 intro a w D E ab;obtain ⟨hfor,hidx⟩:=FE ab parts.toList ps hp;obtain ⟨hs1,hw⟩:=ab.o5;have hrv:=mw (E':=E) ab (fun _ _ h=>h) hw _ es _ (l6 _ _ hfor (rn hes)) hes;obtain ⟨k1,k2,k3⟩:=HA es _ hrv;have k3:=k3 _ hev;have ao:parts.toList.length=len:=by
  have:=congrArg List.length hidx;rw[hr] at this;simpa using this.symm
 have hesl:es.length=len:=by rw[←k2];simp[ao]
 obtain ⟨z,hz⟩:=zx0.1 hz;obtain ⟨ie,hie,hzz⟩:=zv6.1 hz;have hsz:ie.size=c.P.cellsOf e:=by simp[Program.cellsOf,hie]
 -- the literal's cells
 have hfill:Instr.fill (fun i=>some (i*ie.size,ie.size)) ((Array.range (len*ie.size)).map (z.cells[· % z.cells.size]!)) (parts.map fun (q:Nat×Operand)=>(q.1,a.eval q.2)).toList =
   some ((parts.toList.map fun p=>a.eval p.2).flatMap fun v=>v.cells.toList).toArray:=by
  have hpz:(parts.map fun (q:Nat×Operand)=>(q.1,a.eval q.2)).toList=((parts.toList.map fun p=>a.eval p.2).zipIdx 0).map fun x=>(x.2,x.1):=by
   have:=aex (parts.toList.map fun (q:Nat×Operand)=>(q.1,a.eval q.2)) (by simp only[List.map_map,zz6];rw[ao,←hr,hidx];rfl);rw[Array.toList_map,this,List.map_map];rfl
  rw[hpz,hsz];exact Great.fill_whole aR _ _ (fun v hv=>k3 v hv) (by simp[ao])
 have hrun:=run_buildSlice (P:=c.P) w t e len (parts.map fun (q:Nat×Operand)=>(q.1,a.eval q.2)) _ ie z hu hie hzz (by rw[hsz];omega) (by rw[hsz];exact Nat.ne_of_gt (Nat.mul_pos hlen aR)) hfill;generalize hcells:((parts.toList.map fun p=>a.eval p.2).flatMap fun v=>v.cells.toList)=cells at *;have hs2:=hs1.newRow (.cells cells.toArray e);refine ⟨_,_,_,by simp only[execOp,ho,Sem.run_bind];rw[hrun];rfl,hs2,uw hesl.symm (zz3 _) ?_ (.inr ⟨w.heap.size,0,cells,rfl,?_,?_⟩) hev⟩
 ·unfold maxLen;have:len≤len*c.P.cellsOf e:=Nat.le_mul_of_pos_right _ aR;omega
 ·intro j v hj;refine ⟨?_,.inr rfl⟩;rw[zz4];have:=World.cell?_alloc_new w cells.toArray e j;rw[this];simpa using hj
 ·refine aN.later ?_ es cells k1;exact ef.grow (qT w _) (fun _ _ ah=>.inl ah)
end
mutual
theorem pJ:∀ (ty:cK) (x y:I) (r:Bool),cj ty x y=some r→x.size=ty.size∧y.size=ty.size
 | .i k,x,y,r,h=>by
  simp only[cj] at h;split at h
  ·simp[I.size,cK.size]
  ·cases h
 | .b,x,y,r,h=>by
  simp only[cj] at h;split at h
  ·simp[I.size,cK.size]
  ·cases h
 | .s,x,y,r,h=>by
  simp only[cj] at h;split at h
  ·simp[I.size,cK.size]
  ·cases h
 | .bh l,x,y,r,h=>by
  simp only[cj] at h;split at h
  ·simp only[I.size,cK.size];exact CN l _ _ r h
  ·cases h
 | .qS n e,x,y,r,h=>by
  simp only[cj] at h;split at h
  ·rename_i fs gs;split at h
   ·rename_i ao;simp only[I.size,cK.size];have:∀ (fs gs:List I) (r:Bool),fs.length=gs.length→(fs.zip gs).foldr (fun p acc=>jE (cj e p.1 p.2) acc) (some true)=some r→I.sizes fs=fs.length*e.size∧I.sizes gs=fs.length*e.size:=by
     intro fs
     induction fs with
     |nil=>intro gs r ao _;cases gs with | nil=>simp[I.sizes] | cons _ _=>simp at ao
     |cons f fs ih =>
      intro gs r ao h;cases gs with
      |nil=>simp at ao
      |cons g gs =>
       simp only[List.zip_cons_cons,List.foldr_cons] at h;unfold jE at h;split at h
       ·rename_i a b J U;obtain ⟨k1,k2⟩:=ih gs b (by simpa using ao) U;obtain ⟨k3,k4⟩:=pJ e f g a J;simp only[I.sizes,zx8,k1,k2,k3,k4,Nat.add_mul,Nat.one_mul];omega
       ·cases h
    obtain ⟨k1,k2⟩:=this fs gs r (by omega) h;rw[k1,k2,ao.1];exact ⟨rfl,rfl⟩
   ·cases h
  ·cases h
theorem CN:∀ (l:List cK) (xs ys:List I) (r:Bool),iD l xs ys=some r→I.sizes xs=cK.sizes l∧I.sizes ys=cK.sizes l
 | [],xs,ys,r,h=>by
  simp only[iD] at h;split at h
  ·simp[I.sizes,cK.sizes]
  ·cases h
 |t::ts,xs,ys,r,h=>by
  simp only[iD] at h;split at h
  ·rename_i f fs g gs;unfold jE at h;split at h
   ·rename_i a b J U;obtain ⟨k1,k2⟩:=pJ t f g a J;obtain ⟨k3,k4⟩:=CN ts fs gs b U;simp only[I.sizes,cK.sizes,k1,k2,k3,k4];exact ⟨trivial,trivial⟩
   ·cases h
  ·cases h
end
section
variable {P:Program} {w:World} {D:aS} {E:bf}
theorem wZ{d:Nat}{t:TypeId}{ty:cK}(h:hd P d t=some ty)(ab:ty.size=P.cellsOf t){x y:I}{r:Bool}(hr:cj ty x y=some r):∃ s,gl P t=some s∧ca s x=true∧ca s y=true:=by
 have hsz:=pJ ty x y r hr;cases d with
 |zero=>simp[hd] at h
 |succ d =>
  simp only[hd] at h;split at h
  ·rename_i k hu;simp only[v6] at h;subst h;simp only[cj] at hr;split at hr
   ·exact ⟨none,by simp[gl,hu],by simp[ca,I.isAgg],by simp[ca,I.isAgg]⟩
   ·cases hr
  ·rename_i hu;simp only[v6] at h;subst h;simp only[cj] at hr;split at hr
   ·exact ⟨none,by simp[gl,hu],by simp[ca,I.isAgg],by simp[ca,I.isAgg]⟩
   ·cases hr
  ·rename_i hu;simp only[v6] at h;subst h;simp only[cj] at hr;split at hr
   ·exact ⟨none,by simp[gl,hu],by simp[ca,I.isAgg],by simp[ca,I.isAgg]⟩
   ·cases hr
  ·rename_i fs hu;split at h
   ·simp only[t8] at h;obtain ⟨l,_,rfl⟩:=h;simp only[cj] at hr;split at hr
    ·exact ⟨some (P.cellsOf t),by simp[gl,hu],by simp[ca,I.isAgg,hsz.1,ab],by simp[ca,I.isAgg,hsz.2,ab]⟩
    ·cases hr
   ·cases h
  ·rename_i n e hu;split at h
   ·split at h
    ·simp only[v6] at h;subst h;simp only[cj] at hr;split at hr
     ·exact ⟨some (P.cellsOf t),by simp[gl,hu],by simp[ca,I.isAgg,hsz.1,ab],by simp[ca,I.isAgg,hsz.2,ab]⟩
     ·cases hr
    ·cases h
   ·cases h
  ·cases h
theorem CP{k:Nat}{g:Field→Option cK}(hg:∀ (f:Field) (ty:cK),g f=some ty→ty.size=P.cellsOf f.type∧∃ d,hd P d f.type=some ty ∧
   ∀ (x y:I) (u v:Value) (r:Bool),a8 w D E x u→a8 w D E y v→cj ty x y=some r→(Op.equalIn k f.type u v).run P w=.ok r w) :
  ∀ (fs : List Field) (l : List cK) (xs ys : List I) (r : Bool) (c1 c2 d1 d2 : List Value), fs.mapM g = some l → (∀ f ∈ fs, f.name ≠ "_") → qj P c1.length fs = true → c1.length = d1.length →
   aN w D E xs c2→aN w D E ys d2→iD l xs ys=some r→(Op.eqFields k (c1++c2).toArray (d1++d2).toArray fs).run P w=.ok r w
 | [],l,xs,ys,r,c1,c2,d1,d2,hm,_,_,_,_,_,h=>by
  simp at hm;subst hm;simp only[iD] at h;split at h
  ·simp only[v6] at h;subst h;simp[Op.eqFields]
  ·cases h
 |f::fs,l,xs,ys,r,c1,c2,d1,d2,hm,hn,ho,ao,hx,hy,h=>by
  simp only[List.mapM_cons,Option.bind_eq_bind,Option.pure_def,zv6,v6] at hm;obtain ⟨ty,hty,tys,htys,rfl⟩:=hm;simp only[iD] at h;split at h
  case h_2=>cases h
  rename_i x xs y ys;unfold jE at h;split at h
  case h_2=>cases h
  rename_i ra rb J U;simp only[v6] at h;subst h;simp only[aN] at hx hy;obtain ⟨e1,e2,rfl,k1,k2⟩:=hx;obtain ⟨f1,f2,rfl,k3,k4⟩:=hy;obtain ⟨hsz,dd,ah,heq⟩:=hg f ty hty;obtain ⟨s,q1,q2,q3⟩:=wZ ah hsz J;obtain ⟨u,p1,p2⟩:=oY (c1:=c1) (c3:=e2) q1 q2 k1;obtain ⟨v,p3,p4⟩:=oY (c1:=d1) (c3:=f2) q1 q3 k3;simp only[qj,zz0,beq_iff_eq] at ho;have hsx:=pJ ty x y ra J;have hle:e1.length=P.cellsOf f.type:=by rw[al.length _ _ k1,hsx.1,hsz]
  have hlf:f1.length=P.cellsOf f.type:=by rw[al.length _ _ k3,hsx.2,hsz]
  have ih:=CP hg fs tys xs ys rb (c1++e1) e2 (d1++f1) f2 htys (fun g hg=>hn g (by simp[hg])) (by simp only[zz8,hle];exact ho.2) (by simp[ao,hle,hlf]) k2 k4 U;rw[zy3] at p1 p3;rw[zy3,zy3] at ih;rw[←ho.1] at p1;rw[←ao,←ho.1] at p3;simp only[Op.eqFields,hn f (by simp),ne_eq,not_false_eq_true,if_true,Sem.run_bind,p1,Result.andThen_ok,p3,heq x y u v ra p2 p4 J];cases ra
  ·simp
  ·simpa using ih
theorem CQ{d:Nat}{e:TypeId}{ty:cK}{dd:Nat}(hty:hd P dd e=some ty)(hsz:ty.size=P.cellsOf e)
  (heq:∀ (x y:I) (u v:Value) (r:Bool),a8 w D E x u→a8 w D E y v→cj ty x y=some r→(Op.equalIn d e u v).run P w=.ok r w) :
  ∀ (m k:Nat) (xs ys:List I) (c1 c2 d1 d2:List Value) (r:Bool),xs.length=m→ys.length=m→c1.length=k*P.cellsOf e→d1.length=k*P.cellsOf e→aN w D E xs c2→aN w D E ys d2 →
   (xs.zip ys).foldr (fun p acc=>jE (cj ty p.1 p.2) acc) (some true)=some r→(Op.eqItems d e (P.cellsOf e) (c1++c2).toArray (d1++d2).toArray (List.range' k m)).run P w=.ok r w
 |0,k,xs,ys,c1,c2,d1,d2,r,hx,hy,_,_,_,_,h=>by
  have e1:=List.eq_nil_of_length_eq_zero hx;subst e1;simp only[List.zip_nil_left,List.foldr_nil,v6] at h;subst h;simp[Op.eqItems]
 |m+1,k,xs,ys,c1,c2,d1,d2,r,hx,hy,hc,ah,hrx,hry,h=>by
  cases xs with
  |nil=>simp at hx
  |cons x xs =>
  cases ys with
  |nil=>simp at hy
  |cons y ys =>
  simp only[List.zip_cons_cons,List.foldr_cons] at h;unfold jE at h;split at h
  case h_2=>cases h
  rename_i ra rb J U;simp only[v6] at h;subst h;simp only[aN] at hrx hry;obtain ⟨e1,e2,rfl,k1,k2⟩:=hrx;obtain ⟨f1,f2,rfl,k3,k4⟩:=hry;obtain ⟨s,q1,q2,q3⟩:=wZ hty hsz J;obtain ⟨u,p1,p2⟩:=oY (c1:=c1) (c3:=e2) q1 q2 k1;obtain ⟨v,p3,p4⟩:=oY (c1:=d1) (c3:=f2) q1 q3 k3;have hsx:=pJ ty x y ra J;have hle:e1.length=P.cellsOf e:=by rw[al.length _ _ k1,hsx.1,hsz]
  have hlf:f1.length=P.cellsOf e:=by rw[al.length _ _ k3,hsx.2,hsz]
  have ih:=CQ hty hsz heq m (k+1) xs ys (c1++e1) e2 (d1++f1) f2 rb (by simpa using hx) (by simpa using hy) (by simp only[zz8,hle,hc,Nat.add_mul,Nat.one_mul]) (by simp only[zz8,hlf,ah,Nat.add_mul,Nat.one_mul]) k2 k4 U;rw[zy3] at p1 p3;rw[zy3,zy3] at ih;rw[hc] at p1;rw[ah] at p3;simp only[List.range'_succ,Op.eqItems,Sem.run_bind,p1,Result.andThen_ok,p3,heq x y u v ra p2 p4 J];cases ra
  ·simp
  ·simpa using ih
theorem tJ:∀ (d:Nat) (t:TypeId) (ty:cK),hd P d t=some ty→∀ (x y:I) (u v:Value) (r:Bool),a8 w D E x u→a8 w D E y v→cj ty x y=some r→∀ dep,d≤dep→(Op.equalIn dep t u v).run P w=.ok r w
 |0,t,ty,h,_,_,_,_,_,_,_,_,_,_=>by simp[hd] at h
 |d+1,t,ty,h,x,y,u,v,r,hx,hy,hr,dep,hdep=>by
  obtain ⟨k,rfl⟩:∃ k,dep=k+1:=⟨dep-1,by omega⟩
  simp only[hd] at h;split at h
  ·rename_i kk hu;simp only[v6] at h;subst h;simp only[cj] at hr;split at hr
   ·split at hr
    ·simp only[v6] at hr;subst hr;rw[(eJ hx).1,(eJ hy).1];rename_i hk;rw[hk.1,hk.2];exact run_equalIn_int w k t kk kk _ _ hu
    ·cases hr
   ·cases hr
  ·rename_i hu;simp only[v6] at h;subst h;simp only[cj] at hr;split at hr
   ·simp only[v6] at hr;subst hr;rw[lg hx,lg hy];exact run_equalIn_bool' w k t _ _ hu
   ·cases hr
  ·rename_i hu;simp only[v6] at h;subst h;simp only[cj] at hr;split at hr
   ·simp only[v6] at hr;subst hr;rw[(iw hx).1,(iw hy).1];exact run_equalIn_string w k t _ _ hu
   ·cases hr
  ·rename_i fs hu;split at h
   ·rename_i hc;simp only[t8] at h;obtain ⟨l,ao,rfl⟩:=h;simp only[cj] at hr;split at hr
    ·obtain ⟨cs,rfl,J⟩:=jP hx;obtain ⟨ds,rfl,U⟩:=jP hy;have hf:P.fieldsOf t=fs:=by simp[Program.fieldsOf,hu]
     rw[run_equalIn_struct w k t _ _ (by rw[hf];exact hu) hc.1,hf];refine CP (g:=fun f=>match hd P d f.type with | some ty=>if ty.size=P.cellsOf f.type then some ty else none | none=>none) (fun f ty hg =>?_) fs.toList l _ _ r [] cs [] ds ao (fun f hf =>?_) hc.2.2 rfl J U hr
     ·split at hg
      ·rename_i ty' hty;split at hg
       ·rename_i ab;simp only[v6] at hg;subst hg;exact ⟨ab,d,hty,fun x y u v r hx hy hr=>tJ d f.type _ hty x y u v r hx hy hr k (by omega)⟩
       ·cases hg
      ·cases hg
     ·have:=zx5.1 hc.2.1 f hf;simpa using this
    ·cases hr
   ·cases h
  ·rename_i n e hu;split at h
   ·rename_i ty' hty;split at h
    ·rename_i hc;simp only[v6] at h;subst h;simp only[cj] at hr;split at hr
     ·split at hr
      ·rename_i ao;obtain ⟨cs,rfl,J⟩:=jP hx;obtain ⟨ds,rfl,U⟩:=jP hy;obtain ⟨i,hi⟩:=zx0.1 hc.2;rw[run_equalIn_array w k _ _ hu hi,List.range_eq_range'];exact CQ hty hc.1 (fun x y u v r hx hy hr=>tJ d e _ hty x y u v r hx hy hr k (by omega)) n 0 _ _ [] cs [] ds r ao.1 ao.2 (by simp) (by simp) J U hr
      ·cases hr
     ·cases hr
    ·cases h
   ·cases h
  ·cases h
end
section
variable {c:cV} {A:ai} {o:Oper} {x:I}
theorem adE{P:Program}{w:World}{D:aS}{E:bf}(op:BinOp)(t:TypeId)(x y:Operand){a b:I}{ty:cK}{r:Bool}{u v:Value}(hr:cj ty a b=some r)(hx:a8 w D E a u)(hm:P.eqGuardType P.depth t=false) :
  (eqGuard op t x y u v).run P w=.ok () w:=by
 have:u.oneCell'=true∧u≠.nilIface∨∃ cs,u=.agg cs:=by
  cases ty <;>simp only[cj] at hr <;>split at hr <;>first
   |(cases hr;done)
   |(left;rw[(eJ hx).1];exact ⟨rfl,by simp⟩)
   |(left;rw[lg hx];exact ⟨rfl,by simp⟩)
   |(left;rw[(iw hx).1];exact ⟨rfl,by simp⟩)
   |(right;obtain ⟨cs,h,_⟩:=jP hx;exact ⟨_,h⟩)
 rcases this with ⟨J,U⟩ | ⟨cs,rfl⟩
 ·exact zj op t x y J U
 ·cases op <;>cases v <;>simp[eqGuard,run_program,hm]
theorem J9{P:Program}{w:World}{D:aS}{E:bf}{neg:Bool}{t:TypeId}{a b:I}{ty:cK}{r:Bool}{u v:Value}(hr:cj ty a b=some r)(hx:a8 w D E a u)(hy:a8 w D E b v){dt:Nat}(hdt:dt≤10000)(hty:hd P dt t=some ty) :
  (binOp (if neg then .neq else .eql) t u v).run P w=.ok (.bool (if neg then !r else r)) w:=by
 have he:=tJ (w:=w) (D:=D) (E:=E) dt t ty hty a b u v r hx hy hr 10000 hdt;cases ty <;>simp only[cj] at hr <;>split at hr <;>first | (cases hr;done) | skip
 ·rw[(eJ hx).1,(eJ hy).1] at *;split at hr
  ·rename_i hk;simp only[v6] at hr;subst hr;rw[hk.1,hk.2];cases neg <;>simp[binOp,Op.intCmp,bne]
  ·cases hr
 ·have e1:=lg hx;have e2:=lg hy;subst e1 e2;cases neg <;>simp only[binOp,if_true,zz2,if_false] <;>simp[Op.equal,Op.maxDepth,he]
 ·rw[(iw hx).1,(iw hy).1] at *;simp only[v6] at hr;subst hr;cases neg <;>simp[binOp,Op.stringOp]
 ·obtain ⟨cs,rfl,_⟩:=jP hx;obtain ⟨ds,rfl,_⟩:=jP hy;cases neg <;>simp only[if_true,zz2,if_false]
  ·rw[run_eql_struct,he];rfl
  ·rw[run_neq_struct,he];rfl
 ·obtain ⟨cs,rfl,_⟩:=jP hx;obtain ⟨ds,rfl,_⟩:=jP hy;cases neg <;>simp only[if_true,zz2,if_false]
  ·rw[run_eql_struct,he];rfl
  ·rw[run_neq_struct,he];rfl
theorem ZR{neg:Bool}{t yt:TypeId}{y z:Operand}{y' z':aM}{ty:cK}{r:Bool}(ho:o.op=.binOp (if neg then .neq else .eql) t y z yt)(hy:bq c.P 0 y=some y')(hz:bq c.P 0 z=some z')(hg:c.P.eqGuardType c.P.depth t=false)
  (hty:hd c.P 12 t=some ty) (h:cj ty (aj A y') (aj A z')=some r):dy c A o (.bool (if neg then !r else r)) :=
 .same fun a w D E ab=>by
  have J:=bS ab hy;have U:=bS ab hz;refine ⟨_,?_,mF _⟩;simp only[execOp,ho,Sem.run_bind,adE _ t y z h J hg,Result.andThen_ok,J9 h J U (dt:=12) (by omega) hty];rfl
theorem xM{neg:Bool}{t yt e:TypeId}{y z:Operand}{y':aM}{sz:Nat}{r:Bool}(ho:o.op=.binOp (if neg then .neq else .eql) t y z yt)(hu:c.P.underlying t=some (.slice e))(hy:bq c.P 0 y=some y')(hz:bq c.P 0 z=some (.c (.nils sz)))
  (h:(∃ s,aj A y'=.nils s∧r=true)∨(∃ s es,aj A y'=.slice s es∧es≠[]∧r=false)∨(∃ n p s lo k,aj A y'=.view n p s lo k∧r=false)):dy c A o (.bool (if neg then !r else r)) :=
 .same fun a w D E ab=>by
  have J:=bS ab hy;have U:a8 w D E (.nils sz) (a.eval z):=bS ab hz;have hv:a.eval z=.slice none 0 0:=by
   obtain ⟨cs,q1,q2⟩:=U;simp only[al] at q2;simpa[bC,I.isAgg,q2] using q1.symm
  have hu':(∃ ad n cp,a.eval y=.slice ad n cp∧r=ad.isNone):=by
   rcases h with ⟨s,h,rfl⟩ | ⟨s,es,h,hne,rfl⟩ | ⟨n,p,s,lo,k,h,rfl⟩
   ·rw[h] at J;obtain ⟨cs,q1,q2⟩:=J;simp only[al] at q2;exact ⟨none,0,0,by simpa[bC,I.isAgg,q2] using q1.symm,rfl⟩
   ·rw[h] at J;obtain ⟨ad,cap,e1,_,_,e4,_⟩:=nP J;rcases e4 with e4 | ⟨b,off,cs,rfl,_,_⟩
    ·exact absurd e4 hne
    ·exact ⟨_,_,_,e1,rfl⟩
   ·rw[h] at J;obtain ⟨cs,q1,q2⟩:=J;simp only[al] at q2;obtain ⟨b,bg,off,l,_,_,_,q2,_⟩:=q2;exact ⟨_,_,_,by simpa[bC,I.isAgg,q2] using q1.symm,rfl⟩
  obtain ⟨ad,n,cp,hyv,rfl⟩:=hu';have he:∀ d,(Op.equalIn (d+1) t (.slice ad n cp) (.slice none 0 0)).run c.P w=.ok ad.isNone w:=fun d=>by
   cases ad <;>simp[Op.equalIn,run_underlying hu]
  refine ⟨.bool (if neg then !ad.isNone else ad.isNone),?_,mF _⟩;cases neg <;>simp only[execOp,ho,hyv,hv,if_true,zz2,if_false,Sem.run_bind,eqGuard] <;>simp[binOp,Op.equal,Op.maxDepth,he]
end
def iO(c:cV)(A:ai)(o:Oper)(B:ai):Prop :=
 ∀ a w D E,aX c A a w D E→∃ w',((∃ v,(execOp a.eval o).run c.P w=.ok (.value v) w'∧cd c B (a.put o.dst v) w')∨((execOp a.eval o).run c.P w=.ok .skip w'∧cd c B (a.put o.dst undef) w'))
section
variable {c:cV} {A:ai} {o:Oper} {x:I}
theorem dy.does(h:dy c A o x)(ah:∀ k,o.dst=some k→k<c.n):iO c A o (A.aW o.dst x):=by
 intro a w D E ab;obtain ⟨v,w',D',J,U,af⟩:=h a w D E ab;exact ⟨w',.inl ⟨v,J,D',E,U.aW ah af⟩⟩
theorem O4{t:TypeId}{z:I}{d:Nat}(ho:o.op=.alloc t)(hz:gF c.P t=some z)(ah:o.dst=some d)(hn:d<c.n)(hf:A.o d=none):iO c A o ((A.aT d (.box z)).put d (.ptr d [])):=by
 intro a w D E ab;obtain ⟨i,zv,hi,hzv,hzr⟩:=me hz;have J:=ab.rX (T:=t) (.inl hn) hf (hzr w D E);have U:=J.put (x:=.ptr d []) (v:=.pointer (some ⟨w.heap.size,0,none⟩)) hn ⟨_,by simp[bC,I.isAgg];rfl,by
  simp only[al,if_true];exact ⟨w.heap.size,z.bg,0,rfl,by cases z.bg <;>simp[cW.off],rfl⟩⟩
 exact ⟨w.alloc (.cells zv.cells t),.inl ⟨.pointer (some ⟨w.heap.size,0,none⟩),by simp[execOp,ho,Instr.alloc,zeroValue,typeInfo,hi,hzv,newVar,newRow],D,_,by rw[ah];exact U⟩⟩
theorem O9{t:TypeId}{y:Operand}{y':aM}{d:Nat}(ho:o.op=.box t y)(hy:bq c.P t y=some y')(hv:(aj A y').bX=true)(ah:o.dst=some d)(hn:d<c.n)(hf:A.o d=none) :
  iO c A o ((A.aT d (.box (aj A y'))).put d (.ptr d [])):=by
 intro a w D E ab;obtain ⟨cs,k1,k2⟩:∃ cs,bC (aj A y') (a.eval y) cs∧al w D E (aj A y') cs:=by
  have h:=bS ab hy;generalize aj A y'=z at *;cases z <;>simp[I.bX] at hv <;>exact h
 have hc:=k1.cells k2;rw[←hc] at k2;have J:=ab.rX (T:=t) (.inl hn) hf k2;have U:=J.put (x:=.ptr d []) (v:=.pointer (some ⟨w.heap.size,0,none⟩)) hn ⟨_,by simp[bC,I.isAgg];rfl,by
  simp only[al,if_true];exact ⟨w.heap.size,(aj A y').bg,0,rfl,by cases (aj A y').bg <;>simp[cW.off],rfl⟩⟩
 exact ⟨w.alloc (.cells (a.eval y).cells t),.inl ⟨.pointer (some ⟨w.heap.size,0,none⟩),by simp[execOp,ho,Instr.box,newVar,newRow],D,_,by rw[ah];exact U⟩⟩
theorem Pg{t:TypeId}{y z:Operand}{y' z':aM}{s:Option Nat}{n:Nat}{p:List Nat}{b old:I}(ho:o.op=.store t y z)(hk:gl c.P t=some s)(hk1:s.isSome=true∨c.P.cellsOf t=1)(hy:bq c.P 0 y=some y')(hz:bq c.P t z=some z')
  (hp:aj A y'=.ptr n p) (hb:A.o n=some (.box b)) (hat:b.at p=some old) (hv:(aj A z').bX=true) (hok:ca s (aj A z')=true) (hsh:(aj A z').bg=old.bg) (ah:o.dst=none) :
  iO c A o (A.aT n (.box (b.ev p (aj A z')))):=by
 intro a w D E ab;have J:=bS ab hy;rw[hp] at J;obtain ⟨bb,bg,off,U,af,ar⟩:=l5 J;obtain ⟨b',cs,T,k1,k2,k3,k4,k5⟩:=ab.box hb;rw[k1] at U;simp only[v6,bR.aP.injEq] at U;obtain ⟨rfl,rfl⟩:=U;obtain ⟨ds,q1,q2⟩:∃ ds,bC (aj A z') (a.eval z) ds∧al w D E (aj A z') ds:=by
  have h:=bS ab hz;generalize aj A z'=zz at *;cases zz <;>simp[I.bX] at hv <;>exact h
 have hc:=q1.cells q2;obtain ⟨off',p1,p2,p3,p4⟩:=uU p b old _ _ ds k4 hat q2 hsh;rw[af,v6] at p1;subst p1;have ao:=al.length _ _ q2;obtain ⟨i,hi⟩:=uh hk;have hsz:ds.length=c.P.cellsOf t:=by
  cases s with
  |none =>
   simp only[ca,Bool.not_eq_true'] at hok;have:(aj A z').size=1:=by generalize aj A z'=zz at *;cases zz <;>simp_all[I.isAgg,I.size]
   rw[ao,this];rcases hk1 with h | h
   ·cases h
   ·exact h.symm
  |some m =>
   simp only[ca,zz0,beq_iff_eq] at hok;rw[ao,hok.2,xZ hk]
 have hcs:(a.eval z).cells.size=ds.length:=by rw[←hc,zx6]
 have hrun:=run_storeCells_at c.P b' off T ds 0 cs w k3 (by rw[zx6] at p2;omega) (al.mI _ _ q2);simp only[Nat.add_zero] at hrun;have hs2:=ab.zu (y:=b.ev p (aj A z')) (cs':=(cs.toList.take off++ds++cs.toList.drop (off+ds.length)).toArray) hb k1 p4 (by simpa using p3);refine ⟨w.setRow b' (cs.toList.take off++ds++cs.toList.drop (off+ds.length)).toArray,.inr ⟨?_,D,E,?_⟩⟩
 ·have e:(a.eval z).cells.toList=ds:=hc;have hg:¬ (a.eval z).cells.size≠c.P.cellsOf t:=by rw[hcs,hsz];simp
  simp only[execOp,ho,ar,Instr.storeAt,Instr.sureAddr,storeVar,Sem.run_bind,Sem.run_pure,Result.andThen_ok,jw hi,Sem.run_ite,if_neg hg,e,hrun]
 ·rw[ah];exact hs2
end
section
variable {c:cV} {A:ai} {a:Act} {w:World} {D:aS} {E:bf}
theorem aX.Dc(h:aX c A a w D E){n:Nat}{T:TypeId}{sz cap:Nat}{es ys:List I}{pre news rest:List Value}{cs:Array Value}{aK:Option (Nat×Nat)}(hn:A.o n=some (.bV T sz es))(aF:E n=some (.rw aK es.length))(hes:aN w D E es pre)
  (hys:aN w D E ys news) (hysz:∀ e∈ys,e.size=sz) (hne:ys≠[]) (hcs:cs.toList=(pre++news)++rest) (hsize:cs.size=cap*sz) (hlen:es.length+ys.length≤cap) (hcap:cap≤maxLen) :
  aX c (A.aT n (.bV T sz (es++ys))) a (w.drew.alloc (.cells cs T)) D (fun m=>if m=n then some (.rw (some (w.heap.size,cap)) (es.length+ys.length)) else E m):=by
 have hlast:0<ys.length:=zv4.2 hne;have hheap:∀ b,b<w.heap.size→(w.drew.alloc (.cells cs T)).heap[b]?=w.heap[b]?:=fun b hb=>Below.heap_alloc w.drew _ b hb;have ao:ef w D E (w.drew.alloc (.cells cs T)) D (fun m=>if m=n then some (.rw (some (w.heap.size,cap)) (es.length+ys.length)) else E m):=by
  have e9:∀ {m:Nat} {e:bR},E m=some e→e.eG=true→(if m=n then some (.rw (some (w.heap.size,cap)) (es.length+ys.length)) else E m)=some e:=fun {m e} he hfx=>by
   have:m≠n:=fun e=>by rw[e,aF] at he;cases he;cases hfx
   rw[if_neg this];exact he
  refine ⟨fun _ _ h=>h,fun b o v _ hv =>?_,fun m b bg he=>e9 he rfl,fun m blk' l he =>?_,fun m b he=>e9 he rfl,fun m b he=>e9 he rfl,fun b es ck _ hm=>(hheap b (fX hm)).trans hm⟩
  ·rw[World.cell?_of_block (hheap b (World.block_lt_of_cell? w _ hv))];exact hv
  ·by_cases hm:m=n
   ·subst hm;rw[aF] at he;simp only[v6,bR.rw.injEq] at he;exact ⟨_,_,if_pos rfl,by omega,fun e=>by omega⟩
   ·exact ⟨blk',l,by simp only[if_neg hm];exact he,zz3 _,fun _=>rfl⟩
 have hown:=h.bU n;rw[hn] at hown;obtain ⟨blk1,hb1,hb2,_⟩:=hown;refine ⟨h.sz,h.eS.mono fun B _ hB=>(hheap B (zy4.1 hB).1).trans hB,fun t=>a8.later ao (h.eb t),h.dZ.trans ⟨rfl,rfl,rfl,by simp,fun k hk=>hheap k (h.old hk)⟩,h.dh,fun b o hd'=>by have:=h.aU b o hd';simp;omega,fun m =>?_,?_,fun m e hm =>?_,h.fe,h.cX,h.fp,h.lp ao⟩
 ·simp only[ai.aT];by_cases hm:m=n
  ·subst hm;simp only[if_true,dc];refine ⟨some (w.heap.size,cap),by simp,fun e he =>?_,?_⟩
   ·rcases zw0.1 he with he | he
    ·exact hb2 e he
    ·exact hysz e he
   ·refine ⟨cs,pre++news,rest,.inl h.dZ.size,heap_alloc_new w.drew _,hcs,?_,hsize,by simpa using hlen,hcap,fun o ho=>absurd (h.aU _ o ho) (Nat.lt_irrefl _)⟩;exact aN.later ao _ _ (kD _ _ _ _ hes hys)
  ·simp only[if_neg hm];exact (h.bU m).later ao (by simp only[if_neg hm]) fun e b he hb=>⟨hheap b (h.gw he hb),fun _ ho=>ho⟩
 ·intro m m' e e' b J U af ar;by_cases hm:m=n <;>by_cases hm':m'=n
  ·rw[hm,hm']
  ·simp only[if_pos hm,v6] at J;simp only[if_neg hm'] at U;subst J;simp only[bR.aK,v6] at af;have:=h.gw U ar;omega
  ·simp only[if_neg hm] at J;simp only[if_pos hm',v6] at U;subst U;simp only[bR.aK,v6] at ar;have:=h.gw J af;omega
  ·simp only[if_neg hm] at J;simp only[if_neg hm'] at U;exact h.cU m m' e e' b J U af ar
 ·by_cases hmn:m=n
  ·subst hmn;rcases h.ec _ _ hm with k | ⟨e',k,hle⟩
   ·rw[aF] at k;cases k
   ·rw[aF] at k;cases k;exact .inr ⟨_,if_pos rfl,hle.trans (.inr ⟨_,_,_,_,rfl,rfl,by omega,fun e=>by omega⟩)⟩
  ·simp only[if_neg hmn];exact h.ec _ _ hm
theorem aX.aco(h:aX c A a w D E){n:Nat}{T:TypeId}{sz b cap:Nat}{es ys:List I}{pre news rest:List Value}{cs:Array Value}(hn:A.o n=some (.bV T sz es))(aF:E n=some (.rw (some (b,cap)) es.length))(hb:w.heap[b]?=some (.cells cs T (0,0)))
  (hcs:cs.toList=pre++rest) (hes:aN w D E es pre) (hys:aN w D E ys news) (hysz:∀ e∈ys,e.size=sz) (hne:ys≠[]) (hsize:cs.size=cap*sz) (hlen:es.length+ys.length≤cap) (hcap:cap≤maxLen) (hD:∀ o,D b o→o<pre.length) (hbase:c.fu b) :
  aX c (A.aT n (.bV T sz (es++ys))) a (w.setRow b (pre++news++rest.drop news.length).toArray) D (fun m=>if m=n then some (.rw (some (b,cap)) (es.length+ys.length)) else E m):=by
 have hlast:0<ys.length:=zv4.2 hne;have hown:=h.bU n;rw[hn] at hown;obtain ⟨blk1,hb1,hb2,_⟩:=hown;have hnl:news.length=ys.length*sz:=by rw[aN.length _ _ hys,I.iM _ hysz]
 have hpl:pre.length=es.length*sz:=by rw[aN.length _ _ hes,I.iM _ hb2]
 have ao:ef w D E (w.setRow b (pre++news++rest.drop news.length).toArray) D (fun m=>if m=n then some (.rw (some (b,cap)) (es.length+ys.length)) else E m):=by
  have e9:∀ {m:Nat} {e:bR},E m=some e→e.eG=true→(if m=n then some (.rw (some (b,cap)) (es.length+ys.length)) else E m)=some e:=fun {m e} he hfx=>by
   have:m≠n:=fun e=>by rw[e,aF] at he;cases he;cases hfx
   rw[if_neg this];exact he
  refine ⟨fun _ _ h=>h,fun b1 o v ah hv =>?_,fun m b bg he=>e9 he rfl,fun m blk' l he =>?_,fun m b he=>e9 he rfl,fun m b he=>e9 he rfl,fun b1 es ck _ hm=>(setRow_other w b b1 _ (fun e=>by rw[e,hb] at hm;cases hm)).trans hm⟩
  ·by_cases hbb:b1=b
   ·subst hbb;have ho:=hD o ah;have J:=setRow_heap w b1 cs (pre++news++rest.drop news.length).toArray T _ hb;rw[cell_of_row _ b1 o _ T (0,0) J];rw[cell_of_row _ b1 o _ T (0,0) hb] at hv;have e1:cs[o]?=pre[o]?:=by rw[←zw8,hcs,zy6 ho]
    rw[←hv,e1];simp only[List.getElem?_toArray,zy3];rw[zy6 ho]
   ·rw[wJ _ _ _ _ hbb];exact hv
  ·by_cases hm:m=n
   ·subst hm;rw[aF] at he;simp only[v6,bR.rw.injEq] at he;exact ⟨_,_,if_pos rfl,by omega,fun e=>by omega⟩
   ·exact ⟨blk',l,by simp only[if_neg hm];exact he,zz3 _,fun _=>rfl⟩
 refine ⟨h.sz,h.eS.mono fun B _ hB=>(setRow_other w b B _ (fun e=>by rw[e,hb] at hB;cases hB)).trans hB,fun t=>a8.later ao (h.eb t),xV h.dZ hbase _,h.dh,fun b1 o ah=>by have:=h.aU b1 o ah;simpa[World.setRow] using this,fun m =>?_,?_,fun m e hm =>?_,h.fe,h.cX,h.fp,h.lp ao⟩
 ·simp only[ai.aT];by_cases hm:m=n
  ·subst hm;simp only[if_true,dc];refine ⟨some (b,cap),by simp,fun e he =>?_,?_⟩
   ·rcases zw0.1 he with he | he
    ·exact hb2 e he
    ·exact hysz e he
   ·refine ⟨_,pre++news,rest.drop news.length,hbase,setRow_heap w b cs _ T _ hb,by simp,aN.later ao _ _ (kD _ _ _ _ hes hys),?_,by simpa using hlen,hcap,fun o ho =>?_⟩
    ·have e1:cs.size=pre.length+rest.length:=by rw[←zx6,hcs,zz8]
     have e2:news.length+pre.length≤cs.size:=by
      rw[hsize,hnl,hpl,←Nat.add_mul];exact Nat.mul_le_mul_right _ (by omega)
     simp only[List.size_toArray,zz8,zw9];omega
    ·have:=hD o ho;rw[zz8];omega
  ·simp only[if_neg hm];refine (h.bU m).later ao (by simp only[if_neg hm]) fun e b1 he hb'=>⟨setRow_other w b b1 _ (fun e1=>hm (h.cU m n e _ b he aF (by rw[hb',e1]) rfl)),fun _ ho=>ho⟩
 ·intro m m' e e' b' J U af ar;by_cases hm:m=n <;>by_cases hm':m'=n
  ·rw[hm,hm']
  ·simp only[if_pos hm,v6] at J;simp only[if_neg hm'] at U;subst J;exact absurd (h.cU m' n e' _ b' U aF ar af) hm'
  ·simp only[if_neg hm] at J;simp only[if_pos hm',v6] at U;subst U;exact absurd (h.cU m n e _ b' J aF af ar) hm
  ·simp only[if_neg hm] at J;simp only[if_neg hm'] at U;exact h.cU m m' e e' b' J U af ar
 ·by_cases hmn:m=n
  ·subst hmn;rcases h.ec _ _ hm with k | ⟨e',k,hle⟩
   ·rw[aF] at k;cases k
   ·rw[aF] at k;cases k;exact .inr ⟨_,if_pos rfl,hle.trans (.inr ⟨_,_,_,_,rfl,rfl,by omega,fun e=>by omega⟩)⟩
  ·simp only[if_neg hmn];exact h.ec _ _ hm
theorem Ij(n:Nat):(Builtin.zeroCells #[Value.int .i64 0] n).toList=(List.replicate n (0:Int)).map (Value.int .i64):=by
 simp only[Builtin.zeroCells,List.size_toArray,zw6,Nat.mul_one,Nat.mod_one,List.map_replicate];apply List.ext_getElem?;intro k;simp[List.getElem?_replicate];by_cases h:k<n
 ·rw[if_pos h,List.getElem?_range h];rfl
 ·rw[if_neg h,zv1 (by simpa using h)];rfl
theorem G2{w:World}{D:aS}{E:bf} : ∀ {xs:List Int} {cs:List Value},aN w D E (xs.map (I.int .i64)) cs→cs=xs.map (Value.int .i64)∧∀ x∈xs,IntKind.i64.min≤x∧x≤IntKind.i64.max
 | [],cs,h=>by
  simp only[zx7,aN] at h;subst h;exact ⟨rfl,by simp⟩
 |x::xs,cs,h=>by
  simp only[zz5,aN] at h;obtain ⟨c1,c2,rfl,J,U⟩:=h;obtain ⟨rfl,af⟩:=G2 U;have h1':c1=[.int .i64 x]∧IntKind.i64.min≤x∧x≤IntKind.i64.max:=J;obtain ⟨rfl,ar⟩:=h1';refine ⟨rfl,fun y hy =>?_⟩;rcases zx3.1 hy with rfl | hy
  ·exact ar
  ·exact af y hy
theorem aX.Dd(h:aX c A a w D E){n:Nat}{T:TypeId}{cap m':Nat}{es ys:List Int}{cs:Array Value}{aK:Option (Nat×Nat)}(hn:A.o n=some (.dT T es))(aF:E n=some (.rw aK es.length))(hr:∀ x∈es++ys,IntKind.i64.min≤x∧x≤IntKind.i64.max)
  (hne:ys≠[]) (hcs:cs.toList=(es++ys++List.replicate m' 0).map (Value.int .i64)) (hlen:es.length+ys.length+m'=cap) (hcap:cap≤maxLen) :
  aX c (A.aT n (.dT T (es++ys))) a (w.drew.alloc (.cells cs T)) D (fun m=>if m=n then some (.rw (some (w.heap.size,cap)) (es.length+ys.length)) else E m):=by
 have hlast:0<ys.length:=zv4.2 hne;have hheap:∀ b,b<w.heap.size→(w.drew.alloc (.cells cs T)).heap[b]?=w.heap[b]?:=fun b hb=>Below.heap_alloc w.drew _ b hb;have ao:ef w D E (w.drew.alloc (.cells cs T)) D (fun m=>if m=n then some (.rw (some (w.heap.size,cap)) (es.length+ys.length)) else E m):=by
  have e9:∀ {m:Nat} {e:bR},E m=some e→e.eG=true→(if m=n then some (.rw (some (w.heap.size,cap)) (es.length+ys.length)) else E m)=some e:=fun {m e} he hfx=>by
   have:m≠n:=fun e=>by rw[e,aF] at he;cases he;cases hfx
   rw[if_neg this];exact he
  refine ⟨fun _ _ h=>h,fun b o v _ hv =>?_,fun m b bg he=>e9 he rfl,fun m blk' l he =>?_,fun m b he=>e9 he rfl,fun m b he=>e9 he rfl,fun b es ck _ hm=>(hheap b (fX hm)).trans hm⟩
  ·rw[World.cell?_of_block (hheap b (World.block_lt_of_cell? w _ hv))];exact hv
  ·by_cases hm:m=n
   ·subst hm;rw[aF] at he;simp only[v6,bR.rw.injEq] at he;exact ⟨_,_,if_pos rfl,by omega,fun e=>by omega⟩
   ·exact ⟨blk',l,by simp only[if_neg hm];exact he,zz3 _,fun _=>rfl⟩
 refine ⟨h.sz,h.eS.mono fun B _ hB=>(hheap B (zy4.1 hB).1).trans hB,fun t=>a8.later ao (h.eb t),h.dZ.trans ⟨rfl,rfl,rfl,by simp,fun k hk=>hheap k (h.old hk)⟩,h.dh,fun b o hd'=>by have:=h.aU b o hd';simp;omega,fun m =>?_,?_,fun m e hm =>?_,h.fe,h.cX,h.fp,h.lp ao⟩
 ·simp only[ai.aT];by_cases hm:m=n
  ·subst hm;simp only[if_true,dc];exact ⟨some (w.heap.size,cap),by simp,hr,cs,m',.inl h.dZ.size,heap_alloc_new w.drew _,hcs,by simp[hne],by simp only[zz8];exact hlen,hcap,fun o ho=>absurd (h.aU _ o ho) (Nat.lt_irrefl _)⟩
  ·simp only[if_neg hm];exact (h.bU m).later ao (by simp only[if_neg hm]) fun e b he hb=>⟨hheap b (h.gw he hb),fun _ ho=>ho⟩
 ·intro m m' e e' b J U af ar;by_cases hm:m=n <;>by_cases hm':m'=n
  ·rw[hm,hm']
  ·simp only[if_pos hm,v6] at J;simp only[if_neg hm'] at U;subst J;simp only[bR.aK,v6] at af;have:=h.gw U ar;omega
  ·simp only[if_neg hm] at J;simp only[if_pos hm',v6] at U;subst U;simp only[bR.aK,v6] at ar;have:=h.gw J af;omega
  ·simp only[if_neg hm] at J;simp only[if_neg hm'] at U;exact h.cU m m' e e' b J U af ar
 ·by_cases hmn:m=n
  ·subst hmn;rcases h.ec _ _ hm with k | ⟨e',k,hle⟩
   ·rw[aF] at k;cases k
   ·rw[aF] at k;cases k;exact .inr ⟨_,if_pos rfl,hle.trans (.inr ⟨_,_,_,_,rfl,rfl,by omega,fun e=>by omega⟩)⟩
  ·simp only[if_neg hmn];exact h.ec _ _ hm
theorem aX.acp(h:aX c A a w D E){n:Nat}{T:TypeId}{b cap m':Nat}{es ys:List Int}{cs:Array Value}(hn:A.o n=some (.dT T es))(aF:E n=some (.rw (some (b,cap)) es.length))(hb:w.heap[b]?=some (.cells cs T (0,0)))
  (hr:∀ x∈es++ys,IntKind.i64.min≤x∧x≤IntKind.i64.max) (hne:ys≠[]) (hlen:es.length+ys.length+m'=cap) (hcap:cap≤maxLen) (hD:∀ o,¬ D b o) (hbase:c.fu b) :
  aX c (A.aT n (.dT T (es++ys))) a (w.setRow b ((es++ys++List.replicate m' 0).map (Value.int .i64)).toArray) D (fun m=>if m=n then some (.rw (some (b,cap)) (es.length+ys.length)) else E m):=by
 have hlast:0<ys.length:=zv4.2 hne;have ao:ef w D E (w.setRow b ((es++ys++List.replicate m' 0).map (Value.int .i64)).toArray) D (fun m=>if m=n then some (.rw (some (b,cap)) (es.length+ys.length)) else E m):=by
  have e9:∀ {m:Nat} {e:bR},E m=some e→e.eG=true→(if m=n then some (.rw (some (b,cap)) (es.length+ys.length)) else E m)=some e:=fun {m e} he hfx=>by
   have:m≠n:=fun e=>by rw[e,aF] at he;cases he;cases hfx
   rw[if_neg this];exact he
  refine ⟨fun _ _ h=>h,fun b1 o v ah hv =>?_,fun m b bg he=>e9 he rfl,fun m blk' l he =>?_,fun m b he=>e9 he rfl,fun m b he=>e9 he rfl,fun b1 es ck _ hm=>(setRow_other w b b1 _ (fun e=>by rw[e,hb] at hm;cases hm)).trans hm⟩
  ·by_cases hbb:b1=b
   ·subst hbb;exact absurd ah (hD o)
   ·rw[wJ _ _ _ _ hbb];exact hv
  ·by_cases hm:m=n
   ·subst hm;rw[aF] at he;simp only[v6,bR.rw.injEq] at he;exact ⟨_,_,if_pos rfl,by omega,fun e=>by omega⟩
   ·exact ⟨blk',l,by simp only[if_neg hm];exact he,zz3 _,fun _=>rfl⟩
 refine ⟨h.sz,h.eS.mono fun B _ hB=>(setRow_other w b B _ (fun e=>by rw[e,hb] at hB;cases hB)).trans hB,fun t=>a8.later ao (h.eb t),xV h.dZ hbase _,h.dh,fun b1 o ah=>by have:=h.aU b1 o ah;simpa[World.setRow] using this,fun m =>?_,?_,fun m e hm =>?_,h.fe,h.cX,h.fp,h.lp ao⟩
 ·simp only[ai.aT];by_cases hm:m=n
  ·subst hm;simp only[if_true,dc];exact ⟨some (b,cap),by simp,hr,_,m',hbase,setRow_heap w b cs _ T _ hb,by simp,by simp[hne],by simp only[zz8];exact hlen,hcap,hD⟩
  ·simp only[if_neg hm];refine (h.bU m).later ao (by simp only[if_neg hm]) fun e b1 he hb'=>⟨setRow_other w b b1 _ (fun e1=>hm (h.cU m n e _ b he aF (by rw[hb',e1]) rfl)),fun _ ho=>ho⟩
 ·intro m m' e e' b' J U af ar;by_cases hm:m=n <;>by_cases hm':m'=n
  ·rw[hm,hm']
  ·simp only[if_pos hm,v6] at J;simp only[if_neg hm'] at U;subst J;exact absurd (h.cU m' n e' _ b' U aF ar af) hm'
  ·simp only[if_neg hm] at J;simp only[if_pos hm',v6] at U;subst U;exact absurd (h.cU m n e _ b' J aF af ar) hm
  ·simp only[if_neg hm] at J;simp only[if_neg hm'] at U;exact h.cU m m' e e' b' J U af ar
 ·by_cases hmn:m=n
  ·subst hmn;rcases h.ec _ _ hm with k | ⟨e',k,hle⟩
   ·rw[aF] at k;cases k
   ·rw[aF] at k;cases k;exact .inr ⟨_,if_pos rfl,hle.trans (.inr ⟨_,_,_,_,rfl,rfl,by omega,fun e=>by omega⟩)⟩
  ·simp only[if_neg hmn];exact h.ec _ _ hm
end
section
variable {c:cV} {A:ai} {o:Oper}
theorem O5{t e:TypeId}{s x:Operand}{s' x':aM}{n k sz:Nat}{es ys:List I}{z:I}(ho:o.op=.call { callee:=.builtin .append,args := #[s,x],argTypes := #[t,t] })(ht:c.P.underlying t=some (.slice e))(hs':bq c.P t s=some s')(hx':bq c.P t x=some x')
  (hz:gF c.P e=some z) (hzs:z.size=c.P.cellsOf e) (hpos:0<c.P.cellsOf e) (ab:aj A s'=.own n k) (hn:A.o n=some (.bV e (c.P.cellsOf e) es)) (hk:k=es.length) (hx:aj A x'=.slice sz ys) (hsz:sz=c.P.cellsOf e) (hne:ys≠[])
  (h63:es.length+ys.length≤maxLen) (hby:(es.length+ys.length)*c.P.bytesOf e≤140737488355328) (ah:∀ k,o.dst=some k→k<c.n) :
  iO c A o ((A.aT n (.bV e (c.P.cellsOf e) (es++ys))).aW o.dst (.own n (es.length+ys.length))):=by
 intro a w D E hsim;obtain ⟨i,zv,hi,hzv,hzr⟩:=me hz;have hci:c.P.cellsOf e=i.size:=by simp[Program.cellsOf,hi]
 have hbi:c.P.bytesOf e=i.bytes:=by simp[Program.bytesOf,hi]
 have hzc:zv.cells.size=i.size:=by
  have:=al.length _ _ (hzr w D E);rw[zx6] at this;rw[this,hzs,hci]
 subst hk;have v1:=bS hsim hs';rw[ab] at v1;have v2:=bS hsim hx';rw[hx] at v2;obtain ⟨ad,cp,hxv,hc1,hc2,hc3,hc4⟩:=nP v2;obtain ⟨b2,off2,news,rfl,hr2,hys⟩:=hc3.resolve_left hne;have hobj:=hsim.bU n;rw[hn] at hobj;obtain ⟨aK,aF,hesz,hblk⟩:=hobj;have hnl:news.length=ys.length*i.size:=by rw[aN.length _ _ hys,I.iM _ hc4,hsz,hci]
 have hysz:∀ y∈ys,y.size=c.P.cellsOf e:=fun y hy=>by rw[hc4 y hy,hsz]
 have hnews:∀ j v,news[j]?=some v→w.cell? ((⟨b2,off2,none⟩:Addr).add j)=some v:=fun j v hj=>by
  rw[Addr.add_lit];exact (hr2 j v hj).1
 have J:=aN.mI _ _ hys;have hsv:match aK with | none=>a.eval s=.slice none 0 0 | some (b,cap)=>a.eval s=.slice (some ⟨b,0,none⟩) es.length cap:=by
  obtain ⟨cs,q1,q2⟩:=v1;simp only[al] at q2;obtain ⟨blk',l,q3,q4,q5,q6⟩:=q2;rw[aF] at q3;simp only[v6,bR.rw.injEq] at q3;obtain ⟨rfl,rfl⟩:=q3;have q7:=q6 rfl;simp only[bC,I.isAgg] at q1;cases aK with
  |none=>simp only at q7 ⊢;rw[q7] at q1;simpa using q1.symm
  |some bc=>simp only at q7 ⊢;rw[q7] at q1;simpa using q1.symm
 have hl0:0<ys.length:=zv4.2 hne;have h63':=h63;simp only[maxLen] at h63';have run:∀ v' w',(Builtin.append_ #[t,t] o.type #[a.eval s,.slice (some ⟨b2,off2,none⟩) ys.length cp]).run c.P w=.ok v' w'→(execOp a.eval o).run c.P w=.ok (.value v') w':=by
  intro v' w' hr;unfold execOp;simp only[ho,resolve,invoke,builtin,Sem.run_bind,Sem.run_pure,Result.andThen_ok,List.map_toArray,zz5,zx7,hxv,hr]
 have put:∀ (w':World) (b cap:Nat) (v':Value),v'=.slice (some ⟨b,0,none⟩) (es.length+ys.length) cap→aX c (A.aT n (.bV e (c.P.cellsOf e) (es++ys))) a w' D (fun m=>if m=n then some (.rw (some (b,cap)) (es.length+ys.length)) else E m) →
   cd c ((A.aT n (.bV e (c.P.cellsOf e) (es++ys))).aW o.dst (.own n (es.length+ys.length))) (a.put o.dst v') w':=by
  rintro w' b cap v' rfl hs2;refine ⟨D,_,hs2.aW ah ⟨_,by simp[bC,I.isAgg];rfl,?_⟩⟩;simp only[al,if_true];exact ⟨some (b,cap),es.length+ys.length,rfl,zz3 _,⟨_,_,_,rfl⟩,fun _=>rfl⟩
 cases aK with
 |none =>
  simp only at hblk hsv;subst hblk;have hr:=run_append_nil (P:=c.P) w t o.type e i zv ht hi hzv ⟨b2,off2,none⟩ ys.length cp news hnl hnews hl0 (by simp at h63';omega) (by rw[hbi] at hby;simp at hby;omega);rw[←hsv] at hr;have hge:=grownCap_ge w ys.length 0 e;refine ⟨_,.inl ⟨_,run _ _ hr,put _ w.heap.size (grownCap w ys.length 0 e) _ (by simp) ?_⟩⟩;refine hsim.Dc (pre:=[]) (news:=news) (rest:=(Builtin.zeroCells zv.cells (grownCap w ys.length 0 e-ys.length)).toList) hn aF (by simp[aN]) hys hysz hne (by simp) ?_ (by simpa using hge) (grownCap_le_maxLen w ys.length 0 e (by simpa using h63));simp only[Array.size_append,List.size_toArray,size_zeroCells,hzc,hnl,hci,←Nat.add_mul]
  congr 1
  omega
 |some bc =>
  obtain ⟨b,cap⟩:=bc;simp only at hblk hsv;obtain ⟨cs,pre,rest,k1,k2,k3,k4,k5,k6,k7,k8⟩:=hblk;have hpl:pre.length=es.length*i.size:=by rw[aN.length _ _ k4,I.iM _ hesz,hci]
  by_cases hroom:es.length+ys.length≤cap
  ·have hfit:es.length*i.size+news.length≤cs.size:=by rw[hnl,k5,hci,←Nat.add_mul];exact Nat.mul_le_mul_right _ hroom
   have hr:=run_append_room (P:=c.P) w t o.type e i ht hi b es.length cap cs k2 ⟨b2,off2,none⟩ ys.length cp news hnl hnews J hroom hfit;rw[←hsv] at hr;refine ⟨_,.inl ⟨_,run _ _ hr,put _ b cap _ rfl ?_⟩⟩;have e1:cs.toList.take (es.length*i.size)=pre:=by rw[k3,←hpl];exact List.take_left
   have e2:cs.toList.drop (es.length*i.size+news.length)=rest.drop news.length:=by rw[k3,←hpl,←List.drop_drop,List.drop_left]
   rw[e1,e2];exact hsim.aco hn aF k2 k3 k4 hys hysz hne k5 hroom k7 k8 k1
  ·have holds:∀ j v,pre[j]?=some v→w.cell? ((⟨b,0,none⟩:Addr).add j)=some v:=fun j v hj=>by
    rw[Addr.add_lit,zz4,cell_of_row w b j cs e (0,0) k2,←zw8,k3];have:j<pre.length:=(zz7.1 hj).1;rw[zy6 this];exact hj
   have hr:=run_append_grow (P:=c.P) w t o.type e i zv ht hi hzv ⟨b,0,none⟩ es.length cap pre hpl holds ⟨b2,off2,none⟩ ys.length cp news hnl hnews (by omega) (by omega) (growslice_fits (by omega) (by rw[←hbi];exact hby));rw[←hsv] at hr;have hge:=grownCap_ge w (es.length+ys.length) cap e;refine ⟨_,.inl ⟨_,run _ _ hr,put _ w.heap.size (grownCap w (es.length+ys.length) cap e) _ rfl ?_⟩⟩;refine hsim.Dc (pre:=pre) (news:=news) (rest:=(Builtin.zeroCells zv.cells (grownCap w (es.length+ys.length) cap e-(es.length+ys.length))).toList) hn aF k4 hys hysz hne (by simp) ?_ hge (grownCap_le_maxLen w _ cap e h63);simp only[Array.size_append,List.size_toArray,size_zeroCells,hzc,hnl,hpl,hci,←Nat.add_mul]
   congr 1
   omega
theorem O6{t e:TypeId}{s x:Operand}{s' x':aM}{n k sz:Nat}{es ys:List Int}(ho:o.op=.call { callee:=.builtin .append,args := #[s,x],argTypes := #[t,t] })(ht:c.P.underlying t=some (.slice e))(hs':bq c.P t s=some s')(hx':bq c.P t x=some x')
  (hz:gF c.P e=some (.int .i64 0)) (h1c:c.P.cellsOf e=1) (ab:aj A s'=.own n k) (hn:A.o n=some (.dT e es)) (hk:k=es.length) (hx:aj A x'=.slice sz (ys.map (.int .i64))) (hne:ys≠[])
  (h63:es.length+ys.length≤maxLen) (hby:(es.length+ys.length)*c.P.bytesOf e≤140737488355328) (ah:∀ k,o.dst=some k→k<c.n) :
  iO c A o ((A.aT n (.dT e (es++ys))).aW o.dst (.own n (es.length+ys.length))):=by
 intro a w D E hsim;obtain ⟨i,zv,hi,hzv,hzr⟩:=me hz;have hci:c.P.cellsOf e=i.size:=by simp[Program.cellsOf,hi]
 have hi1:i.size=1:=hci.symm.trans h1c;have hbi:c.P.bytesOf e=i.bytes:=by simp[Program.bytesOf,hi]
 have hzv2:zv.cells = #[Value.int .i64 0]:=by
  have:zv.cells.toList=[Value.int .i64 0]:=(hzr w D E).1;exact Array.toList_inj.1 this
 subst hk;have v1:=bS hsim hs';rw[ab] at v1;have v2:=bS hsim hx';rw[hx] at v2;obtain ⟨ad,cp,hxv,hc1,hc2,hc3,hc4⟩:=nP v2;obtain ⟨b2,off2,news,rfl,hr2,hys⟩:=hc3.resolve_left (by simpa using hne);rw[zz6] at hxv;obtain ⟨aK,aF,hesr,hblk⟩:=hsim.sH hn;obtain ⟨hnw,hyr⟩:=G2 hys;have hnl0:news.length=ys.length:=by rw[hnw,zz6]
 have hnl:news.length=ys.length*i.size:=by rw[hi1,Nat.mul_one,hnl0]
 have hrr:∀ x∈es++ys,IntKind.i64.min≤x∧x≤IntKind.i64.max:=fun x hx=>by
  rcases zw0.1 hx with h | h
  ·exact hesr x h
  ·exact hyr x h
 have hnews:∀ j v,news[j]?=some v→w.cell? ((⟨b2,off2,none⟩:Addr).add j)=some v:=fun j v hj=>by
  rw[Addr.add_lit];exact (hr2 j v hj).1
 have J:=aN.mI _ _ hys;have hsv:match aK with | none=>a.eval s=.slice none 0 0 | some (b,cap)=>a.eval s=.slice (some ⟨b,0,none⟩) es.length cap:=by
  obtain ⟨cs,q1,q2⟩:=v1;simp only[al] at q2;obtain ⟨blk',l,q3,q4,q5,q6⟩:=q2;rw[aF] at q3;simp only[v6,bR.rw.injEq] at q3;obtain ⟨rfl,rfl⟩:=q3;have q7:=q6 rfl;simp only[bC,I.isAgg] at q1;cases aK with
  |none=>simp only at q7 ⊢;rw[q7] at q1;simpa using q1.symm
  |some bc=>simp only at q7 ⊢;rw[q7] at q1;simpa using q1.symm
 have hl0:0<ys.length:=zv4.2 hne;have h63':=h63;simp only[maxLen] at h63';have run:∀ v' w',(Builtin.append_ #[t,t] o.type #[a.eval s,.slice (some ⟨b2,off2,none⟩) ys.length cp]).run c.P w=.ok v' w'→(execOp a.eval o).run c.P w=.ok (.value v') w':=by
  intro v' w' hr;unfold execOp;simp only[ho,resolve,invoke,builtin,Sem.run_bind,Sem.run_pure,Result.andThen_ok,List.map_toArray,zz5,zx7,hxv,hr]
 have put:∀ (w':World) (b cap:Nat) (v':Value),v'=.slice (some ⟨b,0,none⟩) (es.length+ys.length) cap→aX c (A.aT n (.dT e (es++ys))) a w' D (fun m=>if m=n then some (.rw (some (b,cap)) (es.length+ys.length)) else E m) →
   cd c ((A.aT n (.dT e (es++ys))).aW o.dst (.own n (es.length+ys.length))) (a.put o.dst v') w':=by
  rintro w' b cap v' rfl hs2;refine ⟨D,_,hs2.aW ah ⟨_,by simp[bC,I.isAgg];rfl,?_⟩⟩;simp only[al,if_true];exact ⟨some (b,cap),es.length+ys.length,rfl,zz3 _,⟨_,_,_,rfl⟩,fun _=>rfl⟩
 cases aK with
 |none =>
  simp only at hblk hsv;subst hblk;have hr:=run_append_nil (P:=c.P) w t o.type e i zv ht hi hzv ⟨b2,off2,none⟩ ys.length cp news hnl hnews hl0 (by simp at h63';omega) (by rw[hbi] at hby;simp at hby;omega);rw[←hsv] at hr;have hge:=grownCap_ge w ys.length 0 e;refine ⟨_,.inl ⟨_,run _ _ hr,put _ w.heap.size (grownCap w ys.length 0 e) _ (by simp) ?_⟩⟩;refine hsim.Dd (m':=grownCap w ys.length 0 e-ys.length) hn aF hrr hne ?_ (by simp;omega) (grownCap_le_maxLen w ys.length 0 e (by simpa using h63));rw[hzv2];simp only[Array.toList_append,Ij,List.nil_append,zy5,hnw]
 |some bc =>
  obtain ⟨b,cap⟩:=bc;simp only at hblk hsv;obtain ⟨cs,m,k1,k2,k3,k4,k5,k6,k7⟩:=hblk;have hcz:cs.size=cap:=by rw[←zx6,k3];simp;omega
  by_cases hroom:es.length+ys.length≤cap
  ·have hfit:es.length*i.size+news.length≤cs.size:=by rw[hnl,hi1];omega
   have hr:=run_append_room (P:=c.P) w t o.type e i ht hi b es.length cap cs k2 ⟨b2,off2,none⟩ ys.length cp news hnl hnews J hroom hfit;rw[←hsv] at hr;refine ⟨_,.inl ⟨_,run _ _ hr,put _ b cap _ rfl ?_⟩⟩;have e0:cs.toList.take (es.length*i.size)++news++cs.toList.drop (es.length*i.size+news.length)=(es++ys++List.replicate (m-ys.length) 0).map (Value.int .i64):=by
    rw[hi1,Nat.mul_one,hnl0,k3,hnw,←List.map_take,←List.map_drop,List.take_left,←List.drop_drop,List.drop_left];simp only[zy5,List.drop_replicate]
   rw[e0];exact hsim.acp (m':=m-ys.length) hn aF k2 hrr hne (by omega) k6 k7 k1
  ·have hpl:(es.map (Value.int .i64)).length=es.length*i.size:=by rw[hi1];simp
   have holds:∀ j v,(es.map (Value.int .i64))[j]?=some v→w.cell? ((⟨b,0,none⟩:Addr).add j)=some v:=fun j v hj=>by
    rw[Addr.add_lit,zz4,cell_of_row w b j cs e (0,0) k2,←zw8,k3];have:j<(es.map (Value.int .i64)).length:=(zz7.1 hj).1;rw[zy5,zy6 this];exact hj
   have hr:=run_append_grow (P:=c.P) w t o.type e i zv ht hi hzv ⟨b,0,none⟩ es.length cap (es.map (Value.int .i64)) hpl holds ⟨b2,off2,none⟩ ys.length cp news hnl hnews (by omega) (by omega) (growslice_fits (by omega) (by rw[←hbi];exact hby));rw[←hsv] at hr;have hge:=grownCap_ge w (es.length+ys.length) cap e;refine ⟨_,.inl ⟨_,run _ _ hr,put _ w.heap.size (grownCap w (es.length+ys.length) cap e) _ rfl ?_⟩⟩;refine hsim.Dd (m':=grownCap w (es.length+ys.length) cap e-(es.length+ys.length)) hn aF hrr hne ?_ (by omega) (grownCap_le_maxLen w _ cap e h63);rw[hzv2];simp only[Array.toList_append,Ij,zy5,hnw]
end
mutual
def I.only(p:Nat→Bool):I→Bool
 | .agg fs | .tuple fs=>I.b8 p fs
 | .slice _ es=>I.b8 p es
 | .ref x=>x.only p
 | .func _ caps=>I.b8 p caps
 | .iface _ v=>v.only p
 | .ptr n _ | .own n _ | .view n _ _ _ _ | .mref n | .dC n=>p n
 | .dx ks vs=>I.b8 p ks&&I.b8 p vs
 |_=>true
def I.b8(p:Nat→Bool):List I→Bool
 | []=>true
 |x::xs=>x.only p&&I.b8 p xs
end
mutual
theorem kW(p:Nat→Bool):∀ x:I,x.bG=true→x.only p=true
 | .agg fs,h=>by simp only[I.bG,I.only] at *;exact oM p fs h
 | .slice _ es,h=>by simp only[I.bG,I.only] at *;exact oM p es h
 | .ref x,h=>by simp only[I.bG,I.only] at *;exact kW p x h
 | .func _ caps,h=>by simp only[I.bG,I.only] at *;exact oM p caps h
 | .iface _ v,h=>by simp only[I.bG,I.only] at *;exact kW p v h
 | .bool _,_ | .int _ _,_ | .bm _,_ | .nilp,_ | .dK,_ | .dL,_ | .any,_ | .raw _,_ | .nils _,_ | .c0 _,_=>by simp[I.only]
 | .dx ks vs,h=>by simp only[I.bG,I.only,zz0] at *;exact ⟨oM p ks h.1,oM p vs h.2⟩
 | .ptr _ _,h | .own _ _,h | .view _ _ _ _ _,h | .mref _,h | .dC _,h | .undef,h | .dF,h | .tuple _,h=>by simp[I.bG] at h
theorem oM(p:Nat→Bool):∀ xs:List I,I.cv xs=true→I.b8 p xs=true
 | [],_=>rfl
 |x::xs,h=>by
  simp only[I.cv,I.b8,zz0] at *;exact ⟨kW p x h.1,oM p xs h.2⟩
end
mutual
theorem al.dq{w:World}{D:aS}{E E':bf}{p:Nat→Bool}(aF:∀ n,p n=true→E' n=E n):∀ (x:I) (cs:List Value),x.only p=true→al w D E x cs→al w D E' x cs
 | .agg fs,cs,ho,hr=>by simp only[al,I.only] at *;exact aN.dq aF fs cs ho hr
 | .bool b,cs,_,hr=>by simpa only[al] using hr
 | .int k n,cs,_,hr=>by simpa only[al] using hr
 | .bm s,cs,_,hr=>by simpa only[al] using hr
 | .nilp,cs,_,hr=>by simpa only[al] using hr
 | .dK,cs,_,hr=>by simpa only[al] using hr
 | .dL,cs,_,hr | .any,cs,_,hr=>by simpa only[al] using hr
 | .raw _,cs,_,hr=>by simpa only[al] using hr
 | .nils _,cs,_,hr=>by simpa only[al] using hr
 | .c0 _,cs,_,hr=>by simpa only[al] using hr
 | .slice sz es,cs,ho,hr=>by
  simp only[al,I.only] at *;obtain ⟨a,cap,J,U,af,ar,h5⟩:=hr;refine ⟨a,cap,J,U,af,?_,h5⟩;rcases ar with ar | ⟨b,off,cs',h6,h7,h8⟩
  ·exact .inl ar
  ·exact .inr ⟨b,off,cs',h6,h7,aN.dq aF es cs' ho h8⟩
 | .ref x,cs,ho,hr=>by
  simp only[al,I.only] at *;obtain ⟨b,off,cs',J,U,af⟩:=hr;exact ⟨b,off,cs',J,U,al.dq aF x cs' ho af⟩
 | .func f caps,cs,ho,hr=>by
  simp only[al,I.only] at *;obtain ⟨vs,J,U⟩:=hr;exact ⟨vs,J,aH.dq aF caps vs ho U⟩
 | .iface t v,cs,ho,hr=>by
  simp only[al,I.only] at *;obtain ⟨u,cs',J,U,af⟩:=hr;exact ⟨u,cs',J,U,al.dq aF v cs' ho af⟩
 | .ptr n p,cs,ho,hr=>by
  simp only[al,I.only] at *;obtain ⟨b,bg,off,J,U⟩:=hr;exact ⟨b,bg,off,(aF n ho).trans J,U⟩
 | .own n k,cs,ho,hr=>by
  simp only[al,I.only] at *;obtain ⟨aK,l,J,U⟩:=hr;exact ⟨aK,l,(aF n ho).trans J,U⟩
 | .view n p _ _ _,cs,ho,hr=>by
  simp only[al,I.only] at *;obtain ⟨b,bg,off,l,J,U⟩:=hr;exact ⟨b,bg,off,l,(aF n ho).trans J,U⟩
 | .mref n,cs,ho,hr=>by
  simp only[al,I.only] at *;obtain ⟨b,J,U⟩:=hr;exact ⟨b,(aF n ho).trans J,U⟩
 | .dC n,cs,ho,hr=>by
  simp only[al,I.only] at *;obtain ⟨b,J,U⟩:=hr;exact ⟨b,(aF n ho).trans J,U⟩
 | .dx ks vs,cs,ho,hr=>by
  simp only[al,I.only,zz0] at *;obtain ⟨b,es,ck,J,U,af,ar⟩:=hr;exact ⟨b,es,ck,J,U,aH.dq aF ks _ ho.1 af,aH.dq aF vs _ ho.2 ar⟩
 | .undef,_,_,hr=>by simp only[al] at hr
 | .dF,_,_,hr=>by simp only[al] at hr
 | .tuple _,_,_,hr=>by simp only[al] at hr
theorem aN.dq{w:World}{D:aS}{E E':bf}{p:Nat→Bool}(aF:∀ n,p n=true→E' n=E n):∀ (xs:List I) (cs:List Value),I.b8 p xs=true→aN w D E xs cs→aN w D E' xs cs
 | [],cs,_,hr=>by simpa only[aN] using hr
 |x::xs,cs,ho,hr=>by
  simp only[aN,I.b8,zz0] at *;obtain ⟨c1,c2,J,U,af⟩:=hr;exact ⟨c1,c2,J,al.dq aF x c1 ho.1 U,aN.dq aF xs c2 ho.2 af⟩
theorem aH.dq{w:World}{D:aS}{E E':bf}{p:Nat→Bool}(aF:∀ n,p n=true→E' n=E n):∀ (xs:List I) (vs:List Value),I.b8 p xs=true→aH w D E xs vs→aH w D E' xs vs
 | [],vs,_,hr=>by simpa only[aH] using hr
 |x::xs,vs,ho,hr=>by
  simp only[aH,I.b8,zz0] at *;obtain ⟨v,rest,cs,J,U,af,ar⟩:=hr;exact ⟨v,rest,cs,J,U,al.dq aF x cs ho.1 af,aH.dq aF xs rest ho.2 ar⟩
end
theorem a8.dq{w:World}{D:aS}{E E':bf}{p:Nat→Bool}(aF:∀ n,p n=true→E' n=E n){x:I}{v:Value}(ho:x.only p=true)(hr:a8 w D E x v):a8 w D E' x v:=by
 cases x <;>simp only[a8] at * <;>first
  |exact hr
  |(obtain ⟨vs,J,U⟩:=hr;exact ⟨vs,J,aH.dq aF _ _ (by simpa[I.only] using ho) U⟩)
  |(obtain ⟨cs,J,U⟩:=hr;exact ⟨cs,J,al.dq aF _ _ ho U⟩)
def aq.only(p:Nat→Bool):aq→Bool
 | .box x=>x.only p
 | .bV _ _ es=>I.b8 p es
 | .dR _=>true
 | .dT _ _=>true
 | .bD ks vs | .it ks vs _ _=>I.b8 p ks&&I.b8 p vs
def bP:List (Nat×Nat)→Nat→Nat
 | [],n=>n
 |(a,b)::r,n=>if n=a then b else bP r n
mutual
def I.bu(ρ:Nat→Nat):I→I
 | .agg fs=>.agg (I.ee ρ fs)
 | .tuple fs=>.tuple (I.ee ρ fs)
 | .slice sz es=>.slice sz (I.ee ρ es)
 | .ref x=>.ref (x.bu ρ)
 | .func f caps=>.func f (I.ee ρ caps)
 | .iface t v=>.iface t (v.bu ρ)
 | .ptr n p=>.ptr (ρ n) p
 | .own n k=>.own (ρ n) k
 | .view n p sz lo k=>.view (ρ n) p sz lo k
 | .mref n=>.mref (ρ n)
 | .dC n=>.dC (ρ n)
 | .dx ks vs=>.dx (I.ee ρ ks) (I.ee ρ vs)
 | .undef=>.undef | .dF=>.dF | .bool b=>.bool b | .int k n=>.int k n | .bm s=>.bm s
 | .nilp=>.nilp | .dK=>.dK | .dL=>.dL | .any=>.any | .raw u=>.raw u | .nils z=>.nils z | .c0 z=>.c0 z
def I.ee(ρ:Nat→Nat):List I→List I
 | []=>[]
 |x::xs=>x.bu ρ::I.ee ρ xs
end
def aq.bu(ρ:Nat→Nat):aq→aq
 | .box x=>.box (x.bu ρ)
 | .bV T sz es=>.bV T sz (I.ee ρ es)
 | .dR x=>.dR x
 | .dT T xs=>.dT T xs
 | .bD ks vs=>.bD (I.ee ρ ks) (I.ee ρ vs)
 | .it ks vs left cur=>.it (I.ee ρ ks) (I.ee ρ vs) left cur
mutual
theorem si(ρ:Nat→Nat):∀ x:I,(x.bu ρ).size=x.size
 | .agg fs=>by simp only[I.bu,I.size];exact Hk ρ fs
 | .undef | .dF | .bool _ | .int _ _ | .bm _ | .nilp | .dK | .dL | .any | .raw _ | .nils _ | .c0 _ | .slice _ _ | .tuple _ | .ref _ | .func _ _ | .iface _ _ | .ptr _ _ | .own _ _ | .view _ _ _ _ _ | .mref _ | .dC _ | .dx _ _=>by simp only[I.bu,I.size]
theorem Hk(ρ:Nat→Nat):∀ xs:List I,I.sizes (I.ee ρ xs)=I.sizes xs
 | []=>rfl
 |x::xs=>by simp only[I.ee,I.sizes,si ρ x,Hk ρ xs]
end
mutual
theorem zb(ρ:Nat→Nat):∀ x:I,(x.bu ρ).bg=x.bg
 | .agg fs=>by simp only[I.bu,I.bg,cW.db.injEq];exact Hj ρ fs
 | .undef | .dF | .bool _ | .int _ _ | .bm _ | .nilp | .dK | .dL | .any | .raw _ | .nils _ | .c0 _ | .slice _ _ | .tuple _ | .ref _ | .func _ _ | .iface _ _ | .ptr _ _ | .own _ _ | .view _ _ _ _ _ | .mref _ | .dC _ | .dx _ _=>by simp only[I.bu,I.bg]
theorem Hj(ρ:Nat→Nat):∀ xs:List I,I.de (I.ee ρ xs)=I.de xs
 | []=>rfl
 |x::xs=>by simp only[I.ee,I.de,zb ρ x,Hj ρ xs]
end
theorem adi(ρ:Nat→Nat)(x:I):(x.bu ρ).isAgg=x.isAgg:=by cases x <;>simp[I.bu,I.isAgg]
theorem sk(ρ:Nat→Nat)(xs:List I):I.ee ρ xs=xs.map (I.bu ρ):=by
 induction xs with
 |nil=>rfl
 |cons x xs ih=>simp[I.ee,ih]
theorem sj(ρ:Nat→Nat)(xs:List I):(I.ee ρ xs).length=xs.length:=by rw[sk];simp
theorem Hg(ρ:Nat→Nat)(x:I)(v:Value)(cs:List Value):bC (x.bu ρ) v cs=bC x v cs:=by simp only[bC,adi]
mutual
/-- A value,its names put for others that stand for the same. -/
theorem al.bu{w:World}{D:aS}{E E':bf}{p:Nat→Bool}{ρ:Nat→Nat}(aF:∀ n,p n=true→E' (ρ n)=E n):∀ (x:I) (cs:List Value),x.only p=true→(al w D E' (x.bu ρ) cs↔al w D E x cs)
 | .agg fs,cs,ho=>by simp only[al,I.bu,I.only] at *;exact aN.bu aF fs cs ho
 | .bool b,cs,_ | .int k n,cs,_ | .bm s,cs,_ | .nilp,cs,_ | .dK,cs,_ | .dL,cs,_ | .any,cs,_ | .raw _,cs,_ | .nils _,cs,_ | .c0 _,cs,_ | .undef,cs,_ | .dF,cs,_ | .tuple _,cs,_=>by simp only[al,I.bu]
 | .slice sz es,cs,ho=>by
  simp only[al,I.bu,I.only,sj] at *;have e1:(I.ee ρ es=[])↔es=[]:=by rw[←List.length_eq_zero_iff,sj,List.length_eq_zero_iff]
  have e2:(∀ e∈I.ee ρ es,e.size=sz)↔∀ e∈es,e.size=sz:=by
   rw[sk];constructor
   ·intro h e he;rw[←si ρ e];exact h _ (zy9.2 ⟨e,he,rfl⟩)
   ·intro h e he;obtain ⟨e',he',rfl⟩:=zy9.1 he;rw[si];exact h _ he'
  simp only[e1,e2];constructor
  ·rintro ⟨a,cap,J,U,af,ar,h5⟩;refine ⟨a,cap,J,U,af,?_,h5⟩;rcases ar with ar | ⟨b,off,cs',h6,h7,h8⟩
   ·exact .inl ar
   ·exact .inr ⟨b,off,cs',h6,h7,(aN.bu aF es cs' ho).1 h8⟩
  ·rintro ⟨a,cap,J,U,af,ar,h5⟩;refine ⟨a,cap,J,U,af,?_,h5⟩;rcases ar with ar | ⟨b,off,cs',h6,h7,h8⟩
   ·exact .inl ar
   ·exact .inr ⟨b,off,cs',h6,h7,(aN.bu aF es cs' ho).2 h8⟩
 | .ref x,cs,ho=>by
  simp only[al,I.bu,I.only] at *;constructor
  ·rintro ⟨b,off,cs',J,U,af⟩;exact ⟨b,off,cs',J,U,(al.bu aF x cs' ho).1 af⟩
  ·rintro ⟨b,off,cs',J,U,af⟩;exact ⟨b,off,cs',J,U,(al.bu aF x cs' ho).2 af⟩
 | .func f caps,cs,ho=>by
  simp only[al,I.bu,I.only] at *;constructor
  ·rintro ⟨vs,J,U⟩;exact ⟨vs,J,(aH.bu aF caps vs ho).1 U⟩
  ·rintro ⟨vs,J,U⟩;exact ⟨vs,J,(aH.bu aF caps vs ho).2 U⟩
 | .iface t v,cs,ho=>by
  simp only[al,I.bu,I.only,Hg] at *;constructor
  ·rintro ⟨u,cs',J,U,af⟩;exact ⟨u,cs',J,U,(al.bu aF v cs' ho).1 af⟩
  ·rintro ⟨u,cs',J,U,af⟩;exact ⟨u,cs',J,U,(al.bu aF v cs' ho).2 af⟩
 | .ptr n p,cs,ho=>by simp only[al,I.bu,I.only] at *;rw[aF n ho]
 | .own n k,cs,ho=>by simp only[al,I.bu,I.only] at *;rw[aF n ho]
 | .view n p _ _ _,cs,ho=>by simp only[al,I.bu,I.only] at *;rw[aF n ho]
 | .mref n,cs,ho=>by simp only[al,I.bu,I.only] at *;rw[aF n ho]
 | .dC n,cs,ho=>by simp only[al,I.bu,I.only] at *;rw[aF n ho]
 | .dx ks vs,cs,ho=>by
  simp only[al,I.bu,I.only,zz0] at *;constructor
  ·rintro ⟨b,es,ck,J,U,af,ar⟩;exact ⟨b,es,ck,J,U,(aH.bu aF ks _ ho.1).1 af,(aH.bu aF vs _ ho.2).1 ar⟩
  ·rintro ⟨b,es,ck,J,U,af,ar⟩;exact ⟨b,es,ck,J,U,(aH.bu aF ks _ ho.1).2 af,(aH.bu aF vs _ ho.2).2 ar⟩
theorem aN.bu{w:World}{D:aS}{E E':bf}{p:Nat→Bool}{ρ:Nat→Nat}(aF:∀ n,p n=true→E' (ρ n)=E n):∀ (xs:List I) (cs:List Value),I.b8 p xs=true→(aN w D E' (I.ee ρ xs) cs↔aN w D E xs cs)
 | [],cs,_=>by simp only[aN,I.ee]
 |x::xs,cs,ho=>by
  simp only[aN,I.ee,I.b8,zz0] at *;constructor
  ·rintro ⟨c1,c2,J,U,af⟩;exact ⟨c1,c2,J,(al.bu aF x c1 ho.1).1 U,(aN.bu aF xs c2 ho.2).1 af⟩
  ·rintro ⟨c1,c2,J,U,af⟩;exact ⟨c1,c2,J,(al.bu aF x c1 ho.1).2 U,(aN.bu aF xs c2 ho.2).2 af⟩
theorem aH.bu{w:World}{D:aS}{E E':bf}{p:Nat→Bool}{ρ:Nat→Nat}(aF:∀ n,p n=true→E' (ρ n)=E n):∀ (xs:List I) (vs:List Value),I.b8 p xs=true→(aH w D E' (I.ee ρ xs) vs↔aH w D E xs vs)
 | [],vs,_=>by simp only[aH,I.ee]
 |x::xs,vs,ho=>by
  simp only[aH,I.ee,I.b8,zz0,Hg] at *;constructor
  ·rintro ⟨v,rest,cs,J,U,af,ar⟩;exact ⟨v,rest,cs,J,U,(al.bu aF x cs ho.1).1 af,(aH.bu aF xs rest ho.2).1 ar⟩
  ·rintro ⟨v,rest,cs,J,U,af,ar⟩;exact ⟨v,rest,cs,J,U,(al.bu aF x cs ho.1).2 af,(aH.bu aF xs rest ho.2).2 ar⟩
end
theorem a8.bu{w:World}{D:aS}{E E':bf}{p:Nat→Bool}{ρ:Nat→Nat}(aF:∀ n,p n=true→E' (ρ n)=E n){x:I}{v:Value}(ho:x.only p=true):a8 w D E' (x.bu ρ) v↔a8 w D E x v:=by
 cases x <;>first
  |(simp only[a8,I.bu];done)
  |(simp only[a8,I.bu,I.only] at ho ⊢
    constructor
    ·rintro ⟨vs,J,U⟩;exact ⟨vs,J,(aH.bu aF _ _ ho).1 U⟩
    ·rintro ⟨vs,J,U⟩;exact ⟨vs,J,(aH.bu aF _ _ ho).2 U⟩)
  |(have key:=fun x cs=>al.bu (w:=w) (D:=D) aF x cs
    refine exists_congr fun cs=>and_congr ?_ ?_
    ·first | exact Iff.rfl | simp only[bC,I.bu,I.isAgg]
    ·first | exact key _ cs ho | (have h:=key _ cs ho;simpa only[I.bu] using h))
mutual
/-- Values that read no memory: but they may name objects. -/
def I.eL:I→Bool
 | .agg fs | .tuple fs=>I.ku fs
 | .func _ caps=>I.ku caps
 | .iface _ v=>v.eL
 | .slice _ es=>es.isEmpty
 | .ref _ | .dx _ _=>false
 |_=>true
def I.ku:List I→Bool
 | []=>true
 |x::xs=>x.eL&&I.ku xs
end
def aq.eL:aq→Bool
 | .box x=>x.eL
 | .bV _ _ es=>I.ku es
 | .dT _ _=>true
 | .dR _=>true
 | .bD ks vs=>I.ku ks&&I.ku vs
 | .it .. =>false
mutual
theorem al.eL{w w':World}{D D':aS}{E:bf} : ∀ (x:I) (cs:List Value),x.eL=true→al w D E x cs→al w' D' E x cs
 | .agg fs,cs,hf,hr=>by simp only[al,I.eL] at *;exact aN.eL fs cs hf hr
 | .bool b,cs,_,hr | .int k n,cs,_,hr | .bm s,cs,_,hr | .nilp,cs,_,hr | .dK,cs,_,hr | .dL,cs,_,hr | .any,cs,_,hr | .raw _,cs,_,hr | .nils _,cs,_,hr | .c0 _,cs,_,hr
 | .ptr _ _,cs,_,hr | .own _ _,cs,_,hr | .view _ _ _ _ _,cs,_,hr | .mref _,cs,_,hr | .dC _,cs,_,hr=>by simpa only[al] using hr
 | .func f caps,cs,hf,hr=>by
  simp only[al,I.eL] at *;obtain ⟨vs,J,U⟩:=hr;exact ⟨vs,J,aH.eL caps vs hf U⟩
 | .iface t v,cs,hf,hr=>by
  simp only[al,I.eL] at *;obtain ⟨u,cs',J,U,af⟩:=hr;exact ⟨u,cs',J,U,al.eL v cs' hf af⟩
 | .slice sz es,cs,hf,hr=>by
  simp only[al,I.eL,List.isEmpty_iff] at *;subst hf;obtain ⟨a,cap,J,U,af,_,h5⟩:=hr;exact ⟨a,cap,J,U,af,.inl rfl,h5⟩
 | .ref _,_,hf,_ | .dx _ _,_,hf,_=>by simp[I.eL] at hf
 | .undef,_,_,hr | .dF,_,_,hr | .tuple _,_,_,hr=>by simp only[al] at hr
theorem aN.eL{w w':World}{D D':aS}{E:bf} : ∀ (xs:List I) (cs:List Value),I.ku xs=true→aN w D E xs cs→aN w' D' E xs cs
 | [],cs,_,hr=>by simpa only[aN] using hr
 |x::xs,cs,hf,hr=>by
  simp only[aN,I.ku,zz0] at *;obtain ⟨c1,c2,J,U,af⟩:=hr;exact ⟨c1,c2,J,al.eL x c1 hf.1 U,aN.eL xs c2 hf.2 af⟩
theorem aH.eL{w w':World}{D D':aS}{E:bf} : ∀ (xs:List I) (vs:List Value),I.ku xs=true→aH w D E xs vs→aH w' D' E xs vs
 | [],vs,_,hr=>by simpa only[aH] using hr
 |x::xs,vs,hf,hr=>by
  simp only[aH,I.ku,zz0] at *;obtain ⟨v,rest,cs,J,U,af,ar⟩:=hr;exact ⟨v,rest,cs,J,U,al.eL x cs hf.1 af,aH.eL xs rest hf.2 ar⟩
end
theorem a8.eL{w w':World}{D D':aS}{E:bf}{x:I}{v:Value}(hf:x.eL=true)(hr:a8 w D E x v):a8 w' D' E x v:=by
 cases x <;>simp only[a8] at * <;>first
  |exact hr
  |(obtain ⟨vs,J,U⟩:=hr;exact ⟨vs,J,aH.eL _ _ (by simpa[I.eL] using hf) U⟩)
  |(obtain ⟨cs,J,U⟩:=hr;exact ⟨cs,J,al.eL _ _ hf U⟩)
def dN(ρ:List (Nat×Nat))(os:List (Nat×aq)):List (Nat×aq):=os.map fun q=>(bP ρ q.1,q.2.bu (bP ρ))
def pre(ρ:List (Nat×Nat))(os:List (Nat×aq))(n:Nat):Option Nat:=(os.find? fun q=>bP ρ q.1==n).map (·.1)
theorem xR{os:List (Nat×aq)}{m:Nat} : ay os m=true↔∃ q∈os,q.1=m:=by
 induction os with
 |nil=>simp[ay,ak]
 |cons q os ih =>
  obtain ⟨k,v⟩:=q;simp only[ay,ak] at *;by_cases h:m=k
  ·subst h;simp
  ·simp only[if_neg h,ih,zx3,Prod.exists,exists_and_right,exists_eq_right];constructor
   ·rintro ⟨a,b⟩;exact ⟨a,.inr b⟩
   ·rintro ⟨a,b | b⟩
    ·cases b;exact absurd rfl h
    ·exact ⟨a,b⟩
theorem lY{ρ:List (Nat×Nat)}{os:List (Nat×aq)}{n m:Nat}(h:pre ρ os n=some m):ay os m=true∧bP ρ m=n:=by
 simp only[pre,t8] at h;obtain ⟨q,hq,rfl⟩:=h;exact ⟨xR.2 ⟨q,List.mem_of_find?_eq_some hq,rfl⟩,by simpa using List.find?_some hq⟩
theorem yQ{ρ:List (Nat×Nat)}{os:List (Nat×aq)}{n m:Nat}(h:pre ρ os n=none)(hm:ay os m=true):bP ρ m≠n:=by
 simp only[pre,Option.map_eq_none_iff,List.find?_eq_none] at h;obtain ⟨q,hq,rfl⟩:=xR.1 hm;simpa using h q hq
theorem rS(ρ:List (Nat×Nat))(os os0:List (Nat×aq))(n:Nat):ak (dN ρ os++os0) n=match pre ρ os n with
  |some m=>(ak os m).map (aq.bu (bP ρ))
  |none=>ak os0 n:=by
 induction os with
 |nil=>simp[dN,pre]
 |cons q os ih =>
  obtain ⟨k,v⟩:=q;simp only[dN,zz5,zy1,ak,pre,List.find?_cons] at *;by_cases h:bP ρ k=n
  ·subst h;simp
  ·rw[if_neg (Ne.symm h)];have hb:(bP ρ k==n)=false:=by simpa using h
   rw[hb,ih];simp only;cases hf:os.find? (fun q=>bP ρ q.1==n) with
   |none=>rfl
   |some q =>
    simp only[zz9];have hq:=List.find?_some hf;have hne:q.1≠k:=fun e=>h (by rw[←e];simpa using hq);rw[if_neg hne]
def aF(ρ:List (Nat×Nat))(os:List (Nat×aq))(E:bf):bf:=fun n=>if ay os n then E (bP ρ n) else none
structure gG (ρ:List (Nat×Nat)) (os os0:List (Nat×aq)):Prop where
 fV:∀ m x,ak os m=some x→ak os0 (bP ρ m)=some (x.bu (bP ρ))∧x.only (ay os)=true∧x.eG=true
 inj:∀ m m',ay os m=true→ay os m'=true→bP ρ m=bP ρ m'→m=m'
structure gX (aP:Bool) (ρ:List (Nat×Nat)) (os os0:List (Nat×aq)) (r:I) (os':List (Nat×aq)):Prop where
 fV:∀ m x,ak os' m=some x→x.only (ay os')=true∧x.eG=true∧(aP=true→x.eL=true)
 inj:∀ m m',ay os' m=true→ay os' m'=true→bP ρ m=bP ρ m'→m=m'
 old:∀ m,ay os m=true→ay os' m=true
 qb:∀ m,ay os' m=true→ay os m=false→ak os0 (bP ρ m)=none∧bP ρ m<1000000
 zc:r.only (ay os')=true∧(aP=true→r.eL=true)
section
variable {c:cV} {a:Act} {w:World} {D:aS} {E:bf} {ts:List (Nat×I)} {os0 os:List (Nat×aq)} {ρ:List (Nat×Nat)}
theorem aX.given(ab:aX c (aw ts os0) a w D E)(hg:gG ρ os os0){m:Nat}(hm:ay os m=true):∃ x e,ak os m=some x∧aF ρ os E m=some e∧E (bP ρ m)=some e∧dc (fun _=>True) w D (aF ρ os E) m (some x) ∧
  ∀ b,e.aK=some b→c.fu b∧(∃ o,w.heap[b]?=some o∧yp o=true)∧b<w.heap.size∧(e.eG=true→∀ o,¬ D b o):=by
 cases hx:ak os m with
 |none=>simp[ay,hx] at hm
 |some x =>
  obtain ⟨J,U,af⟩:=hg.fV m x hx;have ho:=ab.bU (bP ρ m);simp only[aw] at ho;rw[J] at ho;have hEm:aF ρ os E m=E (bP ρ m):=by simp only[aF,hm,if_true]
  have hin:∀ n,ay os n=true→E (bP ρ n)=aF ρ os E n:=fun n hn=>by simp only[aF,hn,if_true]
  cases x with
  |bV T sz es =>
   obtain ⟨aK,k1,k2,k3⟩:=ho;rw[sj] at k1;have h2':I.b8 (ay os) es=true:=U;have k2':∀ e∈es,e.size=sz:=fun e he=>by rw[←si (bP ρ) e];exact k2 _ (by rw[sk];exact zy9.2 ⟨e,he,rfl⟩)
   refine ⟨_,_,rfl,hEm.trans k1,k1,⟨aK,hEm.trans k1,k2',?_⟩,fun b hb =>?_⟩
   ·cases aK with
    |none=>simp only[sk,List.map_eq_nil_iff] at k3;exact k3
    |some bc =>
     obtain ⟨b,cap⟩:=bc;obtain ⟨cs,pr,rest,q1,q2,q3,q4,q5,q6,q7,q8⟩:=k3;rw[sj] at q6;exact ⟨cs,pr,rest,trivial,q2,q3,(aN.bu (p:=ay os) hin es _ h2').1 q4,q5,q6,q7,q8⟩
   ·cases aK with
    |none=>cases hb
    |some bc =>
     obtain ⟨b',cap⟩:=bc;cases hb;obtain ⟨cs,pr,rest,q1,q2,_⟩:=k3;exact ⟨q1,⟨_,q2,rfl⟩,fX q2,fun h=>by cases h⟩
  |box y =>
   obtain ⟨b,cs,T,k1,k2,k3,k4,k5⟩:=ho;rw[zb] at k1;refine ⟨_,_,rfl,hEm.trans k1,k1,⟨b,cs,T,hEm.trans k1,trivial,k3,?_,k5⟩,fun b' hb =>?_⟩
   ·exact (al.bu (p:=ay os) hin y _ (by simpa[aq.only] using U)).1 k4
   ·cases hb;exact ⟨k2,⟨_,k3,rfl⟩,fX k3,fun _=>k5⟩
  |dR o =>
   obtain ⟨b,k1,k2,k3,k4,k5⟩:=ho;exact ⟨_,_,rfl,hEm.trans k1,k1,⟨b,hEm.trans k1,trivial,k3,k4,k5⟩,fun b' hb=>by cases hb;exact ⟨k2,⟨_,k3,aby k4⟩,fX k3,fun _=>k5⟩⟩
  |bD ks vs =>
   obtain ⟨b,es,ck,k1,k2,k3,k4,k5,k6,k7⟩:=ho;simp only[aq.only,zz0] at U;exact ⟨_,_,rfl,hEm.trans k1,k1,⟨b,es,ck,hEm.trans k1,trivial,k3,k4,(aH.bu (p:=ay os) hin ks _ U.1).1 k5,(aH.bu (p:=ay os) hin vs _ U.2).1 k6,k7⟩,
    fun b' hb=>by cases hb;exact ⟨k2,⟨_,k3,rfl⟩,fX k3,fun _=>k7⟩⟩
  |it ks vs left cur=>cases af
  |dT T xs =>
   obtain ⟨aK,k1,k2,k3⟩:=ho;refine ⟨_,_,rfl,hEm.trans k1,k1,⟨aK,hEm.trans k1,k2,?_⟩,fun b hb =>?_⟩
   ·cases aK with
    |none=>exact k3
    |some bc =>
     obtain ⟨b,cap⟩:=bc;obtain ⟨cs,r,q1,q2⟩:=k3;exact ⟨cs,r,trivial,q2⟩
   ·cases aK with
    |none=>cases hb
    |some bc =>
     obtain ⟨b',cap⟩:=bc;cases hb;obtain ⟨cs,r,q1,q2,_⟩:=k3;exact ⟨q1,⟨_,q2,rfl⟩,fX q2,fun h=>by cases h⟩
theorem aX.tW(ab:aX c (aw ts os0) a w D E)(hg:gG ρ os os0){b:Nat}(hb:cN (aF ρ os E) b):∃ m e,ay os m=true∧E (bP ρ m)=some e∧e.aK=some b∧c.fu b∧(∃ o,w.heap[b]?=some o∧yp o=true)∧b<w.heap.size:=by
 obtain ⟨m,e,J,U⟩:=hb;by_cases hm:ay os m=true
 ·obtain ⟨x,e',k1,k2,k3,k4,k5⟩:=ab.given hg hm;rw[k2,v6] at J;subst J;obtain ⟨q1,q2,q3,_⟩:=k5 b U;exact ⟨m,_,hm,k3,U,q1,q2,q3⟩
 ·simp[aF,hm] at J
theorem aX.Eb(ab:aX c (aw ts os0) a w D E)(hg:gG ρ os os0){D1:aS}(hD:∀ b o,D b o→D1 b o)(hown:∀ b o,D1 b o→cN (aF ρ os E) b→D b o):kh (fun _=>True) w D1 (aF ρ os E) (ak os):=by
 refine ⟨fun n =>?_,fun n m e e' b J U af ar =>?_⟩
 ·cases hx:ak os n with
  |none=>simp[dc,aF,ay,hx]
  |some x =>
   have hm:ay os n=true:=by simp[ay,hx]
   obtain ⟨y,e,k1,k2,k3,k4,k5⟩:=ab.given hg hm;rw[hx,v6] at k1;subst k1;refine k4.later (E':=aF ρ os E) ⟨hD,fun _ _ _ _ h=>h,fun _ _ _ h=>h,fun _ aK l h=>⟨aK,l,h,zz3 _,fun _=>rfl⟩,fun _ _ h=>h,fun _ _ h=>h,fun _ _ _ _ h=>h⟩ rfl fun e' b' he hb'=>⟨rfl,fun o ho =>?_⟩
   exact hown b' o ho ⟨n,e',he,hb'⟩
 ·have hn:ay os n=true:=by
   by_cases h:ay os n=true;· exact h
   ·simp[aF,h] at J
  have hm:ay os m=true:=by
    by_cases h:ay os m=true;· exact h
    ·simp[aF,h] at U
  simp only[aF,hn,hm,if_true] at J U;exact hg.inj n m hn hm (ab.cU _ _ e e' b J U af ar)
theorem aX.je(ab:aX c (aw ts os0) a w D E)(hg:gG ρ os os0){aP:Bool}{D1:aS}(hD:∀ b o,D b o→D1 b o)(hbx:aP=false→∀ b o,D1 b o→D b o){w':World}{D':aS}{E':bf}{v:Value}{r:I}{os':List (Nat×aq)}
  (hb:gX aP ρ os os0 r os') (hr:a8 w' D' E' r v) (bz:kh (fun b=>w.heap.size≤b∨cN (aF ρ os E) b) w' D' E' (ak os')) (hk:ft (fun b=>w.heap.size≤b∨cN (aF ρ os E) b) w w')
  (hlive:∀ b o,D' b o→b<w'.heap.size) (hup:∀ b o,D1 b o→D' b o) (hst:hZ w D1 w') (hold:∀ b o,D' b o→b<w.heap.size→¬ cN (aF ρ os E) b→D1 b o) (hbox:∀ n e,aF ρ os E n=some e→ay os' n=true→∃ e',E' n=some e'∧e.le e') :
  ∃ D2 E2,aX c (aw ts (dN ρ os'++os0)) a w' D2 E2∧a8 w' D2 E2 (r.bu (bP ρ)) v∧∀ m e,aF ρ os E m=some e→ay os' m=true→∃ e',E2 (bP ρ m)=some e'∧e.le e':=by
 obtain ⟨M1,hM1⟩:∃ M1:Nat→Prop,M1=fun b=>w.heap.size≤b∨cN (aF ρ os E) b:=⟨_,rfl⟩
 rw[←hM1] at bz hk;obtain ⟨D2,hD2⟩:∃ D2:aS,D2=fun b o=>D b o∨(M1 b∧D' b o):=⟨_,rfl⟩
 obtain ⟨E2,hE2⟩:∃ E2:bf,E2=fun n=>match pre ρ os' n with | some m=>E' m | none=>E n:=⟨_,rfl⟩
 have iV:∀ b,M1 b→c.fu b:=fun b hb'=>by
  rw[hM1] at hb';rcases hb' with h | h
  ·exact .inl (zu0 ab.dZ.size h)
  ·obtain ⟨m,e,_,_,_,af,_⟩:=ab.tW hg h;exact af
 have upD:∀ b o,D b o→D' b o:=fun b o ah=>hup b o (hD b o ah);have E2m:∀ m,ay os' m=true→E2 (bP ρ m)=E' m:=fun m hm=>by
  rw[hE2];simp only;cases hp:pre ρ os' (bP ρ m) with
  |none=>exact absurd rfl (yQ hp hm)
  |some m' =>
   obtain ⟨J,U⟩:=lY hp;rw[hb.inj m' m J hm U]
 have E2o:∀ n,pre ρ os' n=none→E2 n=E n:=fun n hn=>by rw[hE2];simp only[hn]
 -- a name that has a new meaning: one that was handed over,or one that was free
 have cas:∀ n m,pre ρ os' n=some m→(ay os m=true∧∃ e e',E n=some e∧E' m=some e'∧e.le e')∨(ay os m=false∧E n=none∧c.cP n=none):=fun n m hp=>by
  obtain ⟨J,U⟩:=lY hp;cases hm:ay os m with
  |true =>
   obtain ⟨y,e,k1,k2,k3,_⟩:=ab.given hg hm;rw[U] at k3;obtain ⟨e',q1,q2⟩:=hbox m e k2 J;exact .inl ⟨rfl,e,e',k3,q1,q2⟩
  |false =>
   obtain ⟨k1,k2⟩:=hb.qb m J hm;rw[U] at k1 k2;have ho:=ab.bU n;simp only[aw,k1] at ho;exact .inr ⟨rfl,ho,ab.jK (.inr k2)⟩
 have ao:ef w D E w' D2 E2:=by
  have rJ:∀ n e,E n=some e→∃ e',E2 n=some e'∧e.le e':=fun n e he=>by
   cases hp:pre ρ os' n with
   |none=>exact ⟨e,by rw[E2o n hp];exact he,.refl e⟩
   |some m =>
    rw[hE2];simp only[hp];rcases cas n m hp with ⟨_,e1,e2,k1,k2,k3⟩ | ⟨_,k1,_⟩
    ·rw[he] at k1;cases k1;exact ⟨e2,k2,k3⟩
    ·rw[he] at k1;cases k1
  have keepf:∀ n e,E n=some e→e.eG=true→E2 n=some e:=fun n e he hf=>by
   obtain ⟨e',k1,k2⟩:=rJ n e he;rw[k1,k2.eq hf]
  refine ⟨fun b o h=>by rw[hD2];exact .inl h,fun b o v' ah hv=>hst.cell b o v' (hD b o ah) hv,fun n b bg he=>keepf n _ he rfl,fun n aK l he =>?_,fun n b he=>keepf n _ he rfl,fun n b he=>keepf n _ he rfl,fun b es ck ah hm=>hst.jN b es ck (hD b 0 ah) hm⟩;obtain ⟨e',k1,k2⟩:=rJ n _ he;rcases k2 with rfl | ⟨_,_,blk',l',e,rfl,k3,k4⟩
  ·exact ⟨aK,l,k1,zz3 _,fun _=>rfl⟩
  ·cases e;exact ⟨blk',l',k1,k3,k4⟩
 -- blocks of names that were not handed over
 have other:∀ n e b,pre ρ os' n=none→E n=some e→e.aK=some b→¬ M1 b:=fun n e b hp he hb' hm=>by
  rw[hM1] at hm;rcases hm with h | h
  ·exact absurd (ab.gw he hb') (by omega)
  ·obtain ⟨m,e',J,U,af,_⟩:=ab.tW hg h;have:=ab.cU n (bP ρ m) e _ b he U hb' af;exact yQ hp (hb.old m J) this.symm
 have toD2:∀ {x:I} {cs:List Value},(aP=true→x.eL=true)→al w' D' E2 x cs→al w' D2 E2 x cs:=fun {x cs} hx h=>by
  cases hbb:aP with
  |true=>exact al.eL x cs (hx hbb) h
  |false =>
   refine al.later (E:=E2) ⟨fun b o ah =>?_,fun _ _ _ _ h=>h,fun _ _ _ h=>h,fun _ aK l h=>⟨aK,l,h,zz3 _,fun _=>rfl⟩,fun _ _ h=>h,fun _ _ h=>h,fun _ _ _ _ h=>h⟩ x cs h;rw[hD2];by_cases hm:M1 b
   ·exact .inr ⟨hm,ah⟩
   ·rw[hM1] at hm;exact .inl (hbx hbb b o (hold b o ah (Nat.lt_of_not_le fun h=>hm (.inl h)) fun h=>hm (.inr h)))
 have toD2c:∀ {xs:List I} {cs:List Value},I.b8 (ay os') xs=true→(aP=true→I.ku xs=true)→aN w' D' E' xs cs→aN w' D2 E2 (I.ee (bP ρ) xs) cs:=fun {xs cs} ho hx h=>by
  cases hbb:aP with
  |true=>exact (aN.bu (w:=w') (D:=D2) (p:=ay os') (ρ:=bP ρ) (E:=E') (E':=E2) (fun n hn=>E2m n hn) xs cs ho).2 (aN.eL xs cs (hx hbb) h)
  |false =>
   have U:=(aN.bu (w:=w') (D:=D') (p:=ay os') (ρ:=bP ρ) (E:=E') (E':=E2) (fun n hn=>E2m n hn) xs cs ho).2 h;refine aN.later (E:=E2) ⟨fun b o ah =>?_,fun _ _ _ _ h=>h,fun _ _ _ h=>h,fun _ aK l h=>⟨aK,l,h,zz3 _,fun _=>rfl⟩,fun _ _ h=>h,fun _ _ h=>h,fun _ _ _ _ h=>h⟩ _ cs U;rw[hD2];by_cases hm:M1 b
   ·exact .inr ⟨hm,ah⟩
   ·rw[hM1] at hm;exact .inl (hbx hbb b o (hold b o ah (Nat.lt_of_not_le fun h=>hm (.inl h)) fun h=>hm (.inr h)))
 have toD2s:∀ {xs:List I} {cs:List Value},I.b8 (ay os') xs=true→(aP=true→I.ku xs=true)→aH w' D' E' xs cs→aH w' D2 E2 (I.ee (bP ρ) xs) cs:=fun {xs cs} ho hx h=>by
  cases hbb:aP with
  |true=>exact (aH.bu (w:=w') (D:=D2) (p:=ay os') (ρ:=bP ρ) (E:=E') (E':=E2) (fun n hn=>E2m n hn) xs cs ho).2 (aH.eL xs cs (hx hbb) h)
  |false =>
   have U:=(aH.bu (w:=w') (D:=D') (p:=ay os') (ρ:=bP ρ) (E:=E') (E':=E2) (fun n hn=>E2m n hn) xs cs ho).2 h;refine aH.later (E:=E2) ⟨fun b o ah =>?_,fun _ _ _ _ h=>h,fun _ _ _ h=>h,fun _ aK l h=>⟨aK,l,h,zz3 _,fun _=>rfl⟩,fun _ _ h=>h,fun _ _ h=>h,fun _ _ _ _ h=>h⟩ _ cs U;rw[hD2];by_cases hm:M1 b
   ·exact .inr ⟨hm,ah⟩
   ·rw[hM1] at hm;exact .inl (hbx hbb b o (hold b o ah (Nat.lt_of_not_le fun h=>hm (.inl h)) fun h=>hm (.inr h)))
 refine ⟨D2,E2,⟨ab.sz,ab.eS.mono fun B _ hB =>?_,fun t=>a8.later ao (ab.eb t),ab.dZ.trans ⟨hk.os,hk.tape,hk.output,hk.size,fun k hk'=>hk.block k fun h=>hk' (iV k h)⟩,fun b o ah hm =>?_,fun b o ah =>?_,fun n =>?_,?_,fun n e hn =>?_,ab.fe,
  fun b o ah=>ao.dh b o (ab.cX b o ah),ab.fp,ab.lp ao⟩,?_,fun m e k1 k3=>by rw[E2m m k3];exact hbox m e k1 k3⟩
 ·refine (hk.block B fun hm =>?_).trans hB;rw[hM1] at hm;rcases hm with h | h
  ·exact absurd (zy4.1 hB).1 (by omega)
  ·obtain ⟨m,e,_,_,_,_,⟨o,ar,h5⟩,_⟩:=ab.tW hg h;rw[hB] at ar;cases ar;cases h5
 ·rw[hD2] at ah;rcases ah with ah | ⟨J,_⟩
  ·exact ab.dh b o ah hm
  ·exact absurd (iV b J) hm
 ·rw[hD2] at ah;rcases ah with ah | ⟨_,J⟩
  ·exact Nat.lt_of_lt_of_le (ab.aU b o ah) hk.size
  ·exact hlive b o J
 ·simp only[aw,rS];cases hp:pre ρ os' n with
  |none =>
   simp only;refine (ab.bU n).later ao (E2o n hp) fun e b he hb'=>⟨hk.block b (other n e b hp he hb'),fun o ho =>?_⟩
   rw[hD2] at ho;rcases ho with ho | ⟨J,_⟩
   ·exact ho
   ·exact absurd J (other n e b hp he hb')
  |some m =>
   simp only;obtain ⟨J,U⟩:=lY hp;cases hx:ak os' m with
   |none=>simp[ay,hx] at J
   |some x =>
    obtain ⟨k1,kf,k2⟩:=hb.fV m x hx;have ho:=bz.bU m;rw[hx] at ho;have noD:∀ b,(∀ o,¬ D' b o)→∀ o,¬ D2 b o:=fun b hno o ho=>by
     rw[hD2] at ho;rcases ho with ho | ⟨_,ho⟩
     ·exact hno o (upD b o ho)
     ·exact hno o ho
    cases x with
    |bV T sz es =>
     obtain ⟨aK,q1,q2,q3⟩:=ho;simp only[zz9,aq.bu,dc,sj];refine ⟨aK,by rw[←U,E2m m J];exact q1,fun e he =>?_,?_⟩
     ·rw[sk] at he;obtain ⟨e',he',rfl⟩:=zy9.1 he;rw[si];exact q2 e' he'
     ·cases aK with
      |none=>simp only at q3 ⊢;rw[q3];rfl
      |some bc =>
       obtain ⟨b,cap⟩:=bc;obtain ⟨cs,pr,rest,g1,g2,g3,g4,g5,g6,g7,g8⟩:=q3;refine ⟨cs,pr,rest,iV b g1,g2,g3,toD2c (by simpa[aq.only] using k1) (fun h=>by simpa[aq.eL] using k2 h) g4,g5,g6,g7,fun o ho =>?_⟩;rw[hD2] at ho;rcases ho with ho | ⟨_,ho⟩
       ·exact g8 o (upD b o ho)
       ·exact g8 o ho
    |dT T xs =>
     obtain ⟨aK,q1,q2,q3⟩:=ho;simp only[zz9,aq.bu,dc];refine ⟨aK,by rw[←U,E2m m J];exact q1,q2,?_⟩;cases aK with
     |none=>exact q3
     |some bc =>
      obtain ⟨b,cap⟩:=bc;obtain ⟨cs,r,g1,g2,g3,g4,g5,g6,g7⟩:=q3;exact ⟨cs,r,iV b g1,g2,g3,g4,g5,g6,noD b g7⟩
    |dR x =>
     obtain ⟨b,q1,q2,q3,q4,q5⟩:=ho;simp only[zz9,aq.bu,dc];exact ⟨b,by rw[←U,E2m m J];exact q1,iV b q2,q3,q4,noD b q5⟩
    |it ks vs left cur=>cases kf
    |bD ks vs =>
     obtain ⟨b,es,ck,q1,q2,q3,q4,q5,q6,q7⟩:=ho;simp only[zz9,aq.bu,dc];simp only[aq.only,zz0] at k1;simp only[aq.eL,zz0] at k2;exact ⟨b,es,ck,by rw[←U,E2m m J];exact q1,iV b q2,q3,q4,toD2s k1.1 (fun h=>(k2 h).1) q5,toD2s k1.2 (fun h=>(k2 h).2) q6,noD b q7⟩
    |box y =>
     obtain ⟨b,cs,T,q1,q2,q3,q4,q5⟩:=ho;simp only[zz9,aq.bu,dc];refine ⟨b,cs,T,by rw[zb,←U,E2m m J];exact q1,iV b q2,q3,?_,noD b q5⟩;have af:=(al.bu (w:=w') (D:=D') (p:=ay os') (ρ:=bP ρ) (E:=E') (E':=E2) (fun n hn=>E2m n hn) y cs.toList (by simpa[aq.only] using k1)).2 q4;cases hbb:aP with
     |true =>
      have ar:al w' D2 E' y cs.toList:=al.eL y _ (k2 hbb) q4;exact (al.bu (w:=w') (D:=D2) (p:=ay os') (ρ:=bP ρ) (E:=E') (E':=E2) (fun n hn=>E2m n hn) y cs.toList (by simpa[aq.only] using k1)).2 ar
     |false=>exact toD2 (fun h=>by rw[hbb] at h;cases h) af
 ·intro n m e e' b J U af ar;have blk':∀ n m e,pre ρ os' n=some m→E2 n=some e→e.aK=some b→M1 b∧E' m=some e:=fun n m e hp he hb'=>by
   obtain ⟨k1,k2⟩:=lY hp;rw[←k2,E2m m k1] at he;cases hx:ak os' m with
   |none=>simp[ay,hx] at k1
   |some x =>
    obtain ⟨_,kf,_⟩:=hb.fV m x hx;have ho:=bz.bU m;rw[hx] at ho;cases x with
    |bV T sz es =>
     obtain ⟨aK,q1,q2,q3⟩:=ho;rw[q1,v6] at he;subst he;cases aK with
     |none=>cases hb'
     |some bc =>
      obtain ⟨b',cap⟩:=bc;cases hb';obtain ⟨cs,pr,rest,g1,_⟩:=q3;exact ⟨g1,q1⟩
    |it ks vs left cur=>cases kf
    |dT T xs =>
     obtain ⟨aK,q1,q2,q3⟩:=ho;rw[q1,v6] at he;subst he;cases aK with
     |none=>cases hb'
     |some bc =>
      obtain ⟨b',cap⟩:=bc;cases hb';obtain ⟨cs,r,g1,_⟩:=q3;exact ⟨g1,q1⟩
    |bD ks vs =>
     obtain ⟨b',es,ck,q1,q2,_⟩:=ho;rw[q1,v6] at he;subst he;cases hb';exact ⟨q2,q1⟩
    |dR x =>
     obtain ⟨b',q1,q2,_⟩:=ho;rw[q1,v6] at he;subst he;cases hb';exact ⟨q2,q1⟩
    |box y =>
     obtain ⟨b',cs,T,q1,q2,_⟩:=ho;rw[q1,v6] at he;subst he;cases hb';exact ⟨q2,q1⟩
  cases hn:pre ρ os' n with
  |none =>
   have g1:E n=some e:=by rw[←E2o n hn];exact J
   cases hm:pre ρ os' m with
   |none=>exact ab.cU n m e e' b g1 (by rw[←E2o m hm];exact U) af ar
   |some m'=>exact absurd (blk' m m' e' hm U ar).1 (other n e b hn g1 af)
  |some n' =>
   have g1:=blk' n n' e hn J af;cases hm:pre ρ os' m with
   |none=>exact absurd g1.1 (other m e' b hm (by rw[←E2o m hm];exact U) ar)
   |some m' =>
    have g2:=blk' m m' e' hm U ar;have:=bz.cU n' m' e e' b g1.2 g2.2 af ar;rw[←(lY hn).2,←(lY hm).2,this]
 ·cases hp:pre ρ os' n with
  |none=>rw[E2o n hp];exact ab.ec n e hn
  |some m =>
   rcases cas n m hp with ⟨_,e1,e2,k1,k2,k3⟩ | ⟨_,_,k1⟩
   ·rcases ab.ec n e hn with h | ⟨e3,h,h'⟩
    ·rw[h] at k1;cases k1
    ·rw[k1,v6] at h;subst h
     right
     rw[hE2];simp only[hp];exact ⟨e2,k2,h'.trans k3⟩
   ·rw[hn] at k1;cases k1
 ·have af:=(a8.bu (w:=w') (p:=ay os') (ρ:=bP ρ) (E:=E') (E':=E2) (D:=D') (fun n hn=>E2m n hn) (v:=v) hb.zc.1).2 hr;cases hbb:aP with
  |true=>exact (a8.bu (w:=w') (p:=ay os') (ρ:=bP ρ) (E:=E') (E':=E2) (D:=D2) (fun n hn=>E2m n hn) (v:=v) hb.zc.1).2 (a8.eL (hb.zc.2 hbb) hr)
  |false =>
   refine a8.later (E:=E2) ⟨fun b o ah =>?_,fun _ _ _ _ h=>h,fun _ _ _ h=>h,fun _ aK l h=>⟨aK,l,h,zz3 _,fun _=>rfl⟩,fun _ _ h=>h,fun _ _ h=>h,fun _ _ _ _ h=>h⟩ af;rw[hD2];by_cases hm:M1 b
   ·exact .inr ⟨hm,ah⟩
   ·rw[hM1] at hm;exact .inl (hbx hbb b o (hold b o ah (Nat.lt_of_not_le fun h=>hm (.inl h)) fun h=>hm (.inr h)))
end
theorem vB(z:Array Value):∀ n:Nat,(Builtin.zeroCells z n).toList=(List.replicate n z.toList).flatten
 |0=>by simp[Builtin.zeroCells]
 |n+1=>by
  rw[List.replicate_succ,List.flatten_cons,←vB z n];apply List.ext_getElem?;intro i;by_cases hz:z.size=0
  ·have hz':z = #[]:=Array.eq_empty_of_size_eq_zero hz;subst hz';simp[Builtin.zeroCells]
  have hpos:0<z.size:=Nat.pos_of_ne_zero hz;by_cases hi:i<z.toList.length
  ·rw[zy6 hi];have hi':i<z.size:=by simpa using hi
   have J:i<(n+1)*z.size:=by rw[Nat.succ_mul];omega
   simp only[Builtin.zeroCells,Array.toList_map,Array.toList_range,zx4,List.getElem?_range J,zz9,Nat.mod_eq_of_lt hi'];simp[hi']
  ·rw[zv3 (by omega)];have hi':z.size≤i:=by simpa using hi
   simp only[Builtin.zeroCells,Array.toList_map,Array.toList_range,zx4,zx6];by_cases U:i<(n+1)*z.size
   ·have af:i-z.size<n*z.size:=by rw[Nat.succ_mul] at U;omega
    rw[List.getElem?_range U,List.getElem?_range af];simp only[zz9];rw[←Nat.mod_eq_sub_mod hi']
   ·have af:¬ i-z.size<n*z.size:=by rw[Nat.succ_mul] at U;omega
    rw[zv1 (by simpa using U),zv1 (by simpa using af)]
theorem sd{w:World}{D:aS}{E:bf}{z:I}{cs:List Value}(h:al w D E z cs):∀ n:Nat,aN w D E (List.replicate n z) (List.replicate n cs).flatten
 |0=>by simp[aN]
 |n+1=>by
  simp only[List.replicate_succ,List.flatten_cons,aN];exact ⟨cs,_,rfl,h,sd h n⟩
section
variable {c:cV} {A:ai} {a:Act} {w:World} {D:aS} {E:bf}
theorem aX.view(h:aX c A a w D E){n:Nat}{p:List Nat}{sz lo k:Nat}{v:Value}{fs:List I}(hv:a8 w D E (.view n p sz lo k) v)(hx:cM A (.ptr n p)=some (.agg fs)) :
  ∃ y b cs T off c1 c2 c3,A.o n=some (.box y)∧E n=some (.aP b y.bg)∧w.heap[b]?=some (.cells cs T (0,0))∧y.at p=some (.agg fs)∧y.bg.off p=some off∧cs.toList=c1++c2++c3∧c1.length=off∧aN w D E fs c2 ∧
   al w D E y cs.toList∧(∀ f∈fs,f.size=sz)∧lo+k≤fs.length∧fs.length≤maxLen∧v=.slice (some ⟨b,off+lo*sz,none⟩) k (fs.length-lo):=by
 obtain ⟨z,b',cs',T,off',c1,c2,c3,k1,k2,_,k3,k4,k5,k6,k7,k8,k9,_⟩:=h.at hx;obtain ⟨vs,g1,g2⟩:=hv;simp only[al] at g2;obtain ⟨b,bg,off,l,J,U,af,ar,h5,h6,h7⟩:=g2;rw[k2] at J;simp only[v6,bR.aP.injEq] at J;obtain ⟨rfl,rfl⟩:=J;rw[k5,v6] at U;subst U;rw[mX p z _ k4] at af;simp only[I.bg,v6,cW.db.injEq] at af;subst af;rw[I.dG,zz6] at ar h5 h6;refine ⟨z,b',cs',T,off',c1,c2,c3,k1,k2,k3,k4,k5,k6,k7,by simpa only[al] using k8,k9,HN h7,h6,h5,?_⟩;simpa[bC,I.isAgg,ar] using g1.symm
theorem aX.na(h:aX c A a w D E){sz:Nat}{x:I}{v:Value}{ys:List I}(hv:a8 w D E x v)(ab:dX A sz x=some ys) :
  ∃ ad cp news,v=.slice ad ys.length cp∧ys.length≤cp∧cp≤maxLen∧aN w D E ys news∧(∀ y∈ys,y.size=sz)∧(ys≠[]→∃ b o,ad=some ⟨b,o,none⟩∧∀ j u,news[j]?=some u→w.cell? ⟨b,o+j,none⟩=some u):=by
 cases x <;>simp only[dX] at ab <;>try (cases ab;done)
 case nils z =>
  simp only[v6] at ab;subst ab;obtain ⟨cs,q1,q2⟩:=hv;simp only[al] at q2;exact ⟨none,0,[],by simpa[bC,I.isAgg,q2] using q1.symm,by simp,by simp[maxLen],by simp[aN],by simp,fun h=>absurd rfl h⟩
 case c0 z =>
  simp only[v6] at ab;subst ab;obtain ⟨cs,q1,q2⟩:=hv;simp only[al] at q2;obtain ⟨ad,q2⟩:=q2;exact ⟨ad,0,[],by simpa[bC,I.isAgg,q2] using q1.symm,by simp,by simp[maxLen],by simp[aN],by simp,fun h=>absurd rfl h⟩
 case slice z es =>
  split at ab
  ·rename_i hz;simp only[v6] at ab;subst ab hz;obtain ⟨ad,cap,e1,e2,e3,e4,e5⟩:=nP hv;rcases e4 with rfl | ⟨b,off,cs,rfl,q1,q2⟩
   ·exact ⟨ad,cap,[],e1,e2,e3,by simp[aN],by simp,fun h=>absurd rfl h⟩
   ·exact ⟨_,cap,cs,e1,e2,e3,q2,e5,fun _=>⟨b,off,rfl,fun j u hj=>(q1 j u hj).1⟩⟩
  ·cases ab
 case own n l =>
  split at ab
  ·rename_i T z es hn;split at ab
   ·rename_i hz;obtain ⟨hz1,rfl⟩:=hz;simp only[v6] at ab;subst ab;obtain ⟨aK,k1,k2,k3⟩:=h.bV hn;obtain ⟨cs,q1,q2⟩:=hv;simp only[al] at q2;obtain ⟨blk',l',g1,g2,_,g4⟩:=q2;rw[k1] at g1;simp only[v6,bR.rw.injEq] at g1;obtain ⟨rfl,rfl⟩:=g1
    replace g4:=g4 hz1
    cases aK with
    |none =>
     simp only at k3 g4;subst k3;have hv':v=.slice none 0 0:=by rw[g4] at q1;simpa[bC,I.isAgg] using q1.symm
     exact ⟨none,0,[],hv',by simp,by simp[maxLen],by simp[aN],by simp,fun h=>absurd rfl h⟩
    |some bc =>
     obtain ⟨b,cap⟩:=bc;simp only at g4;obtain ⟨cs',pre,rest,k4,k5,k6,k7,k8,k9,k10,k11⟩:=k3;refine ⟨some ⟨b,0,none⟩,cap,pre,by rw[←hz1];simpa[bC,I.isAgg,g4] using q1.symm,k9,k10,k7,k2,fun _=>⟨b,0,rfl,fun j u hj =>?_⟩⟩;have:=(oQ (D:=fun _ _=>True) (c1:=[]) (c2:=pre) (c3:=rest) k5 (by simpa using k6) (fun _ _=>trivial)) j u hj;simpa using this.1
   ·cases ab
  ·cases ab
 case view n p z lo k =>
  split at ab
  ·rename_i fs hx;split at ab
   ·rename_i hk;obtain ⟨hk,rfl⟩:=hk;simp only[v6] at ab;subst ab;obtain ⟨y,b,cs,T,off,c1,c2,c3,k1,k2,k3,k4,k5,k6,k7,k8,k9,k10,k11,k12,rfl⟩:=h.view hv hx;obtain ⟨d1,d2,d3,rfl,q1,q2,q3⟩:=uX k8 k10 lo k hk;have hlen:((fs.drop lo).take k).length=k:=by rw[zx2,zw9];omega
    refine ⟨some ⟨b,off+lo*z,none⟩,fs.length-lo,d2,by rw[hlen],by rw[hlen];omega,by omega,q2,fun y hy=>k10 y (List.mem_of_mem_drop (List.mem_of_mem_take hy)),fun _=>⟨b,_,rfl,fun j u hj =>?_⟩⟩;have:=(oQ (D:=fun _ _=>True) (c1:=c1++d1) (c2:=d2) (c3:=d3++c3) k3 (by rw[k6];simp) (fun _ _=>trivial)) j u hj;rw[zz8,k7,q1] at this;exact this.1
   ·cases ab
  ·cases ab
theorem aX.jQ(h:aX c A a w D E){n:Nat}{p:List Nat}{sz j:Nat}{y:I}{fs ys:List I}{b off:Nat}{cs:Array Value}{T:TypeId}{c1 c2 c3 ds:List Value}(hn:A.o n=some (.box y))(aF:E n=some (.aP b y.bg))(hb:w.heap[b]?=some (.cells cs T (0,0)))
  (hat:y.at p=some (.agg fs)) (hoff:y.bg.off p=some off) (hcs:cs.toList=c1++c2++c3) (hc1:c1.length=off) (hfs:aN w D E fs c2) (hy:al w D E y cs.toList) (hsz:∀ f∈fs,f.size=sz) (hys:aN w D E ys ds) (hj:j+ys.length≤fs.length)
  (hsh:I.de ys=I.de ((fs.drop j).take ys.length)) (P:Program) :
  ∃ w',(storeCells ⟨b,off+j*sz,none⟩ ds 0).run P w=.ok () w'∧aX c (A.aT n (.box (y.ev p (.agg (fs.take j++(ys++fs.drop (j+ys.length))))))) a w' D E:=by
 obtain ⟨d1,d2,d3,rfl,q1,q2,q3⟩:=uX hfs hsz j ys.length hj;have hd1:aN w D E (fs.take j) d1:=by
  have e1:fs=fs.take j++fs.drop j:=(zv0 j fs).symm;rw[e1] at hfs;obtain ⟨e1,e2,he,k1,k2⟩:=uW _ _ _ hfs;have ao:e1.length=d1.length:=by
   rw[aN.length _ _ k1,I.iM _ (fun x hx=>hsz x (List.mem_of_mem_take hx)),q1,zx2];congr 1;omega
  have:e1=d1:=by
   have:=congrArg (List.take d1.length) he;rw[List.take_left,←ao,List.take_left] at this;exact this.symm
  rw[←this];exact k1
 have hlen:ds.length=d2.length:=by rw[aN.length _ _ hys,aN.length _ _ q2,←I.mY,←I.mY,hsh]
 have hds:al w D E (.agg (fs.take j++(ys++fs.drop (j+ys.length)))) (d1++(ds++d3)):=by
  simp only[al];refine kD _ _ _ _ hd1 (kD _ _ _ _ hys ?_);rw[List.drop_drop] at q3;exact q3
 have hshape:(I.agg (fs.take j++(ys++fs.drop (j+ys.length)))).bg=(I.agg fs).bg:=by
  simp only[I.bg,cW.db.injEq,I.dG,zy5];rw[←I.dG ys,hsh,I.dG,←zy5,←zy5]
  congr 1
  rw[←List.drop_drop,zv0,zv0]
 obtain ⟨off',g1,g2,g3,g4⟩:=uU p y _ _ _ _ hy hat hds hshape;rw[hoff,v6] at g1;subst g1;have hst:=run_storeCells_at P b (off+j*sz) T ds 0 cs w hb (by
  have:cs.size=cs.toList.length:=by simp
  rw[this,hcs];simp only[zz8];omega) (aN.mI _ _ hys)
 simp only[Nat.add_zero] at hst;refine ⟨_,hst,?_⟩;refine h.zu hn aF g4 ?_;have e:cs.toList.take (off+j*sz)++ds++cs.toList.drop (off+j*sz+ds.length)=cs.toList.take off++(d1++(ds++d3))++cs.toList.drop (off+(d1++(ds++d3)).length):=by
  rw[hcs];have t1:(c1++(d1++(d2++d3))++c3).take (off+j*sz)=c1++d1:=by
   rw[←hc1,←q1,zy3,List.take_length_add_append,zy3,List.take_left]
  have t2:(c1++(d1++(d2++d3))++c3).drop (off+j*sz+ds.length)=d3++c3:=by
   rw[←hc1,←q1,hlen,zy3,Nat.add_assoc,List.drop_length_add_append,zy3,List.drop_length_add_append,zy3,List.drop_left]
  have t3:(c1++(d1++(d2++d3))++c3).take off=c1:=by rw[←hc1,zy3,List.take_left]
  have t4:(c1++(d1++(d2++d3))++c3).drop (off+(d1++(ds++d3)).length)=c3:=by
   have:(d1++(ds++d3)).length=(d1++(d2++d3)).length:=by simp[hlen]
   rw[this,←hc1,zy3,List.drop_length_add_append,List.drop_left]
  rw[t1,t2,t3,t4];simp
 rw[e];simpa using g3
end
end Go.Abs
