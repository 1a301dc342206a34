/-
  A part of the proof that the law HerdCounts returns true for every input; conditions: none beyond the statement's own. (part 1 of 7)
-/
import Derived.WalkKit
import Derived.Orders
import Derived.Still
import Derived.RangeFuncSeq
import Derived.RangeFuncLeaves
import Derived.RangeFuncOwn
import Derived.Great.FillDense
import Derived.Great.BuildSlice
import Derived.ChangeKeysEq
import Derived.Laws.AppendOwn
import Derived.Lib.AppendZerosOnto
set_option linter.unusedSimpArgs false
set_option linter.unusedVariables false
set_option maxHeartbeats 16000000
set_option maxRecDepth 100000
namespace Go
theorem u8:type_of% @And.intro:=@And.intro
theorem t7:type_of% @Option.some.injEq:=@Option.some.injEq
theorem zz0:type_of% @Nat.le_of_ble_eq_true:=@Nat.le_of_ble_eq_true
theorem zz1:type_of% @Option.map_eq_some_iff:=@Option.map_eq_some_iff
theorem zz2:type_of% @List.getD_eq_getElem?_getD:=@List.getD_eq_getElem?_getD
theorem zz3:type_of% @Bool.and_eq_true:=@Bool.and_eq_true
theorem zz4:type_of% @Nat.zero_add:=@Nat.zero_add
theorem zz5:type_of% @List.append_assoc:=@List.append_assoc
theorem zz6:type_of% @Bool.false_eq_true:=@Bool.false_eq_true
theorem zz7:type_of% @List.length_append:=@List.length_append
theorem zz8:type_of% @Nat.le_refl:=@Nat.le_refl
theorem zz9:type_of% @List.map_cons:=@List.map_cons
theorem zy0:type_of% @List.getElem?_eq_getElem:=@List.getElem?_eq_getElem
theorem zy1:type_of% @List.cons_append:=@List.cons_append
theorem zy2:type_of% @List.take_succ_eq_append_getElem:=@List.take_succ_eq_append_getElem
theorem zy3:type_of% @List.length_map:=@List.length_map
theorem zy4:type_of% @List.getElem?_eq_some_iff:=@List.getElem?_eq_some_iff
theorem zy5:type_of% @Option.map_some:=@Option.map_some
theorem zy6:type_of% @List.mem_append:=@List.mem_append
theorem zy7:type_of% @List.nil_append:=@List.nil_append
theorem zy8:type_of% @List.length_take:=@List.length_take
theorem zy9:type_of% @List.length_drop:=@List.length_drop
theorem zx0:type_of% @List.getElem?_append_left:=@List.getElem?_append_left
theorem zx1:type_of% @List.take_append_drop:=@List.take_append_drop
theorem zx2:type_of% @List.mem_map:=@List.mem_map
theorem zx3:type_of% @List.map_nil:=@List.map_nil
theorem zx4:type_of% @List.map_append:=@List.map_append
theorem zx5:type_of% @List.append_nil:=@List.append_nil
theorem zx6:type_of% @List.getElem_mem:=@List.getElem_mem
theorem zx7:type_of% @Array.getElem?_eq_some_iff:=@Array.getElem?_eq_some_iff
theorem zx8:type_of% @List.mem_cons:=@List.mem_cons
theorem zx9:type_of% @List.all_eq_true:=@List.all_eq_true
theorem zw0:type_of% @List.getElem?_append_right:=@List.getElem?_append_right
theorem zw1:type_of% @List.filter_cons:=@List.filter_cons
theorem zw2:type_of% @Option.isSome_iff_exists:=@Option.isSome_iff_exists
theorem zw3:type_of% @Bool.and_self:=@Bool.and_self
theorem zw4:type_of% @List.mem_filter:=@List.mem_filter
theorem zw5:type_of% @List.getElem?_map:=@List.getElem?_map
theorem zw6:type_of% @List.take_append_of_le_length:=@List.take_append_of_le_length
theorem zw7:type_of% @List.mem_range:=@List.mem_range
theorem zw8:type_of% @List.take_of_length_le:=@List.take_of_length_le
theorem zw9:type_of% @List.pairwise_cons:=@List.pairwise_cons
theorem zv0:type_of% @Array.length_toList:=@Array.length_toList
theorem zv1:type_of% @Nat.zero_le:=@Nat.zero_le
theorem zv2:type_of% @List.drop_eq_nil_of_le:=@List.drop_eq_nil_of_le
theorem zv3:type_of% @List.drop_eq_getElem_cons:=@List.drop_eq_getElem_cons
theorem zv4:type_of% @List.length_eq_zero_iff:=@List.length_eq_zero_iff
theorem zv5:type_of% @List.filter_nil:=@List.filter_nil
theorem zv6:type_of% @Array.getElem?_toList:=@Array.getElem?_toList
theorem zv7:type_of% @List.mem_singleton:=@List.mem_singleton
theorem zv8:type_of% @List.length_filter_le:=@List.length_filter_le
theorem zv9:type_of% @List.length_cons:=@List.length_cons
theorem zu0:type_of% @Nat.le_trans:=@Nat.le_trans
theorem zu1:type_of% @Nat.add_mul:=@Nat.add_mul
end Go
namespace Go.Abs
open Go
inductive I where
 |undef | de
 |bool (b:Bool)
 |int (k:IntKind) (n:Int)
 |c6 (s:ByteArray)
 |nilp | dh | dW
 |raw (v:Value)
 |nils (sz:Nat)
 |c0 (sz:Nat)
 |slice (sz:Nat) (es:List I)
 |agg (fs:List I)
 |tuple (fs:List I)
 |ref (c:I)
 |func (f:FuncId) (caps:List I)
 |iface (t:TypeId) (v:I)
 |ptr (n:Nat) (p:List Nat)
 |own (n:Nat) (k:Nat)
 |view (n:Nat) (p:List Nat) (sz lo k:Nat)
 |mref (n:Nat)
 |dx (n:Nat)
 |cM (ks vs:List I)
 deriving Inhabited
inductive cW where
 |one
 |ej (l:List cW)
 deriving Inhabited
mutual
def cW.size:cW→Nat
 | .one=>1
 | .ej l=>cW.sizes l
def cW.sizes:List cW→Nat
 | []=>0
 |s::l=>s.size+cW.sizes l
end
mutual
def I.aS:I→cW
 | .agg fs=>.ej (I.cU fs)
 |_=>.one
def I.cU:List I→List cW
 | []=>[]
 |f::fs=>f.aS::I.cU fs
end
mutual
def I.size:I→Nat
 | .agg fs=>I.sizes fs
 |_=>1
def I.sizes:List I→Nat
 | []=>0
 |f::fs=>f.size+I.sizes fs
end
def I.isAgg:I→Bool
 | .agg _=>true
 |_=>false
def cW.off:cW→List Nat→Option Nat
 |_,[]=>some 0
 | .one,_::_=>none
 | .ej l,i::p=>match l[i]? with
  |some s=>(s.off p).map (cW.sizes (l.take i) + ·)
  |none=>none
def cW.part:cW→List Nat→Option cW
 |s,[]=>some s
 | .one,_::_=>none
 | .ej l,i::p=>match l[i]? with
  |some s=>s.part p
  |none=>none
def I.at:I→List Nat→Option I
 |c,[]=>some c
 | .agg fs,i::p=>match fs[i]? with
  |some f=>f.at p
  |none=>none
 |_,_::_=>none
def I.dM:I→List Nat→I→I
 |_,[],v=>v
 | .agg fs,i::p,v=>match fs[i]? with
  |some f=>.agg (fs.set i (f.dM p v))
  |none=>.agg fs
 |c,_::_,_=>c
inductive bS where
 |aD (b:Nat) (aS:cW)
 |rw (aE:Option (Nat×Nat)) (len:Nat)
 |op (b:Nat)
 |cC (b:Nat)
 |it (b:Nat)
def bS.eR:bS→Bool
 | .rw _ _=>false
 |_=>true
def bS.le(e e':bS):Prop:=e'=e∨∃ aE l blk' l',e=.rw aE l∧e'=.rw blk' l'∧l≤l'∧(l'=l→blk'=aE)
theorem bS.le.refl(e:bS):e.le e:=.inl rfl
theorem bS.le.eq{e e':bS}(h:e.le e')(hf:e.eR=true):e'=e:=by
 rcases h with h | ⟨aE,l,blk',l',rfl,_⟩
 ·exact h
 ·cases hf
theorem bS.le.trans{a b c:bS}(h:a.le b)(k:b.le c):a.le c:=by
 rcases h with rfl | ⟨aE,l,blk',l',rfl,rfl,h1,h2⟩
 ·exact k
 ·rcases k with rfl | ⟨_,_,blk2,l2,e,rfl,h3,h4⟩
  ·exact .inr ⟨aE,l,blk',l',rfl,rfl,h1,h2⟩
  ·cases e;exact .inr ⟨aE,l,blk2,l2,rfl,rfl,by omega,fun e=>by rw[h4 (by omega),h2 (by omega)]⟩
abbrev aT:=Nat→Nat→Prop
abbrev aW:=Nat→Option bS
def gS(w:World)(D:aT)(b off:Nat)(cs:List Value):Prop :=
 ∀ j v,cs[j]?=some v→w.cell? ⟨b,off+j,none⟩=some v∧D b (off+j)
def qG(es:Array MapEntry)(clock:Nat):Prop:=(∀ x∈es.toList,x.born<clock)∧(es.toList.map (·.born)).Nodup
def oX(w:World)(D:aT)(b:Nat)(es:Array MapEntry)(clock:Nat):Prop:=w.heap[b]?=some (.map es clock)∧D b 0∧qG es clock
def bM(e:I)(v:Value)(cs:List Value):Prop:=if e.isAgg then v=.agg cs.toArray else cs=[v]
mutual
/-- These cells hold this value. -/
def ai(w:World)(D:aT)(E:aW):I→List Value→Prop
 | .agg fs,cs=>aL w D E fs cs
 | .bool b,cs=>cs=[.bool b]
 | .int k n,cs=>cs=[.int k n]∧k.min≤n∧n≤k.max
 | .c6 s,cs=>cs=[.string s]∧s.size≤maxLen
 | .nilp,cs=>cs=[.pointer none]
 | .dh,cs=>cs=[.nilFunc]
 | .dW,cs=>cs=[.nilIface]
 | .raw u,cs=>cs=[u]∧u.oneCell'=true
 | .nils _,cs=>cs=[.slice none 0 0]
 | .c0 _,cs=>∃ a,cs=[.slice a 0 0]
 | .slice sz es,cs=>∃ a cap,cs=[.slice a es.length cap]∧es.length≤cap∧cap≤maxLen ∧
   (es=[]∨∃ b off cs',a=some ⟨b,off,none⟩∧gS w D b off cs'∧aL w D E es cs')∧∀ e∈es,e.size=sz
 | .ref c,cs=>∃ b off cs',cs=[.pointer (some ⟨b,off,none⟩)]∧gS w D b off cs'∧ai w D E c cs'
 | .func f caps,cs=>∃ vs:List Value,cs=[.func (.func f) #[] vs.toArray]∧aJ w D E caps vs
 | .iface t v,cs=>∃ u cs',cs=[.iface t u]∧bM v u cs'∧ai w D E v cs'
 | .ptr n p,cs=>∃ b aS off,E n=some (.aD b aS)∧aS.off p=some off∧cs=[.pointer (some ⟨b,off,none⟩)]
 | .own n k,cs=>∃ aE l,E n=some (.rw aE l)∧k≤l∧(∃ a m c,cs=[.slice a m c]) ∧
   (k=l→match aE with | none=>cs=[.slice none 0 0] | some (b,cap)=>cs=[.slice (some ⟨b,0,none⟩) k cap])
 | .view n p sz lo k,cs=>∃ b aS off l,E n=some (.aD b aS)∧aS.off p=some off∧aS.part p=some (.ej l)∧cs=[.slice (some ⟨b,off+lo*sz,none⟩) k (l.length-lo)]∧l.length≤maxLen∧lo+k≤l.length∧∀ s∈l,s.size=sz
 | .mref n,cs=>∃ b,E n=some (.cC b)∧cs=[.map (some b)]
 | .dx n,cs=>∃ b,E n=some (.it b)∧cs=[.pointer (some ⟨b,0,none⟩)]
 | .cM ks vs,cs=>∃ b es clock,cs=[.map (some b)]∧oX w D b es clock∧aJ w D E ks (es.toList.map (·.key))∧aJ w D E vs (es.toList.map (·.val))
 | .undef,_ | .de,_ | .tuple _,_=>False
def aL(w:World)(D:aT)(E:aW):List I→List Value→Prop
 | [],cs=>cs=[]
 |e::es,cs=>∃ c1 c2,cs=c1++c2∧ai w D E e c1∧aL w D E es c2
def aJ(w:World)(D:aT)(E:aW):List I→List Value→Prop
 | [],vs=>vs=[]
 |e::es,vs=>∃ v rest cs,vs=v::rest∧bM e v cs∧ai w D E e cs∧aJ w D E es rest
end
def aV(w:World)(D:aT)(E:aW)(x:I)(v:Value):Prop :=
 match x with
 | .undef=>v=undef
 | .de=>True
 | .tuple fs=>∃ vs:List Value,v=.tuple vs.toArray∧aJ w D E fs vs
 |x=>∃ cs,bM x v cs∧ai w D E x cs
structure dS (w:World) (D:aT) (E:aW) (w':World) (D':aT) (E':aW):Prop where
 da:∀ b o,D b o→D' b o
 cell:∀ b o v,D b o→w.cell? ⟨b,o,none⟩=some v→w'.cell? ⟨b,o,none⟩=some v
 aD:∀ n b aS,E n=some (.aD b aS)→E' n=some (.aD b aS)
 rw:∀ n aE l,E n=some (.rw aE l)→∃ blk' l',E' n=some (.rw blk' l')∧l≤l'∧(l'=l→blk'=aE)
 cC:∀ n b,E n=some (.cC b)→E' n=some (.cC b)
 it:∀ n b,E n=some (.it b)→E' n=some (.it b)
 iF:∀ b es ck,D b 0→w.heap[b]?=some (.map es ck)→w'.heap[b]?=some (.map es ck)
structure iy (w:World) (D:aT) (w':World):Prop where
 cell:∀ b o v,D b o→w.cell? ⟨b,o,none⟩=some v→w'.cell? ⟨b,o,none⟩=some v
 iF:∀ b es ck,D b 0→w.heap[b]?=some (.map es ck)→w'.heap[b]?=some (.map es ck)
theorem iy.refl(w:World)(D:aT):iy w D w:=⟨fun _ _ _ _ h=>h,fun _ _ _ _ h=>h⟩
theorem iy.trans{w w' w'':World}{D D':aT}(h:iy w D w')(hD:∀ b o,D b o→D' b o)(k:iy w' D' w''):iy w D w'' :=
 ⟨fun b o v ae hv=>k.cell b o v (hD b o ae) (h.cell b o v ae hv),fun b es ck ae hm=>k.iF b es ck (hD b 0 ae) (h.iF b es ck ae hm)⟩
theorem dS.fI{w w':World}{D D':aT}{E E':aW}(h:dS w D E w' D' E'):iy w D w':=⟨h.cell,h.iF⟩
theorem oX.bN{w w':World}{D D':aT}{E E':aW}(h:dS w D E w' D' E'){b:Nat}{es:Array MapEntry}{clock:Nat}(hr:oX w D b es clock):oX w' D' b es clock :=
 ⟨h.iF _ _ _ hr.2.1 hr.1,h.da _ _ hr.2.1,hr.2.2⟩
theorem gS.bN{w w':World}{D D':aT}{E E':aW}(h:dS w D E w' D' E'){b off:Nat}{cs:List Value}(hr:gS w D b off cs):gS w' D' b off cs :=
 fun j v hj=>⟨h.cell _ _ _ (hr j v hj).2 (hr j v hj).1,h.da _ _ (hr j v hj).2⟩
mutual
theorem ai.bN{w w':World}{D D':aT}{E E':aW}(h:dS w D E w' D' E'):∀ (x:I) (cs:List Value),ai w D E x cs→ai w' D' E' x cs
 | .agg fs,cs,hr=>by simp only[ai] at *;exact aL.bN h fs cs hr
 | .bool b,cs,hr=>by simpa only[ai] using hr
 | .int k n,cs,hr=>by simpa only[ai] using hr
 | .c6 s,cs,hr=>by simpa only[ai] using hr
 | .nilp,cs,hr=>by simpa only[ai] using hr
 | .dh,cs,hr=>by simpa only[ai] using hr
 | .dW,cs,hr=>by simpa only[ai] using hr
 | .raw _,cs,hr=>by simpa only[ai] using hr
 | .nils _,cs,hr=>by simpa only[ai] using hr
 | .c0 _,cs,hr=>by simpa only[ai] using hr
 | .slice sz es,cs,hr=>by
  simp only[ai] at *;obtain ⟨a,cap,h1,h2,h3,h4,h5⟩:=hr;refine ⟨a,cap,h1,h2,h3,?_,h5⟩;rcases h4 with h4 | ⟨b,off,cs',h6,h7,h8⟩
  ·exact .inl h4
  ·exact .inr ⟨b,off,cs',h6,h7.bN h,aL.bN h es cs' h8⟩
 | .ref c,cs,hr=>by
  simp only[ai] at *;obtain ⟨b,off,cs',h1,h2,h3⟩:=hr;exact ⟨b,off,cs',h1,h2.bN h,ai.bN h c cs' h3⟩
 | .func f caps,cs,hr=>by
  simp only[ai] at *;obtain ⟨vs,h1,h2⟩:=hr;exact ⟨vs,h1,aJ.bN h caps vs h2⟩
 | .iface t v,cs,hr=>by
  simp only[ai] at *;obtain ⟨u,cs',h1,h2,h3⟩:=hr;exact ⟨u,cs',h1,h2,ai.bN h v cs' h3⟩
 | .ptr n p,cs,hr=>by
  simp only[ai] at *;obtain ⟨b,aS,off,h1,h2,h3⟩:=hr;exact ⟨b,aS,off,h.aD _ _ _ h1,h2,h3⟩
 | .own n k,cs,hr=>by
  simp only[ai] at *;obtain ⟨aE,l,h1,h2,h3,h4⟩:=hr;obtain ⟨blk',l',h5,h6,h7⟩:=h.rw _ _ _ h1;refine ⟨blk',l',h5,zu0 h2 h6,h3,fun e =>?_⟩;have e1:l'=l:=by omega
  rw[h7 e1];exact h4 (by omega)
 | .view n p _ _ _,cs,hr=>by
  simp only[ai] at *;obtain ⟨b,aS,off,l,h1,h2⟩:=hr;exact ⟨b,aS,off,l,h.aD _ _ _ h1,h2⟩
 | .mref n,cs,hr=>by
  simp only[ai] at *;obtain ⟨b,h1,h2⟩:=hr;exact ⟨b,h.cC _ _ h1,h2⟩
 | .dx n,cs,hr=>by
  simp only[ai] at *;obtain ⟨b,h1,h2⟩:=hr;exact ⟨b,h.it _ _ h1,h2⟩
 | .cM ks vs,cs,hr=>by
  simp only[ai] at *;obtain ⟨b,es,clock,h1,h2,h3,h4⟩:=hr;exact ⟨b,es,clock,h1,h2.bN h,aJ.bN h ks _ h3,aJ.bN h vs _ h4⟩
 | .undef,_,hr=>by simp only[ai] at hr
 | .de,_,hr=>by simp only[ai] at hr
 | .tuple _,_,hr=>by simp only[ai] at hr
theorem aL.bN{w w':World}{D D':aT}{E E':aW}(h:dS w D E w' D' E'):∀ (xs:List I) (cs:List Value),aL w D E xs cs→aL w' D' E' xs cs
 | [],cs,hr=>by simpa only[aL] using hr
 |x::xs,cs,hr=>by
  simp only[aL] at *;obtain ⟨c1,c2,h1,h2,h3⟩:=hr;exact ⟨c1,c2,h1,ai.bN h x c1 h2,aL.bN h xs c2 h3⟩
theorem aJ.bN{w w':World}{D D':aT}{E E':aW}(h:dS w D E w' D' E'):∀ (xs:List I) (vs:List Value),aJ w D E xs vs→aJ w' D' E' xs vs
 | [],vs,hr=>by simpa only[aJ] using hr
 |x::xs,vs,hr=>by
  simp only[aJ] at *;obtain ⟨v,rest,cs,h1,h2,h3,h4⟩:=hr;exact ⟨v,rest,cs,h1,h2,ai.bN h x cs h3,aJ.bN h xs rest h4⟩
end
theorem aV.bN{w w':World}{D D':aT}{E E':aW}(h:dS w D E w' D' E'){x:I}{v:Value}(hr:aV w D E x v):aV w' D' E' x v:=by
 cases x <;>simp only[aV] at * <;>first
  |exact hr
  |(obtain ⟨vs,h1,h2⟩:=hr;exact ⟨vs,h1,aJ.bN h _ _ h2⟩)
  |(obtain ⟨cs,h1,h2⟩:=hr;exact ⟨cs,h1,ai.bN h _ _ h2⟩)
mutual
theorem I.my:∀ x:I,x.aS.size=x.size
 | .agg fs=>by simp only[I.aS,I.size,cW.size];exact I.nf fs
 | .undef | .de | .bool _ | .int _ _ | .c6 _ | .nilp | .dh | .dW | .raw _ | .nils _ | .c0 _ | .slice _ _ | .tuple _ | .ref _ | .func _ _ | .iface _ _ | .ptr _ _ | .own _ _ | .view _ _ _ _ _ | .mref _ | .dx _ | .cM _ _=>by simp only[I.aS,I.size,cW.size]
theorem I.nf:∀ xs:List I,cW.sizes (I.cU xs)=I.sizes xs
 | []=>by simp only[I.cU,I.sizes,cW.sizes]
 |x::xs=>by simp only[I.cU,I.sizes,cW.sizes];rw[I.my x,I.nf xs]
end
mutual
theorem ai.length{w:World}{D:aT}{E:aW} : ∀ (x:I) (cs:List Value),ai w D E x cs→cs.length=x.size
 | .agg fs,cs,hr=>by simp only[ai,I.size] at *;exact aL.length fs cs hr
 | .bool b,cs,hr=>by simp only[ai] at hr;simp[hr,I.size]
 | .int k n,cs,hr=>by simp only[ai] at hr;simp[hr.1,I.size]
 | .c6 s,cs,hr=>by simp only[ai] at hr;simp[hr.1,I.size]
 | .nilp,cs,hr=>by simp only[ai] at hr;simp[hr,I.size]
 | .dh,cs,hr=>by simp only[ai] at hr;simp[hr,I.size]
 | .dW,cs,hr=>by simp only[ai] at hr;simp[hr,I.size]
 | .raw u,cs,hr=>by simp only[ai] at hr;simp[hr.1,I.size]
 | .nils _,cs,hr=>by simp only[ai] at hr;simp[hr,I.size]
 | .c0 _,cs,hr=>by simp only[ai] at hr;obtain ⟨a,rfl⟩:=hr;simp[I.size]
 | .slice sz es,cs,hr=>by simp only[ai] at hr;obtain ⟨a,cap,rfl,_⟩:=hr;simp[I.size]
 | .ref c,cs,hr=>by simp only[ai] at hr;obtain ⟨b,off,cs',rfl,_⟩:=hr;simp[I.size]
 | .func f caps,cs,hr=>by simp only[ai] at hr;obtain ⟨vs,rfl,_⟩:=hr;simp[I.size]
 | .iface t v,cs,hr=>by simp only[ai] at hr;obtain ⟨u,cs',rfl,_⟩:=hr;simp[I.size]
 | .ptr n p,cs,hr=>by simp only[ai] at hr;obtain ⟨b,aS,off,_,_,rfl⟩:=hr;simp[I.size]
 | .own n k,cs,hr=>by simp only[ai] at hr;obtain ⟨aE,l,_,_,⟨a,m,c,rfl⟩,_⟩:=hr;simp[I.size]
 | .view n p _ _ _,cs,hr=>by simp only[ai] at hr;obtain ⟨b,aS,off,l,_,_,_,rfl,_⟩:=hr;simp[I.size]
 | .mref n,cs,hr=>by simp only[ai] at hr;obtain ⟨b,_,rfl⟩:=hr;simp[I.size]
 | .dx n,cs,hr=>by simp only[ai] at hr;obtain ⟨b,_,rfl⟩:=hr;simp[I.size]
 | .cM ks vs,cs,hr=>by simp only[ai] at hr;obtain ⟨b,es,ck,rfl,_⟩:=hr;simp[I.size]
 | .undef,_,hr=>by simp only[ai] at hr
 | .de,_,hr=>by simp only[ai] at hr
 | .tuple _,_,hr=>by simp only[ai] at hr
theorem aL.length{w:World}{D:aT}{E:aW} : ∀ (xs:List I) (cs:List Value),aL w D E xs cs→cs.length=I.sizes xs
 | [],cs,hr=>by simp only[aL] at hr;simp[hr,I.sizes]
 |x::xs,cs,hr=>by
  simp only[aL] at hr;obtain ⟨c1,c2,rfl,h1,h2⟩:=hr;simp only[zz7,I.sizes,ai.length x c1 h1,aL.length xs c2 h2]
end
mutual
theorem ai.mY{w:World}{D:aT}{E:aW} : ∀ (x:I) (cs:List Value),ai w D E x cs→∀ v∈cs,v.oneCell'=true
 | .agg fs,cs,hr=>by simp only[ai] at hr;exact aL.mY fs cs hr
 | .bool b,cs,hr=>by simp only[ai] at hr;simp[hr,Value.oneCell']
 | .int k n,cs,hr=>by simp only[ai] at hr;simp[hr.1,Value.oneCell']
 | .c6 s,cs,hr=>by simp only[ai] at hr;simp[hr.1,Value.oneCell']
 | .nilp,cs,hr=>by simp only[ai] at hr;simp[hr,Value.oneCell']
 | .dh,cs,hr=>by simp only[ai] at hr;simp[hr,Value.oneCell']
 | .dW,cs,hr=>by simp only[ai] at hr;simp[hr,Value.oneCell']
 | .raw u,cs,hr=>by simp only[ai] at hr;simpa[hr.1] using hr.2
 | .nils _,cs,hr=>by simp only[ai] at hr;simp[hr,Value.oneCell']
 | .c0 _,cs,hr=>by simp only[ai] at hr;obtain ⟨a,rfl⟩:=hr;simp[Value.oneCell']
 | .slice sz es,cs,hr=>by simp only[ai] at hr;obtain ⟨a,cap,rfl,_⟩:=hr;simp[Value.oneCell']
 | .ref c,cs,hr=>by simp only[ai] at hr;obtain ⟨b,off,cs',rfl,_⟩:=hr;simp[Value.oneCell']
 | .func f caps,cs,hr=>by simp only[ai] at hr;obtain ⟨vs,rfl,_⟩:=hr;simp[Value.oneCell']
 | .iface t v,cs,hr=>by simp only[ai] at hr;obtain ⟨u,cs',rfl,_⟩:=hr;simp[Value.oneCell']
 | .ptr n p,cs,hr=>by simp only[ai] at hr;obtain ⟨b,aS,off,_,_,rfl⟩:=hr;simp[Value.oneCell']
 | .own n k,cs,hr=>by simp only[ai] at hr;obtain ⟨aE,l,_,_,⟨a,m,c,rfl⟩,_⟩:=hr;simp[Value.oneCell']
 | .view n p _ _ _,cs,hr=>by simp only[ai] at hr;obtain ⟨b,aS,off,l,_,_,_,rfl,_⟩:=hr;simp[Value.oneCell']
 | .mref n,cs,hr=>by simp only[ai] at hr;obtain ⟨b,_,rfl⟩:=hr;simp[Value.oneCell']
 | .dx n,cs,hr=>by simp only[ai] at hr;obtain ⟨b,_,rfl⟩:=hr;simp[Value.oneCell']
 | .cM ks vs,cs,hr=>by simp only[ai] at hr;obtain ⟨b,es,ck,rfl,_⟩:=hr;simp[Value.oneCell']
 | .undef,_,hr=>by simp only[ai] at hr
 | .de,_,hr=>by simp only[ai] at hr
 | .tuple _,_,hr=>by simp only[ai] at hr
theorem aL.mY{w:World}{D:aT}{E:aW} : ∀ (xs:List I) (cs:List Value),aL w D E xs cs→∀ v∈cs,v.oneCell'=true
 | [],cs,hr=>by simp only[aL] at hr;simp[hr]
 |x::xs,cs,hr=>by
  simp only[aL] at hr;obtain ⟨c1,c2,rfl,h1,h2⟩:=hr;intro v hv;rcases zy6.1 hv with h | h
  ·exact ai.mY x c1 h1 v h
  ·exact aL.mY xs c2 h2 v h
end
theorem bM.cells{x:I}{v:Value}{cs:List Value}{w:World}{D:aT}{E:aW}(h:bM x v cs)(hr:ai w D E x cs):v.cells.toList=cs:=by
 unfold bM at h;split at h
 ·rw[h];simp[Value.cells]
 ·subst h;have:=ai.mY x _ hr v (by simp);cases v <;>simp[Value.cells,Value.oneCell'] at *
theorem m4{w:World}{D:aT}{E:aW} : ∀ (xs:List I) (cs:List Value) (i:Nat) (x:I),aL w D E xs cs→xs[i]?=some x →
  ∃ c1 c2 c3,cs=c1++c2++c3∧c1.length=I.sizes (xs.take i)∧aL w D E (xs.take i) c1∧ai w D E x c2∧aL w D E (xs.drop (i+1)) c3
 | [],_,i,x,_,h=>by simp at h
 |y::ys,cs,0,x,hr,h=>by
  simp only[List.getElem?_cons_zero,t7] at h;subst h;simp only[aL] at hr;obtain ⟨c1,c2,rfl,h1,h2⟩:=hr;exact ⟨[],c1,c2,by simp,by simp[I.sizes],by simp[aL],h1,by simpa using h2⟩
 |y::ys,cs,i+1,x,hr,h=>by
  simp only[List.getElem?_cons_succ] at h;simp only[aL] at hr;obtain ⟨c0,c',rfl,h1,h2⟩:=hr;obtain ⟨c1,c2,c3,rfl,h3,h4,h5,h6⟩:=m4 ys c' i x h2 h;refine ⟨c0++c1,c2,c3,by simp,?_,?_,h5,by simpa using h6⟩
  ·simp only[zz7,List.take_succ_cons,I.sizes,h3,ai.length y c0 h1]
  ·simp only[List.take_succ_cons,aL];exact ⟨c0,c1,rfl,h1,h4⟩
theorem kL{w:World}{D:aT}{E:aW} : ∀ (xs ys:List I) (cs bC:List Value),aL w D E xs cs→aL w D E ys bC→aL w D E (xs++ys) (cs++bC)
 | [],ys,cs,bC,h,k=>by simp only[aL] at h;subst h;simpa using k
 |x::xs,ys,cs,bC,h,k=>by
  simp only[aL,zy1] at *;obtain ⟨c1,c2,rfl,h1,h2⟩:=h;exact ⟨c1,c2++bC,by simp,h1,kL xs ys c2 bC h2 k⟩
theorem I.iq{sz:Nat} : ∀ (xs:List I),(∀ x∈xs,x.size=sz)→I.sizes xs=xs.length*sz
 | [],_=>by simp[I.sizes]
 |x::xs,h=>by
  simp only[I.sizes,zv9];rw[h x (by simp),I.iq xs (fun y hy=>h y (by simp[hy])),zu1];omega
theorem I.dy:∀ xs:List I,I.cU xs=xs.map I.aS
 | []=>by simp[I.cU]
 |x::xs=>by simp[I.cU,I.dy xs]
theorem yX{w:World}{D:aT}{E:aW} : ∀ (p:List Nat) (c x:I) (cs:List Value),ai w D E c cs→c.at p=some x →
  ∃ off c1 c2 c3,c.aS.off p=some off∧cs=c1++c2++c3∧c1.length=off∧ai w D E x c2
 | [],c,x,cs,hr,h=>by
  simp only[I.at,t7] at h;subst h;exact ⟨0,[],cs,[],by cases c.aS <;>simp[cW.off],by simp,rfl,hr⟩
 |i::p,.agg fs,x,cs,hr,h=>by
  simp only[I.at] at h;simp only[ai] at hr;cases hf:fs[i]? with
  |none=>simp[hf] at h
  |some f =>
   simp only[hf] at h;obtain ⟨c1,c2,c3,rfl,h1,_,h3,_⟩:=m4 fs cs i f hr hf;obtain ⟨off,d1,d2,d3,h4,rfl,h6,h7⟩:=yX p f x c2 h3 h;refine ⟨I.sizes (fs.take i)+off,c1++d1,d2,d3++c3,?_,by simp,by simp[h1,h6],h7⟩;simp only[I.aS,cW.off,I.dy,zw5,hf,zy5,h4];rw[←List.map_take,←I.dy,I.nf]
 |_::_,.undef,_,_,_,h | _::_,.de,_,_,_,h | _::_,.bool _,_,_,_,h | _::_,.int _ _,_,_,_,h | _::_,.c6 _,_,_,_,h | _::_,.nilp,_,_,_,h
 |_::_,.dh,_,_,_,h | _::_,.dW,_,_,_,h | _::_,.raw _,_,_,_,h | _::_,.nils _,_,_,_,h | _::_,.c0 _,_,_,_,h | _::_,.slice _ _,_,_,_,h | _::_,.tuple _,_,_,_,h
 |_::_,.ref _,_,_,_,h | _::_,.func _ _,_,_,_,h | _::_,.iface _ _,_,_,_,h | _::_,.ptr _ _,_,_,_,h | _::_,.own _ _,_,_,_,h | _::_,.view _ _ _ _ _,_,_,_,h | _::_,.mref _,_,_,_,h | _::_,.dx _,_,_,_,h | _::_,.cM _ _,_,_,_,h=>by simp[I.at] at h
theorem uw{w:World}{D:aT}{E:aW} : ∀ (p:List Nat) (c x y:I) (cs bC:List Value),ai w D E c cs→c.at p=some x→ai w D E y bC→y.aS=x.aS →
  ∃ off,c.aS.off p=some off∧off+bC.length≤cs.length∧ai w D E (c.dM p y) (cs.take off++bC++cs.drop (off+bC.length))∧(c.dM p y).aS=c.aS
 | [],c,x,y,cs,bC,hr,h,hy,hs=>by
  simp only[I.at,t7] at h;subst h;have hl:bC.length=cs.length:=by rw[ai.length _ _ hy,ai.length _ _ hr,←I.my,←I.my,hs]
  refine ⟨0,by cases c.aS <;>simp[cW.off],by omega,?_,by simpa[I.dM] using hs⟩;simpa[I.dM,hl] using hy
 |i::p,.agg fs,x,y,cs,bC,hr,h,hy,hs=>by
  simp only[I.at] at h;simp only[ai] at hr;cases hf:fs[i]? with
  |none=>simp[hf] at h
  |some f =>
   simp only[hf] at h;obtain ⟨c1,c2,c3,rfl,h1,h2,h3,h3'⟩:=m4 fs cs i f hr hf;obtain ⟨off,h4,h5,h6,h7⟩:=uw p f x y c2 bC h3 h hy hs;have hi:i<fs.length:=(zy4.1 hf).1;have hfi:fs[i]=f:=(zy4.1 hf).2;refine ⟨I.sizes (fs.take i)+off,?_,?_,?_,?_⟩
   ·simp only[I.aS,cW.off,I.dy,zw5,hf,zy5,h4];rw[←List.map_take,←I.dy,I.nf]
   ·simp only[zz7,h1];omega
   ·simp only[I.dM,hf,ai];have e1:fs.set i (f.dM p y)=fs.take i++f.dM p y::fs.drop (i+1):=by rw[List.set_eq_take_append_cons_drop];simp[hi]
    rw[e1];have e2:(c1++c2++c3).take (I.sizes (fs.take i)+off)++bC++(c1++c2++c3).drop (I.sizes (fs.take i)+off+bC.length)=c1++((c2.take off++bC++c2.drop (off+bC.length))++c3):=by
     rw[←h1,zz5 c1 c2 c3,List.take_length_add_append,Nat.add_assoc,List.drop_length_add_append,zw6 (by omega),List.drop_append_of_le_length (by omega)];simp
    rw[e2];refine kL _ _ _ _ h2 ?_;simp only[aL];exact ⟨_,_,rfl,h6,h3'⟩
   ·simp only[I.dM,hf,I.aS,I.dy,List.map_set,h7,cW.ej.injEq];apply List.ext_getElem?;intro k;rw[List.getElem?_set];split
    ·rename_i hk;subst hk;simp[hi,hfi]
    ·rfl
 |_::_,.undef,_,_,_,_,_,h,_,_ | _::_,.de,_,_,_,_,_,h,_,_ | _::_,.bool _,_,_,_,_,_,h,_,_ | _::_,.int _ _,_,_,_,_,_,h,_,_ | _::_,.c6 _,_,_,_,_,_,h,_,_ | _::_,.nilp,_,_,_,_,_,h,_,_
 |_::_,.dh,_,_,_,_,_,h,_,_ | _::_,.dW,_,_,_,_,_,h,_,_ | _::_,.raw _,_,_,_,_,_,h,_,_ | _::_,.nils _,_,_,_,_,_,h,_,_ | _::_,.c0 _,_,_,_,_,_,h,_,_ | _::_,.slice _ _,_,_,_,_,_,h,_,_ | _::_,.tuple _,_,_,_,_,_,h,_,_
 |_::_,.ref _,_,_,_,_,_,h,_,_ | _::_,.func _ _,_,_,_,_,_,h,_,_ | _::_,.iface _ _,_,_,_,_,_,h,_,_ | _::_,.ptr _ _,_,_,_,_,_,h,_,_ | _::_,.own _ _,_,_,_,_,_,h,_,_ | _::_,.view _ _ _ _ _,_,_,_,_,_,h,_,_ | _::_,.mref _,_,_,_,_,_,h,_,_ | _::_,.dx _,_,_,_,_,_,h,_,_ | _::_,.cM _ _,_,_,_,_,_,h,_,_=>by simp[I.at] at h
theorem nd:∀ (p:List Nat) (c x:I),c.at p=some x→c.aS.part p=some x.aS
 | [],c,x,h=>by simp only[I.at,t7] at h;subst h;cases c.aS <;>rfl
 |i::p,.agg fs,x,h=>by
  simp only[I.at] at h;cases hf:fs[i]? with
  |none=>simp[hf] at h
  |some f =>
   simp only[hf] at h;simp only[I.aS,cW.part,I.dy,zw5,hf,zy5];exact nd p f x h
 |_::_,.undef,_,h | _::_,.de,_,h | _::_,.bool _,_,h | _::_,.int _ _,_,h | _::_,.c6 _,_,h | _::_,.nilp,_,h
 |_::_,.dh,_,h | _::_,.dW,_,h | _::_,.raw _,_,h | _::_,.nils _,_,h | _::_,.c0 _,_,h | _::_,.slice _ _,_,h | _::_,.tuple _,_,h
 |_::_,.ref _,_,h | _::_,.func _ _,_,h | _::_,.iface _ _,_,h | _::_,.ptr _ _,_,h | _::_,.own _ _,_,h | _::_,.view _ _ _ _ _,_,h | _::_,.mref _,_,h | _::_,.dx _,_,h | _::_,.cM _ _,_,h=>by simp[I.at] at h
end Go.Abs
namespace Go.Abs
open Go Go.RowKit
inductive aj where
 |box (c:I)
 |bR (T:TypeId) (sz:Nat) (es:List I)
 |dO (o:Obj)
 |cC (ks vs:List I)
 |it (ks vs:List I) (left:List Nat) (cur:Option Nat)
 |c5 (T:TypeId) (xs:List Int)
 deriving Inhabited
def aj.eR:aj→Bool
 | .it _ _ _ _=>false
 |_=>true
structure af where
 t:Nat→I
 o:Nat→Option aj
def af.put(A:af)(d:Nat)(v:I):af:=⟨fun k=>if k=d then v else A.t k,A.o⟩
def af.aP(A:af)(d:Option Nat)(v:I):af:=match d with | some d=>A.put d v | none=>A
def af.aO(A:af)(n:Nat)(x:aj):af:=⟨A.t,fun k=>if k=n then some x else A.o k⟩
def bO:List (Nat×I)→Nat→I
 | [],_=>.de
 |(k,v)::r,t=>if t=k then v else bO r t
def ak:List (Nat×aj)→Nat→Option aj
 | [],_=>none
 |(k,v)::r,t=>if t=k then some v else ak r t
def au(ts:List (Nat×I))(os:List (Nat×aj)):af:=⟨bO ts,ak os⟩
def av(os:List (Nat×aj))(n:Nat):Bool:=(ak os n).isSome
abbrev cV:=I→List (Nat×aj)→Prop
structure cO where
 P:Program
 fm:World
 D0:aT
 n:Nat
 own:Nat→Prop
 dD:aW
 Y:Value→List I→List (Nat×aj)→cV→Prop
 m8:Option Nat
def iG:Value→List I→List (Nat×aj)→cV→Prop:=fun _ _ _ _=>False
def cO.bp(c:cO):Fence:=match c.m8 with
 |none=>Fence.wide
 |some l=>Fence.wide.inRound l
def cO.fo(c:cO)(b:Nat):Prop:=c.fm.heap.size≤b∨c.own b
structure fN (M:Nat→Prop) (w w':World):Prop where
 os:w'.os=w.os
 tape:w'.tape=w.tape
 output:w'.output=w.output
 size:w.heap.size≤w'.heap.size
 block:∀ k,¬ M k→w'.heap[k]?=w.heap[k]?
theorem fN.refl(M:Nat→Prop)(w:World):fN M w w:=⟨rfl,rfl,rfl,zz8 _,fun _ _=>rfl⟩
theorem fN.trans{M:Nat→Prop}{a b c:World}(h:fN M a b)(k:fN M b c):fN M a c :=
 ⟨k.os.trans h.os,k.tape.trans h.tape,k.output.trans h.output,zu0 h.size k.size,fun i hi=>(k.block i hi).trans (h.block i hi)⟩
theorem fN.grow{M:Nat→Prop}{w w':World}{B:Nat}(h:Below B w w')(hB:∀ k,B≤k→M k):fN M w w' :=
 ⟨h.os,h.tape,h.output,h.size,fun k hk=>h.block k (Nat.lt_of_not_le fun hle=>hk (hB k hle))⟩
theorem fN.PS{M:Nat→Prop}{w w':World}{B:Nat}(h:fN M w w')(hB:∀ k,k<B→¬ M k):Below B w w' :=
 ⟨h.os,h.tape,h.output,h.size,fun k hk=>h.block k (hB k hk)⟩
def bS.aE:bS→Option Nat
 | .aD b _=>some b
 | .rw (some (b,_)) _=>some b
 | .rw none _=>none
 | .op b=>some b
 | .cC b=>some b
 | .it b=>some b
def bS.ev:bS→Bool
 | .op _ | .cC _ | .it _=>true
 |_=>false
def p9:Obj→Bool
 | .loop _=>true
 |_=>false
def yn:Obj→Bool
 | .deferred _=>false
 |_=>true
theorem ai3{o:Obj}(h:p9 o=true):yn o=true:=by cases o <;>first | rfl | cases h
def oQ(es:Array MapEntry)(bA:Array Nat):List Nat:=(List.range es.size).filter fun i=>match es[i]? with
 |some e => !bA.contains e.born
 |none=>false
def di(M:Nat→Prop)(w:World)(D:aT)(E:aW)(n:Nat):Option aj→Prop
 |none=>E n=none
 |some (.box x)=>∃ b cs T,E n=some (.aD b x.aS)∧M b∧w.heap[b]?=some (.cells cs T (0,0))∧ai w D E x cs.toList∧∀ o,¬ D b o
 |some (.bR T sz es)=>∃ aE,E n=some (.rw aE es.length)∧(∀ e∈es,e.size=sz)∧match aE with
  |none=>es=[]
  |some (b,cap)=>∃ cs pre rest,M b∧w.heap[b]?=some (.cells cs T (0,0))∧cs.toList=pre++rest∧aL w D E es pre ∧
    cs.size=cap*sz∧es.length≤cap∧cap≤maxLen∧∀ o,D b o→o<pre.length
 |some (.dO x)=>∃ b,E n=some (.op b)∧M b∧w.heap[b]?=some x∧p9 x=true∧∀ o,¬ D b o
 |some (.cC ks vs)=>∃ b es clock,E n=some (.cC b)∧M b∧w.heap[b]?=some (.map es clock)∧qG es clock∧aJ w D E ks (es.toList.map (·.key))∧aJ w D E vs (es.toList.map (·.val))∧∀ o,¬ D b o
 |some (.it ks vs left cur)=>∃ r b es clock since bA last,E n=some (.it r)∧M r∧w.heap[r]?=some (.mapIter (some b) since bA last)∧oX w D b es clock∧aJ w D E ks (es.toList.map (·.key))∧aJ w D E vs (es.toList.map (·.val)) ∧
   (∀ x∈es.toList,x.born<since)∧(since≤last∧since≤clock)∧left=oQ es bA∧(∀ i,cur=some i→∃ e,es[i]?=some e∧bA.back?=some e.born∧last=clock)∧∀ o,¬ D r o
 |some (.c5 T xs)=>∃ aE,E n=some (.rw aE xs.length)∧(∀ x∈xs,IntKind.i64.min≤x∧x≤IntKind.i64.max)∧match aE with
  |none=>xs=[]
  |some (b,cap)=>∃ cs m,M b∧w.heap[b]?=some (.cells cs T (0,0))∧cs.toList=(xs++List.replicate m 0).map (Value.int .i64)∧xs≠[]∧xs.length+m=cap∧cap≤maxLen∧∀ o,¬ D b o
def dC(E:aW)(b:Nat):Prop:=∃ n e,E n=some e∧e.aE=some b
structure lG (M:Nat→Prop) (w:World) (D:aT) (E:aW) (o:Nat→Option aj):Prop where
 bT:∀ n,di M w D E n (o n)
 c4:∀ n m e e' b,E n=some e→E m=some e'→e.aE=some b→e'.aE=some b→n=m
def qL(run:Array Value→World→(Ending→World→Prop)→Prop)(since:World→aT→aW→Prop)(args:List I)(os:List (Nat×aj))(post:cV):Prop :=
 ∀ (w:World) (D:aT) (E:aW) (vs:List Value),since w D E→(∀ b o,D b o→b<w.heap.size)→lG (fun _=>True) w D E (ak os)→aJ w D E args vs →
  run vs.toArray w fun e w'=>∃ v D' E' r os',e=.returned v∧post r os'∧aV w' D' E' r v∧lG (fun b=>w.heap.size≤b∨dC E b) w' D' E' (ak os') ∧
   fN (fun b=>w.heap.size≤b∨dC E b) w w'∧(∀ b o,D b o→D' b o)∧(∀ b o,D' b o→b<w'.heap.size)∧(∀ b o,D' b o→b<w.heap.size→¬ dC E b→D b o) ∧
   (∀ n e,E n=some e→av os' n=true→∃ e',E' n=some e'∧e.le e')∧iy w D w'
structure Al (c:cO) (w:World) (D:aT) (E:aW):Prop where
 dQ:fN c.fo c.fm w
 cN:∀ b o,c.D0 b o→D b o
 da:∀ b o,D b o→¬ c.fo b→c.D0 b o
 dV:∀ n e,c.dD n=some e→E n=none∨∃ e',E n=some e'∧e.le e'
 fI:iy c.fm c.D0 w
def sy(P:Program)(v:Value)(vs:Array Value)(w:World)(R:Ending→World→Prop):Prop :=
 ∃ l,v=.func (.yield l) #[] #[]∧YieldAt Fence.wide 9 P l vs w R
def pB(c:cO):Prop:=∀ v args os post,c.Y v args os post→qL (sy c.P v) (Al c) args os post
def cP(fm:World)(bC:List Deferred)(w:World):Prop :=
 ∃ Bs:List Nat,bC=Bs.map (fun B => { target:=.collected B,args := #[] })∧Bs.Nodup∧∀ B∈Bs,fm.heap.size≤B∧w.heap[B]?=some (.deferred (some []))
theorem cP.mono{fm w w':World}{bC:List Deferred}(h:cP fm bC w)(hk:∀ B,fm.heap.size≤B→w.heap[B]?=some (.deferred (some []))→w'.heap[B]?=some (.deferred (some []))):cP fm bC w':=by
 obtain ⟨Bs,h1,h2,h3⟩:=h;exact ⟨Bs,h1,h2,fun B hB=>⟨(h3 B hB).1,hk B (h3 B hB).1 (h3 B hB).2⟩⟩
theorem cP.grow{fm w w':World}{bC:List Deferred}(h:cP fm bC w)(hk:Below w.heap.size w w'):cP fm bC w' :=
 h.mono fun B _ hB=>(hk.block B (zx7.1 hB).1).trans hB
structure aU (c:cO) (A:af) (a:Act) (w:World) (D:aT) (E:aW):Prop where
 sz:a.tmps.size=c.n
 eT:cP c.fm a.defers w
 ef:∀ t,aV w D E (A.t t) (a.tmps.getD t undef)
 dQ:fN c.fo c.fm w
 da:∀ b o,D b o→¬ c.fo b→c.D0 b o
 dm:∀ b o,D b o→b<w.heap.size
 bT:∀ n,di c.fo w D E n (A.o n)
 c4:∀ n m e e' b,E n=some e→E m=some e'→e.aE=some b→e'.aE=some b→n=m
 dV:∀ n e,c.dD n=some e→E n=none∨∃ e',E n=some e'∧e.le e'
 eZ:∀ n,c.dD n≠none→c.n≤n∧1000000≤n
 cN:∀ b o,c.D0 b o→D b o
 fe:pB c
 fI:iy c.fm c.D0 w
def ct(c:cO)(A:af)(a:Act)(w:World):Prop:=∃ D E,aU c A a w D E
section
variable {c:cO} {A:af} {a:Act} {w:World} {D:aT} {E:aW}
theorem aU.lC(h:aU c A a w D E){w':World}{D':aT}{E':aW}(hl:dS w D E w' D' E'):iy c.fm c.D0 w':=h.fI.trans h.cN hl.fI
theorem aU.DQ(h:aU c A a w D E){n:Nat}{e:bS}(hn:c.dD n=some e)(hf:e.eR=true):E n=none∨E n=some e:=by
 rcases h.dV n e hn with k | ⟨e',k,hle⟩
 ·exact .inl k
 ·rw[hle.eq hf] at k;exact .inr k
theorem ud{M:Nat→Prop}{n:Nat}{x:aj}(h:di M w D E n (some x)):E n≠none:=by
 cases x with
 |box x=>obtain ⟨b,cs,T,h1,_⟩:=h;rw[h1];simp
 |bR T sz es=>obtain ⟨aE,h1,_⟩:=h;rw[h1];simp
 |dO o=>obtain ⟨b,h1,_⟩:=h;rw[h1];simp
 |cC ks vs=>obtain ⟨b,es,ck,h1,_⟩:=h;rw[h1];simp
 |it ks vs left=>obtain ⟨r,b,es,ck,si,se,la,h1,_⟩:=h;rw[h1];simp
 |c5 T xs=>obtain ⟨aE,h1,_⟩:=h;rw[h1];simp
theorem gb{w:World}{b:Nat}{o:Obj}(h:w.heap[b]?=some o):b<w.heap.size:=(zx7.1 h).1
theorem aU.fX(h:aU c A a w D E){n:Nat}{e:bS}{b:Nat}(he:E n=some e)(hb:e.aE=some b):b<w.heap.size:=by
 have:=h.bT n;unfold di at this;split at this
 ·simp[this] at he
 ·obtain ⟨b',cs,T,h1,h2,h3,_⟩:=this;rw[h1,t7] at he;subst he;simp only[bS.aE,t7] at hb;subst hb;exact gb h3
 ·obtain ⟨aE,h1,h2,h3⟩:=this;rw[h1,t7] at he;subst he;split at h3
  ·simp[bS.aE] at hb
  ·obtain ⟨cs,pre,rest,h4,h5,_⟩:=h3;simp only[bS.aE,t7] at hb;subst hb;exact gb h5
 ·obtain ⟨b',h1,h2,h3,_⟩:=this;rw[h1,t7] at he;subst he;simp only[bS.aE,t7] at hb;subst hb;exact gb h3
 ·obtain ⟨b',es,ck,h1,h2,h3,_⟩:=this;rw[h1,t7] at he;subst he;simp only[bS.aE,t7] at hb;subst hb;exact gb h3
 ·obtain ⟨r,b',es,ck,si,se,la,h1,h2,h3,_⟩:=this;rw[h1,t7] at he;subst he;simp only[bS.aE,t7] at hb;subst hb;exact gb h3
 ·obtain ⟨aE,h1,h2,h3⟩:=this;rw[h1,t7] at he;subst he;split at h3
  ·simp[bS.aE] at hb
  ·obtain ⟨cs,m,h4,h5,_⟩:=h3;simp only[bS.aE,t7] at hb;subst hb;exact gb h5
theorem aU.yL(h:aU c A a w D E){n b:Nat}{e:bS}(he:E n=some e)(ho:e.ev=true)(hb:e.aE=some b):∀ o,¬ D b o:=by
 have:=h.bT n;unfold di at this;split at this
 ·rw[this] at he;cases he
 ·obtain ⟨b',cs,T,h1,_⟩:=this;rw[h1] at he;cases he;cases ho
 ·obtain ⟨aE,h1,_⟩:=this;rw[h1] at he;cases he;cases ho
 ·obtain ⟨b',h1,_,_,_,h5⟩:=this;rw[h1] at he;cases he;cases hb;exact h5
 ·obtain ⟨b',es,ck,h1,_,_,_,_,_,h5⟩:=this;rw[h1] at he;cases he;cases hb;exact h5
 ·obtain ⟨r,b',es,ck,si,se,la,h1,_,_,_,_,_,_,_,_,_,h5⟩:=this;rw[h1] at he;cases he;cases hb;exact h5
 ·obtain ⟨aE,h1,_⟩:=this;rw[h1] at he;cases he;cases ho
theorem di.bN{M:Nat→Prop}{w':World}{D':aT}{E':aW}{n:Nat}{x:Option aj}(h:di M w D E n x)(hl:dS w D E w' D' E')(aw:E' n=E n)
  (hheap:∀ e b,E n=some e→e.aE=some b→w'.heap[b]?=w.heap[b]?∧∀ o,D' b o→D b o):di M w' D' E' n x:=by
 unfold di at *;split
 ·rw[aw];exact h
 ·obtain ⟨b,cs,T,h1,h2,h3,h4,h5⟩:=h;obtain ⟨k1,k2⟩:=hheap _ b h1 rfl;exact ⟨b,cs,T,aw.trans h1,h2,k1.trans h3,ai.bN hl _ _ h4,fun o ho=>h5 o (k2 o ho)⟩
 ·obtain ⟨aE,h1,h2,h3⟩:=h;refine ⟨aE,aw.trans h1,h2,?_⟩;split
  ·exact h3
  ·rename_i b cap;obtain ⟨cs,pre,rest,h4,h5,h6,h7,h8,h9,h10,h11⟩:=h3;obtain ⟨k1,k2⟩:=hheap _ b h1 rfl;exact ⟨cs,pre,rest,h4,k1.trans h5,h6,aL.bN hl _ _ h7,h8,h9,h10,fun o ho=>h11 o (k2 o ho)⟩
 ·obtain ⟨b,h1,h2,h3,h4,h5⟩:=h;obtain ⟨k1,k2⟩:=hheap _ b h1 rfl;exact ⟨b,aw.trans h1,h2,k1.trans h3,h4,fun o ho=>h5 o (k2 o ho)⟩
 ·obtain ⟨b,es,ck,h1,h2,h3,h4,h5,h6,h7⟩:=h;obtain ⟨k1,k2⟩:=hheap _ b h1 rfl;exact ⟨b,es,ck,aw.trans h1,h2,k1.trans h3,h4,aJ.bN hl _ _ h5,aJ.bN hl _ _ h6,fun o ho=>h7 o (k2 o ho)⟩
 ·obtain ⟨r,b,es,ck,si,se,la,h1,h2,h3,h4,h5,h6,h7,h8,h9,h9',h10⟩:=h;obtain ⟨k1,k2⟩:=hheap _ r h1 rfl;exact ⟨r,b,es,ck,si,se,la,aw.trans h1,h2,k1.trans h3,h4.bN hl,aJ.bN hl _ _ h5,aJ.bN hl _ _ h6,h7,h8,h9,h9',fun o ho=>h10 o (k2 o ho)⟩
 ·obtain ⟨aE,h1,h2,h3⟩:=h;refine ⟨aE,aw.trans h1,h2,?_⟩;split
  ·exact h3
  ·rename_i b cap;obtain ⟨cs,m,h4,h5,h6,h7,h8,h9,h10⟩:=h3;obtain ⟨k1,k2⟩:=hheap _ b h1 rfl;exact ⟨cs,m,h4,k1.trans h5,h6,h7,h8,h9,fun o ho=>h10 o (k2 o ho)⟩
theorem dS.grow{w':World}{D':aT}(hb:Below w.heap.size w w')(hD:∀ b o,D b o→D' b o):dS w D E w' D' E:=by
 refine ⟨hD,fun b o v _ hv =>?_,fun _ _ _ h=>h,fun _ aE l h=>⟨aE,l,h,zz8 _,fun _=>rfl⟩,fun _ _ h=>h,fun _ _ h=>h,fun b es ck _ hm=>(hb.block b (gb hm)).trans hm⟩;rw[hb.cell (World.block_lt_of_cell? w _ hv)];exact hv
theorem aU.IS(h:aU c A a w D E){w':World}(hb:Below w.heap.size w w'):fN c.fo w w':=fN.grow hb fun k hk=>.inl (zu0 h.dQ.size hk)
theorem aU.old(h:aU c A a w D E){b:Nat}(hm:¬ c.fo b):b<w.heap.size :=
 Nat.lt_of_lt_of_le (Nat.lt_of_not_le fun hle=>hm (.inl hle)) h.dQ.size
theorem aU.kB(h:aU c A a w D E){d:Nat}(ae:d<c.n∨d<1000000):c.dD d=none:=by
 cases hh:c.dD d with
 |none=>rfl
 |some e=>have:=h.eZ d (by rw[hh];simp);omega
theorem aU.grow(h:aU c A a w D E){w':World}{D':aT}(hb:Below w.heap.size w w')(hD:∀ b o,D b o→D' b o)
  (hold:∀ b o,D' b o→b<w.heap.size→D b o) (hlive:∀ b o,D' b o→b<w'.heap.size):aU c A a w' D' E:=by
 have hl:dS w D E w' D' E:=dS.grow hb hD;refine ⟨h.sz,h.eT.grow hb,fun t=>aV.bN hl (h.ef t),h.dQ.trans (h.IS hb),fun b o ae hm=>h.da b o (hold b o ae (h.old hm)) hm,hlive,
  fun n=>(h.bT n).bN hl rfl (fun e b he hb'=>⟨hb.block b (h.fX he hb'),fun o ho=>hold b o ho (h.fX he hb')⟩),h.c4,h.dV,h.eZ,fun b o ae=>hD b o (h.cN b o ae),h.fe,h.lC hl⟩
theorem aU.Nz(h:aU c A a w D E){D':aT}(hD:∀ b o,D b o→D' b o)
  (hold:∀ b o,D' b o→¬ c.fo b→c.D0 b o) (hlive:∀ b o,D' b o→b<w.heap.size)
  (hbox:∀ n x b,A.o n=some (.box x)→E n=some (.aD b x.aS)→∀ o,¬ D' b o)
  (hrow:∀ n T sz es b cap,A.o n=some (.bR T sz es)→E n=some (.rw (some (b,cap)) es.length)→∀ o,D' b o→o<es.length*sz)
  (hui:∀ n T xs b cap,A.o n=some (.c5 T xs)→E n=some (.rw (some (b,cap)) xs.length)→∀ o,¬ D' b o)
  (hopq:∀ n e b,E n=some e→e.ev=true→e.aE=some b→∀ o,¬ D' b o):aU c A a w D' E:=by
 have hl:dS w D E w D' E:=⟨hD,fun _ _ _ _ h=>h,fun _ _ _ h=>h,fun _ aE l h=>⟨aE,l,h,zz8 _,fun _=>rfl⟩,fun _ _ h=>h,fun _ _ h=>h,fun _ _ _ _ h=>h⟩
 refine ⟨h.sz,h.eT,fun t=>aV.bN hl (h.ef t),h.dQ,hold,hlive,fun n =>?_,h.c4,h.dV,h.eZ,fun b o ae=>hD b o (h.cN b o ae),h.fe,h.fI⟩;have ho:=h.bT n;cases hx:A.o n with
 |none=>rw[hx] at ho;exact ho
 |some x =>
  cases x with
  |box x =>
   rw[hx] at ho;obtain ⟨b,cs,T,h1,h2,h3,h4,h5⟩:=ho;exact ⟨b,cs,T,h1,h2,h3,ai.bN hl _ _ h4,hbox n x b hx h1⟩
  |bR T sz es =>
   rw[hx] at ho;obtain ⟨aE,h1,h2,h3⟩:=ho;refine ⟨aE,h1,h2,?_⟩;cases aE with
   |none=>exact h3
   |some bc =>
    obtain ⟨b,cap⟩:=bc;obtain ⟨cs,pre,rest,h4,h5,h6,h7,h8,h9,h10,h11⟩:=h3;refine ⟨cs,pre,rest,h4,h5,h6,aL.bN hl _ _ h7,h8,h9,h10,fun o ae =>?_⟩;rw[aL.length _ _ h7,I.iq _ h2];exact hrow n T sz es b cap hx h1 o ae
  |dO x =>
   rw[hx] at ho;obtain ⟨b,h1,h2,h3,h4,h5⟩:=ho;exact ⟨b,h1,h2,h3,h4,hopq n _ b h1 rfl rfl⟩
  |cC ks vs =>
   rw[hx] at ho;obtain ⟨b,es,ck,h1,h2,h3,h4,h5,h6,h7⟩:=ho;exact ⟨b,es,ck,h1,h2,h3,h4,aJ.bN hl _ _ h5,aJ.bN hl _ _ h6,hopq n _ b h1 rfl rfl⟩
  |it ks vs left cur =>
   rw[hx] at ho;obtain ⟨r,b,es,ck,si,se,la,h1,h2,h3,h4,h5,h6,h7,h8,h9,h9',h10⟩:=ho;exact ⟨r,b,es,ck,si,se,la,h1,h2,h3,h4.bN hl,aJ.bN hl _ _ h5,aJ.bN hl _ _ h6,h7,h8,h9,h9',hopq n _ r h1 rfl rfl⟩
  |c5 T xs =>
   rw[hx] at ho;obtain ⟨aE,h1,h2,h3⟩:=ho;refine ⟨aE,h1,h2,?_⟩;cases aE with
   |none=>exact h3
   |some bc =>
    obtain ⟨b,cap⟩:=bc;obtain ⟨cs,m,h4,h5,h6,h7,h8,h9,h10⟩:=h3;exact ⟨cs,m,h4,h5,h6,h7,h8,h9,hui n T xs b cap hx h1⟩
theorem ahe(a:Act)(d:Nat)(v:Value)(t:Nat)(ae:d<a.tmps.size):(a.put (some d) v).tmps.getD t undef=if t=d then v else a.tmps.getD t undef:=by
 simp only[Act.put,Array.getD_eq_getD_getElem?,Array.getElem?_setIfInBounds];by_cases h:t=d
 ·subst h;simp[ae]
 ·simp[h,Ne.symm h]
theorem aU.put(h:aU c A a w D E){d:Nat}{x:I}{v:Value}(ae:d<c.n)(hv:aV w D E x v):aU c (A.put d x) (a.put (some d) v) w D E:=by
 refine ⟨by simp[Act.put,h.sz],by exact h.eT,fun t =>?_,h.dQ,h.da,h.dm,h.bT,h.c4,h.dV,h.eZ,h.cN,h.fe,h.fI⟩;rw[ahe a d v t (by rw[h.sz];exact ae)];simp only[af.put];split
 ·exact hv
 ·exact h.ef t
theorem aU.aP(h:aU c A a w D E){d:Option Nat}{x:I}{v:Value}(ae:∀ k,d=some k→k<c.n)(hv:aV w D E x v):aU c (A.aP d x) (a.put d v) w D E:=by
 cases d with
 |none=>exact h
 |some d=>exact h.put (ae d rfl) hv
theorem sK(w:World)(o:Obj):Below w.heap.size w (w.alloc o):=(Below.refl _ _).alloc (zz8 _) o
theorem MI{w:World}{D:aT}{E:aW} : ∀ {xs:List I} {vs:List Value},aJ w D E xs vs→vs.length=xs.length
 | [],vs,h=>by simp only[aJ] at h;subst h;rfl
 |x::xs,vs,h=>by
  simp only[aJ] at h;obtain ⟨v,rest,cs,rfl,_,_,h3⟩:=h;simp[MI h3]
theorem aU.tZ(h:aU c A a w D E){d:Nat}{x:aj}{o':Obj}{e:bS}(hdn:d<c.n∨d<1000000)(ae:A.o d=none)(heb:e.aE=some w.heap.size)
  (hx:dS w D E (w.alloc o') D (fun n=>if n=d then some e else E n)→(∀ o,¬ D w.heap.size o)→di c.fo (w.alloc o') D (fun n=>if n=d then some e else E n) d (some x)) :
  aU c (A.aO d x) a (w.alloc o') D (fun n=>if n=d then some e else E n):=by
 have hEd:E d=none:=by have:=h.bT d;rw[ae] at this;exact this
 have hne:∀ {n:Nat} {e:bS},E n=some e→n≠d:=fun he e'=>by rw[e',hEd] at he;cases he
 have hl:dS w D E (w.alloc o') D (fun n=>if n=d then some e else E n):=by
  refine ⟨fun _ _ h=>h,fun b o v _ hv =>?_,fun n b aS he =>?_,fun n aE l he =>?_,fun n b he =>?_,fun n b he =>?_,fun b es ck _ hm=>(Below.heap_alloc w _ b (gb hm)).trans hm⟩
  ·rw[World.cell?_alloc_lt _ _ _ (World.block_lt_of_cell? w _ hv)];exact hv
  ·simp only[if_neg (hne he)];exact he
  ·exact ⟨aE,l,by simp only[if_neg (hne he)];exact he,zz8 _,fun _=>rfl⟩
  ·simp only[if_neg (hne he)];exact he
  ·simp only[if_neg (hne he)];exact he
 refine ⟨h.sz,h.eT.grow (sK w _),fun t=>aV.bN hl (h.ef t),h.dQ.trans (h.IS (sK w _)),h.da,fun b o hd'=>by have:=h.dm b o hd';simp;omega,fun n =>?_,?_,fun n e' hn =>?_,h.eZ,h.cN,h.fe,h.lC hl⟩
 ·simp only[af.aO];by_cases hn:n=d
  ·subst hn;simp only[if_true];exact hx hl fun o ho=>Nat.lt_irrefl _ (h.dm _ o ho)
  ·simp only[if_neg hn];exact (h.bT n).bN hl (by simp only[if_neg hn]) fun e b he hb=>⟨Below.heap_alloc w _ b (h.fX he hb),fun _ ho=>ho⟩
 ·intro n m e1 e2 b h1 h2 h3 h4;by_cases hn:n=d <;>by_cases hm:m=d
  ·rw[hn,hm]
  ·simp only[if_pos hn,t7] at h1;simp only[if_neg hm] at h2;subst h1;rw[heb] at h3;cases h3;have:=h.fX h2 h4;omega
  ·simp only[if_neg hn] at h1;simp only[if_pos hm,t7] at h2;subst h2;rw[heb] at h4;cases h4;have:=h.fX h1 h3;omega
  ·simp only[if_neg hn] at h1;simp only[if_neg hm] at h2;exact h.c4 n m e1 e2 b h1 h2 h3 h4
 ·have hnd:n≠d:=fun e=>by rw[e,h.kB hdn] at hn;cases hn
  simp only[if_neg hnd];exact h.dV n e' hn
theorem aU.rG(h:aU c A a w D E){d:Nat}{x:I}{cs:Array Value}{T:TypeId}(hdn:d<c.n∨d<1000000)(ae:A.o d=none)(hx:ai w D E x cs.toList) :
  aU c (A.aO d (.box x)) a (w.alloc (.cells cs T)) D (fun n=>if n=d then some (.aD w.heap.size x.aS) else E n) :=
 h.tZ hdn ae rfl fun hl hno=>⟨w.heap.size,cs,T,by simp,.inl h.dQ.size,heap_alloc_new w _,ai.bN hl _ _ hx,hno⟩
theorem aU.aiZ(h:aU c A a w D E){d:Nat}(hdn:d<c.n∨d<1000000)(ae:A.o d=none) :
  aU c (A.aO d (.cC [] [])) a (w.alloc (.map #[] 0)) D (fun n=>if n=d then some (.cC w.heap.size) else E n) :=
 h.tZ hdn ae rfl fun _ hno=>⟨w.heap.size,#[],0,by simp,.inl h.dQ.size,heap_alloc_new w _,⟨by simp,by simp⟩,by simp[aJ],by simp[aJ],hno⟩
theorem aU.aiY(h:aU c A a w D E){d b clock:Nat}{ks vs:List I}{es:Array MapEntry}(hdn:d<c.n∨d<1000000)(ae:A.o d=none)(hm:oX w D b es clock)(hk:aJ w D E ks (es.toList.map (·.key)))(hv:aJ w D E vs (es.toList.map (·.val))) :
  aU c (A.aO d (.it ks vs (List.range ks.length) none)) a (w.alloc (.mapIter (some b) clock #[] clock)) D (fun n=>if n=d then some (.it w.heap.size) else E n) :=
 h.tZ hdn ae rfl fun hl hno=>⟨w.heap.size,b,es,clock,clock,#[],clock,by simp,.inl h.dQ.size,heap_alloc_new w _,hm.bN hl,aJ.bN hl _ _ hk,aJ.bN hl _ _ hv,hm.2.2.1,⟨zz8 _,zz8 _⟩,by
  have e:ks.length=es.size:=by have:=MI hk;simpa using this.symm
  rw[e];unfold oQ;exact (List.filter_eq_self.2 fun i hi=>by
   have hi':i<es.size:=by simpa using hi
   simp[Array.getElem?_eq_getElem hi']).symm,(fun i hi=>by cases hi),hno⟩
theorem vR(w:World)(g:Nat)(cs:Array Value)(p:Addr)(h:p.block≠g):(w.setRow g cs).cell? p=w.cell? p :=
 World.cell?_of_block (setRow_other w g p.block cs h)
theorem x5{M:Nat→Prop}{fm w:World}(h:fN M fm w){g:Nat}(hg:M g)(cs:Array Value):fN M fm (w.setRow g cs) :=
 h.trans ⟨rfl,rfl,rfl,by simp[World.setRow],fun k hk=>setRow_other w g k cs (fun e=>hk (e▸hg))⟩
theorem aU.MP(h:aU c A a w D E){n b:Nat}{x y:I}{cs':Array Value}(hn:A.o n=some (.box x))(aw:E n=some (.aD b x.aS))(hs:y.aS=x.aS)(hy:ai w D E y cs'.toList) :
  aU c (A.aO n (.box y)) a (w.setRow b cs') D E:=by
 have ho:=h.bT n;rw[hn] at ho;obtain ⟨b',cs,T,h1,h2,h3,h4,h5⟩:=ho;rw[aw] at h1;simp only[t7,bS.aD.injEq,and_true] at h1;subst h1;have hl:dS w D E (w.setRow b cs') D E:=by
  refine ⟨fun _ _ h=>h,fun b1 o v ae hv =>?_,fun _ _ _ h=>h,fun _ aE l h=>⟨aE,l,h,zz8 _,fun _=>rfl⟩,fun _ _ h=>h,fun _ _ h=>h,fun b1 es ck ae hm=>(setRow_other w b b1 _ (fun e=>h5 0 (by rw[←e];exact ae))).trans hm⟩;rw[vR _ _ _ _ (fun e=>h5 o (by rw[←e];exact ae))];exact hv
 refine ⟨h.sz,h.eT.mono fun B _ hB=>(setRow_other w b B cs' (fun e=>by rw[e,h3] at hB;cases hB)).trans hB,fun t=>aV.bN hl (h.ef t),x5 h.dQ h2 _,h.da,fun b1 o ae=>by have:=h.dm b1 o ae;simpa[World.setRow] using this,fun m =>?_,h.c4,h.dV,h.eZ,h.cN,h.fe,h.lC hl⟩;simp only[af.aO];by_cases hm:m=n
 ·subst hm;simp only[if_true,di];exact ⟨b,cs',T,by rw[hs];exact aw,h2,setRow_heap w b cs cs' T _ h3,ai.bN hl _ _ hy,h5⟩
 ·simp only[if_neg hm];refine (h.bT m).bN hl rfl fun e b1 he hb=>⟨setRow_other w b b1 cs' (fun e1=>hm (h.c4 m n e _ b he aw (by rw[hb,e1]) rfl)),fun _ ho=>ho⟩
theorem vS{w:World}{B:Nat}{o o':Obj}(h:w.heap[B]?=some o)(ho:o.isCells=false){b off:Nat}{v:Value}(hv:w.cell? ⟨b,off,none⟩=some v):(w.putObj B o').cell? ⟨b,off,none⟩=some v:=by
 have hne:b≠B:=fun e=>by
  obtain ⟨o2,h2,h3⟩:=cells_of_cell hv;simp only at h2;rw[e,h] at h2;cases h2;rw[ho] at h3;cases h3
 rw[World.cell?_of_block (w:=w) (World.putObj_heap_other hne)];exact hv
theorem aU.MR(h:aU c A a w D E){n b:Nat}{e:bS}{x:aj}{o0 o':Obj}(aw:E n=some e)(ho:e.ev=true)(hb:e.aE=some b)(hw:w.heap[b]?=some o0)(hnc:o0.isCells=false)(hnd:∀ q,o0≠.deferred q)(hmine:c.fo b)
  (hx:dS w D E (w.putObj b o') D E→(w.putObj b o').heap[b]?=some o'→(∀ o,¬ D b o)→di c.fo (w.putObj b o') D E n (some x)):aU c (A.aO n x) a (w.putObj b o') D E:=by
 have hno:=h.yL aw ho hb;have hlt:b<w.heap.size:=gb hw;have hl:dS w D E (w.putObj b o') D E:=⟨fun _ _ h=>h,fun b1 o1 v _ hv=>vS hw hnc hv,fun _ _ _ h=>h,fun _ aE l h=>⟨aE,l,h,zz8 _,fun _=>rfl⟩,fun _ _ h=>h,fun _ _ h=>h,
  fun b1 es ck ae hm=>(World.putObj_heap_other (fun e1=>hno 0 (by rw[←e1];exact ae))).trans hm⟩
 refine ⟨h.sz,h.eT.mono fun B _ hB=>(World.putObj_heap_other (fun e1=>by rw[e1,hw] at hB;exact hnd _ (Option.some.inj hB))).trans hB,fun t=>aV.bN hl (h.ef t),h.dQ.trans ⟨rfl,rfl,rfl,by simp,fun k hk=>World.putObj_heap_other (fun e1=>hk (e1▸hmine))⟩,h.da,
  fun b1 o1 ae=>by have:=h.dm b1 o1 ae;simpa using this,fun m =>?_,h.c4,h.dV,h.eZ,h.cN,h.fe,h.lC hl⟩
 simp only[af.aO];by_cases hm:m=n
 ·subst hm;simp only[if_true];exact hx hl (World.putObj_heap_same hlt) hno
 ·simp only[if_neg hm];exact (h.bT m).bN hl rfl fun e' b1 he hb'=>⟨World.putObj_heap_other (fun e1=>hm (h.c4 m n e' _ b1 he aw hb' (by rw[e1];exact hb))),fun _ ho=>ho⟩
end
inductive aM where
 |t (n:Nat)
 |c (x:I)
 deriving Inhabited
inductive cS where
 |i (k:IntKind)
 |b
 |s
 |br (l:List cS)
 |kr (n:Nat) (e:cS)
 deriving Inhabited
mutual
def cS.size:cS→Nat
 | .i _ | .b | .s=>1
 | .br l=>cS.sizes l
 | .kr n e=>n*e.size
def cS.sizes:List cS→Nat
 | []=>0
 |t::ts=>t.size+cS.sizes ts
end
inductive b9 where
 |mv (x:aM)
 |pick (c a b:aM)
 |bin (op:BinOp) (x y:aM)
 |eqv (ty:cS) (neg:Bool) (x y:aM)
 |nilS (neg:Bool) (x:aM)
 |conv (k:IntKind) (x:aM)
 |un (op:UnOp) (x:aM)
 |ld (s:Option Nat) (x:aM)
 |fa (f off:Nat) (x:aM)
 |fl (f off:Nat) (s:Option Nat) (x:aM)
 |ia (n esz:Nat) (x i:aM)
 |is (esz:Nat) (x i:aM)
 |ix (n esz:Nat) (s:Option Nat) (x i:aM)
 |len (x:aM)
 |lenT (x:aM)
 |va (n esz:Nat) (x:aM)
 |sl (esz:Nat) (x:aM) (lo hi mx:Option aM)
 |bld (zs:List I) (parts:List (Nat×aM))
 |bs (T esz:Nat) (parts:List aM)
 |ext (x:aM) (i:Nat)
 |mk (f:FuncId) (caps:List aM)
 |alloc (z:I)
 |box (x:aM)
 |br (s:Option Nat) (x v:aM)
 |c7 (e:TypeId) (esz bytes:Nat) (z:I) (s x:aM)
 |mF (e:TypeId) (esz bytes:Nat) (z:I) (s n:aM)
 |cap (x:aM)
 |bs0 (esz:Nat)
 |jH (esz:Nat) (z:I) (x:aM)
 |lR (esz:Nat) (x y:aM)
 |call (f:FuncId) (args:List aM)
 |eF (x:aM) (args:List aM)
 |kN (f:FuncId) (args:List aM)
 |nilC (x:aM)
 |ptrE (neg:Bool) (x y:aM)
 |ka (e:TypeId) (bytes:Nat) (z:I) (n:aM)
 |jM
 |lk (ty:cS) (z:I) (ok:Bool) (m k:aM)
 |gB (ty:cS) (m k v:aM)
 |kg (x:aM)
 |iH (x:aM)
 |ent (x:aM)
 deriving Inhabited
def vM(sz:Nat):Value→Option I
 | .bool b=>some (.bool b)
 | .int k n=>if k.min≤n∧n≤k.max then some (.int k n) else none
 | .string s=>if s.size≤1000000 then some (.c6 s) else none
 | .pointer none=>some .nilp
 | .slice none 0 0=>some (.nils sz)
 | .nilFunc=>some .dh
 | .nilIface=>some .dW
 | .map none=>some (.raw (.map none))
 |_=>none
theorem Qp{sz:Nat}{v:Value}{x:I}(h:vM sz v=some x)(w:World)(D:aT)(E:aW):aV w D E x v:=by
 unfold vM at h;split at h
 case h_2 =>
  split at h
  ·rename_i hh;simp only[t7] at h;subst h;exact ⟨_,by simp[bM,I.isAgg];rfl,by simp only[ai,true_and];exact hh⟩
  ·simp at h
 case h_3 =>
  split at h
  ·rename_i hh;simp only[t7] at h;subst h;exact ⟨_,by simp[bM,I.isAgg];rfl,by simp only[ai,true_and];unfold maxLen;omega⟩
  ·simp at h
 case h_9=>simp at h
 all_goals
  simp only[t7] at h;subst h;exact ⟨_,by simp[bM,I.isAgg];rfl,by simp[ai,Value.oneCell']⟩
def XL(P:Program)(t:TypeId):Nat:=match P.underlying t with | some (.slice e)=>P.cellsOf e | _=>0
def bH(P:Program)(t:TypeId):Operand→Option aM
 | .tmp n=>some (.t n)
 | .const v=>(vM (XL P t) v).map .c
 | .func f=>some (.c (.func f []))
 | .global _=>none
def ah(A:af):aM→I
 | .t n=>A.t n
 | .c x=>x
section
variable {c:cO} {A:af} {a:Act} {w:World} {D:aT} {E:aW}
theorem ca(h:aU c A a w D E){P:Program}{t:TypeId}{x:Operand}{y:aM}(hc:bH P t x=some y):aV w D E (ah A y) (a.eval x):=by
 cases x with
 |tmp n=>simp only[bH,t7] at hc;subst hc;exact h.ef n
 |const v =>
  simp only[bH,zz1] at hc;obtain ⟨z,hz,rfl⟩:=hc;exact Qp hz w D E
 |global g=>simp[bH] at hc
 |func f =>
  simp only[bH,t7] at hc;subst hc;exact ⟨[.func (.func f) #[] #[]],by simp[bM,I.isAgg,ah,Act.eval],by simp only[ai,ah,aJ];exact ⟨[],rfl,rfl⟩⟩
theorem mq{b:Bool}{v:Value}(h:aV w D E (.bool b) v):v=.bool b:=by
 obtain ⟨cs,h1,h2⟩:=h;simp only[ai] at h2;simp[bM,I.isAgg,h2] at h1;exact h1.symm
theorem fC{k:IntKind}{n:Int}{v:Value}(h:aV w D E (.int k n) v):v=.int k n∧k.min≤n∧n≤k.max:=by
 obtain ⟨cs,h1,h2⟩:=h;simp only[ai] at h2;simp[bM,I.isAgg,h2.1] at h1;exact ⟨h1.symm,h2.2⟩
theorem oa{s:ByteArray}{v:Value}(h:aV w D E (.c6 s) v):v=.string s∧s.size≤maxLen:=by
 obtain ⟨cs,h1,h2⟩:=h;simp only[ai] at h2;simp[bM,I.isAgg,h2.1] at h1;exact ⟨h1.symm,h2.2⟩
theorem JF{x:I}{v:Value}(hx:x.isAgg=false)(h:ai w D E x [v]):aV w D E x v:=by
 cases x <;>simp only[ai] at h <;>first | (simp[I.isAgg] at hx;done) | exact ⟨[v],by simp[bM,I.isAgg],by simpa only[ai] using h⟩
theorem jT{fs:List I}{v:Value}(h:aV w D E (.agg fs) v):∃ cs:List Value,v=.agg cs.toArray∧aL w D E fs cs:=by
 obtain ⟨cs,h1,h2⟩:=h;simp only[ai] at h2;exact ⟨cs,by simpa[bM,I.isAgg] using h1,h2⟩
theorem JE{fs:List I}{cs:List Value}(h:aL w D E fs cs):aV w D E (.agg fs) (.agg cs.toArray):=⟨cs,by simp[bM,I.isAgg],by simpa only[ai] using h⟩
theorem oW(b:Bool):aV w D E (.bool b) (.bool b):=⟨[.bool b],by simp[bM,I.isAgg],by simp[ai]⟩
theorem lp{k:IntKind}{n:Int}(h:k.min≤n∧n≤k.max):aV w D E (.int k n) (.int k n):=⟨[.int k n],by simp[bM,I.isAgg],by simp only[ai,true_and];exact h⟩
theorem pf{n:Nat}{p:List Nat}{v:Value}(h:aV w D E (.ptr n p) v):∃ b aS off,E n=some (.aD b aS)∧aS.off p=some off∧v=.pointer (some ⟨b,off,none⟩):=by
 obtain ⟨cs,h1,h2⟩:=h;simp only[ai] at h2;obtain ⟨b,aS,off,h3,h4,h5⟩:=h2;exact ⟨b,aS,off,h3,h4,by simpa[bM,I.isAgg,h5] using h1.symm⟩
theorem qA{x:I}{v:Value}(h:aV w D E (.ref x) v):∃ b off cs,v=.pointer (some ⟨b,off,none⟩)∧gS w D b off cs∧ai w D E x cs:=by
 obtain ⟨cs,h1,h2⟩:=h;simp only[ai] at h2;obtain ⟨b,off,cs',h3,h4,h5⟩:=h2;exact ⟨b,off,cs',by simpa[bM,I.isAgg,h3] using h1.symm,h4,h5⟩
theorem tT{x:I}{b off:Nat}{cs:List Value}(h1:gS w D b off cs)(h2:ai w D E x cs):aV w D E (.ref x) (.pointer (some ⟨b,off,none⟩)) :=
 ⟨_,by simp[bM,I.isAgg];rfl,by simp only[ai];exact ⟨b,off,cs,rfl,h1,h2⟩⟩
theorem n9{sz:Nat}{es:List I}{v:Value}(h:aV w D E (.slice sz es) v):∃ ad cap,v=.slice ad es.length cap∧es.length≤cap∧cap≤maxLen ∧
  (es=[]∨∃ b off cs,ad=some ⟨b,off,none⟩∧gS w D b off cs∧aL w D E es cs)∧∀ e∈es,e.size=sz:=by
 obtain ⟨cs,h1,h2⟩:=h;simp only[ai] at h2;obtain ⟨ad,cap,h3,h4⟩:=h2;exact ⟨ad,cap,by simpa[bM,I.isAgg,h3] using h1.symm,h4⟩
theorem tU{sz:Nat}{es:List I}{ad:Option Addr}{n cap:Nat}(hn:n=es.length)(h1:n≤cap)(h2:cap≤maxLen)
  (h3:es=[]∨∃ b off cs,ad=some ⟨b,off,none⟩∧gS w D b off cs∧aL w D E es cs) (h4:∀ e∈es,e.size=sz):aV w D E (.slice sz es) (.slice ad n cap):=by
 subst hn;exact ⟨_,by simp[bM,I.isAgg];rfl,by simp only[ai];exact ⟨ad,cap,rfl,h1,h2,h3,h4⟩⟩
end
def cL(op:BinOp)(x y:I):Option I :=
 match x,y with
 | .int k a,.int k' b =>
  match op with
  | .shl=>if 0≤b then some (.int k (k.wrap (a*2^(min b.toNat k.bits)))) else none
  | .shr=>if 0≤b then some (.int k (a.fdiv (2^(min b.toNat k.bits)))) else none
  |op=>if k=k' then
   match op with
   | .add=>some (.int k (k.wrap (a+b)))
   | .sub=>some (.int k (k.wrap (a-b)))
   | .mul=>some (.int k (k.wrap (a*b)))
   | .quo=>if b=0 then none else some (.int k (k.wrap (a.tdiv b)))
   | .rem=>if b=0 then none else some (.int k (a.tmod b))
   | .and=>some (.int k (k.wrap ((BitVec.ofInt k.bits a &&& BitVec.ofInt k.bits b).toNat:Int)))
   | .or=>some (.int k (k.wrap ((BitVec.ofInt k.bits a ||| BitVec.ofInt k.bits b).toNat:Int)))
   | .xor=>some (.int k (k.wrap ((BitVec.ofInt k.bits a ^^^ BitVec.ofInt k.bits b).toNat:Int)))
   | .andNot=>some (.int k (k.wrap ((BitVec.ofInt k.bits a &&& ~~~ BitVec.ofInt k.bits b).toNat:Int)))
   | .eql=>some (.bool (a==b))
   | .neq=>some (.bool (a != b))
   | .lss=>some (.bool (decide (a<b)))
   | .leq=>some (.bool (decide (a≤b)))
   | .gtr=>some (.bool (decide (a>b)))
   | .geq=>some (.bool (decide (a≥b)))
   |_=>none
   else none
 | .c6 s,.c6 t =>
  match op with
  | .eql=>some (.bool (s.toList==t.toList))
  | .neq=>some (.bool (!(s.toList==t.toList)))
  | .lss=>some (.bool (Op.bytesLess s.toList t.toList))
  | .leq=>some (.bool (Op.bytesLess s.toList t.toList||s.toList==t.toList))
  | .gtr=>some (.bool (!(Op.bytesLess s.toList t.toList||s.toList==t.toList)))
  | .geq=>some (.bool (!(Op.bytesLess s.toList t.toList)))
  | .add=>if s.size+t.size≤9223372036854775807 then some (.c6 (s++t)) else none
  |_=>none
 |_,_=>none
theorem qI(k:IntKind)(n:Int):k.min≤k.wrap n∧k.wrap n≤k.max:=by
 cases k <;>simp only[IntKind.min,IntKind.max,IntKind.wrap,IntKind.bits,IntKind.signed] <;>simp <;>(try split) <;>omega
theorem al0(a b:Int):(0≤a→0≤a.tmod b∧a.tmod b≤a)∧(a<0→a≤a.tmod b∧a.tmod b≤0):=by
 have key:∀ n:Nat,0≤(n:Int).tmod b∧(n:Int).tmod b≤n:=by
  intro n;cases b with
  |ofNat m=>show 0≤((n%m:Nat):Int)∧((n%m:Nat):Int)≤n;have:=Nat.mod_le n m;omega
  |negSucc m=>show 0≤((n%(m+1):Nat):Int)∧((n%(m+1):Nat):Int)≤n;have:=Nat.mod_le n (m+1);omega
 refine ⟨fun h =>?_,fun h =>?_⟩
 ·obtain ⟨n,rfl⟩:=Int.eq_ofNat_of_zero_le h;exact key n
 ·obtain ⟨n,hn⟩:=Int.eq_ofNat_of_zero_le (show 0≤-a by omega);have:=key n;rw[←hn,Int.neg_tmod] at this;omega
theorem al1(k:IntKind)(a b:Int)(h:k.min≤a∧a≤k.max):k.min≤a.tmod b∧a.tmod b≤k.max:=by
 have h0:k.min≤0∧0≤k.max:=by cases k <;>simp[IntKind.min,IntKind.max,IntKind.bits,IntKind.signed]
 have:=al0 a b;omega
theorem XZ(a:Int)(m:Int)(hm:0<m):(0≤a→0≤a.fdiv m∧a.fdiv m≤a)∧(a<0→a≤a.fdiv m∧a.fdiv m≤0):=by
 rw[Int.fdiv_eq_ediv_of_nonneg _ (by omega)];have h1:=Int.mul_ediv_add_emod a m;have h2:=Int.emod_nonneg a (show m≠0 by omega);refine ⟨fun h=>⟨Int.ediv_nonneg h (by omega),Int.ediv_le_self _ h⟩,fun h=>⟨?_,?_⟩⟩
 ·rw[Int.le_ediv_iff_mul_le hm];have:a*m≤a*1:=Int.mul_le_mul_of_nonpos_left (by omega) (by omega);omega
 ·have:=Int.ediv_neg_of_neg_of_pos h hm;omega
theorem X0(k:IntKind)(a:Int)(n:Nat)(h:k.min≤a∧a≤k.max):k.min≤a.fdiv (2^n)∧a.fdiv (2^n)≤k.max:=by
 have h0:k.min≤0∧0≤k.max:=by cases k <;>simp[IntKind.min,IntKind.max,IntKind.bits,IntKind.signed]
 have:=XZ a (2^n) (Int.pow_pos (by omega));omega
def cD(A:af):I→Option I
 | .ref x=>some x
 | .ptr n p=>match A.o n with
  |some (.box x)=>x.at p
  |_=>none
 |_=>none
mutual
def I.bj:I→Bool
 | .agg fs=>I.bU fs
 | .slice _ es=>I.bU es
 | .ref x=>x.bj
 | .func _ caps=>I.bU caps
 | .iface _ v=>v.bj
 | .cM ks vs=>I.bU ks&&I.bU vs
 | .ptr _ _ | .own _ _ | .view _ _ _ _ _ | .mref _ | .dx _ | .undef | .de | .tuple _=>false
 | .bool _ | .int _ _ | .c6 _ | .nilp | .dh | .dW | .raw _ | .nils _ | .c0 _=>true
def I.bU:List I→Bool
 | []=>true
 |x::xs=>x.bj&&I.bU xs
end
def fy(f:I→Option I):List I→Option (List I)
 | []=>some []
 |x::xs=>match f x,fy f xs with
  |some y,some ys=>some (y::ys)
  |_,_=>none
def df(A:af):Nat→I→Option I
 |0,_=>none
 |k+1,x=>if x.bj then some x else match x with
  | .agg fs=>(fy (df A k) fs).map .agg
  | .func f caps=>(fy (df A k) caps).map (.func f)
  | .ptr n p=>match cD A (.ptr n p) with
   |some y=>(df A k y).map .ref
   |none=>none
  | .view n p sz lo l=>match cD A (.ptr n p) with
   |some (.agg fs)=>if I.bU ((fs.drop lo).take l)=true then some (.slice sz ((fs.drop lo).take l)) else none
   |_=>none
  | .mref n=>match A.o n with
   |some (.cC ks vs)=>if I.bU ks=true then (fy (df A k) vs).map (.cM ks) else none
   |_=>none
  | .own n l=>match A.o n with
   |some (.bR _ sz es)=>if l=es.length∧I.bU es=true then some (.slice sz es) else none
   |_=>none
  |_=>none
mutual
/-- The value for others to hold: pointers to the frame's own variables and rows become what they hold. -/
def a6(aD:Bool)(A:af):I→Option I
 | .ptr n p=>if aD then (match cD A (.ptr n p) with | some x=>if x.bj then some (.ref x) else (df A 9 x).map .ref | none=>none) else none
 | .own n k=>match A.o n with
  |some (.bR _ sz es)=>if k=es.length∧I.bU es=true then some (.slice sz es) else none
  |_=>none
 | .view n p sz lo k=>if aD then (match cD A (.ptr n p) with
  |some (.agg fs)=>if I.bU ((fs.drop lo).take k)=true then some (.slice sz ((fs.drop lo).take k)) else none
  |_=>none) else none
 | .mref n=>if aD then (match A.o n with
  |some (.cC ks vs)=>if I.bU ks=true then (fy (df A 9) vs).map (.cM ks) else none
  |_=>none) else none
 | .dx _=>none
 | .cM ks vs=>if I.bU ks&&I.bU vs then some (.cM ks vs) else none
 | .nils sz=>some (.slice sz [])
 | .c0 sz=>some (.slice sz [])
 | .func f caps=>(bV aD A caps).map (.func f)
 | .agg fs=>(bV aD A fs).map .agg
 | .tuple _=>none
 | .undef=>none
 | .de=>none
 | .bool b=>some (.bool b)
 | .int k n=>some (.int k n)
 | .c6 s=>some (.c6 s)
 | .nilp=>some .nilp
 | .dh=>some .dh
 | .dW=>some .dW
 | .raw u=>some (.raw u)
 | .slice sz es=>if I.bU es then some (.slice sz es) else none
 | .ref x=>if x.bj then some (.ref x) else none
 | .iface t v=>if v.bj then some (.iface t v) else none
def bV(aD:Bool)(A:af):List I→Option (List I)
 | []=>some []
 |x::xs=>match a6 aD A x,bV aD A xs with
  |some y,some ys=>some (y::ys)
  |_,_=>none
end
def b8(s:Option Nat)(x:I):Bool:=match s with
 |none => !x.isAgg
 |some n=>x.isAgg&&x.size==n
def I.cn:I→Bool
 | .undef | .de | .tuple _=>false
 |_=>true
def iD(n esz:Nat)(fs:List I):Bool:=fs.length==n&&fs.all fun f=>f.size==esz
def eJ(zs:List I):List (Nat×I)→Option (List I)
 | []=>some zs
 |(i,v)::rest=>match zs[i]? with
  |some z=>if v.cn=true∧v.size=z.size then eJ (zs.set i v) rest else none
  |none=>none
def ig(x:Option I)(d:Int):Option Int:=match x with
 |none=>some d
 |some (.int _ n)=>some n
 |_=>none
def jV(sz:Nat)(es:List I)(lo hi mx:Option I):Option I :=
 match ig hi es.length with
 |none=>none
 |some h=>match ig mx es.length with
  |none=>none
  |some m=>match ig lo 0 with
   |none=>none
   |some l=>if 0≤l∧l≤h∧h≤m∧m≤es.length then
     (if mx.isSome∧m=l then some (.c0 sz) else some (.slice sz ((es.take h.toNat).drop l.toNat))) else none
def hJ(n:Nat)(p:List Nat)(sz lo k total:Nat)(lo' hi' mx':Option I):Option I :=
 match ig hi' k with
 |none=>none
 |some h=>match ig lo' 0 with
  |none=>none
  |some l=>match mx' with
   |none=>if 0≤l∧l≤h∧h≤((total-lo:Nat):Int) then (if l=((total-lo:Nat):Int) then some (.c0 sz) else some (.view n p sz (lo+l.toNat) (h.toNat-l.toNat))) else none
   |some (.int _ m)=>if 0≤l∧l≤h∧h≤m∧m≤((total-lo:Nat):Int) then some .de else none
   |_=>none
def iA(a b:Option Bool):Option Bool:=match a,b with
 |some x,some y=>some (x&&y)
 |_,_=>none
mutual
/-- '==',part by part. -/
def cv:cS→I→I→Option Bool
 | .i k,x,y=>match x,y with
  | .int k1 a,.int k2 b=>if k1=k∧k2=k then some (a==b) else none
  |_,_=>none
 | .b,x,y=>match x,y with
  | .bool a,.bool b=>some (a==b)
  |_,_=>none
 | .s,x,y=>match x,y with
  | .c6 a,.c6 b=>some (a.toList==b.toList)
  |_,_=>none
 | .br l,x,y=>match x,y with
  | .agg fs,.agg gs=>jb l fs gs
  |_,_=>none
 | .kr n e,x,y=>match x,y with
  | .agg fs,.agg gs=>if fs.length=n∧gs.length=n then (fs.zip gs).foldr (fun p acc=>iA (cv e p.1 p.2) acc) (some true) else none
  |_,_=>none
def jb:List cS→List I→List I→Option Bool
 | [],fs,gs=>match fs,gs with
  | [],[]=>some true
  |_,_=>none
 |t::ts,fs,gs=>match fs,gs with
  |f::fs,g::gs=>iA (cv t f g) (jb ts fs gs)
  |_,_=>none
end
def pS(k:IntKind)(n:Int):Int:=k.wrap ((BitVec.ofInt k.bits (if k.signed then -1 else k.max) ^^^ BitVec.ofInt k.bits n).toNat:Int)
def fh(ty:cS)(k:I):List I→Nat→Option (Option Nat)
 | [],_=>some none
 |x::xs,i=>match cv ty k x with
  |some true=>some (some i)
  |some false=>fh ty k xs (i+1)
  |none=>none
def gA(A:af):I→Option (List I×List I)
 | .cM ks vs=>some (ks,vs)
 | .mref n=>match A.o n with
  |some (.cC ks vs)=>some (ks,vs)
  |_=>none
 | .raw (.map none)=>some ([],[])
 |_=>none
def gz(ty:cS)(z k:I)(ks vs:List I):Option (I×Bool) :=
 if (cv ty k k).isSome then (match fh ty k ks 0 with
  |some (some i)=>(vs[i]?).map fun v=>(v,true)
  |some none=>some (z,false)
  |none=>none) else none
def ji:I→Option Bool
 | .nilp=>some true
 | .ptr _ _=>some false
 | .ref _=>some false
 |_=>none
def gl(ty:cS)(k v:I)(ks vs:List I):Option (List I×List I) :=
 if (cv ty k k).isSome=true∧k.cn=true∧v.cn=true then (match fh ty k ks 0 with
  |some (some i)=>some (ks,vs.set i v)
  |some none=>some (ks++[k],vs++[v])
  |none=>none) else none
def mX:I→Option I
 | .ptr n p=>some (.ptr n p)
 | .ref x=>some (.ref x)
 |_=>none
def m0(neg:Bool):Option Bool→Option Bool→Option I
 |some a,some b=>if a||b then some (.bool (if neg then !(a&&b) else (a&&b))) else none
 |_,_=>none
def rC(ok:Bool):Option (I×Bool)→Option I
 |some (v,b)=>some (if ok then .tuple [v,.bool b] else v)
 |none=>none
def rB(ty:cS)(z:I)(ok:Bool)(k:I):Option (List I×List I)→Option I
 |some (ks,vs)=>rC ok (gz ty z k ks vs)
 |none=>none
def nC(ks vs:List I):Option Nat→Option I
 |some i=>match ks[i]?,vs[i]? with
  |some k,some v=>some (.tuple [k,v])
  |_,_=>none
 |none=>none
def bt(A:af):b9→Option I
 | .mv x=>some (ah A x)
 | .pick c a b=>match ah A c with | .bool t=>some (if t then ah A a else ah A b) | _=>none
 | .bin op x y=>cL op (ah A x) (ah A y)
 | .eqv ty neg x y=>(cv ty (ah A x) (ah A y)).map fun b=>.bool (if neg then !b else b)
 | .nilS neg x=>match ah A x with
  | .nils _=>some (.bool (!neg))
  | .slice _ es=>if es.isEmpty then none else some (.bool neg)
  | .view _ _ _ _ _=>some (.bool neg)
  |_=>none
 | .conv k x=>match ah A x with | .int _ n=>some (.int k (k.wrap n)) | _=>none
 | .un op x=>match op,ah A x with
  | .not,.bool b=>some (.bool !b)
  | .neg,.int k n=>some (.int k (k.wrap (0-n)))
  | .xor,.int k n=>some (.int k (pS k n))
  |_,_=>none
 | .ld s x=>match cD A (ah A x) with | some v=>if b8 s v then some v else none | none=>none
 | .fa f off x=>match ah A x with
  | .ref (.agg fs)=>match fs[f]? with | some v=>if I.sizes (fs.take f)=off then some (.ref v) else none | none=>none
  | .ptr n p=>match cD A (.ptr n p) with | some (.agg fs)=>if f<fs.length∧I.sizes (fs.take f)=off then some (.ptr n (p++[f])) else none | _=>none
  |_=>none
 | .fl f off s x=>match ah A x with
  | .agg fs=>match fs[f]? with | some v=>if I.sizes (fs.take f)=off∧b8 s v=true then some v else none | none=>none
  |_=>none
 | .ia n esz x i=>match ah A i with
  | .int _ k=>if 0≤k∧k<n then (match ah A x with
   | .ref (.agg fs)=>if iD n esz fs then (fs[k.toNat]?).map .ref else none
   | .ptr m p=>match cD A (.ptr m p) with | some (.agg fs)=>if iD n esz fs then some (.ptr m (p++[k.toNat])) else none | _=>none
   |_=>none) else none
  |_=>none
 | .is esz x i=>match ah A i with
  | .int _ k=>match ah A x with
   | .slice sz es=>if sz=esz∧0≤k∧k<es.length then (es[k.toNat]?).map .ref else none
   | .own m l=>match A.o m with | some (.bR _ sz es)=>if l=es.length∧sz=esz∧0≤k∧k<es.length then (es[k.toNat]?).map .ref else none | _=>none
   | .view m p sz lo l=>match cD A (.ptr m p) with | some (.agg _)=>if sz=esz∧0≤k∧k<l then some (.ptr m (p++[lo+k.toNat])) else none | _=>none
   |_=>none
  |_=>none
 | .ix n esz s x i=>match ah A i with
  | .int _ k=>if 0≤k∧k<n then (match ah A x with
   | .agg fs=>if iD n esz fs then (match fs[k.toNat]? with | some v=>if b8 s v then some v else none | none=>none) else none
   |_=>none) else none
  |_=>none
 | .len x=>match ah A x with
  | .slice _ es=>some (.int .i64 es.length)
  | .nils _ | .c0 _=>some (.int .i64 0)
  | .own m l=>match A.o m with | some (.bR _ _ es)=>if l=es.length then some (.int .i64 es.length) else none | _=>none
  | .view _ _ _ _ k=>some (.int .i64 k)
  |_=>none
 | .cap x=>match ah A x with
  | .nils _ | .c0 _=>some (.int .i64 ((0:Nat):Int))
  | .view n p _ lo _=>match cD A (.ptr n p) with | some (.agg fs)=>some (.int .i64 ((fs.length-lo:Nat):Int)) | _=>none
  |_=>none
 | .bs0 esz=>some (.c0 esz)
 | .lenT x=>match ah A x with
  | .c6 s=>some (.int .i64 s.size)
  |_=>none
 | .va n esz x=>match ah A x with
  | .ptr m p=>match cD A (.ptr m p) with | some (.agg fs)=>if iD n esz fs=true∧n≤maxLen∧n≠0 then some (.view m p esz 0 n) else none | _=>none
  | .ref (.agg fs)=>if iD n esz fs=true∧n≤maxLen∧n≠0 then some (.slice esz fs) else none
  |_=>none
 | .sl esz x lo hi mx=>match ah A x with
  | .slice sz es=>if sz=esz then jV sz es (lo.map (ah A)) (hi.map (ah A)) (mx.map (ah A)) else none
  | .nils sz=>if sz=esz then jV sz [] (lo.map (ah A)) (hi.map (ah A)) (mx.map (ah A)) else none
  | .c0 sz=>if sz=esz then jV sz [] (lo.map (ah A)) (hi.map (ah A)) (mx.map (ah A)) else none
  | .view n p sz l0 k=>match cD A (.ptr n p) with | some (.agg fs)=>if sz=esz then hJ n p sz l0 k fs.length (lo.map (ah A)) (hi.map (ah A)) (mx.map (ah A)) else none | _=>none
  |_=>none
 | .bld zs parts=>(eJ zs (parts.map fun p=>(p.1,ah A p.2))).map .agg
 | .nilC x=>mX (ah A x)
 | .ptrE neg x y=>m0 neg (ji (ah A x)) (ji (ah A y))
 | .lk ty z ok m k=>rB ty z ok (ah A k) (gA A (ah A m))
 | .ent x=>match ah A x with
  | .dx n=>match A.o n with
   |some (.it ks vs _ cur)=>nC ks vs cur
   |_=>none
  |_=>none
 | .bs _ esz parts=>match bV false A (parts.map (ah A)) with
  |some es=>if (es.all fun e=>e.size==esz)∧I.bU es then some (.slice esz es) else none
  |none=>none
 | .ext x i=>match ah A x with | .tuple fs=>fs[i]? | _=>none
 | .mk f caps=>if ((caps.map (ah A)).all fun y=>y.cn)=true then some (.func f (caps.map (ah A))) else none
 |_=>none
mutual
theorem ai.fO{w:World}{D D':aT}{E E':aW}(hD:∀ b o,D b o→D' b o):∀ (x:I) (cs:List Value),x.bj=true→ai w D E x cs→ai w D' E' x cs
 | .agg fs,cs,hc,hr=>by simp only[ai,I.bj] at *;exact aL.fO hD fs cs hc hr
 | .bool b,cs,_,hr=>by simpa only[ai] using hr
 | .int k n,cs,_,hr=>by simpa only[ai] using hr
 | .c6 s,cs,_,hr=>by simpa only[ai] using hr
 | .nilp,cs,_,hr=>by simpa only[ai] using hr
 | .dh,cs,_,hr=>by simpa only[ai] using hr
 | .dW,cs,_,hr=>by simpa only[ai] using hr
 | .raw _,cs,_,hr=>by simpa only[ai] using hr
 | .nils _,cs,_,hr=>by simpa only[ai] using hr
 | .c0 _,cs,_,hr=>by simpa only[ai] using hr
 | .slice sz es,cs,hc,hr=>by
  simp only[ai,I.bj] at *;obtain ⟨a,cap,h1,h2,h3,h4,h5⟩:=hr;refine ⟨a,cap,h1,h2,h3,?_,h5⟩;rcases h4 with h4 | ⟨b,off,cs',h6,h7,h8⟩
  ·exact .inl h4
  ·exact .inr ⟨b,off,cs',h6,fun j v hj=>⟨(h7 j v hj).1,hD _ _ (h7 j v hj).2⟩,aL.fO hD es cs' hc h8⟩
 | .ref x,cs,hc,hr=>by
  simp only[ai,I.bj] at *;obtain ⟨b,off,cs',h1,h2,h3⟩:=hr;exact ⟨b,off,cs',h1,fun j v hj=>⟨(h2 j v hj).1,hD _ _ (h2 j v hj).2⟩,ai.fO hD x cs' hc h3⟩
 | .func f caps,cs,hc,hr=>by
  simp only[ai,I.bj] at *;obtain ⟨vs,h1,h2⟩:=hr;exact ⟨vs,h1,aJ.fO hD caps vs hc h2⟩
 | .iface t v,cs,hc,hr=>by
  simp only[ai,I.bj] at *;obtain ⟨u,cs',h1,h2,h3⟩:=hr;exact ⟨u,cs',h1,h2,ai.fO hD v cs' hc h3⟩
 | .ptr n p,_,hc,_=>by simp[I.bj] at hc
 | .own n k,_,hc,_=>by simp[I.bj] at hc
 | .view n p _ _ _,_,hc,_=>by simp[I.bj] at hc
 | .mref n,_,hc,_=>by simp[I.bj] at hc
 | .dx n,_,hc,_=>by simp[I.bj] at hc
 | .cM ks vs,cs,hc,hr=>by
  simp only[ai,I.bj,zz3] at *;obtain ⟨b,es,ck,h1,h2,h3,h4⟩:=hr;exact ⟨b,es,ck,h1,⟨h2.1,hD _ _ h2.2.1,h2.2.2⟩,aJ.fO hD ks _ hc.1 h3,aJ.fO hD vs _ hc.2 h4⟩
 | .undef,_,hc,_=>by simp[I.bj] at hc
 | .de,_,hc,_=>by simp[I.bj] at hc
 | .tuple _,_,hc,_=>by simp[I.bj] at hc
theorem aL.fO{w:World}{D D':aT}{E E':aW}(hD:∀ b o,D b o→D' b o):∀ (xs:List I) (cs:List Value),I.bU xs=true→aL w D E xs cs→aL w D' E' xs cs
 | [],cs,_,hr=>by simpa only[aL] using hr
 |x::xs,cs,hc,hr=>by
  simp only[aL,I.bU,zz3] at *;obtain ⟨c1,c2,h1,h2,h3⟩:=hr;exact ⟨c1,c2,h1,ai.fO hD x c1 hc.1 h2,aL.fO hD xs c2 hc.2 h3⟩
theorem aJ.fO{w:World}{D D':aT}{E E':aW}(hD:∀ b o,D b o→D' b o):∀ (xs:List I) (vs:List Value),I.bU xs=true→aJ w D E xs vs→aJ w D' E' xs vs
 | [],vs,_,hr=>by simpa only[aJ] using hr
 |x::xs,vs,hc,hr=>by
  simp only[aJ,I.bU,zz3] at *;obtain ⟨v,rest,cs,h1,h2,h3,h4⟩:=hr;exact ⟨v,rest,cs,h1,h2,ai.fO hD x cs hc.1 h3,aJ.fO hD xs rest hc.2 h4⟩
end
theorem o7{w:World}{D:aT}{b:Nat}{cs:Array Value}{T:TypeId}{fz:Nat×Nat}(hb:w.heap[b]?=some (.cells cs T fz)){c1 c2 c3:List Value}(hc:cs.toList=c1++c2++c3)
  (hD:∀ o,o<c1.length+c2.length→D b o):gS w D b c1.length c2:=by
 intro j v hj;have hjl:j<c2.length:=(zy4.1 hj).1;refine ⟨?_,hD _ (by omega)⟩;have e:cs[c1.length+j]?=some v:=by
  rw[←zv6,hc,zz5,zw0 (by omega),Nat.add_sub_cancel_left,zx0 (by omega)];exact hj
 simp[World.cell?,hb,e]
section
variable {c:cO} {A:af} {a:Act} {w:World} {D:aT} {E:aW}
theorem aU.box(h:aU c A a w D E){n:Nat}{x:I}(hn:A.o n=some (.box x)) :
  ∃ b cs T,E n=some (.aD b x.aS)∧c.fo b∧w.heap[b]?=some (.cells cs T (0,0))∧ai w D E x cs.toList∧∀ o,¬ D b o:=by
 have:=h.bT n;rw[hn] at this;exact this
theorem aU.bR(h:aU c A a w D E){n sz:Nat}{T:TypeId}{es:List I}(hn:A.o n=some (.bR T sz es)) :
  ∃ aE,E n=some (.rw aE es.length)∧(∀ e∈es,e.size=sz)∧match aE with
  |none=>es=[]
  |some (b,cap)=>∃ cs pre rest,c.fo b∧w.heap[b]?=some (.cells cs T (0,0))∧cs.toList=pre++rest∧aL w D E es pre ∧
    cs.size=cap*sz∧es.length≤cap∧cap≤maxLen∧∀ o,D b o→o<pre.length:=by
 have:=h.bT n;rw[hn] at this;exact this
theorem aU.r7(h:aU c A a w D E){n:Nat}{T:TypeId}{xs:List Int}(hn:A.o n=some (.c5 T xs)) :
  ∃ aE,E n=some (.rw aE xs.length)∧(∀ x∈xs,IntKind.i64.min≤x∧x≤IntKind.i64.max)∧match aE with
  |none=>xs=[]
  |some (b,cap)=>∃ cs m,c.fo b∧w.heap[b]?=some (.cells cs T (0,0))∧cs.toList=(xs++List.replicate m 0).map (Value.int .i64)∧xs≠[]∧xs.length+m=cap∧cap≤maxLen∧∀ o,¬ D b o:=by
 have:=h.bT n;rw[hn] at this;exact this
theorem aU.map(h:aU c A a w D E){n:Nat}{ks vs:List I}(hn:A.o n=some (.cC ks vs)) :
  ∃ b es clock,E n=some (.cC b)∧c.fo b∧w.heap[b]?=some (.map es clock)∧qG es clock∧aJ w D E ks (es.toList.map (·.key))∧aJ w D E vs (es.toList.map (·.val))∧∀ o,¬ D b o:=by
 have:=h.bT n;rw[hn] at this;exact this
theorem aU.at(h:aU c A a w D E){n:Nat}{p:List Nat}{x:I}(hx:cD A (.ptr n p)=some x) :
  ∃ y b cs T off c1 c2 c3,A.o n=some (.box y)∧E n=some (.aD b y.aS)∧c.fo b∧w.heap[b]?=some (.cells cs T (0,0))∧y.at p=some x∧y.aS.off p=some off ∧
   cs.toList=c1++c2++c3∧c1.length=off∧ai w D E x c2∧ai w D E y cs.toList∧∀ o,¬ D b o:=by
 simp only[cD] at hx;split at hx
 ·rename_i y hn;obtain ⟨b,cs,T,h1,h2,h3,h4,h5⟩:=h.box hn;obtain ⟨off,c1,c2,c3,h6,h7,h8,h9⟩:=yX p y x _ h4 hx;exact ⟨y,b,cs,T,off,c1,c2,c3,hn,h1,h2,h3,hx,h6,h7,h8,h9,h4,h5⟩
 ·cases hx
theorem aU.AE(h:aU c A a w D E){x y:I}{v:Value}(hv:aV w D E x v)(hx:cD A x=some y) :
  ∃ b off cs,v=.pointer (some ⟨b,off,none⟩)∧(∀ j u,cs[j]?=some u→w.cell? ⟨b,off+j,none⟩=some u)∧ai w D E y cs:=by
 cases x with
 |ref z =>
  simp only[cD,t7] at hx;subst hx;obtain ⟨b,off,cs,h1,h2,h3⟩:=qA hv;exact ⟨b,off,cs,h1,fun j u hj=>(h2 j u hj).1,h3⟩
 |ptr n p =>
  obtain ⟨b,aS,off,h1,h2,h3⟩:=pf hv;obtain ⟨z,b',cs,T,off',c1,c2,c3,k1,k2,_,k3,_,k5,k6,k7,k8,_,_⟩:=h.at hx;rw[k2] at h1;simp only[t7,bS.aD.injEq] at h1;obtain ⟨rfl,rfl⟩:=h1;rw[k5,t7] at h2;subst h2;refine ⟨b',off',c2,h3,fun j u hj =>?_,k8⟩;have:=o7 (D:=fun _ _=>True) k3 k6 (fun _ _=>trivial);rw[k7] at this;exact (this j u hj).1
 |_=>simp[cD] at hx
theorem uy{w:World}{D:aT}{E:aW} : ∀ (xs ys:List I) (cs:List Value),aL w D E (xs++ys) cs→∃ c1 c2,cs=c1++c2∧aL w D E xs c1∧aL w D E ys c2
 | [],ys,cs,hr=>⟨[],cs,rfl,by simp[aL],hr⟩
 |x::xs,ys,cs,hr=>by
  simp only[zy1,aL] at hr;obtain ⟨d1,d2,rfl,k1,k2⟩:=hr;obtain ⟨e1,e2,rfl,k3,k4⟩:=uy xs ys d2 k2;exact ⟨d1++e1,e2,by simp,by simp only[aL];exact ⟨d1,e1,rfl,k1,k3⟩,k4⟩
theorem MT{fs:List I}{sz:Nat}(h:∀ s∈I.cU fs,s.size=sz):∀ f∈fs,f.size=sz:=by
 intro f hf;rw[←I.my];exact h _ (by rw[I.dy];exact zx2.2 ⟨f,hf,rfl⟩)
theorem uz{w:World}{D:aT}{E:aW}{fs:List I}{cs:List Value}{sz:Nat}(hr:aL w D E fs cs)(hev:∀ f∈fs,f.size=sz)(lo k:Nat)(h:lo+k≤fs.length) :
  ∃ d1 d2 d3,cs=d1++(d2++d3)∧d1.length=lo*sz∧aL w D E ((fs.drop lo).take k) d2∧aL w D E ((fs.drop lo).drop k) d3:=by
 have e1:fs=fs.take lo++((fs.drop lo).take k++(fs.drop lo).drop k):=by rw[zx1,zx1]
 rw[e1] at hr;obtain ⟨d1,d',rfl,q1,q2⟩:=uy _ _ _ hr;obtain ⟨d2,d3,rfl,q3,q4⟩:=uy _ _ _ q2;refine ⟨d1,d2,d3,rfl,?_,q3,q4⟩;rw[aL.length _ _ q1,I.iq _ (fun x hx=>hev x (List.mem_of_mem_take hx)),zy8]
 congr 1
 omega
structure iz (aD:Bool) (A:af) (D:aT) (E:aW) (D':aT):Prop where
 da:∀ b o,D b o→D' b o
 bR:∀ n T sz es b cap,A.o n=some (.bR T sz es)→E n=some (.rw (some (b,cap)) es.length)→∀ o,o<es.length*sz→D' b o
 box:aD=true→∀ n x b aS,A.o n=some (.box x)→E n=some (.aD b aS)→∀ o,o<x.size→D' b o
 map:aD=true→∀ n ks vs b,A.o n=some (.cC ks vs)→E n=some (.cC b)→D' b 0
def ep(A A':af):Prop:=∀ n x,A.o n=some x→A'.o n=some x
theorem j6{A A':af}(hu:ep A A'){x v:I}(h:cD A x=some v):cD A' x=some v:=by
 cases x <;>simp only[cD] at h ⊢ <;>try exact h
 rename_i n p;cases ho:A.o n with
 |none=>rw[ho] at h;cases h
 |some y=>rw[ho] at h;rw[hu n y ho];exact h
theorem De{A0 A:af}(hu:ep A0 A){n:Nat}{p:List Nat}{x z:I}(h:cD A0 (.ptr n p)=some x)(hz:A.o n=some (.box z)):A0.o n=some (.box z):=by
 simp only[cD] at h;split at h
 ·rename_i y hy;have:=hu n _ hy;rw[hz] at this;rw[hy,←this]
 ·cases h
theorem aU.Mk(h:aU c A a w D E){A0:af}(hu:ep A0 A){D':aT}(hw:iz true A0 D E D'){n:Nat}{p:List Nat}{x:I}{cs:List Value}(hx:cD A0 (.ptr n p)=some x)(hr:ai w D E (.ptr n p) cs) :
  ∃ b off c2,cs=[.pointer (some ⟨b,off,none⟩)]∧gS w D' b off c2∧ai w D E x c2:=by
 obtain ⟨z,b',cs',T,off',c1,c2,c3,k1,k2,_,k3,k4,k5,k6,k7,k8,k9,_⟩:=h.at (j6 hu hx);have k1:=De hu hx k1;simp only[ai] at hr;obtain ⟨b,aS,off,h1,h2,h3⟩:=hr;rw[k2] at h1;simp only[t7,bS.aD.injEq] at h1;obtain ⟨rfl,rfl⟩:=h1;rw[k5,t7] at h2;subst h2;have hsz:=ai.length z _ k9;rw[k6] at hsz;simp only[zz7] at hsz;refine ⟨b',off',c2,h3,?_,k8⟩;rw[←k7];exact o7 k3 k6 (fun o ho=>hw.box rfl n z b' _ k1 k2 o (by omega))
theorem aU.jV(h:aU c A a w D E){A0:af}(hu:ep A0 A){D':aT}{E':aW}(hw:iz true A0 D E D'){n:Nat}{p:List Nat}{sz lo k:Nat}{fs:List I}{cs:List Value}(hx:cD A0 (.ptr n p)=some (.agg fs))(hr:ai w D E (.view n p sz lo k) cs)
  (hcl:I.bU ((fs.drop lo).take k)=true):ai w D' E' (.slice sz ((fs.drop lo).take k)) cs:=by
 obtain ⟨z,b',cs',T,off',c1,c2,c3,k1,k2,_,k3,k4,k5,k6,k7,k8,k9,_⟩:=h.at (j6 hu hx);have k1:=De hu hx k1;simp only[ai] at hr k8 ⊢;obtain ⟨b,aS,off,l,h1,h2,h3,h4,h5,h6,h7⟩:=hr;rw[k2] at h1;simp only[t7,bS.aD.injEq] at h1;obtain ⟨rfl,rfl⟩:=h1;rw[k5,t7] at h2;subst h2;rw[nd p z _ k4] at h3;simp only[I.aS,t7,cW.ej.injEq] at h3;subst h3;have hsz:=ai.length z _ k9;rw[k6] at hsz;rw[I.dy,zy3] at h4 h5 h6;have hev:=MT h7;obtain ⟨d1,d2,d3,rfl,q1,q2,q3⟩:=uz k8 hev lo k h6;simp only[zz7] at hsz;have hlen:((fs.drop lo).take k).length=k:=by rw[zy8,zy9];omega
 refine ⟨some ⟨b',off'+lo*sz,none⟩,fs.length-lo,by rw[hlen];exact h4,by rw[hlen];omega,by omega,.inr ⟨b',off'+lo*sz,d2,rfl,?_,aL.fO hw.da _ d2 hcl q2⟩,?_⟩
 ·have:=o7 (D:=D') (c1:=c1++d1) (c2:=d2) (c3:=d3++c3) k3 (by rw[k6];simp) (fun o ho=>hw.box rfl n z b' _ k1 k2 o (by rw[zz7] at ho;omega));rw[zz7,k7,q1] at this;exact this
 ·intro e he;exact hev e (List.mem_of_mem_drop (List.mem_of_mem_take he))
theorem aU.MD(h:aU c A a w D E){aD:Bool}{A0:af}(hu:ep A0 A){D':aT}{E':aW}(hw:iz aD A0 D E D'){n k T sz:Nat}{es:List I}{cs:List Value}(hn:A0.o n=some (.bR T sz es))(hcl:I.bU es=true)(hk:k=es.length)(hr:ai w D E (.own n k) cs):ai w D' E' (.slice sz es) cs:=by
 subst hk;simp only[ai] at hr;obtain ⟨aE,l,h1,h2,_,h4⟩:=hr;obtain ⟨blk',k1,k2,k3⟩:=h.bR (hu n _ hn);rw[k1] at h1;simp only[t7,bS.rw.injEq] at h1;obtain ⟨rfl,rfl⟩:=h1;have h4:=h4 rfl;cases blk' with
 |none =>
  simp only at k3 h4;subst k3;simp only[ai];exact ⟨none,0,by simpa using h4,by simp,by simp[maxLen],by simp,by simp⟩
 |some bc =>
  obtain ⟨b,cap⟩:=bc;simp only at h4;obtain ⟨cs',pre,rest,k4,k5,k6,k7,k8,k9,k10,k11⟩:=k3;simp only[ai];refine ⟨some ⟨b,0,none⟩,cap,h4,k9,k10,.inr ⟨b,0,pre,rfl,?_,aL.fO hw.da es pre hcl k7⟩,k2⟩;have hp:pre.length=es.length*sz:=by rw[aL.length _ _ k7,I.iq _ k2]
  have:=o7 (D:=D') (c1:=[]) k5 (by simpa using k6) (fun o ho=>hw.bR n T sz es b cap hn k1 o (by simp at ho;omega));simpa using this
theorem JB{w:World}{D D':aT}{E E':aW}{f:I→Option I}(hf:∀ x y cs,ai w D E x cs→f x=some y→ai w D' E' y cs):∀ (xs ys:List I) (cs:List Value),aL w D E xs cs→fy f xs=some ys→aL w D' E' ys cs
 | [],ys,cs,hr,h=>by simp only[fy,t7] at h;subst h;simpa only[aL] using hr
 |x::xs,ys,cs,hr,h=>by
  simp only[fy] at h;split at h
  ·rename_i y ys' h1 h2;simp only[t7] at h;subst h;simp only[aL] at *;obtain ⟨c1,c2,e,k1,k2⟩:=hr;exact ⟨c1,c2,e,hf x y c1 k1 h1,JB hf xs ys' c2 k2 h2⟩
  ·cases h
theorem tP{w:World}{D D':aT}{E E':aW}{f:I→Option I}(hf:∀ x y cs,ai w D E x cs→f x=some y→ai w D' E' y cs)(hp:∀ x y,f x=some y→y.isAgg=x.isAgg):∀ (xs ys:List I) (vs:List Value),aJ w D E xs vs→fy f xs=some ys→aJ w D' E' ys vs
 | [],ys,cs,hr,h=>by simp only[fy,t7] at h;subst h;simpa only[aJ] using hr
 |x::xs,ys,cs,hr,h=>by
  simp only[fy] at h;split at h
  ·rename_i y ys' h1 h2;simp only[t7] at h;subst h;simp only[aJ] at *;obtain ⟨v,rest,c1,e,k1,k2,k3⟩:=hr;refine ⟨v,rest,c1,e,?_,hf x y c1 k2 h1,tP hf hp xs ys' rest k3 h2⟩;unfold bM at *;rw[hp x y h1];exact k1
  ·cases h
theorem wF{A0:af} : ∀ {k:Nat} {x y:I},df A0 k x=some y→y.isAgg=x.isAgg
 |0,_,_,h=>by simp[df] at h
 |k+1,x,y,h=>by
  simp only[df] at h;split at h
  ·simp only[t7] at h;rw[h]
  ·cases x <;>simp only[] at h <;>first
    |(cases h;done)
    |(simp only[zz1] at h;obtain ⟨z,_,rfl⟩:=h;rfl)
    |((repeat' split at h) <;>first | (cases h;done) | (simp only[t7] at h;subst h;rfl) | (simp only[zz1] at h;obtain ⟨z,_,rfl⟩:=h;rfl))
theorem wG(h:aU c A a w D E){A0:af}(hu:ep A0 A){D':aT}{E':aW}(hw:iz true A0 D E D'):∀ (k:Nat) (x y:I) (cs:List Value),ai w D E x cs→df A0 k x=some y→ai w D' E' y cs
 |0,_,_,_,_,hf=>by simp[df] at hf
 |k+1,x,y,cs,hr,hf=>by
  have ih:=wG h hu (E':=E') hw k;simp only[df] at hf;split at hf
  ·rename_i hcl;simp only[t7] at hf;subst hf;exact ai.fO hw.da x cs hcl hr
  ·rename_i hcl;cases x <;>simp only[] at hf <;>try (cases hf;done)
   case agg fs =>
    simp only[zz1] at hf;obtain ⟨ys,hy,rfl⟩:=hf;simp only[ai] at *;exact JB ih fs ys cs hr hy
   case func f caps =>
    simp only[zz1] at hf;obtain ⟨ys,hy,rfl⟩:=hf;simp only[ai] at *;obtain ⟨vs,h1,h2⟩:=hr;exact ⟨vs,h1,tP ih (fun x y hxy=>wF hxy) caps ys vs h2 hy⟩
   case ptr n p =>
    split at hf
    case h_2=>cases hf
    rename_i z hz;simp only[zz1] at hf;obtain ⟨y',hy,rfl⟩:=hf;obtain ⟨b,off,c2,k1,k2,k3⟩:=h.Mk hu hw hz hr;simp only[ai];exact ⟨b,off,c2,k1,k2,ih z y' c2 k3 hy⟩
   case view n p sz lo l =>
    split at hf
    case h_2=>cases hf
    rename_i fs hx;split at hf
    case isFalse=>cases hf
    rename_i hc;simp only[t7] at hf;subst hf;exact h.jV hu hw hx hr hc
   case mref n =>
    split at hf
    case h_2=>cases hf
    rename_i ks vs hn;split at hf
    case isFalse=>cases hf
    rename_i hc;simp only[zz1] at hf;obtain ⟨ys,hy,rfl⟩:=hf;simp only[ai] at hr ⊢;obtain ⟨b,h1,h2⟩:=hr;obtain ⟨b',es,ck,k1,k2,k3,k4,k5,k6,k7⟩:=h.map (hu n _ hn);rw[k1] at h1;cases h1;exact ⟨b,es,ck,h2,⟨k3,hw.map rfl n ks vs b hn k1,k4⟩,aJ.fO hw.da ks _ hc k5,tP ih (fun x y hxy=>wF hxy) vs ys _ k6 hy⟩
   case own n l =>
    split at hf
    case h_2=>cases hf
    rename_i T sz es hn;split at hf
    case isFalse=>cases hf
    rename_i hk;simp only[t7] at hf;subst hf;exact h.MD hu hw hn hk.2 hk.1 hr
mutual
theorem DI(h:aU c A a w D E){aD:Bool}{A0:af}(hu:ep A0 A){D':aT}{E':aW}(hw:iz aD A0 D E D'):∀ (x y:I) (cs:List Value),ai w D E x cs→a6 aD A0 x=some y→ai w D' E' y cs
 | .ptr n p,y,cs,hr,hf=>by
  simp only[a6] at hf;split at hf
  case isFalse=>cases hf
  rename_i hbx;subst hbx;split at hf
  case h_2=>cases hf
  rename_i x hx;obtain ⟨b,off,c2,k1,k2,k3⟩:=h.Mk hu hw hx hr;split at hf
  ·rename_i hcl;simp only[t7] at hf;subst hf;simp only[ai];exact ⟨b,off,c2,k1,k2,ai.fO hw.da x c2 hcl k3⟩
  ·simp only[zz1] at hf;obtain ⟨y',hy,rfl⟩:=hf;simp only[ai];exact ⟨b,off,c2,k1,k2,wG h hu hw 9 x y' c2 k3 hy⟩
 | .mref n,y,cs,hr,hf=>by
  simp only[a6] at hf;split at hf
  case isFalse=>cases hf
  rename_i hbx;subst hbx;split at hf
  case h_2=>cases hf
  rename_i ks vs hn;split at hf
  case isFalse=>cases hf
  rename_i hc;simp only[zz1] at hf;obtain ⟨ys,hy,rfl⟩:=hf;simp only[ai] at hr ⊢;obtain ⟨b,h1,h2⟩:=hr;obtain ⟨b',es,ck,k1,k2,k3,k4,k5,k6,k7⟩:=h.map (hu n _ hn);rw[k1] at h1;cases h1;exact ⟨b,es,ck,h2,⟨k3,hw.map rfl n ks vs b hn k1,k4⟩,aJ.fO hw.da ks _ hc k5,tP (wG h hu hw 9) (fun x y hxy=>wF hxy) vs ys _ k6 hy⟩
 | .dx _,_,_,_,hf=>by simp[a6] at hf
 | .cM ks vs,y,cs,hr,hf=>by
  simp only[a6] at hf;split at hf
  ·rename_i hc;simp only[t7] at hf;subst hf;exact ai.fO hw.da _ cs (by simpa[I.bj] using hc) hr
  ·cases hf
 | .own n k,y,cs,hr,hf=>by
  simp only[a6] at hf;split at hf
  case h_2=>cases hf
  rename_i T sz es hn;split at hf
  case isFalse=>cases hf
  rename_i hk;simp only[t7] at hf;subst hf;exact h.MD hu hw hn hk.2 hk.1 hr
 | .view n p sz lo k,y,cs,hr,hf=>by
  simp only[a6] at hf;split at hf
  case isFalse=>cases hf
  rename_i hbx;subst hbx;split at hf
  case h_2=>cases hf
  rename_i fs hx;split at hf
  case isFalse=>cases hf
  rename_i hcl;simp only[t7] at hf;subst hf;exact h.jV hu hw hx hr hcl
 | .nils sz,y,cs,hr,hf=>by
  simp only[a6,t7] at hf;subst hf;simp only[ai] at *;exact ⟨none,0,by simpa using hr,by simp,by simp[maxLen],by simp,by simp⟩
 | .c0 sz,y,cs,hr,hf=>by
  simp only[a6,t7] at hf;subst hf;simp only[ai] at *;obtain ⟨ad,hr⟩:=hr;exact ⟨ad,0,by simpa using hr,by simp,by simp[maxLen],by simp,by simp⟩
 | .func f caps,y,cs,hr,hf=>by
  simp only[a6,zz1] at hf;obtain ⟨ys,hy,rfl⟩:=hf;simp only[ai] at *;obtain ⟨vs,h1,h2⟩:=hr;exact ⟨vs,h1,lY h hu hw caps ys vs h2 hy⟩
 | .agg fs,y,cs,hr,hf=>by
  simp only[a6,zz1] at hf;obtain ⟨ys,hy,rfl⟩:=hf;simp only[ai] at *;exact DJ h hu hw fs ys cs hr hy
 | .tuple _,_,_,_,hf=>by simp[a6] at hf
 | .undef,_,_,_,hf=>by simp[a6] at hf
 | .de,_,_,_,hf=>by simp[a6] at hf
 | .bool b,y,cs,hr,hf=>by simp only[a6,t7] at hf;subst hf;simpa only[ai] using hr
 | .int k n,y,cs,hr,hf=>by simp only[a6,t7] at hf;subst hf;simpa only[ai] using hr
 | .c6 s,y,cs,hr,hf=>by simp only[a6,t7] at hf;subst hf;simpa only[ai] using hr
 | .nilp,y,cs,hr,hf=>by simp only[a6,t7] at hf;subst hf;simpa only[ai] using hr
 | .dh,y,cs,hr,hf=>by simp only[a6,t7] at hf;subst hf;simpa only[ai] using hr
 | .dW,y,cs,hr,hf=>by simp only[a6,t7] at hf;subst hf;simpa only[ai] using hr
 | .raw _,y,cs,hr,hf=>by simp only[a6,t7] at hf;subst hf;simpa only[ai] using hr
 | .slice sz es,y,cs,hr,hf=>by
  simp only[a6] at hf;split at hf
  ·rename_i hc;simp only[t7] at hf;subst hf;exact ai.fO hw.da _ cs (by simpa[I.bj] using hc) hr
  ·cases hf
 | .ref x,y,cs,hr,hf=>by
  simp only[a6] at hf;split at hf
  ·rename_i hc;simp only[t7] at hf;subst hf;exact ai.fO hw.da _ cs (by simpa[I.bj] using hc) hr
  ·cases hf
 | .iface t v,y,cs,hr,hf=>by
  simp only[a6] at hf;split at hf
  ·rename_i hc;simp only[t7] at hf;subst hf;exact ai.fO hw.da _ cs (by simpa[I.bj] using hc) hr
  ·cases hf
theorem DJ(h:aU c A a w D E){aD:Bool}{A0:af}(hu:ep A0 A){D':aT}{E':aW}(hw:iz aD A0 D E D'):∀ (xs ys:List I) (cs:List Value),aL w D E xs cs→bV aD A0 xs=some ys→aL w D' E' ys cs
 | [],ys,cs,hr,hf=>by simp only[bV,t7] at hf;subst hf;simpa only[aL] using hr
 |x::xs,ys,cs,hr,hf=>by
  simp only[bV] at hf;split at hf
  ·rename_i y ys' h1 h2;simp only[t7] at hf;subst hf;simp only[aL] at *;obtain ⟨c1,c2,e,k1,k2⟩:=hr;exact ⟨c1,c2,e,DI h hu hw x y c1 k1 h1,DJ h hu hw xs ys' c2 k2 h2⟩
  ·cases hf
theorem lY(h:aU c A a w D E){aD:Bool}{A0:af}(hu:ep A0 A){D':aT}{E':aW}(hw:iz aD A0 D E D'):∀ (xs ys:List I) (vs:List Value),aJ w D E xs vs→bV aD A0 xs=some ys→aJ w D' E' ys vs
 | [],ys,cs,hr,hf=>by simp only[bV,t7] at hf;subst hf;simpa only[aJ] using hr
 |x::xs,ys,cs,hr,hf=>by
  simp only[bV] at hf;split at hf
  ·rename_i y ys' h1 h2;simp only[t7] at hf;subst hf;simp only[aJ] at *;obtain ⟨v,rest,c1,e,k1,k2,k3⟩:=hr;refine ⟨v,rest,c1,e,?_,DI h hu hw x y c1 k2 h1,lY h hu hw xs ys' rest k3 h2⟩;have:y.isAgg=x.isAgg:=by
    cases x <;>simp only[a6] at h1 <;>first
     |(simp at h1;done)
     |(simp only[t7] at h1;subst h1;rfl)
     |(simp only[zz1] at h1;obtain ⟨z,_,rfl⟩:=h1;rfl)
     |((repeat' split at h1) <;>first | (simp at h1;done) | (simp only[t7] at h1;subst h1;rfl) | (simp only[zz1] at h1;obtain ⟨z,_,rfl⟩:=h1;rfl))
   unfold bM at *;rw[this];exact k1
  ·cases hf
end
end
def fS(P:Program)(t:TypeId):Option (Option Nat):=match P.underlying t with
 |some (.struct _) | some (.array _ _)=>some (some (P.cellsOf t))
 |some _=>some none
 |none=>none
def zJ(P:Program):Nat→TypeId→Option I
 |0,_=>none
 |d+1,t=>match P.underlying t with
  |some .bool=>some (.bool false)
  |some (.int k)=>some (.int k 0)
  |some .string=>some (.c6 ByteArray.empty)
  |some (.pointer _)=>some .nilp
  |some (.slice e)=>some (.nils (P.cellsOf e))
  |some (.func _ _ _)=>some .dh
  |some (.interface _)=>some .dW
  |some (.map _ _)=>some (.raw (.map none))
  |some (.struct fs)=>(fs.toList.mapM fun f=>zJ P d f.type).map .agg
  |some (.array n e)=>(zJ P d e).map fun z=>.agg (List.replicate n z)
  |_=>none
def lN:I→Value→Bool
 | .bool b,.bool b'=>b==b'
 | .int k n,.int k' n'=>k==k'&&n==n'&&decide (k.min≤n∧n≤k.max)
 | .c6 s,.string t=>s.size==0&&t.size==0
 | .nilp,.pointer none=>true
 | .nils _,.slice none 0 0=>true
 | .dh,.nilFunc=>true
 | .dW,.nilIface=>true
 | .raw (.map none),.map none=>true
 |_,_=>false
mutual
def nj:I→List Value→Option (List Value)
 | .agg fs,cs=>sc fs cs
 | .bool b,v::cs=>if lN (.bool b) v then some cs else none
 | .int k n,v::cs=>if lN (.int k n) v then some cs else none
 | .c6 s,v::cs=>if lN (.c6 s) v then some cs else none
 | .nilp,v::cs=>if lN .nilp v then some cs else none
 | .nils z,v::cs=>if lN (.nils z) v then some cs else none
 | .dh,v::cs=>if lN .dh v then some cs else none
 | .dW,v::cs=>if lN .dW v then some cs else none
 | .raw u,v::cs=>if lN (.raw u) v then some cs else none
 |_,_=>none
def sc:List I→List Value→Option (List Value)
 | [],cs=>some cs
 |x::xs,cs=>match nj x cs with
  |some r=>sc xs r
  |none=>none
end
theorem ByteArray.XK{s t:ByteArray}(hs:s.size=0)(ht:t.size=0):s=t:=by
 cases s with | mk a=>cases t with | mk b =>
 have ha:a = #[]:=Array.eq_empty_of_size_eq_zero hs;have hb:b = #[]:=Array.eq_empty_of_size_eq_zero ht;rw[ha,hb]
theorem T8{x:I}{v:Value}(h:lN x v=true)(w:World)(D:aT)(E:aW):ai w D E x [v]:=by
 unfold lN at h;split at h
 case h_9=>cases h
 case h_1=>simp only[beq_iff_eq] at h;subst h;simp[ai]
 case h_2 =>
  simp only[zz3,beq_iff_eq,decide_eq_true_eq] at h;obtain ⟨⟨rfl,rfl⟩,h⟩:=h;simp only[ai,true_and];exact h
 case h_3 =>
  simp only[zz3,beq_iff_eq] at h;have e:=ByteArray.XK h.1 h.2;subst e;simp only[ai,true_and];rw[h.1];exact zv1 _
 all_goals simp[ai,Value.oneCell']
mutual
theorem ND:∀ (x:I) (cs r:List Value),nj x cs=some r→∃ c1,cs=c1++r∧∀ w D E,ai w D E x c1
 | .agg fs,cs,r,h=>by
  simp only[nj] at h;obtain ⟨c1,h1,h2⟩:=NF fs cs r h;exact ⟨c1,h1,fun w D E=>by simp only[ai];exact h2 w D E⟩
 | .bool b,v::cs,r,h | .int k n,v::cs,r,h | .c6 s,v::cs,r,h | .nilp,v::cs,r,h | .nils z,v::cs,r,h | .dh,v::cs,r,h | .dW,v::cs,r,h | .raw u,v::cs,r,h=>by
  simp only[nj] at h;split at h
  ·rename_i hh;simp only[t7] at h;subst h;exact ⟨[v],rfl,fun w D E=>T8 hh w D E⟩
  ·cases h
 | .bool b,[],r,h | .int k n,[],r,h | .c6 s,[],r,h | .nilp,[],r,h | .nils z,[],r,h | .dh,[],r,h | .dW,[],r,h | .raw _,[],r,h=>by simp[nj] at h
 | .undef,_,_,h | .de,_,_,h | .c0 _,_,_,h | .slice _ _,_,_,h | .tuple _,_,_,h | .ref _,_,_,h | .func _ _,_,_,h | .iface _ _,_,_,h | .ptr _ _,_,_,h | .own _ _,_,_,h | .view _ _ _ _ _,_,_,h | .mref _,_,_,h | .dx _,_,_,h | .cM _ _,_,_,h=>by simp[nj] at h
theorem NF:∀ (xs:List I) (cs r:List Value),sc xs cs=some r→∃ c1,cs=c1++r∧∀ w D E,aL w D E xs c1
 | [],cs,r,h=>by
  simp only[sc,t7] at h;exact ⟨[],by simp[h],fun w D E=>by simp[aL]⟩
 |x::xs,cs,r,h=>by
  simp only[sc] at h;split at h
  ·rename_i r' hx;obtain ⟨c1,h1,h2⟩:=ND x cs r' hx;obtain ⟨c2,h3,h4⟩:=NF xs r' r h;exact ⟨c1++c2,by rw[h1,h3,zz5],fun w D E=>by simp only[aL];exact ⟨c1,c2,rfl,h2 w D E,h4 w D E⟩⟩
  ·cases h
end
def gf(P:Program)(t:TypeId):Option I :=
 match (P.info? t).bind (·.zero),zJ P 12 t with
 |some z,some x=>match nj x z.cells.toList with
  |some []=>some x
  |_=>none
 |_,_=>none
theorem mA{P:Program}{t:TypeId}{x:I}(h:gf P t=some x):∃ i z,P.info? t=some i∧i.zero=some z∧∀ w D E,ai w D E x z.cells.toList:=by
 unfold gf at h;split at h
 ·rename_i z x' hz hx;split at h
  ·rename_i hk;simp only[t7] at h;subst h;obtain ⟨i,hi,hz'⟩:=Option.bind_eq_some_iff.1 hz;obtain ⟨c1,h1,h2⟩:=ND _ _ _ hk;rw[zx5] at h1;exact ⟨i,z,hi,hz',fun w D E=>by rw[h1];exact h2 w D E⟩
  ·cases h
 ·cases h
def mh:Nat→List I→List (Nat×Nat)
 |_,[]=>[]
 |k,x::xs=>(k,x.size)::mh (k+x.size) xs
theorem Kj:∀ (xs:List I) (k i:Nat),(mh k xs)[i]?=(xs[i]?).map fun x=>(k+I.sizes (xs.take i),x.size)
 | [],k,i=>by simp[mh]
 |x::xs,k,0=>by simp[mh,I.sizes]
 |x::xs,k,i+1=>by
  simp only[mh,List.getElem?_cons_succ,Kj xs,List.take_succ_cons,I.sizes];cases xs[i]? <;>simp;omega
def gU (P : Program) (f : FuncId) : Bool := (P.funcs[f]?).any fun fn => fn.name != "runtime.NumGoroutine" && fn.body.isSome
def kv(P:Program)(ps:List (Nat×Operand)):Option (List (Nat×aM)):=ps.mapM fun p=>(bH P 0 p.2).map fun x=>(p.1,x)
def iU(P:Program):Option Operand→Option (Option aM)
 |none=>some none
 |some x=>(bH P 0 x).map some
def mH(P:Program):List Operand→List TypeId→Option (List aM)
 | [],_=>some []
 |x::xs,ts=>match bH P (ts.headD 0) x,mH P xs ts.tail with
  |some y,some ys=>some (y::ys)
  |_,_=>none
def qm(P:Program):Nat→List Field→Bool
 |_,[]=>true
 |k,f::fs=>f.offset==k&&qm P (k+P.cellsOf f.type) fs
def gM(P:Program):Nat→TypeId→Option cS
 |0,_=>none
 |d+1,t=>match P.underlying t with
  |some (.int k)=>some (.i k)
  |some .bool=>some .b
  |some .string=>some .s
  | some (.struct fs) => if P.stoodInHeld t = false ∧ (fs.toList.all fun f => f.name != "_") = true ∧ qm P 0 fs.toList = true then
    (fs.toList.mapM fun (f:Field)=>match gM P d f.type with
     |some ty=>if ty.size=P.cellsOf f.type then some ty else none
     |none=>none).map .br else none
  |some (.array n e)=>match gM P d e with
   |some ty=>if ty.size=P.cellsOf e∧(P.info? e).isSome=true then some (.kr n ty) else none
   |none=>none
  |_=>none
def ru:Option TypeDesc→Bool
 |some (.int _)=>true
 |_=>false
def x0:cS→Bool
 | .i _=>true
 |_=>false
def l8(P:Program)(t:TypeId):Option cS:=match P.underlying t with
 |some (.int k)=>some (.i k)
 |some (.struct fs)=>match gM P 12 t with
  |some (.br l)=>if l.all x0=true∧(fs.all fun f=>ru (P.underlying f.type))=true then some (.br l) else none
  |_=>none
 |_=>none
def uY(P:Program)(t:TypeId)(z:I):Bool:=match (P.info? t).bind (·.zero) with
 |some (.agg _)=>z.isAgg
 |some _ => !z.isAgg
 |none=>false
def zn:Operand→Operand→Bool
 | .tmp a,.tmp b=>a==b
 |_,_=>false
theorem alh{x y:Operand}(h:zn x y=true):y=x:=by
 unfold zn at h;split at h
 ·simp only[beq_iff_eq] at h;rw[h]
 ·cases h
def dz(P:Program)(o:Oper):Option b9 :=
 match o.op with
 | .move x | .assign x=>(bH P o.type x).map .mv
 | .pick c a b=>match bH P 0 c,bH P o.type a,bH P o.type b with
  |some c,some a,some b=>some (.pick c a b)
  |_,_,_=>none
 | .binOp op t x y _=>match P.underlying t,bH P 0 x,bH P 0 y with
  |some (.int _),some x,some y | some .string,some x,some y=>some (.bin op x y)
  |some (.slice _),some x,some y=>match y with
   | .c (.nils _)=>if op=.eql∨op=.neq then some (.nilS (op==.neq) x) else none
   |_=>none
  |some (.pointer _),some x,some y=>if op=.eql∨op=.neq then some (.ptrE (op==.neq) x y) else none
  |some _,some x,some y=>if (op=.eql∨op=.neq)∧P.eqGuardType P.depth t=false then (gM P 12 t).map fun ty=>.eqv ty (op==.neq) x y else none
  |_,_,_=>none
 | .unOp op _ x=>(bH P 0 x).map (.un op)
 | .nilCheck x=>(bH P 0 x).map .nilC
 | .makeMap _ none=>some .jM
 | .lookup t m k ok=>match P.underlying t,bH P 0 m,bH P 0 k with
  |some (.map kt et),some m,some k=>match l8 P kt,gf P et with
   |some ty,some z=>if uY P et z=true then some (.lk ty z ok m k) else none
   |_,_=>none
  |_,_,_=>none
 | .mapUpdate t m k v | .insert t m k v=>match P.underlying t,bH P 0 m,bH P 0 k with
  |some (.map kt et),some m,some k=>match l8 P kt,bH P et v with
   |some ty,some v=>some (.gB ty m k v)
   |_,_=>none
  |_,_,_=>none
 | .makeSlice t l l'=>match P.underlying t,bH P 0 l with
  |some (.slice e),some n=>match gf P e with
   |some z=>if zn l l'=true∧z.size=1∧P.cellsOf e=1 then some (.ka e (P.bytesOf e) z n) else none
   |none=>none
  |_,_=>none
 | .range t x=>match P.underlying t with
  |some (.map _ _)=>(bH P 0 x).map .kg
  |_=>none
 | .next x false=>(bH P 0 x).map .iH
 | .entry x=>(bH P 0 x).map .ent
 | .convert od dst x=>match P.underlying od,P.underlying dst,bH P 0 x with
  |some (.int _),some (.int k),some x=>some (.conv k x)
  |_,_,_=>none
 | .load t x=>match fS P t,bH P 0 x with
  |some s,some x=>some (.ld s x)
  |_,_=>none
 | .fieldAddr t x f=>match P.underlying t,bH P 0 x with
  |some (.struct fs),some x=>match fs[f]? with
   |some fd=>if P.cellsOf fd.type=0 then none else some (.fa f fd.offset x)
   |none=>none
  |_,_=>none
 | .field t x f=>match P.underlying t,bH P 0 x with
  |some (.struct fs),some x=>match fs[f]? with
   |some fd=>(fS P fd.type).map fun s=>.fl f fd.offset s x
   |none=>none
  |_,_=>none
 | .indexAddr t x i=>match P.underlying t,bH P 0 x,bH P 0 i with
  |some (.array n e),some x,some i=>if (P.info? e).isSome then some (.ia n (P.cellsOf e) x i) else none
  |some (.slice e),some x,some i=>if (P.info? e).isSome then some (.is (P.cellsOf e) x i) else none
  |_,_,_=>none
 | .index t x i=>match P.underlying t,bH P 0 x,bH P 0 i with
  |some (.array n e),some x,some i=>(fS P e).map fun s=>.ix n (P.cellsOf e) s x i
  |_,_,_=>none
 | .slice t x lo hi mx=>match P.underlying t,bH P 0 x with
  |some (.array n e),some x=>match lo,hi,mx with
   |none,none,none=>if (P.info? e).isSome then some (.va n (P.cellsOf e) x) else none
   |_,_,_=>none
  |some (.slice e),some x=>match iU P lo,iU P hi,iU P mx with
   |some lo,some hi,some mx=>if (mx.isSome=true→hi.isSome=true)∧(P.info? e).isSome=true then some (.sl (P.cellsOf e) x lo hi mx) else none
   |_,_,_=>none
  |_,_=>none
 | .build t parts=>match gf P t,kv P parts.toList with
  |some (.agg zs),some ps=>match P.underlying t with
   |some (.struct fs)=>if (fs.toList.map fun f=>(f.offset,P.cellsOf f.type))=mh 0 zs∧(fs.all fun f=>(P.info? f.type).isSome)=true then some (.bld zs ps) else none
   |some (.array n e)=>if zs.length=n∧(zs.all fun z=>z.size==P.cellsOf e)=true∧(P.info? e).isSome=true then some (.bld zs ps) else none
   |_=>none
  |_,_=>none
 | .buildSlice t len parts=>match P.underlying t with
  |some (.slice e)=>match kv P parts.toList with
   |some ps=>if len=0∧parts = #[]∧(P.info? e).isSome=true then some (.bs0 (P.cellsOf e)) else if ps.map (·.1)=List.range len∧0<P.cellsOf e∧0<len∧len*P.cellsOf e≤16777216∧((P.info? e).bind (·.zero)).isSome=true then some (.bs e (P.cellsOf e) (ps.map (·.2))) else none
   |none=>none
  |_=>none
 | .extract x i=>(bH P 0 x).map fun x=>.ext x i
 | .makeFunc (.func f) first caps=>if first.isEmpty then (mH P caps.toList []).map (.mk f) else none
 | .alloc t=>(gf P t).map .alloc
 | .box t x=>(bH P t x).map .box
 | .store t x v=>match fS P t,bH P 0 x,bH P t v with
  |some s,some x,some v=>if s.isSome=true∨P.cellsOf t=1 then some (.br s x v) else none
  |_,_,_=>none
 | .call { callee:=.value (.func f),args,argTypes } =>if gU P f then (mH P args.toList argTypes.toList).map (.call f) else (mH P args.toList argTypes.toList).map (.kN f)
 | .call { callee:=.value x,args,argTypes } =>match bH P 0 x,mH P args.toList argTypes.toList with
  |some x,some args=>some (.eF x args)
  |_,_=>none
 | .call { callee:=.builtin .len,args,argTypes } =>match args.toList,argTypes.toList with
  | [x],[t]=>match P.underlying t with
   |some (.slice _)=>(bH P t x).map .len
   |some .string=>(bH P t x).map .lenT
   |_=>none
  |_,_=>none
 | .call { callee:=.builtin .append,args,argTypes } =>match args.toList,argTypes.toList with
  | [s,x],[t,t']=>match P.underlying t,bH P t s,bH P t' x with
   |some (.slice e),some s,some x=>if t=t'∧0<P.cellsOf e∧(gf P e).map I.size=some (P.cellsOf e) then (gf P e).map fun z=>.c7 e (P.cellsOf e) (P.bytesOf e) z s x else
    if ru (P.underlying t')=true∧0<P.cellsOf e∧(gf P e).map I.size=some (P.cellsOf e) then (gf P e).map fun z=>.mF e (P.cellsOf e) (P.bytesOf e) z s x else none
   |_,_,_=>none
  |_,_=>none
 | .call { callee:=.builtin .cap,args,argTypes } =>match args.toList,argTypes.toList with
  | [x],[t]=>match P.underlying t with
   |some (.slice _)=>(bH P t x).map .cap
   |_=>none
  |_,_=>none
 | .call { callee:=.builtin .clear,args,argTypes } =>match args.toList,argTypes.toList with
  | [x],[t]=>match P.underlying t,bH P t x with
   |some (.slice e),some x=>(gf P e).map fun z=>.jH (P.cellsOf e) z x
   |_,_=>none
  |_,_=>none
 | .call { callee:=.builtin .copy,args,argTypes } =>match args.toList,argTypes.toList with
  | [x,y],[t,t']=>match P.underlying t,bH P t x,bH P t' y with
   |some (.slice e),some x,some y=>if t=t'∧(P.info? e).isSome=true then some (.lR (P.cellsOf e) x y) else none
   |_,_,_=>none
  |_,_=>none
 |_=>none
def dR(c:cO)(A:af)(o:Oper)(x:I):Prop :=
 ∀ a w D E,aU c A a w D E→∃ v w' D',(execOp a.eval o).run c.P w=.ok (.value v) w'∧aU c A a w' D' E∧aV w' D' E x v
section
variable {c:cO} {A:af} {o:Oper} {x:I}
theorem dR.same(h:∀ a w D E,aU c A a w D E→∃ v,(execOp a.eval o).run c.P w=.ok (.value v) w∧aV w D E x v):dR c A o x :=
 fun a w D E hs=>let ⟨v,h1,h2⟩:=h a w D E hs;⟨v,w,D,h1,hs,h2⟩
theorem IN{y:Operand}{z:aM}(ho:o.op=.move y∨o.op=.assign y)(hz:bH c.P o.type y=some z):dR c A o (ah A z) :=
 .same fun a w D E hs=>⟨a.eval y,by rcases ho with ho | ho <;>simp[execOp,ho],ca hs hz⟩
theorem ahB{q y z:Operand}{q' y' z':aM}{t:Bool}(ho:o.op=.pick q y z)(hq:bH c.P 0 q=some q')(hy:bH c.P o.type y=some y')(hz:bH c.P o.type z=some z')
  (ht:ah A q'=.bool t):dR c A o (if t then ah A y' else ah A z') :=
 .same fun a w D E hs=>by
  have h1:=ca hs hq;rw[ht] at h1;have h2:=mq h1;refine ⟨if t then a.eval y else a.eval z,by cases t <;>simp[execOp,ho,h2,asBool],?_⟩;cases t
  ·exact ca hs hz
  ·exact ca hs hy
theorem zf{P:Program}{w:World}(op:BinOp)(t:TypeId)(x y:Operand){u v:Value}(hu:u.oneCell'=true)(hn:u≠.nilIface):(eqGuard op t x y u v).run P w=.ok () w:=by
 cases op <;>cases u <;>simp[Value.oneCell'] at hu <;>first | (exact absurd rfl hn) | (cases v <;>simp[eqGuard])
theorem Pe{op:BinOp}{x y z:I}(h:cL op x y=some z){P:Program}{t:TypeId}{w:World}{D:aT}{E:aW}{u v:Value}(hx:aV w D E x u)(hy:aV w D E y v)(xo yo:Operand) :
  ∃ r,(do eqGuard op t xo yo u v;binOp op t u v:Sem Value).run P w=.ok r w∧aV w D E z r:=by
 unfold cL at h;split at h
 ·rename_i k a k' b;obtain ⟨rfl,ha⟩:=fC hx;obtain ⟨rfl,hb⟩:=fC hy;have hg:∀ op,(eqGuard op t xo yo (.int k a) (.int k' b)).run P w=.ok () w:=fun op=>zf op t xo yo rfl (by simp);simp only[Sem.run_bind,hg,Result.andThen_ok];split at h
  ·split at h
   ·rename_i hb0;simp only[t7] at h;subst h;have:¬ b<0:=by omega
    exact ⟨_,by simp[binOp,Op.shift,this],lp (qI _ _)⟩
   ·cases h
  ·split at h
   ·rename_i hb0;simp only[t7] at h;subst h;have:¬ b<0:=by omega
    exact ⟨_,by simp[binOp,Op.shift,this],lp (X0 _ _ _ ha)⟩
   ·cases h
  ·rename_i op h1 h2;split at h
   ·rename_i hk;subst hk;split at h <;>first
     |(simp at h;done)
     |(simp only[t7] at h;subst h;exact ⟨_,by simp[binOp,Op.intArith,Op.intBits,Op.intCmp],lp (qI _ _)⟩)
     |(simp only[t7] at h;subst h;exact ⟨_,by simp[binOp,Op.intCmp],oW _⟩)
     |(split at h
       ·cases h
       ·rename_i hb0;simp only[t7] at h;subst h
        first
         |exact ⟨_,by simp[binOp,Op.intDiv,hb0],lp (qI _ _)⟩
         |exact ⟨_,by simp[binOp,Op.intDiv,hb0],lp (al1 _ _ _ ha)⟩)
   ·cases h
 ·rename_i s s';obtain ⟨rfl,hs1⟩:=oa hx;obtain ⟨rfl,hs2⟩:=oa hy;have hg:∀ op,(eqGuard op t xo yo (.string s) (.string s')).run P w=.ok () w:=fun op=>zf op t xo yo rfl (by simp);simp only[Sem.run_bind,hg,Result.andThen_ok];split at h <;>first
   |(simp at h;done)
   |(simp only[t7] at h;subst h;exact ⟨_,by simp[binOp,Op.stringOp],oW _⟩)
   |(split at h
     ·rename_i hl;simp only[t7] at h;subst h;have hl':¬ (((s.size+s'.size:Nat):Int)>IntKind.i64.max):=by
       have e:IntKind.i64.max=9223372036854775807:=by simp[IntKind.max,IntKind.bits,IntKind.signed]
       rw[e];omega
      refine ⟨.string (s++s'),by simp only[binOp,Op.stringOp,if_neg hl',Sem.run_pure],?_⟩;exact ⟨_,by simp[bM,I.isAgg];rfl,by simp only[ai,true_and];rw[ByteArray.size_append];unfold maxLen;omega⟩
     ·cases h)
 ·cases h
theorem IL{op:BinOp}{t yt:TypeId}{y z:Operand}{y' z':aM}(ho:o.op=.binOp op t y z yt)(hy:bH c.P 0 y=some y')(hz:bH c.P 0 z=some z')(h:cL op (ah A y') (ah A z')=some x):dR c A o x :=
 .same fun a w D E hs=>by
  obtain ⟨r,h1,h2⟩:=Pe h (P:=c.P) (t:=t) (ca hs hy) (ca hs hz) y z;exact ⟨r,by simp only[execOp,ho,Sem.run_bind] at *;rw[h1];rfl,h2⟩
theorem ahA{t:TypeId}{y:Operand}{y':aM}{b:Bool}(ho:o.op=.unOp .not t y)(hy:bH c.P 0 y=some y')(h:ah A y'=.bool b):dR c A o (.bool !b) :=
 .same fun a w D E hs=>by
  have h1:=ca hs hy;rw[h] at h1;exact ⟨.bool !b,by simp[execOp,ho,mq h1,Op.unary],oW _⟩
theorem ahz{t:TypeId}{y:Operand}{y':aM}{k:IntKind}{n:Int}(ho:o.op=.unOp .neg t y)(hy:bH c.P 0 y=some y')(h:ah A y'=.int k n):dR c A o (.int k (k.wrap (0-n))) :=
 .same fun a w D E hs=>by
  have h1:=ca hs hy;rw[h] at h1;exact ⟨.int k (k.wrap (0-n)),by simp[execOp,ho,(fC h1).1,Op.unary,Op.intArith],lp (qI _ _)⟩
theorem ahj{t:TypeId}{y:Operand}{y':aM}{k:IntKind}{n:Int}(ho:o.op=.unOp .xor t y)(hy:bH c.P 0 y=some y')(h:ah A y'=.int k n):dR c A o (.int k (pS k n)) :=
 .same fun a w D E hs=>by
  have h1:=ca hs hy;rw[h] at h1;exact ⟨.int k (pS k n),by simp[execOp,ho,(fC h1).1,Op.unary,Op.intBits,pS],lp (qI _ _)⟩
theorem ahi{od dst:TypeId}{y:Operand}{y':aM}{k k0 k1:IntKind}{n:Int}(ho:o.op=.convert od dst y)(h1:c.P.underlying od=some (.int k0))(h2:c.P.underlying dst=some (.int k))
  (hy:bH c.P 0 y=some y') (h:ah A y'=.int k1 n):dR c A o (.int k (k.wrap n)) :=
 .same fun a w D E hs=>by
  have h3:=ca hs hy;rw[h] at h3;exact ⟨.int k (k.wrap n),by simp[execOp,ho,(fC h3).1,convert,run_underlying h1,run_underlying h2,Conv.intToInt],lp (qI _ _)⟩
theorem ahm{y:Operand}{y':aM}{i:Nat}{fs:List I}(ho:o.op=.extract y i)(hy:bH c.P 0 y=some y')(h:ah A y'=.tuple fs)(hi:fs[i]?=some x):dR c A o x :=
 .same fun a w D E hs=>by
  have h3:=ca hs hy;rw[h] at h3;obtain ⟨vs,h4,h5⟩:=h3;have:∀ (fs:List I) (vs:List Value) (i:Nat),aJ w D E fs vs→fs[i]?=some x→∃ v,vs[i]?=some v∧aV w D E x v:=by
   intro fs
   induction fs with
   |nil=>intro vs i _ hi;simp at hi
   |cons f fs ih =>
    intro vs i hr hi;simp only[aJ] at hr;obtain ⟨v,rest,cs,rfl,k1,k2,k3⟩:=hr;cases i with
    |zero =>
     simp only[List.getElem?_cons_zero,t7] at hi ⊢;subst hi;refine ⟨v,rfl,?_⟩;cases f <;>simp only[aV] <;>first | (simp only[ai] at k2;done) | exact ⟨cs,k1,k2⟩
    |succ i=>simpa using ih rest i k3 (by simpa using hi)
  obtain ⟨v,h6,h7⟩:=this fs vs i h5 hi;exact ⟨v,by simp[execOp,ho,h4,Instr.extract,h6],h7⟩
theorem mW{w:World}{D:aT}{E:aW}{x:I}{v:Value}{cs:List Value}(h1:bM x v cs)(h2:ai w D E x cs):aV w D E x v:=by
 cases x <;>simp only[aV] <;>first | (simp only[ai] at h2;done) | exact ⟨cs,h1,h2⟩
theorem MG{P:Program}{w:World}{t:TypeId}{s:Option Nat}(h:fS P t=some s):(isAgg t).run P w=.ok s.isSome w:=by
 unfold fS at h;unfold isAgg;cases hu:P.underlying t with
 |none=>simp[hu] at h
 |some d =>
  rw[Sem.run_bind,run_underlying hu w];cases d <;>simp_all <;>(subst h;rfl)
theorem x6{P:Program}{t:TypeId}{n:Nat}(h:fS P t=some (some n)):n=P.cellsOf t:=by
 unfold fS at h;split at h <;>simp_all
theorem xV{P:Program}{t:TypeId}{d:TypeDesc}(h:P.underlying t=some d):∃ i,P.info? t=some i:=by
 unfold Program.underlying at h;cases hi:P.info? t with
 |none=>simp[hi] at h
 |some i=>exact ⟨i,rfl⟩
theorem jw{P:Program}{w:World}{t:TypeId}{i:TypeInfo}(h:P.info? t=some i):(sizeOf t).run P w=.ok (P.cellsOf t) w:=by
 simp[sizeOf,typeInfo,h,Program.cellsOf]
theorem tF{P:Program}{t:TypeId}{s:Option Nat}(h:fS P t=some s):∃ i,P.info? t=some i:=by
 unfold fS at h;split at h
 ·rename_i fs hu;exact xV hu
 ·rename_i n e hu;exact xV hu
 ·rename_i d _ _ hu;exact xV hu
 ·cases h
theorem np(b off j:Nat):(⟨b,off,none⟩:Addr).add j=⟨b,off+j,none⟩:=by unfold Addr.add;split <;>simp_all
theorem MH{P:Program}{w:World}{D:aT}{E:aW}{t:TypeId}{s:Option Nat}{b off:Nat}{cs:List Value}{y:I}(hk:fS P t=some s)(hok:b8 s y=true)
  (hcs:∀ j u,cs[j]?=some u→w.cell? ⟨b,off+j,none⟩=some u) (hy:ai w D E y cs):∃ v,(loadVar t ⟨b,off,none⟩).run P w=.ok v w∧aV w D E y v:=by
 have hag:=MG (w:=w) hk;cases s with
 |none =>
  simp only[b8,Bool.not_eq_true'] at hok;have hl:=ai.length _ _ hy;have hsz:y.size=1:=by cases y <;>simp_all[I.isAgg,I.size]
  rw[hsz] at hl
  match cs,hl with
  | [v],_ =>
   have:=hcs 0 v rfl;rw[Nat.add_zero] at this;refine ⟨v,?_,JF hok hy⟩;simp only[loadVar,Sem.run_bind,hag,Result.andThen_ok,Option.isSome_none,zz6,if_false,run_load,this]
 |some n =>
  simp only[b8,zz3,beq_iff_eq] at hok;obtain ⟨hag',hsz⟩:=hok;have hn:=x6 hk;obtain ⟨i,hi⟩:=tF hk;have hl:=ai.length _ _ hy;refine ⟨.agg cs.toArray,?_,mW (by simp[bM,hag']) hy⟩;have hlc:=run_loadCells_list (P:=P) w ⟨b,off,none⟩ cs (fun j u hj=>by rw[np];exact hcs j u hj);rw[hl,hsz,hn] at hlc;simp only[loadVar,Sem.run_bind,hag,Result.andThen_ok,Option.isSome_some,if_true,jw hi,hlc,Sem.run_pure]
theorem ahw{t:TypeId}{y:Operand}{y':aM}{s:Option Nat}(ho:o.op=.load t y)(hk:fS c.P t=some s)(hy:bH c.P 0 y=some y')(h:cD A (ah A y')=some x)(hok:b8 s x=true):dR c A o x :=
 .same fun a w D E hs=>by
  obtain ⟨b,off,cs,h1,h2,h3⟩:=hs.AE (ca hs hy) h;obtain ⟨v,h4,h5⟩:=MH hk hok h2 h3;exact ⟨v,by simp[execOp,ho,Instr.loadAt,h1,Instr.sureAddr,h4],h5⟩
theorem uA{w:World}{D:aT}{b off:Nat}{c1 c2 c3:List Value}(h:gS w D b off (c1++c2++c3)):gS w D b (off+c1.length) c2:=by
 intro j v hj;have hjl:j<c2.length:=(zy4.1 hj).1;have:=h (c1.length+j) v (by rw[zz5,zw0 (by omega),Nat.add_sub_cancel_left,zx0 (by omega)];exact hj)
 rwa [←Nat.add_assoc] at this
theorem cW.uf:∀ (p:List Nat) (s:cW) (o i:Nat) (l:List cW),s.off p=some o→s.part p=some (.ej l)→i<l.length→s.off (p++[i])=some (o+cW.sizes (l.take i))
 | [],s,o,i,l,h1,h2,h3=>by
  simp only[cW.part,t7] at h2;subst h2;simp only[cW.off,t7] at h1;subst h1;simp[cW.off,zy0 h3]
 |k::p,.one,o,i,l,h1,h2,h3=>by simp[cW.part] at h2
 |k::p,.ej m,o,i,l,h1,h2,h3=>by
  simp only[cW.off,cW.part,zy1] at *;cases hk:m[k]? with
  |none=>simp[hk] at h2
  |some s =>
   simp only[hk] at h1 h2 ⊢;simp only[zz1] at h1;obtain ⟨o',h4,rfl⟩:=h1;rw[cW.uf p s o' i l h4 h2 h3];simp[Nat.add_assoc]
theorem ph{esz:Nat} : ∀ (fs:List I) (k:Nat),(∀ f∈fs,f.size=esz)→k≤fs.length→I.sizes (fs.take k)=k*esz:=by
 intro fs k h hk;rw[I.iq _ (fun x hx=>h x (List.mem_of_mem_take hx))];simp[Nat.min_eq_left hk]
theorem qY{n esz:Nat}{fs:List I}(h:iD n esz fs=true):fs.length=n∧∀ f∈fs,f.size=esz:=by
 simp only[iD,zz3,beq_iff_eq,zx9] at h;exact h
theorem ME{P:Program}{w:World}{t:TypeId}{f b off:Nat}{fs:Array Field}{fd:Field}(hu:P.underlying t=some (.struct fs))(hf:fs[f]?=some fd)(hz:¬ P.cellsOf fd.type=0) :
  (Instr.fieldAt t (.pointer (some ⟨b,off,none⟩)) f).run P w=.ok (.pointer (some ⟨b,off+fd.offset,none⟩)) w:=by
 have hi:∃ i,P.info? fd.type=some i:=by
  cases h:P.info? fd.type with
  |none=>simp[Program.cellsOf,h] at hz
  |some i=>exact ⟨i,rfl⟩
 obtain ⟨i,hi⟩:=hi;simp only[Instr.fieldAt,Sem.run_bind,run_underlying hu,Result.andThen_ok,hf,Instr.sureAddr,Sem.run_pure,fieldPlace,jw hi,Sem.run_ite,if_neg hz,np]
theorem aho{t:TypeId}{y:Operand}{y':aM}{f:Nat}{fs:Array Field}{fd:Field}{gs:List I}(ho:o.op=.fieldAddr t y f)(hu:c.P.underlying t=some (.struct fs))(hf:fs[f]?=some fd)(hz:¬ c.P.cellsOf fd.type=0)
  (hy:bH c.P 0 y=some y') (h:ah A y'=.ref (.agg gs)) (hx:gs[f]?=some x) (hoff:I.sizes (gs.take f)=fd.offset):dR c A o (.ref x) :=
 .same fun a w D E hs=>by
  have h1:=ca hs hy;rw[h] at h1;obtain ⟨b,off,cs,h2,h3,h4⟩:=qA h1;simp only[ai] at h4;obtain ⟨c1,c2,c3,rfl,k1,_,k2,_⟩:=m4 gs cs f x h4 hx;refine ⟨_,by simp only[execOp,ho,h2,Sem.run_bind,ME hu hf hz];rfl,tT (cs:=c2) ?_ k2⟩;rw[←hoff,←k1];exact uA h3
theorem ahn{t:TypeId}{y:Operand}{y':aM}{f n:Nat}{p:List Nat}{fs:Array Field}{fd:Field}{gs:List I}(ho:o.op=.fieldAddr t y f)(hu:c.P.underlying t=some (.struct fs))(hf:fs[f]?=some fd)(hz:¬ c.P.cellsOf fd.type=0)
  (hy:bH c.P 0 y=some y') (h:ah A y'=.ptr n p) (ae:cD A (.ptr n p)=some (.agg gs)) (hl:f<gs.length) (hoff:I.sizes (gs.take f)=fd.offset):dR c A o (.ptr n (p++[f])) :=
 .same fun a w D E hs=>by
  have h1:=ca hs hy;rw[h] at h1;obtain ⟨b,aS,off,h2,h3,h4⟩:=pf h1;obtain ⟨z,b',cs,T,off',c1,c2,c3,k1,k2,_,k3,k4,k5,k6,k7,k8,k9,_⟩:=hs.at ae;rw[k2] at h2;simp only[t7,bS.aD.injEq] at h2;obtain ⟨rfl,rfl⟩:=h2;refine ⟨_,by simp only[execOp,ho,h4,Sem.run_bind,ME hu hf hz];rfl,?_⟩;refine ⟨_,by simp[bM,I.isAgg];rfl,?_⟩;simp only[ai];refine ⟨b',z.aS,off+fd.offset,k2,?_,rfl⟩;rw[cW.uf p z.aS off f _ h3 (nd p z _ k4) (by rw[I.dy];simpa using hl),I.dy,←List.map_take,←I.dy,I.nf,hoff]
theorem MF{P:Program}{w:World}{t e:TypeId}{n b off:Nat}{kk:IntKind}{k:Int}{i:TypeInfo}(hu:P.underlying t=some (.array n e))(hi:P.info? e=some i)(hk:0≤k∧k<n) :
  (Instr.indexAt t (.pointer (some ⟨b,off,none⟩)) (.int kk k)).run P w=.ok (.pointer (some ⟨b,off+k.toNat*P.cellsOf e,none⟩)) w:=by
 simp[Instr.indexAt,asIntOf,run_underlying hu,Instr.sureAddr,hk,jw hi,np]
theorem zg{P:Program}{w:World}{t e:TypeId}{n b off cap:Nat}{kk:IntKind}{k:Int}{i:TypeInfo}(hu:P.underlying t=some (.slice e))(hi:P.info? e=some i)(hk:0≤k∧k<n) :
  (Instr.indexAt t (.slice (some ⟨b,off,none⟩) n cap) (.int kk k)).run P w=.ok (.pointer (some ⟨b,off+k.toNat*P.cellsOf e,none⟩)) w:=by
 simp[Instr.indexAt,asIntOf,run_underlying hu,hk,jw hi,np]
theorem ahr{t e:TypeId}{y z:Operand}{y' z':aM}{n:Nat}{i:TypeInfo}{gs:List I}{kk:IntKind}{k:Int}(ho:o.op=.indexAddr t y z)(hu:c.P.underlying t=some (.array n e))(hi:c.P.info? e=some i)
  (hy:bH c.P 0 y=some y') (hz:bH c.P 0 z=some z') (h:ah A y'=.ref (.agg gs)) (h':ah A z'=.int kk k) (hk:0≤k∧k<n) (hev:iD n (c.P.cellsOf e) gs=true) (hx:gs[k.toNat]?=some x):dR c A o (.ref x) :=
 .same fun a w D E hs=>by
  have h1:=ca hs hy;rw[h] at h1;have h1':=ca hs hz;rw[h'] at h1';obtain ⟨b,off,cs,h2,h3,h4⟩:=qA h1;simp only[ai] at h4;obtain ⟨c1,c2,c3,rfl,k1,_,k2,_⟩:=m4 gs cs k.toNat x h4 hx;obtain ⟨e1,e2⟩:=qY hev;have hl:k.toNat<gs.length:=(zy4.1 hx).1;refine ⟨_,by simp only[execOp,ho,h2,(fC h1').1,Sem.run_bind,MF hu hi hk];rfl,tT (cs:=c2) ?_ k2⟩;rw[←ph gs k.toNat e2 (by omega),←k1];exact uA h3
theorem ahq{t e:TypeId}{y z:Operand}{y' z':aM}{n m:Nat}{p:List Nat}{i:TypeInfo}{gs:List I}{kk:IntKind}{k:Int}(ho:o.op=.indexAddr t y z)(hu:c.P.underlying t=some (.array n e))(hi:c.P.info? e=some i)
  (hy:bH c.P 0 y=some y') (hz:bH c.P 0 z=some z') (h:ah A y'=.ptr m p) (h':ah A z'=.int kk k) (hk:0≤k∧k<n) (ae:cD A (.ptr m p)=some (.agg gs)) (hev:iD n (c.P.cellsOf e) gs=true):dR c A o (.ptr m (p++[k.toNat])) :=
 .same fun a w D E hs=>by
  have h1:=ca hs hy;rw[h] at h1;have h1':=ca hs hz;rw[h'] at h1';obtain ⟨b,aS,off,h2,h3,h4⟩:=pf h1;obtain ⟨zz,b',cs,T,off',c1,c2,c3,k1,k2,_,k3,k4,k5,k6,k7,k8,k9,_⟩:=hs.at ae;rw[k2] at h2;simp only[t7,bS.aD.injEq] at h2;obtain ⟨rfl,rfl⟩:=h2;obtain ⟨e1,e2⟩:=qY hev;have hl:k.toNat<gs.length:=by omega
  refine ⟨_,by simp only[execOp,ho,h4,(fC h1').1,Sem.run_bind,MF hu hi hk];rfl,?_⟩;refine ⟨_,by simp[bM,I.isAgg];rfl,?_⟩;simp only[ai];refine ⟨b',zz.aS,off+k.toNat*c.P.cellsOf e,k2,?_,rfl⟩;rw[cW.uf p zz.aS off k.toNat _ h3 (nd p zz _ k4) (by rw[I.dy];simpa using hl),I.dy,←List.map_take,←I.dy,I.nf,ph gs _ e2 (by omega)]
theorem Dn{w:World}{D:aT}{E:aW}{b off sz k:Nat}{cs:List Value}{es:List I}{x:I}(h1:gS w D b off cs)(h2:aL w D E es cs)(h3:∀ e∈es,e.size=sz)(hx:es[k]?=some x) :
  ∃ c2,gS w D b (off+k*sz) c2∧ai w D E x c2:=by
 obtain ⟨c1,c2,c3,rfl,k1,_,k2,_⟩:=m4 es cs k x h2 hx;have hl:k<es.length:=(zy4.1 hx).1;refine ⟨c2,?_,k2⟩;rw[←ph es k h3 (by omega),←k1];exact uA h1
theorem ahs{t e:TypeId}{y z:Operand}{y' z':aM}{i:TypeInfo}{es:List I}{kk:IntKind}{k:Int}(ho:o.op=.indexAddr t y z)(hu:c.P.underlying t=some (.slice e))(hi:c.P.info? e=some i)
  (hy:bH c.P 0 y=some y') (hz:bH c.P 0 z=some z') (h:ah A y'=.slice (c.P.cellsOf e) es) (h':ah A z'=.int kk k) (hk:0≤k∧k<es.length) (hx:es[k.toNat]?=some x):dR c A o (.ref x) :=
 .same fun a w D E hs=>by
  have h1:=ca hs hy;rw[h] at h1;have h1':=ca hs hz;rw[h'] at h1';obtain ⟨ad,cap,rfl',h2,h3,h4,h5⟩:=n9 h1;rcases h4 with h4 | ⟨b,off,cs,rfl,h6,h7⟩
  ·subst h4;simp at hx
  obtain ⟨c2,k1,k2⟩:=Dn h6 h7 h5 hx;exact ⟨_,by simp only[execOp,ho,rfl',(fC h1').1,Sem.run_bind,zg hu hi hk];rfl,tT k1 k2⟩
theorem aU.alk{a:Act}{w:World}{D:aT}{E:aW}(h:aU c A a w D E){n sz b cap:Nat}{T:TypeId}{es:List I}(hn:A.o n=some (.bR T sz es))(aw:E n=some (.rw (some (b,cap)) es.length)) :
  aU c A a w (fun b' o=>D b' o∨(b'=b∧o<es.length*sz)) E:=by
 have hrow:=h.bR hn;obtain ⟨aE,k1,k2,k3⟩:=hrow;rw[aw] at k1;simp only[t7,bS.rw.injEq,and_true] at k1;subst k1;obtain ⟨cs,pre,rest,k4,k5,k6,k7,k8,k9,k10,k11⟩:=k3;refine h.Nz (fun _ _ ae=>.inl ae) ?_ ?_ ?_ ?_ ?_ ?_
 ·rintro b' o (ae | ⟨rfl,_⟩) hlt
  ·exact h.da _ _ ae hlt
  ·exact absurd k4 hlt
 ·rintro b' o (ae | ⟨rfl,_⟩)
  ·exact h.dm _ _ ae
  ·exact gb k5
 ·rintro m x b' hm hEm o (ae | ⟨rfl,_⟩)
  ·obtain ⟨b2,cs2,T2,q1,q2,q3,q4,q5⟩:=h.box hm;rw[q1] at hEm;simp only[t7,bS.aD.injEq,and_true] at hEm;subst hEm;exact q5 o ae
  ·have:=h.c4 m n _ _ b' hEm aw rfl rfl;subst this;rw[hm] at hn;cases hn
 ·rintro m T' sz' es' b' cap' hm hEm o (ae | ⟨rfl,ho⟩)
  ·obtain ⟨aE,q1,q2,q3⟩:=h.bR hm;rw[hEm] at q1;simp only[t7,bS.rw.injEq,and_true] at q1;subst q1;obtain ⟨cs',pre',rest',q4,q5,q6,q7,q8,q9,q10,q11⟩:=q3;have:=q11 o ae
   rwa [aL.length _ _ q7,I.iq _ q2] at this
  ·have:=h.c4 m n _ _ b' hEm aw rfl rfl;subst this;rw[hm] at hn;simp only[t7,aj.bR.injEq] at hn;obtain ⟨rfl,rfl,rfl⟩:=hn;exact ho
 ·rintro m T' xs b' cap' hm hEm o (ae | ⟨rfl,ho⟩)
  ·obtain ⟨aE,q1,_,q3⟩:=h.r7 hm;rw[hEm] at q1;simp only[t7,bS.rw.injEq,and_true] at q1;subst q1;obtain ⟨_,_,_,_,_,_,_,_,q4⟩:=q3;exact q4 o ae
  ·have:=h.c4 m n _ _ b' hEm aw rfl rfl;subst this;rw[hm] at hn;cases hn
 ·rintro m e' b' hE' hoth hblk o (ae | ⟨rfl,_⟩)
  ·exact h.yL hE' hoth hblk o ae
  ·have:=h.c4 m n _ _ b' hE' aw hblk rfl;subst this;rw[hE'] at aw;cases aw;cases hoth
theorem aU.own{a:Act}{w:World}{D:aT}{E:aW}(h:aU c A a w D E){n sz:Nat}{T:TypeId}{es:List I}{v:Value}(hn:A.o n=some (.bR T sz es))(hv:aV w D E (.own n es.length) v) :
  (es=[]∧E n=some (.rw none 0)∧v=.slice none 0 0) ∨
  ∃ b cap cs pre rest,E n=some (.rw (some (b,cap)) es.length)∧v=.slice (some ⟨b,0,none⟩) es.length cap∧c.fo b∧w.heap[b]?=some (.cells cs T (0,0))∧cs.toList=pre++rest ∧
   aL w D E es pre∧cs.size=cap*sz∧es.length≤cap∧cap≤maxLen∧(∀ o,D b o→o<pre.length):=by
 obtain ⟨cs0,h1,h2⟩:=hv;simp only[ai] at h2;obtain ⟨aE,l,h3,h4,_,h5⟩:=h2;obtain ⟨blk',k1,k2,k3⟩:=h.bR hn;rw[k1] at h3;simp only[t7,bS.rw.injEq] at h3;obtain ⟨rfl,rfl⟩:=h3;have h5:=h5 rfl;cases blk' with
 |none =>
  simp only at k3 h5;subst k3;exact .inl ⟨rfl,k1,by simpa[bM,I.isAgg,h5] using h1.symm⟩
 |some bc =>
  obtain ⟨b,cap⟩:=bc;simp only at h5;obtain ⟨cs,pre,rest,k4,k5,k6,k7,k8,k9,k10,k11⟩:=k3;exact .inr ⟨b,cap,cs,pre,rest,k1,by simpa[bM,I.isAgg,h5] using h1.symm,k4,k5,k6,k7,k8,k9,k10,k11⟩
theorem aht{t e:TypeId}{y z:Operand}{y' z':aM}{i:TypeInfo}{es:List I}{n:Nat}{kk:IntKind}{k:Int}(ho:o.op=.indexAddr t y z)(hu:c.P.underlying t=some (.slice e))(hi:c.P.info? e=some i)
  (hy:bH c.P 0 y=some y') (hz:bH c.P 0 z=some z') (h:ah A y'=.own n es.length) {T:TypeId} (hn:A.o n=some (.bR T (c.P.cellsOf e) es)) (h':ah A z'=.int kk k) (hk:0≤k∧k<es.length) (hx:es[k.toNat]?=some x):dR c A o (.ref x):=by
 intro a w D E hs;have h1:=ca hs hy;rw[h] at h1;have h1':=ca hs hz;rw[h'] at h1';rcases hs.own hn h1 with ⟨rfl,_⟩ | ⟨b,cap,cs,pre,rest,k1,k2,k3,k4,k5,k6,k7,k8,k9,k10⟩
 ·simp at hx
 ·have hs':=hs.alk hn k1;obtain ⟨aE,q1,q2,_⟩:=hs.bR hn;have hpl:pre.length=es.length*c.P.cellsOf e:=by rw[aL.length _ _ k6,I.iq _ q2]
  have hr:gS w (fun b' o=>D b' o∨(b'=b∧o<es.length*c.P.cellsOf e)) b 0 pre:=by
   have:=o7 (D:=fun b' o=>D b' o∨(b'=b∧o<es.length*c.P.cellsOf e)) (c1:=[]) k4 (by simpa using k5) (fun o ho=>.inr ⟨rfl,by simp at ho;omega⟩);simpa using this
  have hrc:aL w (fun b' o=>D b' o∨(b'=b∧o<es.length*c.P.cellsOf e)) E es pre :=
   aL.bN ⟨fun _ _ ae=>.inl ae,fun _ _ _ _ h=>h,fun _ _ _ h=>h,fun _ aE l h=>⟨aE,l,h,zz8 _,fun _=>rfl⟩,fun _ _ h=>h,fun _ _ h=>h,fun _ _ _ _ h=>h⟩ es pre k6
  obtain ⟨c2,q3,q4⟩:=Dn hr hrc q2 hx;exact ⟨_,w,_,by simp only[execOp,ho,k2,(fC h1').1,Sem.run_bind,zg hu hi hk];rfl,hs',tT q3 q4⟩
end
section
variable {c:cO} {A:af} {o:Oper} {x:I}
theorem pd{P:Program}{w:World}{D:aT}{E:aW}{t:TypeId}{s:Option Nat}{c1 c2 c3:List Value}{y:I}(hk:fS P t=some s)(hok:b8 s y=true)(hy:ai w D E y c2) :
  ∃ v,(part t (c1++c2++c3).toArray c1.length).run P w=.ok v w∧aV w D E y v:=by
 have hag:=MG (w:=w) hk;have hl:=ai.length _ _ hy;cases s with
 |none =>
  simp only[b8,Bool.not_eq_true'] at hok;have hsz:y.size=1:=by cases y <;>simp_all[I.isAgg,I.size]
  rw[hsz] at hl
  match c2,hl with
  | [v],_ =>
   refine ⟨v,?_,JF hok hy⟩;simp[part,hag]
 |some n =>
  simp only[b8,zz3,beq_iff_eq] at hok;obtain ⟨hag',hsz⟩:=hok;have hn:=x6 hk;obtain ⟨i,hi⟩:=tF hk;refine ⟨.agg c2.toArray,?_,mW (by simp[bM,hag']) hy⟩;have e:((c1++c2++c3).toArray.extract c1.length (c1.length+P.cellsOf t))=c2.toArray:=by
   have:P.cellsOf t=c2.length:=by rw[hl,hsz,hn]
   rw[this];simp
  simp only[part,Sem.run_bind,hag,Result.andThen_ok,Option.isSome_some,if_true,jw hi,e,Sem.run_pure]
theorem ahp{t:TypeId}{y:Operand}{y':aM}{f:Nat}{s:Option Nat}{fs:Array Field}{fd:Field}{gs:List I}(ho:o.op=.field t y f)(hu:c.P.underlying t=some (.struct fs))(hf:fs[f]?=some fd)(hk:fS c.P fd.type=some s)
  (hy:bH c.P 0 y=some y') (h:ah A y'=.agg gs) (hx:gs[f]?=some x) (hoff:I.sizes (gs.take f)=fd.offset) (hok:b8 s x=true):dR c A o x :=
 .same fun a w D E hs=>by
  have h1:=ca hs hy;rw[h] at h1;obtain ⟨cs,h2,h4⟩:=jT h1;obtain ⟨c1,c2,c3,rfl,k1,_,k2,_⟩:=m4 gs cs f x h4 hx;obtain ⟨v,k3,k4⟩:=pd (c1:=c1) (c3:=c3) hk hok k2;rw[k1,hoff] at k3;exact ⟨v,by simp only[execOp,ho,h2,Instr.field,Sem.run_bind,run_underlying hu,Result.andThen_ok,hf,asAgg,Sem.run_pure,k3],k4⟩
theorem ahv{t e:TypeId}{y z:Operand}{y' z':aM}{n:Nat}{s:Option Nat}{gs:List I}{kk:IntKind}{k:Int}(ho:o.op=.index t y z)(hu:c.P.underlying t=some (.array n e))(hk:fS c.P e=some s)
  (hy:bH c.P 0 y=some y') (hz:bH c.P 0 z=some z') (h:ah A y'=.agg gs) (h':ah A z'=.int kk k) (hb:0≤k∧k<n) (hev:iD n (c.P.cellsOf e) gs=true) (hx:gs[k.toNat]?=some x) (hok:b8 s x=true):dR c A o x :=
 .same fun a w D E hs=>by
  have h1:=ca hs hy;rw[h] at h1;have h1':=ca hs hz;rw[h'] at h1';obtain ⟨cs,h2,h4⟩:=jT h1;obtain ⟨c1,c2,c3,rfl,k1,_,k2,_⟩:=m4 gs cs k.toNat x h4 hx;obtain ⟨v,k3,k4⟩:=pd (c1:=c1) (c3:=c3) hk hok k2;obtain ⟨e1,e2⟩:=qY hev;obtain ⟨i,hi⟩:=tF hk;have hl:k.toNat<gs.length:=(zy4.1 hx).1;rw[k1,ph gs k.toNat e2 (by omega)] at k3;exact ⟨v,by simp only[execOp,ho,h2,(fC h1').1,Instr.index,Sem.run_bind,asIntOf,run_underlying hu,Result.andThen_ok,Sem.run_ite,if_pos hb,jw hi,Sem.run_pure,k3],k4⟩
theorem yg{n:Nat}(h:n≤maxLen):IntKind.i64.min≤(n:Int)∧(n:Int)≤IntKind.i64.max:=by
 simp only[IntKind.min,IntKind.max,IntKind.bits,IntKind.signed];unfold maxLen at h;simp;omega
theorem p7{ty:TypeId}{y:Operand}{y':aM}{n:Nat}{d:TypeDesc}(ho:o.op=.call { callee:=.builtin .len,args := #[y],argTypes := #[ty] })(hu:c.P.underlying ty=some d)(ae:(∃ e,d=.slice e)∨d=.string)
  (hy:bH c.P ty y=some y') (h:∀ a w D E,aU c A a w D E→∀ v,aV w D E (ah A y') v→n≤maxLen∧((∃ e,d=.slice e)→∃ ad cap,v=.slice ad n cap)∧(d=.string→∃ s,v=.string s∧s.size=n)):dR c A o (.int .i64 n) :=
 .same fun a w D E hs=>by
  obtain ⟨h0,h1,h2⟩:=h a w D E hs _ (ca hs hy);refine ⟨.int .i64 n,?_,lp (yg h0)⟩;rcases ae with ⟨e,rfl⟩ | rfl
  ·obtain ⟨ad,cap,hv⟩:=h1 ⟨e,rfl⟩;simp[execOp,ho,resolve,invoke,builtin,Builtin.len_,run_underlying hu,hv,goInt]
  ·obtain ⟨s,hv,hs⟩:=h2 rfl;simp[execOp,ho,resolve,invoke,builtin,Builtin.len_,run_underlying hu,hv,goInt,hs]
theorem ahF{t e:TypeId}{y:Operand}{y':aM}{n:Nat}{i:TypeInfo}{gs:List I}(ho:o.op=.slice t y none none none)(hu:c.P.underlying t=some (.array n e))(hi:c.P.info? e=some i)
  (hy:bH c.P 0 y=some y') (h:ah A y'=.ref (.agg gs)) (hev:iD n (c.P.cellsOf e) gs=true) (hn:n≤maxLen):dR c A o (.slice (c.P.cellsOf e) gs) :=
 .same fun a w D E hs=>by
  have h1:=ca hs hy;rw[h] at h1;obtain ⟨b,off,cs,h2,h3,h4⟩:=qA h1;simp only[ai] at h4;obtain ⟨e1,e2⟩:=qY hev;by_cases h0:n=0
  ·exact ⟨.slice (some ⟨b,off,none⟩) 0 0,by simp[execOp,ho,h2,Instr.sliceAt,run_underlying hu,Instr.sureAddr,Instr.sliceBounds,jw hi,h0],tU (by omega) (by omega) (by simp[maxLen]) (.inl (List.eq_nil_of_length_eq_zero (by omega))) e2⟩
  ·exact ⟨.slice (some ⟨b,off,none⟩) n n,by simp[execOp,ho,h2,Instr.sliceAt,run_underlying hu,Instr.sureAddr,Instr.sliceBounds,jw hi,np],tU e1.symm (zz8 _) hn (.inr ⟨b,off,cs,rfl,h3,h4⟩) e2⟩
theorem ahE{t e:TypeId}{y:Operand}{y':aM}{n m:Nat}{p:List Nat}{i:TypeInfo}{gs:List I}(ho:o.op=.slice t y none none none)(hu:c.P.underlying t=some (.array n e))(hi:c.P.info? e=some i)
  (hy:bH c.P 0 y=some y') (h:ah A y'=.ptr m p) (ae:cD A (.ptr m p)=some (.agg gs)) (hev:iD n (c.P.cellsOf e) gs=true) (hn:n≤maxLen) (hn0:n≠0):dR c A o (.view m p (c.P.cellsOf e) 0 n) :=
 .same fun a w D E hs=>by
  have h1:=ca hs hy;rw[h] at h1;obtain ⟨b,aS,off,h2,h3,h4⟩:=pf h1;obtain ⟨zz,b',cs,T,off',c1,c2,c3,k1,k2,_,k3,k4,k5,k6,k7,k8,k9,_⟩:=hs.at ae;rw[k2] at h2;simp only[t7,bS.aD.injEq] at h2;obtain ⟨rfl,rfl⟩:=h2;obtain ⟨e1,e2⟩:=qY hev;refine ⟨.slice (some ⟨b',off,none⟩) n n,by simp[execOp,ho,h4,Instr.sliceAt,run_underlying hu,Instr.sureAddr,Instr.sliceBounds,jw hi,np],?_⟩;refine ⟨_,by simp[bM,I.isAgg];rfl,?_⟩;simp only[ai];refine ⟨b',zz.aS,off,I.cU gs,k2,h3,nd p zz _ k4,?_,?_,?_,?_⟩
  ·rw[I.dy,zy3,e1];simp
  ·rw[I.dy,zy3,e1];exact hn
  ·rw[I.dy,zy3,e1];omega
  ·rw[I.dy];intro s hs';obtain ⟨f,hf,rfl⟩:=zx2.1 hs';rw[I.my];exact e2 f hf
theorem akN{w:World}{D:aT}{E:aW}{b off sz:Nat}{cs:List Value}{es:List I}(h1:gS w D b off cs)(h2:aL w D E es cs)(h3:∀ e∈es,e.size=sz)(l h:Nat)(hl:l≤h)(hh:h≤es.length) :
  ∃ c2,gS w D b (off+l*sz) c2∧aL w D E ((es.take h).drop l) c2:=by
 have hspl:∀ (xs ys:List I) (cs:List Value),aL w D E (xs++ys) cs→∃ c1 c2,cs=c1++c2∧aL w D E xs c1∧aL w D E ys c2:=by
  intro xs
  induction xs with
  |nil=>intro ys cs hr;exact ⟨[],cs,rfl,by simp[aL],hr⟩
  |cons x xs ih =>
   intro ys cs hr;simp only[zy1,aL] at hr;obtain ⟨d1,d2,rfl,k1,k2⟩:=hr;obtain ⟨e1,e2,rfl,k3,k4⟩:=ih ys d2 k2;exact ⟨d1++e1,e2,by simp,by simp only[aL];exact ⟨d1,e1,rfl,k1,k3⟩,k4⟩
 have e1:es=es.take l++((es.take h).drop l++es.drop h):=by
  rw[←zz5]
  conv=>lhs;rw[←zx1 h es]
  congr 1
  rw[←List.alZ l h es hl]
 rw[e1] at h2;obtain ⟨c1,c',rfl,k1,k2⟩:=hspl _ _ _ h2;obtain ⟨c2,c3,rfl,k3,k4⟩:=hspl _ _ _ k2;refine ⟨c2,?_,k3⟩;rw[←ph es l h3 (by omega),←aL.length _ _ k1];rw[←zz5] at h1;exact uA h1
 where
 List.alZ {α:Type} (l h:Nat) (es:List α) (hl:l≤h):es.take h=es.take l++(es.take h).drop l:=by
  conv=>lhs;rw[←zx1 l (es.take h)]
  rw[List.take_take,Nat.min_eq_left hl]
def iL(w:World)(D:aT)(E:aW)(x:Option I)(v:Option Value):Prop:=match x,v with
 |none,none=>True
 |some x,some v=>aV w D E x v
 |_,_=>False
theorem Qk{x:I}{d n:Int}(h:ig (some x) d=some n):∃ k,x=.int k n:=by
 cases x <;>simp[ig] at h
 subst h;exact ⟨_,rfl⟩
theorem rK{w:World}{D:aT}{E:aW}{x:Option I}{v:Option Value}{d n:Int}(h:iL w D E x v)(hb:ig x d=some n) :
  (x=none∧v=none∧d=n)∨(x.isSome=true∧∃ k,v=some (.int k n)):=by
 cases x with
 |none =>
  cases v with
  |some _=>simp[iL] at h
  |none=>simp only[ig,t7] at hb;exact .inl ⟨rfl,rfl,hb⟩
 |some x =>
  cases v with
  |none=>simp[iL] at h
  |some v =>
   obtain ⟨k,rfl⟩:=Qk hb;simp only[iL] at h;exact .inr ⟨rfl,k,by rw[(fC h).1]⟩
theorem zh{P:Program}{w:World}{D:aT}{E:aW}{t e:TypeId}{i:TypeInfo}{sz:Nat}{es:List I}{lo hi mx:Option I}{vlo vhi vmx:Option Value}{x:I}{ad:Option Addr}{cap:Nat}
  (hu:P.underlying t=some (.slice e)) (hi':P.info? e=some i) (hsz:sz=P.cellsOf e) (hmh:mx.isSome=true→hi.isSome=true)
  (h1:iL w D E lo vlo) (h2:iL w D E hi vhi) (h3:iL w D E mx vmx) (hx:jV sz es lo hi mx=some x)
  (hcap:es.length≤cap) (hcm:cap≤maxLen) (hes:es=[]∨∃ b off cs,ad=some ⟨b,off,none⟩∧gS w D b off cs∧aL w D E es cs) (hall:∀ e∈es,e.size=sz) :
  ∃ v,(Instr.sliceAt t (.slice ad es.length cap) vlo vhi vmx).run P w=.ok v w∧aV w D E x v:=by
 unfold jV at hx;split at hx
 ·cases hx
 rename_i h hh;split at hx
 ·cases hx
 rename_i m hm;split at hx
 ·cases hx
 rename_i l hl;split at hx
 case isFalse=>cases hx
 rename_i hb;obtain ⟨b1,b2,b3,b4⟩:=hb;have sb:∀ (k:IntKind) (n:Int) (y:Nat) (code:BoundsCode),0≤n→n≤y→(Instr.sliceBound (.int k n) y code).run P w=.ok n.toNat w:=fun k n y code g1 g2=>by
  simp[Instr.sliceBound,asIntOf,g1,g2]
 -- the bounds that the program finds
 have key:∃ m':Nat,es.length≤cap∧m'≤cap∧h.toNat≤m'∧(mx.isSome=true→m'=m.toNat)∧(mx=none→m'=cap) ∧
   (Instr.sliceBounds true es.length cap vlo vhi vmx).run P w=.ok (l.toNat,h.toNat,m') w:=by
  have c1:=rK h1 hl;have c2:=rK h2 hh;have c3:=rK h3 hm;clear h1 h2 h3;rcases c3 with ⟨rfl,rfl,hm3⟩ | ⟨s3,k3,rfl⟩
  ·refine ⟨cap,hcap,zz8 _,by omega,fun e=>(by cases e),fun _=>rfl,?_⟩;rcases c2 with ⟨rfl,rfl,hm2⟩ | ⟨s2,k2,rfl⟩ <;>rcases c1 with ⟨rfl,rfl,hm1⟩ | ⟨s1,k1,rfl⟩
   ·subst hm1 hm2;simp[Instr.sliceBounds]
   ·subst hm2;simp[Instr.sliceBounds,sb k1 l es.length _ b1 (by omega)]
   ·subst hm1;simp[Instr.sliceBounds,sb k2 h cap _ (by omega) (by omega)]
   ·simp[Instr.sliceBounds,sb k2 h cap _ (by omega) (by omega),sb k1 l h.toNat _ b1 (by omega)]
  ·refine ⟨m.toNat,hcap,by omega,by omega,fun _=>rfl,fun e=>(by rw[e] at s3;cases s3),?_⟩;rcases c2 with ⟨rfl,rfl,hm2⟩ | ⟨s2,k2,rfl⟩
   ·simp[s3] at hmh
   ·rcases c1 with ⟨rfl,rfl,hm1⟩ | ⟨s1,k1,rfl⟩
    ·subst hm1;simp[Instr.sliceBounds,sb k3 m cap _ (by omega) (by omega),sb k2 h m.toNat _ (by omega) (by omega)]
    ·simp[Instr.sliceBounds,sb k3 m cap _ (by omega) (by omega),sb k2 h m.toNat _ (by omega) (by omega),sb k1 l h.toNat _ b1 (by omega)]
 obtain ⟨m',g1,g2,g3,g4,g5,hsb⟩:=key;have hrun:(Instr.sliceAt t (.slice ad es.length cap) vlo vhi vmx).run P w =
   .ok (.slice (if m'=l.toNat then ad else ad.map (·.add (l.toNat*P.cellsOf e))) (h.toNat-l.toNat) (m'-l.toNat)) w:=by
  simp only[Instr.sliceAt,Instr.slice,Sem.run_bind,run_underlying hu,Result.andThen_ok,hsb,jw hi',Sem.run_pure]
 refine ⟨_,hrun,?_⟩;split at hx
 ·rename_i hc;simp only[t7] at hx;subst hx;have e1:m'=l.toNat:=by rw[g4 hc.1,hc.2]
  have e2:h.toNat-l.toNat=0:=by omega
  rw[if_pos e1,e2,e1,Nat.sub_self];exact ⟨_,by simp[bM,I.isAgg];rfl,by simp only[ai];exact ⟨ad,rfl⟩⟩
 ·simp only[t7] at hx;subst hx;have hlen:((es.take h.toNat).drop l.toNat).length=h.toNat-l.toNat:=by simp;omega
  refine tU hlen.symm (by omega) (by omega) ?_ (fun y hy=>hall y (List.mem_of_mem_take (List.mem_of_mem_drop hy)));by_cases hz:h.toNat=l.toNat
  ·left;exact List.eq_nil_of_length_eq_zero (by omega)
  ·right
   rw[if_neg (by omega)];rcases hes with rfl | ⟨b,off,cs,rfl,q1,q2⟩
   ·simp at b4 g3;omega
   ·obtain ⟨c2,q3,q4⟩:=akN q1 q2 hall l.toNat h.toNat (by omega) (by omega);exact ⟨b,off+l.toNat*sz,c2,by simp[np,hsz],q3,q4⟩
theorem xN{t e:TypeId}{y:Operand}{y':aM}{lo hi mx:Option Operand}{lo' hi' mx':Option aM}{i:TypeInfo}{es:List I}(ho:o.op=.slice t y lo hi mx)(hu:c.P.underlying t=some (.slice e))(hi0:c.P.info? e=some i)
  (hy:bH c.P 0 y=some y') (h1:iU c.P lo=some lo') (h2:iU c.P hi=some hi') (h3:iU c.P mx=some mx') (hmh:mx'.isSome=true→hi'.isSome=true)
  (h:ah A y'=.slice (c.P.cellsOf e) es∨(ah A y'=.nils (c.P.cellsOf e)∧es=[])∨(ah A y'=.c0 (c.P.cellsOf e)∧es=[])) (hx:jV (c.P.cellsOf e) es (lo'.map (ah A)) (hi'.map (ah A)) (mx'.map (ah A))=some x):dR c A o x :=
 .same fun a w D E hs=>by
  have opt:∀ {q:Option Operand} {q':Option aM},iU c.P q=some q'→iL w D E (q'.map (ah A)) (q.map a.eval):=by
   intro q q' hq;cases q with
   |none=>simp only[iU,t7] at hq;subst hq;simp[iL]
   |some z =>
    simp only[iU,zz1] at hq;obtain ⟨z',hz,rfl⟩:=hq;simpa[iL] using ca hs hz
  have h0:=ca hs hy;have hmh':(mx'.map (ah A)).isSome=true→(hi'.map (ah A)).isSome=true:=by simpa using hmh
  rcases h with h | ⟨h,rfl⟩ | ⟨h,rfl⟩
  ·rw[h] at h0;obtain ⟨ad,cap,e1,e2,e3,e4,e5⟩:=n9 h0;obtain ⟨v,k1,k2⟩:=zh hu hi0 rfl hmh' (opt h1) (opt h2) (opt h3) hx e2 e3 e4 e5;exact ⟨v,by simp only[execOp,ho,e1,Sem.run_bind,k1];rfl,k2⟩
  ·rw[h] at h0;obtain ⟨cs,q1,q2⟩:=h0;simp only[ai] at q2;have e1:a.eval y=.slice none ([]:List I).length 0:=by simpa[bM,I.isAgg,q2] using q1.symm
   obtain ⟨v,k1,k2⟩:=zh (ad:=none) (cap:=0) hu hi0 rfl hmh' (opt h1) (opt h2) (opt h3) hx (by simp) (by simp[maxLen]) (.inl rfl) (by simp);exact ⟨v,by simp only[execOp,ho,e1,Sem.run_bind,k1];rfl,k2⟩
  ·rw[h] at h0;obtain ⟨cs,q1,q2⟩:=h0;simp only[ai] at q2;obtain ⟨ad,q2⟩:=q2;have e1:a.eval y=.slice ad ([]:List I).length 0:=by simpa[bM,I.isAgg,q2] using q1.symm
   obtain ⟨v,k1,k2⟩:=zh (ad:=ad) (cap:=0) hu hi0 rfl hmh' (opt h1) (opt h2) (opt h3) hx (by simp) (by simp[maxLen]) (.inl rfl) (by simp);exact ⟨v,by simp only[execOp,ho,e1,Sem.run_bind,k1];rfl,k2⟩
end
inductive fW {α β:Type} (R:α→β→Prop):List α→List β→Prop where
 |nil:fW R [] []
 |cons {x:α} {y:β} {xs:List α} {ys:List β} : R x y→fW R xs ys→fW R (x::xs) (y::ys)
section
variable {c:cO} {A:af} {o:Oper} {x:I}
theorem akM{w:World}{D:aT}{E:aW}{xs:List I}{cs bC:List Value}{i:Nat}{x y:I}(h:aL w D E xs cs)(hx:xs[i]?=some x)(hy:ai w D E y bC)(hs:y.size=x.size) :
  I.sizes (xs.take i)+bC.length≤cs.length∧aL w D E (xs.set i y) (cs.take (I.sizes (xs.take i))++bC++cs.drop (I.sizes (xs.take i)+bC.length)):=by
 obtain ⟨c1,c2,c3,rfl,h1,h2,h3,h4⟩:=m4 xs cs i x h hx;have hi:i<xs.length:=(zy4.1 hx).1;have hl:bC.length=c2.length:=by rw[ai.length _ _ hy,ai.length _ _ h3,hs]
 refine ⟨by simp only[zz7,h1];omega,?_⟩;have e1:xs.set i y=xs.take i++y::xs.drop (i+1):=by rw[List.set_eq_take_append_cons_drop];simp[hi]
 have e2:(c1++c2++c3).take (I.sizes (xs.take i))++bC++(c1++c2++c3).drop (I.sizes (xs.take i)+bC.length)=c1++(bC++c3):=by
  rw[←h1,hl,zz5 c1 c2 c3,List.take_left,List.drop_length_add_append,List.drop_left,zz5]
 rw[e1,e2];refine kL _ _ _ _ h2 ?_;simp only[aL];exact ⟨bC,c3,rfl,hy,h4⟩
theorem Yo(off:Nat)(l:List Value)(cs:Array Value)(h:off+l.length≤cs.size) :
  ((l.zipIdx 0).foldl (fun cs (x:Value×Nat)=>cs.setIfInBounds (off+x.2) x.1) cs).toList=cs.toList.take off++l++cs.toList.drop (off+l.length):=by
 obtain ⟨h1,h2⟩:=Great.foldl_set off l 0 cs;apply List.ext_getElem?;intro k;rw[zv6,h2 k];simp only[Nat.add_zero,zz5];by_cases hk:k<off
 ·rw[if_neg (by omega),zx0 (by simp;omega)];simp[hk]
 ·rw[zw0 (by simp;omega)];simp only[zy8,zv0,Nat.min_eq_left (show off≤cs.size by omega)];by_cases hk2:k<off+l.length
  ·rw[if_pos ⟨by omega,by omega,by omega⟩,zx0 (by omega)]
  ·rw[if_neg (by omega),zw0 (by omega)];simp only[List.getElem?_drop,zv6]
   congr 1
   omega
theorem wD{w:World}{D:aT}{E:aW}(pl:Nat→Option (Nat×Nat)):∀ (ps:List (Nat×I)) (vs:List (Nat×Value)) (zs zs':List I) (cells:Array Value),
  (∀ i z,zs[i]?=some z→pl i=some (I.sizes (zs.take i),z.size))→aL w D E zs cells.toList→eJ zs ps=some zs' →
  fW (fun (p:Nat×I) (v:Nat×Value)=>p.1=v.1∧aV w D E p.2 v.2) ps vs →
  ∃ cells',Instr.fill pl cells vs=some cells'∧aL w D E zs' cells'.toList
 | [],vs,zs,zs',cells,hp,hr,hs,hf=>by
  cases hf;simp only[eJ,t7] at hs;subst hs;exact ⟨cells,rfl,hr⟩
 |(i,y)::ps,vs,zs,zs',cells,hp,hr,hs,hf=>by
  cases hf with
  |cons h1 h2 =>
   rename_i v vs;obtain ⟨j,u⟩:=v;simp only at h1;obtain ⟨rfl,hv⟩:=h1;simp only[eJ] at hs;split at hs
   ·rename_i z hz;split at hs
    ·rename_i hsz;obtain ⟨hval,hsz⟩:=hsz;obtain ⟨bC,k1,k2⟩:∃ bC,bM y u bC∧ai w D E y bC:=by
      cases y <;>simp[I.cn] at hval <;>exact hv
     have hcells:=k1.cells k2;have hds:u.cells.size=z.size:=by rw[←zv0,hcells,ai.length _ _ k2,hsz]
     obtain ⟨k3,k4⟩:=akM hr hz k2 hsz;have hcl:cells.toList.length=cells.size:=zv0;have hl:bC.length=u.cells.size:=by rw[←hcells,zv0]
     have hp':∀ k z',(zs.set i y)[k]?=some z'→pl k=some (I.sizes ((zs.set i y).take k),z'.size):=by
      intro k z' hk;have hil:i<zs.length:=(zy4.1 hz).1;have hsizes:∀ k,I.sizes ((zs.set i y).take k)=I.sizes (zs.take k):=by
       intro k;have gen:∀ (zs:List I) (i k:Nat) (z:I),zs[i]?=some z→z.size=y.size→I.sizes ((zs.set i y).take k)=I.sizes (zs.take k):=by
        intro zs
        induction zs with
        |nil=>intro i k z hz _;simp at hz
        |cons q qs ih =>
         intro i k z hz he;cases k with
         |zero=>simp
         |succ k =>
          cases i with
          |zero =>
           simp only[List.getElem?_cons_zero,t7] at hz;subst hz;simp[I.sizes,he]
          |succ i =>
           simp only[List.set_cons_succ,List.take_succ_cons,I.sizes,ih i k z (by simpa using hz) he]
       exact gen zs i k z hz hsz.symm
      rw[hsizes];rw[List.getElem?_set] at hk;split at hk
      ·rename_i hik;subst hik;simp only[t7] at hk;subst hk;rw[hp i z hz,hsz]
      ·exact hp k z' hk
     have hfold:=Yo (I.sizes (zs.take i)) u.cells.toList cells (by rw[hcells];omega);rw[hcells] at hfold;obtain ⟨cells',k5,k6⟩:=wD pl ps vs (zs.set i y) zs' ((u.cells.toList.zipIdx 0).foldl (fun cs (x:Value×Nat)=>cs.setIfInBounds (I.sizes (zs.take i)+x.2) x.1) cells) hp'
      (by rw[hcells,hfold];exact k4) hs h2
     refine ⟨cells',?_,k6⟩;unfold Instr.fill;simp only[hp i z hz];rw[if_neg (by simp[hds];omega)];rw[←k5]
     congr 1
     rw[←Array.foldl_toList,Array.toList_zipIdx]
    ·cases hs
   ·cases hs
theorem Kd{a:Act}{w:World}{D:aT}{E:aW}(hs:aU c A a w D E){P:Program} : ∀ (ps:List (Nat×Operand)) (qs:List (Nat×aM)),kv P ps=some qs →
  fW (fun (p:Nat×I) (v:Nat×Value)=>p.1=v.1∧aV w D E p.2 v.2) (qs.map fun p=>(p.1,ah A p.2)) (ps.map fun p=>(p.1,a.eval p.2))
 | [],qs,h=>by simp[kv] at h;subst h;exact .nil
 |(i,x)::ps,qs,h=>by
  simp only[kv,List.mapM_cons,Option.bind_eq_bind,Option.pure_def,Option.bind_eq_some_iff,zz1,t7] at h;obtain ⟨_,⟨y,hy,rfl⟩,qs',hq,rfl⟩:=h;exact .cons ⟨rfl,ca hs hy⟩ (Kd hs ps qs' hq)
theorem IM{t:TypeId}{parts:Array (Nat×Operand)}{ps:List (Nat×aM)}{zs zs':List I}(ho:o.op=.build t parts)(hz:gf c.P t=some (.agg zs))(hp:kv c.P parts.toList=some ps)
  (hpl:(∃ fs,c.P.underlying t=some (.struct fs)∧(fs.toList.map fun f=>(f.offset,c.P.cellsOf f.type))=mh 0 zs∧(fs.all fun f=>(c.P.info? f.type).isSome)=true) ∨
   (∃ n e,c.P.underlying t=some (.array n e)∧zs.length=n∧(zs.all fun z=>z.size==c.P.cellsOf e)=true∧(c.P.info? e).isSome=true))
  (h:eJ zs (ps.map fun p=>(p.1,ah A p.2))=some zs'):dR c A o (.agg zs') :=
 .same fun a w D E hs=>by
  obtain ⟨i,z,hi,hzv,hzr⟩:=mA hz;have hzr:=hzr w D E;simp only[ai] at hzr;have hparts:=Kd hs parts.toList ps hp;have hmap:(parts.map fun (q:Nat×Operand)=>(q.1,a.eval q.2)).toList=parts.toList.map fun p=>(p.1,a.eval p.2):=by simp
  rcases hpl with ⟨fs,hu,hoffs,hinfo⟩ | ⟨n,e,hu,hn,hev,hinfo⟩
  ·have hpl:∀ i z,zs[i]?=some z→(mh 0 zs)[i]?=some (I.sizes (zs.take i),z.size):=by
    intro i z hiz;rw[Kj,hiz];simp
   obtain ⟨cells',k1,k2⟩:=wD ((mh 0 zs)[·]?) _ _ zs zs' z.cells hpl hzr h hparts;have hm:fs.toList.mapM (fun f=>(c.P.info? f.type).map fun i=>(f.offset,i.size))=some (mh 0 zs):=by
    rw[←hoffs];have hall:∀ f∈fs.toList,(c.P.info? f.type).isSome=true:=fun f hf=>by
     have:=(Array.all_eq_true_iff_forall_mem.1 hinfo) f (by simpa using hf);exact this
    revert hall;generalize fs.toList=l;intro hall
    induction l with
    |nil=>rfl
    |cons f l ih =>
     obtain ⟨j,hj⟩:=zw2.1 (hall f (by simp));simp only[List.mapM_cons,Option.bind_eq_bind,hj,zy5,Option.bind_some,ih (fun g hg=>hall g (by simp[hg])),Option.pure_def,zz9,Program.cellsOf,Option.getD_some]
   have hb:c.P.built t (parts.map fun (q:Nat×Operand)=>(q.1,a.eval q.2)).toList=some cells':=by
    unfold Program.built;simp only[hi,hu,hzv,hm];rw[hmap,←k1]
    congr 1
    funext k
    simp
   exact ⟨.agg cells',by simp only[execOp,ho,Sem.run_bind,run_build w t _ _ hb];rfl,by have:=JE k2;simpa using this⟩
  ·obtain ⟨ie,hie⟩:=zw2.1 hinfo;have hev':∀ z∈zs,z.size=ie.size:=fun z hz=>by
    have:=zx9.1 hev z hz;simpa[Program.cellsOf,hie] using this
   have hpl:∀ i z,zs[i]?=some z→(fun i=>some (i*ie.size,ie.size)) i=some (I.sizes (zs.take i),z.size):=by
    intro i z hiz;have hl:i<zs.length:=(zy4.1 hiz).1;rw[ph zs i hev' (by omega),hev' z (List.mem_of_getElem? hiz)]
   obtain ⟨cells',k1,k2⟩:=wD (fun i=>some (i*ie.size,ie.size)) _ _ zs zs' z.cells hpl hzr h hparts;have hb:c.P.built t (parts.map fun (q:Nat×Operand)=>(q.1,a.eval q.2)).toList=some cells':=by
    unfold Program.built;simp only[hi,hu,hzv,hie];rw[hmap,←k1]
   exact ⟨.agg cells',by simp only[execOp,ho,Sem.run_bind,run_build w t _ _ hb];rfl,by have:=JE k2;simpa using this⟩
theorem pH{a:Act}{w:World}{D:aT}{E:aW}(hs:aU c A a w D E){P:Program} : ∀ (xs:List Operand) (ts:List TypeId) (ys:List aM),mH P xs ts=some ys →
  fW (aV w D E) (ys.map (ah A)) (xs.map a.eval)
 | [],_,ys,h=>by simp[mH] at h;subst h;exact .nil
 |x::xs,ts,ys,h=>by
  simp only[mH] at h;split at h
  ·rename_i y ys' h1 h2;simp only[t7] at h;subst h;exact .cons (ca hs h1) (pH hs xs _ ys' h2)
  ·cases h
theorem mu{w:World}{D:aT}{E:aW} : ∀ (xs:List I) (vs:List Value),fW (aV w D E) xs vs→(∀ x∈xs,x.cn=true)→aJ w D E xs vs
 | [],vs,h,_=>by cases h;simp[aJ]
 |x::xs,vs,h,hv=>by
  cases h with
  |cons h1 h2 =>
   rename_i v vs;have hx:=hv x (by simp);obtain ⟨cs,k1,k2⟩:∃ cs,bM x v cs∧ai w D E x cs:=by
    cases x <;>simp[I.cn] at hx <;>exact h1
   simp only[aJ];exact ⟨v,vs,cs,rfl,k1,k2,mu xs vs h2 (fun y hy=>hv y (by simp[hy]))⟩
theorem pY{aD:Bool}{B:af} : ∀ {xs ys:List I},bV aD B xs=some ys→∀ x∈xs,x.cn=true
 | [],ys,_,x,hx=>by simp at hx
 |y::xs,ys,h,x,hx=>by
  simp only[bV] at h;split at h
  ·rename_i z zs h1 h2;rcases zx8.1 hx with rfl | hx
   ·cases x <;>simp_all[a6,I.cn]
   ·exact pY h2 x hx
  ·cases h
theorem ahy{f:FuncId}{caps:Array Operand}{ys:List aM}(ho:o.op=.makeFunc (.func f) #[] caps)(hc:mH c.P caps.toList []=some ys)(hv:∀ y∈ys,(ah A y).cn=true):dR c A o (.func f (ys.map (ah A))) :=
 .same fun a w D E hs=>by
  have h:=mu _ _ (pH hs caps.toList [] ys hc) (by simpa using hv);have e:caps.map a.eval=(caps.toList.map a.eval).toArray:=by apply Array.ext';simp
  refine ⟨.func (.func f) #[] (caps.toList.map a.eval).toArray,by simp[execOp,ho,Instr.makeFunc,e],⟨_,by simp[bM,I.isAgg];rfl,?_⟩⟩;simp only[ai];exact ⟨_,rfl,h⟩
theorem zl{w:World}{D:aT}{E:aW} : ∀ (xs:List I) (vs:List Value),aJ w D E xs vs→aL w D E xs (vs.flatMap fun v=>v.cells.toList)∧vs.length=xs.length∧∀ (sz:Nat),(∀ x∈xs,x.size=sz)→∀ v∈vs,v.cells.size=sz
 | [],vs,h=>by simp only[aJ] at h;subst h;simp[aL]
 |x::xs,vs,h=>by
  simp only[aJ] at h;obtain ⟨v,rest,cs,rfl,h1,h2,h3⟩:=h;obtain ⟨k1,k2,k3⟩:=zl xs rest h3;have hc:=h1.cells h2;refine ⟨?_,by simp[k2],fun sz hsz u hu =>?_⟩
  ·simp only[List.flatMap_cons,aL];exact ⟨_,_,rfl,by rw[hc];exact h2,k1⟩
  ·rcases zx8.1 hu with rfl | hu
   ·rw[←zv0,hc,ai.length _ _ h2,hsz x (by simp)]
   ·exact k3 sz (fun y hy=>hsz y (by simp[hy])) u hu
def pc(A:af)(D:aT)(E:aW):aT:=fun b o=>D b o∨∃ n T sz es cap,A.o n=some (.bR T sz es)∧E n=some (.rw (some (b,cap)) es.length)∧o<es.length*sz
theorem aU.oc{a:Act}{w:World}{D:aT}{E:aW}(h:aU c A a w D E):aU c A a w (pc A D E) E∧iz false A D E (pc A D E):=by
 have hblk:∀ {n T sz es b cap},A.o n=some (.bR T sz es)→E n=some (.rw (some (b,cap)) es.length)→c.fo b∧b<w.heap.size:=by
  intro n T sz es b cap hn aw;obtain ⟨aE,k1,k2,k3⟩:=h.bR hn;rw[aw] at k1;simp only[t7,bS.rw.injEq,and_true] at k1;subst k1;obtain ⟨cs,pre,rest,k4,k5,_⟩:=k3;exact ⟨k4,gb k5⟩
 refine ⟨h.Nz (fun _ _ ae=>.inl ae) ?_ ?_ ?_ ?_ ?_ ?_,⟨fun _ _ ae=>.inl ae,fun n T sz es b cap hn aw o ho=>.inr ⟨n,T,sz,es,cap,hn,aw,ho⟩,(fun hb=>by cases hb),fun hb=>by cases hb⟩⟩
 ·rintro b o (ae | ⟨n,T,sz,es,cap,hn,aw,ho⟩) hlt
  ·exact h.da _ _ ae hlt
  ·exact absurd (hblk hn aw).1 hlt
 ·rintro b o (ae | ⟨n,T,sz,es,cap,hn,aw,ho⟩)
  ·exact h.dm _ _ ae
  ·exact (hblk hn aw).2
 ·rintro m x b hm hEm o (ae | ⟨n,T,sz,es,cap,hn,aw,ho⟩)
  ·obtain ⟨b2,cs2,T2,q1,q2,q3,q4,q5⟩:=h.box hm;rw[q1] at hEm;simp only[t7,bS.aD.injEq,and_true] at hEm;subst hEm;exact q5 o ae
  ·have:=h.c4 m n _ _ b hEm aw rfl rfl;subst this;rw[hm] at hn;cases hn
 ·rintro m T' sz' es' b cap' hm hEm o (ae | ⟨n,T,sz,es,cap,hn,aw,ho⟩)
  ·obtain ⟨aE,q1,q2,q3⟩:=h.bR hm;rw[hEm] at q1;simp only[t7,bS.rw.injEq,and_true] at q1;subst q1;obtain ⟨cs',pre',rest',q4,q5,q6,q7,q8,q9,q10,q11⟩:=q3;have:=q11 o ae
   rwa [aL.length _ _ q7,I.iq _ q2] at this
  ·have:=h.c4 m n _ _ b hEm aw rfl rfl;subst this;rw[hm] at hn;simp only[t7,aj.bR.injEq] at hn;obtain ⟨rfl,rfl,rfl⟩:=hn;exact ho
 ·rintro m T' xs b cap' hm hEm o (ae | ⟨n,T,sz,es,cap,hn,aw,ho⟩)
  ·obtain ⟨aE,q1,_,q3⟩:=h.r7 hm;rw[hEm] at q1;simp only[t7,bS.rw.injEq,and_true] at q1;subst q1;obtain ⟨_,_,_,_,_,_,_,_,q4⟩:=q3;exact q4 o ae
  ·have:=h.c4 m n _ _ b hEm aw rfl rfl;subst this;rw[hm] at hn;cases hn
 ·rintro m e' b hE' hoth hblk o (ae | ⟨n,T,sz,es,cap,hn,aw,ho⟩)
  ·exact h.yL hE' hoth hblk o ae
  ·have:=h.c4 m n _ _ b hE' aw hblk rfl;subst this;rw[hE'] at aw;cases aw;cases hoth
theorem yM{a:Act}{w:World}{D:aT}{E:aW}(hs:aU c A a w D E){P:Program} : ∀ (ps:List (Nat×Operand)) (qs:List (Nat×aM)),kv P ps=some qs →
  fW (aV w D E) ((qs.map (·.2)).map (ah A)) (ps.map fun p=>a.eval p.2)∧qs.map (·.1)=ps.map (·.1)
 | [],qs,h=>by simp[kv] at h;subst h;exact ⟨.nil,rfl⟩
 |(i,x)::ps,qs,h=>by
  simp only[kv,List.mapM_cons,Option.bind_eq_bind,Option.pure_def,Option.bind_eq_some_iff,zz1,t7] at h;obtain ⟨_,⟨y,hy,rfl⟩,qs',hq,rfl⟩:=h;obtain ⟨h1,h2⟩:=yM hs ps qs' hq;exact ⟨.cons (ca hs hy) h1,by simp[h2]⟩
theorem aU.newRow{a:Act}{w:World}{D:aT}{E:aW}(h:aU c A a w D E)(o:Obj):aU c A a (w.alloc o) (fun b k=>D b k∨b=w.heap.size) E:=by
 refine h.grow (sK w o) (fun _ _ ae=>.inl ae) ?_ ?_
 ·rintro b k (ae | rfl) hlt
  ·exact ae
  ·omega
 ·rintro b k (ae | rfl)
  ·have:=h.dm _ _ ae;simp;omega
  ·simp
theorem NI{α:Type}(ps:List (Nat×α))(h:ps.map (·.1)=List.range ps.length):ps=((ps.map (·.2)).zipIdx 0).map fun x=>(x.2,x.1):=by
 apply List.ext_getElem?;intro k;rw[zw5,List.getElem?_zipIdx,zw5];cases hk:ps[k]? with
 |none=>simp
 |some p =>
  have hl:k<ps.length:=(zy4.1 hk).1;have:=congrArg (·[k]?) h;simp only[zw5,hk,zy5,List.getElem?_range hl,t7] at this;simp[←this]
theorem ahg{t e:TypeId}{len:Nat}{parts:Array (Nat×Operand)}{ps:List (Nat×aM)}{es:List I}(ho:o.op=.buildSlice t len parts)(hu:c.P.underlying t=some (.slice e))(hp:kv c.P parts.toList=some ps)
  (hr:ps.map (·.1)=List.range len) (h0:0<c.P.cellsOf e) (hlen:0<len) (hsm:len*c.P.cellsOf e≤16777216) (hz:((c.P.info? e).bind (·.zero)).isSome=true)
  (hes:bV false A ((ps.map (·.2)).map (ah A))=some es) (hev:∀ x∈es,x.size=c.P.cellsOf e) (hcl:I.bU es=true):dR c A o (.slice (c.P.cellsOf e) es):=by
 intro a w D E hs;obtain ⟨hfor,hidx⟩:=yM hs parts.toList ps hp;obtain ⟨hs1,hw⟩:=hs.oc;have hrv:=lY (E':=E) hs (fun _ _ h=>h) hw _ es _ (mu _ _ hfor (pY hes)) hes;obtain ⟨k1,k2,k3⟩:=zl es _ hrv;have k3:=k3 _ hev;have hl:parts.toList.length=len:=by
  have:=congrArg List.length hidx;rw[hr] at this;simpa using this.symm
 have hesl:es.length=len:=by rw[←k2];simp[hl]
 obtain ⟨z,hz⟩:=zw2.1 hz;obtain ⟨ie,hie,hzz⟩:=Option.bind_eq_some_iff.1 hz;have hsz:ie.size=c.P.cellsOf e:=by simp[Program.cellsOf,hie]
 -- the literal's cells
 have hfill:Instr.fill (fun i=>some (i*ie.size,ie.size)) ((Array.range (len*ie.size)).map (z.cells[· % z.cells.size]!)) (parts.map fun (q:Nat×Operand)=>(q.1,a.eval q.2)).toList =
   some ((parts.toList.map fun p=>a.eval p.2).flatMap fun v=>v.cells.toList).toArray:=by
  have hpz:(parts.map fun (q:Nat×Operand)=>(q.1,a.eval q.2)).toList=((parts.toList.map fun p=>a.eval p.2).zipIdx 0).map fun x=>(x.2,x.1):=by
   have:=NI (parts.toList.map fun (q:Nat×Operand)=>(q.1,a.eval q.2)) (by simp only[List.map_map,zy3];rw[hl,←hr,hidx];rfl);rw[Array.toList_map,this,List.map_map];rfl
  rw[hpz,hsz];exact Great.fill_whole h0 _ _ (fun v hv=>k3 v hv) (by simp[hl])
 have hrun:=run_buildSlice (P:=c.P) w t e len (parts.map fun (q:Nat×Operand)=>(q.1,a.eval q.2)) _ ie z hu hie hzz (by rw[hsz];omega) (by rw[hsz];exact Nat.ne_of_gt (Nat.mul_pos hlen h0)) hfill;generalize hcells:((parts.toList.map fun p=>a.eval p.2).flatMap fun v=>v.cells.toList)=cells at *;have hs2:=hs1.newRow (.cells cells.toArray e);refine ⟨_,_,_,by simp only[execOp,ho,Sem.run_bind];rw[hrun];rfl,hs2,tU hesl.symm (zz8 _) ?_ (.inr ⟨w.heap.size,0,cells,rfl,?_,?_⟩) hev⟩
 ·unfold maxLen;have:len≤len*c.P.cellsOf e:=Nat.le_mul_of_pos_right _ h0;omega
 ·intro j v hj;refine ⟨?_,.inr rfl⟩;rw[zz4];have:=World.cell?_alloc_new w cells.toArray e j;rw[this];simpa using hj
 ·refine aL.bN ?_ es cells k1;exact dS.grow (sK w _) (fun _ _ ae=>.inl ae)
end
mutual
theorem pV:∀ (ty:cS) (x y:I) (r:Bool),cv ty x y=some r→x.size=ty.size∧y.size=ty.size
 | .i k,x,y,r,h=>by
  simp only[cv] at h;split at h
  ·simp[I.size,cS.size]
  ·cases h
 | .b,x,y,r,h=>by
  simp only[cv] at h;split at h
  ·simp[I.size,cS.size]
  ·cases h
 | .s,x,y,r,h=>by
  simp only[cv] at h;split at h
  ·simp[I.size,cS.size]
  ·cases h
 | .br l,x,y,r,h=>by
  simp only[cv] at h;split at h
  ·simp only[I.size,cS.size];exact Dr l _ _ r h
  ·cases h
 | .kr n e,x,y,r,h=>by
  simp only[cv] at h;split at h
  ·rename_i fs gs;split at h
   ·rename_i hl;simp only[I.size,cS.size];have:∀ (fs gs:List I) (r:Bool),fs.length=gs.length→(fs.zip gs).foldr (fun p acc=>iA (cv e p.1 p.2) acc) (some true)=some r→I.sizes fs=fs.length*e.size∧I.sizes gs=fs.length*e.size:=by
     intro fs
     induction fs with
     |nil=>intro gs r hl _;cases gs with | nil=>simp[I.sizes] | cons _ _=>simp at hl
     |cons f fs ih =>
      intro gs r hl h;cases gs with
      |nil=>simp at hl
      |cons g gs =>
       simp only[List.zip_cons_cons,List.foldr_cons] at h;unfold iA at h;split at h
       ·rename_i a b h1 h2;obtain ⟨k1,k2⟩:=ih gs b (by simpa using hl) h2;obtain ⟨k3,k4⟩:=pV e f g a h1;simp only[I.sizes,zv9,k1,k2,k3,k4,zu1,Nat.one_mul];omega
       ·cases h
    obtain ⟨k1,k2⟩:=this fs gs r (by omega) h;rw[k1,k2,hl.1];exact ⟨rfl,rfl⟩
   ·cases h
  ·cases h
theorem Dr:∀ (l:List cS) (xs ys:List I) (r:Bool),jb l xs ys=some r→I.sizes xs=cS.sizes l∧I.sizes ys=cS.sizes l
 | [],xs,ys,r,h=>by
  simp only[jb] at h;split at h
  ·simp[I.sizes,cS.sizes]
  ·cases h
 |t::ts,xs,ys,r,h=>by
  simp only[jb] at h;split at h
  ·rename_i f fs g gs;unfold iA at h;split at h
   ·rename_i a b h1 h2;obtain ⟨k1,k2⟩:=pV t f g a h1;obtain ⟨k3,k4⟩:=Dr ts fs gs b h2;simp only[I.sizes,cS.sizes,k1,k2,k3,k4];exact ⟨trivial,trivial⟩
   ·cases h
  ·cases h
end
section
variable {P:Program} {w:World} {D:aT} {E:aW}
theorem wj{d:Nat}{t:TypeId}{ty:cS}(h:gM P d t=some ty)(hs:ty.size=P.cellsOf t){x y:I}{r:Bool}(hr:cv ty x y=some r):∃ s,fS P t=some s∧b8 s x=true∧b8 s y=true:=by
 have hsz:=pV ty x y r hr;cases d with
 |zero=>simp[gM] at h
 |succ d =>
  simp only[gM] at h;split at h
  ·rename_i k hu;simp only[t7] at h;subst h;simp only[cv] at hr;split at hr
   ·exact ⟨none,by simp[fS,hu],by simp[b8,I.isAgg],by simp[b8,I.isAgg]⟩
   ·cases hr
  ·rename_i hu;simp only[t7] at h;subst h;simp only[cv] at hr;split at hr
   ·exact ⟨none,by simp[fS,hu],by simp[b8,I.isAgg],by simp[b8,I.isAgg]⟩
   ·cases hr
  ·rename_i hu;simp only[t7] at h;subst h;simp only[cv] at hr;split at hr
   ·exact ⟨none,by simp[fS,hu],by simp[b8,I.isAgg],by simp[b8,I.isAgg]⟩
   ·cases hr
  ·rename_i fs hu;split at h
   ·simp only[zz1] at h;obtain ⟨l,_,rfl⟩:=h;simp only[cv] at hr;split at hr
    ·exact ⟨some (P.cellsOf t),by simp[fS,hu],by simp[b8,I.isAgg,hsz.1,hs],by simp[b8,I.isAgg,hsz.2,hs]⟩
    ·cases hr
   ·cases h
  ·rename_i n e hu;split at h
   ·split at h
    ·simp only[t7] at h;subst h;simp only[cv] at hr;split at hr
     ·exact ⟨some (P.cellsOf t),by simp[fS,hu],by simp[b8,I.isAgg,hsz.1,hs],by simp[b8,I.isAgg,hsz.2,hs]⟩
     ·cases hr
    ·cases h
   ·cases h
  ·cases h
theorem Dt{k:Nat}{g:Field→Option cS}(hg:∀ (f:Field) (ty:cS),g f=some ty→ty.size=P.cellsOf f.type∧∃ d,gM P d f.type=some ty ∧
   ∀ (x y:I) (u v:Value) (r:Bool),aV w D E x u→aV w D E y v→cv ty x y=some r→(Op.equalIn k f.type u v).run P w=.ok r w) :
  ∀ (fs : List Field) (l : List cS) (xs ys : List I) (r : Bool) (c1 c2 d1 d2 : List Value), fs.mapM g = some l → (∀ f ∈ fs, f.name ≠ "_") → qm P c1.length fs = true → c1.length = d1.length →
   aL w D E xs c2→aL w D E ys d2→jb l xs ys=some r→(Op.eqFields k (c1++c2).toArray (d1++d2).toArray fs).run P w=.ok r w
 | [],l,xs,ys,r,c1,c2,d1,d2,hm,_,_,_,_,_,h=>by
  simp at hm;subst hm;simp only[jb] at h;split at h
  ·simp only[t7] at h;subst h;simp[Op.eqFields]
  ·cases h
 |f::fs,l,xs,ys,r,c1,c2,d1,d2,hm,hn,ho,hl,hx,hy,h=>by
  simp only[List.mapM_cons,Option.bind_eq_bind,Option.pure_def,Option.bind_eq_some_iff,t7] at hm;obtain ⟨ty,hty,tys,htys,rfl⟩:=hm;simp only[jb] at h;split at h
  case h_2=>cases h
  rename_i x xs y ys;unfold iA at h;split at h
  case h_2=>cases h
  rename_i ra rb h1 h2;simp only[t7] at h;subst h;simp only[aL] at hx hy;obtain ⟨e1,e2,rfl,k1,k2⟩:=hx;obtain ⟨f1,f2,rfl,k3,k4⟩:=hy;obtain ⟨hsz,dd,ae,heq⟩:=hg f ty hty;obtain ⟨s,q1,q2,q3⟩:=wj ae hsz h1;obtain ⟨u,p1,p2⟩:=pd (c1:=c1) (c3:=e2) q1 q2 k1;obtain ⟨v,p3,p4⟩:=pd (c1:=d1) (c3:=f2) q1 q3 k3;simp only[qm,zz3,beq_iff_eq] at ho;have hsx:=pV ty x y ra h1;have hle:e1.length=P.cellsOf f.type:=by rw[ai.length _ _ k1,hsx.1,hsz]
  have hlf:f1.length=P.cellsOf f.type:=by rw[ai.length _ _ k3,hsx.2,hsz]
  have ih:=Dt hg fs tys xs ys rb (c1++e1) e2 (d1++f1) f2 htys (fun g hg=>hn g (by simp[hg])) (by simp only[zz7,hle];exact ho.2) (by simp[hl,hle,hlf]) k2 k4 h2;rw[zz5] at p1 p3;rw[zz5,zz5] at ih;rw[←ho.1] at p1;rw[←hl,←ho.1] at p3;simp only[Op.eqFields,hn f (by simp),ne_eq,not_false_eq_true,if_true,Sem.run_bind,p1,Result.andThen_ok,p3,heq x y u v ra p2 p4 h1];cases ra
  ·simp
  ·simpa using ih
theorem Du{d:Nat}{e:TypeId}{ty:cS}{dd:Nat}(hty:gM P dd e=some ty)(hsz:ty.size=P.cellsOf e)
  (heq:∀ (x y:I) (u v:Value) (r:Bool),aV w D E x u→aV w D E y v→cv ty x y=some r→(Op.equalIn d e u v).run P w=.ok r w) :
  ∀ (m k:Nat) (xs ys:List I) (c1 c2 d1 d2:List Value) (r:Bool),xs.length=m→ys.length=m→c1.length=k*P.cellsOf e→d1.length=k*P.cellsOf e→aL w D E xs c2→aL w D E ys d2 →
   (xs.zip ys).foldr (fun p acc=>iA (cv ty p.1 p.2) acc) (some true)=some r→(Op.eqItems d e (P.cellsOf e) (c1++c2).toArray (d1++d2).toArray (List.range' k m)).run P w=.ok r w
 |0,k,xs,ys,c1,c2,d1,d2,r,hx,hy,_,_,_,_,h=>by
  have e1:=List.eq_nil_of_length_eq_zero hx;subst e1;simp only[List.zip_nil_left,List.foldr_nil,t7] at h;subst h;simp[Op.eqItems]
 |m+1,k,xs,ys,c1,c2,d1,d2,r,hx,hy,hc,ae,hrx,hry,h=>by
  cases xs with
  |nil=>simp at hx
  |cons x xs =>
  cases ys with
  |nil=>simp at hy
  |cons y ys =>
  simp only[List.zip_cons_cons,List.foldr_cons] at h;unfold iA at h;split at h
  case h_2=>cases h
  rename_i ra rb h1 h2;simp only[t7] at h;subst h;simp only[aL] at hrx hry;obtain ⟨e1,e2,rfl,k1,k2⟩:=hrx;obtain ⟨f1,f2,rfl,k3,k4⟩:=hry;obtain ⟨s,q1,q2,q3⟩:=wj hty hsz h1;obtain ⟨u,p1,p2⟩:=pd (c1:=c1) (c3:=e2) q1 q2 k1;obtain ⟨v,p3,p4⟩:=pd (c1:=d1) (c3:=f2) q1 q3 k3;have hsx:=pV ty x y ra h1;have hle:e1.length=P.cellsOf e:=by rw[ai.length _ _ k1,hsx.1,hsz]
  have hlf:f1.length=P.cellsOf e:=by rw[ai.length _ _ k3,hsx.2,hsz]
  have ih:=Du hty hsz heq m (k+1) xs ys (c1++e1) e2 (d1++f1) f2 rb (by simpa using hx) (by simpa using hy) (by simp only[zz7,hle,hc,zu1,Nat.one_mul]) (by simp only[zz7,hlf,ae,zu1,Nat.one_mul]) k2 k4 h2;rw[zz5] at p1 p3;rw[zz5,zz5] at ih;rw[hc] at p1;rw[ae] at p3;simp only[List.range'_succ,Op.eqItems,Sem.run_bind,p1,Result.andThen_ok,p3,heq x y u v ra p2 p4 h1];cases ra
  ·simp
  ·simpa using ih
theorem s7:∀ (d:Nat) (t:TypeId) (ty:cS),gM P d t=some ty→∀ (x y:I) (u v:Value) (r:Bool),aV w D E x u→aV w D E y v→cv ty x y=some r→∀ dep,d≤dep→(Op.equalIn dep t u v).run P w=.ok r w
 |0,t,ty,h,_,_,_,_,_,_,_,_,_,_=>by simp[gM] at h
 |d+1,t,ty,h,x,y,u,v,r,hx,hy,hr,dep,hdep=>by
  obtain ⟨k,rfl⟩:∃ k,dep=k+1:=⟨dep-1,by omega⟩
  simp only[gM] at h;split at h
  ·rename_i kk hu;simp only[t7] at h;subst h;simp only[cv] at hr;split at hr
   ·split at hr
    ·simp only[t7] at hr;subst hr;rw[(fC hx).1,(fC hy).1];rename_i hk;rw[hk.1,hk.2];exact run_equalIn_int w k t kk kk _ _ hu
    ·cases hr
   ·cases hr
  ·rename_i hu;simp only[t7] at h;subst h;simp only[cv] at hr;split at hr
   ·simp only[t7] at hr;subst hr;rw[mq hx,mq hy];exact run_equalIn_bool' w k t _ _ hu
   ·cases hr
  ·rename_i hu;simp only[t7] at h;subst h;simp only[cv] at hr;split at hr
   ·simp only[t7] at hr;subst hr;rw[(oa hx).1,(oa hy).1];exact run_equalIn_string w k t _ _ hu
   ·cases hr
  ·rename_i fs hu;split at h
   ·rename_i hc;simp only[zz1] at h;obtain ⟨l,hl,rfl⟩:=h;simp only[cv] at hr;split at hr
    ·obtain ⟨cs,rfl,h1⟩:=jT hx;obtain ⟨bC,rfl,h2⟩:=jT hy;have hf:P.fieldsOf t=fs:=by simp[Program.fieldsOf,hu]
     rw[run_equalIn_struct w k t _ _ (by rw[hf];exact hu) hc.1,hf];refine Dt (g:=fun f=>match gM P d f.type with | some ty=>if ty.size=P.cellsOf f.type then some ty else none | none=>none) (fun f ty hg =>?_) fs.toList l _ _ r [] cs [] bC hl (fun f hf =>?_) hc.2.2 rfl h1 h2 hr
     ·split at hg
      ·rename_i ty' hty;split at hg
       ·rename_i hs;simp only[t7] at hg;subst hg;exact ⟨hs,d,hty,fun x y u v r hx hy hr=>s7 d f.type _ hty x y u v r hx hy hr k (by omega)⟩
       ·cases hg
      ·cases hg
     ·have:=zx9.1 hc.2.1 f hf;simpa using this
    ·cases hr
   ·cases h
  ·rename_i n e hu;split at h
   ·rename_i ty' hty;split at h
    ·rename_i hc;simp only[t7] at h;subst h;simp only[cv] at hr;split at hr
     ·split at hr
      ·rename_i hl;obtain ⟨cs,rfl,h1⟩:=jT hx;obtain ⟨bC,rfl,h2⟩:=jT hy;obtain ⟨i,hi⟩:=zw2.1 hc.2;rw[run_equalIn_array w k _ _ hu hi,List.range_eq_range'];exact Du hty hc.1 (fun x y u v r hx hy hr=>s7 d e _ hty x y u v r hx hy hr k (by omega)) n 0 _ _ [] cs [] bC r hl.1 hl.2 (by simp) (by simp) h1 h2 hr
      ·cases hr
     ·cases hr
    ·cases h
   ·cases h
  ·cases h
end
section
variable {c:cO} {A:af} {o:Oper} {x:I}
theorem alf{P:Program}{w:World}{D:aT}{E:aW}(op:BinOp)(t:TypeId)(x y:Operand){a b:I}{ty:cS}{r:Bool}{u v:Value}(hr:cv ty a b=some r)(hx:aV w D E a u)(hm:P.eqGuardType P.depth t=false) :
  (eqGuard op t x y u v).run P w=.ok () w:=by
 have:u.oneCell'=true∧u≠.nilIface∨∃ cs,u=.agg cs:=by
  cases ty <;>simp only[cv] at hr <;>split at hr <;>first
   |(cases hr;done)
   |(left;rw[(fC hx).1];exact ⟨rfl,by simp⟩)
   |(left;rw[mq hx];exact ⟨rfl,by simp⟩)
   |(left;rw[(oa hx).1];exact ⟨rfl,by simp⟩)
   |(right;obtain ⟨cs,h,_⟩:=jT hx;exact ⟨_,h⟩)
 rcases this with ⟨h1,h2⟩ | ⟨cs,rfl⟩
 ·exact zf op t x y h1 h2
 ·cases op <;>cases v <;>simp[eqGuard,run_program,hm]
theorem PT{P:Program}{w:World}{D:aT}{E:aW}{neg:Bool}{t:TypeId}{a b:I}{ty:cS}{r:Bool}{u v:Value}(hr:cv ty a b=some r)(hx:aV w D E a u)(hy:aV w D E b v){dt:Nat}(hdt:dt≤10000)(hty:gM P dt t=some ty) :
  (binOp (if neg then .neq else .eql) t u v).run P w=.ok (.bool (if neg then !r else r)) w:=by
 have he:=s7 (w:=w) (D:=D) (E:=E) dt t ty hty a b u v r hx hy hr 10000 hdt;cases ty <;>simp only[cv] at hr <;>split at hr <;>first | (cases hr;done) | skip
 ·rw[(fC hx).1,(fC hy).1] at *;split at hr
  ·rename_i hk;simp only[t7] at hr;subst hr;rw[hk.1,hk.2];cases neg <;>simp[binOp,Op.intCmp,bne]
  ·cases hr
 ·have e1:=mq hx;have e2:=mq hy;subst e1 e2;cases neg <;>simp only[binOp,if_true,zz6,if_false] <;>simp[Op.equal,Op.maxDepth,he]
 ·rw[(oa hx).1,(oa hy).1] at *;simp only[t7] at hr;subst hr;cases neg <;>simp[binOp,Op.stringOp]
 ·obtain ⟨cs,rfl,_⟩:=jT hx;obtain ⟨bC,rfl,_⟩:=jT hy;cases neg <;>simp only[if_true,zz6,if_false]
  ·rw[run_eql_struct,he];rfl
  ·rw[run_neq_struct,he];rfl
 ·obtain ⟨cs,rfl,_⟩:=jT hx;obtain ⟨bC,rfl,_⟩:=jT hy;cases neg <;>simp only[if_true,zz6,if_false]
  ·rw[run_eql_struct,he];rfl
  ·rw[run_neq_struct,he];rfl
theorem ahl{neg:Bool}{t yt:TypeId}{y z:Operand}{y' z':aM}{ty:cS}{r:Bool}(ho:o.op=.binOp (if neg then .neq else .eql) t y z yt)(hy:bH c.P 0 y=some y')(hz:bH c.P 0 z=some z')(hg:c.P.eqGuardType c.P.depth t=false)
  (hty:gM c.P 12 t=some ty) (h:cv ty (ah A y') (ah A z')=some r):dR c A o (.bool (if neg then !r else r)) :=
 .same fun a w D E hs=>by
  have h1:=ca hs hy;have h2:=ca hs hz;refine ⟨_,?_,oW _⟩;simp only[execOp,ho,Sem.run_bind,alf _ t y z h h1 hg,Result.andThen_ok,PT h h1 h2 (dt:=12) (by omega) hty];rfl
theorem xM{neg:Bool}{t yt e:TypeId}{y z:Operand}{y':aM}{sz:Nat}{r:Bool}(ho:o.op=.binOp (if neg then .neq else .eql) t y z yt)(hu:c.P.underlying t=some (.slice e))(hy:bH c.P 0 y=some y')(hz:bH c.P 0 z=some (.c (.nils sz)))
  (h:(∃ s,ah A y'=.nils s∧r=true)∨(∃ s es,ah A y'=.slice s es∧es≠[]∧r=false)∨(∃ n p s lo k,ah A y'=.view n p s lo k∧r=false)):dR c A o (.bool (if neg then !r else r)) :=
 .same fun a w D E hs=>by
  have h1:=ca hs hy;have h2:aV w D E (.nils sz) (a.eval z):=ca hs hz;have hv:a.eval z=.slice none 0 0:=by
   obtain ⟨cs,q1,q2⟩:=h2;simp only[ai] at q2;simpa[bM,I.isAgg,q2] using q1.symm
  have hu':(∃ ad n cp,a.eval y=.slice ad n cp∧r=ad.isNone):=by
   rcases h with ⟨s,h,rfl⟩ | ⟨s,es,h,hne,rfl⟩ | ⟨n,p,s,lo,k,h,rfl⟩
   ·rw[h] at h1;obtain ⟨cs,q1,q2⟩:=h1;simp only[ai] at q2;exact ⟨none,0,0,by simpa[bM,I.isAgg,q2] using q1.symm,rfl⟩
   ·rw[h] at h1;obtain ⟨ad,cap,e1,_,_,e4,_⟩:=n9 h1;rcases e4 with e4 | ⟨b,off,cs,rfl,_,_⟩
    ·exact absurd e4 hne
    ·exact ⟨_,_,_,e1,rfl⟩
   ·rw[h] at h1;obtain ⟨cs,q1,q2⟩:=h1;simp only[ai] at q2;obtain ⟨b,aS,off,l,_,_,_,q2,_⟩:=q2;exact ⟨_,_,_,by simpa[bM,I.isAgg,q2] using q1.symm,rfl⟩
  obtain ⟨ad,n,cp,hyv,rfl⟩:=hu';have he:∀ d,(Op.equalIn (d+1) t (.slice ad n cp) (.slice none 0 0)).run c.P w=.ok ad.isNone w:=fun d=>by
   cases ad <;>simp[Op.equalIn,run_underlying hu]
  refine ⟨.bool (if neg then !ad.isNone else ad.isNone),?_,oW _⟩;cases neg <;>simp only[execOp,ho,hyv,hv,if_true,zz6,if_false,Sem.run_bind,eqGuard] <;>simp[binOp,Op.equal,Op.maxDepth,he]
end
def iw(c:cO)(A:af)(o:Oper)(B:af):Prop :=
 ∀ a w D E,aU c A a w D E→∃ w',((∃ v,(execOp a.eval o).run c.P w=.ok (.value v) w'∧ct c B (a.put o.dst v) w')∨((execOp a.eval o).run c.P w=.ok .skip w'∧ct c B (a.put o.dst undef) w'))
section
variable {c:cO} {A:af} {o:Oper} {x:I}
theorem dR.does(h:dR c A o x)(ae:∀ k,o.dst=some k→k<c.n):iw c A o (A.aP o.dst x):=by
 intro a w D E hs;obtain ⟨v,w',D',h1,h2,h3⟩:=h a w D E hs;exact ⟨w',.inl ⟨v,h1,D',E,h2.aP ae h3⟩⟩
theorem Xe{t:TypeId}{z:I}{d:Nat}(ho:o.op=.alloc t)(hz:gf c.P t=some z)(ae:o.dst=some d)(hn:d<c.n)(hf:A.o d=none):iw c A o ((A.aO d (.box z)).put d (.ptr d [])):=by
 intro a w D E hs;obtain ⟨i,zv,hi,hzv,hzr⟩:=mA hz;have h1:=hs.rG (T:=t) (.inl hn) hf (hzr w D E);have h2:=h1.put (x:=.ptr d []) (v:=.pointer (some ⟨w.heap.size,0,none⟩)) hn ⟨_,by simp[bM,I.isAgg];rfl,by
  simp only[ai,if_true];exact ⟨w.heap.size,z.aS,0,rfl,by cases z.aS <;>simp[cW.off],rfl⟩⟩
 exact ⟨w.alloc (.cells zv.cells t),.inl ⟨.pointer (some ⟨w.heap.size,0,none⟩),by simp[execOp,ho,Instr.alloc,zeroValue,typeInfo,hi,hzv,newVar,newRow],D,_,by rw[ae];exact h2⟩⟩
theorem Xj{t:TypeId}{y:Operand}{y':aM}{d:Nat}(ho:o.op=.box t y)(hy:bH c.P t y=some y')(hv:(ah A y').cn=true)(ae:o.dst=some d)(hn:d<c.n)(hf:A.o d=none) :
  iw c A o ((A.aO d (.box (ah A y'))).put d (.ptr d [])):=by
 intro a w D E hs;obtain ⟨cs,k1,k2⟩:∃ cs,bM (ah A y') (a.eval y) cs∧ai w D E (ah A y') cs:=by
  have h:=ca hs hy;generalize ah A y'=z at *;cases z <;>simp[I.cn] at hv <;>exact h
 have hc:=k1.cells k2;rw[←hc] at k2;have h1:=hs.rG (T:=t) (.inl hn) hf k2;have h2:=h1.put (x:=.ptr d []) (v:=.pointer (some ⟨w.heap.size,0,none⟩)) hn ⟨_,by simp[bM,I.isAgg];rfl,by
  simp only[ai,if_true];exact ⟨w.heap.size,(ah A y').aS,0,rfl,by cases (ah A y').aS <;>simp[cW.off],rfl⟩⟩
 exact ⟨w.alloc (.cells (a.eval y).cells t),.inl ⟨.pointer (some ⟨w.heap.size,0,none⟩),by simp[execOp,ho,Instr.box,newVar,newRow],D,_,by rw[ae];exact h2⟩⟩
theorem Xq{t:TypeId}{y z:Operand}{y' z':aM}{s:Option Nat}{n:Nat}{p:List Nat}{b old:I}(ho:o.op=.store t y z)(hk:fS c.P t=some s)(hk1:s.isSome=true∨c.P.cellsOf t=1)(hy:bH c.P 0 y=some y')(hz:bH c.P t z=some z')
  (hp:ah A y'=.ptr n p) (hb:A.o n=some (.box b)) (hat:b.at p=some old) (hv:(ah A z').cn=true) (hok:b8 s (ah A z')=true) (hsh:(ah A z').aS=old.aS) (ae:o.dst=none) :
  iw c A o (A.aO n (.box (b.dM p (ah A z')))):=by
 intro a w D E hs;have h1:=ca hs hy;rw[hp] at h1;obtain ⟨bb,aS,off,h2,h3,h4⟩:=pf h1;obtain ⟨b',cs,T,k1,k2,k3,k4,k5⟩:=hs.box hb;rw[k1] at h2;simp only[t7,bS.aD.injEq] at h2;obtain ⟨rfl,rfl⟩:=h2;obtain ⟨bC,q1,q2⟩:∃ bC,bM (ah A z') (a.eval z) bC∧ai w D E (ah A z') bC:=by
  have h:=ca hs hz;generalize ah A z'=zz at *;cases zz <;>simp[I.cn] at hv <;>exact h
 have hc:=q1.cells q2;obtain ⟨off',p1,p2,p3,p4⟩:=uw p b old _ _ bC k4 hat q2 hsh;rw[h3,t7] at p1;subst p1;have hl:=ai.length _ _ q2;obtain ⟨i,hi⟩:=tF hk;have hsz:bC.length=c.P.cellsOf t:=by
  cases s with
  |none =>
   simp only[b8,Bool.not_eq_true'] at hok;have:(ah A z').size=1:=by generalize ah A z'=zz at *;cases zz <;>simp_all[I.isAgg,I.size]
   rw[hl,this];rcases hk1 with h | h
   ·cases h
   ·exact h.symm
  |some m =>
   simp only[b8,zz3,beq_iff_eq] at hok;rw[hl,hok.2,x6 hk]
 have hcs:(a.eval z).cells.size=bC.length:=by rw[←hc,zv0]
 have hrun:=run_storeCells_at c.P b' off T bC 0 cs w k3 (by rw[zv0] at p2;omega) (ai.mY _ _ q2);simp only[Nat.add_zero] at hrun;have hs2:=hs.MP (y:=b.dM p (ah A z')) (cs':=(cs.toList.take off++bC++cs.toList.drop (off+bC.length)).toArray) hb k1 p4 (by simpa using p3);refine ⟨w.setRow b' (cs.toList.take off++bC++cs.toList.drop (off+bC.length)).toArray,.inr ⟨?_,D,E,?_⟩⟩
 ·have e:(a.eval z).cells.toList=bC:=hc;have hg:¬ (a.eval z).cells.size≠c.P.cellsOf t:=by rw[hcs,hsz];simp
  simp only[execOp,ho,h4,Instr.storeAt,Instr.sureAddr,storeVar,Sem.run_bind,Sem.run_pure,Result.andThen_ok,jw hi,Sem.run_ite,if_neg hg,e,hrun]
 ·rw[ae];exact hs2
end
section
variable {c:cO} {A:af} {a:Act} {w:World} {D:aT} {E:aW}
theorem aU.DZ(h:aU c A a w D E){n:Nat}{T:TypeId}{sz cap:Nat}{es ys:List I}{pre news rest:List Value}{cs:Array Value}{aE:Option (Nat×Nat)}(hn:A.o n=some (.bR T sz es))(aw:E n=some (.rw aE es.length))(hes:aL w D E es pre)
  (hys:aL w D E ys news) (hysz:∀ e∈ys,e.size=sz) (hne:ys≠[]) (hcs:cs.toList=(pre++news)++rest) (hsize:cs.size=cap*sz) (hlen:es.length+ys.length≤cap) (hcap:cap≤maxLen) :
  aU c (A.aO n (.bR T sz (es++ys))) a (w.drew.alloc (.cells cs T)) D (fun m=>if m=n then some (.rw (some (w.heap.size,cap)) (es.length+ys.length)) else E m):=by
 have hlast:0<ys.length:=List.length_pos_iff.2 hne;have hheap:∀ b,b<w.heap.size→(w.drew.alloc (.cells cs T)).heap[b]?=w.heap[b]?:=fun b hb=>Below.heap_alloc w.drew _ b hb;have hl:dS w D E (w.drew.alloc (.cells cs T)) D (fun m=>if m=n then some (.rw (some (w.heap.size,cap)) (es.length+ys.length)) else E m):=by
  have ev:∀ {m:Nat} {e:bS},E m=some e→e.eR=true→(if m=n then some (.rw (some (w.heap.size,cap)) (es.length+ys.length)) else E m)=some e:=fun {m e} he hfx=>by
   have:m≠n:=fun e=>by rw[e,aw] at he;cases he;cases hfx
   rw[if_neg this];exact he
  refine ⟨fun _ _ h=>h,fun b o v _ hv =>?_,fun m b aS he=>ev he rfl,fun m blk' l he =>?_,fun m b he=>ev he rfl,fun m b he=>ev he rfl,fun b es ck _ hm=>(hheap b (gb hm)).trans hm⟩
  ·rw[World.cell?_of_block (hheap b (World.block_lt_of_cell? w _ hv))];exact hv
  ·by_cases hm:m=n
   ·subst hm;rw[aw] at he;simp only[t7,bS.rw.injEq] at he;exact ⟨_,_,if_pos rfl,by omega,fun e=>by omega⟩
   ·exact ⟨blk',l,by simp only[if_neg hm];exact he,zz8 _,fun _=>rfl⟩
 have hown:=h.bT n;rw[hn] at hown;obtain ⟨blk1,hb1,hb2,_⟩:=hown;refine ⟨h.sz,h.eT.mono fun B _ hB=>(hheap B (zx7.1 hB).1).trans hB,fun t=>aV.bN hl (h.ef t),h.dQ.trans ⟨rfl,rfl,rfl,by simp,fun k hk=>hheap k (h.old hk)⟩,h.da,fun b o hd'=>by have:=h.dm b o hd';simp;omega,fun m =>?_,?_,fun m e hm =>?_,h.eZ,h.cN,h.fe,h.lC hl⟩
 ·simp only[af.aO];by_cases hm:m=n
  ·subst hm;simp only[if_true,di];refine ⟨some (w.heap.size,cap),by simp,fun e he =>?_,?_⟩
   ·rcases zy6.1 he with he | he
    ·exact hb2 e he
    ·exact hysz e he
   ·refine ⟨cs,pre++news,rest,.inl h.dQ.size,heap_alloc_new w.drew _,hcs,?_,hsize,by simpa using hlen,hcap,fun o ho=>absurd (h.dm _ o ho) (Nat.lt_irrefl _)⟩;exact aL.bN hl _ _ (kL _ _ _ _ hes hys)
  ·simp only[if_neg hm];exact (h.bT m).bN hl (by simp only[if_neg hm]) fun e b he hb=>⟨hheap b (h.fX he hb),fun _ ho=>ho⟩
 ·intro m m' e e' b h1 h2 h3 h4;by_cases hm:m=n <;>by_cases hm':m'=n
  ·rw[hm,hm']
  ·simp only[if_pos hm,t7] at h1;simp only[if_neg hm'] at h2;subst h1;simp only[bS.aE,t7] at h3;have:=h.fX h2 h4;omega
  ·simp only[if_neg hm] at h1;simp only[if_pos hm',t7] at h2;subst h2;simp only[bS.aE,t7] at h4;have:=h.fX h1 h3;omega
  ·simp only[if_neg hm] at h1;simp only[if_neg hm'] at h2;exact h.c4 m m' e e' b h1 h2 h3 h4
 ·by_cases hmn:m=n
  ·subst hmn;rcases h.dV _ _ hm with k | ⟨e',k,hle⟩
   ·rw[aw] at k;cases k
   ·rw[aw] at k;cases k;exact .inr ⟨_,if_pos rfl,hle.trans (.inr ⟨_,_,_,_,rfl,rfl,by omega,fun e=>by omega⟩)⟩
  ·simp only[if_neg hmn];exact h.dV _ _ hm
theorem aU.aj7(h:aU c A a w D E){n:Nat}{T:TypeId}{sz b cap:Nat}{es ys:List I}{pre news rest:List Value}{cs:Array Value}(hn:A.o n=some (.bR T sz es))(aw:E n=some (.rw (some (b,cap)) es.length))(hb:w.heap[b]?=some (.cells cs T (0,0)))
  (hcs:cs.toList=pre++rest) (hes:aL w D E es pre) (hys:aL w D E ys news) (hysz:∀ e∈ys,e.size=sz) (hne:ys≠[]) (hsize:cs.size=cap*sz) (hlen:es.length+ys.length≤cap) (hcap:cap≤maxLen) (hD:∀ o,D b o→o<pre.length) (hbase:c.fo b) :
  aU c (A.aO n (.bR T sz (es++ys))) a (w.setRow b (pre++news++rest.drop news.length).toArray) D (fun m=>if m=n then some (.rw (some (b,cap)) (es.length+ys.length)) else E m):=by
 have hlast:0<ys.length:=List.length_pos_iff.2 hne;have hown:=h.bT n;rw[hn] at hown;obtain ⟨blk1,hb1,hb2,_⟩:=hown;have hnl:news.length=ys.length*sz:=by rw[aL.length _ _ hys,I.iq _ hysz]
 have hpl:pre.length=es.length*sz:=by rw[aL.length _ _ hes,I.iq _ hb2]
 have hl:dS w D E (w.setRow b (pre++news++rest.drop news.length).toArray) D (fun m=>if m=n then some (.rw (some (b,cap)) (es.length+ys.length)) else E m):=by
  have ev:∀ {m:Nat} {e:bS},E m=some e→e.eR=true→(if m=n then some (.rw (some (b,cap)) (es.length+ys.length)) else E m)=some e:=fun {m e} he hfx=>by
   have:m≠n:=fun e=>by rw[e,aw] at he;cases he;cases hfx
   rw[if_neg this];exact he
  refine ⟨fun _ _ h=>h,fun b1 o v ae hv =>?_,fun m b aS he=>ev he rfl,fun m blk' l he =>?_,fun m b he=>ev he rfl,fun m b he=>ev he rfl,fun b1 es ck _ hm=>(setRow_other w b b1 _ (fun e=>by rw[e,hb] at hm;cases hm)).trans hm⟩
  ·by_cases hbb:b1=b
   ·subst hbb;have ho:=hD o ae;have h1:=setRow_heap w b1 cs (pre++news++rest.drop news.length).toArray T _ hb;rw[cell_of_row _ b1 o _ T (0,0) h1];rw[cell_of_row _ b1 o _ T (0,0) hb] at hv;have e1:cs[o]?=pre[o]?:=by rw[←zv6,hcs,zx0 ho]
    rw[←hv,e1];simp only[List.getElem?_toArray,zz5];rw[zx0 ho]
   ·rw[vR _ _ _ _ hbb];exact hv
  ·by_cases hm:m=n
   ·subst hm;rw[aw] at he;simp only[t7,bS.rw.injEq] at he;exact ⟨_,_,if_pos rfl,by omega,fun e=>by omega⟩
   ·exact ⟨blk',l,by simp only[if_neg hm];exact he,zz8 _,fun _=>rfl⟩
 refine ⟨h.sz,h.eT.mono fun B _ hB=>(setRow_other w b B _ (fun e=>by rw[e,hb] at hB;cases hB)).trans hB,fun t=>aV.bN hl (h.ef t),x5 h.dQ hbase _,h.da,fun b1 o ae=>by have:=h.dm b1 o ae;simpa[World.setRow] using this,fun m =>?_,?_,fun m e hm =>?_,h.eZ,h.cN,h.fe,h.lC hl⟩
 ·simp only[af.aO];by_cases hm:m=n
  ·subst hm;simp only[if_true,di];refine ⟨some (b,cap),by simp,fun e he =>?_,?_⟩
   ·rcases zy6.1 he with he | he
    ·exact hb2 e he
    ·exact hysz e he
   ·refine ⟨_,pre++news,rest.drop news.length,hbase,setRow_heap w b cs _ T _ hb,by simp,aL.bN hl _ _ (kL _ _ _ _ hes hys),?_,by simpa using hlen,hcap,fun o ho =>?_⟩
    ·have e1:cs.size=pre.length+rest.length:=by rw[←zv0,hcs,zz7]
     have e2:news.length+pre.length≤cs.size:=by
      rw[hsize,hnl,hpl,←zu1];exact Nat.mul_le_mul_right _ (by omega)
     simp only[List.size_toArray,zz7,zy9];omega
    ·have:=hD o ho;rw[zz7];omega
  ·simp only[if_neg hm];refine (h.bT m).bN hl (by simp only[if_neg hm]) fun e b1 he hb'=>⟨setRow_other w b b1 _ (fun e1=>hm (h.c4 m n e _ b he aw (by rw[hb',e1]) rfl)),fun _ ho=>ho⟩
 ·intro m m' e e' b' h1 h2 h3 h4;by_cases hm:m=n <;>by_cases hm':m'=n
  ·rw[hm,hm']
  ·simp only[if_pos hm,t7] at h1;simp only[if_neg hm'] at h2;subst h1;exact absurd (h.c4 m' n e' _ b' h2 aw h4 h3) hm'
  ·simp only[if_neg hm] at h1;simp only[if_pos hm',t7] at h2;subst h2;exact absurd (h.c4 m n e _ b' h1 aw h3 h4) hm
  ·simp only[if_neg hm] at h1;simp only[if_neg hm'] at h2;exact h.c4 m m' e e' b' h1 h2 h3 h4
 ·by_cases hmn:m=n
  ·subst hmn;rcases h.dV _ _ hm with k | ⟨e',k,hle⟩
   ·rw[aw] at k;cases k
   ·rw[aw] at k;cases k;exact .inr ⟨_,if_pos rfl,hle.trans (.inr ⟨_,_,_,_,rfl,rfl,by omega,fun e=>by omega⟩)⟩
  ·simp only[if_neg hmn];exact h.dV _ _ hm
theorem NH(n:Nat):(Builtin.zeroCells #[Value.int .i64 0] n).toList=(List.replicate n (0:Int)).map (Value.int .i64):=by
 simp only[Builtin.zeroCells,List.size_toArray,List.length_singleton,Nat.mul_one,Nat.mod_one,List.map_replicate];apply List.ext_getElem?;intro k;simp[List.getElem?_replicate];by_cases h:k<n
 ·rw[if_pos h,List.getElem?_range h];rfl
 ·rw[if_neg h,List.getElem?_eq_none (by simpa using h)];rfl
theorem Mh{w:World}{D:aT}{E:aW} : ∀ {xs:List Int} {cs:List Value},aL w D E (xs.map (I.int .i64)) cs→cs=xs.map (Value.int .i64)∧∀ x∈xs,IntKind.i64.min≤x∧x≤IntKind.i64.max
 | [],cs,h=>by
  simp only[zx3,aL] at h;subst h;exact ⟨rfl,by simp⟩
 |x::xs,cs,h=>by
  simp only[zz9,aL] at h;obtain ⟨c1,c2,rfl,h1,h2⟩:=h;obtain ⟨rfl,h3⟩:=Mh h2;have h1':c1=[.int .i64 x]∧IntKind.i64.min≤x∧x≤IntKind.i64.max:=h1;obtain ⟨rfl,h4⟩:=h1';refine ⟨rfl,fun y hy =>?_⟩;rcases zx8.1 hy with rfl | hy
  ·exact h4
  ·exact h3 y hy
theorem aU.D4(h:aU c A a w D E){n:Nat}{T:TypeId}{cap m':Nat}{es ys:List Int}{cs:Array Value}{aE:Option (Nat×Nat)}(hn:A.o n=some (.c5 T es))(aw:E n=some (.rw aE es.length))(hr:∀ x∈es++ys,IntKind.i64.min≤x∧x≤IntKind.i64.max)
  (hne:ys≠[]) (hcs:cs.toList=(es++ys++List.replicate m' 0).map (Value.int .i64)) (hlen:es.length+ys.length+m'=cap) (hcap:cap≤maxLen) :
  aU c (A.aO n (.c5 T (es++ys))) a (w.drew.alloc (.cells cs T)) D (fun m=>if m=n then some (.rw (some (w.heap.size,cap)) (es.length+ys.length)) else E m):=by
 have hlast:0<ys.length:=List.length_pos_iff.2 hne;have hheap:∀ b,b<w.heap.size→(w.drew.alloc (.cells cs T)).heap[b]?=w.heap[b]?:=fun b hb=>Below.heap_alloc w.drew _ b hb;have hl:dS w D E (w.drew.alloc (.cells cs T)) D (fun m=>if m=n then some (.rw (some (w.heap.size,cap)) (es.length+ys.length)) else E m):=by
  have ev:∀ {m:Nat} {e:bS},E m=some e→e.eR=true→(if m=n then some (.rw (some (w.heap.size,cap)) (es.length+ys.length)) else E m)=some e:=fun {m e} he hfx=>by
   have:m≠n:=fun e=>by rw[e,aw] at he;cases he;cases hfx
   rw[if_neg this];exact he
  refine ⟨fun _ _ h=>h,fun b o v _ hv =>?_,fun m b aS he=>ev he rfl,fun m blk' l he =>?_,fun m b he=>ev he rfl,fun m b he=>ev he rfl,fun b es ck _ hm=>(hheap b (gb hm)).trans hm⟩
  ·rw[World.cell?_of_block (hheap b (World.block_lt_of_cell? w _ hv))];exact hv
  ·by_cases hm:m=n
   ·subst hm;rw[aw] at he;simp only[t7,bS.rw.injEq] at he;exact ⟨_,_,if_pos rfl,by omega,fun e=>by omega⟩
   ·exact ⟨blk',l,by simp only[if_neg hm];exact he,zz8 _,fun _=>rfl⟩
 refine ⟨h.sz,h.eT.mono fun B _ hB=>(hheap B (zx7.1 hB).1).trans hB,fun t=>aV.bN hl (h.ef t),h.dQ.trans ⟨rfl,rfl,rfl,by simp,fun k hk=>hheap k (h.old hk)⟩,h.da,fun b o hd'=>by have:=h.dm b o hd';simp;omega,fun m =>?_,?_,fun m e hm =>?_,h.eZ,h.cN,h.fe,h.lC hl⟩
 ·simp only[af.aO];by_cases hm:m=n
  ·subst hm;simp only[if_true,di];exact ⟨some (w.heap.size,cap),by simp,hr,cs,m',.inl h.dQ.size,heap_alloc_new w.drew _,hcs,by simp[hne],by simp only[zz7];exact hlen,hcap,fun o ho=>absurd (h.dm _ o ho) (Nat.lt_irrefl _)⟩
  ·simp only[if_neg hm];exact (h.bT m).bN hl (by simp only[if_neg hm]) fun e b he hb=>⟨hheap b (h.fX he hb),fun _ ho=>ho⟩
 ·intro m m' e e' b h1 h2 h3 h4;by_cases hm:m=n <;>by_cases hm':m'=n
  ·rw[hm,hm']
  ·simp only[if_pos hm,t7] at h1;simp only[if_neg hm'] at h2;subst h1;simp only[bS.aE,t7] at h3;have:=h.fX h2 h4;omega
  ·simp only[if_neg hm] at h1;simp only[if_pos hm',t7] at h2;subst h2;simp only[bS.aE,t7] at h4;have:=h.fX h1 h3;omega
  ·simp only[if_neg hm] at h1;simp only[if_neg hm'] at h2;exact h.c4 m m' e e' b h1 h2 h3 h4
 ·by_cases hmn:m=n
  ·subst hmn;rcases h.dV _ _ hm with k | ⟨e',k,hle⟩
   ·rw[aw] at k;cases k
   ·rw[aw] at k;cases k;exact .inr ⟨_,if_pos rfl,hle.trans (.inr ⟨_,_,_,_,rfl,rfl,by omega,fun e=>by omega⟩)⟩
  ·simp only[if_neg hmn];exact h.dV _ _ hm
theorem aU.aj8(h:aU c A a w D E){n:Nat}{T:TypeId}{b cap m':Nat}{es ys:List Int}{cs:Array Value}(hn:A.o n=some (.c5 T es))(aw:E n=some (.rw (some (b,cap)) es.length))(hb:w.heap[b]?=some (.cells cs T (0,0)))
  (hr:∀ x∈es++ys,IntKind.i64.min≤x∧x≤IntKind.i64.max) (hne:ys≠[]) (hlen:es.length+ys.length+m'=cap) (hcap:cap≤maxLen) (hD:∀ o,¬ D b o) (hbase:c.fo b) :
  aU c (A.aO n (.c5 T (es++ys))) a (w.setRow b ((es++ys++List.replicate m' 0).map (Value.int .i64)).toArray) D (fun m=>if m=n then some (.rw (some (b,cap)) (es.length+ys.length)) else E m):=by
 have hlast:0<ys.length:=List.length_pos_iff.2 hne;have hl:dS w D E (w.setRow b ((es++ys++List.replicate m' 0).map (Value.int .i64)).toArray) D (fun m=>if m=n then some (.rw (some (b,cap)) (es.length+ys.length)) else E m):=by
  have ev:∀ {m:Nat} {e:bS},E m=some e→e.eR=true→(if m=n then some (.rw (some (b,cap)) (es.length+ys.length)) else E m)=some e:=fun {m e} he hfx=>by
   have:m≠n:=fun e=>by rw[e,aw] at he;cases he;cases hfx
   rw[if_neg this];exact he
  refine ⟨fun _ _ h=>h,fun b1 o v ae hv =>?_,fun m b aS he=>ev he rfl,fun m blk' l he =>?_,fun m b he=>ev he rfl,fun m b he=>ev he rfl,fun b1 es ck _ hm=>(setRow_other w b b1 _ (fun e=>by rw[e,hb] at hm;cases hm)).trans hm⟩
  ·by_cases hbb:b1=b
   ·subst hbb;exact absurd ae (hD o)
   ·rw[vR _ _ _ _ hbb];exact hv
  ·by_cases hm:m=n
   ·subst hm;rw[aw] at he;simp only[t7,bS.rw.injEq] at he;exact ⟨_,_,if_pos rfl,by omega,fun e=>by omega⟩
   ·exact ⟨blk',l,by simp only[if_neg hm];exact he,zz8 _,fun _=>rfl⟩
 refine ⟨h.sz,h.eT.mono fun B _ hB=>(setRow_other w b B _ (fun e=>by rw[e,hb] at hB;cases hB)).trans hB,fun t=>aV.bN hl (h.ef t),x5 h.dQ hbase _,h.da,fun b1 o ae=>by have:=h.dm b1 o ae;simpa[World.setRow] using this,fun m =>?_,?_,fun m e hm =>?_,h.eZ,h.cN,h.fe,h.lC hl⟩
 ·simp only[af.aO];by_cases hm:m=n
  ·subst hm;simp only[if_true,di];exact ⟨some (b,cap),by simp,hr,_,m',hbase,setRow_heap w b cs _ T _ hb,by simp,by simp[hne],by simp only[zz7];exact hlen,hcap,hD⟩
  ·simp only[if_neg hm];refine (h.bT m).bN hl (by simp only[if_neg hm]) fun e b1 he hb'=>⟨setRow_other w b b1 _ (fun e1=>hm (h.c4 m n e _ b he aw (by rw[hb',e1]) rfl)),fun _ ho=>ho⟩
 ·intro m m' e e' b' h1 h2 h3 h4;by_cases hm:m=n <;>by_cases hm':m'=n
  ·rw[hm,hm']
  ·simp only[if_pos hm,t7] at h1;simp only[if_neg hm'] at h2;subst h1;exact absurd (h.c4 m' n e' _ b' h2 aw h4 h3) hm'
  ·simp only[if_neg hm] at h1;simp only[if_pos hm',t7] at h2;subst h2;exact absurd (h.c4 m n e _ b' h1 aw h3 h4) hm
  ·simp only[if_neg hm] at h1;simp only[if_neg hm'] at h2;exact h.c4 m m' e e' b' h1 h2 h3 h4
 ·by_cases hmn:m=n
  ·subst hmn;rcases h.dV _ _ hm with k | ⟨e',k,hle⟩
   ·rw[aw] at k;cases k
   ·rw[aw] at k;cases k;exact .inr ⟨_,if_pos rfl,hle.trans (.inr ⟨_,_,_,_,rfl,rfl,by omega,fun e=>by omega⟩)⟩
  ·simp only[if_neg hmn];exact h.dV _ _ hm
end
section
variable {c:cO} {A:af} {o:Oper}
theorem Xf{t e:TypeId}{s x:Operand}{s' x':aM}{n k sz:Nat}{es ys:List I}{z:I}(ho:o.op=.call { callee:=.builtin .append,args := #[s,x],argTypes := #[t,t] })(ht:c.P.underlying t=some (.slice e))(hs':bH c.P t s=some s')(hx':bH c.P t x=some x')
  (hz:gf c.P e=some z) (hzs:z.size=c.P.cellsOf e) (hpos:0<c.P.cellsOf e) (hs:ah A s'=.own n k) (hn:A.o n=some (.bR e (c.P.cellsOf e) es)) (hk:k=es.length) (hx:ah A x'=.slice sz ys) (hsz:sz=c.P.cellsOf e) (hne:ys≠[])
  (h63:es.length+ys.length≤maxLen) (hby:(es.length+ys.length)*c.P.bytesOf e≤140737488355328) (ae:∀ k,o.dst=some k→k<c.n) :
  iw c A o ((A.aO n (.bR e (c.P.cellsOf e) (es++ys))).aP o.dst (.own n (es.length+ys.length))):=by
 intro a w D E hsim;obtain ⟨i,zv,hi,hzv,hzr⟩:=mA hz;have hci:c.P.cellsOf e=i.size:=by simp[Program.cellsOf,hi]
 have hbi:c.P.bytesOf e=i.bytes:=by simp[Program.bytesOf,hi]
 have hzc:zv.cells.size=i.size:=by
  have:=ai.length _ _ (hzr w D E);rw[zv0] at this;rw[this,hzs,hci]
 subst hk;have v1:=ca hsim hs';rw[hs] at v1;have v2:=ca hsim hx';rw[hx] at v2;obtain ⟨ad,cp,hxv,hc1,hc2,hc3,hc4⟩:=n9 v2;obtain ⟨b2,off2,news,rfl,hr2,hys⟩:=hc3.resolve_left hne;have hobj:=hsim.bT n;rw[hn] at hobj;obtain ⟨aE,aw,hesz,hblk⟩:=hobj;have hnl:news.length=ys.length*i.size:=by rw[aL.length _ _ hys,I.iq _ hc4,hsz,hci]
 have hysz:∀ y∈ys,y.size=c.P.cellsOf e:=fun y hy=>by rw[hc4 y hy,hsz]
 have hnews:∀ j v,news[j]?=some v→w.cell? ((⟨b2,off2,none⟩:Addr).add j)=some v:=fun j v hj=>by
  rw[Addr.add_lit];exact (hr2 j v hj).1
 have h1:=aL.mY _ _ hys;have hsv:match aE with | none=>a.eval s=.slice none 0 0 | some (b,cap)=>a.eval s=.slice (some ⟨b,0,none⟩) es.length cap:=by
  obtain ⟨cs,q1,q2⟩:=v1;simp only[ai] at q2;obtain ⟨blk',l,q3,q4,q5,q6⟩:=q2;rw[aw] at q3;simp only[t7,bS.rw.injEq] at q3;obtain ⟨rfl,rfl⟩:=q3;have q7:=q6 rfl;simp only[bM,I.isAgg] at q1;cases aE with
  |none=>simp only at q7 ⊢;rw[q7] at q1;simpa using q1.symm
  |some bc=>simp only at q7 ⊢;rw[q7] at q1;simpa using q1.symm
 have hl0:0<ys.length:=List.length_pos_iff.2 hne;have h63':=h63;simp only[maxLen] at h63';have run:∀ v' w',(Builtin.append_ #[t,t] o.type #[a.eval s,.slice (some ⟨b2,off2,none⟩) ys.length cp]).run c.P w=.ok v' w'→(execOp a.eval o).run c.P w=.ok (.value v') w':=by
  intro v' w' hr;unfold execOp;simp only[ho,resolve,invoke,builtin,Sem.run_bind,Sem.run_pure,Result.andThen_ok,List.map_toArray,zz9,zx3,hxv,hr]
 have put:∀ (w':World) (b cap:Nat) (v':Value),v'=.slice (some ⟨b,0,none⟩) (es.length+ys.length) cap→aU c (A.aO n (.bR e (c.P.cellsOf e) (es++ys))) a w' D (fun m=>if m=n then some (.rw (some (b,cap)) (es.length+ys.length)) else E m) →
   ct c ((A.aO n (.bR e (c.P.cellsOf e) (es++ys))).aP o.dst (.own n (es.length+ys.length))) (a.put o.dst v') w':=by
  rintro w' b cap v' rfl hs2;refine ⟨D,_,hs2.aP ae ⟨_,by simp[bM,I.isAgg];rfl,?_⟩⟩;simp only[ai,if_true];exact ⟨some (b,cap),es.length+ys.length,rfl,zz8 _,⟨_,_,_,rfl⟩,fun _=>rfl⟩
 cases aE with
 |none =>
  simp only at hblk hsv;subst hblk;have hr:=run_append_nil (P:=c.P) w t o.type e i zv ht hi hzv ⟨b2,off2,none⟩ ys.length cp news hnl hnews hl0 (by simp at h63';omega) (by rw[hbi] at hby;simp at hby;omega);rw[←hsv] at hr;have hge:=grownCap_ge w ys.length 0 e;refine ⟨_,.inl ⟨_,run _ _ hr,put _ w.heap.size (grownCap w ys.length 0 e) _ (by simp) ?_⟩⟩;refine hsim.DZ (pre:=[]) (news:=news) (rest:=(Builtin.zeroCells zv.cells (grownCap w ys.length 0 e-ys.length)).toList) hn aw (by simp[aL]) hys hysz hne (by simp) ?_ (by simpa using hge) (grownCap_le_maxLen w ys.length 0 e (by simpa using h63));simp only[Array.size_append,List.size_toArray,size_zeroCells,hzc,hnl,hci,←zu1]
  congr 1
  omega
 |some bc =>
  obtain ⟨b,cap⟩:=bc;simp only at hblk hsv;obtain ⟨cs,pre,rest,k1,k2,k3,k4,k5,k6,k7,k8⟩:=hblk;have hpl:pre.length=es.length*i.size:=by rw[aL.length _ _ k4,I.iq _ hesz,hci]
  by_cases hroom:es.length+ys.length≤cap
  ·have hfit:es.length*i.size+news.length≤cs.size:=by rw[hnl,k5,hci,←zu1];exact Nat.mul_le_mul_right _ hroom
   have hr:=run_append_room (P:=c.P) w t o.type e i ht hi b es.length cap cs k2 ⟨b2,off2,none⟩ ys.length cp news hnl hnews h1 hroom hfit;rw[←hsv] at hr;refine ⟨_,.inl ⟨_,run _ _ hr,put _ b cap _ rfl ?_⟩⟩;have e1:cs.toList.take (es.length*i.size)=pre:=by rw[k3,←hpl];exact List.take_left
   have e2:cs.toList.drop (es.length*i.size+news.length)=rest.drop news.length:=by rw[k3,←hpl,←List.drop_drop,List.drop_left]
   rw[e1,e2];exact hsim.aj7 hn aw k2 k3 k4 hys hysz hne k5 hroom k7 k8 k1
  ·have holds:∀ j v,pre[j]?=some v→w.cell? ((⟨b,0,none⟩:Addr).add j)=some v:=fun j v hj=>by
    rw[Addr.add_lit,zz4,cell_of_row w b j cs e (0,0) k2,←zv6,k3];have:j<pre.length:=(zy4.1 hj).1;rw[zx0 this];exact hj
   have hr:=run_append_grow (P:=c.P) w t o.type e i zv ht hi hzv ⟨b,0,none⟩ es.length cap pre hpl holds ⟨b2,off2,none⟩ ys.length cp news hnl hnews (by omega) (by omega) (growslice_fits (by omega) (by rw[←hbi];exact hby));rw[←hsv] at hr;have hge:=grownCap_ge w (es.length+ys.length) cap e;refine ⟨_,.inl ⟨_,run _ _ hr,put _ w.heap.size (grownCap w (es.length+ys.length) cap e) _ rfl ?_⟩⟩;refine hsim.DZ (pre:=pre) (news:=news) (rest:=(Builtin.zeroCells zv.cells (grownCap w (es.length+ys.length) cap e-(es.length+ys.length))).toList) hn aw k4 hys hysz hne (by simp) ?_ hge (grownCap_le_maxLen w _ cap e h63);simp only[Array.size_append,List.size_toArray,size_zeroCells,hzc,hnl,hpl,hci,←zu1]
   congr 1
   omega
theorem Xg{t e:TypeId}{s x:Operand}{s' x':aM}{n k sz:Nat}{es ys:List Int}(ho:o.op=.call { callee:=.builtin .append,args := #[s,x],argTypes := #[t,t] })(ht:c.P.underlying t=some (.slice e))(hs':bH c.P t s=some s')(hx':bH c.P t x=some x')
  (hz:gf c.P e=some (.int .i64 0)) (h1c:c.P.cellsOf e=1) (hs:ah A s'=.own n k) (hn:A.o n=some (.c5 e es)) (hk:k=es.length) (hx:ah A x'=.slice sz (ys.map (.int .i64))) (hne:ys≠[])
  (h63:es.length+ys.length≤maxLen) (hby:(es.length+ys.length)*c.P.bytesOf e≤140737488355328) (ae:∀ k,o.dst=some k→k<c.n) :
  iw c A o ((A.aO n (.c5 e (es++ys))).aP o.dst (.own n (es.length+ys.length))):=by
 intro a w D E hsim;obtain ⟨i,zv,hi,hzv,hzr⟩:=mA hz;have hci:c.P.cellsOf e=i.size:=by simp[Program.cellsOf,hi]
 have hi1:i.size=1:=hci.symm.trans h1c;have hbi:c.P.bytesOf e=i.bytes:=by simp[Program.bytesOf,hi]
 have hzv2:zv.cells = #[Value.int .i64 0]:=by
  have:zv.cells.toList=[Value.int .i64 0]:=(hzr w D E).1;exact Array.toList_inj.1 this
 subst hk;have v1:=ca hsim hs';rw[hs] at v1;have v2:=ca hsim hx';rw[hx] at v2;obtain ⟨ad,cp,hxv,hc1,hc2,hc3,hc4⟩:=n9 v2;obtain ⟨b2,off2,news,rfl,hr2,hys⟩:=hc3.resolve_left (by simpa using hne);rw[zy3] at hxv;obtain ⟨aE,aw,hesr,hblk⟩:=hsim.r7 hn;obtain ⟨hnw,hyr⟩:=Mh hys;have hnl0:news.length=ys.length:=by rw[hnw,zy3]
 have hnl:news.length=ys.length*i.size:=by rw[hi1,Nat.mul_one,hnl0]
 have hrr:∀ x∈es++ys,IntKind.i64.min≤x∧x≤IntKind.i64.max:=fun x hx=>by
  rcases zy6.1 hx with h | h
  ·exact hesr x h
  ·exact hyr x h
 have hnews:∀ j v,news[j]?=some v→w.cell? ((⟨b2,off2,none⟩:Addr).add j)=some v:=fun j v hj=>by
  rw[Addr.add_lit];exact (hr2 j v hj).1
 have h1:=aL.mY _ _ hys;have hsv:match aE with | none=>a.eval s=.slice none 0 0 | some (b,cap)=>a.eval s=.slice (some ⟨b,0,none⟩) es.length cap:=by
  obtain ⟨cs,q1,q2⟩:=v1;simp only[ai] at q2;obtain ⟨blk',l,q3,q4,q5,q6⟩:=q2;rw[aw] at q3;simp only[t7,bS.rw.injEq] at q3;obtain ⟨rfl,rfl⟩:=q3;have q7:=q6 rfl;simp only[bM,I.isAgg] at q1;cases aE with
  |none=>simp only at q7 ⊢;rw[q7] at q1;simpa using q1.symm
  |some bc=>simp only at q7 ⊢;rw[q7] at q1;simpa using q1.symm
 have hl0:0<ys.length:=List.length_pos_iff.2 hne;have h63':=h63;simp only[maxLen] at h63';have run:∀ v' w',(Builtin.append_ #[t,t] o.type #[a.eval s,.slice (some ⟨b2,off2,none⟩) ys.length cp]).run c.P w=.ok v' w'→(execOp a.eval o).run c.P w=.ok (.value v') w':=by
  intro v' w' hr;unfold execOp;simp only[ho,resolve,invoke,builtin,Sem.run_bind,Sem.run_pure,Result.andThen_ok,List.map_toArray,zz9,zx3,hxv,hr]
 have put:∀ (w':World) (b cap:Nat) (v':Value),v'=.slice (some ⟨b,0,none⟩) (es.length+ys.length) cap→aU c (A.aO n (.c5 e (es++ys))) a w' D (fun m=>if m=n then some (.rw (some (b,cap)) (es.length+ys.length)) else E m) →
   ct c ((A.aO n (.c5 e (es++ys))).aP o.dst (.own n (es.length+ys.length))) (a.put o.dst v') w':=by
  rintro w' b cap v' rfl hs2;refine ⟨D,_,hs2.aP ae ⟨_,by simp[bM,I.isAgg];rfl,?_⟩⟩;simp only[ai,if_true];exact ⟨some (b,cap),es.length+ys.length,rfl,zz8 _,⟨_,_,_,rfl⟩,fun _=>rfl⟩
 cases aE with
 |none =>
  simp only at hblk hsv;subst hblk;have hr:=run_append_nil (P:=c.P) w t o.type e i zv ht hi hzv ⟨b2,off2,none⟩ ys.length cp news hnl hnews hl0 (by simp at h63';omega) (by rw[hbi] at hby;simp at hby;omega);rw[←hsv] at hr;have hge:=grownCap_ge w ys.length 0 e;refine ⟨_,.inl ⟨_,run _ _ hr,put _ w.heap.size (grownCap w ys.length 0 e) _ (by simp) ?_⟩⟩;refine hsim.D4 (m':=grownCap w ys.length 0 e-ys.length) hn aw hrr hne ?_ (by simp;omega) (grownCap_le_maxLen w ys.length 0 e (by simpa using h63));rw[hzv2];simp only[Array.toList_append,NH,zy7,zx4,hnw]
 |some bc =>
  obtain ⟨b,cap⟩:=bc;simp only at hblk hsv;obtain ⟨cs,m,k1,k2,k3,k4,k5,k6,k7⟩:=hblk;have hcz:cs.size=cap:=by rw[←zv0,k3];simp;omega
  by_cases hroom:es.length+ys.length≤cap
  ·have hfit:es.length*i.size+news.length≤cs.size:=by rw[hnl,hi1];omega
   have hr:=run_append_room (P:=c.P) w t o.type e i ht hi b es.length cap cs k2 ⟨b2,off2,none⟩ ys.length cp news hnl hnews h1 hroom hfit;rw[←hsv] at hr;refine ⟨_,.inl ⟨_,run _ _ hr,put _ b cap _ rfl ?_⟩⟩;have e0:cs.toList.take (es.length*i.size)++news++cs.toList.drop (es.length*i.size+news.length)=(es++ys++List.replicate (m-ys.length) 0).map (Value.int .i64):=by
    rw[hi1,Nat.mul_one,hnl0,k3,hnw,←List.map_take,←List.map_drop,List.take_left,←List.drop_drop,List.drop_left];simp only[zx4,List.drop_replicate]
   rw[e0];exact hsim.aj8 (m':=m-ys.length) hn aw k2 hrr hne (by omega) k6 k7 k1
  ·have hpl:(es.map (Value.int .i64)).length=es.length*i.size:=by rw[hi1];simp
   have holds:∀ j v,(es.map (Value.int .i64))[j]?=some v→w.cell? ((⟨b,0,none⟩:Addr).add j)=some v:=fun j v hj=>by
    rw[Addr.add_lit,zz4,cell_of_row w b j cs e (0,0) k2,←zv6,k3];have:j<(es.map (Value.int .i64)).length:=(zy4.1 hj).1;rw[zx4,zx0 this];exact hj
   have hr:=run_append_grow (P:=c.P) w t o.type e i zv ht hi hzv ⟨b,0,none⟩ es.length cap (es.map (Value.int .i64)) hpl holds ⟨b2,off2,none⟩ ys.length cp news hnl hnews (by omega) (by omega) (growslice_fits (by omega) (by rw[←hbi];exact hby));rw[←hsv] at hr;have hge:=grownCap_ge w (es.length+ys.length) cap e;refine ⟨_,.inl ⟨_,run _ _ hr,put _ w.heap.size (grownCap w (es.length+ys.length) cap e) _ rfl ?_⟩⟩;refine hsim.D4 (m':=grownCap w (es.length+ys.length) cap e-(es.length+ys.length)) hn aw hrr hne ?_ (by omega) (grownCap_le_maxLen w _ cap e h63);rw[hzv2];simp only[Array.toList_append,NH,zx4,hnw]
end
mutual
def I.only(p:Nat→Bool):I→Bool
 | .agg fs | .tuple fs=>I.bZ p fs
 | .slice _ es=>I.bZ p es
 | .ref x=>x.only p
 | .func _ caps=>I.bZ p caps
 | .iface _ v=>v.only p
 | .ptr n _ | .own n _ | .view n _ _ _ _ | .mref n | .dx n=>p n
 | .cM ks vs=>I.bZ p ks&&I.bZ p vs
 |_=>true
def I.bZ(p:Nat→Bool):List I→Bool
 | []=>true
 |x::xs=>x.only p&&I.bZ p xs
end
mutual
theorem kc(p:Nat→Bool):∀ x:I,x.bj=true→x.only p=true
 | .agg fs,h=>by simp only[I.bj,I.only] at *;exact kI p fs h
 | .slice _ es,h=>by simp only[I.bj,I.only] at *;exact kI p es h
 | .ref x,h=>by simp only[I.bj,I.only] at *;exact kc p x h
 | .func _ caps,h=>by simp only[I.bj,I.only] at *;exact kI p caps h
 | .iface _ v,h=>by simp only[I.bj,I.only] at *;exact kc p v h
 | .bool _,_ | .int _ _,_ | .c6 _,_ | .nilp,_ | .dh,_ | .dW,_ | .raw _,_ | .nils _,_ | .c0 _,_=>by simp[I.only]
 | .cM ks vs,h=>by simp only[I.bj,I.only,zz3] at *;exact ⟨kI p ks h.1,kI p vs h.2⟩
 | .ptr _ _,h | .own _ _,h | .view _ _ _ _ _,h | .mref _,h | .dx _,h | .undef,h | .de,h | .tuple _,h=>by simp[I.bj] at h
theorem kI(p:Nat→Bool):∀ xs:List I,I.bU xs=true→I.bZ p xs=true
 | [],_=>rfl
 |x::xs,h=>by
  simp only[I.bU,I.bZ,zz3] at *;exact ⟨kc p x h.1,kI p xs h.2⟩
end
mutual
theorem ai.dF{w:World}{D:aT}{E E':aW}{p:Nat→Bool}(aw:∀ n,p n=true→E' n=E n):∀ (x:I) (cs:List Value),x.only p=true→ai w D E x cs→ai w D E' x cs
 | .agg fs,cs,ho,hr=>by simp only[ai,I.only] at *;exact aL.dF aw fs cs ho hr
 | .bool b,cs,_,hr=>by simpa only[ai] using hr
 | .int k n,cs,_,hr=>by simpa only[ai] using hr
 | .c6 s,cs,_,hr=>by simpa only[ai] using hr
 | .nilp,cs,_,hr=>by simpa only[ai] using hr
 | .dh,cs,_,hr=>by simpa only[ai] using hr
 | .dW,cs,_,hr=>by simpa only[ai] using hr
 | .raw _,cs,_,hr=>by simpa only[ai] using hr
 | .nils _,cs,_,hr=>by simpa only[ai] using hr
 | .c0 _,cs,_,hr=>by simpa only[ai] using hr
 | .slice sz es,cs,ho,hr=>by
  simp only[ai,I.only] at *;obtain ⟨a,cap,h1,h2,h3,h4,h5⟩:=hr;refine ⟨a,cap,h1,h2,h3,?_,h5⟩;rcases h4 with h4 | ⟨b,off,cs',h6,h7,h8⟩
  ·exact .inl h4
  ·exact .inr ⟨b,off,cs',h6,h7,aL.dF aw es cs' ho h8⟩
 | .ref x,cs,ho,hr=>by
  simp only[ai,I.only] at *;obtain ⟨b,off,cs',h1,h2,h3⟩:=hr;exact ⟨b,off,cs',h1,h2,ai.dF aw x cs' ho h3⟩
 | .func f caps,cs,ho,hr=>by
  simp only[ai,I.only] at *;obtain ⟨vs,h1,h2⟩:=hr;exact ⟨vs,h1,aJ.dF aw caps vs ho h2⟩
 | .iface t v,cs,ho,hr=>by
  simp only[ai,I.only] at *;obtain ⟨u,cs',h1,h2,h3⟩:=hr;exact ⟨u,cs',h1,h2,ai.dF aw v cs' ho h3⟩
 | .ptr n p,cs,ho,hr=>by
  simp only[ai,I.only] at *;obtain ⟨b,aS,off,h1,h2⟩:=hr;exact ⟨b,aS,off,(aw n ho).trans h1,h2⟩
 | .own n k,cs,ho,hr=>by
  simp only[ai,I.only] at *;obtain ⟨aE,l,h1,h2⟩:=hr;exact ⟨aE,l,(aw n ho).trans h1,h2⟩
 | .view n p _ _ _,cs,ho,hr=>by
  simp only[ai,I.only] at *;obtain ⟨b,aS,off,l,h1,h2⟩:=hr;exact ⟨b,aS,off,l,(aw n ho).trans h1,h2⟩
 | .mref n,cs,ho,hr=>by
  simp only[ai,I.only] at *;obtain ⟨b,h1,h2⟩:=hr;exact ⟨b,(aw n ho).trans h1,h2⟩
 | .dx n,cs,ho,hr=>by
  simp only[ai,I.only] at *;obtain ⟨b,h1,h2⟩:=hr;exact ⟨b,(aw n ho).trans h1,h2⟩
 | .cM ks vs,cs,ho,hr=>by
  simp only[ai,I.only,zz3] at *;obtain ⟨b,es,ck,h1,h2,h3,h4⟩:=hr;exact ⟨b,es,ck,h1,h2,aJ.dF aw ks _ ho.1 h3,aJ.dF aw vs _ ho.2 h4⟩
 | .undef,_,_,hr=>by simp only[ai] at hr
 | .de,_,_,hr=>by simp only[ai] at hr
 | .tuple _,_,_,hr=>by simp only[ai] at hr
theorem aL.dF{w:World}{D:aT}{E E':aW}{p:Nat→Bool}(aw:∀ n,p n=true→E' n=E n):∀ (xs:List I) (cs:List Value),I.bZ p xs=true→aL w D E xs cs→aL w D E' xs cs
 | [],cs,_,hr=>by simpa only[aL] using hr
 |x::xs,cs,ho,hr=>by
  simp only[aL,I.bZ,zz3] at *;obtain ⟨c1,c2,h1,h2,h3⟩:=hr;exact ⟨c1,c2,h1,ai.dF aw x c1 ho.1 h2,aL.dF aw xs c2 ho.2 h3⟩
theorem aJ.dF{w:World}{D:aT}{E E':aW}{p:Nat→Bool}(aw:∀ n,p n=true→E' n=E n):∀ (xs:List I) (vs:List Value),I.bZ p xs=true→aJ w D E xs vs→aJ w D E' xs vs
 | [],vs,_,hr=>by simpa only[aJ] using hr
 |x::xs,vs,ho,hr=>by
  simp only[aJ,I.bZ,zz3] at *;obtain ⟨v,rest,cs,h1,h2,h3,h4⟩:=hr;exact ⟨v,rest,cs,h1,h2,ai.dF aw x cs ho.1 h3,aJ.dF aw xs rest ho.2 h4⟩
end
theorem aV.dF{w:World}{D:aT}{E E':aW}{p:Nat→Bool}(aw:∀ n,p n=true→E' n=E n){x:I}{v:Value}(ho:x.only p=true)(hr:aV w D E x v):aV w D E' x v:=by
 cases x <;>simp only[aV] at * <;>first
  |exact hr
  |(obtain ⟨vs,h1,h2⟩:=hr;exact ⟨vs,h1,aJ.dF aw _ _ (by simpa[I.only] using ho) h2⟩)
  |(obtain ⟨cs,h1,h2⟩:=hr;exact ⟨cs,h1,ai.dF aw _ _ ho h2⟩)
def aj.only(p:Nat→Bool):aj→Bool
 | .box x=>x.only p
 | .bR _ _ es=>I.bZ p es
 | .dO _=>true
 | .c5 _ _=>true
 | .cC ks vs | .it ks vs _ _=>I.bZ p ks&&I.bZ p vs
def bD:List (Nat×Nat)→Nat→Nat
 | [],n=>n
 |(a,b)::r,n=>if n=a then b else bD r n
mutual
def I.aQ(ρ:Nat→Nat):I→I
 | .agg fs=>.agg (I.cR ρ fs)
 | .tuple fs=>.tuple (I.cR ρ fs)
 | .slice sz es=>.slice sz (I.cR ρ es)
 | .ref x=>.ref (x.aQ ρ)
 | .func f caps=>.func f (I.cR ρ caps)
 | .iface t v=>.iface t (v.aQ ρ)
 | .ptr n p=>.ptr (ρ n) p
 | .own n k=>.own (ρ n) k
 | .view n p sz lo k=>.view (ρ n) p sz lo k
 | .mref n=>.mref (ρ n)
 | .dx n=>.dx (ρ n)
 | .cM ks vs=>.cM (I.cR ρ ks) (I.cR ρ vs)
 | .undef=>.undef | .de=>.de | .bool b=>.bool b | .int k n=>.int k n | .c6 s=>.c6 s
 | .nilp=>.nilp | .dh=>.dh | .dW=>.dW | .raw u=>.raw u | .nils z=>.nils z | .c0 z=>.c0 z
def I.cR(ρ:Nat→Nat):List I→List I
 | []=>[]
 |x::xs=>x.aQ ρ::I.cR ρ xs
end
def aj.aQ(ρ:Nat→Nat):aj→aj
 | .box x=>.box (x.aQ ρ)
 | .bR T sz es=>.bR T sz (I.cR ρ es)
 | .dO x=>.dO x
 | .c5 T xs=>.c5 T xs
 | .cC ks vs=>.cC (I.cR ρ ks) (I.cR ρ vs)
 | .it ks vs left cur=>.it (I.cR ρ ks) (I.cR ρ vs) left cur
mutual
theorem rU(ρ:Nat→Nat):∀ x:I,(x.aQ ρ).size=x.size
 | .agg fs=>by simp only[I.aQ,I.size];exact Mt ρ fs
 | .undef | .de | .bool _ | .int _ _ | .c6 _ | .nilp | .dh | .dW | .raw _ | .nils _ | .c0 _ | .slice _ _ | .tuple _ | .ref _ | .func _ _ | .iface _ _ | .ptr _ _ | .own _ _ | .view _ _ _ _ _ | .mref _ | .dx _ | .cM _ _=>by simp only[I.aQ,I.size]
theorem Mt(ρ:Nat→Nat):∀ xs:List I,I.sizes (I.cR ρ xs)=I.sizes xs
 | []=>rfl
 |x::xs=>by simp only[I.cR,I.sizes,rU ρ x,Mt ρ xs]
end
mutual
theorem y7(ρ:Nat→Nat):∀ x:I,(x.aQ ρ).aS=x.aS
 | .agg fs=>by simp only[I.aQ,I.aS,cW.ej.injEq];exact Ms ρ fs
 | .undef | .de | .bool _ | .int _ _ | .c6 _ | .nilp | .dh | .dW | .raw _ | .nils _ | .c0 _ | .slice _ _ | .tuple _ | .ref _ | .func _ _ | .iface _ _ | .ptr _ _ | .own _ _ | .view _ _ _ _ _ | .mref _ | .dx _ | .cM _ _=>by simp only[I.aQ,I.aS]
theorem Ms(ρ:Nat→Nat):∀ xs:List I,I.cU (I.cR ρ xs)=I.cU xs
 | []=>rfl
 |x::xs=>by simp only[I.cR,I.cU,y7 ρ x,Ms ρ xs]
end
theorem akV(ρ:Nat→Nat)(x:I):(x.aQ ρ).isAgg=x.isAgg:=by cases x <;>simp[I.aQ,I.isAgg]
theorem pb(ρ:Nat→Nat)(xs:List I):I.cR ρ xs=xs.map (I.aQ ρ):=by
 induction xs with
 |nil=>rfl
 |cons x xs ih=>simp[I.cR,ih]
theorem rV(ρ:Nat→Nat)(xs:List I):(I.cR ρ xs).length=xs.length:=by rw[pb];simp
theorem Mo(ρ:Nat→Nat)(x:I)(v:Value)(cs:List Value):bM (x.aQ ρ) v cs=bM x v cs:=by simp only[bM,akV]
mutual
/-- A value,its names put for others that stand for the same. -/
theorem ai.aQ{w:World}{D:aT}{E E':aW}{p:Nat→Bool}{ρ:Nat→Nat}(aw:∀ n,p n=true→E' (ρ n)=E n):∀ (x:I) (cs:List Value),x.only p=true→(ai w D E' (x.aQ ρ) cs↔ai w D E x cs)
 | .agg fs,cs,ho=>by simp only[ai,I.aQ,I.only] at *;exact aL.aQ aw fs cs ho
 | .bool b,cs,_ | .int k n,cs,_ | .c6 s,cs,_ | .nilp,cs,_ | .dh,cs,_ | .dW,cs,_ | .raw _,cs,_ | .nils _,cs,_ | .c0 _,cs,_ | .undef,cs,_ | .de,cs,_ | .tuple _,cs,_=>by simp only[ai,I.aQ]
 | .slice sz es,cs,ho=>by
  simp only[ai,I.aQ,I.only,rV] at *;have e1:(I.cR ρ es=[])↔es=[]:=by rw[←zv4,rV,zv4]
  have e2:(∀ e∈I.cR ρ es,e.size=sz)↔∀ e∈es,e.size=sz:=by
   rw[pb];constructor
   ·intro h e he;rw[←rU ρ e];exact h _ (zx2.2 ⟨e,he,rfl⟩)
   ·intro h e he;obtain ⟨e',he',rfl⟩:=zx2.1 he;rw[rU];exact h _ he'
  simp only[e1,e2];constructor
  ·rintro ⟨a,cap,h1,h2,h3,h4,h5⟩;refine ⟨a,cap,h1,h2,h3,?_,h5⟩;rcases h4 with h4 | ⟨b,off,cs',h6,h7,h8⟩
   ·exact .inl h4
   ·exact .inr ⟨b,off,cs',h6,h7,(aL.aQ aw es cs' ho).1 h8⟩
  ·rintro ⟨a,cap,h1,h2,h3,h4,h5⟩;refine ⟨a,cap,h1,h2,h3,?_,h5⟩;rcases h4 with h4 | ⟨b,off,cs',h6,h7,h8⟩
   ·exact .inl h4
   ·exact .inr ⟨b,off,cs',h6,h7,(aL.aQ aw es cs' ho).2 h8⟩
 | .ref x,cs,ho=>by
  simp only[ai,I.aQ,I.only] at *;constructor
  ·rintro ⟨b,off,cs',h1,h2,h3⟩;exact ⟨b,off,cs',h1,h2,(ai.aQ aw x cs' ho).1 h3⟩
  ·rintro ⟨b,off,cs',h1,h2,h3⟩;exact ⟨b,off,cs',h1,h2,(ai.aQ aw x cs' ho).2 h3⟩
 | .func f caps,cs,ho=>by
  simp only[ai,I.aQ,I.only] at *;constructor
  ·rintro ⟨vs,h1,h2⟩;exact ⟨vs,h1,(aJ.aQ aw caps vs ho).1 h2⟩
  ·rintro ⟨vs,h1,h2⟩;exact ⟨vs,h1,(aJ.aQ aw caps vs ho).2 h2⟩
 | .iface t v,cs,ho=>by
  simp only[ai,I.aQ,I.only,Mo] at *;constructor
  ·rintro ⟨u,cs',h1,h2,h3⟩;exact ⟨u,cs',h1,h2,(ai.aQ aw v cs' ho).1 h3⟩
  ·rintro ⟨u,cs',h1,h2,h3⟩;exact ⟨u,cs',h1,h2,(ai.aQ aw v cs' ho).2 h3⟩
 | .ptr n p,cs,ho=>by simp only[ai,I.aQ,I.only] at *;rw[aw n ho]
 | .own n k,cs,ho=>by simp only[ai,I.aQ,I.only] at *;rw[aw n ho]
 | .view n p _ _ _,cs,ho=>by simp only[ai,I.aQ,I.only] at *;rw[aw n ho]
 | .mref n,cs,ho=>by simp only[ai,I.aQ,I.only] at *;rw[aw n ho]
 | .dx n,cs,ho=>by simp only[ai,I.aQ,I.only] at *;rw[aw n ho]
 | .cM ks vs,cs,ho=>by
  simp only[ai,I.aQ,I.only,zz3] at *;constructor
  ·rintro ⟨b,es,ck,h1,h2,h3,h4⟩;exact ⟨b,es,ck,h1,h2,(aJ.aQ aw ks _ ho.1).1 h3,(aJ.aQ aw vs _ ho.2).1 h4⟩
  ·rintro ⟨b,es,ck,h1,h2,h3,h4⟩;exact ⟨b,es,ck,h1,h2,(aJ.aQ aw ks _ ho.1).2 h3,(aJ.aQ aw vs _ ho.2).2 h4⟩
theorem aL.aQ{w:World}{D:aT}{E E':aW}{p:Nat→Bool}{ρ:Nat→Nat}(aw:∀ n,p n=true→E' (ρ n)=E n):∀ (xs:List I) (cs:List Value),I.bZ p xs=true→(aL w D E' (I.cR ρ xs) cs↔aL w D E xs cs)
 | [],cs,_=>by simp only[aL,I.cR]
 |x::xs,cs,ho=>by
  simp only[aL,I.cR,I.bZ,zz3] at *;constructor
  ·rintro ⟨c1,c2,h1,h2,h3⟩;exact ⟨c1,c2,h1,(ai.aQ aw x c1 ho.1).1 h2,(aL.aQ aw xs c2 ho.2).1 h3⟩
  ·rintro ⟨c1,c2,h1,h2,h3⟩;exact ⟨c1,c2,h1,(ai.aQ aw x c1 ho.1).2 h2,(aL.aQ aw xs c2 ho.2).2 h3⟩
theorem aJ.aQ{w:World}{D:aT}{E E':aW}{p:Nat→Bool}{ρ:Nat→Nat}(aw:∀ n,p n=true→E' (ρ n)=E n):∀ (xs:List I) (vs:List Value),I.bZ p xs=true→(aJ w D E' (I.cR ρ xs) vs↔aJ w D E xs vs)
 | [],vs,_=>by simp only[aJ,I.cR]
 |x::xs,vs,ho=>by
  simp only[aJ,I.cR,I.bZ,zz3,Mo] at *;constructor
  ·rintro ⟨v,rest,cs,h1,h2,h3,h4⟩;exact ⟨v,rest,cs,h1,h2,(ai.aQ aw x cs ho.1).1 h3,(aJ.aQ aw xs rest ho.2).1 h4⟩
  ·rintro ⟨v,rest,cs,h1,h2,h3,h4⟩;exact ⟨v,rest,cs,h1,h2,(ai.aQ aw x cs ho.1).2 h3,(aJ.aQ aw xs rest ho.2).2 h4⟩
end
theorem aV.aQ{w:World}{D:aT}{E E':aW}{p:Nat→Bool}{ρ:Nat→Nat}(aw:∀ n,p n=true→E' (ρ n)=E n){x:I}{v:Value}(ho:x.only p=true):aV w D E' (x.aQ ρ) v↔aV w D E x v:=by
 cases x <;>first
  |(simp only[aV,I.aQ];done)
  |(simp only[aV,I.aQ,I.only] at ho ⊢
    constructor
    ·rintro ⟨vs,h1,h2⟩;exact ⟨vs,h1,(aJ.aQ aw _ _ ho).1 h2⟩
    ·rintro ⟨vs,h1,h2⟩;exact ⟨vs,h1,(aJ.aQ aw _ _ ho).2 h2⟩)
  |(have key:=fun x cs=>ai.aQ (w:=w) (D:=D) aw x cs
    refine exists_congr fun cs=>and_congr ?_ ?_
    ·first | exact Iff.rfl | simp only[bM,I.aQ,I.isAgg]
    ·first | exact key _ cs ho | (have h:=key _ cs ho;simpa only[I.aQ] using h))
mutual
/-- Values that read no memory: but they may name objects. -/
def I.c8:I→Bool
 | .agg fs | .tuple fs=>I.jk fs
 | .func _ caps=>I.jk caps
 | .iface _ v=>v.c8
 | .slice _ es=>es.isEmpty
 | .ref _ | .cM _ _=>false
 |_=>true
def I.jk:List I→Bool
 | []=>true
 |x::xs=>x.c8&&I.jk xs
end
def aj.c8:aj→Bool
 | .box x=>x.c8
 | .bR _ _ es=>I.jk es
 | .c5 _ _=>true
 | .dO _=>true
 | .cC ks vs=>I.jk ks&&I.jk vs
 | .it .. =>false
mutual
theorem ai.c8{w w':World}{D D':aT}{E:aW} : ∀ (x:I) (cs:List Value),x.c8=true→ai w D E x cs→ai w' D' E x cs
 | .agg fs,cs,hf,hr=>by simp only[ai,I.c8] at *;exact aL.c8 fs cs hf hr
 | .bool b,cs,_,hr | .int k n,cs,_,hr | .c6 s,cs,_,hr | .nilp,cs,_,hr | .dh,cs,_,hr | .dW,cs,_,hr | .raw _,cs,_,hr | .nils _,cs,_,hr | .c0 _,cs,_,hr
 | .ptr _ _,cs,_,hr | .own _ _,cs,_,hr | .view _ _ _ _ _,cs,_,hr | .mref _,cs,_,hr | .dx _,cs,_,hr=>by simpa only[ai] using hr
 | .func f caps,cs,hf,hr=>by
  simp only[ai,I.c8] at *;obtain ⟨vs,h1,h2⟩:=hr;exact ⟨vs,h1,aJ.c8 caps vs hf h2⟩
 | .iface t v,cs,hf,hr=>by
  simp only[ai,I.c8] at *;obtain ⟨u,cs',h1,h2,h3⟩:=hr;exact ⟨u,cs',h1,h2,ai.c8 v cs' hf h3⟩
 | .slice sz es,cs,hf,hr=>by
  simp only[ai,I.c8,List.isEmpty_iff] at *;subst hf;obtain ⟨a,cap,h1,h2,h3,_,h5⟩:=hr;exact ⟨a,cap,h1,h2,h3,.inl rfl,h5⟩
 | .ref _,_,hf,_ | .cM _ _,_,hf,_=>by simp[I.c8] at hf
 | .undef,_,_,hr | .de,_,_,hr | .tuple _,_,_,hr=>by simp only[ai] at hr
theorem aL.c8{w w':World}{D D':aT}{E:aW} : ∀ (xs:List I) (cs:List Value),I.jk xs=true→aL w D E xs cs→aL w' D' E xs cs
 | [],cs,_,hr=>by simpa only[aL] using hr
 |x::xs,cs,hf,hr=>by
  simp only[aL,I.jk,zz3] at *;obtain ⟨c1,c2,h1,h2,h3⟩:=hr;exact ⟨c1,c2,h1,ai.c8 x c1 hf.1 h2,aL.c8 xs c2 hf.2 h3⟩
theorem aJ.c8{w w':World}{D D':aT}{E:aW} : ∀ (xs:List I) (vs:List Value),I.jk xs=true→aJ w D E xs vs→aJ w' D' E xs vs
 | [],vs,_,hr=>by simpa only[aJ] using hr
 |x::xs,vs,hf,hr=>by
  simp only[aJ,I.jk,zz3] at *;obtain ⟨v,rest,cs,h1,h2,h3,h4⟩:=hr;exact ⟨v,rest,cs,h1,h2,ai.c8 x cs hf.1 h3,aJ.c8 xs rest hf.2 h4⟩
end
theorem aV.c8{w w':World}{D D':aT}{E:aW}{x:I}{v:Value}(hf:x.c8=true)(hr:aV w D E x v):aV w' D' E x v:=by
 cases x <;>simp only[aV] at * <;>first
  |exact hr
  |(obtain ⟨vs,h1,h2⟩:=hr;exact ⟨vs,h1,aJ.c8 _ _ (by simpa[I.c8] using hf) h2⟩)
  |(obtain ⟨cs,h1,h2⟩:=hr;exact ⟨cs,h1,ai.c8 _ _ hf h2⟩)
def dL(ρ:List (Nat×Nat))(os:List (Nat×aj)):List (Nat×aj):=os.map fun q=>(bD ρ q.1,q.2.aQ (bD ρ))
def pre(ρ:List (Nat×Nat))(os:List (Nat×aj))(n:Nat):Option Nat:=(os.find? fun q=>bD ρ q.1==n).map (·.1)
theorem x1{os:List (Nat×aj)}{m:Nat} : av os m=true↔∃ q∈os,q.1=m:=by
 induction os with
 |nil=>simp[av,ak]
 |cons q os ih =>
  obtain ⟨k,v⟩:=q;simp only[av,ak] at *;by_cases h:m=k
  ·subst h;simp
  ·simp only[if_neg h,ih,zx8,Prod.exists,exists_and_right,exists_eq_right];constructor
   ·rintro ⟨a,b⟩;exact ⟨a,.inr b⟩
   ·rintro ⟨a,b | b⟩
    ·cases b;exact absurd rfl h
    ·exact ⟨a,b⟩
theorem mi{ρ:List (Nat×Nat)}{os:List (Nat×aj)}{n m:Nat}(h:pre ρ os n=some m):av os m=true∧bD ρ m=n:=by
 simp only[pre,zz1] at h;obtain ⟨q,hq,rfl⟩:=h;exact ⟨x1.2 ⟨q,List.mem_of_find?_eq_some hq,rfl⟩,by simpa using List.find?_some hq⟩
theorem yO{ρ:List (Nat×Nat)}{os:List (Nat×aj)}{n m:Nat}(h:pre ρ os n=none)(hm:av os m=true):bD ρ m≠n:=by
 simp only[pre,Option.map_eq_none_iff,List.find?_eq_none] at h;obtain ⟨q,hq,rfl⟩:=x1.1 hm;simpa using h q hq
theorem rE(ρ:List (Nat×Nat))(os os0:List (Nat×aj))(n:Nat):ak (dL ρ os++os0) n=match pre ρ os n with
  |some m=>(ak os m).map (aj.aQ (bD ρ))
  |none=>ak os0 n:=by
 induction os with
 |nil=>simp[dL,pre]
 |cons q os ih =>
  obtain ⟨k,v⟩:=q;simp only[dL,zz9,zy1,ak,pre,List.find?_cons] at *;by_cases h:bD ρ k=n
  ·subst h;simp
  ·rw[if_neg (Ne.symm h)];have hb:(bD ρ k==n)=false:=by simpa using h
   rw[hb,ih];simp only;cases hf:os.find? (fun q=>bD ρ q.1==n) with
   |none=>rfl
   |some q =>
    simp only[zy5];have hq:=List.find?_some hf;have hne:q.1≠k:=fun e=>h (by rw[←e];simpa using hq);rw[if_neg hne]
def aw(ρ:List (Nat×Nat))(os:List (Nat×aj))(E:aW):aW:=fun n=>if av os n then E (bD ρ n) else none
structure gh (ρ:List (Nat×Nat)) (os os0:List (Nat×aj)):Prop where
 dp:∀ m x,ak os m=some x→ak os0 (bD ρ m)=some (x.aQ (bD ρ))∧x.only (av os)=true∧x.eR=true
 inj:∀ m m',av os m=true→av os m'=true→bD ρ m=bD ρ m'→m=m'
structure eK (aD:Bool) (ρ:List (Nat×Nat)) (os os0:List (Nat×aj)) (r:I) (os':List (Nat×aj)):Prop where
 dp:∀ m x,ak os' m=some x→x.only (av os')=true∧x.eR=true∧(aD=true→x.c8=true)
 inj:∀ m m',av os' m=true→av os' m'=true→bD ρ m=bD ρ m'→m=m'
 old:∀ m,av os m=true→av os' m=true
 qh:∀ m,av os' m=true→av os m=false→ak os0 (bD ρ m)=none∧bD ρ m<1000000
 y8:r.only (av os')=true∧(aD=true→r.c8=true)
section
variable {c:cO} {a:Act} {w:World} {D:aT} {E:aW} {ts:List (Nat×I)} {os0 os:List (Nat×aj)} {ρ:List (Nat×Nat)}
theorem aU.given(hs:aU c (au ts os0) a w D E)(hg:gh ρ os os0){m:Nat}(hm:av os m=true):∃ x e,ak os m=some x∧aw ρ os E m=some e∧E (bD ρ m)=some e∧di (fun _=>True) w D (aw ρ os E) m (some x) ∧
  ∀ b,e.aE=some b→c.fo b∧(∃ o,w.heap[b]?=some o∧yn o=true)∧b<w.heap.size∧(e.eR=true→∀ o,¬ D b o):=by
 cases hx:ak os m with
 |none=>simp[av,hx] at hm
 |some x =>
  obtain ⟨h1,h2,h3⟩:=hg.dp m x hx;have ho:=hs.bT (bD ρ m);simp only[au] at ho;rw[h1] at ho;have hEm:aw ρ os E m=E (bD ρ m):=by simp only[aw,hm,if_true]
  have hin:∀ n,av os n=true→E (bD ρ n)=aw ρ os E n:=fun n hn=>by simp only[aw,hn,if_true]
  cases x with
  |bR T sz es =>
   obtain ⟨aE,k1,k2,k3⟩:=ho;rw[rV] at k1;have h2':I.bZ (av os) es=true:=h2;have k2':∀ e∈es,e.size=sz:=fun e he=>by rw[←rU (bD ρ) e];exact k2 _ (by rw[pb];exact zx2.2 ⟨e,he,rfl⟩)
   refine ⟨_,_,rfl,hEm.trans k1,k1,⟨aE,hEm.trans k1,k2',?_⟩,fun b hb =>?_⟩
   ·cases aE with
    |none=>simp only[pb,List.map_eq_nil_iff] at k3;exact k3
    |some bc =>
     obtain ⟨b,cap⟩:=bc;obtain ⟨cs,pr,rest,q1,q2,q3,q4,q5,q6,q7,q8⟩:=k3;rw[rV] at q6;exact ⟨cs,pr,rest,trivial,q2,q3,(aL.aQ (p:=av os) hin es _ h2').1 q4,q5,q6,q7,q8⟩
   ·cases aE with
    |none=>cases hb
    |some bc =>
     obtain ⟨b',cap⟩:=bc;cases hb;obtain ⟨cs,pr,rest,q1,q2,_⟩:=k3;exact ⟨q1,⟨_,q2,rfl⟩,gb q2,fun h=>by cases h⟩
  |box y =>
   obtain ⟨b,cs,T,k1,k2,k3,k4,k5⟩:=ho;rw[y7] at k1;refine ⟨_,_,rfl,hEm.trans k1,k1,⟨b,cs,T,hEm.trans k1,trivial,k3,?_,k5⟩,fun b' hb =>?_⟩
   ·exact (ai.aQ (p:=av os) hin y _ (by simpa[aj.only] using h2)).1 k4
   ·cases hb;exact ⟨k2,⟨_,k3,rfl⟩,gb k3,fun _=>k5⟩
  |dO o =>
   obtain ⟨b,k1,k2,k3,k4,k5⟩:=ho;exact ⟨_,_,rfl,hEm.trans k1,k1,⟨b,hEm.trans k1,trivial,k3,k4,k5⟩,fun b' hb=>by cases hb;exact ⟨k2,⟨_,k3,ai3 k4⟩,gb k3,fun _=>k5⟩⟩
  |cC ks vs =>
   obtain ⟨b,es,ck,k1,k2,k3,k4,k5,k6,k7⟩:=ho;simp only[aj.only,zz3] at h2;exact ⟨_,_,rfl,hEm.trans k1,k1,⟨b,es,ck,hEm.trans k1,trivial,k3,k4,(aJ.aQ (p:=av os) hin ks _ h2.1).1 k5,(aJ.aQ (p:=av os) hin vs _ h2.2).1 k6,k7⟩,
    fun b' hb=>by cases hb;exact ⟨k2,⟨_,k3,rfl⟩,gb k3,fun _=>k7⟩⟩
  |it ks vs left cur=>cases h3
  |c5 T xs =>
   obtain ⟨aE,k1,k2,k3⟩:=ho;refine ⟨_,_,rfl,hEm.trans k1,k1,⟨aE,hEm.trans k1,k2,?_⟩,fun b hb =>?_⟩
   ·cases aE with
    |none=>exact k3
    |some bc =>
     obtain ⟨b,cap⟩:=bc;obtain ⟨cs,r,q1,q2⟩:=k3;exact ⟨cs,r,trivial,q2⟩
   ·cases aE with
    |none=>cases hb
    |some bc =>
     obtain ⟨b',cap⟩:=bc;cases hb;obtain ⟨cs,r,q1,q2,_⟩:=k3;exact ⟨q1,⟨_,q2,rfl⟩,gb q2,fun h=>by cases h⟩
theorem aU.tw(hs:aU c (au ts os0) a w D E)(hg:gh ρ os os0){b:Nat}(hb:dC (aw ρ os E) b):∃ m e,av os m=true∧E (bD ρ m)=some e∧e.aE=some b∧c.fo b∧(∃ o,w.heap[b]?=some o∧yn o=true)∧b<w.heap.size:=by
 obtain ⟨m,e,h1,h2⟩:=hb;by_cases hm:av os m=true
 ·obtain ⟨x,e',k1,k2,k3,k4,k5⟩:=hs.given hg hm;rw[k2,t7] at h1;subst h1;obtain ⟨q1,q2,q3,_⟩:=k5 b h2;exact ⟨m,_,hm,k3,h2,q1,q2,q3⟩
 ·simp[aw,hm] at h1
theorem aU.IU(hs:aU c (au ts os0) a w D E)(hg:gh ρ os os0){D1:aT}(hD:∀ b o,D b o→D1 b o)(hown:∀ b o,D1 b o→dC (aw ρ os E) b→D b o):lG (fun _=>True) w D1 (aw ρ os E) (ak os):=by
 refine ⟨fun n =>?_,fun n m e e' b h1 h2 h3 h4 =>?_⟩
 ·cases hx:ak os n with
  |none=>simp[di,aw,av,hx]
  |some x =>
   have hm:av os n=true:=by simp[av,hx]
   obtain ⟨y,e,k1,k2,k3,k4,k5⟩:=hs.given hg hm;rw[hx,t7] at k1;subst k1;refine k4.bN (E':=aw ρ os E) ⟨hD,fun _ _ _ _ h=>h,fun _ _ _ h=>h,fun _ aE l h=>⟨aE,l,h,zz8 _,fun _=>rfl⟩,fun _ _ h=>h,fun _ _ h=>h,fun _ _ _ _ h=>h⟩ rfl fun e' b' he hb'=>⟨rfl,fun o ho =>?_⟩
   exact hown b' o ho ⟨n,e',he,hb'⟩
 ·have hn:av os n=true:=by
   by_cases h:av os n=true;· exact h
   ·simp[aw,h] at h1
  have hm:av os m=true:=by
    by_cases h:av os m=true;· exact h
    ·simp[aw,h] at h2
  simp only[aw,hn,hm,if_true] at h1 h2;exact hg.inj n m hn hm (hs.c4 _ _ e e' b h1 h2 h3 h4)
theorem aU.nt(hs:aU c (au ts os0) a w D E)(hg:gh ρ os os0){aD:Bool}{D1:aT}(hD:∀ b o,D b o→D1 b o)(hbx:aD=false→∀ b o,D1 b o→D b o){w':World}{D':aT}{E':aW}{v:Value}{r:I}{os':List (Nat×aj)}
  (hb:eK aD ρ os os0 r os') (hr:aV w' D' E' r v) (hh:lG (fun b=>w.heap.size≤b∨dC (aw ρ os E) b) w' D' E' (ak os')) (hk:fN (fun b=>w.heap.size≤b∨dC (aw ρ os E) b) w w')
  (hlive:∀ b o,D' b o→b<w'.heap.size) (hup:∀ b o,D1 b o→D' b o) (hst:iy w D1 w') (hold:∀ b o,D' b o→b<w.heap.size→¬ dC (aw ρ os E) b→D1 b o) (hbox:∀ n e,aw ρ os E n=some e→av os' n=true→∃ e',E' n=some e'∧e.le e') :
  ∃ D2 E2,aU c (au ts (dL ρ os'++os0)) a w' D2 E2∧aV w' D2 E2 (r.aQ (bD ρ)) v∧∀ m e,aw ρ os E m=some e→av os' m=true→∃ e',E2 (bD ρ m)=some e'∧e.le e':=by
 obtain ⟨M1,hM1⟩:∃ M1:Nat→Prop,M1=fun b=>w.heap.size≤b∨dC (aw ρ os E) b:=⟨_,rfl⟩
 rw[←hM1] at hh hk;obtain ⟨D2,hD2⟩:∃ D2:aT,D2=fun b o=>D b o∨(M1 b∧D' b o):=⟨_,rfl⟩
 obtain ⟨E2,hE2⟩:∃ E2:aW,E2=fun n=>match pre ρ os' n with | some m=>E' m | none=>E n:=⟨_,rfl⟩
 have mV:∀ b,M1 b→c.fo b:=fun b hb'=>by
  rw[hM1] at hb';rcases hb' with h | h
  ·exact .inl (zu0 hs.dQ.size h)
  ·obtain ⟨m,e,_,_,_,h3,_⟩:=hs.tw hg h;exact h3
 have upD:∀ b o,D b o→D' b o:=fun b o ae=>hup b o (hD b o ae);have E2m:∀ m,av os' m=true→E2 (bD ρ m)=E' m:=fun m hm=>by
  rw[hE2];simp only;cases hp:pre ρ os' (bD ρ m) with
  |none=>exact absurd rfl (yO hp hm)
  |some m' =>
   obtain ⟨h1,h2⟩:=mi hp;rw[hb.inj m' m h1 hm h2]
 have E2o:∀ n,pre ρ os' n=none→E2 n=E n:=fun n hn=>by rw[hE2];simp only[hn]
 -- a name that has a new meaning: one that was handed over,or one that was free
 have cas:∀ n m,pre ρ os' n=some m→(av os m=true∧∃ e e',E n=some e∧E' m=some e'∧e.le e')∨(av os m=false∧E n=none∧c.dD n=none):=fun n m hp=>by
  obtain ⟨h1,h2⟩:=mi hp;cases hm:av os m with
  |true =>
   obtain ⟨y,e,k1,k2,k3,_⟩:=hs.given hg hm;rw[h2] at k3;obtain ⟨e',q1,q2⟩:=hbox m e k2 h1;exact .inl ⟨rfl,e,e',k3,q1,q2⟩
  |false =>
   obtain ⟨k1,k2⟩:=hb.qh m h1 hm;rw[h2] at k1 k2;have ho:=hs.bT n;simp only[au,k1] at ho;exact .inr ⟨rfl,ho,hs.kB (.inr k2)⟩
 have hl:dS w D E w' D2 E2:=by
  have fQ:∀ n e,E n=some e→∃ e',E2 n=some e'∧e.le e':=fun n e he=>by
   cases hp:pre ρ os' n with
   |none=>exact ⟨e,by rw[E2o n hp];exact he,.refl e⟩
   |some m =>
    rw[hE2];simp only[hp];rcases cas n m hp with ⟨_,e1,e2,k1,k2,k3⟩ | ⟨_,k1,_⟩
    ·rw[he] at k1;cases k1;exact ⟨e2,k2,k3⟩
    ·rw[he] at k1;cases k1
  have keepf:∀ n e,E n=some e→e.eR=true→E2 n=some e:=fun n e he hf=>by
   obtain ⟨e',k1,k2⟩:=fQ n e he;rw[k1,k2.eq hf]
  refine ⟨fun b o h=>by rw[hD2];exact .inl h,fun b o v' ae hv=>hst.cell b o v' (hD b o ae) hv,fun n b aS he=>keepf n _ he rfl,fun n aE l he =>?_,fun n b he=>keepf n _ he rfl,fun n b he=>keepf n _ he rfl,fun b es ck ae hm=>hst.iF b es ck (hD b 0 ae) hm⟩;obtain ⟨e',k1,k2⟩:=fQ n _ he;rcases k2 with rfl | ⟨_,_,blk',l',e,rfl,k3,k4⟩
  ·exact ⟨aE,l,k1,zz8 _,fun _=>rfl⟩
  ·cases e;exact ⟨blk',l',k1,k3,k4⟩
 -- blocks of names that were not handed over
 have other:∀ n e b,pre ρ os' n=none→E n=some e→e.aE=some b→¬ M1 b:=fun n e b hp he hb' hm=>by
  rw[hM1] at hm;rcases hm with h | h
  ·exact absurd (hs.fX he hb') (by omega)
  ·obtain ⟨m,e',h1,h2,h3,_⟩:=hs.tw hg h;have:=hs.c4 n (bD ρ m) e _ b he h2 hb' h3;exact yO hp (hb.old m h1) this.symm
 have toD2:∀ {x:I} {cs:List Value},(aD=true→x.c8=true)→ai w' D' E2 x cs→ai w' D2 E2 x cs:=fun {x cs} hx h=>by
  cases hbb:aD with
  |true=>exact ai.c8 x cs (hx hbb) h
  |false =>
   refine ai.bN (E:=E2) ⟨fun b o ae =>?_,fun _ _ _ _ h=>h,fun _ _ _ h=>h,fun _ aE l h=>⟨aE,l,h,zz8 _,fun _=>rfl⟩,fun _ _ h=>h,fun _ _ h=>h,fun _ _ _ _ h=>h⟩ x cs h;rw[hD2];by_cases hm:M1 b
   ·exact .inr ⟨hm,ae⟩
   ·rw[hM1] at hm;exact .inl (hbx hbb b o (hold b o ae (Nat.lt_of_not_le fun h=>hm (.inl h)) fun h=>hm (.inr h)))
 have toD2c:∀ {xs:List I} {cs:List Value},I.bZ (av os') xs=true→(aD=true→I.jk xs=true)→aL w' D' E' xs cs→aL w' D2 E2 (I.cR (bD ρ) xs) cs:=fun {xs cs} ho hx h=>by
  cases hbb:aD with
  |true=>exact (aL.aQ (w:=w') (D:=D2) (p:=av os') (ρ:=bD ρ) (E:=E') (E':=E2) (fun n hn=>E2m n hn) xs cs ho).2 (aL.c8 xs cs (hx hbb) h)
  |false =>
   have h2:=(aL.aQ (w:=w') (D:=D') (p:=av os') (ρ:=bD ρ) (E:=E') (E':=E2) (fun n hn=>E2m n hn) xs cs ho).2 h;refine aL.bN (E:=E2) ⟨fun b o ae =>?_,fun _ _ _ _ h=>h,fun _ _ _ h=>h,fun _ aE l h=>⟨aE,l,h,zz8 _,fun _=>rfl⟩,fun _ _ h=>h,fun _ _ h=>h,fun _ _ _ _ h=>h⟩ _ cs h2;rw[hD2];by_cases hm:M1 b
   ·exact .inr ⟨hm,ae⟩
   ·rw[hM1] at hm;exact .inl (hbx hbb b o (hold b o ae (Nat.lt_of_not_le fun h=>hm (.inl h)) fun h=>hm (.inr h)))
 have toD2s:∀ {xs:List I} {cs:List Value},I.bZ (av os') xs=true→(aD=true→I.jk xs=true)→aJ w' D' E' xs cs→aJ w' D2 E2 (I.cR (bD ρ) xs) cs:=fun {xs cs} ho hx h=>by
  cases hbb:aD with
  |true=>exact (aJ.aQ (w:=w') (D:=D2) (p:=av os') (ρ:=bD ρ) (E:=E') (E':=E2) (fun n hn=>E2m n hn) xs cs ho).2 (aJ.c8 xs cs (hx hbb) h)
  |false =>
   have h2:=(aJ.aQ (w:=w') (D:=D') (p:=av os') (ρ:=bD ρ) (E:=E') (E':=E2) (fun n hn=>E2m n hn) xs cs ho).2 h;refine aJ.bN (E:=E2) ⟨fun b o ae =>?_,fun _ _ _ _ h=>h,fun _ _ _ h=>h,fun _ aE l h=>⟨aE,l,h,zz8 _,fun _=>rfl⟩,fun _ _ h=>h,fun _ _ h=>h,fun _ _ _ _ h=>h⟩ _ cs h2;rw[hD2];by_cases hm:M1 b
   ·exact .inr ⟨hm,ae⟩
   ·rw[hM1] at hm;exact .inl (hbx hbb b o (hold b o ae (Nat.lt_of_not_le fun h=>hm (.inl h)) fun h=>hm (.inr h)))
 refine ⟨D2,E2,⟨hs.sz,hs.eT.mono fun B _ hB =>?_,fun t=>aV.bN hl (hs.ef t),hs.dQ.trans ⟨hk.os,hk.tape,hk.output,hk.size,fun k hk'=>hk.block k fun h=>hk' (mV k h)⟩,fun b o ae hm =>?_,fun b o ae =>?_,fun n =>?_,?_,fun n e hn =>?_,hs.eZ,
  fun b o ae=>hl.da b o (hs.cN b o ae),hs.fe,hs.lC hl⟩,?_,fun m e k1 k3=>by rw[E2m m k3];exact hbox m e k1 k3⟩
 ·refine (hk.block B fun hm =>?_).trans hB;rw[hM1] at hm;rcases hm with h | h
  ·exact absurd (zx7.1 hB).1 (by omega)
  ·obtain ⟨m,e,_,_,_,_,⟨o,h4,h5⟩,_⟩:=hs.tw hg h;rw[hB] at h4;cases h4;cases h5
 ·rw[hD2] at ae;rcases ae with ae | ⟨h1,_⟩
  ·exact hs.da b o ae hm
  ·exact absurd (mV b h1) hm
 ·rw[hD2] at ae;rcases ae with ae | ⟨_,h1⟩
  ·exact Nat.lt_of_lt_of_le (hs.dm b o ae) hk.size
  ·exact hlive b o h1
 ·simp only[au,rE];cases hp:pre ρ os' n with
  |none =>
   simp only;refine (hs.bT n).bN hl (E2o n hp) fun e b he hb'=>⟨hk.block b (other n e b hp he hb'),fun o ho =>?_⟩
   rw[hD2] at ho;rcases ho with ho | ⟨h1,_⟩
   ·exact ho
   ·exact absurd h1 (other n e b hp he hb')
  |some m =>
   simp only;obtain ⟨h1,h2⟩:=mi hp;cases hx:ak os' m with
   |none=>simp[av,hx] at h1
   |some x =>
    obtain ⟨k1,kf,k2⟩:=hb.dp m x hx;have ho:=hh.bT m;rw[hx] at ho;have noD:∀ b,(∀ o,¬ D' b o)→∀ o,¬ D2 b o:=fun b hno o ho=>by
     rw[hD2] at ho;rcases ho with ho | ⟨_,ho⟩
     ·exact hno o (upD b o ho)
     ·exact hno o ho
    cases x with
    |bR T sz es =>
     obtain ⟨aE,q1,q2,q3⟩:=ho;simp only[zy5,aj.aQ,di,rV];refine ⟨aE,by rw[←h2,E2m m h1];exact q1,fun e he =>?_,?_⟩
     ·rw[pb] at he;obtain ⟨e',he',rfl⟩:=zx2.1 he;rw[rU];exact q2 e' he'
     ·cases aE with
      |none=>simp only at q3 ⊢;rw[q3];rfl
      |some bc =>
       obtain ⟨b,cap⟩:=bc;obtain ⟨cs,pr,rest,g1,g2,g3,g4,g5,g6,g7,g8⟩:=q3;refine ⟨cs,pr,rest,mV b g1,g2,g3,toD2c (by simpa[aj.only] using k1) (fun h=>by simpa[aj.c8] using k2 h) g4,g5,g6,g7,fun o ho =>?_⟩;rw[hD2] at ho;rcases ho with ho | ⟨_,ho⟩
       ·exact g8 o (upD b o ho)
       ·exact g8 o ho
    |c5 T xs =>
     obtain ⟨aE,q1,q2,q3⟩:=ho;simp only[zy5,aj.aQ,di];refine ⟨aE,by rw[←h2,E2m m h1];exact q1,q2,?_⟩;cases aE with
     |none=>exact q3
     |some bc =>
      obtain ⟨b,cap⟩:=bc;obtain ⟨cs,r,g1,g2,g3,g4,g5,g6,g7⟩:=q3;exact ⟨cs,r,mV b g1,g2,g3,g4,g5,g6,noD b g7⟩
    |dO x =>
     obtain ⟨b,q1,q2,q3,q4,q5⟩:=ho;simp only[zy5,aj.aQ,di];exact ⟨b,by rw[←h2,E2m m h1];exact q1,mV b q2,q3,q4,noD b q5⟩
    |it ks vs left cur=>cases kf
    |cC ks vs =>
     obtain ⟨b,es,ck,q1,q2,q3,q4,q5,q6,q7⟩:=ho;simp only[zy5,aj.aQ,di];simp only[aj.only,zz3] at k1;simp only[aj.c8,zz3] at k2;exact ⟨b,es,ck,by rw[←h2,E2m m h1];exact q1,mV b q2,q3,q4,toD2s k1.1 (fun h=>(k2 h).1) q5,toD2s k1.2 (fun h=>(k2 h).2) q6,noD b q7⟩
    |box y =>
     obtain ⟨b,cs,T,q1,q2,q3,q4,q5⟩:=ho;simp only[zy5,aj.aQ,di];refine ⟨b,cs,T,by rw[y7,←h2,E2m m h1];exact q1,mV b q2,q3,?_,noD b q5⟩;have h3:=(ai.aQ (w:=w') (D:=D') (p:=av os') (ρ:=bD ρ) (E:=E') (E':=E2) (fun n hn=>E2m n hn) y cs.toList (by simpa[aj.only] using k1)).2 q4;cases hbb:aD with
     |true =>
      have h4:ai w' D2 E' y cs.toList:=ai.c8 y _ (k2 hbb) q4;exact (ai.aQ (w:=w') (D:=D2) (p:=av os') (ρ:=bD ρ) (E:=E') (E':=E2) (fun n hn=>E2m n hn) y cs.toList (by simpa[aj.only] using k1)).2 h4
     |false=>exact toD2 (fun h=>by rw[hbb] at h;cases h) h3
 ·intro n m e e' b h1 h2 h3 h4;have blk':∀ n m e,pre ρ os' n=some m→E2 n=some e→e.aE=some b→M1 b∧E' m=some e:=fun n m e hp he hb'=>by
   obtain ⟨k1,k2⟩:=mi hp;rw[←k2,E2m m k1] at he;cases hx:ak os' m with
   |none=>simp[av,hx] at k1
   |some x =>
    obtain ⟨_,kf,_⟩:=hb.dp m x hx;have ho:=hh.bT m;rw[hx] at ho;cases x with
    |bR T sz es =>
     obtain ⟨aE,q1,q2,q3⟩:=ho;rw[q1,t7] at he;subst he;cases aE with
     |none=>cases hb'
     |some bc =>
      obtain ⟨b',cap⟩:=bc;cases hb';obtain ⟨cs,pr,rest,g1,_⟩:=q3;exact ⟨g1,q1⟩
    |it ks vs left cur=>cases kf
    |c5 T xs =>
     obtain ⟨aE,q1,q2,q3⟩:=ho;rw[q1,t7] at he;subst he;cases aE with
     |none=>cases hb'
     |some bc =>
      obtain ⟨b',cap⟩:=bc;cases hb';obtain ⟨cs,r,g1,_⟩:=q3;exact ⟨g1,q1⟩
    |cC ks vs =>
     obtain ⟨b',es,ck,q1,q2,_⟩:=ho;rw[q1,t7] at he;subst he;cases hb';exact ⟨q2,q1⟩
    |dO x =>
     obtain ⟨b',q1,q2,_⟩:=ho;rw[q1,t7] at he;subst he;cases hb';exact ⟨q2,q1⟩
    |box y =>
     obtain ⟨b',cs,T,q1,q2,_⟩:=ho;rw[q1,t7] at he;subst he;cases hb';exact ⟨q2,q1⟩
  cases hn:pre ρ os' n with
  |none =>
   have g1:E n=some e:=by rw[←E2o n hn];exact h1
   cases hm:pre ρ os' m with
   |none=>exact hs.c4 n m e e' b g1 (by rw[←E2o m hm];exact h2) h3 h4
   |some m'=>exact absurd (blk' m m' e' hm h2 h4).1 (other n e b hn g1 h3)
  |some n' =>
   have g1:=blk' n n' e hn h1 h3;cases hm:pre ρ os' m with
   |none=>exact absurd g1.1 (other m e' b hm (by rw[←E2o m hm];exact h2) h4)
   |some m' =>
    have g2:=blk' m m' e' hm h2 h4;have:=hh.c4 n' m' e e' b g1.2 g2.2 h3 h4;rw[←(mi hn).2,←(mi hm).2,this]
 ·cases hp:pre ρ os' n with
  |none=>rw[E2o n hp];exact hs.dV n e hn
  |some m =>
   rcases cas n m hp with ⟨_,e1,e2,k1,k2,k3⟩ | ⟨_,_,k1⟩
   ·rcases hs.dV n e hn with h | ⟨e3,h,h'⟩
    ·rw[h] at k1;cases k1
    ·rw[k1,t7] at h;subst h
     right
     rw[hE2];simp only[hp];exact ⟨e2,k2,h'.trans k3⟩
   ·rw[hn] at k1;cases k1
 ·have h3:=(aV.aQ (w:=w') (p:=av os') (ρ:=bD ρ) (E:=E') (E':=E2) (D:=D') (fun n hn=>E2m n hn) (v:=v) hb.y8.1).2 hr;cases hbb:aD with
  |true=>exact (aV.aQ (w:=w') (p:=av os') (ρ:=bD ρ) (E:=E') (E':=E2) (D:=D2) (fun n hn=>E2m n hn) (v:=v) hb.y8.1).2 (aV.c8 (hb.y8.2 hbb) hr)
  |false =>
   refine aV.bN (E:=E2) ⟨fun b o ae =>?_,fun _ _ _ _ h=>h,fun _ _ _ h=>h,fun _ aE l h=>⟨aE,l,h,zz8 _,fun _=>rfl⟩,fun _ _ h=>h,fun _ _ h=>h,fun _ _ _ _ h=>h⟩ h3;rw[hD2];by_cases hm:M1 b
   ·exact .inr ⟨hm,ae⟩
   ·rw[hM1] at hm;exact .inl (hbx hbb b o (hold b o ae (Nat.lt_of_not_le fun h=>hm (.inl h)) fun h=>hm (.inr h)))
end
theorem uZ(z:Array Value):∀ n:Nat,(Builtin.zeroCells z n).toList=(List.replicate n z.toList).flatten
 |0=>by simp[Builtin.zeroCells]
 |n+1=>by
  rw[List.replicate_succ,List.flatten_cons,←uZ z n];apply List.ext_getElem?;intro i;by_cases hz:z.size=0
  ·have hz':z = #[]:=Array.eq_empty_of_size_eq_zero hz;subst hz';simp[Builtin.zeroCells]
  have hpos:0<z.size:=Nat.pos_of_ne_zero hz;by_cases hi:i<z.toList.length
  ·rw[zx0 hi];have hi':i<z.size:=by simpa using hi
   have h1:i<(n+1)*z.size:=by rw[Nat.succ_mul];omega
   simp only[Builtin.zeroCells,Array.toList_map,Array.toList_range,zw5,List.getElem?_range h1,zy5,Nat.mod_eq_of_lt hi'];simp[hi']
  ·rw[zw0 (by omega)];have hi':z.size≤i:=by simpa using hi
   simp only[Builtin.zeroCells,Array.toList_map,Array.toList_range,zw5,zv0];by_cases h2:i<(n+1)*z.size
   ·have h3:i-z.size<n*z.size:=by rw[Nat.succ_mul] at h2;omega
    rw[List.getElem?_range h2,List.getElem?_range h3];simp only[zy5];rw[←Nat.mod_eq_sub_mod hi']
   ·have h3:¬ i-z.size<n*z.size:=by rw[Nat.succ_mul] at h2;omega
    rw[List.getElem?_eq_none (by simpa using h2),List.getElem?_eq_none (by simpa using h3)]
theorem rS{w:World}{D:aT}{E:aW}{z:I}{cs:List Value}(h:ai w D E z cs):∀ n:Nat,aL w D E (List.replicate n z) (List.replicate n cs).flatten
 |0=>by simp[aL]
 |n+1=>by
  simp only[List.replicate_succ,List.flatten_cons,aL];exact ⟨cs,_,rfl,h,rS h n⟩
def eD(A:af)(sz:Nat):I→Option (List I)
 | .slice z es=>if z=sz then some es else none
 | .nils _=>some []
 | .c0 _=>some []
 | .own n l=>match A.o n with
  |some (.bR _ z es)=>if l=es.length∧z=sz then some es else none
  |_=>none
 | .view n p z lo k=>match cD A (.ptr n p) with
  |some (.agg fs)=>if lo+k≤fs.length∧z=sz then some ((fs.drop lo).take k) else none
  |_=>none
 |_=>none
section
variable {c:cO} {A:af} {a:Act} {w:World} {D:aT} {E:aW}
theorem aU.view(h:aU c A a w D E){n:Nat}{p:List Nat}{sz lo k:Nat}{v:Value}{fs:List I}(hv:aV w D E (.view n p sz lo k) v)(hx:cD A (.ptr n p)=some (.agg fs)) :
  ∃ y b cs T off c1 c2 c3,A.o n=some (.box y)∧E n=some (.aD b y.aS)∧w.heap[b]?=some (.cells cs T (0,0))∧y.at p=some (.agg fs)∧y.aS.off p=some off∧cs.toList=c1++c2++c3∧c1.length=off∧aL w D E fs c2 ∧
   ai w D E y cs.toList∧(∀ f∈fs,f.size=sz)∧lo+k≤fs.length∧fs.length≤maxLen∧v=.slice (some ⟨b,off+lo*sz,none⟩) k (fs.length-lo):=by
 obtain ⟨z,b',cs',T,off',c1,c2,c3,k1,k2,_,k3,k4,k5,k6,k7,k8,k9,_⟩:=h.at hx;obtain ⟨vs,g1,g2⟩:=hv;simp only[ai] at g2;obtain ⟨b,aS,off,l,h1,h2,h3,h4,h5,h6,h7⟩:=g2;rw[k2] at h1;simp only[t7,bS.aD.injEq] at h1;obtain ⟨rfl,rfl⟩:=h1;rw[k5,t7] at h2;subst h2;rw[nd p z _ k4] at h3;simp only[I.aS,t7,cW.ej.injEq] at h3;subst h3;rw[I.dy,zy3] at h4 h5 h6;refine ⟨z,b',cs',T,off',c1,c2,c3,k1,k2,k3,k4,k5,k6,k7,by simpa only[ai] using k8,k9,MT h7,h6,h5,?_⟩;simpa[bM,I.isAgg,h4] using g1.symm
theorem aU.od(h:aU c A a w D E){sz:Nat}{x:I}{v:Value}{ys:List I}(hv:aV w D E x v)(hs:eD A sz x=some ys) :
  ∃ ad cp news,v=.slice ad ys.length cp∧ys.length≤cp∧cp≤maxLen∧aL w D E ys news∧(∀ y∈ys,y.size=sz)∧(ys≠[]→∃ b o,ad=some ⟨b,o,none⟩∧∀ j u,news[j]?=some u→w.cell? ⟨b,o+j,none⟩=some u):=by
 cases x <;>simp only[eD] at hs <;>try (cases hs;done)
 case nils z =>
  simp only[t7] at hs;subst hs;obtain ⟨cs,q1,q2⟩:=hv;simp only[ai] at q2;exact ⟨none,0,[],by simpa[bM,I.isAgg,q2] using q1.symm,by simp,by simp[maxLen],by simp[aL],by simp,fun h=>absurd rfl h⟩
 case c0 z =>
  simp only[t7] at hs;subst hs;obtain ⟨cs,q1,q2⟩:=hv;simp only[ai] at q2;obtain ⟨ad,q2⟩:=q2;exact ⟨ad,0,[],by simpa[bM,I.isAgg,q2] using q1.symm,by simp,by simp[maxLen],by simp[aL],by simp,fun h=>absurd rfl h⟩
 case slice z es =>
  split at hs
  ·rename_i hz;simp only[t7] at hs;subst hs hz;obtain ⟨ad,cap,e1,e2,e3,e4,e5⟩:=n9 hv;rcases e4 with rfl | ⟨b,off,cs,rfl,q1,q2⟩
   ·exact ⟨ad,cap,[],e1,e2,e3,by simp[aL],by simp,fun h=>absurd rfl h⟩
   ·exact ⟨_,cap,cs,e1,e2,e3,q2,e5,fun _=>⟨b,off,rfl,fun j u hj=>(q1 j u hj).1⟩⟩
  ·cases hs
 case own n l =>
  split at hs
  ·rename_i T z es hn;split at hs
   ·rename_i hz;obtain ⟨hz1,rfl⟩:=hz;simp only[t7] at hs;subst hs;obtain ⟨aE,k1,k2,k3⟩:=h.bR hn;obtain ⟨cs,q1,q2⟩:=hv;simp only[ai] at q2;obtain ⟨blk',l',g1,g2,_,g4⟩:=q2;rw[k1] at g1;simp only[t7,bS.rw.injEq] at g1;obtain ⟨rfl,rfl⟩:=g1
    replace g4:=g4 hz1
    cases aE with
    |none =>
     simp only at k3 g4;subst k3;have hv':v=.slice none 0 0:=by rw[g4] at q1;simpa[bM,I.isAgg] using q1.symm
     exact ⟨none,0,[],hv',by simp,by simp[maxLen],by simp[aL],by simp,fun h=>absurd rfl h⟩
    |some bc =>
     obtain ⟨b,cap⟩:=bc;simp only at g4;obtain ⟨cs',pre,rest,k4,k5,k6,k7,k8,k9,k10,k11⟩:=k3;refine ⟨some ⟨b,0,none⟩,cap,pre,by rw[←hz1];simpa[bM,I.isAgg,g4] using q1.symm,k9,k10,k7,k2,fun _=>⟨b,0,rfl,fun j u hj =>?_⟩⟩;have:=(o7 (D:=fun _ _=>True) (c1:=[]) (c2:=pre) (c3:=rest) k5 (by simpa using k6) (fun _ _=>trivial)) j u hj;simpa using this.1
   ·cases hs
  ·cases hs
 case view n p z lo k =>
  split at hs
  ·rename_i fs hx;split at hs
   ·rename_i hk;obtain ⟨hk,rfl⟩:=hk;simp only[t7] at hs;subst hs;obtain ⟨y,b,cs,T,off,c1,c2,c3,k1,k2,k3,k4,k5,k6,k7,k8,k9,k10,k11,k12,rfl⟩:=h.view hv hx;obtain ⟨d1,d2,d3,rfl,q1,q2,q3⟩:=uz k8 k10 lo k hk;have hlen:((fs.drop lo).take k).length=k:=by rw[zy8,zy9];omega
    refine ⟨some ⟨b,off+lo*z,none⟩,fs.length-lo,d2,by rw[hlen],by rw[hlen];omega,by omega,q2,fun y hy=>k10 y (List.mem_of_mem_drop (List.mem_of_mem_take hy)),fun _=>⟨b,_,rfl,fun j u hj =>?_⟩⟩;have:=(o7 (D:=fun _ _=>True) (c1:=c1++d1) (c2:=d2) (c3:=d3++c3) k3 (by rw[k6];simp) (fun _ _=>trivial)) j u hj;rw[zz7,k7,q1] at this;exact this.1
   ·cases hs
  ·cases hs
theorem aU.iP(h:aU c A a w D E){n:Nat}{p:List Nat}{sz j:Nat}{y:I}{fs ys:List I}{b off:Nat}{cs:Array Value}{T:TypeId}{c1 c2 c3 bC:List Value}(hn:A.o n=some (.box y))(aw:E n=some (.aD b y.aS))(hb:w.heap[b]?=some (.cells cs T (0,0)))
  (hat:y.at p=some (.agg fs)) (hoff:y.aS.off p=some off) (hcs:cs.toList=c1++c2++c3) (hc1:c1.length=off) (hfs:aL w D E fs c2) (hy:ai w D E y cs.toList) (hsz:∀ f∈fs,f.size=sz) (hys:aL w D E ys bC) (hj:j+ys.length≤fs.length)
  (hsh:I.cU ys=I.cU ((fs.drop j).take ys.length)) (P:Program) :
  ∃ w',(storeCells ⟨b,off+j*sz,none⟩ bC 0).run P w=.ok () w'∧aU c (A.aO n (.box (y.dM p (.agg (fs.take j++(ys++fs.drop (j+ys.length))))))) a w' D E:=by
 obtain ⟨d1,d2,d3,rfl,q1,q2,q3⟩:=uz hfs hsz j ys.length hj;have hd1:aL w D E (fs.take j) d1:=by
  have e1:fs=fs.take j++fs.drop j:=(zx1 j fs).symm;rw[e1] at hfs;obtain ⟨e1,e2,he,k1,k2⟩:=uy _ _ _ hfs;have hl:e1.length=d1.length:=by
   rw[aL.length _ _ k1,I.iq _ (fun x hx=>hsz x (List.mem_of_mem_take hx)),q1,zy8];congr 1;omega
  have:e1=d1:=by
   have:=congrArg (List.take d1.length) he;rw[List.take_left,←hl,List.take_left] at this;exact this.symm
  rw[←this];exact k1
 have hlen:bC.length=d2.length:=by rw[aL.length _ _ hys,aL.length _ _ q2,←I.nf,←I.nf,hsh]
 have hds:ai w D E (.agg (fs.take j++(ys++fs.drop (j+ys.length)))) (d1++(bC++d3)):=by
  simp only[ai];refine kL _ _ _ _ hd1 (kL _ _ _ _ hys ?_);rw[List.drop_drop] at q3;exact q3
 have hshape:(I.agg (fs.take j++(ys++fs.drop (j+ys.length)))).aS=(I.agg fs).aS:=by
  simp only[I.aS,cW.ej.injEq,I.dy,zx4];rw[←I.dy ys,hsh,I.dy,←zx4,←zx4]
  congr 1
  rw[←List.drop_drop,zx1,zx1]
 obtain ⟨off',g1,g2,g3,g4⟩:=uw p y _ _ _ _ hy hat hds hshape;rw[hoff,t7] at g1;subst g1;have hst:=run_storeCells_at P b (off+j*sz) T bC 0 cs w hb (by
  have:cs.size=cs.toList.length:=by simp
  rw[this,hcs];simp only[zz7];omega) (aL.mY _ _ hys)
 simp only[Nat.add_zero] at hst;refine ⟨_,hst,?_⟩;refine h.MP hn aw g4 ?_;have e:cs.toList.take (off+j*sz)++bC++cs.toList.drop (off+j*sz+bC.length)=cs.toList.take off++(d1++(bC++d3))++cs.toList.drop (off+(d1++(bC++d3)).length):=by
  rw[hcs];have t1:(c1++(d1++(d2++d3))++c3).take (off+j*sz)=c1++d1:=by
   rw[←hc1,←q1,zz5,List.take_length_add_append,zz5,List.take_left]
  have t2:(c1++(d1++(d2++d3))++c3).drop (off+j*sz+bC.length)=d3++c3:=by
   rw[←hc1,←q1,hlen,zz5,Nat.add_assoc,List.drop_length_add_append,zz5,List.drop_length_add_append,zz5,List.drop_left]
  have t3:(c1++(d1++(d2++d3))++c3).take off=c1:=by rw[←hc1,zz5,List.take_left]
  have t4:(c1++(d1++(d2++d3))++c3).drop (off+(d1++(bC++d3)).length)=c3:=by
   have:(d1++(bC++d3)).length=(d1++(d2++d3)).length:=by simp[hlen]
   rw[this,←hc1,zz5,List.drop_length_add_append,List.drop_left]
  rw[t1,t2,t3,t4];simp
 rw[e];simpa using g3
end
section
variable {c:cO} {A:af} {o:Oper} {x:I}
theorem na{P:Program}{w:World}(k:IntKind)(n:Int)(y:Nat)(code:BoundsCode)(g1:0≤n)(g2:n≤y):(Instr.sliceBound (.int k n) y code).run P w=.ok n.toNat w:=by
 simp[Instr.sliceBound,asIntOf,g1,g2]
theorem ahD{t e:TypeId}{y:Operand}{y':aM}{lo hi mx:Option Operand}{lo' hi' mx':Option aM}{i:TypeInfo}{fs:List I}{n:Nat}{p:List Nat}{sz l0 k:Nat}(ho:o.op=.slice t y lo hi mx)(hu:c.P.underlying t=some (.slice e))(hi0:c.P.info? e=some i)
  (hy:bH c.P 0 y=some y') (h1:iU c.P lo=some lo') (h2:iU c.P hi=some hi') (h3:iU c.P mx=some mx') (hmh:mx'.isSome=true→hi'.isSome=true) (hsz:sz=c.P.cellsOf e)
  (h:ah A y'=.view n p sz l0 k) (ae:cD A (.ptr n p)=some (.agg fs)) (hx:hJ n p sz l0 k fs.length (lo'.map (ah A)) (hi'.map (ah A)) (mx'.map (ah A))=some x):dR c A o x :=
 .same fun a w D E hs=>by
  have opt:∀ {q:Option Operand} {q':Option aM},iU c.P q=some q'→iL w D E (q'.map (ah A)) (q.map a.eval):=by
   intro q q' hq;cases q with
   |none=>simp only[iU,t7] at hq;subst hq;simp[iL]
   |some z =>
    simp only[iU,zz1] at hq;obtain ⟨z',hz,rfl⟩:=hq;simpa[iL] using ca hs hz
  have h0:=ca hs hy;rw[h] at h0;obtain ⟨yy,b,cs,T,off,c1,c2,c3,k1,k2,k3,k4,k5,k6,k7,k8,k9,k10,k11,k12,hval⟩:=hs.view h0 ae;have hmh':(mx'.map (ah A)).isSome=true→(hi'.map (ah A)).isSome=true:=by simpa using hmh
  unfold hJ at hx;split at hx
  ·cases hx
  rename_i hh hbh;split at hx
  ·cases hx
  rename_i ll hbl;have d1:=rK (opt h1) hbl;have d2:=rK (opt h2) hbh;have o3:=opt h3;split at hx
  ·rename_i hmx;split at hx
   case isFalse=>cases hx
   rename_i hb;obtain ⟨b1,b2,b3⟩:=hb;have hvmx:mx.map a.eval=none:=by
    rw[hmx] at o3;cases hq:mx.map a.eval with
    |none=>rfl
    |some v=>rw[hq] at o3;simp[iL] at o3
   have hsb:(Instr.sliceBounds true k (fs.length-l0) (lo.map a.eval) (hi.map a.eval) (mx.map a.eval)).run c.P w=.ok (ll.toNat,hh.toNat,fs.length-l0) w:=by
    rw[hvmx];rcases d2 with ⟨_,g2,hm2⟩ | ⟨_,q2,g2⟩ <;>rcases d1 with ⟨_,g1,hm1⟩ | ⟨_,q1,g1⟩ <;>rw[g1,g2]
    ·subst hm1 hm2;simp[Instr.sliceBounds]
    ·subst hm2;simp[Instr.sliceBounds,na q1 ll k _ b1 (by omega)]
    ·subst hm1;simp[Instr.sliceBounds,na q2 hh (fs.length-l0) _ (by omega) (by omega)]
    ·simp[Instr.sliceBounds,na q2 hh (fs.length-l0) _ (by omega) (by omega),na q1 ll hh.toNat _ b1 (by omega)]
   have hrun:(Instr.sliceAt t (a.eval y) (lo.map a.eval) (hi.map a.eval) (mx.map a.eval)).run c.P w =
     .ok (.slice (if fs.length-l0=ll.toNat then some ⟨b,off+l0*sz,none⟩ else some ⟨b,off+l0*sz+ll.toNat*c.P.cellsOf e,none⟩) (hh.toNat-ll.toNat) (fs.length-l0-ll.toNat)) w:=by
    rw[hval];simp only[Instr.sliceAt,Instr.slice,Sem.run_bind,run_underlying hu,Result.andThen_ok,hsb,jw hi0,Sem.run_pure,zy5,np]
   refine ⟨_,by simp only[execOp,ho,Sem.run_bind,hrun];rfl,?_⟩;split at hx
   ·rename_i hl;simp only[t7] at hx;subst hx;have e1:fs.length-l0=ll.toNat:=by omega
    have e2:hh.toNat-ll.toNat=0:=by omega
    rw[if_pos e1,e2,e1,Nat.sub_self];exact ⟨_,by simp[bM,I.isAgg];rfl,by simp only[ai];exact ⟨_,rfl⟩⟩
   ·rename_i hl;simp only[t7] at hx;subst hx;rw[if_neg (by omega)];refine ⟨_,by simp[bM,I.isAgg];rfl,?_⟩;simp only[ai];refine ⟨b,yy.aS,off,I.cU fs,k2,k5,nd p yy _ k4,?_,?_,?_,?_⟩
    ·rw[I.dy,zy3,zu1,Nat.add_assoc,hsz,Nat.sub_sub]
    ·rw[I.dy,zy3];exact k12
    ·rw[I.dy,zy3];omega
    ·rw[I.dy];intro s hs';obtain ⟨f,hf,rfl⟩:=zx2.1 hs';rw[I.my];exact k10 f hf
  ·rename_i kk m hmx;split at hx
   case isFalse=>cases hx
   rename_i hb;obtain ⟨b1,b2,b3,b4⟩:=hb;simp only[t7] at hx;subst hx;obtain ⟨vmx,hvmx,hvm⟩:∃ v,mx.map a.eval=some v∧v=.int kk m:=by
    rw[hmx] at o3;cases hq:mx.map a.eval with
    |none=>rw[hq] at o3;simp[iL] at o3
    |some v=>rw[hq] at o3;simp only[iL] at o3;exact ⟨v,rfl,(fC o3).1⟩
   subst hvm;have hsb:∃ r,(Instr.sliceBounds true k (fs.length-l0) (lo.map a.eval) (hi.map a.eval) (mx.map a.eval)).run c.P w=.ok r w:=by
    rw[hvmx];rcases d2 with ⟨gj,g2,hm2⟩ | ⟨_,q2,g2⟩
    ·rw[hmx,gj] at hmh';simp at hmh'
    ·rcases d1 with ⟨_,g1,hm1⟩ | ⟨_,q1,g1⟩ <;>rw[g1,g2]
     ·exact ⟨_,by simp[Instr.sliceBounds,na kk m (fs.length-l0) _ (by omega) b4,na q2 hh m.toNat _ (by omega) (by omega)];rfl⟩
     ·exact ⟨_,by simp[Instr.sliceBounds,na kk m (fs.length-l0) _ (by omega) b4,na q2 hh m.toNat _ (by omega) (by omega),na q1 ll hh.toNat _ b1 (by omega)];rfl⟩
   obtain ⟨⟨r1,dP,qz⟩,hsb⟩:=hsb;have hrun:∃ v,(Instr.sliceAt t (a.eval y) (lo.map a.eval) (hi.map a.eval) (mx.map a.eval)).run c.P w=.ok v w:=by
    rw[hval];exact ⟨_,by simp only[Instr.sliceAt,Instr.slice,Sem.run_bind,run_underlying hu,Result.andThen_ok,hsb,jw hi0,Sem.run_pure,zy5];rfl⟩
   obtain ⟨v,hrun⟩:=hrun;exact ⟨v,by simp only[execOp,ho,Sem.run_bind,hrun];rfl,by simp[aV]⟩
  ·cases hx
theorem ahu{t e:TypeId}{y z:Operand}{y' z':aM}{i:TypeInfo}{fs:List I}{n:Nat}{p:List Nat}{sz lo k:Nat}{kk:IntKind}{j:Int}(ho:o.op=.indexAddr t y z)(hu:c.P.underlying t=some (.slice e))(hi:c.P.info? e=some i)
  (hy:bH c.P 0 y=some y') (hz:bH c.P 0 z=some z') (hsz:sz=c.P.cellsOf e) (h:ah A y'=.view n p sz lo k) (ae:cD A (.ptr n p)=some (.agg fs)) (h':ah A z'=.int kk j) (hj:0≤j∧j<k):dR c A o (.ptr n (p++[lo+j.toNat])) :=
 .same fun a w D E hs=>by
  have h0:=ca hs hy;rw[h] at h0;have h1':=ca hs hz;rw[h'] at h1';obtain ⟨yy,b,cs,T,off,c1,c2,c3,k1,k2,k3,k4,k5,k6,k7,k8,k9,k10,k11,k12,hval⟩:=hs.view h0 ae;refine ⟨.pointer (some ⟨b,off+lo*sz+j.toNat*c.P.cellsOf e,none⟩),by simp only[execOp,ho,hval,(fC h1').1,Sem.run_bind,zg hu hi hj];rfl,?_⟩;refine ⟨_,by simp[bM,I.isAgg];rfl,?_⟩;simp only[ai];refine ⟨b,yy.aS,off+(lo+j.toNat)*sz,k2,?_,by rw[zu1,←Nat.add_assoc,hsz]⟩;have hl:lo+j.toNat<fs.length:=by omega
  rw[cW.uf p yy.aS off (lo+j.toNat) _ k5 (nd p yy _ k4) (by rw[I.dy];simpa using hl),I.dy,←List.map_take,←I.dy,I.nf,ph fs _ k10 (by omega)]
theorem xL{ty:TypeId}{y:Operand}{y':aM}{n:Nat}{e:TypeId}(ho:o.op=.call { callee:=.builtin .cap,args := #[y],argTypes := #[ty] })(hu:c.P.underlying ty=some (.slice e))
  (hy:bH c.P ty y=some y') (h:∀ a w D E,aU c A a w D E→∀ v,aV w D E (ah A y') v→n≤maxLen∧∃ ad l,v=.slice ad l n):dR c A o (.int .i64 n) :=
 .same fun a w D E hs=>by
  obtain ⟨h0,ad,l,hv⟩:=h a w D E hs _ (ca hs hy);exact ⟨.int .i64 n,by simp[execOp,ho,resolve,invoke,builtin,Builtin.cap_,run_underlying hu,hv,goInt],lp (yg h0)⟩
theorem ahh{t e:TypeId}{i:TypeInfo}(ho:o.op=.buildSlice t 0 #[])(hu:c.P.underlying t=some (.slice e))(hi:c.P.info? e=some i):dR c A o (.c0 (c.P.cellsOf e)):=by
 intro a w D E hs;have hs':=hs.newRow (.cells #[] e);refine ⟨.slice (some ⟨w.heap.size,0,none⟩) 0 0,_,_,?_,hs',⟨_,by simp[bM,I.isAgg];rfl,by simp only[ai];exact ⟨_,rfl⟩⟩⟩;simp[execOp,ho,Instr.buildSlice,run_underlying hu,jw hi,newRow,Instr.fill,show (Array.range 0) = #[] from rfl]
theorem ai2{neg:Bool}{t e:TypeId}{y z:Operand}{y':aM}{yt:TypeId}{s:Nat}(ho:o.op=.binOp (if neg then .neq else .eql) t y z yt)(hu:c.P.underlying t=some (.slice e))(hy:bH c.P 0 y=some y')(hz:bH c.P 0 z=some (.c (.nils s)))
  (h:∃ sz,ah A y'=.slice sz []∨ah A y'=.c0 sz) {a:Act} {w:World} {D:aT} {E:aW} (hs:aU c A a w D E):∃ b,(execOp a.eval o).run c.P w=.ok (.value (.bool b)) w:=by
 have h0:=ca hs hy;have h1:aV w D E (.nils s) (a.eval z):=ca hs hz;have hv:∃ ad cp,a.eval y=.slice ad 0 cp:=by
  obtain ⟨sz,h | h⟩:=h <;>rw[h] at h0
  ·obtain ⟨ad,cap,e1,_⟩:=n9 h0;exact ⟨ad,cap,by simpa using e1⟩
  ·obtain ⟨cs,q1,q2⟩:=h0;simp only[ai] at q2;obtain ⟨ad,q2⟩:=q2;exact ⟨ad,0,by simpa[bM,I.isAgg,q2] using q1.symm⟩
 obtain ⟨ad,cp,hyv⟩:=hv;have hv:a.eval z=.slice none 0 0:=by
  obtain ⟨cs,q1,q2⟩:=h1;simp only[ai] at q2;simpa[bM,I.isAgg,q2] using q1.symm
 have he:∀ d,(Op.equalIn (d+1) t (.slice ad 0 cp) (.slice none 0 0)).run c.P w=.ok ad.isNone w:=fun d=>by
  cases ad <;>simp[Op.equalIn,run_underlying hu]
 refine ⟨if neg then !ad.isNone else ad.isNone,?_⟩;cases neg <;>simp only[execOp,ho,hyv,hv,if_true,zz6,if_false,Sem.run_bind,eqGuard] <;>simp[binOp,Op.equal,Op.maxDepth,he]
def iP(y:I)(p:List Nat)(j:Nat)(fs ys:List I):I:=y.dM p (.agg (fs.take j++(ys++fs.drop (j+ys.length))))
theorem Xl{t e:TypeId}{y:Operand}{y':aM}{z:I}{n:Nat}{p:List Nat}{lo k:Nat}{b:I}{fs:List I}(ho:o.op=.call { callee:=.builtin .clear,args := #[y],argTypes := #[t] })(hu:c.P.underlying t=some (.slice e))(hy:bH c.P t y=some y')
  (hz:gf c.P e=some z) (hv:ah A y'=.view n p (c.P.cellsOf e) lo k) (hn:A.o n=some (.box b)) (hat:b.at p=some (.agg fs)) (hsh:I.cU (List.replicate k z)=I.cU ((fs.drop lo).take k)) (ae:o.dst=none) :
  iw c A o (A.aO n (.box (iP b p lo fs (List.replicate k z)))):=by
 intro a w D E hs;obtain ⟨i,zv,hi,hzv,hzr⟩:=mA hz;have h0:=ca hs hy;rw[hv] at h0;have hx:cD A (.ptr n p)=some (.agg fs):=by simp only[cD,hn,hat]
 obtain ⟨yy,bk,cs,T,off,c1,c2,c3,k1,k2,k3,k4,k5,k6,k7,k8,k9,k10,k11,k12,hval⟩:=hs.view h0 hx;rw[hn] at k1;simp only[t7,aj.box.injEq] at k1;subst k1;have hr:aL w D E (List.replicate k z) (Builtin.zeroCells zv.cells k).toList:=by
  rw[uZ];exact rS (hzr w D E) k
 obtain ⟨w',h1,h2⟩:=hs.iP (j:=lo) (ys:=List.replicate k z) hn k2 k3 k4 k5 k6 k7 k8 k9 k10 hr (by simpa using k11) (by simpa using hsh) c.P;cases k with
 |zero =>
  refine ⟨w,.inl ⟨.tuple #[],?_,D,E,?_⟩⟩
  ·simp[execOp,ho,resolve,invoke,builtin,Builtin.clear_,run_underlying hu,hval]
  ·rw[ae];have:iP b p lo fs (List.replicate 0 z)=b.dM p (.agg fs):=by simp[iP]
   have hw:w'=w:=by
    simp[Builtin.zeroCells,storeCells] at h1;exact h1.symm
   rw[hw] at h2;exact h2
 |succ k =>
  refine ⟨w',.inl ⟨.tuple #[],?_,D,E,?_⟩⟩
  ·simp[execOp,ho,resolve,invoke,builtin,Builtin.clear_,run_underlying hu,hval,zeroValue,typeInfo,hi,hzv,h1]
  ·rw[ae];exact h2
theorem Xm{t e:TypeId}{y x:Operand}{y' x':aM}{n:Nat}{p:List Nat}{lo k m:Nat}{b:I}{fs ys:List I}(ho:o.op=.call { callee:=.builtin .copy,args := #[y,x],argTypes := #[t,t] })(hu:c.P.underlying t=some (.slice e))(hi:(c.P.info? e).isSome=true)
  (hy:bH c.P t y=some y') (hx:bH c.P t x=some x') (hv:ah A y'=.view n p (c.P.cellsOf e) lo k) (hn:A.o n=some (.box b)) (hat:b.at p=some (.agg fs)) (hs:eD A (c.P.cellsOf e) (ah A x')=some ys) (hm:m=min ys.length k)
  (hsh:I.cU (ys.take m)=I.cU ((fs.drop lo).take m)) (hdn:∀ k,o.dst=some k→k<c.n) :
  iw c A o ((A.aO n (.box (iP b p lo fs (ys.take m)))).aP o.dst (.int .i64 m)):=by
 intro a w D E hsim;obtain ⟨i,hi⟩:=zw2.1 hi;have h0:=ca hsim hy;rw[hv] at h0;have hxx:cD A (.ptr n p)=some (.agg fs):=by simp only[cD,hn,hat]
 obtain ⟨yy,bk,cs,T,off,c1,c2,c3,k1,k2,k3,k4,k5,k6,k7,k8,k9,k10,k11,k12,hval⟩:=hsim.view h0 hxx;rw[hn] at k1;simp only[t7,aj.box.injEq] at k1;subst k1;obtain ⟨ad,cp,news,s1,s2,s3,s4,s5,s6⟩:=hsim.od (ca hsim hx) hs;have hmy:m≤ys.length:=by omega
 have hci:c.P.cellsOf e=i.size:=by simp[Program.cellsOf,hi]
 obtain ⟨d1,d2,d3,e1,e2,e3,e4⟩:=uz s4 s5 0 m (by omega);simp only[Nat.zero_mul,List.drop_zero] at e2 e3;have e2':d1=[]:=List.eq_nil_of_length_eq_zero e2;subst e2';simp only[zy7] at e1;have hlen:(ys.take m).length=m:=by rw[zy8];omega
 have hd2:d2.length=m*i.size:=by rw[aL.length _ _ e3,I.iq (sz:=c.P.cellsOf e) _ (fun y hy=>s5 y (List.mem_of_mem_take hy)),hlen,hci]
 obtain ⟨w',h1,h2⟩:=hsim.iP (j:=lo) (ys:=ys.take m) hn k2 k3 k4 k5 k6 k7 k8 k9 k10 e3 (by rw[hlen];omega) (by rw[hlen];exact hsh) c.P;have hf:(Builtin.firstCells i.size m (.slice ad ys.length cp)).run c.P w=.ok d2.toArray w:=by
  by_cases hm0:m=0
  ·have:d2=[]:=List.eq_nil_of_length_eq_zero (by rw[hd2,hm0];simp);subst this;cases ad with
   |none=>exact run_firstCells_none _ _ _ _ _
   |some ad=>exact run_firstCells_some w i.size m ad ys.length cp [] (by simp[hm0]) (by simp)
  ·obtain ⟨b2,o2,rfl,hr⟩:=s6 (fun h=>by rw[h] at hmy;simp at hmy;omega);refine run_firstCells_some w i.size m _ ys.length cp d2 hd2 fun j v hj =>?_;rw[Addr.add_lit];refine hr j v ?_;rw[e1,zx0 (zy4.1 hj).1];exact hj
 have h63:m≤maxLen:=by omega
 refine ⟨w',.inl ⟨.int .i64 m,?_,D,E,h2.aP hdn (lp (yg h63))⟩⟩;have hmin:Nat.min ys.length k=m:=hm.symm;rw[←hci] at hf;simp only[execOp,ho,resolve,invoke,builtin,Sem.run_bind,Sem.run_pure,Result.andThen_ok,List.map_toArray,zz9,zx3,hval,s1];simp[Builtin.copy_,run_underlying hu,Builtin.lenOf,hmin,jw hi,hf,h1,goInt]
theorem pJ{a:Act}{w:World}{D:aT}{E:aW}(hs:aU c A a w D E){sz:Nat}{x:I}{v:Value}{es:List I}(hv:aV w D E x v)(he:eD A sz x=some es) :
  ∃ ad cp olds,v=.slice ad es.length cp∧es.length≤cp∧cp≤maxLen∧aL w D E es olds∧(∀ y∈es,y.size=sz)∧∀ (P:Program) (w':World),(∀ p u,w.cell? p=some u→w'.cell? p=some u)→(Builtin.firstCells sz es.length v).run P w'=.ok olds.toArray w':=by
 obtain ⟨ad,cp,news,s1,s2,s3,s4,s5,s6⟩:=hs.od hv he;refine ⟨ad,cp,news,s1,s2,s3,s4,s5,fun P w' hw =>?_⟩;have hl:news.length=es.length*sz:=by rw[aL.length _ _ s4,I.iq _ s5]
 rw[s1];by_cases h0:es=[]
 ·subst h0;have:news=[]:=List.eq_nil_of_length_eq_zero (by rw[hl];simp);subst this;cases ad with
  |none=>exact run_firstCells_none _ _ _ _ _
  |some ad=>exact run_firstCells_some w' sz _ ad _ cp [] (by simp) (by simp)
 ·obtain ⟨b,o',rfl,hr⟩:=s6 h0;exact run_firstCells_some w' sz _ _ _ cp news hl fun j v hj=>by rw[Addr.add_lit];exact hw _ _ (hr j v hj)
theorem PF{t e:TypeId}{s x:Operand}{s' x':aM}{es ys:List I}{z:I}{d:Nat}(ho:o.op=.call { callee:=.builtin .append,args := #[s,x],argTypes := #[t,t] })(hu:c.P.underlying t=some (.slice e))(hs':bH c.P t s=some s')(hx':bH c.P t x=some x')
  (hz:gf c.P e=some z) (hzs:z.size=c.P.cellsOf e) (hse:eD A (c.P.cellsOf e) (ah A s')=some es) (hsx:eD A (c.P.cellsOf e) (ah A x')=some ys) (hby:(es.length+ys.length)*c.P.bytesOf e≤140737488355328)
  (ae:o.dst=some d) (hdn:d<c.n) (hf:A.o d=none) (hne:ys≠[]) {a:Act} {w:World} {D:aT} {E:aW} (hsim:aU c A a w D E) (hfull:∀ ad l cp,a.eval s=.slice ad l cp→cp<l+ys.length) (hml:es.length+ys.length≤maxLen) :
  ∃ v w' m,(execOp a.eval o).run c.P w=.ok (.value v) w'∧es.length+ys.length+m≤maxLen ∧
   ct c ((A.aO d (.box (.agg (es++(ys++List.replicate m z))))).aP o.dst (.view d [] (c.P.cellsOf e) 0 (es.length+ys.length))) (a.put o.dst v) w':=by
 obtain ⟨i,zv,hi,hzv,hzr⟩:=mA hz;have hci:c.P.cellsOf e=i.size:=by simp[Program.cellsOf,hi]
 have hbi:c.P.bytesOf e=i.bytes:=by simp[Program.bytesOf,hi]
 obtain ⟨ad1,cp1,olds,s1,s2,s3,s4,s5,s6⟩:=pJ hsim (ca hsim hs') hse;obtain ⟨ad2,cp2,news,t1,t2,t3,t4,t5,t6⟩:=pJ hsim (ca hsim hx') hsx;have hlt:=hfull _ _ _ s1;obtain ⟨m,hm⟩:∃ m,m=grownCap w (es.length+ys.length) cp1 e-(es.length+ys.length):=⟨_,rfl⟩
 have hge:=grownCap_ge w (es.length+ys.length) cp1 e;have hle:=grownCap_le_maxLen w (es.length+ys.length) cp1 e hml;obtain ⟨cells,hcells⟩:∃ cells:Array Value,cells=olds.toArray++news.toArray++Builtin.zeroCells zv.cells m:=⟨_,rfl⟩
 have hrun:(Builtin.append_ #[t,t] o.type #[a.eval s,a.eval x]).run c.P w=.ok (.slice (some ⟨w.heap.size,0,none⟩) (es.length+ys.length) (grownCap w (es.length+ys.length) cp1 e)) (w.drew.alloc (.cells cells e)):=by
  have hn:¬ (es.length+ys.length≤cp1):=by omega
  have h63:¬ (9223372036854775807<((es.length:Int)+(ys.length:Int))):=by simp only[maxLen] at hml;omega
  have h48:¬ (281474976710656<Builtin.nextslicecap (es.length+ys.length) cp1*i.bytes):=by
   have h3:(es.length+ys.length)*i.bytes≤140737488355328:=by rw[←hbi];exact hby
   have:=growslice_fits hlt h3;omega
  have g1:=s6 c.P w.drew (fun _ _ h=>h);have g2:=t6 c.P w.drew (fun _ _ h=>h);rw[s1,hci] at g1;rw[t1,hci] at g2;rw[s1,t1,hcells,hm];simp[Builtin.append_,run_underlying hu,sizeOf,typeInfo,zeroValue,hi,hzv,Builtin.lenOf,hn,h63,h48,Question.forced,g1,g2,newRow,grownCap]
  congr 2
  apply Array.ext';simp[zz5]
 have hcl:cells.toList=olds++(news++(List.replicate m zv.cells.toList).flatten):=by
  rw[hcells];simp[uZ]
 have hrc:ai w D E (.agg (es++(ys++List.replicate m z))) cells.toList:=by
  rw[hcl];simp only[ai];exact kL _ _ _ _ s4 (kL _ _ _ _ t4 (rS (hzr w D E) m))
 have hsim':aU c A a w.drew D E:=hsim.grow ⟨rfl,rfl,rfl,zz8 _,fun _ _=>rfl⟩ (fun _ _ h=>h) (fun _ _ h _=>h) (fun b o h=>hsim.dm b o h);have hrc':ai w.drew D E (.agg (es++(ys++List.replicate m z))) cells.toList:=ai.bN (w:=w) (w':=w.drew) (D:=D) (E:=E) ⟨fun _ _ h=>h,fun _ _ _ _ h=>h,fun _ _ _ h=>h,fun _ aE l h=>⟨aE,l,h,zz8 _,fun _=>rfl⟩,fun _ _ h=>h,fun _ _ h=>h,fun _ _ _ _ h=>h⟩ _ _ hrc;have h1:=hsim'.rG (T:=e) (.inl hdn) hf hrc';have hall:∀ y∈es++(ys++List.replicate m z),y.size=c.P.cellsOf e:=by
  intro y hy;rcases zy6.1 hy with hy | hy
  ·exact s5 y hy
  ·rcases zy6.1 hy with hy | hy
   ·exact t5 y hy
   ·rw[List.eq_of_mem_replicate hy];exact hzs
 have hlen:(es++(ys++List.replicate m z)).length=es.length+ys.length+m:=by simp[Nat.add_assoc]
 have h2:=h1.put (d:=d) (x:=.view d [] (c.P.cellsOf e) 0 (es.length+ys.length)) (v:=.slice (some ⟨w.heap.size,0,none⟩) (es.length+ys.length) (grownCap w (es.length+ys.length) cp1 e)) hdn ⟨_,by simp[bM,I.isAgg];rfl,by
  simp only[ai,if_true];refine ⟨w.heap.size,(I.agg (es++(ys++List.replicate m z))).aS,0,I.cU (es++(ys++List.replicate m z)),rfl,by cases (I.agg (es++(ys++List.replicate m z))).aS <;>simp[cW.off],by simp only[I.aS,cW.part],?_,?_,?_,?_⟩
  ·rw[I.dy,zy3,hlen,hm];simp;omega
  ·rw[I.dy,zy3,hlen];omega
  ·rw[I.dy,zy3,hlen];omega
  ·rw[I.dy];intro s hs;obtain ⟨f,hf,rfl⟩:=zx2.1 hs;rw[I.my];exact hall f hf⟩
 refine ⟨.slice (some ⟨w.heap.size,0,none⟩) (es.length+ys.length) (grownCap w (es.length+ys.length) cp1 e),w.drew.alloc (.cells cells e),m,?_,by omega,?_⟩
 ·unfold execOp;simp only[ho,resolve,invoke,builtin,Sem.run_bind,Sem.run_pure,Result.andThen_ok,List.map_toArray,zz9,zx3,hrun]
 ·rw[ae];exact ⟨D,_,h2⟩
theorem PL{t t' e:TypeId}{s x:Operand}{s' x':aM}{es:List I}{k:Nat}{kx kt:IntKind}{aX:Int}{z:I}{d:Nat}(ho:o.op=.call { callee:=.builtin .append,args := #[s,x],argTypes := #[t,t'] })(hu:c.P.underlying t=some (.slice e))(hs':bH c.P t s=some s')(hx':bH c.P t' x=some x')(ht':c.P.underlying t'=some (.int kt))(hvx:ah A x'=.int kx aX)(hk:aX.toNat=k)(hk0:0<k)(hpos:0<c.P.cellsOf e)
  (hz:gf c.P e=some z) (hzs:z.size=c.P.cellsOf e) (hse:eD A (c.P.cellsOf e) (ah A s')=some es) (hby:(es.length+k)*c.P.bytesOf e≤140737488355328)
  (ae:o.dst=some d) (hdn:d<c.n) (hf:A.o d=none) {a:Act} {w:World} {D:aT} {E:aW} (hsim:aU c A a w D E) (hfull:∀ ad l cp,a.eval s=.slice ad l cp→cp<l+k) (hml:es.length+k≤maxLen) :
  ∃ v w' m,(execOp a.eval o).run c.P w=.ok (.value v) w'∧es.length+k+m≤maxLen ∧
   ct c ((A.aO d (.box (.agg (es++(List.replicate k z++List.replicate m z))))).aP o.dst (.view d [] (c.P.cellsOf e) 0 (es.length+k))) (a.put o.dst v) w':=by
 obtain ⟨i,zv,hi,hzv,hzr⟩:=mA hz;have hci:c.P.cellsOf e=i.size:=by simp[Program.cellsOf,hi]
 have hbi:c.P.bytesOf e=i.bytes:=by simp[Program.bytesOf,hi]
 obtain ⟨ad1,cp1,olds,s1,s2,s3,s4,s5,s6⟩:=pJ hsim (ca hsim hs') hse;have v2:=ca hsim hx';rw[hvx] at v2;have t1:a.eval x=.int kx ((k:Nat):Int):=by rw[(fC v2).1];congr 1;omega
 have t4:aL w D E (List.replicate k z) (List.replicate k zv.cells.toList).flatten:=rS (hzr w D E) k;have t5:∀ y∈List.replicate k z,y.size=c.P.cellsOf e:=fun y hy=>by rw[List.eq_of_mem_replicate hy];exact hzs
 have hlt:=hfull _ _ _ s1;obtain ⟨m,hm⟩:∃ m,m=grownCap w (es.length+k) cp1 e-(es.length+k):=⟨_,rfl⟩
 have hge:=grownCap_ge w (es.length+k) cp1 e;have hle:=grownCap_le_maxLen w (es.length+k) cp1 e hml;obtain ⟨cells,hcells⟩:∃ cells:Array Value,cells=olds.toArray++Builtin.zeroCells zv.cells k++Builtin.zeroCells zv.cells m:=⟨_,rfl⟩
 have hrun:(Builtin.append_ #[t,t'] o.type #[a.eval s,a.eval x]).run c.P w=.ok (.slice (some ⟨w.heap.size,0,none⟩) (es.length+k) (grownCap w (es.length+k) cp1 e)) (w.drew.alloc (.cells cells e)):=by
  have h3:(es.length+k)*i.bytes≤140737488355328:=by rw[←hbi];exact hby
  have g1:=s6 c.P w.drew (fun _ _ h=>h);rw[s1,hci] at g1;have hfit:=growslice_fits hlt h3;have hkb:k*i.bytes≤(es.length+k)*i.bytes:=Nat.mul_le_mul_right _ (by omega);rw[s1,t1,hcells,hm];exact Lib.run_append_grow_zeros w t t' o.type e i zv kx kt hu ht' hi hzv ad1 es.length cp1 olds g1 k hk0 (by rw[←hci];exact hpos) hlt (by simp only[maxLen] at hml;omega) (by omega) (by omega)
 have hcl:cells.toList=olds++((List.replicate k zv.cells.toList).flatten++(List.replicate m zv.cells.toList).flatten):=by
  rw[hcells];simp[uZ]
 have hrc:ai w D E (.agg (es++(List.replicate k z++List.replicate m z))) cells.toList:=by
  rw[hcl];simp only[ai];exact kL _ _ _ _ s4 (kL _ _ _ _ t4 (rS (hzr w D E) m))
 have hsim':aU c A a w.drew D E:=hsim.grow ⟨rfl,rfl,rfl,zz8 _,fun _ _=>rfl⟩ (fun _ _ h=>h) (fun _ _ h _=>h) (fun b o h=>hsim.dm b o h);have hrc':ai w.drew D E (.agg (es++(List.replicate k z++List.replicate m z))) cells.toList:=ai.bN (w:=w) (w':=w.drew) (D:=D) (E:=E) ⟨fun _ _ h=>h,fun _ _ _ _ h=>h,fun _ _ _ h=>h,fun _ aE l h=>⟨aE,l,h,zz8 _,fun _=>rfl⟩,fun _ _ h=>h,fun _ _ h=>h,fun _ _ _ _ h=>h⟩ _ _ hrc;have h1:=hsim'.rG (T:=e) (.inl hdn) hf hrc';have hall:∀ y∈es++(List.replicate k z++List.replicate m z),y.size=c.P.cellsOf e:=by
  intro y hy;rcases zy6.1 hy with hy | hy
  ·exact s5 y hy
  ·rcases zy6.1 hy with hy | hy
   ·exact t5 y hy
   ·rw[List.eq_of_mem_replicate hy];exact hzs
 have hlen:(es++(List.replicate k z++List.replicate m z)).length=es.length+k+m:=by simp[Nat.add_assoc]
 have h2:=h1.put (d:=d) (x:=.view d [] (c.P.cellsOf e) 0 (es.length+k)) (v:=.slice (some ⟨w.heap.size,0,none⟩) (es.length+k) (grownCap w (es.length+k) cp1 e)) hdn ⟨_,by simp[bM,I.isAgg];rfl,by
  simp only[ai,if_true];refine ⟨w.heap.size,(I.agg (es++(List.replicate k z++List.replicate m z))).aS,0,I.cU (es++(List.replicate k z++List.replicate m z)),rfl,by cases (I.agg (es++(List.replicate k z++List.replicate m z))).aS <;>simp[cW.off],by simp only[I.aS,cW.part],?_,?_,?_,?_⟩
  ·rw[I.dy,zy3,hlen,hm];simp;omega
  ·rw[I.dy,zy3,hlen];omega
  ·rw[I.dy,zy3,hlen];omega
  ·rw[I.dy];intro s hs;obtain ⟨f,hf,rfl⟩:=zx2.1 hs;rw[I.my];exact hall f hf⟩
 refine ⟨.slice (some ⟨w.heap.size,0,none⟩) (es.length+k) (grownCap w (es.length+k) cp1 e),w.drew.alloc (.cells cells e),m,?_,by omega,?_⟩
 ·unfold execOp;simp only[ho,resolve,invoke,builtin,Sem.run_bind,Sem.run_pure,Result.andThen_ok,List.map_toArray,zz9,zx3,hrun]
 ·rw[ae];exact ⟨D,_,h2⟩
theorem Xh{t e:TypeId}{s x:Operand}{s' x':aM}{ys:List I}{n:Nat}{p:List Nat}{lo k:Nat}{b:I}{fs:List I}(ho:o.op=.call { callee:=.builtin .append,args := #[s,x],argTypes := #[t,t] })(hu:c.P.underlying t=some (.slice e))(hi:(c.P.info? e).isSome=true)
  (hs':bH c.P t s=some s') (hx':bH c.P t x=some x') (hv:ah A s'=.view n p (c.P.cellsOf e) lo k) (hn:A.o n=some (.box b)) (hat:b.at p=some (.agg fs)) (hsx:eD A (c.P.cellsOf e) (ah A x')=some ys) (hroom:lo+k+ys.length≤fs.length)
  (hsh:I.cU ys=I.cU ((fs.drop (lo+k)).take ys.length)) (hdn:∀ k,o.dst=some k→k<c.n) :
  iw c A o ((A.aO n (.box (iP b p (lo+k) fs ys))).aP o.dst (.view n p (c.P.cellsOf e) lo (k+ys.length))):=by
 intro a w D E hsim;obtain ⟨i,hi⟩:=zw2.1 hi;have hci:c.P.cellsOf e=i.size:=by simp[Program.cellsOf,hi]
 have h0:=ca hsim hs';rw[hv] at h0;have hxx:cD A (.ptr n p)=some (.agg fs):=by simp only[cD,hn,hat]
 obtain ⟨yy,bk,cs,T,off,c1,c2,c3,k1,k2,k3,k4,k5,k6,k7,k8,k9,k10,k11,k12,hval⟩:=hsim.view h0 hxx;rw[hn] at k1;simp only[t7,aj.box.injEq] at k1;subst k1;obtain ⟨ad2,cp2,news,t1,t2,t3,t4,t5,t6⟩:=pJ hsim (ca hsim hx') hsx;obtain ⟨w',h1,h2⟩:=hsim.iP (j:=lo+k) (ys:=ys) hn k2 k3 k4 k5 k6 k7 k8 k9 k10 t4 hroom hsh c.P;have g2:=t6 c.P w (fun _ _ h=>h);rw[t1,hci] at g2;have hr:k+ys.length≤fs.length-lo:=by omega
 refine ⟨w',.inl ⟨.slice (some ⟨bk,off+lo*c.P.cellsOf e,none⟩) (k+ys.length) (fs.length-lo),?_,D,E,h2.aP hdn ?_⟩⟩
 ·have e1:off+lo*i.size+k*i.size=off+(lo+k)*c.P.cellsOf e:=by rw[hci,zu1];omega
  unfold execOp;simp only[ho,resolve,invoke,builtin,Sem.run_bind,Sem.run_pure,Result.andThen_ok,List.map_toArray,zz9,zx3,hval,t1];simp[Builtin.append_,run_underlying hu,sizeOf,typeInfo,hi,Builtin.lenOf,hr,g2,Addr.add_lit,hci,e1];rw[hci] at h1;simp[h1]
 ·refine ⟨_,by simp[bM,I.isAgg];rfl,?_⟩;simp only[ai];refine ⟨bk,b.aS,off,I.cU fs,k2,k5,nd p b _ k4,?_,?_,?_,?_⟩
  ·rw[I.dy,zy3]
  ·rw[I.dy,zy3];exact k12
  ·rw[I.dy,zy3];omega
  ·rw[I.dy];intro s hs;obtain ⟨f,hf,rfl⟩:=zx2.1 hs;rw[I.my];exact k10 f hf
theorem Xi{t e:TypeId}{s x:Operand}{s' x':aM}{es:List I}(ho:o.op=.call { callee:=.builtin .append,args := #[s,x],argTypes := #[t,t] })(hu:c.P.underlying t=some (.slice e))(hi:(c.P.info? e).isSome=true)(hs':bH c.P t s=some s')(hx':bH c.P t x=some x')
  (hse:eD A (c.P.cellsOf e) (ah A s')=some es) (hsx:eD A (c.P.cellsOf e) (ah A x')=some []):dR c A o (ah A s') :=
 .same fun a w D E hsim=>by
  obtain ⟨i,hi⟩:=zw2.1 hi;have hci:c.P.cellsOf e=i.size:=by simp[Program.cellsOf,hi]
  obtain ⟨ad1,cp1,olds,s1,s2,s3,s4,s5,s6⟩:=pJ hsim (ca hsim hs') hse;obtain ⟨ad2,cp2,news,t1,t2,t3,t4,t5,t6⟩:=pJ hsim (ca hsim hx') hsx;have g2:=t6 c.P w (fun _ _ h=>h);rw[t1,hci] at g2;simp only[aL] at t4;subst t4;refine ⟨a.eval s,?_,ca hsim hs'⟩;simp only[List.length_nil] at g2 t1;unfold execOp;simp only[ho,resolve,invoke,builtin,Sem.run_bind,Sem.run_pure,Result.andThen_ok,List.map_toArray,zz9,zx3,s1,t1];cases ad1 <;>simp[Builtin.append_,run_underlying hu,sizeOf,typeInfo,hi,Builtin.lenOf,s2,g2,storeCells]
end
end Go.Abs
