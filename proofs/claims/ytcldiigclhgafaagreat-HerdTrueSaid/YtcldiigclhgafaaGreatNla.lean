/-
  A part of the proof that the law HerdTrue returns true for every input; conditions: none beyond the statement's own. (part 1 of 7)
-/
import Derived.WalkKit
import Derived.Orders
import Derived.Still
import Derived.RangeFuncSeq
import Derived.RangeFuncLeaves
import Derived.RangeFuncOwn
import Derived.Great.FillDense
import Derived.Great.BuildSlice
import Derived.ChangeKeysEq
import Derived.Laws.AppendOwn
import Derived.Lib.AppendZerosOnto
set_option linter.unusedSimpArgs false
set_option linter.unusedVariables false
set_option maxHeartbeats 16000000
set_option maxRecDepth 100000
namespace Go
theorem v6:type_of% @And.intro:=@And.intro
theorem u8:type_of% @Option.some.injEq:=@Option.some.injEq
theorem t7:type_of% @Nat.le_of_ble_eq_true:=@Nat.le_of_ble_eq_true
theorem zz0:type_of% @Option.map_eq_some_iff:=@Option.map_eq_some_iff
theorem zz1:type_of% @List.getD_eq_getElem?_getD:=@List.getD_eq_getElem?_getD
theorem zz2:type_of% @Bool.and_eq_true:=@Bool.and_eq_true
theorem zz3:type_of% @List.append_assoc:=@List.append_assoc
theorem zz4:type_of% @Nat.zero_add:=@Nat.zero_add
theorem zz5:type_of% @List.length_append:=@List.length_append
theorem zz6:type_of% @Nat.le_refl:=@Nat.le_refl
theorem zz7:type_of% @Bool.false_eq_true:=@Bool.false_eq_true
theorem zz8:type_of% @List.getElem?_eq_getElem:=@List.getElem?_eq_getElem
theorem zz9:type_of% @List.map_cons:=@List.map_cons
theorem zy0:type_of% @List.cons_append:=@List.cons_append
theorem zy1:type_of% @List.length_map:=@List.length_map
theorem zy2:type_of% @List.all_eq_true:=@List.all_eq_true
theorem zy3:type_of% @Option.map_some:=@Option.map_some
theorem zy4:type_of% @List.getElem?_eq_some_iff:=@List.getElem?_eq_some_iff
theorem zy5:type_of% @List.take_succ_eq_append_getElem:=@List.take_succ_eq_append_getElem
theorem zy6:type_of% @List.getElem_mem:=@List.getElem_mem
theorem zy7:type_of% @List.mem_append:=@List.mem_append
theorem zy8:type_of% @List.nil_append:=@List.nil_append
theorem zy9:type_of% @List.take_append_drop:=@List.take_append_drop
theorem zx0:type_of% @List.length_drop:=@List.length_drop
theorem zx1:type_of% @List.getElem?_append_left:=@List.getElem?_append_left
theorem zx2:type_of% @List.map_nil:=@List.map_nil
theorem zx3:type_of% @List.length_take:=@List.length_take
theorem zx4:type_of% @List.mem_range:=@List.mem_range
theorem zx5:type_of% @List.mem_map:=@List.mem_map
theorem zx6:type_of% @List.map_append:=@List.map_append
theorem zx7:type_of% @List.getElem?_map:=@List.getElem?_map
theorem zx8:type_of% @Array.getElem?_eq_some_iff:=@Array.getElem?_eq_some_iff
theorem zx9:type_of% @List.getElem?_append_right:=@List.getElem?_append_right
theorem zw0:type_of% @Option.isSome_iff_exists:=@Option.isSome_iff_exists
theorem zw1:type_of% @List.append_nil:=@List.append_nil
theorem zw2:type_of% @List.filter_cons:=@List.filter_cons
theorem zw3:type_of% @Bool.and_self:=@Bool.and_self
theorem zw4:type_of% @List.take_append_of_le_length:=@List.take_append_of_le_length
theorem zw5:type_of% @List.mem_filter:=@List.mem_filter
theorem zw6:type_of% @List.take_of_length_le:=@List.take_of_length_le
theorem zw7:type_of% @List.drop_eq_nil_of_le:=@List.drop_eq_nil_of_le
theorem zw8:type_of% @Array.length_toList:=@Array.length_toList
theorem zw9:type_of% @List.mem_cons:=@List.mem_cons
theorem zv0:type_of% @Array.getElem?_toList:=@Array.getElem?_toList
theorem zv1:type_of% @List.length_eq_zero_iff:=@List.length_eq_zero_iff
theorem zv2:type_of% @List.drop_eq_getElem_cons:=@List.drop_eq_getElem_cons
theorem zv3:type_of% @List.length_filter_le:=@List.length_filter_le
theorem zv4:type_of% @Nat.zero_le:=@Nat.zero_le
theorem zv5:type_of% @List.length_cons:=@List.length_cons
theorem zv6:type_of% @List.getElem_of_mem:=@List.getElem_of_mem
theorem zv7:type_of% @Nat.le_trans:=@Nat.le_trans
theorem zv8:type_of% @Nat.add_mul:=@Nat.add_mul
end Go
namespace Go.Abs
open Go
inductive I where
 |undef | c8
 |bool (b:Bool)
 |int (k:IntKind) (n:Int)
 |cQ (s:ByteArray)
 |nilp | da | dN
 |raw (v:Value)
 |nils (sz:Nat)
 |c0 (sz:Nat)
 |slice (sz:Nat) (es:List I)
 |agg (fs:List I)
 |tuple (fs:List I)
 |ref (c:I)
 |func (f:FuncId) (caps:List I)
 |iface (t:TypeId) (v:I)
 |ptr (n:Nat) (p:List Nat)
 |own (n:Nat) (k:Nat)
 |view (n:Nat) (p:List Nat) (sz lo k:Nat)
 |mref (n:Nat)
 |dj (n:Nat)
 |cL (ks vs:List I)
 deriving Inhabited
inductive cJ where
 |one
 |dU (l:List cJ)
 deriving Inhabited
mutual
def cJ.size:cJ→Nat
 | .one=>1
 | .dU l=>cJ.sizes l
def cJ.sizes:List cJ→Nat
 | []=>0
 |s::l=>s.size+cJ.sizes l
end
mutual
def I.aJ:I→cJ
 | .agg fs=>.dU (I.cN fs)
 |_=>.one
def I.cN:List I→List cJ
 | []=>[]
 |f::fs=>f.aJ::I.cN fs
end
mutual
def I.size:I→Nat
 | .agg fs=>I.sizes fs
 |_=>1
def I.sizes:List I→Nat
 | []=>0
 |f::fs=>f.size+I.sizes fs
end
def I.isAgg:I→Bool
 | .agg _=>true
 |_=>false
def cJ.off:cJ→List Nat→Option Nat
 |_,[]=>some 0
 | .one,_::_=>none
 | .dU l,i::p=>match l[i]? with
  |some s=>(s.off p).map (cJ.sizes (l.take i) + ·)
  |none=>none
def cJ.part:cJ→List Nat→Option cJ
 |s,[]=>some s
 | .one,_::_=>none
 | .dU l,i::p=>match l[i]? with
  |some s=>s.part p
  |none=>none
def I.at:I→List Nat→Option I
 |c,[]=>some c
 | .agg fs,i::p=>match fs[i]? with
  |some f=>f.at p
  |none=>none
 |_,_::_=>none
def I.dx:I→List Nat→I→I
 |_,[],v=>v
 | .agg fs,i::p,v=>match fs[i]? with
  |some f=>.agg (fs.set i (f.dx p v))
  |none=>.agg fs
 |c,_::_,_=>c
inductive bS where
 |aB (b:Nat) (aJ:cJ)
 |rw (aD:Option (Nat×Nat)) (len:Nat)
 |op (b:Nat)
 |cq (b:Nat)
 |it (b:Nat)
def bS.eH:bS→Bool
 | .rw _ _=>false
 |_=>true
def bS.le(e e':bS):Prop:=e'=e∨∃ aD l blk' l',e=.rw aD l∧e'=.rw blk' l'∧l≤l'∧(l'=l→blk'=aD)
theorem bS.le.refl(e:bS):e.le e:=.inl rfl
theorem bS.le.eq{e e':bS}(h:e.le e')(hf:e.eH=true):e'=e:=by
 rcases h with h | ⟨aD,l,blk',l',rfl,_⟩
 ·exact h
 ·cases hf
theorem bS.le.trans{a b c:bS}(h:a.le b)(k:b.le c):a.le c:=by
 rcases h with rfl | ⟨aD,l,blk',l',rfl,rfl,h1,h2⟩
 ·exact k
 ·rcases k with rfl | ⟨_,_,blk2,l2,e,rfl,h3,h4⟩
  ·exact .inr ⟨aD,l,blk',l',rfl,rfl,h1,h2⟩
  ·cases e;exact .inr ⟨aD,l,blk2,l2,rfl,rfl,by omega,fun e=>by rw[h4 (by omega),h2 (by omega)]⟩
abbrev aL:=Nat→Nat→Prop
abbrev aT:=Nat→Option bS
def gq(w:World)(D:aL)(b off:Nat)(cs:List Value):Prop :=
 ∀ j v,cs[j]?=some v→w.cell? ⟨b,off+j,none⟩=some v∧D b (off+j)
def pQ(es:Array MapEntry)(clock:Nat):Prop:=(∀ x∈es.toList,x.born<clock)∧(es.toList.map (·.born)).Nodup
def nX(w:World)(D:aL)(b:Nat)(es:Array MapEntry)(clock:Nat):Prop:=w.heap[b]?=some (.map es clock)∧D b 0∧pQ es clock
def bG(e:I)(v:Value)(cs:List Value):Prop:=if e.isAgg then v=.agg cs.toArray else cs=[v]
mutual
/-- These cells hold this value. -/
def af(w:World)(D:aL)(E:aT):I→List Value→Prop
 | .agg fs,cs=>aG w D E fs cs
 | .bool b,cs=>cs=[.bool b]
 | .int k n,cs=>cs=[.int k n]∧k.min≤n∧n≤k.max
 | .cQ s,cs=>cs=[.string s]∧s.size≤maxLen
 | .nilp,cs=>cs=[.pointer none]
 | .da,cs=>cs=[.nilFunc]
 | .dN,cs=>cs=[.nilIface]
 | .raw ao,cs=>cs=[ao]∧ao.oneCell'=true
 | .nils _,cs=>cs=[.slice none 0 0]
 | .c0 _,cs=>∃ a,cs=[.slice a 0 0]
 | .slice sz es,cs=>∃ a cap,cs=[.slice a es.length cap]∧es.length≤cap∧cap≤maxLen ∧
   (es=[]∨∃ b off cs',a=some ⟨b,off,none⟩∧gq w D b off cs'∧aG w D E es cs')∧∀ e∈es,e.size=sz
 | .ref c,cs=>∃ b off cs',cs=[.pointer (some ⟨b,off,none⟩)]∧gq w D b off cs'∧af w D E c cs'
 | .func f caps,cs=>∃ vs:List Value,cs=[.func (.func f) #[] vs.toArray]∧aE w D E caps vs
 | .iface t v,cs=>∃ ao cs',cs=[.iface t ao]∧bG v ao cs'∧af w D E v cs'
 | .ptr n p,cs=>∃ b aJ off,E n=some (.aB b aJ)∧aJ.off p=some off∧cs=[.pointer (some ⟨b,off,none⟩)]
 | .own n k,cs=>∃ aD l,E n=some (.rw aD l)∧k≤l∧(∃ a m c,cs=[.slice a m c]) ∧
   (k=l→match aD with | none=>cs=[.slice none 0 0] | some (b,cap)=>cs=[.slice (some ⟨b,0,none⟩) k cap])
 | .view n p sz lo k,cs=>∃ b aJ off l,E n=some (.aB b aJ)∧aJ.off p=some off∧aJ.part p=some (.dU l)∧cs=[.slice (some ⟨b,off+lo*sz,none⟩) k (l.length-lo)]∧l.length≤maxLen∧lo+k≤l.length∧∀ s∈l,s.size=sz
 | .mref n,cs=>∃ b,E n=some (.cq b)∧cs=[.map (some b)]
 | .dj n,cs=>∃ b,E n=some (.it b)∧cs=[.pointer (some ⟨b,0,none⟩)]
 | .cL ks vs,cs=>∃ b es clock,cs=[.map (some b)]∧nX w D b es clock∧aE w D E ks (es.toList.map (·.key))∧aE w D E vs (es.toList.map (·.val))
 | .undef,_ | .c8,_ | .tuple _,_=>False
def aG(w:World)(D:aL)(E:aT):List I→List Value→Prop
 | [],cs=>cs=[]
 |e::es,cs=>∃ c1 c2,cs=c1++c2∧af w D E e c1∧aG w D E es c2
def aE(w:World)(D:aL)(E:aT):List I→List Value→Prop
 | [],vs=>vs=[]
 |e::es,vs=>∃ v rest cs,vs=v::rest∧bG e v cs∧af w D E e cs∧aE w D E es rest
end
def aS(w:World)(D:aL)(E:aT)(x:I)(v:Value):Prop :=
 match x with
 | .undef=>v=undef
 | .c8=>True
 | .tuple fs=>∃ vs:List Value,v=.tuple vs.toArray∧aE w D E fs vs
 |x=>∃ cs,bG x v cs∧af w D E x cs
structure dG (w:World) (D:aL) (E:aT) (w':World) (D':aL) (E':aT):Prop where
 cV:∀ b o,D b o→D' b o
 cell:∀ b o v,D b o→w.cell? ⟨b,o,none⟩=some v→w'.cell? ⟨b,o,none⟩=some v
 aB:∀ n b aJ,E n=some (.aB b aJ)→E' n=some (.aB b aJ)
 rw:∀ n aD l,E n=some (.rw aD l)→∃ blk' l',E' n=some (.rw blk' l')∧l≤l'∧(l'=l→blk'=aD)
 cq:∀ n b,E n=some (.cq b)→E' n=some (.cq b)
 it:∀ n b,E n=some (.it b)→E' n=some (.it b)
 jj:∀ b es ck,D b 0→w.heap[b]?=some (.map es ck)→w'.heap[b]?=some (.map es ck)
structure gU (w:World) (D:aL) (w':World):Prop where
 cell:∀ b o v,D b o→w.cell? ⟨b,o,none⟩=some v→w'.cell? ⟨b,o,none⟩=some v
 jj:∀ b es ck,D b 0→w.heap[b]?=some (.map es ck)→w'.heap[b]?=some (.map es ck)
theorem gU.refl(w:World)(D:aL):gU w D w:=⟨fun _ _ _ _ h=>h,fun _ _ _ _ h=>h⟩
theorem gU.trans{w w' w'':World}{D D':aL}(h:gU w D w')(hD:∀ b o,D b o→D' b o)(k:gU w' D' w''):gU w D w'' :=
 ⟨fun b o v hd hv=>k.cell b o v (hD b o hd) (h.cell b o v hd hv),fun b es ck hd hm=>k.jj b es ck (hD b 0 hd) (h.jj b es ck hd hm)⟩
theorem dG.fq{w w':World}{D D':aL}{E E':aT}(h:dG w D E w' D' E'):gU w D w':=⟨h.cell,h.jj⟩
theorem nX.bE{w w':World}{D D':aL}{E E':aT}(h:dG w D E w' D' E'){b:Nat}{es:Array MapEntry}{clock:Nat}(hr:nX w D b es clock):nX w' D' b es clock :=
 ⟨h.jj _ _ _ hr.2.1 hr.1,h.cV _ _ hr.2.1,hr.2.2⟩
theorem gq.bE{w w':World}{D D':aL}{E E':aT}(h:dG w D E w' D' E'){b off:Nat}{cs:List Value}(hr:gq w D b off cs):gq w' D' b off cs :=
 fun j v hj=>⟨h.cell _ _ _ (hr j v hj).2 (hr j v hj).1,h.cV _ _ (hr j v hj).2⟩
mutual
theorem af.bE{w w':World}{D D':aL}{E E':aT}(h:dG w D E w' D' E'):∀ (x:I) (cs:List Value),af w D E x cs→af w' D' E' x cs
 | .agg fs,cs,hr=>by simp only[af] at *;exact aG.bE h fs cs hr
 | .bool b,cs,hr=>by simpa only[af] using hr
 | .int k n,cs,hr=>by simpa only[af] using hr
 | .cQ s,cs,hr=>by simpa only[af] using hr
 | .nilp,cs,hr=>by simpa only[af] using hr
 | .da,cs,hr=>by simpa only[af] using hr
 | .dN,cs,hr=>by simpa only[af] using hr
 | .raw _,cs,hr=>by simpa only[af] using hr
 | .nils _,cs,hr=>by simpa only[af] using hr
 | .c0 _,cs,hr=>by simpa only[af] using hr
 | .slice sz es,cs,hr=>by
  simp only[af] at *;obtain ⟨a,cap,h1,h2,h3,h4,h5⟩:=hr;refine ⟨a,cap,h1,h2,h3,?_,h5⟩;rcases h4 with h4 | ⟨b,off,cs',h6,h7,h8⟩
  ·exact .inl h4
  ·exact .inr ⟨b,off,cs',h6,h7.bE h,aG.bE h es cs' h8⟩
 | .ref c,cs,hr=>by
  simp only[af] at *;obtain ⟨b,off,cs',h1,h2,h3⟩:=hr;exact ⟨b,off,cs',h1,h2.bE h,af.bE h c cs' h3⟩
 | .func f caps,cs,hr=>by
  simp only[af] at *;obtain ⟨vs,h1,h2⟩:=hr;exact ⟨vs,h1,aE.bE h caps vs h2⟩
 | .iface t v,cs,hr=>by
  simp only[af] at *;obtain ⟨ao,cs',h1,h2,h3⟩:=hr;exact ⟨ao,cs',h1,h2,af.bE h v cs' h3⟩
 | .ptr n p,cs,hr=>by
  simp only[af] at *;obtain ⟨b,aJ,off,h1,h2,h3⟩:=hr;exact ⟨b,aJ,off,h.aB _ _ _ h1,h2,h3⟩
 | .own n k,cs,hr=>by
  simp only[af] at *;obtain ⟨aD,l,h1,h2,h3,h4⟩:=hr;obtain ⟨blk',l',h5,h6,h7⟩:=h.rw _ _ _ h1;refine ⟨blk',l',h5,zv7 h2 h6,h3,fun e =>?_⟩;have e1:l'=l:=by omega
  rw[h7 e1];exact h4 (by omega)
 | .view n p _ _ _,cs,hr=>by
  simp only[af] at *;obtain ⟨b,aJ,off,l,h1,h2⟩:=hr;exact ⟨b,aJ,off,l,h.aB _ _ _ h1,h2⟩
 | .mref n,cs,hr=>by
  simp only[af] at *;obtain ⟨b,h1,h2⟩:=hr;exact ⟨b,h.cq _ _ h1,h2⟩
 | .dj n,cs,hr=>by
  simp only[af] at *;obtain ⟨b,h1,h2⟩:=hr;exact ⟨b,h.it _ _ h1,h2⟩
 | .cL ks vs,cs,hr=>by
  simp only[af] at *;obtain ⟨b,es,clock,h1,h2,h3,h4⟩:=hr;exact ⟨b,es,clock,h1,h2.bE h,aE.bE h ks _ h3,aE.bE h vs _ h4⟩
 | .undef,_,hr=>by simp only[af] at hr
 | .c8,_,hr=>by simp only[af] at hr
 | .tuple _,_,hr=>by simp only[af] at hr
theorem aG.bE{w w':World}{D D':aL}{E E':aT}(h:dG w D E w' D' E'):∀ (xs:List I) (cs:List Value),aG w D E xs cs→aG w' D' E' xs cs
 | [],cs,hr=>by simpa only[aG] using hr
 |x::xs,cs,hr=>by
  simp only[aG] at *;obtain ⟨c1,c2,h1,h2,h3⟩:=hr;exact ⟨c1,c2,h1,af.bE h x c1 h2,aG.bE h xs c2 h3⟩
theorem aE.bE{w w':World}{D D':aL}{E E':aT}(h:dG w D E w' D' E'):∀ (xs:List I) (vs:List Value),aE w D E xs vs→aE w' D' E' xs vs
 | [],vs,hr=>by simpa only[aE] using hr
 |x::xs,vs,hr=>by
  simp only[aE] at *;obtain ⟨v,rest,cs,h1,h2,h3,h4⟩:=hr;exact ⟨v,rest,cs,h1,h2,af.bE h x cs h3,aE.bE h xs rest h4⟩
end
theorem aS.bE{w w':World}{D D':aL}{E E':aT}(h:dG w D E w' D' E'){x:I}{v:Value}(hr:aS w D E x v):aS w' D' E' x v:=by
 cases x <;>simp only[aS] at * <;>first
  |exact hr
  |(obtain ⟨vs,h1,h2⟩:=hr;exact ⟨vs,h1,aE.bE h _ _ h2⟩)
  |(obtain ⟨cs,h1,h2⟩:=hr;exact ⟨cs,h1,af.bE h _ _ h2⟩)
mutual
theorem I.lN:∀ x:I,x.aJ.size=x.size
 | .agg fs=>by simp only[I.aJ,I.size,cJ.size];exact I.mE fs
 | .undef | .c8 | .bool _ | .int _ _ | .cQ _ | .nilp | .da | .dN | .raw _ | .nils _ | .c0 _ | .slice _ _ | .tuple _ | .ref _ | .func _ _ | .iface _ _ | .ptr _ _ | .own _ _ | .view _ _ _ _ _ | .mref _ | .dj _ | .cL _ _=>by simp only[I.aJ,I.size,cJ.size]
theorem I.mE:∀ xs:List I,cJ.sizes (I.cN xs)=I.sizes xs
 | []=>by simp only[I.cN,I.sizes,cJ.sizes]
 |x::xs=>by simp only[I.cN,I.sizes,cJ.sizes];rw[I.lN x,I.mE xs]
end
mutual
theorem af.length{w:World}{D:aL}{E:aT} : ∀ (x:I) (cs:List Value),af w D E x cs→cs.length=x.size
 | .agg fs,cs,hr=>by simp only[af,I.size] at *;exact aG.length fs cs hr
 | .bool b,cs,hr=>by simp only[af] at hr;simp[hr,I.size]
 | .int k n,cs,hr=>by simp only[af] at hr;simp[hr.1,I.size]
 | .cQ s,cs,hr=>by simp only[af] at hr;simp[hr.1,I.size]
 | .nilp,cs,hr=>by simp only[af] at hr;simp[hr,I.size]
 | .da,cs,hr=>by simp only[af] at hr;simp[hr,I.size]
 | .dN,cs,hr=>by simp only[af] at hr;simp[hr,I.size]
 | .raw ao,cs,hr=>by simp only[af] at hr;simp[hr.1,I.size]
 | .nils _,cs,hr=>by simp only[af] at hr;simp[hr,I.size]
 | .c0 _,cs,hr=>by simp only[af] at hr;obtain ⟨a,rfl⟩:=hr;simp[I.size]
 | .slice sz es,cs,hr=>by simp only[af] at hr;obtain ⟨a,cap,rfl,_⟩:=hr;simp[I.size]
 | .ref c,cs,hr=>by simp only[af] at hr;obtain ⟨b,off,cs',rfl,_⟩:=hr;simp[I.size]
 | .func f caps,cs,hr=>by simp only[af] at hr;obtain ⟨vs,rfl,_⟩:=hr;simp[I.size]
 | .iface t v,cs,hr=>by simp only[af] at hr;obtain ⟨ao,cs',rfl,_⟩:=hr;simp[I.size]
 | .ptr n p,cs,hr=>by simp only[af] at hr;obtain ⟨b,aJ,off,_,_,rfl⟩:=hr;simp[I.size]
 | .own n k,cs,hr=>by simp only[af] at hr;obtain ⟨aD,l,_,_,⟨a,m,c,rfl⟩,_⟩:=hr;simp[I.size]
 | .view n p _ _ _,cs,hr=>by simp only[af] at hr;obtain ⟨b,aJ,off,l,_,_,_,rfl,_⟩:=hr;simp[I.size]
 | .mref n,cs,hr=>by simp only[af] at hr;obtain ⟨b,_,rfl⟩:=hr;simp[I.size]
 | .dj n,cs,hr=>by simp only[af] at hr;obtain ⟨b,_,rfl⟩:=hr;simp[I.size]
 | .cL ks vs,cs,hr=>by simp only[af] at hr;obtain ⟨b,es,ck,rfl,_⟩:=hr;simp[I.size]
 | .undef,_,hr=>by simp only[af] at hr
 | .c8,_,hr=>by simp only[af] at hr
 | .tuple _,_,hr=>by simp only[af] at hr
theorem aG.length{w:World}{D:aL}{E:aT} : ∀ (xs:List I) (cs:List Value),aG w D E xs cs→cs.length=I.sizes xs
 | [],cs,hr=>by simp only[aG] at hr;simp[hr,I.sizes]
 |x::xs,cs,hr=>by
  simp only[aG] at hr;obtain ⟨c1,c2,rfl,h1,h2⟩:=hr;simp only[zz5,I.sizes,af.length x c1 h1,aG.length xs c2 h2]
end
mutual
theorem af.mi{w:World}{D:aL}{E:aT} : ∀ (x:I) (cs:List Value),af w D E x cs→∀ v∈cs,v.oneCell'=true
 | .agg fs,cs,hr=>by simp only[af] at hr;exact aG.mi fs cs hr
 | .bool b,cs,hr=>by simp only[af] at hr;simp[hr,Value.oneCell']
 | .int k n,cs,hr=>by simp only[af] at hr;simp[hr.1,Value.oneCell']
 | .cQ s,cs,hr=>by simp only[af] at hr;simp[hr.1,Value.oneCell']
 | .nilp,cs,hr=>by simp only[af] at hr;simp[hr,Value.oneCell']
 | .da,cs,hr=>by simp only[af] at hr;simp[hr,Value.oneCell']
 | .dN,cs,hr=>by simp only[af] at hr;simp[hr,Value.oneCell']
 | .raw ao,cs,hr=>by simp only[af] at hr;simpa[hr.1] using hr.2
 | .nils _,cs,hr=>by simp only[af] at hr;simp[hr,Value.oneCell']
 | .c0 _,cs,hr=>by simp only[af] at hr;obtain ⟨a,rfl⟩:=hr;simp[Value.oneCell']
 | .slice sz es,cs,hr=>by simp only[af] at hr;obtain ⟨a,cap,rfl,_⟩:=hr;simp[Value.oneCell']
 | .ref c,cs,hr=>by simp only[af] at hr;obtain ⟨b,off,cs',rfl,_⟩:=hr;simp[Value.oneCell']
 | .func f caps,cs,hr=>by simp only[af] at hr;obtain ⟨vs,rfl,_⟩:=hr;simp[Value.oneCell']
 | .iface t v,cs,hr=>by simp only[af] at hr;obtain ⟨ao,cs',rfl,_⟩:=hr;simp[Value.oneCell']
 | .ptr n p,cs,hr=>by simp only[af] at hr;obtain ⟨b,aJ,off,_,_,rfl⟩:=hr;simp[Value.oneCell']
 | .own n k,cs,hr=>by simp only[af] at hr;obtain ⟨aD,l,_,_,⟨a,m,c,rfl⟩,_⟩:=hr;simp[Value.oneCell']
 | .view n p _ _ _,cs,hr=>by simp only[af] at hr;obtain ⟨b,aJ,off,l,_,_,_,rfl,_⟩:=hr;simp[Value.oneCell']
 | .mref n,cs,hr=>by simp only[af] at hr;obtain ⟨b,_,rfl⟩:=hr;simp[Value.oneCell']
 | .dj n,cs,hr=>by simp only[af] at hr;obtain ⟨b,_,rfl⟩:=hr;simp[Value.oneCell']
 | .cL ks vs,cs,hr=>by simp only[af] at hr;obtain ⟨b,es,ck,rfl,_⟩:=hr;simp[Value.oneCell']
 | .undef,_,hr=>by simp only[af] at hr
 | .c8,_,hr=>by simp only[af] at hr
 | .tuple _,_,hr=>by simp only[af] at hr
theorem aG.mi{w:World}{D:aL}{E:aT} : ∀ (xs:List I) (cs:List Value),aG w D E xs cs→∀ v∈cs,v.oneCell'=true
 | [],cs,hr=>by simp only[aG] at hr;simp[hr]
 |x::xs,cs,hr=>by
  simp only[aG] at hr;obtain ⟨c1,c2,rfl,h1,h2⟩:=hr;intro v hv;rcases zy7.1 hv with h | h
  ·exact af.mi x c1 h1 v h
  ·exact aG.mi xs c2 h2 v h
end
theorem bG.cells{x:I}{v:Value}{cs:List Value}{w:World}{D:aL}{E:aT}(h:bG x v cs)(hr:af w D E x cs):v.cells.toList=cs:=by
 unfold bG at h;split at h
 ·rw[h];simp[Value.cells]
 ·subst h;have:=af.mi x _ hr v (by simp);cases v <;>simp[Value.cells,Value.oneCell'] at *
theorem mu{w:World}{D:aL}{E:aT} : ∀ (xs:List I) (cs:List Value) (i:Nat) (x:I),aG w D E xs cs→xs[i]?=some x →
  ∃ c1 c2 c3,cs=c1++c2++c3∧c1.length=I.sizes (xs.take i)∧aG w D E (xs.take i) c1∧af w D E x c2∧aG w D E (xs.drop (i+1)) c3
 | [],_,i,x,_,h=>by simp at h
 |y::ys,cs,0,x,hr,h=>by
  simp only[List.getElem?_cons_zero,u8] at h;subst h;simp only[aG] at hr;obtain ⟨c1,c2,rfl,h1,h2⟩:=hr;exact ⟨[],c1,c2,by simp,by simp[I.sizes],by simp[aG],h1,by simpa using h2⟩
 |y::ys,cs,i+1,x,hr,h=>by
  simp only[List.getElem?_cons_succ] at h;simp only[aG] at hr;obtain ⟨c0,c',rfl,h1,h2⟩:=hr;obtain ⟨c1,c2,c3,rfl,h3,h4,h5,h6⟩:=mu ys c' i x h2 h;refine ⟨c0++c1,c2,c3,by simp,?_,?_,h5,by simpa using h6⟩
  ·simp only[zz5,List.take_succ_cons,I.sizes,h3,af.length y c0 h1]
  ·simp only[List.take_succ_cons,aG];exact ⟨c0,c1,rfl,h1,h4⟩
theorem j9{w:World}{D:aL}{E:aT} : ∀ (xs ys:List I) (cs ds:List Value),aG w D E xs cs→aG w D E ys ds→aG w D E (xs++ys) (cs++ds)
 | [],ys,cs,ds,h,k=>by simp only[aG] at h;subst h;simpa using k
 |x::xs,ys,cs,ds,h,k=>by
  simp only[aG,zy0] at *;obtain ⟨c1,c2,rfl,h1,h2⟩:=h;exact ⟨c1,c2++ds,by simp,h1,j9 xs ys c2 ds h2 k⟩
theorem I.gR{sz:Nat} : ∀ (xs:List I),(∀ x∈xs,x.size=sz)→I.sizes xs=xs.length*sz
 | [],_=>by simp[I.sizes]
 |x::xs,h=>by
  simp only[I.sizes,zv5];rw[h x (by simp),I.gR xs (fun y hy=>h y (by simp[hy])),zv8];omega
theorem I.de:∀ xs:List I,I.cN xs=xs.map I.aJ
 | []=>by simp[I.cN]
 |x::xs=>by simp[I.cN,I.de xs]
theorem x1{w:World}{D:aL}{E:aT} : ∀ (p:List Nat) (c x:I) (cs:List Value),af w D E c cs→c.at p=some x →
  ∃ off c1 c2 c3,c.aJ.off p=some off∧cs=c1++c2++c3∧c1.length=off∧af w D E x c2
 | [],c,x,cs,hr,h=>by
  simp only[I.at,u8] at h;subst h;exact ⟨0,[],cs,[],by cases c.aJ <;>simp[cJ.off],by simp,rfl,hr⟩
 |i::p,.agg fs,x,cs,hr,h=>by
  simp only[I.at] at h;simp only[af] at hr;cases hf:fs[i]? with
  |none=>simp[hf] at h
  |some f =>
   simp only[hf] at h;obtain ⟨c1,c2,c3,rfl,h1,_,h3,_⟩:=mu fs cs i f hr hf;obtain ⟨off,d1,d2,d3,h4,rfl,h6,h7⟩:=x1 p f x c2 h3 h;refine ⟨I.sizes (fs.take i)+off,c1++d1,d2,d3++c3,?_,by simp,by simp[h1,h6],h7⟩;simp only[I.aJ,cJ.off,I.de,zx7,hf,zy3,h4];rw[←List.map_take,←I.de,I.mE]
 |_::_,.undef,_,_,_,h | _::_,.c8,_,_,_,h | _::_,.bool _,_,_,_,h | _::_,.int _ _,_,_,_,h | _::_,.cQ _,_,_,_,h | _::_,.nilp,_,_,_,h
 |_::_,.da,_,_,_,h | _::_,.dN,_,_,_,h | _::_,.raw _,_,_,_,h | _::_,.nils _,_,_,_,h | _::_,.c0 _,_,_,_,h | _::_,.slice _ _,_,_,_,h | _::_,.tuple _,_,_,_,h
 |_::_,.ref _,_,_,_,h | _::_,.func _ _,_,_,_,h | _::_,.iface _ _,_,_,_,h | _::_,.ptr _ _,_,_,_,h | _::_,.own _ _,_,_,_,h | _::_,.view _ _ _ _ _,_,_,_,h | _::_,.mref _,_,_,_,h | _::_,.dj _,_,_,_,h | _::_,.cL _ _,_,_,_,h=>by simp[I.at] at h
theorem tq{w:World}{D:aL}{E:aT} : ∀ (p:List Nat) (c x y:I) (cs ds:List Value),af w D E c cs→c.at p=some x→af w D E y ds→y.aJ=x.aJ →
  ∃ off,c.aJ.off p=some off∧off+ds.length≤cs.length∧af w D E (c.dx p y) (cs.take off++ds++cs.drop (off+ds.length))∧(c.dx p y).aJ=c.aJ
 | [],c,x,y,cs,ds,hr,h,hy,hs=>by
  simp only[I.at,u8] at h;subst h;have hl:ds.length=cs.length:=by rw[af.length _ _ hy,af.length _ _ hr,←I.lN,←I.lN,hs]
  refine ⟨0,by cases c.aJ <;>simp[cJ.off],by omega,?_,by simpa[I.dx] using hs⟩;simpa[I.dx,hl] using hy
 |i::p,.agg fs,x,y,cs,ds,hr,h,hy,hs=>by
  simp only[I.at] at h;simp only[af] at hr;cases hf:fs[i]? with
  |none=>simp[hf] at h
  |some f =>
   simp only[hf] at h;obtain ⟨c1,c2,c3,rfl,h1,h2,h3,h3'⟩:=mu fs cs i f hr hf;obtain ⟨off,h4,h5,h6,h7⟩:=tq p f x y c2 ds h3 h hy hs;have hi:i<fs.length:=(zy4.1 hf).1;have hfi:fs[i]=f:=(zy4.1 hf).2;refine ⟨I.sizes (fs.take i)+off,?_,?_,?_,?_⟩
   ·simp only[I.aJ,cJ.off,I.de,zx7,hf,zy3,h4];rw[←List.map_take,←I.de,I.mE]
   ·simp only[zz5,h1];omega
   ·simp only[I.dx,hf,af];have e1:fs.set i (f.dx p y)=fs.take i++f.dx p y::fs.drop (i+1):=by rw[List.set_eq_take_append_cons_drop];simp[hi]
    rw[e1];have e2:(c1++c2++c3).take (I.sizes (fs.take i)+off)++ds++(c1++c2++c3).drop (I.sizes (fs.take i)+off+ds.length)=c1++((c2.take off++ds++c2.drop (off+ds.length))++c3):=by
     rw[←h1,zz3 c1 c2 c3,List.take_length_add_append,Nat.add_assoc,List.drop_length_add_append,zw4 (by omega),List.drop_append_of_le_length (by omega)];simp
    rw[e2];refine j9 _ _ _ _ h2 ?_;simp only[aG];exact ⟨_,_,rfl,h6,h3'⟩
   ·simp only[I.dx,hf,I.aJ,I.de,List.map_set,h7,cJ.dU.injEq];apply List.ext_getElem?;intro k;rw[List.getElem?_set];split
    ·rename_i hk;subst hk;simp[hi,hfi]
    ·rfl
 |_::_,.undef,_,_,_,_,_,h,_,_ | _::_,.c8,_,_,_,_,_,h,_,_ | _::_,.bool _,_,_,_,_,_,h,_,_ | _::_,.int _ _,_,_,_,_,_,h,_,_ | _::_,.cQ _,_,_,_,_,_,h,_,_ | _::_,.nilp,_,_,_,_,_,h,_,_
 |_::_,.da,_,_,_,_,_,h,_,_ | _::_,.dN,_,_,_,_,_,h,_,_ | _::_,.raw _,_,_,_,_,_,h,_,_ | _::_,.nils _,_,_,_,_,_,h,_,_ | _::_,.c0 _,_,_,_,_,_,h,_,_ | _::_,.slice _ _,_,_,_,_,_,h,_,_ | _::_,.tuple _,_,_,_,_,_,h,_,_
 |_::_,.ref _,_,_,_,_,_,h,_,_ | _::_,.func _ _,_,_,_,_,_,h,_,_ | _::_,.iface _ _,_,_,_,_,_,h,_,_ | _::_,.ptr _ _,_,_,_,_,_,h,_,_ | _::_,.own _ _,_,_,_,_,_,h,_,_ | _::_,.view _ _ _ _ _,_,_,_,_,_,h,_,_ | _::_,.mref _,_,_,_,_,_,h,_,_ | _::_,.dj _,_,_,_,_,_,h,_,_ | _::_,.cL _ _,_,_,_,_,_,h,_,_=>by simp[I.at] at h
theorem mD:∀ (p:List Nat) (c x:I),c.at p=some x→c.aJ.part p=some x.aJ
 | [],c,x,h=>by simp only[I.at,u8] at h;subst h;cases c.aJ <;>rfl
 |i::p,.agg fs,x,h=>by
  simp only[I.at] at h;cases hf:fs[i]? with
  |none=>simp[hf] at h
  |some f =>
   simp only[hf] at h;simp only[I.aJ,cJ.part,I.de,zx7,hf,zy3];exact mD p f x h
 |_::_,.undef,_,h | _::_,.c8,_,h | _::_,.bool _,_,h | _::_,.int _ _,_,h | _::_,.cQ _,_,h | _::_,.nilp,_,h
 |_::_,.da,_,h | _::_,.dN,_,h | _::_,.raw _,_,h | _::_,.nils _,_,h | _::_,.c0 _,_,h | _::_,.slice _ _,_,h | _::_,.tuple _,_,h
 |_::_,.ref _,_,h | _::_,.func _ _,_,h | _::_,.iface _ _,_,h | _::_,.ptr _ _,_,h | _::_,.own _ _,_,h | _::_,.view _ _ _ _ _,_,h | _::_,.mref _,_,h | _::_,.dj _,_,h | _::_,.cL _ _,_,h=>by simp[I.at] at h
end Go.Abs
namespace Go.Abs
open Go Go.RowKit
inductive ah where
 |box (c:I)
 |bT (T:TypeId) (sz:Nat) (es:List I)
 |dD (o:Obj)
 |cq (ks vs:List I)
 |it (ks vs:List I) (left:List Nat) (cur:Option Nat)
 |cO (T:TypeId) (xs:List Int)
 deriving Inhabited
def ah.eH:ah→Bool
 | .it _ _ _ _=>false
 |_=>true
structure ae where
 t:Nat→I
 o:Nat→Option ah
def ae.put(A:ae)(d:Nat)(v:I):ae:=⟨fun k=>if k=d then v else A.t k,A.o⟩
def ae.aK(A:ae)(d:Option Nat)(v:I):ae:=match d with | some d=>A.put d v | none=>A
def ae.aN(A:ae)(n:Nat)(x:ah):ae:=⟨A.t,fun k=>if k=n then some x else A.o k⟩
def b9:List (Nat×I)→Nat→I
 | [],_=>.c8
 |(k,v)::r,t=>if t=k then v else b9 r t
def aj:List (Nat×ah)→Nat→Option ah
 | [],_=>none
 |(k,v)::r,t=>if t=k then some v else aj r t
def ar(ts:List (Nat×I))(os:List (Nat×ah)):ae:=⟨b9 ts,aj os⟩
def aq(os:List (Nat×ah))(n:Nat):Bool:=(aj os n).isSome
abbrev cR:=I→List (Nat×ah)→Prop
structure cI where
 P:Program
 eR:World
 D0:aL
 n:Nat
 own:Nat→Prop
 dL:aT
 Y:Value→List I→List (Nat×ah)→cR→Prop
 mz:Option Nat
def ig:Value→List I→List (Nat×ah)→cR→Prop:=fun _ _ _ _=>False
def cI.bn(c:cI):Fence:=match c.mz with
 |none=>Fence.wide
 |some l=>Fence.wide.inRound l
def cI.eU(c:cI)(b:Nat):Prop:=c.eR.heap.size≤b∨c.own b
structure fv (M:Nat→Prop) (w w':World):Prop where
 os:w'.os=w.os
 tape:w'.tape=w.tape
 output:w'.output=w.output
 size:w.heap.size≤w'.heap.size
 block:∀ k,¬ M k→w'.heap[k]?=w.heap[k]?
theorem fv.refl(M:Nat→Prop)(w:World):fv M w w:=⟨rfl,rfl,rfl,zz6 _,fun _ _=>rfl⟩
theorem fv.trans{M:Nat→Prop}{a b c:World}(h:fv M a b)(k:fv M b c):fv M a c :=
 ⟨k.os.trans h.os,k.tape.trans h.tape,k.output.trans h.output,zv7 h.size k.size,fun i hi=>(k.block i hi).trans (h.block i hi)⟩
theorem fv.grow{M:Nat→Prop}{w w':World}{B:Nat}(h:Below B w w')(hB:∀ k,B≤k→M k):fv M w w' :=
 ⟨h.os,h.tape,h.output,h.size,fun k hk=>h.block k (Nat.lt_of_not_le fun hle=>hk (hB k hle))⟩
theorem fv.P8{M:Nat→Prop}{w w':World}{B:Nat}(h:fv M w w')(hB:∀ k,k<B→¬ M k):Below B w w' :=
 ⟨h.os,h.tape,h.output,h.size,fun k hk=>h.block k (hB k hk)⟩
def bS.aD:bS→Option Nat
 | .aB b _=>some b
 | .rw (some (b,_)) _=>some b
 | .rw none _=>none
 | .op b=>some b
 | .cq b=>some b
 | .it b=>some b
def bS.ee:bS→Bool
 | .op _ | .cq _ | .it _=>true
 |_=>false
def o9:Obj→Bool
 | .loop _=>true
 |_=>false
def xm:Obj→Bool
 | .deferred _=>false
 |_=>true
theorem af9{o:Obj}(h:o9 o=true):xm o=true:=by cases o <;>first | rfl | cases h
def nR(es:Array MapEntry)(bL:Array Nat):List Nat:=(List.range es.size).filter fun i=>match es[i]? with
 |some e => !bL.contains e.born
 |none=>false
def cY(M:Nat→Prop)(w:World)(D:aL)(E:aT)(n:Nat):Option ah→Prop
 |none=>E n=none
 |some (.box x)=>∃ b cs T,E n=some (.aB b x.aJ)∧M b∧w.heap[b]?=some (.cells cs T (0,0))∧af w D E x cs.toList∧∀ o,¬ D b o
 |some (.bT T sz es)=>∃ aD,E n=some (.rw aD es.length)∧(∀ e∈es,e.size=sz)∧match aD with
  |none=>es=[]
  |some (b,cap)=>∃ cs pre rest,M b∧w.heap[b]?=some (.cells cs T (0,0))∧cs.toList=pre++rest∧aG w D E es pre ∧
    cs.size=cap*sz∧es.length≤cap∧cap≤maxLen∧∀ o,D b o→o<pre.length
 |some (.dD x)=>∃ b,E n=some (.op b)∧M b∧w.heap[b]?=some x∧o9 x=true∧∀ o,¬ D b o
 |some (.cq ks vs)=>∃ b es clock,E n=some (.cq b)∧M b∧w.heap[b]?=some (.map es clock)∧pQ es clock∧aE w D E ks (es.toList.map (·.key))∧aE w D E vs (es.toList.map (·.val))∧∀ o,¬ D b o
 |some (.it ks vs left cur)=>∃ r b es clock since bL last,E n=some (.it r)∧M r∧w.heap[r]?=some (.mapIter (some b) since bL last)∧nX w D b es clock∧aE w D E ks (es.toList.map (·.key))∧aE w D E vs (es.toList.map (·.val)) ∧
   (∀ x∈es.toList,x.born<since)∧(since≤last∧since≤clock)∧left=nR es bL∧(∀ i,cur=some i→∃ e,es[i]?=some e∧bL.back?=some e.born∧last=clock)∧∀ o,¬ D r o
 |some (.cO T xs)=>∃ aD,E n=some (.rw aD xs.length)∧(∀ x∈xs,IntKind.i64.min≤x∧x≤IntKind.i64.max)∧match aD with
  |none=>xs=[]
  |some (b,cap)=>∃ cs m,M b∧w.heap[b]?=some (.cells cs T (0,0))∧cs.toList=(xs++List.replicate m 0).map (Value.int .i64)∧xs≠[]∧xs.length+m=cap∧cap≤maxLen∧∀ o,¬ D b o
def dm(E:aT)(b:Nat):Prop:=∃ n e,E n=some e∧e.aD=some b
structure kO (M:Nat→Prop) (w:World) (D:aL) (E:aT) (o:Nat→Option ah):Prop where
 bU:∀ n,cY M w D E n (o n)
 cM:∀ n m e e' b,E n=some e→E m=some e'→e.aD=some b→e'.aD=some b→n=m
def pX(run:Array Value→World→(Ending→World→Prop)→Prop)(since:World→aL→aT→Prop)(args:List I)(os:List (Nat×ah))(post:cR):Prop :=
 ∀ (w:World) (D:aL) (E:aT) (vs:List Value),since w D E→(∀ b o,D b o→b<w.heap.size)→kO (fun _=>True) w D E (aj os)→aE w D E args vs →
  run vs.toArray w fun e w'=>∃ v D' E' r os',e=.returned v∧post r os'∧aS w' D' E' r v∧kO (fun b=>w.heap.size≤b∨dm E b) w' D' E' (aj os') ∧
   fv (fun b=>w.heap.size≤b∨dm E b) w w'∧(∀ b o,D b o→D' b o)∧(∀ b o,D' b o→b<w'.heap.size)∧(∀ b o,D' b o→b<w.heap.size→¬ dm E b→D b o) ∧
   (∀ n e,E n=some e→aq os' n=true→∃ e',E' n=some e'∧e.le e')∧gU w D w'
structure zi (c:cI) (w:World) (D:aL) (E:aT):Prop where
 dK:fv c.eU c.eR w
 cG:∀ b o,c.D0 b o→D b o
 cV:∀ b o,D b o→¬ c.eU b→c.D0 b o
 dQ:∀ n e,c.dL n=some e→E n=none∨∃ e',E n=some e'∧e.le e'
 fq:gU c.eR c.D0 w
def rE(P:Program)(v:Value)(vs:Array Value)(w:World)(R:Ending→World→Prop):Prop :=
 ∃ l,v=.func (.yield l) #[] #[]∧YieldAt Fence.wide 9 P l vs w R
def oE(c:cI):Prop:=∀ v args os post,c.Y v args os post→pX (rE c.P v) (zi c) args os post
def bQ(eR:World)(ds:List Deferred)(w:World):Prop :=
 ∃ Bs:List Nat,ds=Bs.map (fun B => { target:=.collected B,args := #[] })∧Bs.Nodup∧∀ B∈Bs,eR.heap.size≤B∧w.heap[B]?=some (.deferred (some []))
theorem bQ.mono{eR w w':World}{ds:List Deferred}(h:bQ eR ds w)(hk:∀ B,eR.heap.size≤B→w.heap[B]?=some (.deferred (some []))→w'.heap[B]?=some (.deferred (some []))):bQ eR ds w':=by
 obtain ⟨Bs,h1,h2,h3⟩:=h;exact ⟨Bs,h1,h2,fun B hB=>⟨(h3 B hB).1,hk B (h3 B hB).1 (h3 B hB).2⟩⟩
theorem bQ.grow{eR w w':World}{ds:List Deferred}(h:bQ eR ds w)(hk:Below w.heap.size w w'):bQ eR ds w' :=
 h.mono fun B _ hB=>(hk.block B (zx8.1 hB).1).trans hB
structure aP (c:cI) (A:ae) (a:Act) (w:World) (D:aL) (E:aT):Prop where
 sz:a.tmps.size=c.n
 eF:bQ c.eR a.defers w
 ea:∀ t,aS w D E (A.t t) (a.tmps.getD t undef)
 dK:fv c.eU c.eR w
 cV:∀ b o,D b o→¬ c.eU b→c.D0 b o
 c9:∀ b o,D b o→b<w.heap.size
 bU:∀ n,cY c.eU w D E n (A.o n)
 cM:∀ n m e e' b,E n=some e→E m=some e'→e.aD=some b→e'.aD=some b→n=m
 dQ:∀ n e,c.dL n=some e→E n=none∨∃ e',E n=some e'∧e.le e'
 eO:∀ n,c.dL n≠none→c.n≤n∧1000000≤n
 cG:∀ b o,c.D0 b o→D b o
 eS:oE c
 fq:gU c.eR c.D0 w
def cn(c:cI)(A:ae)(a:Act)(w:World):Prop:=∃ D E,aP c A a w D E
section
variable {c:cI} {A:ae} {a:Act} {w:World} {D:aL} {E:aT}
theorem aP.kL(h:aP c A a w D E){w':World}{D':aL}{E':aT}(hl:dG w D E w' D' E'):gU c.eR c.D0 w':=h.fq.trans h.cG hl.fq
theorem aP.CW(h:aP c A a w D E){n:Nat}{e:bS}(hn:c.dL n=some e)(hf:e.eH=true):E n=none∨E n=some e:=by
 rcases h.dQ n e hn with k | ⟨e',k,hle⟩
 ·exact .inl k
 ·rw[hle.eq hf] at k;exact .inr k
theorem s9{M:Nat→Prop}{n:Nat}{x:ah}(h:cY M w D E n (some x)):E n≠none:=by
 cases x with
 |box x=>obtain ⟨b,cs,T,h1,_⟩:=h;rw[h1];simp
 |bT T sz es=>obtain ⟨aD,h1,_⟩:=h;rw[h1];simp
 |dD o=>obtain ⟨b,h1,_⟩:=h;rw[h1];simp
 |cq ks vs=>obtain ⟨b,es,ck,h1,_⟩:=h;rw[h1];simp
 |it ks vs left=>obtain ⟨r,b,es,ck,si,se,la,h1,_⟩:=h;rw[h1];simp
 |cO T xs=>obtain ⟨aD,h1,_⟩:=h;rw[h1];simp
theorem fH{w:World}{b:Nat}{o:Obj}(h:w.heap[b]?=some o):b<w.heap.size:=(zx8.1 h).1
theorem aP.fG(h:aP c A a w D E){n:Nat}{e:bS}{b:Nat}(he:E n=some e)(hb:e.aD=some b):b<w.heap.size:=by
 have:=h.bU n;unfold cY at this;split at this
 ·simp[this] at he
 ·obtain ⟨b',cs,T,h1,h2,h3,_⟩:=this;rw[h1,u8] at he;subst he;simp only[bS.aD,u8] at hb;subst hb;exact fH h3
 ·obtain ⟨aD,h1,h2,h3⟩:=this;rw[h1,u8] at he;subst he;split at h3
  ·simp[bS.aD] at hb
  ·obtain ⟨cs,pre,rest,h4,h5,_⟩:=h3;simp only[bS.aD,u8] at hb;subst hb;exact fH h5
 ·obtain ⟨b',h1,h2,h3,_⟩:=this;rw[h1,u8] at he;subst he;simp only[bS.aD,u8] at hb;subst hb;exact fH h3
 ·obtain ⟨b',es,ck,h1,h2,h3,_⟩:=this;rw[h1,u8] at he;subst he;simp only[bS.aD,u8] at hb;subst hb;exact fH h3
 ·obtain ⟨r,b',es,ck,si,se,la,h1,h2,h3,_⟩:=this;rw[h1,u8] at he;subst he;simp only[bS.aD,u8] at hb;subst hb;exact fH h3
 ·obtain ⟨aD,h1,h2,h3⟩:=this;rw[h1,u8] at he;subst he;split at h3
  ·simp[bS.aD] at hb
  ·obtain ⟨cs,m,h4,h5,_⟩:=h3;simp only[bS.aD,u8] at hb;subst hb;exact fH h5
theorem aP.xO(h:aP c A a w D E){n b:Nat}{e:bS}(he:E n=some e)(ho:e.ee=true)(hb:e.aD=some b):∀ o,¬ D b o:=by
 have:=h.bU n;unfold cY at this;split at this
 ·rw[this] at he;cases he
 ·obtain ⟨b',cs,T,h1,_⟩:=this;rw[h1] at he;cases he;cases ho
 ·obtain ⟨aD,h1,_⟩:=this;rw[h1] at he;cases he;cases ho
 ·obtain ⟨b',h1,_,_,_,h5⟩:=this;rw[h1] at he;cases he;cases hb;exact h5
 ·obtain ⟨b',es,ck,h1,_,_,_,_,_,h5⟩:=this;rw[h1] at he;cases he;cases hb;exact h5
 ·obtain ⟨r,b',es,ck,si,se,la,h1,_,_,_,_,_,_,_,_,_,h5⟩:=this;rw[h1] at he;cases he;cases hb;exact h5
 ·obtain ⟨aD,h1,_⟩:=this;rw[h1] at he;cases he;cases ho
theorem cY.bE{M:Nat→Prop}{w':World}{D':aL}{E':aT}{n:Nat}{x:Option ah}(h:cY M w D E n x)(hl:dG w D E w' D' E')(av:E' n=E n)
  (hheap:∀ e b,E n=some e→e.aD=some b→w'.heap[b]?=w.heap[b]?∧∀ o,D' b o→D b o):cY M w' D' E' n x:=by
 unfold cY at *;split
 ·rw[av];exact h
 ·obtain ⟨b,cs,T,h1,h2,h3,h4,h5⟩:=h;obtain ⟨k1,k2⟩:=hheap _ b h1 rfl;exact ⟨b,cs,T,av.trans h1,h2,k1.trans h3,af.bE hl _ _ h4,fun o ho=>h5 o (k2 o ho)⟩
 ·obtain ⟨aD,h1,h2,h3⟩:=h;refine ⟨aD,av.trans h1,h2,?_⟩;split
  ·exact h3
  ·rename_i b cap;obtain ⟨cs,pre,rest,h4,h5,h6,h7,h8,h9,h10,h11⟩:=h3;obtain ⟨k1,k2⟩:=hheap _ b h1 rfl;exact ⟨cs,pre,rest,h4,k1.trans h5,h6,aG.bE hl _ _ h7,h8,h9,h10,fun o ho=>h11 o (k2 o ho)⟩
 ·obtain ⟨b,h1,h2,h3,h4,h5⟩:=h;obtain ⟨k1,k2⟩:=hheap _ b h1 rfl;exact ⟨b,av.trans h1,h2,k1.trans h3,h4,fun o ho=>h5 o (k2 o ho)⟩
 ·obtain ⟨b,es,ck,h1,h2,h3,h4,h5,h6,h7⟩:=h;obtain ⟨k1,k2⟩:=hheap _ b h1 rfl;exact ⟨b,es,ck,av.trans h1,h2,k1.trans h3,h4,aE.bE hl _ _ h5,aE.bE hl _ _ h6,fun o ho=>h7 o (k2 o ho)⟩
 ·obtain ⟨r,b,es,ck,si,se,la,h1,h2,h3,h4,h5,h6,h7,h8,h9,h9',h10⟩:=h;obtain ⟨k1,k2⟩:=hheap _ r h1 rfl;exact ⟨r,b,es,ck,si,se,la,av.trans h1,h2,k1.trans h3,h4.bE hl,aE.bE hl _ _ h5,aE.bE hl _ _ h6,h7,h8,h9,h9',fun o ho=>h10 o (k2 o ho)⟩
 ·obtain ⟨aD,h1,h2,h3⟩:=h;refine ⟨aD,av.trans h1,h2,?_⟩;split
  ·exact h3
  ·rename_i b cap;obtain ⟨cs,m,h4,h5,h6,h7,h8,h9,h10⟩:=h3;obtain ⟨k1,k2⟩:=hheap _ b h1 rfl;exact ⟨cs,m,h4,k1.trans h5,h6,h7,h8,h9,fun o ho=>h10 o (k2 o ho)⟩
theorem dG.grow{w':World}{D':aL}(hb:Below w.heap.size w w')(hD:∀ b o,D b o→D' b o):dG w D E w' D' E:=by
 refine ⟨hD,fun b o v _ hv =>?_,fun _ _ _ h=>h,fun _ aD l h=>⟨aD,l,h,zz6 _,fun _=>rfl⟩,fun _ _ h=>h,fun _ _ h=>h,fun b es ck _ hm=>(hb.block b (fH hm)).trans hm⟩;rw[hb.cell (World.block_lt_of_cell? w _ hv)];exact hv
theorem aP.Jf(h:aP c A a w D E){w':World}(hb:Below w.heap.size w w'):fv c.eU w w':=fv.grow hb fun k hk=>.inl (zv7 h.dK.size hk)
theorem aP.old(h:aP c A a w D E){b:Nat}(hm:¬ c.eU b):b<w.heap.size :=
 Nat.lt_of_lt_of_le (Nat.lt_of_not_le fun hle=>hm (.inl hle)) h.dK.size
theorem aP.jU(h:aP c A a w D E){d:Nat}(hd:d<c.n∨d<1000000):c.dL d=none:=by
 cases hh:c.dL d with
 |none=>rfl
 |some e=>have:=h.eO d (by rw[hh];simp);omega
theorem aP.grow(h:aP c A a w D E){w':World}{D':aL}(hb:Below w.heap.size w w')(hD:∀ b o,D b o→D' b o)
  (hold:∀ b o,D' b o→b<w.heap.size→D b o) (hlive:∀ b o,D' b o→b<w'.heap.size):aP c A a w' D' E:=by
 have hl:dG w D E w' D' E:=dG.grow hb hD;refine ⟨h.sz,h.eF.grow hb,fun t=>aS.bE hl (h.ea t),h.dK.trans (h.Jf hb),fun b o hd hm=>h.cV b o (hold b o hd (h.old hm)) hm,hlive,
  fun n=>(h.bU n).bE hl rfl (fun e b he hb'=>⟨hb.block b (h.fG he hb'),fun o ho=>hold b o ho (h.fG he hb')⟩),h.cM,h.dQ,h.eO,fun b o hd=>hD b o (h.cG b o hd),h.eS,h.kL hl⟩
theorem aP.NW(h:aP c A a w D E){D':aL}(hD:∀ b o,D b o→D' b o)
  (hold:∀ b o,D' b o→¬ c.eU b→c.D0 b o) (hlive:∀ b o,D' b o→b<w.heap.size)
  (hbox:∀ n x b,A.o n=some (.box x)→E n=some (.aB b x.aJ)→∀ o,¬ D' b o)
  (hrow:∀ n T sz es b cap,A.o n=some (.bT T sz es)→E n=some (.rw (some (b,cap)) es.length)→∀ o,D' b o→o<es.length*sz)
  (hui:∀ n T xs b cap,A.o n=some (.cO T xs)→E n=some (.rw (some (b,cap)) xs.length)→∀ o,¬ D' b o)
  (hopq:∀ n e b,E n=some e→e.ee=true→e.aD=some b→∀ o,¬ D' b o):aP c A a w D' E:=by
 have hl:dG w D E w D' E:=⟨hD,fun _ _ _ _ h=>h,fun _ _ _ h=>h,fun _ aD l h=>⟨aD,l,h,zz6 _,fun _=>rfl⟩,fun _ _ h=>h,fun _ _ h=>h,fun _ _ _ _ h=>h⟩
 refine ⟨h.sz,h.eF,fun t=>aS.bE hl (h.ea t),h.dK,hold,hlive,fun n =>?_,h.cM,h.dQ,h.eO,fun b o hd=>hD b o (h.cG b o hd),h.eS,h.fq⟩;have ho:=h.bU n;cases hx:A.o n with
 |none=>rw[hx] at ho;exact ho
 |some x =>
  cases x with
  |box x =>
   rw[hx] at ho;obtain ⟨b,cs,T,h1,h2,h3,h4,h5⟩:=ho;exact ⟨b,cs,T,h1,h2,h3,af.bE hl _ _ h4,hbox n x b hx h1⟩
  |bT T sz es =>
   rw[hx] at ho;obtain ⟨aD,h1,h2,h3⟩:=ho;refine ⟨aD,h1,h2,?_⟩;cases aD with
   |none=>exact h3
   |some bc =>
    obtain ⟨b,cap⟩:=bc;obtain ⟨cs,pre,rest,h4,h5,h6,h7,h8,h9,h10,h11⟩:=h3;refine ⟨cs,pre,rest,h4,h5,h6,aG.bE hl _ _ h7,h8,h9,h10,fun o hd =>?_⟩;rw[aG.length _ _ h7,I.gR _ h2];exact hrow n T sz es b cap hx h1 o hd
  |dD x =>
   rw[hx] at ho;obtain ⟨b,h1,h2,h3,h4,h5⟩:=ho;exact ⟨b,h1,h2,h3,h4,hopq n _ b h1 rfl rfl⟩
  |cq ks vs =>
   rw[hx] at ho;obtain ⟨b,es,ck,h1,h2,h3,h4,h5,h6,h7⟩:=ho;exact ⟨b,es,ck,h1,h2,h3,h4,aE.bE hl _ _ h5,aE.bE hl _ _ h6,hopq n _ b h1 rfl rfl⟩
  |it ks vs left cur =>
   rw[hx] at ho;obtain ⟨r,b,es,ck,si,se,la,h1,h2,h3,h4,h5,h6,h7,h8,h9,h9',h10⟩:=ho;exact ⟨r,b,es,ck,si,se,la,h1,h2,h3,h4.bE hl,aE.bE hl _ _ h5,aE.bE hl _ _ h6,h7,h8,h9,h9',hopq n _ r h1 rfl rfl⟩
  |cO T xs =>
   rw[hx] at ho;obtain ⟨aD,h1,h2,h3⟩:=ho;refine ⟨aD,h1,h2,?_⟩;cases aD with
   |none=>exact h3
   |some bc =>
    obtain ⟨b,cap⟩:=bc;obtain ⟨cs,m,h4,h5,h6,h7,h8,h9,h10⟩:=h3;exact ⟨cs,m,h4,h5,h6,h7,h8,h9,hui n T xs b cap hx h1⟩
theorem aem(a:Act)(d:Nat)(v:Value)(t:Nat)(hd:d<a.tmps.size):(a.put (some d) v).tmps.getD t undef=if t=d then v else a.tmps.getD t undef:=by
 simp only[Act.put,Array.getD_eq_getD_getElem?,Array.getElem?_setIfInBounds];by_cases h:t=d
 ·subst h;simp[hd]
 ·simp[h,Ne.symm h]
theorem aP.put(h:aP c A a w D E){d:Nat}{x:I}{v:Value}(hd:d<c.n)(hv:aS w D E x v):aP c (A.put d x) (a.put (some d) v) w D E:=by
 refine ⟨by simp[Act.put,h.sz],by exact h.eF,fun t =>?_,h.dK,h.cV,h.c9,h.bU,h.cM,h.dQ,h.eO,h.cG,h.eS,h.fq⟩;rw[aem a d v t (by rw[h.sz];exact hd)];simp only[ae.put];split
 ·exact hv
 ·exact h.ea t
theorem aP.aK(h:aP c A a w D E){d:Option Nat}{x:I}{v:Value}(hd:∀ k,d=some k→k<c.n)(hv:aS w D E x v):aP c (A.aK d x) (a.put d v) w D E:=by
 cases d with
 |none=>exact h
 |some d=>exact h.put (hd d rfl) hv
theorem rL(w:World)(o:Obj):Below w.heap.size w (w.alloc o):=(Below.refl _ _).alloc (zz6 _) o
theorem M6{w:World}{D:aL}{E:aT} : ∀ {xs:List I} {vs:List Value},aE w D E xs vs→vs.length=xs.length
 | [],vs,h=>by simp only[aE] at h;subst h;rfl
 |x::xs,vs,h=>by
  simp only[aE] at h;obtain ⟨v,rest,cs,rfl,_,_,h3⟩:=h;simp[M6 h3]
theorem aP.sY(h:aP c A a w D E){d:Nat}{x:ah}{o':Obj}{e:bS}(hdn:d<c.n∨d<1000000)(hd:A.o d=none)(heb:e.aD=some w.heap.size)
  (hx:dG w D E (w.alloc o') D (fun n=>if n=d then some e else E n)→(∀ o,¬ D w.heap.size o)→cY c.eU (w.alloc o') D (fun n=>if n=d then some e else E n) d (some x)) :
  aP c (A.aN d x) a (w.alloc o') D (fun n=>if n=d then some e else E n):=by
 have hEd:E d=none:=by have:=h.bU d;rw[hd] at this;exact this
 have hne:∀ {n:Nat} {e:bS},E n=some e→n≠d:=fun he e'=>by rw[e',hEd] at he;cases he
 have hl:dG w D E (w.alloc o') D (fun n=>if n=d then some e else E n):=by
  refine ⟨fun _ _ h=>h,fun b o v _ hv =>?_,fun n b aJ he =>?_,fun n aD l he =>?_,fun n b he =>?_,fun n b he =>?_,fun b es ck _ hm=>(Below.heap_alloc w _ b (fH hm)).trans hm⟩
  ·rw[World.cell?_alloc_lt _ _ _ (World.block_lt_of_cell? w _ hv)];exact hv
  ·simp only[if_neg (hne he)];exact he
  ·exact ⟨aD,l,by simp only[if_neg (hne he)];exact he,zz6 _,fun _=>rfl⟩
  ·simp only[if_neg (hne he)];exact he
  ·simp only[if_neg (hne he)];exact he
 refine ⟨h.sz,h.eF.grow (rL w _),fun t=>aS.bE hl (h.ea t),h.dK.trans (h.Jf (rL w _)),h.cV,fun b o hd'=>by have:=h.c9 b o hd';simp;omega,fun n =>?_,?_,fun n e' hn =>?_,h.eO,h.cG,h.eS,h.kL hl⟩
 ·simp only[ae.aN];by_cases hn:n=d
  ·subst hn;simp only[if_true];exact hx hl fun o ho=>Nat.lt_irrefl _ (h.c9 _ o ho)
  ·simp only[if_neg hn];exact (h.bU n).bE hl (by simp only[if_neg hn]) fun e b he hb=>⟨Below.heap_alloc w _ b (h.fG he hb),fun _ ho=>ho⟩
 ·intro n m e1 e2 b h1 h2 h3 h4;by_cases hn:n=d <;>by_cases hm:m=d
  ·rw[hn,hm]
  ·simp only[if_pos hn,u8] at h1;simp only[if_neg hm] at h2;subst h1;rw[heb] at h3;cases h3;have:=h.fG h2 h4;omega
  ·simp only[if_neg hn] at h1;simp only[if_pos hm,u8] at h2;subst h2;rw[heb] at h4;cases h4;have:=h.fG h1 h3;omega
  ·simp only[if_neg hn] at h1;simp only[if_neg hm] at h2;exact h.cM n m e1 e2 b h1 h2 h3 h4
 ·have hnd:n≠d:=fun e=>by rw[e,h.jU hdn] at hn;cases hn
  simp only[if_neg hnd];exact h.dQ n e' hn
theorem aP.qD(h:aP c A a w D E){d:Nat}{x:I}{cs:Array Value}{T:TypeId}(hdn:d<c.n∨d<1000000)(hd:A.o d=none)(hx:af w D E x cs.toList) :
  aP c (A.aN d (.box x)) a (w.alloc (.cells cs T)) D (fun n=>if n=d then some (.aB w.heap.size x.aJ) else E n) :=
 h.sY hdn hd rfl fun hl hno=>⟨w.heap.size,cs,T,by simp,.inl h.dK.size,heap_alloc_new w _,af.bE hl _ _ hx,hno⟩
theorem aP.af5(h:aP c A a w D E){d:Nat}(hdn:d<c.n∨d<1000000)(hd:A.o d=none) :
  aP c (A.aN d (.cq [] [])) a (w.alloc (.map #[] 0)) D (fun n=>if n=d then some (.cq w.heap.size) else E n) :=
 h.sY hdn hd rfl fun _ hno=>⟨w.heap.size,#[],0,by simp,.inl h.dK.size,heap_alloc_new w _,⟨by simp,by simp⟩,by simp[aE],by simp[aE],hno⟩
theorem aP.af4(h:aP c A a w D E){d b clock:Nat}{ks vs:List I}{es:Array MapEntry}(hdn:d<c.n∨d<1000000)(hd:A.o d=none)(hm:nX w D b es clock)(hk:aE w D E ks (es.toList.map (·.key)))(hv:aE w D E vs (es.toList.map (·.val))) :
  aP c (A.aN d (.it ks vs (List.range ks.length) none)) a (w.alloc (.mapIter (some b) clock #[] clock)) D (fun n=>if n=d then some (.it w.heap.size) else E n) :=
 h.sY hdn hd rfl fun hl hno=>⟨w.heap.size,b,es,clock,clock,#[],clock,by simp,.inl h.dK.size,heap_alloc_new w _,hm.bE hl,aE.bE hl _ _ hk,aE.bE hl _ _ hv,hm.2.2.1,⟨zz6 _,zz6 _⟩,by
  have e:ks.length=es.size:=by have:=M6 hk;simpa using this.symm
  rw[e];unfold nR;exact (List.filter_eq_self.2 fun i hi=>by
   have hi':i<es.size:=by simpa using hi
   simp[Array.getElem?_eq_getElem hi']).symm,(fun i hi=>by cases hi),hno⟩
theorem uH(w:World)(g:Nat)(cs:Array Value)(p:Addr)(h:p.block≠g):(w.setRow g cs).cell? p=w.cell? p :=
 World.cell?_of_block (setRow_other w g p.block cs h)
theorem wR{M:Nat→Prop}{eR w:World}(h:fv M eR w){g:Nat}(hg:M g)(cs:Array Value):fv M eR (w.setRow g cs) :=
 h.trans ⟨rfl,rfl,rfl,by simp[World.setRow],fun k hk=>setRow_other w g k cs (fun e=>hk (e▸hg))⟩
theorem aP.Nc(h:aP c A a w D E){n b:Nat}{x y:I}{cs':Array Value}(hn:A.o n=some (.box x))(av:E n=some (.aB b x.aJ))(hs:y.aJ=x.aJ)(hy:af w D E y cs'.toList) :
  aP c (A.aN n (.box y)) a (w.setRow b cs') D E:=by
 have ho:=h.bU n;rw[hn] at ho;obtain ⟨b',cs,T,h1,h2,h3,h4,h5⟩:=ho;rw[av] at h1;simp only[u8,bS.aB.injEq,and_true] at h1;subst h1;have hl:dG w D E (w.setRow b cs') D E:=by
  refine ⟨fun _ _ h=>h,fun b1 o v hd hv =>?_,fun _ _ _ h=>h,fun _ aD l h=>⟨aD,l,h,zz6 _,fun _=>rfl⟩,fun _ _ h=>h,fun _ _ h=>h,fun b1 es ck hd hm=>(setRow_other w b b1 _ (fun e=>h5 0 (by rw[←e];exact hd))).trans hm⟩;rw[uH _ _ _ _ (fun e=>h5 o (by rw[←e];exact hd))];exact hv
 refine ⟨h.sz,h.eF.mono fun B _ hB=>(setRow_other w b B cs' (fun e=>by rw[e,h3] at hB;cases hB)).trans hB,fun t=>aS.bE hl (h.ea t),wR h.dK h2 _,h.cV,fun b1 o hd=>by have:=h.c9 b1 o hd;simpa[World.setRow] using this,fun m =>?_,h.cM,h.dQ,h.eO,h.cG,h.eS,h.kL hl⟩;simp only[ae.aN];by_cases hm:m=n
 ·subst hm;simp only[if_true,cY];exact ⟨b,cs',T,by rw[hs];exact av,h2,setRow_heap w b cs cs' T _ h3,af.bE hl _ _ hy,h5⟩
 ·simp only[if_neg hm];refine (h.bU m).bE hl rfl fun e b1 he hb=>⟨setRow_other w b b1 cs' (fun e1=>hm (h.cM m n e _ b he av (by rw[hb,e1]) rfl)),fun _ ho=>ho⟩
theorem uI{w:World}{B:Nat}{o o':Obj}(h:w.heap[B]?=some o)(ho:o.isCells=false){b off:Nat}{v:Value}(hv:w.cell? ⟨b,off,none⟩=some v):(w.putObj B o').cell? ⟨b,off,none⟩=some v:=by
 have hne:b≠B:=fun e=>by
  obtain ⟨o2,h2,h3⟩:=cells_of_cell hv;simp only at h2;rw[e,h] at h2;cases h2;rw[ho] at h3;cases h3
 rw[World.cell?_of_block (w:=w) (World.putObj_heap_other hne)];exact hv
theorem aP.Nf(h:aP c A a w D E){n b:Nat}{e:bS}{x:ah}{o0 o':Obj}(av:E n=some e)(ho:e.ee=true)(hb:e.aD=some b)(hw:w.heap[b]?=some o0)(hnc:o0.isCells=false)(hnd:∀ q,o0≠.deferred q)(hmine:c.eU b)
  (hx:dG w D E (w.putObj b o') D E→(w.putObj b o').heap[b]?=some o'→(∀ o,¬ D b o)→cY c.eU (w.putObj b o') D E n (some x)):aP c (A.aN n x) a (w.putObj b o') D E:=by
 have hno:=h.xO av ho hb;have hlt:b<w.heap.size:=fH hw;have hl:dG w D E (w.putObj b o') D E:=⟨fun _ _ h=>h,fun b1 o1 v _ hv=>uI hw hnc hv,fun _ _ _ h=>h,fun _ aD l h=>⟨aD,l,h,zz6 _,fun _=>rfl⟩,fun _ _ h=>h,fun _ _ h=>h,
  fun b1 es ck hd hm=>(World.putObj_heap_other (fun e1=>hno 0 (by rw[←e1];exact hd))).trans hm⟩
 refine ⟨h.sz,h.eF.mono fun B _ hB=>(World.putObj_heap_other (fun e1=>by rw[e1,hw] at hB;exact hnd _ (Option.some.inj hB))).trans hB,fun t=>aS.bE hl (h.ea t),h.dK.trans ⟨rfl,rfl,rfl,by simp,fun k hk=>World.putObj_heap_other (fun e1=>hk (e1▸hmine))⟩,h.cV,
  fun b1 o1 hd=>by have:=h.c9 b1 o1 hd;simpa using this,fun m =>?_,h.cM,h.dQ,h.eO,h.cG,h.eS,h.kL hl⟩
 simp only[ae.aN];by_cases hm:m=n
 ·subst hm;simp only[if_true];exact hx hl (World.putObj_heap_same hlt) hno
 ·simp only[if_neg hm];exact (h.bU m).bE hl rfl fun e' b1 he hb'=>⟨World.putObj_heap_other (fun e1=>hm (h.cM m n e' _ b1 he av hb' (by rw[e1];exact hb))),fun _ ho=>ho⟩
end
inductive aH where
 |t (n:Nat)
 |c (x:I)
 deriving Inhabited
inductive cH where
 |i (k:IntKind)
 |b
 |s
 |bB (l:List cH)
 |kh (n:Nat) (e:cH)
 deriving Inhabited
mutual
def cH.size:cH→Nat
 | .i _ | .b | .s=>1
 | .bB l=>cH.sizes l
 | .kh n e=>n*e.size
def cH.sizes:List cH→Nat
 | []=>0
 |t::ts=>t.size+cH.sizes ts
end
inductive b7 where
 |mv (x:aH)
 |pick (c a b:aH)
 |bin (op:BinOp) (x y:aH)
 |eqv (ty:cH) (neg:Bool) (x y:aH)
 |nilS (neg:Bool) (x:aH)
 |conv (k:IntKind) (x:aH)
 |un (op:UnOp) (x:aH)
 |ld (s:Option Nat) (x:aH)
 |fa (f off:Nat) (x:aH)
 |fl (f off:Nat) (s:Option Nat) (x:aH)
 |ia (n esz:Nat) (x i:aH)
 |is (esz:Nat) (x i:aH)
 |ix (n esz:Nat) (s:Option Nat) (x i:aH)
 |len (x:aH)
 |lenT (x:aH)
 |va (n esz:Nat) (x:aH)
 |sl (esz:Nat) (x:aH) (lo hi mx:Option aH)
 |bld (zs:List I) (parts:List (Nat×aH))
 |bs (T esz:Nat) (parts:List aH)
 |ext (x:aH) (i:Nat)
 |mk (f:FuncId) (caps:List aH)
 |alloc (z:I)
 |box (x:aH)
 |bB (s:Option Nat) (x v:aH)
 |dH (e:TypeId) (esz bytes:Nat) (z:I) (s x:aH)
 |lT (e:TypeId) (esz bytes:Nat) (z:I) (s n:aH)
 |cap (x:aH)
 |bs0 (esz:Nat)
 |je (esz:Nat) (z:I) (x:aH)
 |kZ (esz:Nat) (x y:aH)
 |call (f:FuncId) (args:List aH)
 |eh (x:aH) (args:List aH)
 |kd (f:FuncId) (args:List aH)
 |nilC (x:aH)
 |ptrE (neg:Bool) (x y:aH)
 |j0 (e:TypeId) (bytes:Nat) (z:I) (n:aH)
 |jB
 |lk (ty:cH) (z:I) (ok:Bool) (m k:aH)
 |gn (ty:cH) (m k v:aH)
 |ka (x:aH)
 |jk (x:aH)
 |ent (x:aH)
 deriving Inhabited
def uC(sz:Nat):Value→Option I
 | .bool b=>some (.bool b)
 | .int k n=>if k.min≤n∧n≤k.max then some (.int k n) else none
 | .string s=>if s.size≤1000000 then some (.cQ s) else none
 | .pointer none=>some .nilp
 | .slice none 0 0=>some (.nils sz)
 | .nilFunc=>some .da
 | .nilIface=>some .dN
 | .map none=>some (.raw (.map none))
 |_=>none
theorem QN{sz:Nat}{v:Value}{x:I}(h:uC sz v=some x)(w:World)(D:aL)(E:aT):aS w D E x v:=by
 unfold uC at h;split at h
 case h_2 =>
  split at h
  ·rename_i hh;simp only[u8] at h;subst h;exact ⟨_,by simp[bG,I.isAgg];rfl,by simp only[af,true_and];exact hh⟩
  ·simp at h
 case h_3 =>
  split at h
  ·rename_i hh;simp only[u8] at h;subst h;exact ⟨_,by simp[bG,I.isAgg];rfl,by simp only[af,true_and];unfold maxLen;omega⟩
  ·simp at h
 case h_9=>simp at h
 all_goals
  simp only[u8] at h;subst h;exact ⟨_,by simp[bG,I.isAgg];rfl,by simp[af,Value.oneCell']⟩
def XS(P:Program)(t:TypeId):Nat:=match P.underlying t with | some (.slice e)=>P.cellsOf e | _=>0
def bC(P:Program)(t:TypeId):Operand→Option aH
 | .tmp n=>some (.t n)
 | .const v=>(uC (XS P t) v).map .c
 | .func f=>some (.c (.func f []))
 | .global _=>none
def ab(A:ae):aH→I
 | .t n=>A.t n
 | .c x=>x
section
variable {c:cI} {A:ae} {a:Act} {w:World} {D:aL} {E:aT}
theorem ca(h:aP c A a w D E){P:Program}{t:TypeId}{x:Operand}{y:aH}(hc:bC P t x=some y):aS w D E (ab A y) (a.eval x):=by
 cases x with
 |tmp n=>simp only[bC,u8] at hc;subst hc;exact h.ea n
 |const v =>
  simp only[bC,zz0] at hc;obtain ⟨z,hz,rfl⟩:=hc;exact QN hz w D E
 |global g=>simp[bC] at hc
 |func f =>
  simp only[bC,u8] at hc;subst hc;exact ⟨[.func (.func f) #[] #[]],by simp[bG,I.isAgg,ab,Act.eval],by simp only[af,ab,aE];exact ⟨[],rfl,rfl⟩⟩
theorem lK{b:Bool}{v:Value}(h:aS w D E (.bool b) v):v=.bool b:=by
 obtain ⟨cs,h1,h2⟩:=h;simp only[af] at h2;simp[bG,I.isAgg,h2] at h1;exact h1.symm
theorem ff{k:IntKind}{n:Int}{v:Value}(h:aS w D E (.int k n) v):v=.int k n∧k.min≤n∧n≤k.max:=by
 obtain ⟨cs,h1,h2⟩:=h;simp only[af] at h2;simp[bG,I.isAgg,h2.1] at h1;exact ⟨h1.symm,h2.2⟩
theorem nu{s:ByteArray}{v:Value}(h:aS w D E (.cQ s) v):v=.string s∧s.size≤maxLen:=by
 obtain ⟨cs,h1,h2⟩:=h;simp only[af] at h2;simp[bG,I.isAgg,h2.1] at h1;exact ⟨h1.symm,h2.2⟩
theorem JY{x:I}{v:Value}(hx:x.isAgg=false)(h:af w D E x [v]):aS w D E x v:=by
 cases x <;>simp only[af] at h <;>first | (simp[I.isAgg] at hx;done) | exact ⟨[v],by simp[bG,I.isAgg],by simpa only[af] using h⟩
theorem jr{fs:List I}{v:Value}(h:aS w D E (.agg fs) v):∃ cs:List Value,v=.agg cs.toArray∧aG w D E fs cs:=by
 obtain ⟨cs,h1,h2⟩:=h;simp only[af] at h2;exact ⟨cs,by simpa[bG,I.isAgg] using h1,h2⟩
theorem JX{fs:List I}{cs:List Value}(h:aG w D E fs cs):aS w D E (.agg fs) (.agg cs.toArray):=⟨cs,by simp[bG,I.isAgg],by simpa only[af] using h⟩
theorem nW(b:Bool):aS w D E (.bool b) (.bool b):=⟨[.bool b],by simp[bG,I.isAgg],by simp[af]⟩
theorem kA{k:IntKind}{n:Int}(h:k.min≤n∧n≤k.max):aS w D E (.int k n) (.int k n):=⟨[.int k n],by simp[bG,I.isAgg],by simp only[af,true_and];exact h⟩
theorem oh{n:Nat}{p:List Nat}{v:Value}(h:aS w D E (.ptr n p) v):∃ b aJ off,E n=some (.aB b aJ)∧aJ.off p=some off∧v=.pointer (some ⟨b,off,none⟩):=by
 obtain ⟨cs,h1,h2⟩:=h;simp only[af] at h2;obtain ⟨b,aJ,off,h3,h4,h5⟩:=h2;exact ⟨b,aJ,off,h3,h4,by simpa[bG,I.isAgg,h5] using h1.symm⟩
theorem pJ{x:I}{v:Value}(h:aS w D E (.ref x) v):∃ b off cs,v=.pointer (some ⟨b,off,none⟩)∧gq w D b off cs∧af w D E x cs:=by
 obtain ⟨cs,h1,h2⟩:=h;simp only[af] at h2;obtain ⟨b,off,cs',h3,h4,h5⟩:=h2;exact ⟨b,off,cs',by simpa[bG,I.isAgg,h3] using h1.symm,h4,h5⟩
theorem sS{x:I}{b off:Nat}{cs:List Value}(h1:gq w D b off cs)(h2:af w D E x cs):aS w D E (.ref x) (.pointer (some ⟨b,off,none⟩)) :=
 ⟨_,by simp[bG,I.isAgg];rfl,by simp only[af];exact ⟨b,off,cs,rfl,h1,h2⟩⟩
theorem nt{sz:Nat}{es:List I}{v:Value}(h:aS w D E (.slice sz es) v):∃ ad cap,v=.slice ad es.length cap∧es.length≤cap∧cap≤maxLen ∧
  (es=[]∨∃ b off cs,ad=some ⟨b,off,none⟩∧gq w D b off cs∧aG w D E es cs)∧∀ e∈es,e.size=sz:=by
 obtain ⟨cs,h1,h2⟩:=h;simp only[af] at h2;obtain ⟨ad,cap,h3,h4⟩:=h2;exact ⟨ad,cap,by simpa[bG,I.isAgg,h3] using h1.symm,h4⟩
theorem sT{sz:Nat}{es:List I}{ad:Option Addr}{n cap:Nat}(hn:n=es.length)(h1:n≤cap)(h2:cap≤maxLen)
  (h3:es=[]∨∃ b off cs,ad=some ⟨b,off,none⟩∧gq w D b off cs∧aG w D E es cs) (h4:∀ e∈es,e.size=sz):aS w D E (.slice sz es) (.slice ad n cap):=by
 subst hn;exact ⟨_,by simp[bG,I.isAgg];rfl,by simp only[af];exact ⟨ad,cap,rfl,h1,h2,h3,h4⟩⟩
end
def cD(op:BinOp)(x y:I):Option I :=
 match x,y with
 | .int k a,.int k' b =>
  match op with
  | .shl=>if 0≤b then some (.int k (k.wrap (a*2^(min b.toNat k.bits)))) else none
  | .shr=>if 0≤b then some (.int k (a.fdiv (2^(min b.toNat k.bits)))) else none
  |op=>if k=k' then
   match op with
   | .add=>some (.int k (k.wrap (a+b)))
   | .sub=>some (.int k (k.wrap (a-b)))
   | .mul=>some (.int k (k.wrap (a*b)))
   | .quo=>if b=0 then none else some (.int k (k.wrap (a.tdiv b)))
   | .rem=>if b=0 then none else some (.int k (a.tmod b))
   | .and=>some (.int k (k.wrap ((BitVec.ofInt k.bits a &&& BitVec.ofInt k.bits b).toNat:Int)))
   | .or=>some (.int k (k.wrap ((BitVec.ofInt k.bits a ||| BitVec.ofInt k.bits b).toNat:Int)))
   | .xor=>some (.int k (k.wrap ((BitVec.ofInt k.bits a ^^^ BitVec.ofInt k.bits b).toNat:Int)))
   | .andNot=>some (.int k (k.wrap ((BitVec.ofInt k.bits a &&& ~~~ BitVec.ofInt k.bits b).toNat:Int)))
   | .eql=>some (.bool (a==b))
   | .neq=>some (.bool (a != b))
   | .lss=>some (.bool (decide (a<b)))
   | .leq=>some (.bool (decide (a≤b)))
   | .gtr=>some (.bool (decide (a>b)))
   | .geq=>some (.bool (decide (a≥b)))
   |_=>none
   else none
 | .cQ s,.cQ t =>
  match op with
  | .eql=>some (.bool (s.toList==t.toList))
  | .neq=>some (.bool (!(s.toList==t.toList)))
  | .lss=>some (.bool (Op.bytesLess s.toList t.toList))
  | .leq=>some (.bool (Op.bytesLess s.toList t.toList||s.toList==t.toList))
  | .gtr=>some (.bool (!(Op.bytesLess s.toList t.toList||s.toList==t.toList)))
  | .geq=>some (.bool (!(Op.bytesLess s.toList t.toList)))
  | .add=>if s.size+t.size≤9223372036854775807 then some (.cQ (s++t)) else none
  |_=>none
 |_,_=>none
theorem pT(k:IntKind)(n:Int):k.min≤k.wrap n∧k.wrap n≤k.max:=by
 cases k <;>simp only[IntKind.min,IntKind.max,IntKind.wrap,IntKind.bits,IntKind.signed] <;>simp <;>(try split) <;>omega
theorem aiU(a b:Int):(0≤a→0≤a.tmod b∧a.tmod b≤a)∧(a<0→a≤a.tmod b∧a.tmod b≤0):=by
 have key:∀ n:Nat,0≤(n:Int).tmod b∧(n:Int).tmod b≤n:=by
  intro n;cases b with
  |ofNat m=>show 0≤((n%m:Nat):Int)∧((n%m:Nat):Int)≤n;have:=Nat.mod_le n m;omega
  |negSucc m=>show 0≤((n%(m+1):Nat):Int)∧((n%(m+1):Nat):Int)≤n;have:=Nat.mod_le n (m+1);omega
 refine ⟨fun h =>?_,fun h =>?_⟩
 ·obtain ⟨n,rfl⟩:=Int.eq_ofNat_of_zero_le h;exact key n
 ·obtain ⟨n,hn⟩:=Int.eq_ofNat_of_zero_le (show 0≤-a by omega);have:=key n;rw[←hn,Int.neg_tmod] at this;omega
theorem aiV(k:IntKind)(a b:Int)(h:k.min≤a∧a≤k.max):k.min≤a.tmod b∧a.tmod b≤k.max:=by
 have h0:k.min≤0∧0≤k.max:=by cases k <;>simp[IntKind.min,IntKind.max,IntKind.bits,IntKind.signed]
 have:=aiU a b;omega
theorem X4(a:Int)(m:Int)(hm:0<m):(0≤a→0≤a.fdiv m∧a.fdiv m≤a)∧(a<0→a≤a.fdiv m∧a.fdiv m≤0):=by
 rw[Int.fdiv_eq_ediv_of_nonneg _ (by omega)];have h1:=Int.mul_ediv_add_emod a m;have h2:=Int.emod_nonneg a (show m≠0 by omega);refine ⟨fun h=>⟨Int.ediv_nonneg h (by omega),Int.ediv_le_self _ h⟩,fun h=>⟨?_,?_⟩⟩
 ·rw[Int.le_ediv_iff_mul_le hm];have:a*m≤a*1:=Int.mul_le_mul_of_nonpos_left (by omega) (by omega);omega
 ·have:=Int.ediv_neg_of_neg_of_pos h hm;omega
theorem X5(k:IntKind)(a:Int)(n:Nat)(h:k.min≤a∧a≤k.max):k.min≤a.fdiv (2^n)∧a.fdiv (2^n)≤k.max:=by
 have h0:k.min≤0∧0≤k.max:=by cases k <;>simp[IntKind.min,IntKind.max,IntKind.bits,IntKind.signed]
 have:=X4 a (2^n) (Int.pow_pos (by omega));omega
def cz(A:ae):I→Option I
 | .ref x=>some x
 | .ptr n p=>match A.o n with
  |some (.box x)=>x.at p
  |_=>none
 |_=>none
mutual
def I.bp:I→Bool
 | .agg fs=>I.bW fs
 | .slice _ es=>I.bW es
 | .ref x=>x.bp
 | .func _ caps=>I.bW caps
 | .iface _ v=>v.bp
 | .cL ks vs=>I.bW ks&&I.bW vs
 | .ptr _ _ | .own _ _ | .view _ _ _ _ _ | .mref _ | .dj _ | .undef | .c8 | .tuple _=>false
 | .bool _ | .int _ _ | .cQ _ | .nilp | .da | .dN | .raw _ | .nils _ | .c0 _=>true
def I.bW:List I→Bool
 | []=>true
 |x::xs=>x.bp&&I.bW xs
end
def fC(f:I→Option I):List I→Option (List I)
 | []=>some []
 |x::xs=>match f x,fC f xs with
  |some y,some ys=>some (y::ys)
  |_,_=>none
def dS(A:ae):Nat→I→Option I
 |0,_=>none
 |k+1,x=>if x.bp then some x else match x with
  | .agg fs=>(fC (dS A k) fs).map .agg
  | .func f caps=>(fC (dS A k) caps).map (.func f)
  | .ptr n p=>match cz A (.ptr n p) with
   |some y=>(dS A k y).map .ref
   |none=>none
  | .view n p sz lo l=>match cz A (.ptr n p) with
   |some (.agg fs)=>if I.bW ((fs.drop lo).take l)=true then some (.slice sz ((fs.drop lo).take l)) else none
   |_=>none
  | .mref n=>match A.o n with
   |some (.cq ks vs)=>if I.bW ks=true then (fC (dS A k) vs).map (.cL ks) else none
   |_=>none
  | .own n l=>match A.o n with
   |some (.bT _ sz es)=>if l=es.length∧I.bW es=true then some (.slice sz es) else none
   |_=>none
  |_=>none
mutual
/-- The value for others to hold: pointers to the frame's own variables and rows become what they hold. -/
def bg(aB:Bool)(A:ae):I→Option I
 | .ptr n p=>if aB then (match cz A (.ptr n p) with | some x=>if x.bp then some (.ref x) else (dS A 9 x).map .ref | none=>none) else none
 | .own n k=>match A.o n with
  |some (.bT _ sz es)=>if k=es.length∧I.bW es=true then some (.slice sz es) else none
  |_=>none
 | .view n p sz lo k=>if aB then (match cz A (.ptr n p) with
  |some (.agg fs)=>if I.bW ((fs.drop lo).take k)=true then some (.slice sz ((fs.drop lo).take k)) else none
  |_=>none) else none
 | .mref n=>if aB then (match A.o n with
  |some (.cq ks vs)=>if I.bW ks=true then (fC (dS A 9) vs).map (.cL ks) else none
  |_=>none) else none
 | .dj _=>none
 | .cL ks vs=>if I.bW ks&&I.bW vs then some (.cL ks vs) else none
 | .nils sz=>some (.slice sz [])
 | .c0 sz=>some (.slice sz [])
 | .func f caps=>(bX aB A caps).map (.func f)
 | .agg fs=>(bX aB A fs).map .agg
 | .tuple _=>none
 | .undef=>none
 | .c8=>none
 | .bool b=>some (.bool b)
 | .int k n=>some (.int k n)
 | .cQ s=>some (.cQ s)
 | .nilp=>some .nilp
 | .da=>some .da
 | .dN=>some .dN
 | .raw ao=>some (.raw ao)
 | .slice sz es=>if I.bW es then some (.slice sz es) else none
 | .ref x=>if x.bp then some (.ref x) else none
 | .iface t v=>if v.bp then some (.iface t v) else none
def bX(aB:Bool)(A:ae):List I→Option (List I)
 | []=>some []
 |x::xs=>match bg aB A x,bX aB A xs with
  |some y,some ys=>some (y::ys)
  |_,_=>none
end
def bV(s:Option Nat)(x:I):Bool:=match s with
 |none => !x.isAgg
 |some n=>x.isAgg&&x.size==n
def I.cd:I→Bool
 | .undef | .c8 | .tuple _=>false
 |_=>true
def hT(n esz:Nat)(fs:List I):Bool:=fs.length==n&&fs.all fun f=>f.size==esz
def dR(zs:List I):List (Nat×I)→Option (List I)
 | []=>some zs
 |(i,v)::rest=>match zs[i]? with
  |some z=>if v.cd=true∧v.size=z.size then dR (zs.set i v) rest else none
  |none=>none
def gX(x:Option I)(d:Int):Option Int:=match x with
 |none=>some d
 |some (.int _ n)=>some n
 |_=>none
def jH(sz:Nat)(es:List I)(lo hi mx:Option I):Option I :=
 match gX hi es.length with
 |none=>none
 |some h=>match gX mx es.length with
  |none=>none
  |some m=>match gX lo 0 with
   |none=>none
   |some l=>if 0≤l∧l≤h∧h≤m∧m≤es.length then
     (if mx.isSome∧m=l then some (.c0 sz) else some (.slice sz ((es.take h.toNat).drop l.toNat))) else none
def gL(n:Nat)(p:List Nat)(sz lo k total:Nat)(lo' hi' mx':Option I):Option I :=
 match gX hi' k with
 |none=>none
 |some h=>match gX lo' 0 with
  |none=>none
  |some l=>match mx' with
   |none=>if 0≤l∧l≤h∧h≤((total-lo:Nat):Int) then (if l=((total-lo:Nat):Int) then some (.c0 sz) else some (.view n p sz (lo+l.toNat) (h.toNat-l.toNat))) else none
   |some (.int _ m)=>if 0≤l∧l≤h∧h≤m∧m≤((total-lo:Nat):Int) then some .c8 else none
   |_=>none
def gW(a b:Option Bool):Option Bool:=match a,b with
 |some x,some y=>some (x&&y)
 |_,_=>none
mutual
/-- '==',part by part. -/
def cg:cH→I→I→Option Bool
 | .i k,x,y=>match x,y with
  | .int k1 a,.int k2 b=>if k1=k∧k2=k then some (a==b) else none
  |_,_=>none
 | .b,x,y=>match x,y with
  | .bool a,.bool b=>some (a==b)
  |_,_=>none
 | .s,x,y=>match x,y with
  | .cQ a,.cQ b=>some (a.toList==b.toList)
  |_,_=>none
 | .bB l,x,y=>match x,y with
  | .agg fs,.agg gs=>iB l fs gs
  |_,_=>none
 | .kh n e,x,y=>match x,y with
  | .agg fs,.agg gs=>if fs.length=n∧gs.length=n then (fs.zip gs).foldr (fun p acc=>gW (cg e p.1 p.2) acc) (some true) else none
  |_,_=>none
def iB:List cH→List I→List I→Option Bool
 | [],fs,gs=>match fs,gs with
  | [],[]=>some true
  |_,_=>none
 |t::ts,fs,gs=>match fs,gs with
  |f::fs,g::gs=>gW (cg t f g) (iB ts fs gs)
  |_,_=>none
end
def oR(k:IntKind)(n:Int):Int:=k.wrap ((BitVec.ofInt k.bits (if k.signed then -1 else k.max) ^^^ BitVec.ofInt k.bits n).toNat:Int)
def eM(ty:cH)(k:I):List I→Nat→Option (Option Nat)
 | [],_=>some none
 |x::xs,i=>match cg ty k x with
  |some true=>some (some i)
  |some false=>eM ty k xs (i+1)
  |none=>none
def fX(A:ae):I→Option (List I×List I)
 | .cL ks vs=>some (ks,vs)
 | .mref n=>match A.o n with
  |some (.cq ks vs)=>some (ks,vs)
  |_=>none
 | .raw (.map none)=>some ([],[])
 |_=>none
def fW(ty:cH)(z k:I)(ks vs:List I):Option (I×Bool) :=
 if (cg ty k k).isSome then (match eM ty k ks 0 with
  |some (some i)=>(vs[i]?).map fun v=>(v,true)
  |some none=>some (z,false)
  |none=>none) else none
def iK:I→Option Bool
 | .nilp=>some true
 | .ptr _ _=>some false
 | .ref _=>some false
 |_=>none
def fP(ty:cH)(k v:I)(ks vs:List I):Option (List I×List I) :=
 if (cg ty k k).isSome=true∧k.cd=true∧v.cd=true then (match eM ty k ks 0 with
  |some (some i)=>some (ks,vs.set i v)
  |some none=>some (ks++[k],vs++[v])
  |none=>none) else none
def mg:I→Option I
 | .ptr n p=>some (.ptr n p)
 | .ref x=>some (.ref x)
 |_=>none
def mn(neg:Bool):Option Bool→Option Bool→Option I
 |some a,some b=>if a||b then some (.bool (if neg then !(a&&b) else (a&&b))) else none
 |_,_=>none
def qz(ok:Bool):Option (I×Bool)→Option I
 |some (v,b)=>some (if ok then .tuple [v,.bool b] else v)
 |none=>none
def qy(ty:cH)(z:I)(ok:Bool)(k:I):Option (List I×List I)→Option I
 |some (ks,vs)=>qz ok (fW ty z k ks vs)
 |none=>none
def oS(ks vs:List I):Option Nat→Option I
 |some i=>match ks[i]?,vs[i]? with
  |some k,some v=>some (.tuple [k,v])
  |_,_=>none
 |none=>none
def a8(A:ae):b7→Option I
 | .mv x=>some (ab A x)
 | .pick c a b=>match ab A c with | .bool t=>some (if t then ab A a else ab A b) | _=>none
 | .bin op x y=>cD op (ab A x) (ab A y)
 | .eqv ty neg x y=>(cg ty (ab A x) (ab A y)).map fun b=>.bool (if neg then !b else b)
 | .nilS neg x=>match ab A x with
  | .nils _=>some (.bool (!neg))
  | .slice _ es=>if es.isEmpty then none else some (.bool neg)
  | .view _ _ _ _ _=>some (.bool neg)
  |_=>none
 | .conv k x=>match ab A x with | .int _ n=>some (.int k (k.wrap n)) | _=>none
 | .un op x=>match op,ab A x with
  | .not,.bool b=>some (.bool !b)
  | .neg,.int k n=>some (.int k (k.wrap (0-n)))
  | .xor,.int k n=>some (.int k (oR k n))
  |_,_=>none
 | .ld s x=>match cz A (ab A x) with | some v=>if bV s v then some v else none | none=>none
 | .fa f off x=>match ab A x with
  | .ref (.agg fs)=>match fs[f]? with | some v=>if I.sizes (fs.take f)=off then some (.ref v) else none | none=>none
  | .ptr n p=>match cz A (.ptr n p) with | some (.agg fs)=>if f<fs.length∧I.sizes (fs.take f)=off then some (.ptr n (p++[f])) else none | _=>none
  |_=>none
 | .fl f off s x=>match ab A x with
  | .agg fs=>match fs[f]? with | some v=>if I.sizes (fs.take f)=off∧bV s v=true then some v else none | none=>none
  |_=>none
 | .ia n esz x i=>match ab A i with
  | .int _ k=>if 0≤k∧k<n then (match ab A x with
   | .ref (.agg fs)=>if hT n esz fs then (fs[k.toNat]?).map .ref else none
   | .ptr m p=>match cz A (.ptr m p) with | some (.agg fs)=>if hT n esz fs then some (.ptr m (p++[k.toNat])) else none | _=>none
   |_=>none) else none
  |_=>none
 | .is esz x i=>match ab A i with
  | .int _ k=>match ab A x with
   | .slice sz es=>if sz=esz∧0≤k∧k<es.length then (es[k.toNat]?).map .ref else none
   | .own m l=>match A.o m with | some (.bT _ sz es)=>if l=es.length∧sz=esz∧0≤k∧k<es.length then (es[k.toNat]?).map .ref else none | _=>none
   | .view m p sz lo l=>match cz A (.ptr m p) with | some (.agg _)=>if sz=esz∧0≤k∧k<l then some (.ptr m (p++[lo+k.toNat])) else none | _=>none
   |_=>none
  |_=>none
 | .ix n esz s x i=>match ab A i with
  | .int _ k=>if 0≤k∧k<n then (match ab A x with
   | .agg fs=>if hT n esz fs then (match fs[k.toNat]? with | some v=>if bV s v then some v else none | none=>none) else none
   |_=>none) else none
  |_=>none
 | .len x=>match ab A x with
  | .slice _ es=>some (.int .i64 es.length)
  | .nils _ | .c0 _=>some (.int .i64 0)
  | .own m l=>match A.o m with | some (.bT _ _ es)=>if l=es.length then some (.int .i64 es.length) else none | _=>none
  | .view _ _ _ _ k=>some (.int .i64 k)
  |_=>none
 | .cap x=>match ab A x with
  | .nils _ | .c0 _=>some (.int .i64 ((0:Nat):Int))
  | .view n p _ lo _=>match cz A (.ptr n p) with | some (.agg fs)=>some (.int .i64 ((fs.length-lo:Nat):Int)) | _=>none
  |_=>none
 | .bs0 esz=>some (.c0 esz)
 | .lenT x=>match ab A x with
  | .cQ s=>some (.int .i64 s.size)
  |_=>none
 | .va n esz x=>match ab A x with
  | .ptr m p=>match cz A (.ptr m p) with | some (.agg fs)=>if hT n esz fs=true∧n≤maxLen∧n≠0 then some (.view m p esz 0 n) else none | _=>none
  | .ref (.agg fs)=>if hT n esz fs=true∧n≤maxLen∧n≠0 then some (.slice esz fs) else none
  |_=>none
 | .sl esz x lo hi mx=>match ab A x with
  | .slice sz es=>if sz=esz then jH sz es (lo.map (ab A)) (hi.map (ab A)) (mx.map (ab A)) else none
  | .nils sz=>if sz=esz then jH sz [] (lo.map (ab A)) (hi.map (ab A)) (mx.map (ab A)) else none
  | .c0 sz=>if sz=esz then jH sz [] (lo.map (ab A)) (hi.map (ab A)) (mx.map (ab A)) else none
  | .view n p sz l0 k=>match cz A (.ptr n p) with | some (.agg fs)=>if sz=esz then gL n p sz l0 k fs.length (lo.map (ab A)) (hi.map (ab A)) (mx.map (ab A)) else none | _=>none
  |_=>none
 | .bld zs parts=>(dR zs (parts.map fun p=>(p.1,ab A p.2))).map .agg
 | .nilC x=>mg (ab A x)
 | .ptrE neg x y=>mn neg (iK (ab A x)) (iK (ab A y))
 | .lk ty z ok m k=>qy ty z ok (ab A k) (fX A (ab A m))
 | .ent x=>match ab A x with
  | .dj n=>match A.o n with
   |some (.it ks vs _ cur)=>oS ks vs cur
   |_=>none
  |_=>none
 | .bs _ esz parts=>match bX false A (parts.map (ab A)) with
  |some es=>if (es.all fun e=>e.size==esz)∧I.bW es then some (.slice esz es) else none
  |none=>none
 | .ext x i=>match ab A x with | .tuple fs=>fs[i]? | _=>none
 | .mk f caps=>if ((caps.map (ab A)).all fun y=>y.cd)=true then some (.func f (caps.map (ab A))) else none
 |_=>none
mutual
theorem af.fw{w:World}{D D':aL}{E E':aT}(hD:∀ b o,D b o→D' b o):∀ (x:I) (cs:List Value),x.bp=true→af w D E x cs→af w D' E' x cs
 | .agg fs,cs,hc,hr=>by simp only[af,I.bp] at *;exact aG.fw hD fs cs hc hr
 | .bool b,cs,_,hr=>by simpa only[af] using hr
 | .int k n,cs,_,hr=>by simpa only[af] using hr
 | .cQ s,cs,_,hr=>by simpa only[af] using hr
 | .nilp,cs,_,hr=>by simpa only[af] using hr
 | .da,cs,_,hr=>by simpa only[af] using hr
 | .dN,cs,_,hr=>by simpa only[af] using hr
 | .raw _,cs,_,hr=>by simpa only[af] using hr
 | .nils _,cs,_,hr=>by simpa only[af] using hr
 | .c0 _,cs,_,hr=>by simpa only[af] using hr
 | .slice sz es,cs,hc,hr=>by
  simp only[af,I.bp] at *;obtain ⟨a,cap,h1,h2,h3,h4,h5⟩:=hr;refine ⟨a,cap,h1,h2,h3,?_,h5⟩;rcases h4 with h4 | ⟨b,off,cs',h6,h7,h8⟩
  ·exact .inl h4
  ·exact .inr ⟨b,off,cs',h6,fun j v hj=>⟨(h7 j v hj).1,hD _ _ (h7 j v hj).2⟩,aG.fw hD es cs' hc h8⟩
 | .ref x,cs,hc,hr=>by
  simp only[af,I.bp] at *;obtain ⟨b,off,cs',h1,h2,h3⟩:=hr;exact ⟨b,off,cs',h1,fun j v hj=>⟨(h2 j v hj).1,hD _ _ (h2 j v hj).2⟩,af.fw hD x cs' hc h3⟩
 | .func f caps,cs,hc,hr=>by
  simp only[af,I.bp] at *;obtain ⟨vs,h1,h2⟩:=hr;exact ⟨vs,h1,aE.fw hD caps vs hc h2⟩
 | .iface t v,cs,hc,hr=>by
  simp only[af,I.bp] at *;obtain ⟨ao,cs',h1,h2,h3⟩:=hr;exact ⟨ao,cs',h1,h2,af.fw hD v cs' hc h3⟩
 | .ptr n p,_,hc,_=>by simp[I.bp] at hc
 | .own n k,_,hc,_=>by simp[I.bp] at hc
 | .view n p _ _ _,_,hc,_=>by simp[I.bp] at hc
 | .mref n,_,hc,_=>by simp[I.bp] at hc
 | .dj n,_,hc,_=>by simp[I.bp] at hc
 | .cL ks vs,cs,hc,hr=>by
  simp only[af,I.bp,zz2] at *;obtain ⟨b,es,ck,h1,h2,h3,h4⟩:=hr;exact ⟨b,es,ck,h1,⟨h2.1,hD _ _ h2.2.1,h2.2.2⟩,aE.fw hD ks _ hc.1 h3,aE.fw hD vs _ hc.2 h4⟩
 | .undef,_,hc,_=>by simp[I.bp] at hc
 | .c8,_,hc,_=>by simp[I.bp] at hc
 | .tuple _,_,hc,_=>by simp[I.bp] at hc
theorem aG.fw{w:World}{D D':aL}{E E':aT}(hD:∀ b o,D b o→D' b o):∀ (xs:List I) (cs:List Value),I.bW xs=true→aG w D E xs cs→aG w D' E' xs cs
 | [],cs,_,hr=>by simpa only[aG] using hr
 |x::xs,cs,hc,hr=>by
  simp only[aG,I.bW,zz2] at *;obtain ⟨c1,c2,h1,h2,h3⟩:=hr;exact ⟨c1,c2,h1,af.fw hD x c1 hc.1 h2,aG.fw hD xs c2 hc.2 h3⟩
theorem aE.fw{w:World}{D D':aL}{E E':aT}(hD:∀ b o,D b o→D' b o):∀ (xs:List I) (vs:List Value),I.bW xs=true→aE w D E xs vs→aE w D' E' xs vs
 | [],vs,_,hr=>by simpa only[aE] using hr
 |x::xs,vs,hc,hr=>by
  simp only[aE,I.bW,zz2] at *;obtain ⟨v,rest,cs,h1,h2,h3,h4⟩:=hr;exact ⟨v,rest,cs,h1,h2,af.fw hD x cs hc.1 h3,aE.fw hD xs rest hc.2 h4⟩
end
theorem n8{w:World}{D:aL}{b:Nat}{cs:Array Value}{T:TypeId}{fz:Nat×Nat}(hb:w.heap[b]?=some (.cells cs T fz)){c1 c2 c3:List Value}(hc:cs.toList=c1++c2++c3)
  (hD:∀ o,o<c1.length+c2.length→D b o):gq w D b c1.length c2:=by
 intro j v hj;have hjl:j<c2.length:=(zy4.1 hj).1;refine ⟨?_,hD _ (by omega)⟩;have e:cs[c1.length+j]?=some v:=by
  rw[←zv0,hc,zz3,zx9 (by omega),Nat.add_sub_cancel_left,zx1 (by omega)];exact hj
 simp[World.cell?,hb,e]
section
variable {c:cI} {A:ae} {a:Act} {w:World} {D:aL} {E:aT}
theorem aP.box(h:aP c A a w D E){n:Nat}{x:I}(hn:A.o n=some (.box x)) :
  ∃ b cs T,E n=some (.aB b x.aJ)∧c.eU b∧w.heap[b]?=some (.cells cs T (0,0))∧af w D E x cs.toList∧∀ o,¬ D b o:=by
 have:=h.bU n;rw[hn] at this;exact this
theorem aP.bT(h:aP c A a w D E){n sz:Nat}{T:TypeId}{es:List I}(hn:A.o n=some (.bT T sz es)) :
  ∃ aD,E n=some (.rw aD es.length)∧(∀ e∈es,e.size=sz)∧match aD with
  |none=>es=[]
  |some (b,cap)=>∃ cs pre rest,c.eU b∧w.heap[b]?=some (.cells cs T (0,0))∧cs.toList=pre++rest∧aG w D E es pre ∧
    cs.size=cap*sz∧es.length≤cap∧cap≤maxLen∧∀ o,D b o→o<pre.length:=by
 have:=h.bU n;rw[hn] at this;exact this
theorem aP.q0(h:aP c A a w D E){n:Nat}{T:TypeId}{xs:List Int}(hn:A.o n=some (.cO T xs)) :
  ∃ aD,E n=some (.rw aD xs.length)∧(∀ x∈xs,IntKind.i64.min≤x∧x≤IntKind.i64.max)∧match aD with
  |none=>xs=[]
  |some (b,cap)=>∃ cs m,c.eU b∧w.heap[b]?=some (.cells cs T (0,0))∧cs.toList=(xs++List.replicate m 0).map (Value.int .i64)∧xs≠[]∧xs.length+m=cap∧cap≤maxLen∧∀ o,¬ D b o:=by
 have:=h.bU n;rw[hn] at this;exact this
theorem aP.map(h:aP c A a w D E){n:Nat}{ks vs:List I}(hn:A.o n=some (.cq ks vs)) :
  ∃ b es clock,E n=some (.cq b)∧c.eU b∧w.heap[b]?=some (.map es clock)∧pQ es clock∧aE w D E ks (es.toList.map (·.key))∧aE w D E vs (es.toList.map (·.val))∧∀ o,¬ D b o:=by
 have:=h.bU n;rw[hn] at this;exact this
theorem aP.at(h:aP c A a w D E){n:Nat}{p:List Nat}{x:I}(hx:cz A (.ptr n p)=some x) :
  ∃ y b cs T off c1 c2 c3,A.o n=some (.box y)∧E n=some (.aB b y.aJ)∧c.eU b∧w.heap[b]?=some (.cells cs T (0,0))∧y.at p=some x∧y.aJ.off p=some off ∧
   cs.toList=c1++c2++c3∧c1.length=off∧af w D E x c2∧af w D E y cs.toList∧∀ o,¬ D b o:=by
 simp only[cz] at hx;split at hx
 ·rename_i y hn;obtain ⟨b,cs,T,h1,h2,h3,h4,h5⟩:=h.box hn;obtain ⟨off,c1,c2,c3,h6,h7,h8,h9⟩:=x1 p y x _ h4 hx;exact ⟨y,b,cs,T,off,c1,c2,c3,hn,h1,h2,h3,hx,h6,h7,h8,h9,h4,h5⟩
 ·cases hx
theorem aP.zF(h:aP c A a w D E){x y:I}{v:Value}(hv:aS w D E x v)(hx:cz A x=some y) :
  ∃ b off cs,v=.pointer (some ⟨b,off,none⟩)∧(∀ j ao,cs[j]?=some ao→w.cell? ⟨b,off+j,none⟩=some ao)∧af w D E y cs:=by
 cases x with
 |ref z =>
  simp only[cz,u8] at hx;subst hx;obtain ⟨b,off,cs,h1,h2,h3⟩:=pJ hv;exact ⟨b,off,cs,h1,fun j ao hj=>(h2 j ao hj).1,h3⟩
 |ptr n p =>
  obtain ⟨b,aJ,off,h1,h2,h3⟩:=oh hv;obtain ⟨z,b',cs,T,off',c1,c2,c3,k1,k2,_,k3,_,k5,k6,k7,k8,_,_⟩:=h.at hx;rw[k2] at h1;simp only[u8,bS.aB.injEq] at h1;obtain ⟨rfl,rfl⟩:=h1;rw[k5,u8] at h2;subst h2;refine ⟨b',off',c2,h3,fun j ao hj =>?_,k8⟩;have:=n8 (D:=fun _ _=>True) k3 k6 (fun _ _=>trivial);rw[k7] at this;exact (this j ao hj).1
 |_=>simp[cz] at hx
theorem tt{w:World}{D:aL}{E:aT} : ∀ (xs ys:List I) (cs:List Value),aG w D E (xs++ys) cs→∃ c1 c2,cs=c1++c2∧aG w D E xs c1∧aG w D E ys c2
 | [],ys,cs,hr=>⟨[],cs,rfl,by simp[aG],hr⟩
 |x::xs,ys,cs,hr=>by
  simp only[zy0,aG] at hr;obtain ⟨d1,d2,rfl,k1,k2⟩:=hr;obtain ⟨e1,e2,rfl,k3,k4⟩:=tt xs ys d2 k2;exact ⟨d1++e1,e2,by simp,by simp only[aG];exact ⟨d1,e1,rfl,k1,k3⟩,k4⟩
theorem Ng{fs:List I}{sz:Nat}(h:∀ s∈I.cN fs,s.size=sz):∀ f∈fs,f.size=sz:=by
 intro f hf;rw[←I.lN];exact h _ (by rw[I.de];exact zx5.2 ⟨f,hf,rfl⟩)
theorem tu{w:World}{D:aL}{E:aT}{fs:List I}{cs:List Value}{sz:Nat}(hr:aG w D E fs cs)(hev:∀ f∈fs,f.size=sz)(lo k:Nat)(h:lo+k≤fs.length) :
  ∃ d1 d2 d3,cs=d1++(d2++d3)∧d1.length=lo*sz∧aG w D E ((fs.drop lo).take k) d2∧aG w D E ((fs.drop lo).drop k) d3:=by
 have e1:fs=fs.take lo++((fs.drop lo).take k++(fs.drop lo).drop k):=by rw[zy9,zy9]
 rw[e1] at hr;obtain ⟨d1,d',rfl,q1,q2⟩:=tt _ _ _ hr;obtain ⟨d2,d3,rfl,q3,q4⟩:=tt _ _ _ q2;refine ⟨d1,d2,d3,rfl,?_,q3,q4⟩;rw[aG.length _ _ q1,I.gR _ (fun x hx=>hev x (List.mem_of_mem_take hx)),zx3]
 congr 1
 omega
structure gV (aB:Bool) (A:ae) (D:aL) (E:aT) (D':aL):Prop where
 cV:∀ b o,D b o→D' b o
 bT:∀ n T sz es b cap,A.o n=some (.bT T sz es)→E n=some (.rw (some (b,cap)) es.length)→∀ o,o<es.length*sz→D' b o
 box:aB=true→∀ n x b aJ,A.o n=some (.box x)→E n=some (.aB b aJ)→∀ o,o<x.size→D' b o
 map:aB=true→∀ n ks vs b,A.o n=some (.cq ks vs)→E n=some (.cq b)→D' b 0
def eb(A A':ae):Prop:=∀ n x,A.o n=some x→A'.o n=some x
theorem jw{A A':ae}(hu:eb A A'){x v:I}(h:cz A x=some v):cz A' x=some v:=by
 cases x <;>simp only[cz] at h ⊢ <;>try exact h
 rename_i n p;cases ho:A.o n with
 |none=>rw[ho] at h;cases h
 |some y=>rw[ho] at h;rw[hu n y ho];exact h
theorem Ch{A0 A:ae}(hu:eb A0 A){n:Nat}{p:List Nat}{x z:I}(h:cz A0 (.ptr n p)=some x)(hz:A.o n=some (.box z)):A0.o n=some (.box z):=by
 simp only[cz] at h;split at h
 ·rename_i y hy;have:=hu n _ hy;rw[hz] at this;rw[hy,←this]
 ·cases h
theorem aP.MJ(h:aP c A a w D E){A0:ae}(hu:eb A0 A){D':aL}(hw:gV true A0 D E D'){n:Nat}{p:List Nat}{x:I}{cs:List Value}(hx:cz A0 (.ptr n p)=some x)(hr:af w D E (.ptr n p) cs) :
  ∃ b off c2,cs=[.pointer (some ⟨b,off,none⟩)]∧gq w D' b off c2∧af w D E x c2:=by
 obtain ⟨z,b',cs',T,off',c1,c2,c3,k1,k2,_,k3,k4,k5,k6,k7,k8,k9,_⟩:=h.at (jw hu hx);have k1:=Ch hu hx k1;simp only[af] at hr;obtain ⟨b,aJ,off,h1,h2,h3⟩:=hr;rw[k2] at h1;simp only[u8,bS.aB.injEq] at h1;obtain ⟨rfl,rfl⟩:=h1;rw[k5,u8] at h2;subst h2;have hsz:=af.length z _ k9;rw[k6] at hsz;simp only[zz5] at hsz;refine ⟨b',off',c2,h3,?_,k8⟩;rw[←k7];exact n8 k3 k6 (fun o ho=>hw.box rfl n z b' _ k1 k2 o (by omega))
theorem aP.jH(h:aP c A a w D E){A0:ae}(hu:eb A0 A){D':aL}{E':aT}(hw:gV true A0 D E D'){n:Nat}{p:List Nat}{sz lo k:Nat}{fs:List I}{cs:List Value}(hx:cz A0 (.ptr n p)=some (.agg fs))(hr:af w D E (.view n p sz lo k) cs)
  (hcl:I.bW ((fs.drop lo).take k)=true):af w D' E' (.slice sz ((fs.drop lo).take k)) cs:=by
 obtain ⟨z,b',cs',T,off',c1,c2,c3,k1,k2,_,k3,k4,k5,k6,k7,k8,k9,_⟩:=h.at (jw hu hx);have k1:=Ch hu hx k1;simp only[af] at hr k8 ⊢;obtain ⟨b,aJ,off,l,h1,h2,h3,h4,h5,h6,h7⟩:=hr;rw[k2] at h1;simp only[u8,bS.aB.injEq] at h1;obtain ⟨rfl,rfl⟩:=h1;rw[k5,u8] at h2;subst h2;rw[mD p z _ k4] at h3;simp only[I.aJ,u8,cJ.dU.injEq] at h3;subst h3;have hsz:=af.length z _ k9;rw[k6] at hsz;rw[I.de,zy1] at h4 h5 h6;have hev:=Ng h7;obtain ⟨d1,d2,d3,rfl,q1,q2,q3⟩:=tu k8 hev lo k h6;simp only[zz5] at hsz;have hlen:((fs.drop lo).take k).length=k:=by rw[zx3,zx0];omega
 refine ⟨some ⟨b',off'+lo*sz,none⟩,fs.length-lo,by rw[hlen];exact h4,by rw[hlen];omega,by omega,.inr ⟨b',off'+lo*sz,d2,rfl,?_,aG.fw hw.cV _ d2 hcl q2⟩,?_⟩
 ·have:=n8 (D:=D') (c1:=c1++d1) (c2:=d2) (c3:=d3++c3) k3 (by rw[k6];simp) (fun o ho=>hw.box rfl n z b' _ k1 k2 o (by rw[zz5] at ho;omega));rw[zz5,k7,q1] at this;exact this
 ·intro e he;exact hev e (List.mem_of_mem_drop (List.mem_of_mem_take he))
theorem aP.MZ(h:aP c A a w D E){aB:Bool}{A0:ae}(hu:eb A0 A){D':aL}{E':aT}(hw:gV aB A0 D E D'){n k T sz:Nat}{es:List I}{cs:List Value}(hn:A0.o n=some (.bT T sz es))(hcl:I.bW es=true)(hk:k=es.length)(hr:af w D E (.own n k) cs):af w D' E' (.slice sz es) cs:=by
 subst hk;simp only[af] at hr;obtain ⟨aD,l,h1,h2,_,h4⟩:=hr;obtain ⟨blk',k1,k2,k3⟩:=h.bT (hu n _ hn);rw[k1] at h1;simp only[u8,bS.rw.injEq] at h1;obtain ⟨rfl,rfl⟩:=h1;have h4:=h4 rfl;cases blk' with
 |none =>
  simp only at k3 h4;subst k3;simp only[af];exact ⟨none,0,by simpa using h4,by simp,by simp[maxLen],by simp,by simp⟩
 |some bc =>
  obtain ⟨b,cap⟩:=bc;simp only at h4;obtain ⟨cs',pre,rest,k4,k5,k6,k7,k8,k9,k10,k11⟩:=k3;simp only[af];refine ⟨some ⟨b,0,none⟩,cap,h4,k9,k10,.inr ⟨b,0,pre,rfl,?_,aG.fw hw.cV es pre hcl k7⟩,k2⟩;have hp:pre.length=es.length*sz:=by rw[aG.length _ _ k7,I.gR _ k2]
  have:=n8 (D:=D') (c1:=[]) k5 (by simpa using k6) (fun o ho=>hw.bT n T sz es b cap hn k1 o (by simp at ho;omega));simpa using this
theorem JV{w:World}{D D':aL}{E E':aT}{f:I→Option I}(hf:∀ x y cs,af w D E x cs→f x=some y→af w D' E' y cs):∀ (xs ys:List I) (cs:List Value),aG w D E xs cs→fC f xs=some ys→aG w D' E' ys cs
 | [],ys,cs,hr,h=>by simp only[fC,u8] at h;subst h;simpa only[aG] using hr
 |x::xs,ys,cs,hr,h=>by
  simp only[fC] at h;split at h
  ·rename_i y ys' h1 h2;simp only[u8] at h;subst h;simp only[aG] at *;obtain ⟨c1,c2,e,k1,k2⟩:=hr;exact ⟨c1,c2,e,hf x y c1 k1 h1,JV hf xs ys' c2 k2 h2⟩
  ·cases h
theorem sP{w:World}{D D':aL}{E E':aT}{f:I→Option I}(hf:∀ x y cs,af w D E x cs→f x=some y→af w D' E' y cs)(hp:∀ x y,f x=some y→y.isAgg=x.isAgg):∀ (xs ys:List I) (vs:List Value),aE w D E xs vs→fC f xs=some ys→aE w D' E' ys vs
 | [],ys,cs,hr,h=>by simp only[fC,u8] at h;subst h;simpa only[aE] using hr
 |x::xs,ys,cs,hr,h=>by
  simp only[fC] at h;split at h
  ·rename_i y ys' h1 h2;simp only[u8] at h;subst h;simp only[aE] at *;obtain ⟨v,rest,c1,e,k1,k2,k3⟩:=hr;refine ⟨v,rest,c1,e,?_,hf x y c1 k2 h1,sP hf hp xs ys' rest k3 h2⟩;unfold bG at *;rw[hp x y h1];exact k1
  ·cases h
theorem vh{A0:ae} : ∀ {k:Nat} {x y:I},dS A0 k x=some y→y.isAgg=x.isAgg
 |0,_,_,h=>by simp[dS] at h
 |k+1,x,y,h=>by
  simp only[dS] at h;split at h
  ·simp only[u8] at h;rw[h]
  ·cases x <;>simp only[] at h <;>first
    |(cases h;done)
    |(simp only[zz0] at h;obtain ⟨z,_,rfl⟩:=h;rfl)
    |((repeat' split at h) <;>first | (cases h;done) | (simp only[u8] at h;subst h;rfl) | (simp only[zz0] at h;obtain ⟨z,_,rfl⟩:=h;rfl))
theorem vi(h:aP c A a w D E){A0:ae}(hu:eb A0 A){D':aL}{E':aT}(hw:gV true A0 D E D'):∀ (k:Nat) (x y:I) (cs:List Value),af w D E x cs→dS A0 k x=some y→af w D' E' y cs
 |0,_,_,_,_,hf=>by simp[dS] at hf
 |k+1,x,y,cs,hr,hf=>by
  have ih:=vi h hu (E':=E') hw k;simp only[dS] at hf;split at hf
  ·rename_i hcl;simp only[u8] at hf;subst hf;exact af.fw hw.cV x cs hcl hr
  ·rename_i hcl;cases x <;>simp only[] at hf <;>try (cases hf;done)
   case agg fs =>
    simp only[zz0] at hf;obtain ⟨ys,hy,rfl⟩:=hf;simp only[af] at *;exact JV ih fs ys cs hr hy
   case func f caps =>
    simp only[zz0] at hf;obtain ⟨ys,hy,rfl⟩:=hf;simp only[af] at *;obtain ⟨vs,h1,h2⟩:=hr;exact ⟨vs,h1,sP ih (fun x y hxy=>vh hxy) caps ys vs h2 hy⟩
   case ptr n p =>
    split at hf
    case h_2=>cases hf
    rename_i z hz;simp only[zz0] at hf;obtain ⟨y',hy,rfl⟩:=hf;obtain ⟨b,off,c2,k1,k2,k3⟩:=h.MJ hu hw hz hr;simp only[af];exact ⟨b,off,c2,k1,k2,ih z y' c2 k3 hy⟩
   case view n p sz lo l =>
    split at hf
    case h_2=>cases hf
    rename_i fs hx;split at hf
    case isFalse=>cases hf
    rename_i hc;simp only[u8] at hf;subst hf;exact h.jH hu hw hx hr hc
   case mref n =>
    split at hf
    case h_2=>cases hf
    rename_i ks vs hn;split at hf
    case isFalse=>cases hf
    rename_i hc;simp only[zz0] at hf;obtain ⟨ys,hy,rfl⟩:=hf;simp only[af] at hr ⊢;obtain ⟨b,h1,h2⟩:=hr;obtain ⟨b',es,ck,k1,k2,k3,k4,k5,k6,k7⟩:=h.map (hu n _ hn);rw[k1] at h1;cases h1;exact ⟨b,es,ck,h2,⟨k3,hw.map rfl n ks vs b hn k1,k4⟩,aE.fw hw.cV ks _ hc k5,sP ih (fun x y hxy=>vh hxy) vs ys _ k6 hy⟩
   case own n l =>
    split at hf
    case h_2=>cases hf
    rename_i T sz es hn;split at hf
    case isFalse=>cases hf
    rename_i hk;simp only[u8] at hf;subst hf;exact h.MZ hu hw hn hk.2 hk.1 hr
mutual
theorem CP(h:aP c A a w D E){aB:Bool}{A0:ae}(hu:eb A0 A){D':aL}{E':aT}(hw:gV aB A0 D E D'):∀ (x y:I) (cs:List Value),af w D E x cs→bg aB A0 x=some y→af w D' E' y cs
 | .ptr n p,y,cs,hr,hf=>by
  simp only[bg] at hf;split at hf
  case isFalse=>cases hf
  rename_i hbx;subst hbx;split at hf
  case h_2=>cases hf
  rename_i x hx;obtain ⟨b,off,c2,k1,k2,k3⟩:=h.MJ hu hw hx hr;split at hf
  ·rename_i hcl;simp only[u8] at hf;subst hf;simp only[af];exact ⟨b,off,c2,k1,k2,af.fw hw.cV x c2 hcl k3⟩
  ·simp only[zz0] at hf;obtain ⟨y',hy,rfl⟩:=hf;simp only[af];exact ⟨b,off,c2,k1,k2,vi h hu hw 9 x y' c2 k3 hy⟩
 | .mref n,y,cs,hr,hf=>by
  simp only[bg] at hf;split at hf
  case isFalse=>cases hf
  rename_i hbx;subst hbx;split at hf
  case h_2=>cases hf
  rename_i ks vs hn;split at hf
  case isFalse=>cases hf
  rename_i hc;simp only[zz0] at hf;obtain ⟨ys,hy,rfl⟩:=hf;simp only[af] at hr ⊢;obtain ⟨b,h1,h2⟩:=hr;obtain ⟨b',es,ck,k1,k2,k3,k4,k5,k6,k7⟩:=h.map (hu n _ hn);rw[k1] at h1;cases h1;exact ⟨b,es,ck,h2,⟨k3,hw.map rfl n ks vs b hn k1,k4⟩,aE.fw hw.cV ks _ hc k5,sP (vi h hu hw 9) (fun x y hxy=>vh hxy) vs ys _ k6 hy⟩
 | .dj _,_,_,_,hf=>by simp[bg] at hf
 | .cL ks vs,y,cs,hr,hf=>by
  simp only[bg] at hf;split at hf
  ·rename_i hc;simp only[u8] at hf;subst hf;exact af.fw hw.cV _ cs (by simpa[I.bp] using hc) hr
  ·cases hf
 | .own n k,y,cs,hr,hf=>by
  simp only[bg] at hf;split at hf
  case h_2=>cases hf
  rename_i T sz es hn;split at hf
  case isFalse=>cases hf
  rename_i hk;simp only[u8] at hf;subst hf;exact h.MZ hu hw hn hk.2 hk.1 hr
 | .view n p sz lo k,y,cs,hr,hf=>by
  simp only[bg] at hf;split at hf
  case isFalse=>cases hf
  rename_i hbx;subst hbx;split at hf
  case h_2=>cases hf
  rename_i fs hx;split at hf
  case isFalse=>cases hf
  rename_i hcl;simp only[u8] at hf;subst hf;exact h.jH hu hw hx hr hcl
 | .nils sz,y,cs,hr,hf=>by
  simp only[bg,u8] at hf;subst hf;simp only[af] at *;exact ⟨none,0,by simpa using hr,by simp,by simp[maxLen],by simp,by simp⟩
 | .c0 sz,y,cs,hr,hf=>by
  simp only[bg,u8] at hf;subst hf;simp only[af] at *;obtain ⟨ad,hr⟩:=hr;exact ⟨ad,0,by simpa using hr,by simp,by simp[maxLen],by simp,by simp⟩
 | .func f caps,y,cs,hr,hf=>by
  simp only[bg,zz0] at hf;obtain ⟨ys,hy,rfl⟩:=hf;simp only[af] at *;obtain ⟨vs,h1,h2⟩:=hr;exact ⟨vs,h1,lq h hu hw caps ys vs h2 hy⟩
 | .agg fs,y,cs,hr,hf=>by
  simp only[bg,zz0] at hf;obtain ⟨ys,hy,rfl⟩:=hf;simp only[af] at *;exact CQ h hu hw fs ys cs hr hy
 | .tuple _,_,_,_,hf=>by simp[bg] at hf
 | .undef,_,_,_,hf=>by simp[bg] at hf
 | .c8,_,_,_,hf=>by simp[bg] at hf
 | .bool b,y,cs,hr,hf=>by simp only[bg,u8] at hf;subst hf;simpa only[af] using hr
 | .int k n,y,cs,hr,hf=>by simp only[bg,u8] at hf;subst hf;simpa only[af] using hr
 | .cQ s,y,cs,hr,hf=>by simp only[bg,u8] at hf;subst hf;simpa only[af] using hr
 | .nilp,y,cs,hr,hf=>by simp only[bg,u8] at hf;subst hf;simpa only[af] using hr
 | .da,y,cs,hr,hf=>by simp only[bg,u8] at hf;subst hf;simpa only[af] using hr
 | .dN,y,cs,hr,hf=>by simp only[bg,u8] at hf;subst hf;simpa only[af] using hr
 | .raw _,y,cs,hr,hf=>by simp only[bg,u8] at hf;subst hf;simpa only[af] using hr
 | .slice sz es,y,cs,hr,hf=>by
  simp only[bg] at hf;split at hf
  ·rename_i hc;simp only[u8] at hf;subst hf;exact af.fw hw.cV _ cs (by simpa[I.bp] using hc) hr
  ·cases hf
 | .ref x,y,cs,hr,hf=>by
  simp only[bg] at hf;split at hf
  ·rename_i hc;simp only[u8] at hf;subst hf;exact af.fw hw.cV _ cs (by simpa[I.bp] using hc) hr
  ·cases hf
 | .iface t v,y,cs,hr,hf=>by
  simp only[bg] at hf;split at hf
  ·rename_i hc;simp only[u8] at hf;subst hf;exact af.fw hw.cV _ cs (by simpa[I.bp] using hc) hr
  ·cases hf
theorem CQ(h:aP c A a w D E){aB:Bool}{A0:ae}(hu:eb A0 A){D':aL}{E':aT}(hw:gV aB A0 D E D'):∀ (xs ys:List I) (cs:List Value),aG w D E xs cs→bX aB A0 xs=some ys→aG w D' E' ys cs
 | [],ys,cs,hr,hf=>by simp only[bX,u8] at hf;subst hf;simpa only[aG] using hr
 |x::xs,ys,cs,hr,hf=>by
  simp only[bX] at hf;split at hf
  ·rename_i y ys' h1 h2;simp only[u8] at hf;subst hf;simp only[aG] at *;obtain ⟨c1,c2,e,k1,k2⟩:=hr;exact ⟨c1,c2,e,CP h hu hw x y c1 k1 h1,CQ h hu hw xs ys' c2 k2 h2⟩
  ·cases hf
theorem lq(h:aP c A a w D E){aB:Bool}{A0:ae}(hu:eb A0 A){D':aL}{E':aT}(hw:gV aB A0 D E D'):∀ (xs ys:List I) (vs:List Value),aE w D E xs vs→bX aB A0 xs=some ys→aE w D' E' ys vs
 | [],ys,cs,hr,hf=>by simp only[bX,u8] at hf;subst hf;simpa only[aE] using hr
 |x::xs,ys,cs,hr,hf=>by
  simp only[bX] at hf;split at hf
  ·rename_i y ys' h1 h2;simp only[u8] at hf;subst hf;simp only[aE] at *;obtain ⟨v,rest,c1,e,k1,k2,k3⟩:=hr;refine ⟨v,rest,c1,e,?_,CP h hu hw x y c1 k2 h1,lq h hu hw xs ys' rest k3 h2⟩;have:y.isAgg=x.isAgg:=by
    cases x <;>simp only[bg] at h1 <;>first
     |(simp at h1;done)
     |(simp only[u8] at h1;subst h1;rfl)
     |(simp only[zz0] at h1;obtain ⟨z,_,rfl⟩:=h1;rfl)
     |((repeat' split at h1) <;>first | (simp at h1;done) | (simp only[u8] at h1;subst h1;rfl) | (simp only[zz0] at h1;obtain ⟨z,_,rfl⟩:=h1;rfl))
   unfold bG at *;rw[this];exact k1
  ·cases hf
end
end
def fB(P:Program)(t:TypeId):Option (Option Nat):=match P.underlying t with
 |some (.struct _) | some (.array _ _)=>some (some (P.cellsOf t))
 |some _=>some none
 |none=>none
def yJ(P:Program):Nat→TypeId→Option I
 |0,_=>none
 |d+1,t=>match P.underlying t with
  |some .bool=>some (.bool false)
  |some (.int k)=>some (.int k 0)
  |some .string=>some (.cQ ByteArray.empty)
  |some (.pointer _)=>some .nilp
  |some (.slice e)=>some (.nils (P.cellsOf e))
  |some (.func _ _ _)=>some .da
  |some (.interface _)=>some .dN
  |some (.map _ _)=>some (.raw (.map none))
  |some (.struct fs)=>(fs.toList.mapM fun f=>yJ P d f.type).map .agg
  |some (.array n e)=>(yJ P d e).map fun z=>.agg (List.replicate n z)
  |_=>none
def kW:I→Value→Bool
 | .bool b,.bool b'=>b==b'
 | .int k n,.int k' n'=>k==k'&&n==n'&&decide (k.min≤n∧n≤k.max)
 | .cQ s,.string t=>s.size==0&&t.size==0
 | .nilp,.pointer none=>true
 | .nils _,.slice none 0 0=>true
 | .da,.nilFunc=>true
 | .dN,.nilIface=>true
 | .raw (.map none),.map none=>true
 |_,_=>false
mutual
def mI:I→List Value→Option (List Value)
 | .agg fs,cs=>rm fs cs
 | .bool b,v::cs=>if kW (.bool b) v then some cs else none
 | .int k n,v::cs=>if kW (.int k n) v then some cs else none
 | .cQ s,v::cs=>if kW (.cQ s) v then some cs else none
 | .nilp,v::cs=>if kW .nilp v then some cs else none
 | .nils z,v::cs=>if kW (.nils z) v then some cs else none
 | .da,v::cs=>if kW .da v then some cs else none
 | .dN,v::cs=>if kW .dN v then some cs else none
 | .raw ao,v::cs=>if kW (.raw ao) v then some cs else none
 |_,_=>none
def rm:List I→List Value→Option (List Value)
 | [],cs=>some cs
 |x::xs,cs=>match mI x cs with
  |some r=>rm xs r
  |none=>none
end
theorem ByteArray.XR{s t:ByteArray}(hs:s.size=0)(ht:t.size=0):s=t:=by
 cases s with | mk a=>cases t with | mk b =>
 have ha:a = #[]:=Array.eq_empty_of_size_eq_zero hs;have hb:b = #[]:=Array.eq_empty_of_size_eq_zero ht;rw[ha,hb]
theorem Un{x:I}{v:Value}(h:kW x v=true)(w:World)(D:aL)(E:aT):af w D E x [v]:=by
 unfold kW at h;split at h
 case h_9=>cases h
 case h_1=>simp only[beq_iff_eq] at h;subst h;simp[af]
 case h_2 =>
  simp only[zz2,beq_iff_eq,decide_eq_true_eq] at h;obtain ⟨⟨rfl,rfl⟩,h⟩:=h;simp only[af,true_and];exact h
 case h_3 =>
  simp only[zz2,beq_iff_eq] at h;have e:=ByteArray.XR h.1 h.2;subst e;simp only[af,true_and];rw[h.1];exact zv4 _
 all_goals simp[af,Value.oneCell']
mutual
theorem N1:∀ (x:I) (cs r:List Value),mI x cs=some r→∃ c1,cs=c1++r∧∀ w D E,af w D E x c1
 | .agg fs,cs,r,h=>by
  simp only[mI] at h;obtain ⟨c1,h1,h2⟩:=N2 fs cs r h;exact ⟨c1,h1,fun w D E=>by simp only[af];exact h2 w D E⟩
 | .bool b,v::cs,r,h | .int k n,v::cs,r,h | .cQ s,v::cs,r,h | .nilp,v::cs,r,h | .nils z,v::cs,r,h | .da,v::cs,r,h | .dN,v::cs,r,h | .raw ao,v::cs,r,h=>by
  simp only[mI] at h;split at h
  ·rename_i hh;simp only[u8] at h;subst h;exact ⟨[v],rfl,fun w D E=>Un hh w D E⟩
  ·cases h
 | .bool b,[],r,h | .int k n,[],r,h | .cQ s,[],r,h | .nilp,[],r,h | .nils z,[],r,h | .da,[],r,h | .dN,[],r,h | .raw _,[],r,h=>by simp[mI] at h
 | .undef,_,_,h | .c8,_,_,h | .c0 _,_,_,h | .slice _ _,_,_,h | .tuple _,_,_,h | .ref _,_,_,h | .func _ _,_,_,h | .iface _ _,_,_,h | .ptr _ _,_,_,h | .own _ _,_,_,h | .view _ _ _ _ _,_,_,h | .mref _,_,_,h | .dj _,_,_,h | .cL _ _,_,_,h=>by simp[mI] at h
theorem N2:∀ (xs:List I) (cs r:List Value),rm xs cs=some r→∃ c1,cs=c1++r∧∀ w D E,aG w D E xs c1
 | [],cs,r,h=>by
  simp only[rm,u8] at h;exact ⟨[],by simp[h],fun w D E=>by simp[aG]⟩
 |x::xs,cs,r,h=>by
  simp only[rm] at h;split at h
  ·rename_i r' hx;obtain ⟨c1,h1,h2⟩:=N1 x cs r' hx;obtain ⟨c2,h3,h4⟩:=N2 xs r' r h;exact ⟨c1++c2,by rw[h1,h3,zz3],fun w D E=>by simp only[aG];exact ⟨c1,c2,rfl,h2 w D E,h4 w D E⟩⟩
  ·cases h
end
def fM(P:Program)(t:TypeId):Option I :=
 match (P.info? t).bind (·.zero),yJ P 12 t with
 |some z,some x=>match mI x z.cells.toList with
  |some []=>some x
  |_=>none
 |_,_=>none
theorem lO{P:Program}{t:TypeId}{x:I}(h:fM P t=some x):∃ i z,P.info? t=some i∧i.zero=some z∧∀ w D E,af w D E x z.cells.toList:=by
 unfold fM at h;split at h
 ·rename_i z x' hz hx;split at h
  ·rename_i hk;simp only[u8] at h;subst h;obtain ⟨i,hi,hz'⟩:=Option.bind_eq_some_iff.1 hz;obtain ⟨c1,h1,h2⟩:=N1 _ _ _ hk;rw[zw1] at h1;exact ⟨i,z,hi,hz',fun w D E=>by rw[h1];exact h2 w D E⟩
  ·cases h
 ·cases h
def lF:Nat→List I→List (Nat×Nat)
 |_,[]=>[]
 |k,x::xs=>(k,x.size)::lF (k+x.size) xs
theorem KO:∀ (xs:List I) (k i:Nat),(lF k xs)[i]?=(xs[i]?).map fun x=>(k+I.sizes (xs.take i),x.size)
 | [],k,i=>by simp[lF]
 |x::xs,k,0=>by simp[lF,I.sizes]
 |x::xs,k,i+1=>by
  simp only[lF,List.getElem?_cons_succ,KO xs,List.take_succ_cons,I.sizes];cases xs[i]? <;>simp;omega
def gC (P : Program) (f : FuncId) : Bool := (P.funcs[f]?).any fun fn => fn.name != "runtime.NumGoroutine" && fn.body.isSome
def jP(P:Program)(ps:List (Nat×Operand)):Option (List (Nat×aH)):=ps.mapM fun p=>(bC P 0 p.2).map fun x=>(p.1,x)
def iy(P:Program):Option Operand→Option (Option aH)
 |none=>some none
 |some x=>(bC P 0 x).map some
def lV(P:Program):List Operand→List TypeId→Option (List aH)
 | [],_=>some []
 |x::xs,ts=>match bC P (ts.headD 0) x,lV P xs ts.tail with
  |some y,some ys=>some (y::ys)
  |_,_=>none
def pz(P:Program):Nat→List Field→Bool
 |_,[]=>true
 |k,f::fs=>f.offset==k&&pz P (k+P.cellsOf f.type) fs
def gi(P:Program):Nat→TypeId→Option cH
 |0,_=>none
 |d+1,t=>match P.underlying t with
  |some (.int k)=>some (.i k)
  |some .bool=>some .b
  |some .string=>some .s
  | some (.struct fs) => if P.stoodInHeld t = false ∧ (fs.toList.all fun f => f.name != "_") = true ∧ pz P 0 fs.toList = true then
    (fs.toList.mapM fun (f:Field)=>match gi P d f.type with
     |some ty=>if ty.size=P.cellsOf f.type then some ty else none
     |none=>none).map .bB else none
  |some (.array n e)=>match gi P d e with
   |some ty=>if ty.size=P.cellsOf e∧(P.info? e).isSome=true then some (.kh n ty) else none
   |none=>none
  |_=>none
def qu:Option TypeDesc→Bool
 |some (.int _)=>true
 |_=>false
def wM:cH→Bool
 | .i _=>true
 |_=>false
def lA(P:Program)(t:TypeId):Option cH:=match P.underlying t with
 |some (.int k)=>some (.i k)
 |some (.struct fs)=>match gi P 12 t with
  |some (.bB l)=>if l.all wM=true∧(fs.all fun f=>qu (P.underlying f.type))=true then some (.bB l) else none
  |_=>none
 |_=>none
def tT(P:Program)(t:TypeId)(z:I):Bool:=match (P.info? t).bind (·.zero) with
 |some (.agg _)=>z.isAgg
 |some _ => !z.isAgg
 |none=>false
def yj:Operand→Operand→Bool
 | .tmp a,.tmp b=>a==b
 |_,_=>false
theorem aib{x y:Operand}(h:yj x y=true):y=x:=by
 unfold yj at h;split at h
 ·simp only[beq_iff_eq] at h;rw[h]
 ·cases h
def df(P:Program)(o:Oper):Option b7 :=
 match o.op with
 | .move x | .assign x=>(bC P o.type x).map .mv
 | .pick c a b=>match bC P 0 c,bC P o.type a,bC P o.type b with
  |some c,some a,some b=>some (.pick c a b)
  |_,_,_=>none
 | .binOp op t x y _=>match P.underlying t,bC P 0 x,bC P 0 y with
  |some (.int _),some x,some y | some .string,some x,some y=>some (.bin op x y)
  |some (.slice _),some x,some y=>match y with
   | .c (.nils _)=>if op=.eql∨op=.neq then some (.nilS (op==.neq) x) else none
   |_=>none
  |some (.pointer _),some x,some y=>if op=.eql∨op=.neq then some (.ptrE (op==.neq) x y) else none
  |some _,some x,some y=>if (op=.eql∨op=.neq)∧P.eqGuardType P.depth t=false then (gi P 12 t).map fun ty=>.eqv ty (op==.neq) x y else none
  |_,_,_=>none
 | .unOp op _ x=>(bC P 0 x).map (.un op)
 | .nilCheck x=>(bC P 0 x).map .nilC
 | .makeMap _ none=>some .jB
 | .lookup t m k ok=>match P.underlying t,bC P 0 m,bC P 0 k with
  |some (.map kt et),some m,some k=>match lA P kt,fM P et with
   |some ty,some z=>if tT P et z=true then some (.lk ty z ok m k) else none
   |_,_=>none
  |_,_,_=>none
 | .mapUpdate t m k v | .insert t m k v=>match P.underlying t,bC P 0 m,bC P 0 k with
  |some (.map kt et),some m,some k=>match lA P kt,bC P et v with
   |some ty,some v=>some (.gn ty m k v)
   |_,_=>none
  |_,_,_=>none
 | .makeSlice t l l'=>match P.underlying t,bC P 0 l with
  |some (.slice e),some n=>match fM P e with
   |some z=>if yj l l'=true∧z.size=1∧P.cellsOf e=1 then some (.j0 e (P.bytesOf e) z n) else none
   |none=>none
  |_,_=>none
 | .range t x=>match P.underlying t with
  |some (.map _ _)=>(bC P 0 x).map .ka
  |_=>none
 | .next x false=>(bC P 0 x).map .jk
 | .entry x=>(bC P 0 x).map .ent
 | .convert nw dst x=>match P.underlying nw,P.underlying dst,bC P 0 x with
  |some (.int _),some (.int k),some x=>some (.conv k x)
  |_,_,_=>none
 | .load t x=>match fB P t,bC P 0 x with
  |some s,some x=>some (.ld s x)
  |_,_=>none
 | .fieldAddr t x f=>match P.underlying t,bC P 0 x with
  |some (.struct fs),some x=>match fs[f]? with
   |some fd=>if P.cellsOf fd.type=0 then none else some (.fa f fd.offset x)
   |none=>none
  |_,_=>none
 | .field t x f=>match P.underlying t,bC P 0 x with
  |some (.struct fs),some x=>match fs[f]? with
   |some fd=>(fB P fd.type).map fun s=>.fl f fd.offset s x
   |none=>none
  |_,_=>none
 | .indexAddr t x i=>match P.underlying t,bC P 0 x,bC P 0 i with
  |some (.array n e),some x,some i=>if (P.info? e).isSome then some (.ia n (P.cellsOf e) x i) else none
  |some (.slice e),some x,some i=>if (P.info? e).isSome then some (.is (P.cellsOf e) x i) else none
  |_,_,_=>none
 | .index t x i=>match P.underlying t,bC P 0 x,bC P 0 i with
  |some (.array n e),some x,some i=>(fB P e).map fun s=>.ix n (P.cellsOf e) s x i
  |_,_,_=>none
 | .slice t x lo hi mx=>match P.underlying t,bC P 0 x with
  |some (.array n e),some x=>match lo,hi,mx with
   |none,none,none=>if (P.info? e).isSome then some (.va n (P.cellsOf e) x) else none
   |_,_,_=>none
  |some (.slice e),some x=>match iy P lo,iy P hi,iy P mx with
   |some lo,some hi,some mx=>if (mx.isSome=true→hi.isSome=true)∧(P.info? e).isSome=true then some (.sl (P.cellsOf e) x lo hi mx) else none
   |_,_,_=>none
  |_,_=>none
 | .build t parts=>match fM P t,jP P parts.toList with
  |some (.agg zs),some ps=>match P.underlying t with
   |some (.struct fs)=>if (fs.toList.map fun f=>(f.offset,P.cellsOf f.type))=lF 0 zs∧(fs.all fun f=>(P.info? f.type).isSome)=true then some (.bld zs ps) else none
   |some (.array n e)=>if zs.length=n∧(zs.all fun z=>z.size==P.cellsOf e)=true∧(P.info? e).isSome=true then some (.bld zs ps) else none
   |_=>none
  |_,_=>none
 | .buildSlice t len parts=>match P.underlying t with
  |some (.slice e)=>match jP P parts.toList with
   |some ps=>if len=0∧parts = #[]∧(P.info? e).isSome=true then some (.bs0 (P.cellsOf e)) else if ps.map (·.1)=List.range len∧0<P.cellsOf e∧0<len∧len*P.cellsOf e≤16777216∧((P.info? e).bind (·.zero)).isSome=true then some (.bs e (P.cellsOf e) (ps.map (·.2))) else none
   |none=>none
  |_=>none
 | .extract x i=>(bC P 0 x).map fun x=>.ext x i
 | .makeFunc (.func f) first caps=>if first.isEmpty then (lV P caps.toList []).map (.mk f) else none
 | .alloc t=>(fM P t).map .alloc
 | .box t x=>(bC P t x).map .box
 | .store t x v=>match fB P t,bC P 0 x,bC P t v with
  |some s,some x,some v=>if s.isSome=true∨P.cellsOf t=1 then some (.bB s x v) else none
  |_,_,_=>none
 | .call { callee:=.value (.func f),args,argTypes } =>if gC P f then (lV P args.toList argTypes.toList).map (.call f) else (lV P args.toList argTypes.toList).map (.kd f)
 | .call { callee:=.value x,args,argTypes } =>match bC P 0 x,lV P args.toList argTypes.toList with
  |some x,some args=>some (.eh x args)
  |_,_=>none
 | .call { callee:=.builtin .len,args,argTypes } =>match args.toList,argTypes.toList with
  | [x],[t]=>match P.underlying t with
   |some (.slice _)=>(bC P t x).map .len
   |some .string=>(bC P t x).map .lenT
   |_=>none
  |_,_=>none
 | .call { callee:=.builtin .append,args,argTypes } =>match args.toList,argTypes.toList with
  | [s,x],[t,t']=>match P.underlying t,bC P t s,bC P t' x with
   |some (.slice e),some s,some x=>if t=t'∧0<P.cellsOf e∧(fM P e).map I.size=some (P.cellsOf e) then (fM P e).map fun z=>.dH e (P.cellsOf e) (P.bytesOf e) z s x else
    if qu (P.underlying t')=true∧0<P.cellsOf e∧(fM P e).map I.size=some (P.cellsOf e) then (fM P e).map fun z=>.lT e (P.cellsOf e) (P.bytesOf e) z s x else none
   |_,_,_=>none
  |_,_=>none
 | .call { callee:=.builtin .cap,args,argTypes } =>match args.toList,argTypes.toList with
  | [x],[t]=>match P.underlying t with
   |some (.slice _)=>(bC P t x).map .cap
   |_=>none
  |_,_=>none
 | .call { callee:=.builtin .clear,args,argTypes } =>match args.toList,argTypes.toList with
  | [x],[t]=>match P.underlying t,bC P t x with
   |some (.slice e),some x=>(fM P e).map fun z=>.je (P.cellsOf e) z x
   |_,_=>none
  |_,_=>none
 | .call { callee:=.builtin .copy,args,argTypes } =>match args.toList,argTypes.toList with
  | [x,y],[t,t']=>match P.underlying t,bC P t x,bC P t' y with
   |some (.slice e),some x,some y=>if t=t'∧(P.info? e).isSome=true then some (.kZ (P.cellsOf e) x y) else none
   |_,_,_=>none
  |_,_=>none
 |_=>none
def dF(c:cI)(A:ae)(o:Oper)(x:I):Prop :=
 ∀ a w D E,aP c A a w D E→∃ v w' D',(execOp a.eval o).run c.P w=.ok (.value v) w'∧aP c A a w' D' E∧aS w' D' E x v
section
variable {c:cI} {A:ae} {o:Oper} {x:I}
theorem dF.same(h:∀ a w D E,aP c A a w D E→∃ v,(execOp a.eval o).run c.P w=.ok (.value v) w∧aS w D E x v):dF c A o x :=
 fun a w D E hs=>let ⟨v,h1,h2⟩:=h a w D E hs;⟨v,w,D,h1,hs,h2⟩
theorem Jd{y:Operand}{z:aH}(ho:o.op=.move y∨o.op=.assign y)(hz:bC c.P o.type y=some z):dF c A o (ab A z) :=
 .same fun a w D E hs=>⟨a.eval y,by rcases ho with ho | ho <;>simp[execOp,ho],ca hs hz⟩
theorem aeJ{q y z:Operand}{q' y' z':aH}{t:Bool}(ho:o.op=.pick q y z)(hq:bC c.P 0 q=some q')(hy:bC c.P o.type y=some y')(hz:bC c.P o.type z=some z')
  (ht:ab A q'=.bool t):dF c A o (if t then ab A y' else ab A z') :=
 .same fun a w D E hs=>by
  have h1:=ca hs hq;rw[ht] at h1;have h2:=lK h1;refine ⟨if t then a.eval y else a.eval z,by cases t <;>simp[execOp,ho,h2,asBool],?_⟩;cases t
  ·exact ca hs hz
  ·exact ca hs hy
theorem yb{P:Program}{w:World}(op:BinOp)(t:TypeId)(x y:Operand){ao v:Value}(hu:ao.oneCell'=true)(hn:ao≠.nilIface):(eqGuard op t x y ao v).run P w=.ok () w:=by
 cases op <;>cases ao <;>simp[Value.oneCell'] at hu <;>first | (exact absurd rfl hn) | (cases v <;>simp[eqGuard])
theorem PA{op:BinOp}{x y z:I}(h:cD op x y=some z){P:Program}{t:TypeId}{w:World}{D:aL}{E:aT}{ao v:Value}(hx:aS w D E x ao)(hy:aS w D E y v)(xo yo:Operand) :
  ∃ r,(do eqGuard op t xo yo ao v;binOp op t ao v:Sem Value).run P w=.ok r w∧aS w D E z r:=by
 unfold cD at h;split at h
 ·rename_i k a k' b;obtain ⟨rfl,ha⟩:=ff hx;obtain ⟨rfl,hb⟩:=ff hy;have hg:∀ op,(eqGuard op t xo yo (.int k a) (.int k' b)).run P w=.ok () w:=fun op=>yb op t xo yo rfl (by simp);simp only[Sem.run_bind,hg,Result.andThen_ok];split at h
  ·split at h
   ·rename_i hb0;simp only[u8] at h;subst h;have:¬ b<0:=by omega
    exact ⟨_,by simp[binOp,Op.shift,this],kA (pT _ _)⟩
   ·cases h
  ·split at h
   ·rename_i hb0;simp only[u8] at h;subst h;have:¬ b<0:=by omega
    exact ⟨_,by simp[binOp,Op.shift,this],kA (X5 _ _ _ ha)⟩
   ·cases h
  ·rename_i op h1 h2;split at h
   ·rename_i hk;subst hk;split at h <;>first
     |(simp at h;done)
     |(simp only[u8] at h;subst h;exact ⟨_,by simp[binOp,Op.intArith,Op.intBits,Op.intCmp],kA (pT _ _)⟩)
     |(simp only[u8] at h;subst h;exact ⟨_,by simp[binOp,Op.intCmp],nW _⟩)
     |(split at h
       ·cases h
       ·rename_i hb0;simp only[u8] at h;subst h
        first
         |exact ⟨_,by simp[binOp,Op.intDiv,hb0],kA (pT _ _)⟩
         |exact ⟨_,by simp[binOp,Op.intDiv,hb0],kA (aiV _ _ _ ha)⟩)
   ·cases h
 ·rename_i s s';obtain ⟨rfl,hs1⟩:=nu hx;obtain ⟨rfl,hs2⟩:=nu hy;have hg:∀ op,(eqGuard op t xo yo (.string s) (.string s')).run P w=.ok () w:=fun op=>yb op t xo yo rfl (by simp);simp only[Sem.run_bind,hg,Result.andThen_ok];split at h <;>first
   |(simp at h;done)
   |(simp only[u8] at h;subst h;exact ⟨_,by simp[binOp,Op.stringOp],nW _⟩)
   |(split at h
     ·rename_i hl;simp only[u8] at h;subst h;have hl':¬ (((s.size+s'.size:Nat):Int)>IntKind.i64.max):=by
       have e:IntKind.i64.max=9223372036854775807:=by simp[IntKind.max,IntKind.bits,IntKind.signed]
       rw[e];omega
      refine ⟨.string (s++s'),by simp only[binOp,Op.stringOp,if_neg hl',Sem.run_pure],?_⟩;exact ⟨_,by simp[bG,I.isAgg];rfl,by simp only[af,true_and];rw[ByteArray.size_append];unfold maxLen;omega⟩
     ·cases h)
 ·cases h
theorem Jb{op:BinOp}{t yt:TypeId}{y z:Operand}{y' z':aH}(ho:o.op=.binOp op t y z yt)(hy:bC c.P 0 y=some y')(hz:bC c.P 0 z=some z')(h:cD op (ab A y') (ab A z')=some x):dF c A o x :=
 .same fun a w D E hs=>by
  obtain ⟨r,h1,h2⟩:=PA h (P:=c.P) (t:=t) (ca hs hy) (ca hs hz) y z;exact ⟨r,by simp only[execOp,ho,Sem.run_bind] at *;rw[h1];rfl,h2⟩
theorem aeI{t:TypeId}{y:Operand}{y':aH}{b:Bool}(ho:o.op=.unOp .not t y)(hy:bC c.P 0 y=some y')(h:ab A y'=.bool b):dF c A o (.bool !b) :=
 .same fun a w D E hs=>by
  have h1:=ca hs hy;rw[h] at h1;exact ⟨.bool !b,by simp[execOp,ho,lK h1,Op.unary],nW _⟩
theorem aeH{t:TypeId}{y:Operand}{y':aH}{k:IntKind}{n:Int}(ho:o.op=.unOp .neg t y)(hy:bC c.P 0 y=some y')(h:ab A y'=.int k n):dF c A o (.int k (k.wrap (0-n))) :=
 .same fun a w D E hs=>by
  have h1:=ca hs hy;rw[h] at h1;exact ⟨.int k (k.wrap (0-n)),by simp[execOp,ho,(ff h1).1,Op.unary,Op.intArith],kA (pT _ _)⟩
theorem aer{t:TypeId}{y:Operand}{y':aH}{k:IntKind}{n:Int}(ho:o.op=.unOp .xor t y)(hy:bC c.P 0 y=some y')(h:ab A y'=.int k n):dF c A o (.int k (oR k n)) :=
 .same fun a w D E hs=>by
  have h1:=ca hs hy;rw[h] at h1;exact ⟨.int k (oR k n),by simp[execOp,ho,(ff h1).1,Op.unary,Op.intBits,oR],kA (pT _ _)⟩
theorem aeq{nw dst:TypeId}{y:Operand}{y':aH}{k k0 k1:IntKind}{n:Int}(ho:o.op=.convert nw dst y)(h1:c.P.underlying nw=some (.int k0))(h2:c.P.underlying dst=some (.int k))
  (hy:bC c.P 0 y=some y') (h:ab A y'=.int k1 n):dF c A o (.int k (k.wrap n)) :=
 .same fun a w D E hs=>by
  have h3:=ca hs hy;rw[h] at h3;exact ⟨.int k (k.wrap n),by simp[execOp,ho,(ff h3).1,convert,run_underlying h1,run_underlying h2,Conv.intToInt],kA (pT _ _)⟩
theorem aeu{y:Operand}{y':aH}{i:Nat}{fs:List I}(ho:o.op=.extract y i)(hy:bC c.P 0 y=some y')(h:ab A y'=.tuple fs)(hi:fs[i]?=some x):dF c A o x :=
 .same fun a w D E hs=>by
  have h3:=ca hs hy;rw[h] at h3;obtain ⟨vs,h4,h5⟩:=h3;have:∀ (fs:List I) (vs:List Value) (i:Nat),aE w D E fs vs→fs[i]?=some x→∃ v,vs[i]?=some v∧aS w D E x v:=by
   intro fs
   induction fs with
   |nil=>intro vs i _ hi;simp at hi
   |cons f fs ih =>
    intro vs i hr hi;simp only[aE] at hr;obtain ⟨v,rest,cs,rfl,k1,k2,k3⟩:=hr;cases i with
    |zero =>
     simp only[List.getElem?_cons_zero,u8] at hi ⊢;subst hi;refine ⟨v,rfl,?_⟩;cases f <;>simp only[aS] <;>first | (simp only[af] at k2;done) | exact ⟨cs,k1,k2⟩
    |succ i=>simpa using ih rest i k3 (by simpa using hi)
  obtain ⟨v,h6,h7⟩:=this fs vs i h5 hi;exact ⟨v,by simp[execOp,ho,h4,Instr.extract,h6],h7⟩
theorem mf{w:World}{D:aL}{E:aT}{x:I}{v:Value}{cs:List Value}(h1:bG x v cs)(h2:af w D E x cs):aS w D E x v:=by
 cases x <;>simp only[aS] <;>first | (simp only[af] at h2;done) | exact ⟨cs,h1,h2⟩
theorem M3{P:Program}{w:World}{t:TypeId}{s:Option Nat}(h:fB P t=some s):(isAgg t).run P w=.ok s.isSome w:=by
 unfold fB at h;unfold isAgg;cases hu:P.underlying t with
 |none=>simp[hu] at h
 |some d =>
  rw[Sem.run_bind,run_underlying hu w];cases d <;>simp_all <;>(subst h;rfl)
theorem wS{P:Program}{t:TypeId}{n:Nat}(h:fB P t=some (some n)):n=P.cellsOf t:=by
 unfold fB at h;split at h <;>simp_all
theorem wH{P:Program}{t:TypeId}{d:TypeDesc}(h:P.underlying t=some d):∃ i,P.info? t=some i:=by
 unfold Program.underlying at h;cases hi:P.info? t with
 |none=>simp[hi] at h
 |some i=>exact ⟨i,rfl⟩
theorem iS{P:Program}{w:World}{t:TypeId}{i:TypeInfo}(h:P.info? t=some i):(sizeOf t).run P w=.ok (P.cellsOf t) w:=by
 simp[sizeOf,typeInfo,h,Program.cellsOf]
theorem sF{P:Program}{t:TypeId}{s:Option Nat}(h:fB P t=some s):∃ i,P.info? t=some i:=by
 unfold fB at h;split at h
 ·rename_i fs hu;exact wH hu
 ·rename_i n e hu;exact wH hu
 ·rename_i d _ _ hu;exact wH hu
 ·cases h
theorem mK(b off j:Nat):(⟨b,off,none⟩:Addr).add j=⟨b,off+j,none⟩:=by unfold Addr.add;split <;>simp_all
theorem M4{P:Program}{w:World}{D:aL}{E:aT}{t:TypeId}{s:Option Nat}{b off:Nat}{cs:List Value}{y:I}(hk:fB P t=some s)(hok:bV s y=true)
  (hcs:∀ j ao,cs[j]?=some ao→w.cell? ⟨b,off+j,none⟩=some ao) (hy:af w D E y cs):∃ v,(loadVar t ⟨b,off,none⟩).run P w=.ok v w∧aS w D E y v:=by
 have hag:=M3 (w:=w) hk;cases s with
 |none =>
  simp only[bV,Bool.not_eq_true'] at hok;have hl:=af.length _ _ hy;have hsz:y.size=1:=by cases y <;>simp_all[I.isAgg,I.size]
  rw[hsz] at hl
  match cs,hl with
  | [v],_ =>
   have:=hcs 0 v rfl;rw[Nat.add_zero] at this;refine ⟨v,?_,JY hok hy⟩;simp only[loadVar,Sem.run_bind,hag,Result.andThen_ok,Option.isSome_none,zz7,if_false,run_load,this]
 |some n =>
  simp only[bV,zz2,beq_iff_eq] at hok;obtain ⟨hag',hsz⟩:=hok;have hn:=wS hk;obtain ⟨i,hi⟩:=sF hk;have hl:=af.length _ _ hy;refine ⟨.agg cs.toArray,?_,mf (by simp[bG,hag']) hy⟩;have hlc:=run_loadCells_list (P:=P) w ⟨b,off,none⟩ cs (fun j ao hj=>by rw[mK];exact hcs j ao hj);rw[hl,hsz,hn] at hlc;simp only[loadVar,Sem.run_bind,hag,Result.andThen_ok,Option.isSome_some,if_true,iS hi,hlc,Sem.run_pure]
theorem aeE{t:TypeId}{y:Operand}{y':aH}{s:Option Nat}(ho:o.op=.load t y)(hk:fB c.P t=some s)(hy:bC c.P 0 y=some y')(h:cz A (ab A y')=some x)(hok:bV s x=true):dF c A o x :=
 .same fun a w D E hs=>by
  obtain ⟨b,off,cs,h1,h2,h3⟩:=hs.zF (ca hs hy) h;obtain ⟨v,h4,h5⟩:=M4 hk hok h2 h3;exact ⟨v,by simp[execOp,ho,Instr.loadAt,h1,Instr.sureAddr,h4],h5⟩
theorem tv{w:World}{D:aL}{b off:Nat}{c1 c2 c3:List Value}(h:gq w D b off (c1++c2++c3)):gq w D b (off+c1.length) c2:=by
 intro j v hj;have hjl:j<c2.length:=(zy4.1 hj).1;have:=h (c1.length+j) v (by rw[zz3,zx9 (by omega),Nat.add_sub_cancel_left,zx1 (by omega)];exact hj)
 rwa [←Nat.add_assoc] at this
theorem cJ.td:∀ (p:List Nat) (s:cJ) (o i:Nat) (l:List cJ),s.off p=some o→s.part p=some (.dU l)→i<l.length→s.off (p++[i])=some (o+cJ.sizes (l.take i))
 | [],s,o,i,l,h1,h2,h3=>by
  simp only[cJ.part,u8] at h2;subst h2;simp only[cJ.off,u8] at h1;subst h1;simp[cJ.off,zz8 h3]
 |k::p,.one,o,i,l,h1,h2,h3=>by simp[cJ.part] at h2
 |k::p,.dU m,o,i,l,h1,h2,h3=>by
  simp only[cJ.off,cJ.part,zy0] at *;cases hk:m[k]? with
  |none=>simp[hk] at h2
  |some s =>
   simp only[hk] at h1 h2 ⊢;simp only[zz0] at h1;obtain ⟨o',h4,rfl⟩:=h1;rw[cJ.td p s o' i l h4 h2 h3];simp[Nat.add_assoc]
theorem oo{esz:Nat} : ∀ (fs:List I) (k:Nat),(∀ f∈fs,f.size=esz)→k≤fs.length→I.sizes (fs.take k)=k*esz:=by
 intro fs k h hk;rw[I.gR _ (fun x hx=>h x (List.mem_of_mem_take hx))];simp[Nat.min_eq_left hk]
theorem qh{n esz:Nat}{fs:List I}(h:hT n esz fs=true):fs.length=n∧∀ f∈fs,f.size=esz:=by
 simp only[hT,zz2,beq_iff_eq,zy2] at h;exact h
theorem M0{P:Program}{w:World}{t:TypeId}{f b off:Nat}{fs:Array Field}{fd:Field}(hu:P.underlying t=some (.struct fs))(hf:fs[f]?=some fd)(hz:¬ P.cellsOf fd.type=0) :
  (Instr.fieldAt t (.pointer (some ⟨b,off,none⟩)) f).run P w=.ok (.pointer (some ⟨b,off+fd.offset,none⟩)) w:=by
 have hi:∃ i,P.info? fd.type=some i:=by
  cases h:P.info? fd.type with
  |none=>simp[Program.cellsOf,h] at hz
  |some i=>exact ⟨i,rfl⟩
 obtain ⟨i,hi⟩:=hi;simp only[Instr.fieldAt,Sem.run_bind,run_underlying hu,Result.andThen_ok,hf,Instr.sureAddr,Sem.run_pure,fieldPlace,iS hi,Sem.run_ite,if_neg hz,mK]
theorem aew{t:TypeId}{y:Operand}{y':aH}{f:Nat}{fs:Array Field}{fd:Field}{gs:List I}(ho:o.op=.fieldAddr t y f)(hu:c.P.underlying t=some (.struct fs))(hf:fs[f]?=some fd)(hz:¬ c.P.cellsOf fd.type=0)
  (hy:bC c.P 0 y=some y') (h:ab A y'=.ref (.agg gs)) (hx:gs[f]?=some x) (hoff:I.sizes (gs.take f)=fd.offset):dF c A o (.ref x) :=
 .same fun a w D E hs=>by
  have h1:=ca hs hy;rw[h] at h1;obtain ⟨b,off,cs,h2,h3,h4⟩:=pJ h1;simp only[af] at h4;obtain ⟨c1,c2,c3,rfl,k1,_,k2,_⟩:=mu gs cs f x h4 hx;refine ⟨_,by simp only[execOp,ho,h2,Sem.run_bind,M0 hu hf hz];rfl,sS (cs:=c2) ?_ k2⟩;rw[←hoff,←k1];exact tv h3
theorem aev{t:TypeId}{y:Operand}{y':aH}{f n:Nat}{p:List Nat}{fs:Array Field}{fd:Field}{gs:List I}(ho:o.op=.fieldAddr t y f)(hu:c.P.underlying t=some (.struct fs))(hf:fs[f]?=some fd)(hz:¬ c.P.cellsOf fd.type=0)
  (hy:bC c.P 0 y=some y') (h:ab A y'=.ptr n p) (hd:cz A (.ptr n p)=some (.agg gs)) (hl:f<gs.length) (hoff:I.sizes (gs.take f)=fd.offset):dF c A o (.ptr n (p++[f])) :=
 .same fun a w D E hs=>by
  have h1:=ca hs hy;rw[h] at h1;obtain ⟨b,aJ,off,h2,h3,h4⟩:=oh h1;obtain ⟨z,b',cs,T,off',c1,c2,c3,k1,k2,_,k3,k4,k5,k6,k7,k8,k9,_⟩:=hs.at hd;rw[k2] at h2;simp only[u8,bS.aB.injEq] at h2;obtain ⟨rfl,rfl⟩:=h2;refine ⟨_,by simp only[execOp,ho,h4,Sem.run_bind,M0 hu hf hz];rfl,?_⟩;refine ⟨_,by simp[bG,I.isAgg];rfl,?_⟩;simp only[af];refine ⟨b',z.aJ,off+fd.offset,k2,?_,rfl⟩;rw[cJ.td p z.aJ off f _ h3 (mD p z _ k4) (by rw[I.de];simpa using hl),I.de,←List.map_take,←I.de,I.mE,hoff]
theorem M2{P:Program}{w:World}{t e:TypeId}{n b off:Nat}{kk:IntKind}{k:Int}{i:TypeInfo}(hu:P.underlying t=some (.array n e))(hi:P.info? e=some i)(hk:0≤k∧k<n) :
  (Instr.indexAt t (.pointer (some ⟨b,off,none⟩)) (.int kk k)).run P w=.ok (.pointer (some ⟨b,off+k.toNat*P.cellsOf e,none⟩)) w:=by
 simp[Instr.indexAt,asIntOf,run_underlying hu,Instr.sureAddr,hk,iS hi,mK]
theorem yc{P:Program}{w:World}{t e:TypeId}{n b off cap:Nat}{kk:IntKind}{k:Int}{i:TypeInfo}(hu:P.underlying t=some (.slice e))(hi:P.info? e=some i)(hk:0≤k∧k<n) :
  (Instr.indexAt t (.slice (some ⟨b,off,none⟩) n cap) (.int kk k)).run P w=.ok (.pointer (some ⟨b,off+k.toNat*P.cellsOf e,none⟩)) w:=by
 simp[Instr.indexAt,asIntOf,run_underlying hu,hk,iS hi,mK]
theorem aez{t e:TypeId}{y z:Operand}{y' z':aH}{n:Nat}{i:TypeInfo}{gs:List I}{kk:IntKind}{k:Int}(ho:o.op=.indexAddr t y z)(hu:c.P.underlying t=some (.array n e))(hi:c.P.info? e=some i)
  (hy:bC c.P 0 y=some y') (hz:bC c.P 0 z=some z') (h:ab A y'=.ref (.agg gs)) (h':ab A z'=.int kk k) (hk:0≤k∧k<n) (hev:hT n (c.P.cellsOf e) gs=true) (hx:gs[k.toNat]?=some x):dF c A o (.ref x) :=
 .same fun a w D E hs=>by
  have h1:=ca hs hy;rw[h] at h1;have h1':=ca hs hz;rw[h'] at h1';obtain ⟨b,off,cs,h2,h3,h4⟩:=pJ h1;simp only[af] at h4;obtain ⟨c1,c2,c3,rfl,k1,_,k2,_⟩:=mu gs cs k.toNat x h4 hx;obtain ⟨e1,e2⟩:=qh hev;have hl:k.toNat<gs.length:=(zy4.1 hx).1;refine ⟨_,by simp only[execOp,ho,h2,(ff h1').1,Sem.run_bind,M2 hu hi hk];rfl,sS (cs:=c2) ?_ k2⟩;rw[←oo gs k.toNat e2 (by omega),←k1];exact tv h3
theorem aey{t e:TypeId}{y z:Operand}{y' z':aH}{n m:Nat}{p:List Nat}{i:TypeInfo}{gs:List I}{kk:IntKind}{k:Int}(ho:o.op=.indexAddr t y z)(hu:c.P.underlying t=some (.array n e))(hi:c.P.info? e=some i)
  (hy:bC c.P 0 y=some y') (hz:bC c.P 0 z=some z') (h:ab A y'=.ptr m p) (h':ab A z'=.int kk k) (hk:0≤k∧k<n) (hd:cz A (.ptr m p)=some (.agg gs)) (hev:hT n (c.P.cellsOf e) gs=true):dF c A o (.ptr m (p++[k.toNat])) :=
 .same fun a w D E hs=>by
  have h1:=ca hs hy;rw[h] at h1;have h1':=ca hs hz;rw[h'] at h1';obtain ⟨b,aJ,off,h2,h3,h4⟩:=oh h1;obtain ⟨zz,b',cs,T,off',c1,c2,c3,k1,k2,_,k3,k4,k5,k6,k7,k8,k9,_⟩:=hs.at hd;rw[k2] at h2;simp only[u8,bS.aB.injEq] at h2;obtain ⟨rfl,rfl⟩:=h2;obtain ⟨e1,e2⟩:=qh hev;have hl:k.toNat<gs.length:=by omega
  refine ⟨_,by simp only[execOp,ho,h4,(ff h1').1,Sem.run_bind,M2 hu hi hk];rfl,?_⟩;refine ⟨_,by simp[bG,I.isAgg];rfl,?_⟩;simp only[af];refine ⟨b',zz.aJ,off+k.toNat*c.P.cellsOf e,k2,?_,rfl⟩;rw[cJ.td p zz.aJ off k.toNat _ h3 (mD p zz _ k4) (by rw[I.de];simpa using hl),I.de,←List.map_take,←I.de,I.mE,oo gs _ e2 (by omega)]
theorem Ct{w:World}{D:aL}{E:aT}{b off sz k:Nat}{cs:List Value}{es:List I}{x:I}(h1:gq w D b off cs)(h2:aG w D E es cs)(h3:∀ e∈es,e.size=sz)(hx:es[k]?=some x) :
  ∃ c2,gq w D b (off+k*sz) c2∧af w D E x c2:=by
 obtain ⟨c1,c2,c3,rfl,k1,_,k2,_⟩:=mu es cs k x h2 hx;have hl:k<es.length:=(zy4.1 hx).1;refine ⟨c2,?_,k2⟩;rw[←oo es k h3 (by omega),←k1];exact tv h1
theorem aeA{t e:TypeId}{y z:Operand}{y' z':aH}{i:TypeInfo}{es:List I}{kk:IntKind}{k:Int}(ho:o.op=.indexAddr t y z)(hu:c.P.underlying t=some (.slice e))(hi:c.P.info? e=some i)
  (hy:bC c.P 0 y=some y') (hz:bC c.P 0 z=some z') (h:ab A y'=.slice (c.P.cellsOf e) es) (h':ab A z'=.int kk k) (hk:0≤k∧k<es.length) (hx:es[k.toNat]?=some x):dF c A o (.ref x) :=
 .same fun a w D E hs=>by
  have h1:=ca hs hy;rw[h] at h1;have h1':=ca hs hz;rw[h'] at h1';obtain ⟨ad,cap,rfl',h2,h3,h4,h5⟩:=nt h1;rcases h4 with h4 | ⟨b,off,cs,rfl,h6,h7⟩
  ·subst h4;simp at hx
  obtain ⟨c2,k1,k2⟩:=Ct h6 h7 h5 hx;exact ⟨_,by simp only[execOp,ho,rfl',(ff h1').1,Sem.run_bind,yc hu hi hk];rfl,sS k1 k2⟩
theorem aP.aij{a:Act}{w:World}{D:aL}{E:aT}(h:aP c A a w D E){n sz b cap:Nat}{T:TypeId}{es:List I}(hn:A.o n=some (.bT T sz es))(av:E n=some (.rw (some (b,cap)) es.length)) :
  aP c A a w (fun b' o=>D b' o∨(b'=b∧o<es.length*sz)) E:=by
 have hrow:=h.bT hn;obtain ⟨aD,k1,k2,k3⟩:=hrow;rw[av] at k1;simp only[u8,bS.rw.injEq,and_true] at k1;subst k1;obtain ⟨cs,pre,rest,k4,k5,k6,k7,k8,k9,k10,k11⟩:=k3;refine h.NW (fun _ _ hd=>.inl hd) ?_ ?_ ?_ ?_ ?_ ?_
 ·rintro b' o (hd | ⟨rfl,_⟩) hlt
  ·exact h.cV _ _ hd hlt
  ·exact absurd k4 hlt
 ·rintro b' o (hd | ⟨rfl,_⟩)
  ·exact h.c9 _ _ hd
  ·exact fH k5
 ·rintro m x b' hm hEm o (hd | ⟨rfl,_⟩)
  ·obtain ⟨b2,cs2,T2,q1,q2,q3,q4,q5⟩:=h.box hm;rw[q1] at hEm;simp only[u8,bS.aB.injEq,and_true] at hEm;subst hEm;exact q5 o hd
  ·have:=h.cM m n _ _ b' hEm av rfl rfl;subst this;rw[hm] at hn;cases hn
 ·rintro m T' sz' es' b' cap' hm hEm o (hd | ⟨rfl,ho⟩)
  ·obtain ⟨aD,q1,q2,q3⟩:=h.bT hm;rw[hEm] at q1;simp only[u8,bS.rw.injEq,and_true] at q1;subst q1;obtain ⟨cs',pre',rest',q4,q5,q6,q7,q8,q9,q10,q11⟩:=q3;have:=q11 o hd
   rwa [aG.length _ _ q7,I.gR _ q2] at this
  ·have:=h.cM m n _ _ b' hEm av rfl rfl;subst this;rw[hm] at hn;simp only[u8,ah.bT.injEq] at hn;obtain ⟨rfl,rfl,rfl⟩:=hn;exact ho
 ·rintro m T' xs b' cap' hm hEm o (hd | ⟨rfl,ho⟩)
  ·obtain ⟨aD,q1,_,q3⟩:=h.q0 hm;rw[hEm] at q1;simp only[u8,bS.rw.injEq,and_true] at q1;subst q1;obtain ⟨_,_,_,_,_,_,_,_,q4⟩:=q3;exact q4 o hd
  ·have:=h.cM m n _ _ b' hEm av rfl rfl;subst this;rw[hm] at hn;cases hn
 ·rintro m e' b' hE' hoth hblk o (hd | ⟨rfl,_⟩)
  ·exact h.xO hE' hoth hblk o hd
  ·have:=h.cM m n _ _ b' hE' av hblk rfl;subst this;rw[hE'] at av;cases av;cases hoth
theorem aP.own{a:Act}{w:World}{D:aL}{E:aT}(h:aP c A a w D E){n sz:Nat}{T:TypeId}{es:List I}{v:Value}(hn:A.o n=some (.bT T sz es))(hv:aS w D E (.own n es.length) v) :
  (es=[]∧E n=some (.rw none 0)∧v=.slice none 0 0) ∨
  ∃ b cap cs pre rest,E n=some (.rw (some (b,cap)) es.length)∧v=.slice (some ⟨b,0,none⟩) es.length cap∧c.eU b∧w.heap[b]?=some (.cells cs T (0,0))∧cs.toList=pre++rest ∧
   aG w D E es pre∧cs.size=cap*sz∧es.length≤cap∧cap≤maxLen∧(∀ o,D b o→o<pre.length):=by
 obtain ⟨cs0,h1,h2⟩:=hv;simp only[af] at h2;obtain ⟨aD,l,h3,h4,_,h5⟩:=h2;obtain ⟨blk',k1,k2,k3⟩:=h.bT hn;rw[k1] at h3;simp only[u8,bS.rw.injEq] at h3;obtain ⟨rfl,rfl⟩:=h3;have h5:=h5 rfl;cases blk' with
 |none =>
  simp only at k3 h5;subst k3;exact .inl ⟨rfl,k1,by simpa[bG,I.isAgg,h5] using h1.symm⟩
 |some bc =>
  obtain ⟨b,cap⟩:=bc;simp only at h5;obtain ⟨cs,pre,rest,k4,k5,k6,k7,k8,k9,k10,k11⟩:=k3;exact .inr ⟨b,cap,cs,pre,rest,k1,by simpa[bG,I.isAgg,h5] using h1.symm,k4,k5,k6,k7,k8,k9,k10,k11⟩
theorem aeB{t e:TypeId}{y z:Operand}{y' z':aH}{i:TypeInfo}{es:List I}{n:Nat}{kk:IntKind}{k:Int}(ho:o.op=.indexAddr t y z)(hu:c.P.underlying t=some (.slice e))(hi:c.P.info? e=some i)
  (hy:bC c.P 0 y=some y') (hz:bC c.P 0 z=some z') (h:ab A y'=.own n es.length) {T:TypeId} (hn:A.o n=some (.bT T (c.P.cellsOf e) es)) (h':ab A z'=.int kk k) (hk:0≤k∧k<es.length) (hx:es[k.toNat]?=some x):dF c A o (.ref x):=by
 intro a w D E hs;have h1:=ca hs hy;rw[h] at h1;have h1':=ca hs hz;rw[h'] at h1';rcases hs.own hn h1 with ⟨rfl,_⟩ | ⟨b,cap,cs,pre,rest,k1,k2,k3,k4,k5,k6,k7,k8,k9,k10⟩
 ·simp at hx
 ·have hs':=hs.aij hn k1;obtain ⟨aD,q1,q2,_⟩:=hs.bT hn;have hpl:pre.length=es.length*c.P.cellsOf e:=by rw[aG.length _ _ k6,I.gR _ q2]
  have hr:gq w (fun b' o=>D b' o∨(b'=b∧o<es.length*c.P.cellsOf e)) b 0 pre:=by
   have:=n8 (D:=fun b' o=>D b' o∨(b'=b∧o<es.length*c.P.cellsOf e)) (c1:=[]) k4 (by simpa using k5) (fun o ho=>.inr ⟨rfl,by simp at ho;omega⟩);simpa using this
  have hrc:aG w (fun b' o=>D b' o∨(b'=b∧o<es.length*c.P.cellsOf e)) E es pre :=
   aG.bE ⟨fun _ _ hd=>.inl hd,fun _ _ _ _ h=>h,fun _ _ _ h=>h,fun _ aD l h=>⟨aD,l,h,zz6 _,fun _=>rfl⟩,fun _ _ h=>h,fun _ _ h=>h,fun _ _ _ _ h=>h⟩ es pre k6
  obtain ⟨c2,q3,q4⟩:=Ct hr hrc q2 hx;exact ⟨_,w,_,by simp only[execOp,ho,k2,(ff h1').1,Sem.run_bind,yc hu hi hk];rfl,hs',sS q3 q4⟩
end
section
variable {c:cI} {A:ae} {o:Oper} {x:I}
theorem og{P:Program}{w:World}{D:aL}{E:aT}{t:TypeId}{s:Option Nat}{c1 c2 c3:List Value}{y:I}(hk:fB P t=some s)(hok:bV s y=true)(hy:af w D E y c2) :
  ∃ v,(part t (c1++c2++c3).toArray c1.length).run P w=.ok v w∧aS w D E y v:=by
 have hag:=M3 (w:=w) hk;have hl:=af.length _ _ hy;cases s with
 |none =>
  simp only[bV,Bool.not_eq_true'] at hok;have hsz:y.size=1:=by cases y <;>simp_all[I.isAgg,I.size]
  rw[hsz] at hl
  match c2,hl with
  | [v],_ =>
   refine ⟨v,?_,JY hok hy⟩;simp[part,hag]
 |some n =>
  simp only[bV,zz2,beq_iff_eq] at hok;obtain ⟨hag',hsz⟩:=hok;have hn:=wS hk;obtain ⟨i,hi⟩:=sF hk;refine ⟨.agg c2.toArray,?_,mf (by simp[bG,hag']) hy⟩;have e:((c1++c2++c3).toArray.extract c1.length (c1.length+P.cellsOf t))=c2.toArray:=by
   have:P.cellsOf t=c2.length:=by rw[hl,hsz,hn]
   rw[this];simp
  simp only[part,Sem.run_bind,hag,Result.andThen_ok,Option.isSome_some,if_true,iS hi,e,Sem.run_pure]
theorem aex{t:TypeId}{y:Operand}{y':aH}{f:Nat}{s:Option Nat}{fs:Array Field}{fd:Field}{gs:List I}(ho:o.op=.field t y f)(hu:c.P.underlying t=some (.struct fs))(hf:fs[f]?=some fd)(hk:fB c.P fd.type=some s)
  (hy:bC c.P 0 y=some y') (h:ab A y'=.agg gs) (hx:gs[f]?=some x) (hoff:I.sizes (gs.take f)=fd.offset) (hok:bV s x=true):dF c A o x :=
 .same fun a w D E hs=>by
  have h1:=ca hs hy;rw[h] at h1;obtain ⟨cs,h2,h4⟩:=jr h1;obtain ⟨c1,c2,c3,rfl,k1,_,k2,_⟩:=mu gs cs f x h4 hx;obtain ⟨v,k3,k4⟩:=og (c1:=c1) (c3:=c3) hk hok k2;rw[k1,hoff] at k3;exact ⟨v,by simp only[execOp,ho,h2,Instr.field,Sem.run_bind,run_underlying hu,Result.andThen_ok,hf,asAgg,Sem.run_pure,k3],k4⟩
theorem aeD{t e:TypeId}{y z:Operand}{y' z':aH}{n:Nat}{s:Option Nat}{gs:List I}{kk:IntKind}{k:Int}(ho:o.op=.index t y z)(hu:c.P.underlying t=some (.array n e))(hk:fB c.P e=some s)
  (hy:bC c.P 0 y=some y') (hz:bC c.P 0 z=some z') (h:ab A y'=.agg gs) (h':ab A z'=.int kk k) (hb:0≤k∧k<n) (hev:hT n (c.P.cellsOf e) gs=true) (hx:gs[k.toNat]?=some x) (hok:bV s x=true):dF c A o x :=
 .same fun a w D E hs=>by
  have h1:=ca hs hy;rw[h] at h1;have h1':=ca hs hz;rw[h'] at h1';obtain ⟨cs,h2,h4⟩:=jr h1;obtain ⟨c1,c2,c3,rfl,k1,_,k2,_⟩:=mu gs cs k.toNat x h4 hx;obtain ⟨v,k3,k4⟩:=og (c1:=c1) (c3:=c3) hk hok k2;obtain ⟨e1,e2⟩:=qh hev;obtain ⟨i,hi⟩:=sF hk;have hl:k.toNat<gs.length:=(zy4.1 hx).1;rw[k1,oo gs k.toNat e2 (by omega)] at k3;exact ⟨v,by simp only[execOp,ho,h2,(ff h1').1,Instr.index,Sem.run_bind,asIntOf,run_underlying hu,Result.andThen_ok,Sem.run_ite,if_pos hb,iS hi,Sem.run_pure,k3],k4⟩
theorem xb{n:Nat}(h:n≤maxLen):IntKind.i64.min≤(n:Int)∧(n:Int)≤IntKind.i64.max:=by
 simp only[IntKind.min,IntKind.max,IntKind.bits,IntKind.signed];unfold maxLen at h;simp;omega
theorem o5{ty:TypeId}{y:Operand}{y':aH}{n:Nat}{d:TypeDesc}(ho:o.op=.call { callee:=.builtin .len,args := #[y],argTypes := #[ty] })(hu:c.P.underlying ty=some d)(hd:(∃ e,d=.slice e)∨d=.string)
  (hy:bC c.P ty y=some y') (h:∀ a w D E,aP c A a w D E→∀ v,aS w D E (ab A y') v→n≤maxLen∧((∃ e,d=.slice e)→∃ ad cap,v=.slice ad n cap)∧(d=.string→∃ s,v=.string s∧s.size=n)):dF c A o (.int .i64 n) :=
 .same fun a w D E hs=>by
  obtain ⟨h0,h1,h2⟩:=h a w D E hs _ (ca hs hy);refine ⟨.int .i64 n,?_,kA (xb h0)⟩;rcases hd with ⟨e,rfl⟩ | rfl
  ·obtain ⟨ad,cap,hv⟩:=h1 ⟨e,rfl⟩;simp[execOp,ho,resolve,invoke,builtin,Builtin.len_,run_underlying hu,hv,goInt]
  ·obtain ⟨s,hv,hs⟩:=h2 rfl;simp[execOp,ho,resolve,invoke,builtin,Builtin.len_,run_underlying hu,hv,goInt,hs]
theorem aeN{t e:TypeId}{y:Operand}{y':aH}{n:Nat}{i:TypeInfo}{gs:List I}(ho:o.op=.slice t y none none none)(hu:c.P.underlying t=some (.array n e))(hi:c.P.info? e=some i)
  (hy:bC c.P 0 y=some y') (h:ab A y'=.ref (.agg gs)) (hev:hT n (c.P.cellsOf e) gs=true) (hn:n≤maxLen):dF c A o (.slice (c.P.cellsOf e) gs) :=
 .same fun a w D E hs=>by
  have h1:=ca hs hy;rw[h] at h1;obtain ⟨b,off,cs,h2,h3,h4⟩:=pJ h1;simp only[af] at h4;obtain ⟨e1,e2⟩:=qh hev;by_cases h0:n=0
  ·exact ⟨.slice (some ⟨b,off,none⟩) 0 0,by simp[execOp,ho,h2,Instr.sliceAt,run_underlying hu,Instr.sureAddr,Instr.sliceBounds,iS hi,h0],sT (by omega) (by omega) (by simp[maxLen]) (.inl (List.eq_nil_of_length_eq_zero (by omega))) e2⟩
  ·exact ⟨.slice (some ⟨b,off,none⟩) n n,by simp[execOp,ho,h2,Instr.sliceAt,run_underlying hu,Instr.sureAddr,Instr.sliceBounds,iS hi,mK],sT e1.symm (zz6 _) hn (.inr ⟨b,off,cs,rfl,h3,h4⟩) e2⟩
theorem aeM{t e:TypeId}{y:Operand}{y':aH}{n m:Nat}{p:List Nat}{i:TypeInfo}{gs:List I}(ho:o.op=.slice t y none none none)(hu:c.P.underlying t=some (.array n e))(hi:c.P.info? e=some i)
  (hy:bC c.P 0 y=some y') (h:ab A y'=.ptr m p) (hd:cz A (.ptr m p)=some (.agg gs)) (hev:hT n (c.P.cellsOf e) gs=true) (hn:n≤maxLen) (hn0:n≠0):dF c A o (.view m p (c.P.cellsOf e) 0 n) :=
 .same fun a w D E hs=>by
  have h1:=ca hs hy;rw[h] at h1;obtain ⟨b,aJ,off,h2,h3,h4⟩:=oh h1;obtain ⟨zz,b',cs,T,off',c1,c2,c3,k1,k2,_,k3,k4,k5,k6,k7,k8,k9,_⟩:=hs.at hd;rw[k2] at h2;simp only[u8,bS.aB.injEq] at h2;obtain ⟨rfl,rfl⟩:=h2;obtain ⟨e1,e2⟩:=qh hev;refine ⟨.slice (some ⟨b',off,none⟩) n n,by simp[execOp,ho,h4,Instr.sliceAt,run_underlying hu,Instr.sureAddr,Instr.sliceBounds,iS hi,mK],?_⟩;refine ⟨_,by simp[bG,I.isAgg];rfl,?_⟩;simp only[af];refine ⟨b',zz.aJ,off,I.cN gs,k2,h3,mD p zz _ k4,?_,?_,?_,?_⟩
  ·rw[I.de,zy1,e1];simp
  ·rw[I.de,zy1,e1];exact hn
  ·rw[I.de,zy1,e1];omega
  ·rw[I.de];intro s hs';obtain ⟨f,hf,rfl⟩:=zx5.1 hs';rw[I.lN];exact e2 f hf
theorem ahK{w:World}{D:aL}{E:aT}{b off sz:Nat}{cs:List Value}{es:List I}(h1:gq w D b off cs)(h2:aG w D E es cs)(h3:∀ e∈es,e.size=sz)(l h:Nat)(hl:l≤h)(hh:h≤es.length) :
  ∃ c2,gq w D b (off+l*sz) c2∧aG w D E ((es.take h).drop l) c2:=by
 have hspl:∀ (xs ys:List I) (cs:List Value),aG w D E (xs++ys) cs→∃ c1 c2,cs=c1++c2∧aG w D E xs c1∧aG w D E ys c2:=by
  intro xs
  induction xs with
  |nil=>intro ys cs hr;exact ⟨[],cs,rfl,by simp[aG],hr⟩
  |cons x xs ih =>
   intro ys cs hr;simp only[zy0,aG] at hr;obtain ⟨d1,d2,rfl,k1,k2⟩:=hr;obtain ⟨e1,e2,rfl,k3,k4⟩:=ih ys d2 k2;exact ⟨d1++e1,e2,by simp,by simp only[aG];exact ⟨d1,e1,rfl,k1,k3⟩,k4⟩
 have e1:es=es.take l++((es.take h).drop l++es.drop h):=by
  rw[←zz3]
  conv=>lhs;rw[←zy9 h es]
  congr 1
  rw[←List.aiT l h es hl]
 rw[e1] at h2;obtain ⟨c1,c',rfl,k1,k2⟩:=hspl _ _ _ h2;obtain ⟨c2,c3,rfl,k3,k4⟩:=hspl _ _ _ k2;refine ⟨c2,?_,k3⟩;rw[←oo es l h3 (by omega),←aG.length _ _ k1];rw[←zz3] at h1;exact tv h1
 where
 List.aiT {α:Type} (l h:Nat) (es:List α) (hl:l≤h):es.take h=es.take l++(es.take h).drop l:=by
  conv=>lhs;rw[←zy9 l (es.take h)]
  rw[List.take_take,Nat.min_eq_left hl]
def il(w:World)(D:aL)(E:aT)(x:Option I)(v:Option Value):Prop:=match x,v with
 |none,none=>True
 |some x,some v=>aS w D E x v
 |_,_=>False
theorem QH{x:I}{d n:Int}(h:gX (some x) d=some n):∃ k,x=.int k n:=by
 cases x <;>simp[gX] at h
 subst h;exact ⟨_,rfl⟩
theorem qH{w:World}{D:aL}{E:aT}{x:Option I}{v:Option Value}{d n:Int}(h:il w D E x v)(hb:gX x d=some n) :
  (x=none∧v=none∧d=n)∨(x.isSome=true∧∃ k,v=some (.int k n)):=by
 cases x with
 |none =>
  cases v with
  |some _=>simp[il] at h
  |none=>simp only[gX,u8] at hb;exact .inl ⟨rfl,rfl,hb⟩
 |some x =>
  cases v with
  |none=>simp[il] at h
  |some v =>
   obtain ⟨k,rfl⟩:=QH hb;simp only[il] at h;exact .inr ⟨rfl,k,by rw[(ff h).1]⟩
theorem yd{P:Program}{w:World}{D:aL}{E:aT}{t e:TypeId}{i:TypeInfo}{sz:Nat}{es:List I}{lo hi mx:Option I}{vlo vhi vmx:Option Value}{x:I}{ad:Option Addr}{cap:Nat}
  (hu:P.underlying t=some (.slice e)) (hi':P.info? e=some i) (hsz:sz=P.cellsOf e) (hmh:mx.isSome=true→hi.isSome=true)
  (h1:il w D E lo vlo) (h2:il w D E hi vhi) (h3:il w D E mx vmx) (hx:jH sz es lo hi mx=some x)
  (hcap:es.length≤cap) (hcm:cap≤maxLen) (hes:es=[]∨∃ b off cs,ad=some ⟨b,off,none⟩∧gq w D b off cs∧aG w D E es cs) (hall:∀ e∈es,e.size=sz) :
  ∃ v,(Instr.sliceAt t (.slice ad es.length cap) vlo vhi vmx).run P w=.ok v w∧aS w D E x v:=by
 unfold jH at hx;split at hx
 ·cases hx
 rename_i h hh;split at hx
 ·cases hx
 rename_i m hm;split at hx
 ·cases hx
 rename_i l hl;split at hx
 case isFalse=>cases hx
 rename_i hb;obtain ⟨b1,b2,b3,b4⟩:=hb;have sb:∀ (k:IntKind) (n:Int) (y:Nat) (code:BoundsCode),0≤n→n≤y→(Instr.sliceBound (.int k n) y code).run P w=.ok n.toNat w:=fun k n y code g1 g2=>by
  simp[Instr.sliceBound,asIntOf,g1,g2]
 -- the bounds that the program finds
 have key:∃ m':Nat,es.length≤cap∧m'≤cap∧h.toNat≤m'∧(mx.isSome=true→m'=m.toNat)∧(mx=none→m'=cap) ∧
   (Instr.sliceBounds true es.length cap vlo vhi vmx).run P w=.ok (l.toNat,h.toNat,m') w:=by
  have c1:=qH h1 hl;have c2:=qH h2 hh;have c3:=qH h3 hm;clear h1 h2 h3;rcases c3 with ⟨rfl,rfl,hm3⟩ | ⟨s3,k3,rfl⟩
  ·refine ⟨cap,hcap,zz6 _,by omega,fun e=>(by cases e),fun _=>rfl,?_⟩;rcases c2 with ⟨rfl,rfl,hm2⟩ | ⟨s2,k2,rfl⟩ <;>rcases c1 with ⟨rfl,rfl,hm1⟩ | ⟨s1,k1,rfl⟩
   ·subst hm1 hm2;simp[Instr.sliceBounds]
   ·subst hm2;simp[Instr.sliceBounds,sb k1 l es.length _ b1 (by omega)]
   ·subst hm1;simp[Instr.sliceBounds,sb k2 h cap _ (by omega) (by omega)]
   ·simp[Instr.sliceBounds,sb k2 h cap _ (by omega) (by omega),sb k1 l h.toNat _ b1 (by omega)]
  ·refine ⟨m.toNat,hcap,by omega,by omega,fun _=>rfl,fun e=>(by rw[e] at s3;cases s3),?_⟩;rcases c2 with ⟨rfl,rfl,hm2⟩ | ⟨s2,k2,rfl⟩
   ·simp[s3] at hmh
   ·rcases c1 with ⟨rfl,rfl,hm1⟩ | ⟨s1,k1,rfl⟩
    ·subst hm1;simp[Instr.sliceBounds,sb k3 m cap _ (by omega) (by omega),sb k2 h m.toNat _ (by omega) (by omega)]
    ·simp[Instr.sliceBounds,sb k3 m cap _ (by omega) (by omega),sb k2 h m.toNat _ (by omega) (by omega),sb k1 l h.toNat _ b1 (by omega)]
 obtain ⟨m',g1,g2,g3,g4,g5,hsb⟩:=key;have hrun:(Instr.sliceAt t (.slice ad es.length cap) vlo vhi vmx).run P w =
   .ok (.slice (if m'=l.toNat then ad else ad.map (·.add (l.toNat*P.cellsOf e))) (h.toNat-l.toNat) (m'-l.toNat)) w:=by
  simp only[Instr.sliceAt,Instr.slice,Sem.run_bind,run_underlying hu,Result.andThen_ok,hsb,iS hi',Sem.run_pure]
 refine ⟨_,hrun,?_⟩;split at hx
 ·rename_i hc;simp only[u8] at hx;subst hx;have e1:m'=l.toNat:=by rw[g4 hc.1,hc.2]
  have e2:h.toNat-l.toNat=0:=by omega
  rw[if_pos e1,e2,e1,Nat.sub_self];exact ⟨_,by simp[bG,I.isAgg];rfl,by simp only[af];exact ⟨ad,rfl⟩⟩
 ·simp only[u8] at hx;subst hx;have hlen:((es.take h.toNat).drop l.toNat).length=h.toNat-l.toNat:=by simp;omega
  refine sT hlen.symm (by omega) (by omega) ?_ (fun y hy=>hall y (List.mem_of_mem_take (List.mem_of_mem_drop hy)));by_cases hz:h.toNat=l.toNat
  ·left;exact List.eq_nil_of_length_eq_zero (by omega)
  ·right
   rw[if_neg (by omega)];rcases hes with rfl | ⟨b,off,cs,rfl,q1,q2⟩
   ·simp at b4 g3;omega
   ·obtain ⟨c2,q3,q4⟩:=ahK q1 q2 hall l.toNat h.toNat (by omega) (by omega);exact ⟨b,off+l.toNat*sz,c2,by simp[mK,hsz],q3,q4⟩
theorem wy{t e:TypeId}{y:Operand}{y':aH}{lo hi mx:Option Operand}{lo' hi' mx':Option aH}{i:TypeInfo}{es:List I}(ho:o.op=.slice t y lo hi mx)(hu:c.P.underlying t=some (.slice e))(hi0:c.P.info? e=some i)
  (hy:bC c.P 0 y=some y') (h1:iy c.P lo=some lo') (h2:iy c.P hi=some hi') (h3:iy c.P mx=some mx') (hmh:mx'.isSome=true→hi'.isSome=true)
  (h:ab A y'=.slice (c.P.cellsOf e) es∨(ab A y'=.nils (c.P.cellsOf e)∧es=[])∨(ab A y'=.c0 (c.P.cellsOf e)∧es=[])) (hx:jH (c.P.cellsOf e) es (lo'.map (ab A)) (hi'.map (ab A)) (mx'.map (ab A))=some x):dF c A o x :=
 .same fun a w D E hs=>by
  have opt:∀ {q:Option Operand} {q':Option aH},iy c.P q=some q'→il w D E (q'.map (ab A)) (q.map a.eval):=by
   intro q q' hq;cases q with
   |none=>simp only[iy,u8] at hq;subst hq;simp[il]
   |some z =>
    simp only[iy,zz0] at hq;obtain ⟨z',hz,rfl⟩:=hq;simpa[il] using ca hs hz
  have h0:=ca hs hy;have hmh':(mx'.map (ab A)).isSome=true→(hi'.map (ab A)).isSome=true:=by simpa using hmh
  rcases h with h | ⟨h,rfl⟩ | ⟨h,rfl⟩
  ·rw[h] at h0;obtain ⟨ad,cap,e1,e2,e3,e4,e5⟩:=nt h0;obtain ⟨v,k1,k2⟩:=yd hu hi0 rfl hmh' (opt h1) (opt h2) (opt h3) hx e2 e3 e4 e5;exact ⟨v,by simp only[execOp,ho,e1,Sem.run_bind,k1];rfl,k2⟩
  ·rw[h] at h0;obtain ⟨cs,q1,q2⟩:=h0;simp only[af] at q2;have e1:a.eval y=.slice none ([]:List I).length 0:=by simpa[bG,I.isAgg,q2] using q1.symm
   obtain ⟨v,k1,k2⟩:=yd (ad:=none) (cap:=0) hu hi0 rfl hmh' (opt h1) (opt h2) (opt h3) hx (by simp) (by simp[maxLen]) (.inl rfl) (by simp);exact ⟨v,by simp only[execOp,ho,e1,Sem.run_bind,k1];rfl,k2⟩
  ·rw[h] at h0;obtain ⟨cs,q1,q2⟩:=h0;simp only[af] at q2;obtain ⟨ad,q2⟩:=q2;have e1:a.eval y=.slice ad ([]:List I).length 0:=by simpa[bG,I.isAgg,q2] using q1.symm
   obtain ⟨v,k1,k2⟩:=yd (ad:=ad) (cap:=0) hu hi0 rfl hmh' (opt h1) (opt h2) (opt h3) hx (by simp) (by simp[maxLen]) (.inl rfl) (by simp);exact ⟨v,by simp only[execOp,ho,e1,Sem.run_bind,k1];rfl,k2⟩
end
inductive fE {α β:Type} (R:α→β→Prop):List α→List β→Prop where
 |nil:fE R [] []
 |cons {x:α} {y:β} {xs:List α} {ys:List β} : R x y→fE R xs ys→fE R (x::xs) (y::ys)
section
variable {c:cI} {A:ae} {o:Oper} {x:I}
theorem ahJ{w:World}{D:aL}{E:aT}{xs:List I}{cs ds:List Value}{i:Nat}{x y:I}(h:aG w D E xs cs)(hx:xs[i]?=some x)(hy:af w D E y ds)(hs:y.size=x.size) :
  I.sizes (xs.take i)+ds.length≤cs.length∧aG w D E (xs.set i y) (cs.take (I.sizes (xs.take i))++ds++cs.drop (I.sizes (xs.take i)+ds.length)):=by
 obtain ⟨c1,c2,c3,rfl,h1,h2,h3,h4⟩:=mu xs cs i x h hx;have hi:i<xs.length:=(zy4.1 hx).1;have hl:ds.length=c2.length:=by rw[af.length _ _ hy,af.length _ _ h3,hs]
 refine ⟨by simp only[zz5,h1];omega,?_⟩;have e1:xs.set i y=xs.take i++y::xs.drop (i+1):=by rw[List.set_eq_take_append_cons_drop];simp[hi]
 have e2:(c1++c2++c3).take (I.sizes (xs.take i))++ds++(c1++c2++c3).drop (I.sizes (xs.take i)+ds.length)=c1++(ds++c3):=by
  rw[←h1,hl,zz3 c1 c2 c3,List.take_left,List.drop_length_add_append,List.drop_left,zz3]
 rw[e1,e2];refine j9 _ _ _ _ h2 ?_;simp only[aG];exact ⟨ds,c3,rfl,hy,h4⟩
theorem Yo(off:Nat)(l:List Value)(cs:Array Value)(h:off+l.length≤cs.size) :
  ((l.zipIdx 0).foldl (fun cs (x:Value×Nat)=>cs.setIfInBounds (off+x.2) x.1) cs).toList=cs.toList.take off++l++cs.toList.drop (off+l.length):=by
 obtain ⟨h1,h2⟩:=Great.foldl_set off l 0 cs;apply List.ext_getElem?;intro k;rw[zv0,h2 k];simp only[Nat.add_zero,zz3];by_cases hk:k<off
 ·rw[if_neg (by omega),zx1 (by simp;omega)];simp[hk]
 ·rw[zx9 (by simp;omega)];simp only[zx3,zw8,Nat.min_eq_left (show off≤cs.size by omega)];by_cases hk2:k<off+l.length
  ·rw[if_pos ⟨by omega,by omega,by omega⟩,zx1 (by omega)]
  ·rw[if_neg (by omega),zx9 (by omega)];simp only[List.getElem?_drop,zv0]
   congr 1
   omega
theorem vf{w:World}{D:aL}{E:aT}(pl:Nat→Option (Nat×Nat)):∀ (ps:List (Nat×I)) (vs:List (Nat×Value)) (zs zs':List I) (cells:Array Value),
  (∀ i z,zs[i]?=some z→pl i=some (I.sizes (zs.take i),z.size))→aG w D E zs cells.toList→dR zs ps=some zs' →
  fE (fun (p:Nat×I) (v:Nat×Value)=>p.1=v.1∧aS w D E p.2 v.2) ps vs →
  ∃ cells',Instr.fill pl cells vs=some cells'∧aG w D E zs' cells'.toList
 | [],vs,zs,zs',cells,hp,hr,hs,hf=>by
  cases hf;simp only[dR,u8] at hs;subst hs;exact ⟨cells,rfl,hr⟩
 |(i,y)::ps,vs,zs,zs',cells,hp,hr,hs,hf=>by
  cases hf with
  |cons h1 h2 =>
   rename_i v vs;obtain ⟨j,ao⟩:=v;simp only at h1;obtain ⟨rfl,hv⟩:=h1;simp only[dR] at hs;split at hs
   ·rename_i z hz;split at hs
    ·rename_i hsz;obtain ⟨hval,hsz⟩:=hsz;obtain ⟨ds,k1,k2⟩:∃ ds,bG y ao ds∧af w D E y ds:=by
      cases y <;>simp[I.cd] at hval <;>exact hv
     have hcells:=k1.cells k2;have hds:ao.cells.size=z.size:=by rw[←zw8,hcells,af.length _ _ k2,hsz]
     obtain ⟨k3,k4⟩:=ahJ hr hz k2 hsz;have hcl:cells.toList.length=cells.size:=zw8;have hl:ds.length=ao.cells.size:=by rw[←hcells,zw8]
     have hp':∀ k z',(zs.set i y)[k]?=some z'→pl k=some (I.sizes ((zs.set i y).take k),z'.size):=by
      intro k z' hk;have hil:i<zs.length:=(zy4.1 hz).1;have hsizes:∀ k,I.sizes ((zs.set i y).take k)=I.sizes (zs.take k):=by
       intro k;have gen:∀ (zs:List I) (i k:Nat) (z:I),zs[i]?=some z→z.size=y.size→I.sizes ((zs.set i y).take k)=I.sizes (zs.take k):=by
        intro zs
        induction zs with
        |nil=>intro i k z hz _;simp at hz
        |cons q qs ih =>
         intro i k z hz he;cases k with
         |zero=>simp
         |succ k =>
          cases i with
          |zero =>
           simp only[List.getElem?_cons_zero,u8] at hz;subst hz;simp[I.sizes,he]
          |succ i =>
           simp only[List.set_cons_succ,List.take_succ_cons,I.sizes,ih i k z (by simpa using hz) he]
       exact gen zs i k z hz hsz.symm
      rw[hsizes];rw[List.getElem?_set] at hk;split at hk
      ·rename_i hik;subst hik;simp only[u8] at hk;subst hk;rw[hp i z hz,hsz]
      ·exact hp k z' hk
     have hfold:=Yo (I.sizes (zs.take i)) ao.cells.toList cells (by rw[hcells];omega);rw[hcells] at hfold;obtain ⟨cells',k5,k6⟩:=vf pl ps vs (zs.set i y) zs' ((ao.cells.toList.zipIdx 0).foldl (fun cs (x:Value×Nat)=>cs.setIfInBounds (I.sizes (zs.take i)+x.2) x.1) cells) hp'
      (by rw[hcells,hfold];exact k4) hs h2
     refine ⟨cells',?_,k6⟩;unfold Instr.fill;simp only[hp i z hz];rw[if_neg (by simp[hds];omega)];rw[←k5]
     congr 1
     rw[←Array.foldl_toList,Array.toList_zipIdx]
    ·cases hs
   ·cases hs
theorem KJ{a:Act}{w:World}{D:aL}{E:aT}(hs:aP c A a w D E){P:Program} : ∀ (ps:List (Nat×Operand)) (qs:List (Nat×aH)),jP P ps=some qs →
  fE (fun (p:Nat×I) (v:Nat×Value)=>p.1=v.1∧aS w D E p.2 v.2) (qs.map fun p=>(p.1,ab A p.2)) (ps.map fun p=>(p.1,a.eval p.2))
 | [],qs,h=>by simp[jP] at h;subst h;exact .nil
 |(i,x)::ps,qs,h=>by
  simp only[jP,List.mapM_cons,Option.bind_eq_bind,Option.pure_def,Option.bind_eq_some_iff,zz0,u8] at h;obtain ⟨_,⟨y,hy,rfl⟩,qs',hq,rfl⟩:=h;exact .cons ⟨rfl,ca hs hy⟩ (KJ hs ps qs' hq)
theorem Jc{t:TypeId}{parts:Array (Nat×Operand)}{ps:List (Nat×aH)}{zs zs':List I}(ho:o.op=.build t parts)(hz:fM c.P t=some (.agg zs))(hp:jP c.P parts.toList=some ps)
  (hpl:(∃ fs,c.P.underlying t=some (.struct fs)∧(fs.toList.map fun f=>(f.offset,c.P.cellsOf f.type))=lF 0 zs∧(fs.all fun f=>(c.P.info? f.type).isSome)=true) ∨
   (∃ n e,c.P.underlying t=some (.array n e)∧zs.length=n∧(zs.all fun z=>z.size==c.P.cellsOf e)=true∧(c.P.info? e).isSome=true))
  (h:dR zs (ps.map fun p=>(p.1,ab A p.2))=some zs'):dF c A o (.agg zs') :=
 .same fun a w D E hs=>by
  obtain ⟨i,z,hi,hzv,hzr⟩:=lO hz;have hzr:=hzr w D E;simp only[af] at hzr;have hparts:=KJ hs parts.toList ps hp;have hmap:(parts.map fun (q:Nat×Operand)=>(q.1,a.eval q.2)).toList=parts.toList.map fun p=>(p.1,a.eval p.2):=by simp
  rcases hpl with ⟨fs,hu,hoffs,hinfo⟩ | ⟨n,e,hu,hn,hev,hinfo⟩
  ·have hpl:∀ i z,zs[i]?=some z→(lF 0 zs)[i]?=some (I.sizes (zs.take i),z.size):=by
    intro i z hiz;rw[KO,hiz];simp
   obtain ⟨cells',k1,k2⟩:=vf ((lF 0 zs)[·]?) _ _ zs zs' z.cells hpl hzr h hparts;have hm:fs.toList.mapM (fun f=>(c.P.info? f.type).map fun i=>(f.offset,i.size))=some (lF 0 zs):=by
    rw[←hoffs];have hall:∀ f∈fs.toList,(c.P.info? f.type).isSome=true:=fun f hf=>by
     have:=(Array.all_eq_true_iff_forall_mem.1 hinfo) f (by simpa using hf);exact this
    revert hall;generalize fs.toList=l;intro hall
    induction l with
    |nil=>rfl
    |cons f l ih =>
     obtain ⟨j,hj⟩:=zw0.1 (hall f (by simp));simp only[List.mapM_cons,Option.bind_eq_bind,hj,zy3,Option.bind_some,ih (fun g hg=>hall g (by simp[hg])),Option.pure_def,zz9,Program.cellsOf,Option.getD_some]
   have hb:c.P.built t (parts.map fun (q:Nat×Operand)=>(q.1,a.eval q.2)).toList=some cells':=by
    unfold Program.built;simp only[hi,hu,hzv,hm];rw[hmap,←k1]
    congr 1
    funext k
    simp
   exact ⟨.agg cells',by simp only[execOp,ho,Sem.run_bind,run_build w t _ _ hb];rfl,by have:=JX k2;simpa using this⟩
  ·obtain ⟨ie,hie⟩:=zw0.1 hinfo;have hev':∀ z∈zs,z.size=ie.size:=fun z hz=>by
    have:=zy2.1 hev z hz;simpa[Program.cellsOf,hie] using this
   have hpl:∀ i z,zs[i]?=some z→(fun i=>some (i*ie.size,ie.size)) i=some (I.sizes (zs.take i),z.size):=by
    intro i z hiz;have hl:i<zs.length:=(zy4.1 hiz).1;rw[oo zs i hev' (by omega),hev' z (List.mem_of_getElem? hiz)]
   obtain ⟨cells',k1,k2⟩:=vf (fun i=>some (i*ie.size,ie.size)) _ _ zs zs' z.cells hpl hzr h hparts;have hb:c.P.built t (parts.map fun (q:Nat×Operand)=>(q.1,a.eval q.2)).toList=some cells':=by
    unfold Program.built;simp only[hi,hu,hzv,hie];rw[hmap,←k1]
   exact ⟨.agg cells',by simp only[execOp,ho,Sem.run_bind,run_build w t _ _ hb];rfl,by have:=JX k2;simpa using this⟩
theorem oJ{a:Act}{w:World}{D:aL}{E:aT}(hs:aP c A a w D E){P:Program} : ∀ (xs:List Operand) (ts:List TypeId) (ys:List aH),lV P xs ts=some ys →
  fE (aS w D E) (ys.map (ab A)) (xs.map a.eval)
 | [],_,ys,h=>by simp[lV] at h;subst h;exact .nil
 |x::xs,ts,ys,h=>by
  simp only[lV] at h;split at h
  ·rename_i y ys' h1 h2;simp only[u8] at h;subst h;exact .cons (ca hs h1) (oJ hs xs _ ys' h2)
  ·cases h
theorem lL{w:World}{D:aL}{E:aT} : ∀ (xs:List I) (vs:List Value),fE (aS w D E) xs vs→(∀ x∈xs,x.cd=true)→aE w D E xs vs
 | [],vs,h,_=>by cases h;simp[aE]
 |x::xs,vs,h,hv=>by
  cases h with
  |cons h1 h2 =>
   rename_i v vs;have hx:=hv x (by simp);obtain ⟨cs,k1,k2⟩:∃ cs,bG x v cs∧af w D E x cs:=by
    cases x <;>simp[I.cd] at hx <;>exact h1
   simp only[aE];exact ⟨v,vs,cs,rfl,k1,k2,lL xs vs h2 (fun y hy=>hv y (by simp[hy]))⟩
theorem oX{aB:Bool}{B:ae} : ∀ {xs ys:List I},bX aB B xs=some ys→∀ x∈xs,x.cd=true
 | [],ys,_,x,hx=>by simp at hx
 |y::xs,ys,h,x,hx=>by
  simp only[bX] at h;split at h
  ·rename_i z zs h1 h2;rcases zw9.1 hx with rfl | hx
   ·cases x <;>simp_all[bg,I.cd]
   ·exact oX h2 x hx
  ·cases h
theorem aeG{f:FuncId}{caps:Array Operand}{ys:List aH}(ho:o.op=.makeFunc (.func f) #[] caps)(hc:lV c.P caps.toList []=some ys)(hv:∀ y∈ys,(ab A y).cd=true):dF c A o (.func f (ys.map (ab A))) :=
 .same fun a w D E hs=>by
  have h:=lL _ _ (oJ hs caps.toList [] ys hc) (by simpa using hv);have e:caps.map a.eval=(caps.toList.map a.eval).toArray:=by apply Array.ext';simp
  refine ⟨.func (.func f) #[] (caps.toList.map a.eval).toArray,by simp[execOp,ho,Instr.makeFunc,e],⟨_,by simp[bG,I.isAgg];rfl,?_⟩⟩;simp only[af];exact ⟨_,rfl,h⟩
theorem yh{w:World}{D:aL}{E:aT} : ∀ (xs:List I) (vs:List Value),aE w D E xs vs→aG w D E xs (vs.flatMap fun v=>v.cells.toList)∧vs.length=xs.length∧∀ (sz:Nat),(∀ x∈xs,x.size=sz)→∀ v∈vs,v.cells.size=sz
 | [],vs,h=>by simp only[aE] at h;subst h;simp[aG]
 |x::xs,vs,h=>by
  simp only[aE] at h;obtain ⟨v,rest,cs,rfl,h1,h2,h3⟩:=h;obtain ⟨k1,k2,k3⟩:=yh xs rest h3;have hc:=h1.cells h2;refine ⟨?_,by simp[k2],fun sz hsz ao hu =>?_⟩
  ·simp only[List.flatMap_cons,aG];exact ⟨_,_,rfl,by rw[hc];exact h2,k1⟩
  ·rcases zw9.1 hu with rfl | hu
   ·rw[←zw8,hc,af.length _ _ h2,hsz x (by simp)]
   ·exact k3 sz (fun y hy=>hsz y (by simp[hy])) ao hu
def oe(A:ae)(D:aL)(E:aT):aL:=fun b o=>D b o∨∃ n T sz es cap,A.o n=some (.bT T sz es)∧E n=some (.rw (some (b,cap)) es.length)∧o<es.length*sz
theorem aP.nv{a:Act}{w:World}{D:aL}{E:aT}(h:aP c A a w D E):aP c A a w (oe A D E) E∧gV false A D E (oe A D E):=by
 have hblk:∀ {n T sz es b cap},A.o n=some (.bT T sz es)→E n=some (.rw (some (b,cap)) es.length)→c.eU b∧b<w.heap.size:=by
  intro n T sz es b cap hn av;obtain ⟨aD,k1,k2,k3⟩:=h.bT hn;rw[av] at k1;simp only[u8,bS.rw.injEq,and_true] at k1;subst k1;obtain ⟨cs,pre,rest,k4,k5,_⟩:=k3;exact ⟨k4,fH k5⟩
 refine ⟨h.NW (fun _ _ hd=>.inl hd) ?_ ?_ ?_ ?_ ?_ ?_,⟨fun _ _ hd=>.inl hd,fun n T sz es b cap hn av o ho=>.inr ⟨n,T,sz,es,cap,hn,av,ho⟩,(fun hb=>by cases hb),fun hb=>by cases hb⟩⟩
 ·rintro b o (hd | ⟨n,T,sz,es,cap,hn,av,ho⟩) hlt
  ·exact h.cV _ _ hd hlt
  ·exact absurd (hblk hn av).1 hlt
 ·rintro b o (hd | ⟨n,T,sz,es,cap,hn,av,ho⟩)
  ·exact h.c9 _ _ hd
  ·exact (hblk hn av).2
 ·rintro m x b hm hEm o (hd | ⟨n,T,sz,es,cap,hn,av,ho⟩)
  ·obtain ⟨b2,cs2,T2,q1,q2,q3,q4,q5⟩:=h.box hm;rw[q1] at hEm;simp only[u8,bS.aB.injEq,and_true] at hEm;subst hEm;exact q5 o hd
  ·have:=h.cM m n _ _ b hEm av rfl rfl;subst this;rw[hm] at hn;cases hn
 ·rintro m T' sz' es' b cap' hm hEm o (hd | ⟨n,T,sz,es,cap,hn,av,ho⟩)
  ·obtain ⟨aD,q1,q2,q3⟩:=h.bT hm;rw[hEm] at q1;simp only[u8,bS.rw.injEq,and_true] at q1;subst q1;obtain ⟨cs',pre',rest',q4,q5,q6,q7,q8,q9,q10,q11⟩:=q3;have:=q11 o hd
   rwa [aG.length _ _ q7,I.gR _ q2] at this
  ·have:=h.cM m n _ _ b hEm av rfl rfl;subst this;rw[hm] at hn;simp only[u8,ah.bT.injEq] at hn;obtain ⟨rfl,rfl,rfl⟩:=hn;exact ho
 ·rintro m T' xs b cap' hm hEm o (hd | ⟨n,T,sz,es,cap,hn,av,ho⟩)
  ·obtain ⟨aD,q1,_,q3⟩:=h.q0 hm;rw[hEm] at q1;simp only[u8,bS.rw.injEq,and_true] at q1;subst q1;obtain ⟨_,_,_,_,_,_,_,_,q4⟩:=q3;exact q4 o hd
  ·have:=h.cM m n _ _ b hEm av rfl rfl;subst this;rw[hm] at hn;cases hn
 ·rintro m e' b hE' hoth hblk o (hd | ⟨n,T,sz,es,cap,hn,av,ho⟩)
  ·exact h.xO hE' hoth hblk o hd
  ·have:=h.cM m n _ _ b hE' av hblk rfl;subst this;rw[hE'] at av;cases av;cases hoth
theorem xP{a:Act}{w:World}{D:aL}{E:aT}(hs:aP c A a w D E){P:Program} : ∀ (ps:List (Nat×Operand)) (qs:List (Nat×aH)),jP P ps=some qs →
  fE (aS w D E) ((qs.map (·.2)).map (ab A)) (ps.map fun p=>a.eval p.2)∧qs.map (·.1)=ps.map (·.1)
 | [],qs,h=>by simp[jP] at h;subst h;exact ⟨.nil,rfl⟩
 |(i,x)::ps,qs,h=>by
  simp only[jP,List.mapM_cons,Option.bind_eq_bind,Option.pure_def,Option.bind_eq_some_iff,zz0,u8] at h;obtain ⟨_,⟨y,hy,rfl⟩,qs',hq,rfl⟩:=h;obtain ⟨h1,h2⟩:=xP hs ps qs' hq;exact ⟨.cons (ca hs hy) h1,by simp[h2]⟩
theorem aP.newRow{a:Act}{w:World}{D:aL}{E:aT}(h:aP c A a w D E)(o:Obj):aP c A a (w.alloc o) (fun b k=>D b k∨b=w.heap.size) E:=by
 refine h.grow (rL w o) (fun _ _ hd=>.inl hd) ?_ ?_
 ·rintro b k (hd | rfl) hlt
  ·exact hd
  ·omega
 ·rintro b k (hd | rfl)
  ·have:=h.c9 _ _ hd;simp;omega
  ·simp
theorem N4{α:Type}(ps:List (Nat×α))(h:ps.map (·.1)=List.range ps.length):ps=((ps.map (·.2)).zipIdx 0).map fun x=>(x.2,x.1):=by
 apply List.ext_getElem?;intro k;rw[zx7,List.getElem?_zipIdx,zx7];cases hk:ps[k]? with
 |none=>simp
 |some p =>
  have hl:k<ps.length:=(zy4.1 hk).1;have:=congrArg (·[k]?) h;simp only[zx7,hk,zy3,List.getElem?_range hl,u8] at this;simp[←this]
theorem aeo{t e:TypeId}{len:Nat}{parts:Array (Nat×Operand)}{ps:List (Nat×aH)}{es:List I}(ho:o.op=.buildSlice t len parts)(hu:c.P.underlying t=some (.slice e))(hp:jP c.P parts.toList=some ps)
  (hr:ps.map (·.1)=List.range len) (h0:0<c.P.cellsOf e) (hlen:0<len) (hsm:len*c.P.cellsOf e≤16777216) (hz:((c.P.info? e).bind (·.zero)).isSome=true)
  (hes:bX false A ((ps.map (·.2)).map (ab A))=some es) (hev:∀ x∈es,x.size=c.P.cellsOf e) (hcl:I.bW es=true):dF c A o (.slice (c.P.cellsOf e) es):=by
 intro a w D E hs;obtain ⟨hfor,hidx⟩:=xP hs parts.toList ps hp;obtain ⟨hs1,hw⟩:=hs.nv;have hrv:=lq (E':=E) hs (fun _ _ h=>h) hw _ es _ (lL _ _ hfor (oX hes)) hes;obtain ⟨k1,k2,k3⟩:=yh es _ hrv;have k3:=k3 _ hev;have hl:parts.toList.length=len:=by
  have:=congrArg List.length hidx;rw[hr] at this;simpa using this.symm
 have hesl:es.length=len:=by rw[←k2];simp[hl]
 obtain ⟨z,hz⟩:=zw0.1 hz;obtain ⟨ie,hie,hzz⟩:=Option.bind_eq_some_iff.1 hz;have hsz:ie.size=c.P.cellsOf e:=by simp[Program.cellsOf,hie]
 -- the literal's cells
 have hfill:Instr.fill (fun i=>some (i*ie.size,ie.size)) ((Array.range (len*ie.size)).map (z.cells[· % z.cells.size]!)) (parts.map fun (q:Nat×Operand)=>(q.1,a.eval q.2)).toList =
   some ((parts.toList.map fun p=>a.eval p.2).flatMap fun v=>v.cells.toList).toArray:=by
  have hpz:(parts.map fun (q:Nat×Operand)=>(q.1,a.eval q.2)).toList=((parts.toList.map fun p=>a.eval p.2).zipIdx 0).map fun x=>(x.2,x.1):=by
   have:=N4 (parts.toList.map fun (q:Nat×Operand)=>(q.1,a.eval q.2)) (by simp only[List.map_map,zy1];rw[hl,←hr,hidx];rfl);rw[Array.toList_map,this,List.map_map];rfl
  rw[hpz,hsz];exact Great.fill_whole h0 _ _ (fun v hv=>k3 v hv) (by simp[hl])
 have hrun:=run_buildSlice (P:=c.P) w t e len (parts.map fun (q:Nat×Operand)=>(q.1,a.eval q.2)) _ ie z hu hie hzz (by rw[hsz];omega) (by rw[hsz];exact Nat.ne_of_gt (Nat.mul_pos hlen h0)) hfill;generalize hcells:((parts.toList.map fun p=>a.eval p.2).flatMap fun v=>v.cells.toList)=cells at *;have hs2:=hs1.newRow (.cells cells.toArray e);refine ⟨_,_,_,by simp only[execOp,ho,Sem.run_bind];rw[hrun];rfl,hs2,sT hesl.symm (zz6 _) ?_ (.inr ⟨w.heap.size,0,cells,rfl,?_,?_⟩) hev⟩
 ·unfold maxLen;have:len≤len*c.P.cellsOf e:=Nat.le_mul_of_pos_right _ h0;omega
 ·intro j v hj;refine ⟨?_,.inr rfl⟩;rw[zz4];have:=World.cell?_alloc_new w cells.toArray e j;rw[this];simpa using hj
 ·refine aG.bE ?_ es cells k1;exact dG.grow (rL w _) (fun _ _ hd=>.inl hd)
end
mutual
theorem oT:∀ (ty:cH) (x y:I) (r:Bool),cg ty x y=some r→x.size=ty.size∧y.size=ty.size
 | .i k,x,y,r,h=>by
  simp only[cg] at h;split at h
  ·simp[I.size,cH.size]
  ·cases h
 | .b,x,y,r,h=>by
  simp only[cg] at h;split at h
  ·simp[I.size,cH.size]
  ·cases h
 | .s,x,y,r,h=>by
  simp only[cg] at h;split at h
  ·simp[I.size,cH.size]
  ·cases h
 | .bB l,x,y,r,h=>by
  simp only[cg] at h;split at h
  ·simp only[I.size,cH.size];exact Cw l _ _ r h
  ·cases h
 | .kh n e,x,y,r,h=>by
  simp only[cg] at h;split at h
  ·rename_i fs gs;split at h
   ·rename_i hl;simp only[I.size,cH.size];have:∀ (fs gs:List I) (r:Bool),fs.length=gs.length→(fs.zip gs).foldr (fun p acc=>gW (cg e p.1 p.2) acc) (some true)=some r→I.sizes fs=fs.length*e.size∧I.sizes gs=fs.length*e.size:=by
     intro fs
     induction fs with
     |nil=>intro gs r hl _;cases gs with | nil=>simp[I.sizes] | cons _ _=>simp at hl
     |cons f fs ih =>
      intro gs r hl h;cases gs with
      |nil=>simp at hl
      |cons g gs =>
       simp only[List.zip_cons_cons,List.foldr_cons] at h;unfold gW at h;split at h
       ·rename_i a b h1 h2;obtain ⟨k1,k2⟩:=ih gs b (by simpa using hl) h2;obtain ⟨k3,k4⟩:=oT e f g a h1;simp only[I.sizes,zv5,k1,k2,k3,k4,zv8,Nat.one_mul];omega
       ·cases h
    obtain ⟨k1,k2⟩:=this fs gs r (by omega) h;rw[k1,k2,hl.1];exact ⟨rfl,rfl⟩
   ·cases h
  ·cases h
theorem Cw:∀ (l:List cH) (xs ys:List I) (r:Bool),iB l xs ys=some r→I.sizes xs=cH.sizes l∧I.sizes ys=cH.sizes l
 | [],xs,ys,r,h=>by
  simp only[iB] at h;split at h
  ·simp[I.sizes,cH.sizes]
  ·cases h
 |t::ts,xs,ys,r,h=>by
  simp only[iB] at h;split at h
  ·rename_i f fs g gs;unfold gW at h;split at h
   ·rename_i a b h1 h2;obtain ⟨k1,k2⟩:=oT t f g a h1;obtain ⟨k3,k4⟩:=Cw ts fs gs b h2;simp only[I.sizes,cH.sizes,k1,k2,k3,k4];exact ⟨trivial,trivial⟩
   ·cases h
  ·cases h
end
section
variable {P:Program} {w:World} {D:aL} {E:aT}
theorem uY{d:Nat}{t:TypeId}{ty:cH}(h:gi P d t=some ty)(hs:ty.size=P.cellsOf t){x y:I}{r:Bool}(hr:cg ty x y=some r):∃ s,fB P t=some s∧bV s x=true∧bV s y=true:=by
 have hsz:=oT ty x y r hr;cases d with
 |zero=>simp[gi] at h
 |succ d =>
  simp only[gi] at h;split at h
  ·rename_i k hu;simp only[u8] at h;subst h;simp only[cg] at hr;split at hr
   ·exact ⟨none,by simp[fB,hu],by simp[bV,I.isAgg],by simp[bV,I.isAgg]⟩
   ·cases hr
  ·rename_i hu;simp only[u8] at h;subst h;simp only[cg] at hr;split at hr
   ·exact ⟨none,by simp[fB,hu],by simp[bV,I.isAgg],by simp[bV,I.isAgg]⟩
   ·cases hr
  ·rename_i hu;simp only[u8] at h;subst h;simp only[cg] at hr;split at hr
   ·exact ⟨none,by simp[fB,hu],by simp[bV,I.isAgg],by simp[bV,I.isAgg]⟩
   ·cases hr
  ·rename_i fs hu;split at h
   ·simp only[zz0] at h;obtain ⟨l,_,rfl⟩:=h;simp only[cg] at hr;split at hr
    ·exact ⟨some (P.cellsOf t),by simp[fB,hu],by simp[bV,I.isAgg,hsz.1,hs],by simp[bV,I.isAgg,hsz.2,hs]⟩
    ·cases hr
   ·cases h
  ·rename_i n e hu;split at h
   ·split at h
    ·simp only[u8] at h;subst h;simp only[cg] at hr;split at hr
     ·exact ⟨some (P.cellsOf t),by simp[fB,hu],by simp[bV,I.isAgg,hsz.1,hs],by simp[bV,I.isAgg,hsz.2,hs]⟩
     ·cases hr
    ·cases h
   ·cases h
  ·cases h
theorem Cy{k:Nat}{g:Field→Option cH}(hg:∀ (f:Field) (ty:cH),g f=some ty→ty.size=P.cellsOf f.type∧∃ d,gi P d f.type=some ty ∧
   ∀ (x y:I) (ao v:Value) (r:Bool),aS w D E x ao→aS w D E y v→cg ty x y=some r→(Op.equalIn k f.type ao v).run P w=.ok r w) :
  ∀ (fs : List Field) (l : List cH) (xs ys : List I) (r : Bool) (c1 c2 d1 d2 : List Value), fs.mapM g = some l → (∀ f ∈ fs, f.name ≠ "_") → pz P c1.length fs = true → c1.length = d1.length →
   aG w D E xs c2→aG w D E ys d2→iB l xs ys=some r→(Op.eqFields k (c1++c2).toArray (d1++d2).toArray fs).run P w=.ok r w
 | [],l,xs,ys,r,c1,c2,d1,d2,hm,_,_,_,_,_,h=>by
  simp at hm;subst hm;simp only[iB] at h;split at h
  ·simp only[u8] at h;subst h;simp[Op.eqFields]
  ·cases h
 |f::fs,l,xs,ys,r,c1,c2,d1,d2,hm,hn,ho,hl,hx,hy,h=>by
  simp only[List.mapM_cons,Option.bind_eq_bind,Option.pure_def,Option.bind_eq_some_iff,u8] at hm;obtain ⟨ty,hty,tys,htys,rfl⟩:=hm;simp only[iB] at h;split at h
  case h_2=>cases h
  rename_i x xs y ys;unfold gW at h;split at h
  case h_2=>cases h
  rename_i ra rb h1 h2;simp only[u8] at h;subst h;simp only[aG] at hx hy;obtain ⟨e1,e2,rfl,k1,k2⟩:=hx;obtain ⟨f1,f2,rfl,k3,k4⟩:=hy;obtain ⟨hsz,dd,hd,heq⟩:=hg f ty hty;obtain ⟨s,q1,q2,q3⟩:=uY hd hsz h1;obtain ⟨ao,p1,p2⟩:=og (c1:=c1) (c3:=e2) q1 q2 k1;obtain ⟨v,p3,p4⟩:=og (c1:=d1) (c3:=f2) q1 q3 k3;simp only[pz,zz2,beq_iff_eq] at ho;have hsx:=oT ty x y ra h1;have hle:e1.length=P.cellsOf f.type:=by rw[af.length _ _ k1,hsx.1,hsz]
  have hlf:f1.length=P.cellsOf f.type:=by rw[af.length _ _ k3,hsx.2,hsz]
  have ih:=Cy hg fs tys xs ys rb (c1++e1) e2 (d1++f1) f2 htys (fun g hg=>hn g (by simp[hg])) (by simp only[zz5,hle];exact ho.2) (by simp[hl,hle,hlf]) k2 k4 h2;rw[zz3] at p1 p3;rw[zz3,zz3] at ih;rw[←ho.1] at p1;rw[←hl,←ho.1] at p3;simp only[Op.eqFields,hn f (by simp),ne_eq,not_false_eq_true,if_true,Sem.run_bind,p1,Result.andThen_ok,p3,heq x y ao v ra p2 p4 h1];cases ra
  ·simp
  ·simpa using ih
theorem Cz{d:Nat}{e:TypeId}{ty:cH}{dd:Nat}(hty:gi P dd e=some ty)(hsz:ty.size=P.cellsOf e)
  (heq:∀ (x y:I) (ao v:Value) (r:Bool),aS w D E x ao→aS w D E y v→cg ty x y=some r→(Op.equalIn d e ao v).run P w=.ok r w) :
  ∀ (m k:Nat) (xs ys:List I) (c1 c2 d1 d2:List Value) (r:Bool),xs.length=m→ys.length=m→c1.length=k*P.cellsOf e→d1.length=k*P.cellsOf e→aG w D E xs c2→aG w D E ys d2 →
   (xs.zip ys).foldr (fun p acc=>gW (cg ty p.1 p.2) acc) (some true)=some r→(Op.eqItems d e (P.cellsOf e) (c1++c2).toArray (d1++d2).toArray (List.range' k m)).run P w=.ok r w
 |0,k,xs,ys,c1,c2,d1,d2,r,hx,hy,_,_,_,_,h=>by
  have e1:=List.eq_nil_of_length_eq_zero hx;subst e1;simp only[List.zip_nil_left,List.foldr_nil,u8] at h;subst h;simp[Op.eqItems]
 |m+1,k,xs,ys,c1,c2,d1,d2,r,hx,hy,hc,hd,hrx,hry,h=>by
  cases xs with
  |nil=>simp at hx
  |cons x xs =>
  cases ys with
  |nil=>simp at hy
  |cons y ys =>
  simp only[List.zip_cons_cons,List.foldr_cons] at h;unfold gW at h;split at h
  case h_2=>cases h
  rename_i ra rb h1 h2;simp only[u8] at h;subst h;simp only[aG] at hrx hry;obtain ⟨e1,e2,rfl,k1,k2⟩:=hrx;obtain ⟨f1,f2,rfl,k3,k4⟩:=hry;obtain ⟨s,q1,q2,q3⟩:=uY hty hsz h1;obtain ⟨ao,p1,p2⟩:=og (c1:=c1) (c3:=e2) q1 q2 k1;obtain ⟨v,p3,p4⟩:=og (c1:=d1) (c3:=f2) q1 q3 k3;have hsx:=oT ty x y ra h1;have hle:e1.length=P.cellsOf e:=by rw[af.length _ _ k1,hsx.1,hsz]
  have hlf:f1.length=P.cellsOf e:=by rw[af.length _ _ k3,hsx.2,hsz]
  have ih:=Cz hty hsz heq m (k+1) xs ys (c1++e1) e2 (d1++f1) f2 rb (by simpa using hx) (by simpa using hy) (by simp only[zz5,hle,hc,zv8,Nat.one_mul]) (by simp only[zz5,hlf,hd,zv8,Nat.one_mul]) k2 k4 h2;rw[zz3] at p1 p3;rw[zz3,zz3] at ih;rw[hc] at p1;rw[hd] at p3;simp only[List.range'_succ,Op.eqItems,Sem.run_bind,p1,Result.andThen_ok,p3,heq x y ao v ra p2 p4 h1];cases ra
  ·simp
  ·simpa using ih
theorem r4:∀ (d:Nat) (t:TypeId) (ty:cH),gi P d t=some ty→∀ (x y:I) (ao v:Value) (r:Bool),aS w D E x ao→aS w D E y v→cg ty x y=some r→∀ dep,d≤dep→(Op.equalIn dep t ao v).run P w=.ok r w
 |0,t,ty,h,_,_,_,_,_,_,_,_,_,_=>by simp[gi] at h
 |d+1,t,ty,h,x,y,ao,v,r,hx,hy,hr,dep,hdep=>by
  obtain ⟨k,rfl⟩:∃ k,dep=k+1:=⟨dep-1,by omega⟩
  simp only[gi] at h;split at h
  ·rename_i kk hu;simp only[u8] at h;subst h;simp only[cg] at hr;split at hr
   ·split at hr
    ·simp only[u8] at hr;subst hr;rw[(ff hx).1,(ff hy).1];rename_i hk;rw[hk.1,hk.2];exact run_equalIn_int w k t kk kk _ _ hu
    ·cases hr
   ·cases hr
  ·rename_i hu;simp only[u8] at h;subst h;simp only[cg] at hr;split at hr
   ·simp only[u8] at hr;subst hr;rw[lK hx,lK hy];exact run_equalIn_bool' w k t _ _ hu
   ·cases hr
  ·rename_i hu;simp only[u8] at h;subst h;simp only[cg] at hr;split at hr
   ·simp only[u8] at hr;subst hr;rw[(nu hx).1,(nu hy).1];exact run_equalIn_string w k t _ _ hu
   ·cases hr
  ·rename_i fs hu;split at h
   ·rename_i hc;simp only[zz0] at h;obtain ⟨l,hl,rfl⟩:=h;simp only[cg] at hr;split at hr
    ·obtain ⟨cs,rfl,h1⟩:=jr hx;obtain ⟨ds,rfl,h2⟩:=jr hy;have hf:P.fieldsOf t=fs:=by simp[Program.fieldsOf,hu]
     rw[run_equalIn_struct w k t _ _ (by rw[hf];exact hu) hc.1,hf];refine Cy (g:=fun f=>match gi P d f.type with | some ty=>if ty.size=P.cellsOf f.type then some ty else none | none=>none) (fun f ty hg =>?_) fs.toList l _ _ r [] cs [] ds hl (fun f hf =>?_) hc.2.2 rfl h1 h2 hr
     ·split at hg
      ·rename_i ty' hty;split at hg
       ·rename_i hs;simp only[u8] at hg;subst hg;exact ⟨hs,d,hty,fun x y ao v r hx hy hr=>r4 d f.type _ hty x y ao v r hx hy hr k (by omega)⟩
       ·cases hg
      ·cases hg
     ·have:=zy2.1 hc.2.1 f hf;simpa using this
    ·cases hr
   ·cases h
  ·rename_i n e hu;split at h
   ·rename_i ty' hty;split at h
    ·rename_i hc;simp only[u8] at h;subst h;simp only[cg] at hr;split at hr
     ·split at hr
      ·rename_i hl;obtain ⟨cs,rfl,h1⟩:=jr hx;obtain ⟨ds,rfl,h2⟩:=jr hy;obtain ⟨i,hi⟩:=zw0.1 hc.2;rw[run_equalIn_array w k _ _ hu hi,List.range_eq_range'];exact Cz hty hc.1 (fun x y ao v r hx hy hr=>r4 d e _ hty x y ao v r hx hy hr k (by omega)) n 0 _ _ [] cs [] ds r hl.1 hl.2 (by simp) (by simp) h1 h2 hr
      ·cases hr
     ·cases hr
    ·cases h
   ·cases h
  ·cases h
end
section
variable {c:cI} {A:ae} {o:Oper} {x:I}
theorem ah9{P:Program}{w:World}{D:aL}{E:aT}(op:BinOp)(t:TypeId)(x y:Operand){a b:I}{ty:cH}{r:Bool}{ao v:Value}(hr:cg ty a b=some r)(hx:aS w D E a ao)(hm:P.eqGuardType P.depth t=false) :
  (eqGuard op t x y ao v).run P w=.ok () w:=by
 have:ao.oneCell'=true∧ao≠.nilIface∨∃ cs,ao=.agg cs:=by
  cases ty <;>simp only[cg] at hr <;>split at hr <;>first
   |(cases hr;done)
   |(left;rw[(ff hx).1];exact ⟨rfl,by simp⟩)
   |(left;rw[lK hx];exact ⟨rfl,by simp⟩)
   |(left;rw[(nu hx).1];exact ⟨rfl,by simp⟩)
   |(right;obtain ⟨cs,h,_⟩:=jr hx;exact ⟨_,h⟩)
 rcases this with ⟨h1,h2⟩ | ⟨cs,rfl⟩
 ·exact yb op t x y h1 h2
 ·cases op <;>cases v <;>simp[eqGuard,run_program,hm]
theorem P9{P:Program}{w:World}{D:aL}{E:aT}{neg:Bool}{t:TypeId}{a b:I}{ty:cH}{r:Bool}{ao v:Value}(hr:cg ty a b=some r)(hx:aS w D E a ao)(hy:aS w D E b v){dt:Nat}(hdt:dt≤10000)(hty:gi P dt t=some ty) :
  (binOp (if neg then .neq else .eql) t ao v).run P w=.ok (.bool (if neg then !r else r)) w:=by
 have he:=r4 (w:=w) (D:=D) (E:=E) dt t ty hty a b ao v r hx hy hr 10000 hdt;cases ty <;>simp only[cg] at hr <;>split at hr <;>first | (cases hr;done) | skip
 ·rw[(ff hx).1,(ff hy).1] at *;split at hr
  ·rename_i hk;simp only[u8] at hr;subst hr;rw[hk.1,hk.2];cases neg <;>simp[binOp,Op.intCmp,bne]
  ·cases hr
 ·have e1:=lK hx;have e2:=lK hy;subst e1 e2;cases neg <;>simp only[binOp,if_true,zz7,if_false] <;>simp[Op.equal,Op.maxDepth,he]
 ·rw[(nu hx).1,(nu hy).1] at *;simp only[u8] at hr;subst hr;cases neg <;>simp[binOp,Op.stringOp]
 ·obtain ⟨cs,rfl,_⟩:=jr hx;obtain ⟨ds,rfl,_⟩:=jr hy;cases neg <;>simp only[if_true,zz7,if_false]
  ·rw[run_eql_struct,he];rfl
  ·rw[run_neq_struct,he];rfl
 ·obtain ⟨cs,rfl,_⟩:=jr hx;obtain ⟨ds,rfl,_⟩:=jr hy;cases neg <;>simp only[if_true,zz7,if_false]
  ·rw[run_eql_struct,he];rfl
  ·rw[run_neq_struct,he];rfl
theorem aet{neg:Bool}{t yt:TypeId}{y z:Operand}{y' z':aH}{ty:cH}{r:Bool}(ho:o.op=.binOp (if neg then .neq else .eql) t y z yt)(hy:bC c.P 0 y=some y')(hz:bC c.P 0 z=some z')(hg:c.P.eqGuardType c.P.depth t=false)
  (hty:gi c.P 12 t=some ty) (h:cg ty (ab A y') (ab A z')=some r):dF c A o (.bool (if neg then !r else r)) :=
 .same fun a w D E hs=>by
  have h1:=ca hs hy;have h2:=ca hs hz;refine ⟨_,?_,nW _⟩;simp only[execOp,ho,Sem.run_bind,ah9 _ t y z h h1 hg,Result.andThen_ok,P9 h h1 h2 (dt:=12) (by omega) hty];rfl
theorem wv{neg:Bool}{t yt e:TypeId}{y z:Operand}{y':aH}{sz:Nat}{r:Bool}(ho:o.op=.binOp (if neg then .neq else .eql) t y z yt)(hu:c.P.underlying t=some (.slice e))(hy:bC c.P 0 y=some y')(hz:bC c.P 0 z=some (.c (.nils sz)))
  (h:(∃ s,ab A y'=.nils s∧r=true)∨(∃ s es,ab A y'=.slice s es∧es≠[]∧r=false)∨(∃ n p s lo k,ab A y'=.view n p s lo k∧r=false)):dF c A o (.bool (if neg then !r else r)) :=
 .same fun a w D E hs=>by
  have h1:=ca hs hy;have h2:aS w D E (.nils sz) (a.eval z):=ca hs hz;have hv:a.eval z=.slice none 0 0:=by
   obtain ⟨cs,q1,q2⟩:=h2;simp only[af] at q2;simpa[bG,I.isAgg,q2] using q1.symm
  have hu':(∃ ad n cp,a.eval y=.slice ad n cp∧r=ad.isNone):=by
   rcases h with ⟨s,h,rfl⟩ | ⟨s,es,h,hne,rfl⟩ | ⟨n,p,s,lo,k,h,rfl⟩
   ·rw[h] at h1;obtain ⟨cs,q1,q2⟩:=h1;simp only[af] at q2;exact ⟨none,0,0,by simpa[bG,I.isAgg,q2] using q1.symm,rfl⟩
   ·rw[h] at h1;obtain ⟨ad,cap,e1,_,_,e4,_⟩:=nt h1;rcases e4 with e4 | ⟨b,off,cs,rfl,_,_⟩
    ·exact absurd e4 hne
    ·exact ⟨_,_,_,e1,rfl⟩
   ·rw[h] at h1;obtain ⟨cs,q1,q2⟩:=h1;simp only[af] at q2;obtain ⟨b,aJ,off,l,_,_,_,q2,_⟩:=q2;exact ⟨_,_,_,by simpa[bG,I.isAgg,q2] using q1.symm,rfl⟩
  obtain ⟨ad,n,cp,hyv,rfl⟩:=hu';have he:∀ d,(Op.equalIn (d+1) t (.slice ad n cp) (.slice none 0 0)).run c.P w=.ok ad.isNone w:=fun d=>by
   cases ad <;>simp[Op.equalIn,run_underlying hu]
  refine ⟨.bool (if neg then !ad.isNone else ad.isNone),?_,nW _⟩;cases neg <;>simp only[execOp,ho,hyv,hv,if_true,zz7,if_false,Sem.run_bind,eqGuard] <;>simp[binOp,Op.equal,Op.maxDepth,he]
end
def gT(c:cI)(A:ae)(o:Oper)(B:ae):Prop :=
 ∀ a w D E,aP c A a w D E→∃ w',((∃ v,(execOp a.eval o).run c.P w=.ok (.value v) w'∧cn c B (a.put o.dst v) w')∨((execOp a.eval o).run c.P w=.ok .skip w'∧cn c B (a.put o.dst undef) w'))
section
variable {c:cI} {A:ae} {o:Oper} {x:I}
theorem dF.does(h:dF c A o x)(hd:∀ k,o.dst=some k→k<c.n):gT c A o (A.aK o.dst x):=by
 intro a w D E hs;obtain ⟨v,w',D',h1,h2,h3⟩:=h a w D E hs;exact ⟨w',.inl ⟨v,h1,D',E,h2.aK hd h3⟩⟩
theorem Xm{t:TypeId}{z:I}{d:Nat}(ho:o.op=.alloc t)(hz:fM c.P t=some z)(hd:o.dst=some d)(hn:d<c.n)(hf:A.o d=none):gT c A o ((A.aN d (.box z)).put d (.ptr d [])):=by
 intro a w D E hs;obtain ⟨i,zv,hi,hzv,hzr⟩:=lO hz;have h1:=hs.qD (T:=t) (.inl hn) hf (hzr w D E);have h2:=h1.put (x:=.ptr d []) (v:=.pointer (some ⟨w.heap.size,0,none⟩)) hn ⟨_,by simp[bG,I.isAgg];rfl,by
  simp only[af,if_true];exact ⟨w.heap.size,z.aJ,0,rfl,by cases z.aJ <;>simp[cJ.off],rfl⟩⟩
 exact ⟨w.alloc (.cells zv.cells t),.inl ⟨.pointer (some ⟨w.heap.size,0,none⟩),by simp[execOp,ho,Instr.alloc,zeroValue,typeInfo,hi,hzv,newVar,newRow],D,_,by rw[hd];exact h2⟩⟩
theorem Xr{t:TypeId}{y:Operand}{y':aH}{d:Nat}(ho:o.op=.box t y)(hy:bC c.P t y=some y')(hv:(ab A y').cd=true)(hd:o.dst=some d)(hn:d<c.n)(hf:A.o d=none) :
  gT c A o ((A.aN d (.box (ab A y'))).put d (.ptr d [])):=by
 intro a w D E hs;obtain ⟨cs,k1,k2⟩:∃ cs,bG (ab A y') (a.eval y) cs∧af w D E (ab A y') cs:=by
  have h:=ca hs hy;generalize ab A y'=z at *;cases z <;>simp[I.cd] at hv <;>exact h
 have hc:=k1.cells k2;rw[←hc] at k2;have h1:=hs.qD (T:=t) (.inl hn) hf k2;have h2:=h1.put (x:=.ptr d []) (v:=.pointer (some ⟨w.heap.size,0,none⟩)) hn ⟨_,by simp[bG,I.isAgg];rfl,by
  simp only[af,if_true];exact ⟨w.heap.size,(ab A y').aJ,0,rfl,by cases (ab A y').aJ <;>simp[cJ.off],rfl⟩⟩
 exact ⟨w.alloc (.cells (a.eval y).cells t),.inl ⟨.pointer (some ⟨w.heap.size,0,none⟩),by simp[execOp,ho,Instr.box,newVar,newRow],D,_,by rw[hd];exact h2⟩⟩
theorem Xy{t:TypeId}{y z:Operand}{y' z':aH}{s:Option Nat}{n:Nat}{p:List Nat}{b old:I}(ho:o.op=.store t y z)(hk:fB c.P t=some s)(hk1:s.isSome=true∨c.P.cellsOf t=1)(hy:bC c.P 0 y=some y')(hz:bC c.P t z=some z')
  (hp:ab A y'=.ptr n p) (hb:A.o n=some (.box b)) (hat:b.at p=some old) (hv:(ab A z').cd=true) (hok:bV s (ab A z')=true) (hsh:(ab A z').aJ=old.aJ) (hd:o.dst=none) :
  gT c A o (A.aN n (.box (b.dx p (ab A z')))):=by
 intro a w D E hs;have h1:=ca hs hy;rw[hp] at h1;obtain ⟨bb,aJ,off,h2,h3,h4⟩:=oh h1;obtain ⟨b',cs,T,k1,k2,k3,k4,k5⟩:=hs.box hb;rw[k1] at h2;simp only[u8,bS.aB.injEq] at h2;obtain ⟨rfl,rfl⟩:=h2;obtain ⟨ds,q1,q2⟩:∃ ds,bG (ab A z') (a.eval z) ds∧af w D E (ab A z') ds:=by
  have h:=ca hs hz;generalize ab A z'=zz at *;cases zz <;>simp[I.cd] at hv <;>exact h
 have hc:=q1.cells q2;obtain ⟨off',p1,p2,p3,p4⟩:=tq p b old _ _ ds k4 hat q2 hsh;rw[h3,u8] at p1;subst p1;have hl:=af.length _ _ q2;obtain ⟨i,hi⟩:=sF hk;have hsz:ds.length=c.P.cellsOf t:=by
  cases s with
  |none =>
   simp only[bV,Bool.not_eq_true'] at hok;have:(ab A z').size=1:=by generalize ab A z'=zz at *;cases zz <;>simp_all[I.isAgg,I.size]
   rw[hl,this];rcases hk1 with h | h
   ·cases h
   ·exact h.symm
  |some m =>
   simp only[bV,zz2,beq_iff_eq] at hok;rw[hl,hok.2,wS hk]
 have hcs:(a.eval z).cells.size=ds.length:=by rw[←hc,zw8]
 have hrun:=run_storeCells_at c.P b' off T ds 0 cs w k3 (by rw[zw8] at p2;omega) (af.mi _ _ q2);simp only[Nat.add_zero] at hrun;have hs2:=hs.Nc (y:=b.dx p (ab A z')) (cs':=(cs.toList.take off++ds++cs.toList.drop (off+ds.length)).toArray) hb k1 p4 (by simpa using p3);refine ⟨w.setRow b' (cs.toList.take off++ds++cs.toList.drop (off+ds.length)).toArray,.inr ⟨?_,D,E,?_⟩⟩
 ·have e:(a.eval z).cells.toList=ds:=hc;have hg:¬ (a.eval z).cells.size≠c.P.cellsOf t:=by rw[hcs,hsz];simp
  simp only[execOp,ho,h4,Instr.storeAt,Instr.sureAddr,storeVar,Sem.run_bind,Sem.run_pure,Result.andThen_ok,iS hi,Sem.run_ite,if_neg hg,e,hrun]
 ·rw[hd];exact hs2
end
section
variable {c:cI} {A:ae} {a:Act} {w:World} {D:aL} {E:aT}
theorem aP.C0(h:aP c A a w D E){n:Nat}{T:TypeId}{sz cap:Nat}{es ys:List I}{pre news rest:List Value}{cs:Array Value}{aD:Option (Nat×Nat)}(hn:A.o n=some (.bT T sz es))(av:E n=some (.rw aD es.length))(hes:aG w D E es pre)
  (hys:aG w D E ys news) (hysz:∀ e∈ys,e.size=sz) (hne:ys≠[]) (hcs:cs.toList=(pre++news)++rest) (hsize:cs.size=cap*sz) (hlen:es.length+ys.length≤cap) (hcap:cap≤maxLen) :
  aP c (A.aN n (.bT T sz (es++ys))) a (w.drew.alloc (.cells cs T)) D (fun m=>if m=n then some (.rw (some (w.heap.size,cap)) (es.length+ys.length)) else E m):=by
 have hlast:0<ys.length:=List.length_pos_iff.2 hne;have hheap:∀ b,b<w.heap.size→(w.drew.alloc (.cells cs T)).heap[b]?=w.heap[b]?:=fun b hb=>Below.heap_alloc w.drew _ b hb;have hl:dG w D E (w.drew.alloc (.cells cs T)) D (fun m=>if m=n then some (.rw (some (w.heap.size,cap)) (es.length+ys.length)) else E m):=by
  have ee:∀ {m:Nat} {e:bS},E m=some e→e.eH=true→(if m=n then some (.rw (some (w.heap.size,cap)) (es.length+ys.length)) else E m)=some e:=fun {m e} he hfx=>by
   have:m≠n:=fun e=>by rw[e,av] at he;cases he;cases hfx
   rw[if_neg this];exact he
  refine ⟨fun _ _ h=>h,fun b o v _ hv =>?_,fun m b aJ he=>ee he rfl,fun m blk' l he =>?_,fun m b he=>ee he rfl,fun m b he=>ee he rfl,fun b es ck _ hm=>(hheap b (fH hm)).trans hm⟩
  ·rw[World.cell?_of_block (hheap b (World.block_lt_of_cell? w _ hv))];exact hv
  ·by_cases hm:m=n
   ·subst hm;rw[av] at he;simp only[u8,bS.rw.injEq] at he;exact ⟨_,_,if_pos rfl,by omega,fun e=>by omega⟩
   ·exact ⟨blk',l,by simp only[if_neg hm];exact he,zz6 _,fun _=>rfl⟩
 have hown:=h.bU n;rw[hn] at hown;obtain ⟨blk1,hb1,hb2,_⟩:=hown;refine ⟨h.sz,h.eF.mono fun B _ hB=>(hheap B (zx8.1 hB).1).trans hB,fun t=>aS.bE hl (h.ea t),h.dK.trans ⟨rfl,rfl,rfl,by simp,fun k hk=>hheap k (h.old hk)⟩,h.cV,fun b o hd'=>by have:=h.c9 b o hd';simp;omega,fun m =>?_,?_,fun m e hm =>?_,h.eO,h.cG,h.eS,h.kL hl⟩
 ·simp only[ae.aN];by_cases hm:m=n
  ·subst hm;simp only[if_true,cY];refine ⟨some (w.heap.size,cap),by simp,fun e he =>?_,?_⟩
   ·rcases zy7.1 he with he | he
    ·exact hb2 e he
    ·exact hysz e he
   ·refine ⟨cs,pre++news,rest,.inl h.dK.size,heap_alloc_new w.drew _,hcs,?_,hsize,by simpa using hlen,hcap,fun o ho=>absurd (h.c9 _ o ho) (Nat.lt_irrefl _)⟩;exact aG.bE hl _ _ (j9 _ _ _ _ hes hys)
  ·simp only[if_neg hm];exact (h.bU m).bE hl (by simp only[if_neg hm]) fun e b he hb=>⟨hheap b (h.fG he hb),fun _ ho=>ho⟩
 ·intro m m' e e' b h1 h2 h3 h4;by_cases hm:m=n <;>by_cases hm':m'=n
  ·rw[hm,hm']
  ·simp only[if_pos hm,u8] at h1;simp only[if_neg hm'] at h2;subst h1;simp only[bS.aD,u8] at h3;have:=h.fG h2 h4;omega
  ·simp only[if_neg hm] at h1;simp only[if_pos hm',u8] at h2;subst h2;simp only[bS.aD,u8] at h4;have:=h.fG h1 h3;omega
  ·simp only[if_neg hm] at h1;simp only[if_neg hm'] at h2;exact h.cM m m' e e' b h1 h2 h3 h4
 ·by_cases hmn:m=n
  ·subst hmn;rcases h.dQ _ _ hm with k | ⟨e',k,hle⟩
   ·rw[av] at k;cases k
   ·rw[av] at k;cases k;exact .inr ⟨_,if_pos rfl,hle.trans (.inr ⟨_,_,_,_,rfl,rfl,by omega,fun e=>by omega⟩)⟩
  ·simp only[if_neg hmn];exact h.dQ _ _ hm
theorem aP.ahc(h:aP c A a w D E){n:Nat}{T:TypeId}{sz b cap:Nat}{es ys:List I}{pre news rest:List Value}{cs:Array Value}(hn:A.o n=some (.bT T sz es))(av:E n=some (.rw (some (b,cap)) es.length))(hb:w.heap[b]?=some (.cells cs T (0,0)))
  (hcs:cs.toList=pre++rest) (hes:aG w D E es pre) (hys:aG w D E ys news) (hysz:∀ e∈ys,e.size=sz) (hne:ys≠[]) (hsize:cs.size=cap*sz) (hlen:es.length+ys.length≤cap) (hcap:cap≤maxLen) (hD:∀ o,D b o→o<pre.length) (hbase:c.eU b) :
  aP c (A.aN n (.bT T sz (es++ys))) a (w.setRow b (pre++news++rest.drop news.length).toArray) D (fun m=>if m=n then some (.rw (some (b,cap)) (es.length+ys.length)) else E m):=by
 have hlast:0<ys.length:=List.length_pos_iff.2 hne;have hown:=h.bU n;rw[hn] at hown;obtain ⟨blk1,hb1,hb2,_⟩:=hown;have hnl:news.length=ys.length*sz:=by rw[aG.length _ _ hys,I.gR _ hysz]
 have hpl:pre.length=es.length*sz:=by rw[aG.length _ _ hes,I.gR _ hb2]
 have hl:dG w D E (w.setRow b (pre++news++rest.drop news.length).toArray) D (fun m=>if m=n then some (.rw (some (b,cap)) (es.length+ys.length)) else E m):=by
  have ee:∀ {m:Nat} {e:bS},E m=some e→e.eH=true→(if m=n then some (.rw (some (b,cap)) (es.length+ys.length)) else E m)=some e:=fun {m e} he hfx=>by
   have:m≠n:=fun e=>by rw[e,av] at he;cases he;cases hfx
   rw[if_neg this];exact he
  refine ⟨fun _ _ h=>h,fun b1 o v hd hv =>?_,fun m b aJ he=>ee he rfl,fun m blk' l he =>?_,fun m b he=>ee he rfl,fun m b he=>ee he rfl,fun b1 es ck _ hm=>(setRow_other w b b1 _ (fun e=>by rw[e,hb] at hm;cases hm)).trans hm⟩
  ·by_cases hbb:b1=b
   ·subst hbb;have ho:=hD o hd;have h1:=setRow_heap w b1 cs (pre++news++rest.drop news.length).toArray T _ hb;rw[cell_of_row _ b1 o _ T (0,0) h1];rw[cell_of_row _ b1 o _ T (0,0) hb] at hv;have e1:cs[o]?=pre[o]?:=by rw[←zv0,hcs,zx1 ho]
    rw[←hv,e1];simp only[List.getElem?_toArray,zz3];rw[zx1 ho]
   ·rw[uH _ _ _ _ hbb];exact hv
  ·by_cases hm:m=n
   ·subst hm;rw[av] at he;simp only[u8,bS.rw.injEq] at he;exact ⟨_,_,if_pos rfl,by omega,fun e=>by omega⟩
   ·exact ⟨blk',l,by simp only[if_neg hm];exact he,zz6 _,fun _=>rfl⟩
 refine ⟨h.sz,h.eF.mono fun B _ hB=>(setRow_other w b B _ (fun e=>by rw[e,hb] at hB;cases hB)).trans hB,fun t=>aS.bE hl (h.ea t),wR h.dK hbase _,h.cV,fun b1 o hd=>by have:=h.c9 b1 o hd;simpa[World.setRow] using this,fun m =>?_,?_,fun m e hm =>?_,h.eO,h.cG,h.eS,h.kL hl⟩
 ·simp only[ae.aN];by_cases hm:m=n
  ·subst hm;simp only[if_true,cY];refine ⟨some (b,cap),by simp,fun e he =>?_,?_⟩
   ·rcases zy7.1 he with he | he
    ·exact hb2 e he
    ·exact hysz e he
   ·refine ⟨_,pre++news,rest.drop news.length,hbase,setRow_heap w b cs _ T _ hb,by simp,aG.bE hl _ _ (j9 _ _ _ _ hes hys),?_,by simpa using hlen,hcap,fun o ho =>?_⟩
    ·have e1:cs.size=pre.length+rest.length:=by rw[←zw8,hcs,zz5]
     have e2:news.length+pre.length≤cs.size:=by
      rw[hsize,hnl,hpl,←zv8];exact Nat.mul_le_mul_right _ (by omega)
     simp only[List.size_toArray,zz5,zx0];omega
    ·have:=hD o ho;rw[zz5];omega
  ·simp only[if_neg hm];refine (h.bU m).bE hl (by simp only[if_neg hm]) fun e b1 he hb'=>⟨setRow_other w b b1 _ (fun e1=>hm (h.cM m n e _ b he av (by rw[hb',e1]) rfl)),fun _ ho=>ho⟩
 ·intro m m' e e' b' h1 h2 h3 h4;by_cases hm:m=n <;>by_cases hm':m'=n
  ·rw[hm,hm']
  ·simp only[if_pos hm,u8] at h1;simp only[if_neg hm'] at h2;subst h1;exact absurd (h.cM m' n e' _ b' h2 av h4 h3) hm'
  ·simp only[if_neg hm] at h1;simp only[if_pos hm',u8] at h2;subst h2;exact absurd (h.cM m n e _ b' h1 av h3 h4) hm
  ·simp only[if_neg hm] at h1;simp only[if_neg hm'] at h2;exact h.cM m m' e e' b' h1 h2 h3 h4
 ·by_cases hmn:m=n
  ·subst hmn;rcases h.dQ _ _ hm with k | ⟨e',k,hle⟩
   ·rw[av] at k;cases k
   ·rw[av] at k;cases k;exact .inr ⟨_,if_pos rfl,hle.trans (.inr ⟨_,_,_,_,rfl,rfl,by omega,fun e=>by omega⟩)⟩
  ·simp only[if_neg hmn];exact h.dQ _ _ hm
theorem N3(n:Nat):(Builtin.zeroCells #[Value.int .i64 0] n).toList=(List.replicate n (0:Int)).map (Value.int .i64):=by
 simp only[Builtin.zeroCells,List.size_toArray,List.length_singleton,Nat.mul_one,Nat.mod_one,List.map_replicate];apply List.ext_getElem?;intro k;simp[List.getElem?_replicate];by_cases h:k<n
 ·rw[if_pos h,List.getElem?_range h];rfl
 ·rw[if_neg h,List.getElem?_eq_none (by simpa using h)];rfl
theorem MG{w:World}{D:aL}{E:aT} : ∀ {xs:List Int} {cs:List Value},aG w D E (xs.map (I.int .i64)) cs→cs=xs.map (Value.int .i64)∧∀ x∈xs,IntKind.i64.min≤x∧x≤IntKind.i64.max
 | [],cs,h=>by
  simp only[zx2,aG] at h;subst h;exact ⟨rfl,by simp⟩
 |x::xs,cs,h=>by
  simp only[zz9,aG] at h;obtain ⟨c1,c2,rfl,h1,h2⟩:=h;obtain ⟨rfl,h3⟩:=MG h2;have h1':c1=[.int .i64 x]∧IntKind.i64.min≤x∧x≤IntKind.i64.max:=h1;obtain ⟨rfl,h4⟩:=h1';refine ⟨rfl,fun y hy =>?_⟩;rcases zw9.1 hy with rfl | hy
  ·exact h4
  ·exact h3 y hy
theorem aP.C1(h:aP c A a w D E){n:Nat}{T:TypeId}{cap m':Nat}{es ys:List Int}{cs:Array Value}{aD:Option (Nat×Nat)}(hn:A.o n=some (.cO T es))(av:E n=some (.rw aD es.length))(hr:∀ x∈es++ys,IntKind.i64.min≤x∧x≤IntKind.i64.max)
  (hne:ys≠[]) (hcs:cs.toList=(es++ys++List.replicate m' 0).map (Value.int .i64)) (hlen:es.length+ys.length+m'=cap) (hcap:cap≤maxLen) :
  aP c (A.aN n (.cO T (es++ys))) a (w.drew.alloc (.cells cs T)) D (fun m=>if m=n then some (.rw (some (w.heap.size,cap)) (es.length+ys.length)) else E m):=by
 have hlast:0<ys.length:=List.length_pos_iff.2 hne;have hheap:∀ b,b<w.heap.size→(w.drew.alloc (.cells cs T)).heap[b]?=w.heap[b]?:=fun b hb=>Below.heap_alloc w.drew _ b hb;have hl:dG w D E (w.drew.alloc (.cells cs T)) D (fun m=>if m=n then some (.rw (some (w.heap.size,cap)) (es.length+ys.length)) else E m):=by
  have ee:∀ {m:Nat} {e:bS},E m=some e→e.eH=true→(if m=n then some (.rw (some (w.heap.size,cap)) (es.length+ys.length)) else E m)=some e:=fun {m e} he hfx=>by
   have:m≠n:=fun e=>by rw[e,av] at he;cases he;cases hfx
   rw[if_neg this];exact he
  refine ⟨fun _ _ h=>h,fun b o v _ hv =>?_,fun m b aJ he=>ee he rfl,fun m blk' l he =>?_,fun m b he=>ee he rfl,fun m b he=>ee he rfl,fun b es ck _ hm=>(hheap b (fH hm)).trans hm⟩
  ·rw[World.cell?_of_block (hheap b (World.block_lt_of_cell? w _ hv))];exact hv
  ·by_cases hm:m=n
   ·subst hm;rw[av] at he;simp only[u8,bS.rw.injEq] at he;exact ⟨_,_,if_pos rfl,by omega,fun e=>by omega⟩
   ·exact ⟨blk',l,by simp only[if_neg hm];exact he,zz6 _,fun _=>rfl⟩
 refine ⟨h.sz,h.eF.mono fun B _ hB=>(hheap B (zx8.1 hB).1).trans hB,fun t=>aS.bE hl (h.ea t),h.dK.trans ⟨rfl,rfl,rfl,by simp,fun k hk=>hheap k (h.old hk)⟩,h.cV,fun b o hd'=>by have:=h.c9 b o hd';simp;omega,fun m =>?_,?_,fun m e hm =>?_,h.eO,h.cG,h.eS,h.kL hl⟩
 ·simp only[ae.aN];by_cases hm:m=n
  ·subst hm;simp only[if_true,cY];exact ⟨some (w.heap.size,cap),by simp,hr,cs,m',.inl h.dK.size,heap_alloc_new w.drew _,hcs,by simp[hne],by simp only[zz5];exact hlen,hcap,fun o ho=>absurd (h.c9 _ o ho) (Nat.lt_irrefl _)⟩
  ·simp only[if_neg hm];exact (h.bU m).bE hl (by simp only[if_neg hm]) fun e b he hb=>⟨hheap b (h.fG he hb),fun _ ho=>ho⟩
 ·intro m m' e e' b h1 h2 h3 h4;by_cases hm:m=n <;>by_cases hm':m'=n
  ·rw[hm,hm']
  ·simp only[if_pos hm,u8] at h1;simp only[if_neg hm'] at h2;subst h1;simp only[bS.aD,u8] at h3;have:=h.fG h2 h4;omega
  ·simp only[if_neg hm] at h1;simp only[if_pos hm',u8] at h2;subst h2;simp only[bS.aD,u8] at h4;have:=h.fG h1 h3;omega
  ·simp only[if_neg hm] at h1;simp only[if_neg hm'] at h2;exact h.cM m m' e e' b h1 h2 h3 h4
 ·by_cases hmn:m=n
  ·subst hmn;rcases h.dQ _ _ hm with k | ⟨e',k,hle⟩
   ·rw[av] at k;cases k
   ·rw[av] at k;cases k;exact .inr ⟨_,if_pos rfl,hle.trans (.inr ⟨_,_,_,_,rfl,rfl,by omega,fun e=>by omega⟩)⟩
  ·simp only[if_neg hmn];exact h.dQ _ _ hm
theorem aP.ahd(h:aP c A a w D E){n:Nat}{T:TypeId}{b cap m':Nat}{es ys:List Int}{cs:Array Value}(hn:A.o n=some (.cO T es))(av:E n=some (.rw (some (b,cap)) es.length))(hb:w.heap[b]?=some (.cells cs T (0,0)))
  (hr:∀ x∈es++ys,IntKind.i64.min≤x∧x≤IntKind.i64.max) (hne:ys≠[]) (hlen:es.length+ys.length+m'=cap) (hcap:cap≤maxLen) (hD:∀ o,¬ D b o) (hbase:c.eU b) :
  aP c (A.aN n (.cO T (es++ys))) a (w.setRow b ((es++ys++List.replicate m' 0).map (Value.int .i64)).toArray) D (fun m=>if m=n then some (.rw (some (b,cap)) (es.length+ys.length)) else E m):=by
 have hlast:0<ys.length:=List.length_pos_iff.2 hne;have hl:dG w D E (w.setRow b ((es++ys++List.replicate m' 0).map (Value.int .i64)).toArray) D (fun m=>if m=n then some (.rw (some (b,cap)) (es.length+ys.length)) else E m):=by
  have ee:∀ {m:Nat} {e:bS},E m=some e→e.eH=true→(if m=n then some (.rw (some (b,cap)) (es.length+ys.length)) else E m)=some e:=fun {m e} he hfx=>by
   have:m≠n:=fun e=>by rw[e,av] at he;cases he;cases hfx
   rw[if_neg this];exact he
  refine ⟨fun _ _ h=>h,fun b1 o v hd hv =>?_,fun m b aJ he=>ee he rfl,fun m blk' l he =>?_,fun m b he=>ee he rfl,fun m b he=>ee he rfl,fun b1 es ck _ hm=>(setRow_other w b b1 _ (fun e=>by rw[e,hb] at hm;cases hm)).trans hm⟩
  ·by_cases hbb:b1=b
   ·subst hbb;exact absurd hd (hD o)
   ·rw[uH _ _ _ _ hbb];exact hv
  ·by_cases hm:m=n
   ·subst hm;rw[av] at he;simp only[u8,bS.rw.injEq] at he;exact ⟨_,_,if_pos rfl,by omega,fun e=>by omega⟩
   ·exact ⟨blk',l,by simp only[if_neg hm];exact he,zz6 _,fun _=>rfl⟩
 refine ⟨h.sz,h.eF.mono fun B _ hB=>(setRow_other w b B _ (fun e=>by rw[e,hb] at hB;cases hB)).trans hB,fun t=>aS.bE hl (h.ea t),wR h.dK hbase _,h.cV,fun b1 o hd=>by have:=h.c9 b1 o hd;simpa[World.setRow] using this,fun m =>?_,?_,fun m e hm =>?_,h.eO,h.cG,h.eS,h.kL hl⟩
 ·simp only[ae.aN];by_cases hm:m=n
  ·subst hm;simp only[if_true,cY];exact ⟨some (b,cap),by simp,hr,_,m',hbase,setRow_heap w b cs _ T _ hb,by simp,by simp[hne],by simp only[zz5];exact hlen,hcap,hD⟩
  ·simp only[if_neg hm];refine (h.bU m).bE hl (by simp only[if_neg hm]) fun e b1 he hb'=>⟨setRow_other w b b1 _ (fun e1=>hm (h.cM m n e _ b he av (by rw[hb',e1]) rfl)),fun _ ho=>ho⟩
 ·intro m m' e e' b' h1 h2 h3 h4;by_cases hm:m=n <;>by_cases hm':m'=n
  ·rw[hm,hm']
  ·simp only[if_pos hm,u8] at h1;simp only[if_neg hm'] at h2;subst h1;exact absurd (h.cM m' n e' _ b' h2 av h4 h3) hm'
  ·simp only[if_neg hm] at h1;simp only[if_pos hm',u8] at h2;subst h2;exact absurd (h.cM m n e _ b' h1 av h3 h4) hm
  ·simp only[if_neg hm] at h1;simp only[if_neg hm'] at h2;exact h.cM m m' e e' b' h1 h2 h3 h4
 ·by_cases hmn:m=n
  ·subst hmn;rcases h.dQ _ _ hm with k | ⟨e',k,hle⟩
   ·rw[av] at k;cases k
   ·rw[av] at k;cases k;exact .inr ⟨_,if_pos rfl,hle.trans (.inr ⟨_,_,_,_,rfl,rfl,by omega,fun e=>by omega⟩)⟩
  ·simp only[if_neg hmn];exact h.dQ _ _ hm
end
section
variable {c:cI} {A:ae} {o:Oper}
theorem Xn{t e:TypeId}{s x:Operand}{s' x':aH}{n k sz:Nat}{es ys:List I}{z:I}(ho:o.op=.call { callee:=.builtin .append,args := #[s,x],argTypes := #[t,t] })(ht:c.P.underlying t=some (.slice e))(hs':bC c.P t s=some s')(hx':bC c.P t x=some x')
  (hz:fM c.P e=some z) (hzs:z.size=c.P.cellsOf e) (hpos:0<c.P.cellsOf e) (hs:ab A s'=.own n k) (hn:A.o n=some (.bT e (c.P.cellsOf e) es)) (hk:k=es.length) (hx:ab A x'=.slice sz ys) (hsz:sz=c.P.cellsOf e) (hne:ys≠[])
  (h63:es.length+ys.length≤maxLen) (hby:(es.length+ys.length)*c.P.bytesOf e≤140737488355328) (hd:∀ k,o.dst=some k→k<c.n) :
  gT c A o ((A.aN n (.bT e (c.P.cellsOf e) (es++ys))).aK o.dst (.own n (es.length+ys.length))):=by
 intro a w D E hsim;obtain ⟨i,zv,hi,hzv,hzr⟩:=lO hz;have hci:c.P.cellsOf e=i.size:=by simp[Program.cellsOf,hi]
 have hbi:c.P.bytesOf e=i.bytes:=by simp[Program.bytesOf,hi]
 have hzc:zv.cells.size=i.size:=by
  have:=af.length _ _ (hzr w D E);rw[zw8] at this;rw[this,hzs,hci]
 subst hk;have v1:=ca hsim hs';rw[hs] at v1;have v2:=ca hsim hx';rw[hx] at v2;obtain ⟨ad,cp,hxv,hc1,hc2,hc3,hc4⟩:=nt v2;obtain ⟨b2,off2,news,rfl,hr2,hys⟩:=hc3.resolve_left hne;have hobj:=hsim.bU n;rw[hn] at hobj;obtain ⟨aD,av,hesz,hblk⟩:=hobj;have hnl:news.length=ys.length*i.size:=by rw[aG.length _ _ hys,I.gR _ hc4,hsz,hci]
 have hysz:∀ y∈ys,y.size=c.P.cellsOf e:=fun y hy=>by rw[hc4 y hy,hsz]
 have hnews:∀ j v,news[j]?=some v→w.cell? ((⟨b2,off2,none⟩:Addr).add j)=some v:=fun j v hj=>by
  rw[Addr.add_lit];exact (hr2 j v hj).1
 have h1:=aG.mi _ _ hys;have hsv:match aD with | none=>a.eval s=.slice none 0 0 | some (b,cap)=>a.eval s=.slice (some ⟨b,0,none⟩) es.length cap:=by
  obtain ⟨cs,q1,q2⟩:=v1;simp only[af] at q2;obtain ⟨blk',l,q3,q4,q5,q6⟩:=q2;rw[av] at q3;simp only[u8,bS.rw.injEq] at q3;obtain ⟨rfl,rfl⟩:=q3;have q7:=q6 rfl;simp only[bG,I.isAgg] at q1;cases aD with
  |none=>simp only at q7 ⊢;rw[q7] at q1;simpa using q1.symm
  |some bc=>simp only at q7 ⊢;rw[q7] at q1;simpa using q1.symm
 have hl0:0<ys.length:=List.length_pos_iff.2 hne;have h63':=h63;simp only[maxLen] at h63';have run:∀ v' w',(Builtin.append_ #[t,t] o.type #[a.eval s,.slice (some ⟨b2,off2,none⟩) ys.length cp]).run c.P w=.ok v' w'→(execOp a.eval o).run c.P w=.ok (.value v') w':=by
  intro v' w' hr;unfold execOp;simp only[ho,resolve,invoke,builtin,Sem.run_bind,Sem.run_pure,Result.andThen_ok,List.map_toArray,zz9,zx2,hxv,hr]
 have put:∀ (w':World) (b cap:Nat) (v':Value),v'=.slice (some ⟨b,0,none⟩) (es.length+ys.length) cap→aP c (A.aN n (.bT e (c.P.cellsOf e) (es++ys))) a w' D (fun m=>if m=n then some (.rw (some (b,cap)) (es.length+ys.length)) else E m) →
   cn c ((A.aN n (.bT e (c.P.cellsOf e) (es++ys))).aK o.dst (.own n (es.length+ys.length))) (a.put o.dst v') w':=by
  rintro w' b cap v' rfl hs2;refine ⟨D,_,hs2.aK hd ⟨_,by simp[bG,I.isAgg];rfl,?_⟩⟩;simp only[af,if_true];exact ⟨some (b,cap),es.length+ys.length,rfl,zz6 _,⟨_,_,_,rfl⟩,fun _=>rfl⟩
 cases aD with
 |none =>
  simp only at hblk hsv;subst hblk;have hr:=run_append_nil (P:=c.P) w t o.type e i zv ht hi hzv ⟨b2,off2,none⟩ ys.length cp news hnl hnews hl0 (by simp at h63';omega) (by rw[hbi] at hby;simp at hby;omega);rw[←hsv] at hr;have hge:=grownCap_ge w ys.length 0 e;refine ⟨_,.inl ⟨_,run _ _ hr,put _ w.heap.size (grownCap w ys.length 0 e) _ (by simp) ?_⟩⟩;refine hsim.C0 (pre:=[]) (news:=news) (rest:=(Builtin.zeroCells zv.cells (grownCap w ys.length 0 e-ys.length)).toList) hn av (by simp[aG]) hys hysz hne (by simp) ?_ (by simpa using hge) (grownCap_le_maxLen w ys.length 0 e (by simpa using h63));simp only[Array.size_append,List.size_toArray,size_zeroCells,hzc,hnl,hci,←zv8]
  congr 1
  omega
 |some bc =>
  obtain ⟨b,cap⟩:=bc;simp only at hblk hsv;obtain ⟨cs,pre,rest,k1,k2,k3,k4,k5,k6,k7,k8⟩:=hblk;have hpl:pre.length=es.length*i.size:=by rw[aG.length _ _ k4,I.gR _ hesz,hci]
  by_cases hroom:es.length+ys.length≤cap
  ·have hfit:es.length*i.size+news.length≤cs.size:=by rw[hnl,k5,hci,←zv8];exact Nat.mul_le_mul_right _ hroom
   have hr:=run_append_room (P:=c.P) w t o.type e i ht hi b es.length cap cs k2 ⟨b2,off2,none⟩ ys.length cp news hnl hnews h1 hroom hfit;rw[←hsv] at hr;refine ⟨_,.inl ⟨_,run _ _ hr,put _ b cap _ rfl ?_⟩⟩;have e1:cs.toList.take (es.length*i.size)=pre:=by rw[k3,←hpl];exact List.take_left
   have e2:cs.toList.drop (es.length*i.size+news.length)=rest.drop news.length:=by rw[k3,←hpl,←List.drop_drop,List.drop_left]
   rw[e1,e2];exact hsim.ahc hn av k2 k3 k4 hys hysz hne k5 hroom k7 k8 k1
  ·have holds:∀ j v,pre[j]?=some v→w.cell? ((⟨b,0,none⟩:Addr).add j)=some v:=fun j v hj=>by
    rw[Addr.add_lit,zz4,cell_of_row w b j cs e (0,0) k2,←zv0,k3];have:j<pre.length:=(zy4.1 hj).1;rw[zx1 this];exact hj
   have hr:=run_append_grow (P:=c.P) w t o.type e i zv ht hi hzv ⟨b,0,none⟩ es.length cap pre hpl holds ⟨b2,off2,none⟩ ys.length cp news hnl hnews (by omega) (by omega) (growslice_fits (by omega) (by rw[←hbi];exact hby));rw[←hsv] at hr;have hge:=grownCap_ge w (es.length+ys.length) cap e;refine ⟨_,.inl ⟨_,run _ _ hr,put _ w.heap.size (grownCap w (es.length+ys.length) cap e) _ rfl ?_⟩⟩;refine hsim.C0 (pre:=pre) (news:=news) (rest:=(Builtin.zeroCells zv.cells (grownCap w (es.length+ys.length) cap e-(es.length+ys.length))).toList) hn av k4 hys hysz hne (by simp) ?_ hge (grownCap_le_maxLen w _ cap e h63);simp only[Array.size_append,List.size_toArray,size_zeroCells,hzc,hnl,hpl,hci,←zv8]
   congr 1
   omega
theorem Xo{t e:TypeId}{s x:Operand}{s' x':aH}{n k sz:Nat}{es ys:List Int}(ho:o.op=.call { callee:=.builtin .append,args := #[s,x],argTypes := #[t,t] })(ht:c.P.underlying t=some (.slice e))(hs':bC c.P t s=some s')(hx':bC c.P t x=some x')
  (hz:fM c.P e=some (.int .i64 0)) (h1c:c.P.cellsOf e=1) (hs:ab A s'=.own n k) (hn:A.o n=some (.cO e es)) (hk:k=es.length) (hx:ab A x'=.slice sz (ys.map (.int .i64))) (hne:ys≠[])
  (h63:es.length+ys.length≤maxLen) (hby:(es.length+ys.length)*c.P.bytesOf e≤140737488355328) (hd:∀ k,o.dst=some k→k<c.n) :
  gT c A o ((A.aN n (.cO e (es++ys))).aK o.dst (.own n (es.length+ys.length))):=by
 intro a w D E hsim;obtain ⟨i,zv,hi,hzv,hzr⟩:=lO hz;have hci:c.P.cellsOf e=i.size:=by simp[Program.cellsOf,hi]
 have hi1:i.size=1:=hci.symm.trans h1c;have hbi:c.P.bytesOf e=i.bytes:=by simp[Program.bytesOf,hi]
 have hzv2:zv.cells = #[Value.int .i64 0]:=by
  have:zv.cells.toList=[Value.int .i64 0]:=(hzr w D E).1;exact Array.toList_inj.1 this
 subst hk;have v1:=ca hsim hs';rw[hs] at v1;have v2:=ca hsim hx';rw[hx] at v2;obtain ⟨ad,cp,hxv,hc1,hc2,hc3,hc4⟩:=nt v2;obtain ⟨b2,off2,news,rfl,hr2,hys⟩:=hc3.resolve_left (by simpa using hne);rw[zy1] at hxv;obtain ⟨aD,av,hesr,hblk⟩:=hsim.q0 hn;obtain ⟨hnw,hyr⟩:=MG hys;have hnl0:news.length=ys.length:=by rw[hnw,zy1]
 have hnl:news.length=ys.length*i.size:=by rw[hi1,Nat.mul_one,hnl0]
 have hrr:∀ x∈es++ys,IntKind.i64.min≤x∧x≤IntKind.i64.max:=fun x hx=>by
  rcases zy7.1 hx with h | h
  ·exact hesr x h
  ·exact hyr x h
 have hnews:∀ j v,news[j]?=some v→w.cell? ((⟨b2,off2,none⟩:Addr).add j)=some v:=fun j v hj=>by
  rw[Addr.add_lit];exact (hr2 j v hj).1
 have h1:=aG.mi _ _ hys;have hsv:match aD with | none=>a.eval s=.slice none 0 0 | some (b,cap)=>a.eval s=.slice (some ⟨b,0,none⟩) es.length cap:=by
  obtain ⟨cs,q1,q2⟩:=v1;simp only[af] at q2;obtain ⟨blk',l,q3,q4,q5,q6⟩:=q2;rw[av] at q3;simp only[u8,bS.rw.injEq] at q3;obtain ⟨rfl,rfl⟩:=q3;have q7:=q6 rfl;simp only[bG,I.isAgg] at q1;cases aD with
  |none=>simp only at q7 ⊢;rw[q7] at q1;simpa using q1.symm
  |some bc=>simp only at q7 ⊢;rw[q7] at q1;simpa using q1.symm
 have hl0:0<ys.length:=List.length_pos_iff.2 hne;have h63':=h63;simp only[maxLen] at h63';have run:∀ v' w',(Builtin.append_ #[t,t] o.type #[a.eval s,.slice (some ⟨b2,off2,none⟩) ys.length cp]).run c.P w=.ok v' w'→(execOp a.eval o).run c.P w=.ok (.value v') w':=by
  intro v' w' hr;unfold execOp;simp only[ho,resolve,invoke,builtin,Sem.run_bind,Sem.run_pure,Result.andThen_ok,List.map_toArray,zz9,zx2,hxv,hr]
 have put:∀ (w':World) (b cap:Nat) (v':Value),v'=.slice (some ⟨b,0,none⟩) (es.length+ys.length) cap→aP c (A.aN n (.cO e (es++ys))) a w' D (fun m=>if m=n then some (.rw (some (b,cap)) (es.length+ys.length)) else E m) →
   cn c ((A.aN n (.cO e (es++ys))).aK o.dst (.own n (es.length+ys.length))) (a.put o.dst v') w':=by
  rintro w' b cap v' rfl hs2;refine ⟨D,_,hs2.aK hd ⟨_,by simp[bG,I.isAgg];rfl,?_⟩⟩;simp only[af,if_true];exact ⟨some (b,cap),es.length+ys.length,rfl,zz6 _,⟨_,_,_,rfl⟩,fun _=>rfl⟩
 cases aD with
 |none =>
  simp only at hblk hsv;subst hblk;have hr:=run_append_nil (P:=c.P) w t o.type e i zv ht hi hzv ⟨b2,off2,none⟩ ys.length cp news hnl hnews hl0 (by simp at h63';omega) (by rw[hbi] at hby;simp at hby;omega);rw[←hsv] at hr;have hge:=grownCap_ge w ys.length 0 e;refine ⟨_,.inl ⟨_,run _ _ hr,put _ w.heap.size (grownCap w ys.length 0 e) _ (by simp) ?_⟩⟩;refine hsim.C1 (m':=grownCap w ys.length 0 e-ys.length) hn av hrr hne ?_ (by simp;omega) (grownCap_le_maxLen w ys.length 0 e (by simpa using h63));rw[hzv2];simp only[Array.toList_append,N3,zy8,zx6,hnw]
 |some bc =>
  obtain ⟨b,cap⟩:=bc;simp only at hblk hsv;obtain ⟨cs,m,k1,k2,k3,k4,k5,k6,k7⟩:=hblk;have hcz:cs.size=cap:=by rw[←zw8,k3];simp;omega
  by_cases hroom:es.length+ys.length≤cap
  ·have hfit:es.length*i.size+news.length≤cs.size:=by rw[hnl,hi1];omega
   have hr:=run_append_room (P:=c.P) w t o.type e i ht hi b es.length cap cs k2 ⟨b2,off2,none⟩ ys.length cp news hnl hnews h1 hroom hfit;rw[←hsv] at hr;refine ⟨_,.inl ⟨_,run _ _ hr,put _ b cap _ rfl ?_⟩⟩;have e0:cs.toList.take (es.length*i.size)++news++cs.toList.drop (es.length*i.size+news.length)=(es++ys++List.replicate (m-ys.length) 0).map (Value.int .i64):=by
    rw[hi1,Nat.mul_one,hnl0,k3,hnw,←List.map_take,←List.map_drop,List.take_left,←List.drop_drop,List.drop_left];simp only[zx6,List.drop_replicate]
   rw[e0];exact hsim.ahd (m':=m-ys.length) hn av k2 hrr hne (by omega) k6 k7 k1
  ·have hpl:(es.map (Value.int .i64)).length=es.length*i.size:=by rw[hi1];simp
   have holds:∀ j v,(es.map (Value.int .i64))[j]?=some v→w.cell? ((⟨b,0,none⟩:Addr).add j)=some v:=fun j v hj=>by
    rw[Addr.add_lit,zz4,cell_of_row w b j cs e (0,0) k2,←zv0,k3];have:j<(es.map (Value.int .i64)).length:=(zy4.1 hj).1;rw[zx6,zx1 this];exact hj
   have hr:=run_append_grow (P:=c.P) w t o.type e i zv ht hi hzv ⟨b,0,none⟩ es.length cap (es.map (Value.int .i64)) hpl holds ⟨b2,off2,none⟩ ys.length cp news hnl hnews (by omega) (by omega) (growslice_fits (by omega) (by rw[←hbi];exact hby));rw[←hsv] at hr;have hge:=grownCap_ge w (es.length+ys.length) cap e;refine ⟨_,.inl ⟨_,run _ _ hr,put _ w.heap.size (grownCap w (es.length+ys.length) cap e) _ rfl ?_⟩⟩;refine hsim.C1 (m':=grownCap w (es.length+ys.length) cap e-(es.length+ys.length)) hn av hrr hne ?_ (by omega) (grownCap_le_maxLen w _ cap e h63);rw[hzv2];simp only[Array.toList_append,N3,zx6,hnw]
end
mutual
def I.only(p:Nat→Bool):I→Bool
 | .agg fs | .tuple fs=>I.b8 p fs
 | .slice _ es=>I.b8 p es
 | .ref x=>x.only p
 | .func _ caps=>I.b8 p caps
 | .iface _ v=>v.only p
 | .ptr n _ | .own n _ | .view n _ _ _ _ | .mref n | .dj n=>p n
 | .cL ks vs=>I.b8 p ks&&I.b8 p vs
 |_=>true
def I.b8(p:Nat→Bool):List I→Bool
 | []=>true
 |x::xs=>x.only p&&I.b8 p xs
end
mutual
theorem mj(p:Nat→Bool):∀ x:I,x.bp=true→x.only p=true
 | .agg fs,h=>by simp only[I.bp,I.only] at *;exact j7 p fs h
 | .slice _ es,h=>by simp only[I.bp,I.only] at *;exact j7 p es h
 | .ref x,h=>by simp only[I.bp,I.only] at *;exact mj p x h
 | .func _ caps,h=>by simp only[I.bp,I.only] at *;exact j7 p caps h
 | .iface _ v,h=>by simp only[I.bp,I.only] at *;exact mj p v h
 | .bool _,_ | .int _ _,_ | .cQ _,_ | .nilp,_ | .da,_ | .dN,_ | .raw _,_ | .nils _,_ | .c0 _,_=>by simp[I.only]
 | .cL ks vs,h=>by simp only[I.bp,I.only,zz2] at *;exact ⟨j7 p ks h.1,j7 p vs h.2⟩
 | .ptr _ _,h | .own _ _,h | .view _ _ _ _ _,h | .mref _,h | .dj _,h | .undef,h | .c8,h | .tuple _,h=>by simp[I.bp] at h
theorem j7(p:Nat→Bool):∀ xs:List I,I.bW xs=true→I.b8 p xs=true
 | [],_=>rfl
 |x::xs,h=>by
  simp only[I.bW,I.b8,zz2] at *;exact ⟨mj p x h.1,j7 p xs h.2⟩
end
mutual
theorem af.dq{w:World}{D:aL}{E E':aT}{p:Nat→Bool}(av:∀ n,p n=true→E' n=E n):∀ (x:I) (cs:List Value),x.only p=true→af w D E x cs→af w D E' x cs
 | .agg fs,cs,ho,hr=>by simp only[af,I.only] at *;exact aG.dq av fs cs ho hr
 | .bool b,cs,_,hr=>by simpa only[af] using hr
 | .int k n,cs,_,hr=>by simpa only[af] using hr
 | .cQ s,cs,_,hr=>by simpa only[af] using hr
 | .nilp,cs,_,hr=>by simpa only[af] using hr
 | .da,cs,_,hr=>by simpa only[af] using hr
 | .dN,cs,_,hr=>by simpa only[af] using hr
 | .raw _,cs,_,hr=>by simpa only[af] using hr
 | .nils _,cs,_,hr=>by simpa only[af] using hr
 | .c0 _,cs,_,hr=>by simpa only[af] using hr
 | .slice sz es,cs,ho,hr=>by
  simp only[af,I.only] at *;obtain ⟨a,cap,h1,h2,h3,h4,h5⟩:=hr;refine ⟨a,cap,h1,h2,h3,?_,h5⟩;rcases h4 with h4 | ⟨b,off,cs',h6,h7,h8⟩
  ·exact .inl h4
  ·exact .inr ⟨b,off,cs',h6,h7,aG.dq av es cs' ho h8⟩
 | .ref x,cs,ho,hr=>by
  simp only[af,I.only] at *;obtain ⟨b,off,cs',h1,h2,h3⟩:=hr;exact ⟨b,off,cs',h1,h2,af.dq av x cs' ho h3⟩
 | .func f caps,cs,ho,hr=>by
  simp only[af,I.only] at *;obtain ⟨vs,h1,h2⟩:=hr;exact ⟨vs,h1,aE.dq av caps vs ho h2⟩
 | .iface t v,cs,ho,hr=>by
  simp only[af,I.only] at *;obtain ⟨ao,cs',h1,h2,h3⟩:=hr;exact ⟨ao,cs',h1,h2,af.dq av v cs' ho h3⟩
 | .ptr n p,cs,ho,hr=>by
  simp only[af,I.only] at *;obtain ⟨b,aJ,off,h1,h2⟩:=hr;exact ⟨b,aJ,off,(av n ho).trans h1,h2⟩
 | .own n k,cs,ho,hr=>by
  simp only[af,I.only] at *;obtain ⟨aD,l,h1,h2⟩:=hr;exact ⟨aD,l,(av n ho).trans h1,h2⟩
 | .view n p _ _ _,cs,ho,hr=>by
  simp only[af,I.only] at *;obtain ⟨b,aJ,off,l,h1,h2⟩:=hr;exact ⟨b,aJ,off,l,(av n ho).trans h1,h2⟩
 | .mref n,cs,ho,hr=>by
  simp only[af,I.only] at *;obtain ⟨b,h1,h2⟩:=hr;exact ⟨b,(av n ho).trans h1,h2⟩
 | .dj n,cs,ho,hr=>by
  simp only[af,I.only] at *;obtain ⟨b,h1,h2⟩:=hr;exact ⟨b,(av n ho).trans h1,h2⟩
 | .cL ks vs,cs,ho,hr=>by
  simp only[af,I.only,zz2] at *;obtain ⟨b,es,ck,h1,h2,h3,h4⟩:=hr;exact ⟨b,es,ck,h1,h2,aE.dq av ks _ ho.1 h3,aE.dq av vs _ ho.2 h4⟩
 | .undef,_,_,hr=>by simp only[af] at hr
 | .c8,_,_,hr=>by simp only[af] at hr
 | .tuple _,_,_,hr=>by simp only[af] at hr
theorem aG.dq{w:World}{D:aL}{E E':aT}{p:Nat→Bool}(av:∀ n,p n=true→E' n=E n):∀ (xs:List I) (cs:List Value),I.b8 p xs=true→aG w D E xs cs→aG w D E' xs cs
 | [],cs,_,hr=>by simpa only[aG] using hr
 |x::xs,cs,ho,hr=>by
  simp only[aG,I.b8,zz2] at *;obtain ⟨c1,c2,h1,h2,h3⟩:=hr;exact ⟨c1,c2,h1,af.dq av x c1 ho.1 h2,aG.dq av xs c2 ho.2 h3⟩
theorem aE.dq{w:World}{D:aL}{E E':aT}{p:Nat→Bool}(av:∀ n,p n=true→E' n=E n):∀ (xs:List I) (vs:List Value),I.b8 p xs=true→aE w D E xs vs→aE w D E' xs vs
 | [],vs,_,hr=>by simpa only[aE] using hr
 |x::xs,vs,ho,hr=>by
  simp only[aE,I.b8,zz2] at *;obtain ⟨v,rest,cs,h1,h2,h3,h4⟩:=hr;exact ⟨v,rest,cs,h1,h2,af.dq av x cs ho.1 h3,aE.dq av xs rest ho.2 h4⟩
end
theorem aS.dq{w:World}{D:aL}{E E':aT}{p:Nat→Bool}(av:∀ n,p n=true→E' n=E n){x:I}{v:Value}(ho:x.only p=true)(hr:aS w D E x v):aS w D E' x v:=by
 cases x <;>simp only[aS] at * <;>first
  |exact hr
  |(obtain ⟨vs,h1,h2⟩:=hr;exact ⟨vs,h1,aE.dq av _ _ (by simpa[I.only] using ho) h2⟩)
  |(obtain ⟨cs,h1,h2⟩:=hr;exact ⟨cs,h1,af.dq av _ _ ho h2⟩)
def ah.only(p:Nat→Bool):ah→Bool
 | .box x=>x.only p
 | .bT _ _ es=>I.b8 p es
 | .dD _=>true
 | .cO _ _=>true
 | .cq ks vs | .it ks vs _ _=>I.b8 p ks&&I.b8 p vs
def bD:List (Nat×Nat)→Nat→Nat
 | [],n=>n
 |(a,b)::r,n=>if n=a then b else bD r n
mutual
def I.aO(ρ:Nat→Nat):I→I
 | .agg fs=>.agg (I.cP ρ fs)
 | .tuple fs=>.tuple (I.cP ρ fs)
 | .slice sz es=>.slice sz (I.cP ρ es)
 | .ref x=>.ref (x.aO ρ)
 | .func f caps=>.func f (I.cP ρ caps)
 | .iface t v=>.iface t (v.aO ρ)
 | .ptr n p=>.ptr (ρ n) p
 | .own n k=>.own (ρ n) k
 | .view n p sz lo k=>.view (ρ n) p sz lo k
 | .mref n=>.mref (ρ n)
 | .dj n=>.dj (ρ n)
 | .cL ks vs=>.cL (I.cP ρ ks) (I.cP ρ vs)
 | .undef=>.undef | .c8=>.c8 | .bool b=>.bool b | .int k n=>.int k n | .cQ s=>.cQ s
 | .nilp=>.nilp | .da=>.da | .dN=>.dN | .raw ao=>.raw ao | .nils z=>.nils z | .c0 z=>.c0 z
def I.cP(ρ:Nat→Nat):List I→List I
 | []=>[]
 |x::xs=>x.aO ρ::I.cP ρ xs
end
def ah.aO(ρ:Nat→Nat):ah→ah
 | .box x=>.box (x.aO ρ)
 | .bT T sz es=>.bT T sz (I.cP ρ es)
 | .dD x=>.dD x
 | .cO T xs=>.cO T xs
 | .cq ks vs=>.cq (I.cP ρ ks) (I.cP ρ vs)
 | .it ks vs left cur=>.it (I.cP ρ ks) (I.cP ρ vs) left cur
mutual
theorem qR(ρ:Nat→Nat):∀ x:I,(x.aO ρ).size=x.size
 | .agg fs=>by simp only[I.aO,I.size];exact MR ρ fs
 | .undef | .c8 | .bool _ | .int _ _ | .cQ _ | .nilp | .da | .dN | .raw _ | .nils _ | .c0 _ | .slice _ _ | .tuple _ | .ref _ | .func _ _ | .iface _ _ | .ptr _ _ | .own _ _ | .view _ _ _ _ _ | .mref _ | .dj _ | .cL _ _=>by simp only[I.aO,I.size]
theorem MR(ρ:Nat→Nat):∀ xs:List I,I.sizes (I.cP ρ xs)=I.sizes xs
 | []=>rfl
 |x::xs=>by simp only[I.cP,I.sizes,qR ρ x,MR ρ xs]
end
mutual
theorem x4(ρ:Nat→Nat):∀ x:I,(x.aO ρ).aJ=x.aJ
 | .agg fs=>by simp only[I.aO,I.aJ,cJ.dU.injEq];exact MQ ρ fs
 | .undef | .c8 | .bool _ | .int _ _ | .cQ _ | .nilp | .da | .dN | .raw _ | .nils _ | .c0 _ | .slice _ _ | .tuple _ | .ref _ | .func _ _ | .iface _ _ | .ptr _ _ | .own _ _ | .view _ _ _ _ _ | .mref _ | .dj _ | .cL _ _=>by simp only[I.aO,I.aJ]
theorem MQ(ρ:Nat→Nat):∀ xs:List I,I.cN (I.cP ρ xs)=I.cN xs
 | []=>rfl
 |x::xs=>by simp only[I.cP,I.cN,x4 ρ x,MQ ρ xs]
end
theorem ahQ(ρ:Nat→Nat)(x:I):(x.aO ρ).isAgg=x.isAgg:=by cases x <;>simp[I.aO,I.isAgg]
theorem od(ρ:Nat→Nat)(xs:List I):I.cP ρ xs=xs.map (I.aO ρ):=by
 induction xs with
 |nil=>rfl
 |cons x xs ih=>simp[I.cP,ih]
theorem qS(ρ:Nat→Nat)(xs:List I):(I.cP ρ xs).length=xs.length:=by rw[od];simp
theorem ML(ρ:Nat→Nat)(x:I)(v:Value)(cs:List Value):bG (x.aO ρ) v cs=bG x v cs:=by simp only[bG,ahQ]
mutual
/-- A value,its names put for others that stand for the same. -/
theorem af.aO{w:World}{D:aL}{E E':aT}{p:Nat→Bool}{ρ:Nat→Nat}(av:∀ n,p n=true→E' (ρ n)=E n):∀ (x:I) (cs:List Value),x.only p=true→(af w D E' (x.aO ρ) cs↔af w D E x cs)
 | .agg fs,cs,ho=>by simp only[af,I.aO,I.only] at *;exact aG.aO av fs cs ho
 | .bool b,cs,_ | .int k n,cs,_ | .cQ s,cs,_ | .nilp,cs,_ | .da,cs,_ | .dN,cs,_ | .raw _,cs,_ | .nils _,cs,_ | .c0 _,cs,_ | .undef,cs,_ | .c8,cs,_ | .tuple _,cs,_=>by simp only[af,I.aO]
 | .slice sz es,cs,ho=>by
  simp only[af,I.aO,I.only,qS] at *;have e1:(I.cP ρ es=[])↔es=[]:=by rw[←zv1,qS,zv1]
  have e2:(∀ e∈I.cP ρ es,e.size=sz)↔∀ e∈es,e.size=sz:=by
   rw[od];constructor
   ·intro h e he;rw[←qR ρ e];exact h _ (zx5.2 ⟨e,he,rfl⟩)
   ·intro h e he;obtain ⟨e',he',rfl⟩:=zx5.1 he;rw[qR];exact h _ he'
  simp only[e1,e2];constructor
  ·rintro ⟨a,cap,h1,h2,h3,h4,h5⟩;refine ⟨a,cap,h1,h2,h3,?_,h5⟩;rcases h4 with h4 | ⟨b,off,cs',h6,h7,h8⟩
   ·exact .inl h4
   ·exact .inr ⟨b,off,cs',h6,h7,(aG.aO av es cs' ho).1 h8⟩
  ·rintro ⟨a,cap,h1,h2,h3,h4,h5⟩;refine ⟨a,cap,h1,h2,h3,?_,h5⟩;rcases h4 with h4 | ⟨b,off,cs',h6,h7,h8⟩
   ·exact .inl h4
   ·exact .inr ⟨b,off,cs',h6,h7,(aG.aO av es cs' ho).2 h8⟩
 | .ref x,cs,ho=>by
  simp only[af,I.aO,I.only] at *;constructor
  ·rintro ⟨b,off,cs',h1,h2,h3⟩;exact ⟨b,off,cs',h1,h2,(af.aO av x cs' ho).1 h3⟩
  ·rintro ⟨b,off,cs',h1,h2,h3⟩;exact ⟨b,off,cs',h1,h2,(af.aO av x cs' ho).2 h3⟩
 | .func f caps,cs,ho=>by
  simp only[af,I.aO,I.only] at *;constructor
  ·rintro ⟨vs,h1,h2⟩;exact ⟨vs,h1,(aE.aO av caps vs ho).1 h2⟩
  ·rintro ⟨vs,h1,h2⟩;exact ⟨vs,h1,(aE.aO av caps vs ho).2 h2⟩
 | .iface t v,cs,ho=>by
  simp only[af,I.aO,I.only,ML] at *;constructor
  ·rintro ⟨ao,cs',h1,h2,h3⟩;exact ⟨ao,cs',h1,h2,(af.aO av v cs' ho).1 h3⟩
  ·rintro ⟨ao,cs',h1,h2,h3⟩;exact ⟨ao,cs',h1,h2,(af.aO av v cs' ho).2 h3⟩
 | .ptr n p,cs,ho=>by simp only[af,I.aO,I.only] at *;rw[av n ho]
 | .own n k,cs,ho=>by simp only[af,I.aO,I.only] at *;rw[av n ho]
 | .view n p _ _ _,cs,ho=>by simp only[af,I.aO,I.only] at *;rw[av n ho]
 | .mref n,cs,ho=>by simp only[af,I.aO,I.only] at *;rw[av n ho]
 | .dj n,cs,ho=>by simp only[af,I.aO,I.only] at *;rw[av n ho]
 | .cL ks vs,cs,ho=>by
  simp only[af,I.aO,I.only,zz2] at *;constructor
  ·rintro ⟨b,es,ck,h1,h2,h3,h4⟩;exact ⟨b,es,ck,h1,h2,(aE.aO av ks _ ho.1).1 h3,(aE.aO av vs _ ho.2).1 h4⟩
  ·rintro ⟨b,es,ck,h1,h2,h3,h4⟩;exact ⟨b,es,ck,h1,h2,(aE.aO av ks _ ho.1).2 h3,(aE.aO av vs _ ho.2).2 h4⟩
theorem aG.aO{w:World}{D:aL}{E E':aT}{p:Nat→Bool}{ρ:Nat→Nat}(av:∀ n,p n=true→E' (ρ n)=E n):∀ (xs:List I) (cs:List Value),I.b8 p xs=true→(aG w D E' (I.cP ρ xs) cs↔aG w D E xs cs)
 | [],cs,_=>by simp only[aG,I.cP]
 |x::xs,cs,ho=>by
  simp only[aG,I.cP,I.b8,zz2] at *;constructor
  ·rintro ⟨c1,c2,h1,h2,h3⟩;exact ⟨c1,c2,h1,(af.aO av x c1 ho.1).1 h2,(aG.aO av xs c2 ho.2).1 h3⟩
  ·rintro ⟨c1,c2,h1,h2,h3⟩;exact ⟨c1,c2,h1,(af.aO av x c1 ho.1).2 h2,(aG.aO av xs c2 ho.2).2 h3⟩
theorem aE.aO{w:World}{D:aL}{E E':aT}{p:Nat→Bool}{ρ:Nat→Nat}(av:∀ n,p n=true→E' (ρ n)=E n):∀ (xs:List I) (vs:List Value),I.b8 p xs=true→(aE w D E' (I.cP ρ xs) vs↔aE w D E xs vs)
 | [],vs,_=>by simp only[aE,I.cP]
 |x::xs,vs,ho=>by
  simp only[aE,I.cP,I.b8,zz2,ML] at *;constructor
  ·rintro ⟨v,rest,cs,h1,h2,h3,h4⟩;exact ⟨v,rest,cs,h1,h2,(af.aO av x cs ho.1).1 h3,(aE.aO av xs rest ho.2).1 h4⟩
  ·rintro ⟨v,rest,cs,h1,h2,h3,h4⟩;exact ⟨v,rest,cs,h1,h2,(af.aO av x cs ho.1).2 h3,(aE.aO av xs rest ho.2).2 h4⟩
end
theorem aS.aO{w:World}{D:aL}{E E':aT}{p:Nat→Bool}{ρ:Nat→Nat}(av:∀ n,p n=true→E' (ρ n)=E n){x:I}{v:Value}(ho:x.only p=true):aS w D E' (x.aO ρ) v↔aS w D E x v:=by
 cases x <;>first
  |(simp only[aS,I.aO];done)
  |(simp only[aS,I.aO,I.only] at ho ⊢
    constructor
    ·rintro ⟨vs,h1,h2⟩;exact ⟨vs,h1,(aE.aO av _ _ ho).1 h2⟩
    ·rintro ⟨vs,h1,h2⟩;exact ⟨vs,h1,(aE.aO av _ _ ho).2 h2⟩)
  |(have key:=fun x cs=>af.aO (w:=w) (D:=D) av x cs
    refine exists_congr fun cs=>and_congr ?_ ?_
    ·first | exact Iff.rfl | simp only[bG,I.aO,I.isAgg]
    ·first | exact key _ cs ho | (have h:=key _ cs ho;simpa only[I.aO] using h))
mutual
/-- Values that read no memory: but they may name objects. -/
def I.cS:I→Bool
 | .agg fs | .tuple fs=>I.iM fs
 | .func _ caps=>I.iM caps
 | .iface _ v=>v.cS
 | .slice _ es=>es.isEmpty
 | .ref _ | .cL _ _=>false
 |_=>true
def I.iM:List I→Bool
 | []=>true
 |x::xs=>x.cS&&I.iM xs
end
def ah.cS:ah→Bool
 | .box x=>x.cS
 | .bT _ _ es=>I.iM es
 | .cO _ _=>true
 | .dD _=>true
 | .cq ks vs=>I.iM ks&&I.iM vs
 | .it .. =>false
mutual
theorem af.cS{w w':World}{D D':aL}{E:aT} : ∀ (x:I) (cs:List Value),x.cS=true→af w D E x cs→af w' D' E x cs
 | .agg fs,cs,hf,hr=>by simp only[af,I.cS] at *;exact aG.cS fs cs hf hr
 | .bool b,cs,_,hr | .int k n,cs,_,hr | .cQ s,cs,_,hr | .nilp,cs,_,hr | .da,cs,_,hr | .dN,cs,_,hr | .raw _,cs,_,hr | .nils _,cs,_,hr | .c0 _,cs,_,hr
 | .ptr _ _,cs,_,hr | .own _ _,cs,_,hr | .view _ _ _ _ _,cs,_,hr | .mref _,cs,_,hr | .dj _,cs,_,hr=>by simpa only[af] using hr
 | .func f caps,cs,hf,hr=>by
  simp only[af,I.cS] at *;obtain ⟨vs,h1,h2⟩:=hr;exact ⟨vs,h1,aE.cS caps vs hf h2⟩
 | .iface t v,cs,hf,hr=>by
  simp only[af,I.cS] at *;obtain ⟨ao,cs',h1,h2,h3⟩:=hr;exact ⟨ao,cs',h1,h2,af.cS v cs' hf h3⟩
 | .slice sz es,cs,hf,hr=>by
  simp only[af,I.cS,List.isEmpty_iff] at *;subst hf;obtain ⟨a,cap,h1,h2,h3,_,h5⟩:=hr;exact ⟨a,cap,h1,h2,h3,.inl rfl,h5⟩
 | .ref _,_,hf,_ | .cL _ _,_,hf,_=>by simp[I.cS] at hf
 | .undef,_,_,hr | .c8,_,_,hr | .tuple _,_,_,hr=>by simp only[af] at hr
theorem aG.cS{w w':World}{D D':aL}{E:aT} : ∀ (xs:List I) (cs:List Value),I.iM xs=true→aG w D E xs cs→aG w' D' E xs cs
 | [],cs,_,hr=>by simpa only[aG] using hr
 |x::xs,cs,hf,hr=>by
  simp only[aG,I.iM,zz2] at *;obtain ⟨c1,c2,h1,h2,h3⟩:=hr;exact ⟨c1,c2,h1,af.cS x c1 hf.1 h2,aG.cS xs c2 hf.2 h3⟩
theorem aE.cS{w w':World}{D D':aL}{E:aT} : ∀ (xs:List I) (vs:List Value),I.iM xs=true→aE w D E xs vs→aE w' D' E xs vs
 | [],vs,_,hr=>by simpa only[aE] using hr
 |x::xs,vs,hf,hr=>by
  simp only[aE,I.iM,zz2] at *;obtain ⟨v,rest,cs,h1,h2,h3,h4⟩:=hr;exact ⟨v,rest,cs,h1,h2,af.cS x cs hf.1 h3,aE.cS xs rest hf.2 h4⟩
end
theorem aS.cS{w w':World}{D D':aL}{E:aT}{x:I}{v:Value}(hf:x.cS=true)(hr:aS w D E x v):aS w' D' E x v:=by
 cases x <;>simp only[aS] at * <;>first
  |exact hr
  |(obtain ⟨vs,h1,h2⟩:=hr;exact ⟨vs,h1,aE.cS _ _ (by simpa[I.cS] using hf) h2⟩)
  |(obtain ⟨cs,h1,h2⟩:=hr;exact ⟨cs,h1,af.cS _ _ hf h2⟩)
def dJ(ρ:List (Nat×Nat))(os:List (Nat×ah)):List (Nat×ah):=os.map fun q=>(bD ρ q.1,q.2.aO (bD ρ))
def pre(ρ:List (Nat×Nat))(os:List (Nat×ah))(n:Nat):Option Nat:=(os.find? fun q=>bD ρ q.1==n).map (·.1)
theorem wN{os:List (Nat×ah)}{m:Nat} : aq os m=true↔∃ q∈os,q.1=m:=by
 induction os with
 |nil=>simp[aq,aj]
 |cons q os ih =>
  obtain ⟨k,v⟩:=q;simp only[aq,aj] at *;by_cases h:m=k
  ·subst h;simp
  ·simp only[if_neg h,ih,zw9,Prod.exists,exists_and_right,exists_eq_right];constructor
   ·rintro ⟨a,b⟩;exact ⟨a,.inr b⟩
   ·rintro ⟨a,b | b⟩
    ·cases b;exact absurd rfl h
    ·exact ⟨a,b⟩
theorem lG{ρ:List (Nat×Nat)}{os:List (Nat×ah)}{n m:Nat}(h:pre ρ os n=some m):aq os m=true∧bD ρ m=n:=by
 simp only[pre,zz0] at h;obtain ⟨q,hq,rfl⟩:=h;exact ⟨wN.2 ⟨q,List.mem_of_find?_eq_some hq,rfl⟩,by simpa using List.find?_some hq⟩
theorem xS{ρ:List (Nat×Nat)}{os:List (Nat×ah)}{n m:Nat}(h:pre ρ os n=none)(hm:aq os m=true):bD ρ m≠n:=by
 simp only[pre,Option.map_eq_none_iff,List.find?_eq_none] at h;obtain ⟨q,hq,rfl⟩:=wN.1 hm;simpa using h q hq
theorem qA(ρ:List (Nat×Nat))(os os0:List (Nat×ah))(n:Nat):aj (dJ ρ os++os0) n=match pre ρ os n with
  |some m=>(aj os m).map (ah.aO (bD ρ))
  |none=>aj os0 n:=by
 induction os with
 |nil=>simp[dJ,pre]
 |cons q os ih =>
  obtain ⟨k,v⟩:=q;simp only[dJ,zz9,zy0,aj,pre,List.find?_cons] at *;by_cases h:bD ρ k=n
  ·subst h;simp
  ·rw[if_neg (Ne.symm h)];have hb:(bD ρ k==n)=false:=by simpa using h
   rw[hb,ih];simp only;cases hf:os.find? (fun q=>bD ρ q.1==n) with
   |none=>rfl
   |some q =>
    simp only[zy3];have hq:=List.find?_some hf;have hne:q.1≠k:=fun e=>h (by rw[←e];simpa using hq);rw[if_neg hne]
def av(ρ:List (Nat×Nat))(os:List (Nat×ah))(E:aT):aT:=fun n=>if aq os n then E (bD ρ n) else none
structure fS (ρ:List (Nat×Nat)) (os os0:List (Nat×ah)):Prop where
 bt:∀ m x,aj os m=some x→aj os0 (bD ρ m)=some (x.aO (bD ρ))∧x.only (aq os)=true∧x.eH=true
 inj:∀ m m',aq os m=true→aq os m'=true→bD ρ m=bD ρ m'→m=m'
structure er (aB:Bool) (ρ:List (Nat×Nat)) (os os0:List (Nat×ah)) (r:I) (os':List (Nat×ah)):Prop where
 bt:∀ m x,aj os' m=some x→x.only (aq os')=true∧x.eH=true∧(aB=true→x.cS=true)
 inj:∀ m m',aq os' m=true→aq os' m'=true→bD ρ m=bD ρ m'→m=m'
 old:∀ m,aq os m=true→aq os' m=true
 pq:∀ m,aq os' m=true→aq os m=false→aj os0 (bD ρ m)=none∧bD ρ m<1000000
 x5:r.only (aq os')=true∧(aB=true→r.cS=true)
section
variable {c:cI} {a:Act} {w:World} {D:aL} {E:aT} {ts:List (Nat×I)} {os0 os:List (Nat×ah)} {ρ:List (Nat×Nat)}
theorem aP.given(hs:aP c (ar ts os0) a w D E)(hg:fS ρ os os0){m:Nat}(hm:aq os m=true):∃ x e,aj os m=some x∧av ρ os E m=some e∧E (bD ρ m)=some e∧cY (fun _=>True) w D (av ρ os E) m (some x) ∧
  ∀ b,e.aD=some b→c.eU b∧(∃ o,w.heap[b]?=some o∧xm o=true)∧b<w.heap.size∧(e.eH=true→∀ o,¬ D b o):=by
 cases hx:aj os m with
 |none=>simp[aq,hx] at hm
 |some x =>
  obtain ⟨h1,h2,h3⟩:=hg.bt m x hx;have ho:=hs.bU (bD ρ m);simp only[ar] at ho;rw[h1] at ho;have hEm:av ρ os E m=E (bD ρ m):=by simp only[av,hm,if_true]
  have hin:∀ n,aq os n=true→E (bD ρ n)=av ρ os E n:=fun n hn=>by simp only[av,hn,if_true]
  cases x with
  |bT T sz es =>
   obtain ⟨aD,k1,k2,k3⟩:=ho;rw[qS] at k1;have h2':I.b8 (aq os) es=true:=h2;have k2':∀ e∈es,e.size=sz:=fun e he=>by rw[←qR (bD ρ) e];exact k2 _ (by rw[od];exact zx5.2 ⟨e,he,rfl⟩)
   refine ⟨_,_,rfl,hEm.trans k1,k1,⟨aD,hEm.trans k1,k2',?_⟩,fun b hb =>?_⟩
   ·cases aD with
    |none=>simp only[od,List.map_eq_nil_iff] at k3;exact k3
    |some bc =>
     obtain ⟨b,cap⟩:=bc;obtain ⟨cs,pr,rest,q1,q2,q3,q4,q5,q6,q7,q8⟩:=k3;rw[qS] at q6;exact ⟨cs,pr,rest,trivial,q2,q3,(aG.aO (p:=aq os) hin es _ h2').1 q4,q5,q6,q7,q8⟩
   ·cases aD with
    |none=>cases hb
    |some bc =>
     obtain ⟨b',cap⟩:=bc;cases hb;obtain ⟨cs,pr,rest,q1,q2,_⟩:=k3;exact ⟨q1,⟨_,q2,rfl⟩,fH q2,fun h=>by cases h⟩
  |box y =>
   obtain ⟨b,cs,T,k1,k2,k3,k4,k5⟩:=ho;rw[x4] at k1;refine ⟨_,_,rfl,hEm.trans k1,k1,⟨b,cs,T,hEm.trans k1,trivial,k3,?_,k5⟩,fun b' hb =>?_⟩
   ·exact (af.aO (p:=aq os) hin y _ (by simpa[ah.only] using h2)).1 k4
   ·cases hb;exact ⟨k2,⟨_,k3,rfl⟩,fH k3,fun _=>k5⟩
  |dD o =>
   obtain ⟨b,k1,k2,k3,k4,k5⟩:=ho;exact ⟨_,_,rfl,hEm.trans k1,k1,⟨b,hEm.trans k1,trivial,k3,k4,k5⟩,fun b' hb=>by cases hb;exact ⟨k2,⟨_,k3,af9 k4⟩,fH k3,fun _=>k5⟩⟩
  |cq ks vs =>
   obtain ⟨b,es,ck,k1,k2,k3,k4,k5,k6,k7⟩:=ho;simp only[ah.only,zz2] at h2;exact ⟨_,_,rfl,hEm.trans k1,k1,⟨b,es,ck,hEm.trans k1,trivial,k3,k4,(aE.aO (p:=aq os) hin ks _ h2.1).1 k5,(aE.aO (p:=aq os) hin vs _ h2.2).1 k6,k7⟩,
    fun b' hb=>by cases hb;exact ⟨k2,⟨_,k3,rfl⟩,fH k3,fun _=>k7⟩⟩
  |it ks vs left cur=>cases h3
  |cO T xs =>
   obtain ⟨aD,k1,k2,k3⟩:=ho;refine ⟨_,_,rfl,hEm.trans k1,k1,⟨aD,hEm.trans k1,k2,?_⟩,fun b hb =>?_⟩
   ·cases aD with
    |none=>exact k3
    |some bc =>
     obtain ⟨b,cap⟩:=bc;obtain ⟨cs,r,q1,q2⟩:=k3;exact ⟨cs,r,trivial,q2⟩
   ·cases aD with
    |none=>cases hb
    |some bc =>
     obtain ⟨b',cap⟩:=bc;cases hb;obtain ⟨cs,r,q1,q2,_⟩:=k3;exact ⟨q1,⟨_,q2,rfl⟩,fH q2,fun h=>by cases h⟩
theorem aP.su(hs:aP c (ar ts os0) a w D E)(hg:fS ρ os os0){b:Nat}(hb:dm (av ρ os E) b):∃ m e,aq os m=true∧E (bD ρ m)=some e∧e.aD=some b∧c.eU b∧(∃ o,w.heap[b]?=some o∧xm o=true)∧b<w.heap.size:=by
 obtain ⟨m,e,h1,h2⟩:=hb;by_cases hm:aq os m=true
 ·obtain ⟨x,e',k1,k2,k3,k4,k5⟩:=hs.given hg hm;rw[k2,u8] at h1;subst h1;obtain ⟨q1,q2,q3,_⟩:=k5 b h2;exact ⟨m,_,hm,k3,h2,q1,q2,q3⟩
 ·simp[av,hm] at h1
theorem aP.Jl(hs:aP c (ar ts os0) a w D E)(hg:fS ρ os os0){D1:aL}(hD:∀ b o,D b o→D1 b o)(hown:∀ b o,D1 b o→dm (av ρ os E) b→D b o):kO (fun _=>True) w D1 (av ρ os E) (aj os):=by
 refine ⟨fun n =>?_,fun n m e e' b h1 h2 h3 h4 =>?_⟩
 ·cases hx:aj os n with
  |none=>simp[cY,av,aq,hx]
  |some x =>
   have hm:aq os n=true:=by simp[aq,hx]
   obtain ⟨y,e,k1,k2,k3,k4,k5⟩:=hs.given hg hm;rw[hx,u8] at k1;subst k1;refine k4.bE (E':=av ρ os E) ⟨hD,fun _ _ _ _ h=>h,fun _ _ _ h=>h,fun _ aD l h=>⟨aD,l,h,zz6 _,fun _=>rfl⟩,fun _ _ h=>h,fun _ _ h=>h,fun _ _ _ _ h=>h⟩ rfl fun e' b' he hb'=>⟨rfl,fun o ho =>?_⟩
   exact hown b' o ho ⟨n,e',he,hb'⟩
 ·have hn:aq os n=true:=by
   by_cases h:aq os n=true;· exact h
   ·simp[av,h] at h1
  have hm:aq os m=true:=by
    by_cases h:aq os m=true;· exact h
    ·simp[av,h] at h2
  simp only[av,hn,hm,if_true] at h1 h2;exact hg.inj n m hn hm (hs.cM _ _ e e' b h1 h2 h3 h4)
theorem aP.oM(hs:aP c (ar ts os0) a w D E)(hg:fS ρ os os0){aB:Bool}{D1:aL}(hD:∀ b o,D b o→D1 b o)(hbx:aB=false→∀ b o,D1 b o→D b o){w':World}{D':aL}{E':aT}{v:Value}{r:I}{os':List (Nat×ah)}
  (hb:er aB ρ os os0 r os') (hr:aS w' D' E' r v) (hh:kO (fun b=>w.heap.size≤b∨dm (av ρ os E) b) w' D' E' (aj os')) (hk:fv (fun b=>w.heap.size≤b∨dm (av ρ os E) b) w w')
  (hlive:∀ b o,D' b o→b<w'.heap.size) (hup:∀ b o,D1 b o→D' b o) (hst:gU w D1 w') (hold:∀ b o,D' b o→b<w.heap.size→¬ dm (av ρ os E) b→D1 b o) (hbox:∀ n e,av ρ os E n=some e→aq os' n=true→∃ e',E' n=some e'∧e.le e') :
  ∃ D2 E2,aP c (ar ts (dJ ρ os'++os0)) a w' D2 E2∧aS w' D2 E2 (r.aO (bD ρ)) v∧∀ m e,av ρ os E m=some e→aq os' m=true→∃ e',E2 (bD ρ m)=some e'∧e.le e':=by
 obtain ⟨M1,hM1⟩:∃ M1:Nat→Prop,M1=fun b=>w.heap.size≤b∨dm (av ρ os E) b:=⟨_,rfl⟩
 rw[←hM1] at hh hk;obtain ⟨D2,hD2⟩:∃ D2:aL,D2=fun b o=>D b o∨(M1 b∧D' b o):=⟨_,rfl⟩
 obtain ⟨E2,hE2⟩:∃ E2:aT,E2=fun n=>match pre ρ os' n with | some m=>E' m | none=>E n:=⟨_,rfl⟩
 have me:∀ b,M1 b→c.eU b:=fun b hb'=>by
  rw[hM1] at hb';rcases hb' with h | h
  ·exact .inl (zv7 hs.dK.size h)
  ·obtain ⟨m,e,_,_,_,h3,_⟩:=hs.su hg h;exact h3
 have upD:∀ b o,D b o→D' b o:=fun b o hd=>hup b o (hD b o hd);have E2m:∀ m,aq os' m=true→E2 (bD ρ m)=E' m:=fun m hm=>by
  rw[hE2];simp only;cases hp:pre ρ os' (bD ρ m) with
  |none=>exact absurd rfl (xS hp hm)
  |some m' =>
   obtain ⟨h1,h2⟩:=lG hp;rw[hb.inj m' m h1 hm h2]
 have E2o:∀ n,pre ρ os' n=none→E2 n=E n:=fun n hn=>by rw[hE2];simp only[hn]
 -- a name that has a new meaning: one that was handed over,or one that was free
 have cas:∀ n m,pre ρ os' n=some m→(aq os m=true∧∃ e e',E n=some e∧E' m=some e'∧e.le e')∨(aq os m=false∧E n=none∧c.dL n=none):=fun n m hp=>by
  obtain ⟨h1,h2⟩:=lG hp;cases hm:aq os m with
  |true =>
   obtain ⟨y,e,k1,k2,k3,_⟩:=hs.given hg hm;rw[h2] at k3;obtain ⟨e',q1,q2⟩:=hbox m e k2 h1;exact .inl ⟨rfl,e,e',k3,q1,q2⟩
  |false =>
   obtain ⟨k1,k2⟩:=hb.pq m h1 hm;rw[h2] at k1 k2;have ho:=hs.bU n;simp only[ar,k1] at ho;exact .inr ⟨rfl,ho,hs.jU (.inr k2)⟩
 have hl:dG w D E w' D2 E2:=by
  have fA:∀ n e,E n=some e→∃ e',E2 n=some e'∧e.le e':=fun n e he=>by
   cases hp:pre ρ os' n with
   |none=>exact ⟨e,by rw[E2o n hp];exact he,.refl e⟩
   |some m =>
    rw[hE2];simp only[hp];rcases cas n m hp with ⟨_,e1,e2,k1,k2,k3⟩ | ⟨_,k1,_⟩
    ·rw[he] at k1;cases k1;exact ⟨e2,k2,k3⟩
    ·rw[he] at k1;cases k1
  have keepf:∀ n e,E n=some e→e.eH=true→E2 n=some e:=fun n e he hf=>by
   obtain ⟨e',k1,k2⟩:=fA n e he;rw[k1,k2.eq hf]
  refine ⟨fun b o h=>by rw[hD2];exact .inl h,fun b o v' hd hv=>hst.cell b o v' (hD b o hd) hv,fun n b aJ he=>keepf n _ he rfl,fun n aD l he =>?_,fun n b he=>keepf n _ he rfl,fun n b he=>keepf n _ he rfl,fun b es ck hd hm=>hst.jj b es ck (hD b 0 hd) hm⟩;obtain ⟨e',k1,k2⟩:=fA n _ he;rcases k2 with rfl | ⟨_,_,blk',l',e,rfl,k3,k4⟩
  ·exact ⟨aD,l,k1,zz6 _,fun _=>rfl⟩
  ·cases e;exact ⟨blk',l',k1,k3,k4⟩
 -- blocks of names that were not handed over
 have other:∀ n e b,pre ρ os' n=none→E n=some e→e.aD=some b→¬ M1 b:=fun n e b hp he hb' hm=>by
  rw[hM1] at hm;rcases hm with h | h
  ·exact absurd (hs.fG he hb') (by omega)
  ·obtain ⟨m,e',h1,h2,h3,_⟩:=hs.su hg h;have:=hs.cM n (bD ρ m) e _ b he h2 hb' h3;exact xS hp (hb.old m h1) this.symm
 have toD2:∀ {x:I} {cs:List Value},(aB=true→x.cS=true)→af w' D' E2 x cs→af w' D2 E2 x cs:=fun {x cs} hx h=>by
  cases hbb:aB with
  |true=>exact af.cS x cs (hx hbb) h
  |false =>
   refine af.bE (E:=E2) ⟨fun b o hd =>?_,fun _ _ _ _ h=>h,fun _ _ _ h=>h,fun _ aD l h=>⟨aD,l,h,zz6 _,fun _=>rfl⟩,fun _ _ h=>h,fun _ _ h=>h,fun _ _ _ _ h=>h⟩ x cs h;rw[hD2];by_cases hm:M1 b
   ·exact .inr ⟨hm,hd⟩
   ·rw[hM1] at hm;exact .inl (hbx hbb b o (hold b o hd (Nat.lt_of_not_le fun h=>hm (.inl h)) fun h=>hm (.inr h)))
 have toD2c:∀ {xs:List I} {cs:List Value},I.b8 (aq os') xs=true→(aB=true→I.iM xs=true)→aG w' D' E' xs cs→aG w' D2 E2 (I.cP (bD ρ) xs) cs:=fun {xs cs} ho hx h=>by
  cases hbb:aB with
  |true=>exact (aG.aO (w:=w') (D:=D2) (p:=aq os') (ρ:=bD ρ) (E:=E') (E':=E2) (fun n hn=>E2m n hn) xs cs ho).2 (aG.cS xs cs (hx hbb) h)
  |false =>
   have h2:=(aG.aO (w:=w') (D:=D') (p:=aq os') (ρ:=bD ρ) (E:=E') (E':=E2) (fun n hn=>E2m n hn) xs cs ho).2 h;refine aG.bE (E:=E2) ⟨fun b o hd =>?_,fun _ _ _ _ h=>h,fun _ _ _ h=>h,fun _ aD l h=>⟨aD,l,h,zz6 _,fun _=>rfl⟩,fun _ _ h=>h,fun _ _ h=>h,fun _ _ _ _ h=>h⟩ _ cs h2;rw[hD2];by_cases hm:M1 b
   ·exact .inr ⟨hm,hd⟩
   ·rw[hM1] at hm;exact .inl (hbx hbb b o (hold b o hd (Nat.lt_of_not_le fun h=>hm (.inl h)) fun h=>hm (.inr h)))
 have toD2s:∀ {xs:List I} {cs:List Value},I.b8 (aq os') xs=true→(aB=true→I.iM xs=true)→aE w' D' E' xs cs→aE w' D2 E2 (I.cP (bD ρ) xs) cs:=fun {xs cs} ho hx h=>by
  cases hbb:aB with
  |true=>exact (aE.aO (w:=w') (D:=D2) (p:=aq os') (ρ:=bD ρ) (E:=E') (E':=E2) (fun n hn=>E2m n hn) xs cs ho).2 (aE.cS xs cs (hx hbb) h)
  |false =>
   have h2:=(aE.aO (w:=w') (D:=D') (p:=aq os') (ρ:=bD ρ) (E:=E') (E':=E2) (fun n hn=>E2m n hn) xs cs ho).2 h;refine aE.bE (E:=E2) ⟨fun b o hd =>?_,fun _ _ _ _ h=>h,fun _ _ _ h=>h,fun _ aD l h=>⟨aD,l,h,zz6 _,fun _=>rfl⟩,fun _ _ h=>h,fun _ _ h=>h,fun _ _ _ _ h=>h⟩ _ cs h2;rw[hD2];by_cases hm:M1 b
   ·exact .inr ⟨hm,hd⟩
   ·rw[hM1] at hm;exact .inl (hbx hbb b o (hold b o hd (Nat.lt_of_not_le fun h=>hm (.inl h)) fun h=>hm (.inr h)))
 refine ⟨D2,E2,⟨hs.sz,hs.eF.mono fun B _ hB =>?_,fun t=>aS.bE hl (hs.ea t),hs.dK.trans ⟨hk.os,hk.tape,hk.output,hk.size,fun k hk'=>hk.block k fun h=>hk' (me k h)⟩,fun b o hd hm =>?_,fun b o hd =>?_,fun n =>?_,?_,fun n e hn =>?_,hs.eO,
  fun b o hd=>hl.cV b o (hs.cG b o hd),hs.eS,hs.kL hl⟩,?_,fun m e k1 k3=>by rw[E2m m k3];exact hbox m e k1 k3⟩
 ·refine (hk.block B fun hm =>?_).trans hB;rw[hM1] at hm;rcases hm with h | h
  ·exact absurd (zx8.1 hB).1 (by omega)
  ·obtain ⟨m,e,_,_,_,_,⟨o,h4,h5⟩,_⟩:=hs.su hg h;rw[hB] at h4;cases h4;cases h5
 ·rw[hD2] at hd;rcases hd with hd | ⟨h1,_⟩
  ·exact hs.cV b o hd hm
  ·exact absurd (me b h1) hm
 ·rw[hD2] at hd;rcases hd with hd | ⟨_,h1⟩
  ·exact Nat.lt_of_lt_of_le (hs.c9 b o hd) hk.size
  ·exact hlive b o h1
 ·simp only[ar,qA];cases hp:pre ρ os' n with
  |none =>
   simp only;refine (hs.bU n).bE hl (E2o n hp) fun e b he hb'=>⟨hk.block b (other n e b hp he hb'),fun o ho =>?_⟩
   rw[hD2] at ho;rcases ho with ho | ⟨h1,_⟩
   ·exact ho
   ·exact absurd h1 (other n e b hp he hb')
  |some m =>
   simp only;obtain ⟨h1,h2⟩:=lG hp;cases hx:aj os' m with
   |none=>simp[aq,hx] at h1
   |some x =>
    obtain ⟨k1,kf,k2⟩:=hb.bt m x hx;have ho:=hh.bU m;rw[hx] at ho;have noD:∀ b,(∀ o,¬ D' b o)→∀ o,¬ D2 b o:=fun b hno o ho=>by
     rw[hD2] at ho;rcases ho with ho | ⟨_,ho⟩
     ·exact hno o (upD b o ho)
     ·exact hno o ho
    cases x with
    |bT T sz es =>
     obtain ⟨aD,q1,q2,q3⟩:=ho;simp only[zy3,ah.aO,cY,qS];refine ⟨aD,by rw[←h2,E2m m h1];exact q1,fun e he =>?_,?_⟩
     ·rw[od] at he;obtain ⟨e',he',rfl⟩:=zx5.1 he;rw[qR];exact q2 e' he'
     ·cases aD with
      |none=>simp only at q3 ⊢;rw[q3];rfl
      |some bc =>
       obtain ⟨b,cap⟩:=bc;obtain ⟨cs,pr,rest,g1,g2,g3,g4,g5,g6,g7,g8⟩:=q3;refine ⟨cs,pr,rest,me b g1,g2,g3,toD2c (by simpa[ah.only] using k1) (fun h=>by simpa[ah.cS] using k2 h) g4,g5,g6,g7,fun o ho =>?_⟩;rw[hD2] at ho;rcases ho with ho | ⟨_,ho⟩
       ·exact g8 o (upD b o ho)
       ·exact g8 o ho
    |cO T xs =>
     obtain ⟨aD,q1,q2,q3⟩:=ho;simp only[zy3,ah.aO,cY];refine ⟨aD,by rw[←h2,E2m m h1];exact q1,q2,?_⟩;cases aD with
     |none=>exact q3
     |some bc =>
      obtain ⟨b,cap⟩:=bc;obtain ⟨cs,r,g1,g2,g3,g4,g5,g6,g7⟩:=q3;exact ⟨cs,r,me b g1,g2,g3,g4,g5,g6,noD b g7⟩
    |dD x =>
     obtain ⟨b,q1,q2,q3,q4,q5⟩:=ho;simp only[zy3,ah.aO,cY];exact ⟨b,by rw[←h2,E2m m h1];exact q1,me b q2,q3,q4,noD b q5⟩
    |it ks vs left cur=>cases kf
    |cq ks vs =>
     obtain ⟨b,es,ck,q1,q2,q3,q4,q5,q6,q7⟩:=ho;simp only[zy3,ah.aO,cY];simp only[ah.only,zz2] at k1;simp only[ah.cS,zz2] at k2;exact ⟨b,es,ck,by rw[←h2,E2m m h1];exact q1,me b q2,q3,q4,toD2s k1.1 (fun h=>(k2 h).1) q5,toD2s k1.2 (fun h=>(k2 h).2) q6,noD b q7⟩
    |box y =>
     obtain ⟨b,cs,T,q1,q2,q3,q4,q5⟩:=ho;simp only[zy3,ah.aO,cY];refine ⟨b,cs,T,by rw[x4,←h2,E2m m h1];exact q1,me b q2,q3,?_,noD b q5⟩;have h3:=(af.aO (w:=w') (D:=D') (p:=aq os') (ρ:=bD ρ) (E:=E') (E':=E2) (fun n hn=>E2m n hn) y cs.toList (by simpa[ah.only] using k1)).2 q4;cases hbb:aB with
     |true =>
      have h4:af w' D2 E' y cs.toList:=af.cS y _ (k2 hbb) q4;exact (af.aO (w:=w') (D:=D2) (p:=aq os') (ρ:=bD ρ) (E:=E') (E':=E2) (fun n hn=>E2m n hn) y cs.toList (by simpa[ah.only] using k1)).2 h4
     |false=>exact toD2 (fun h=>by rw[hbb] at h;cases h) h3
 ·intro n m e e' b h1 h2 h3 h4;have blk':∀ n m e,pre ρ os' n=some m→E2 n=some e→e.aD=some b→M1 b∧E' m=some e:=fun n m e hp he hb'=>by
   obtain ⟨k1,k2⟩:=lG hp;rw[←k2,E2m m k1] at he;cases hx:aj os' m with
   |none=>simp[aq,hx] at k1
   |some x =>
    obtain ⟨_,kf,_⟩:=hb.bt m x hx;have ho:=hh.bU m;rw[hx] at ho;cases x with
    |bT T sz es =>
     obtain ⟨aD,q1,q2,q3⟩:=ho;rw[q1,u8] at he;subst he;cases aD with
     |none=>cases hb'
     |some bc =>
      obtain ⟨b',cap⟩:=bc;cases hb';obtain ⟨cs,pr,rest,g1,_⟩:=q3;exact ⟨g1,q1⟩
    |it ks vs left cur=>cases kf
    |cO T xs =>
     obtain ⟨aD,q1,q2,q3⟩:=ho;rw[q1,u8] at he;subst he;cases aD with
     |none=>cases hb'
     |some bc =>
      obtain ⟨b',cap⟩:=bc;cases hb';obtain ⟨cs,r,g1,_⟩:=q3;exact ⟨g1,q1⟩
    |cq ks vs =>
     obtain ⟨b',es,ck,q1,q2,_⟩:=ho;rw[q1,u8] at he;subst he;cases hb';exact ⟨q2,q1⟩
    |dD x =>
     obtain ⟨b',q1,q2,_⟩:=ho;rw[q1,u8] at he;subst he;cases hb';exact ⟨q2,q1⟩
    |box y =>
     obtain ⟨b',cs,T,q1,q2,_⟩:=ho;rw[q1,u8] at he;subst he;cases hb';exact ⟨q2,q1⟩
  cases hn:pre ρ os' n with
  |none =>
   have g1:E n=some e:=by rw[←E2o n hn];exact h1
   cases hm:pre ρ os' m with
   |none=>exact hs.cM n m e e' b g1 (by rw[←E2o m hm];exact h2) h3 h4
   |some m'=>exact absurd (blk' m m' e' hm h2 h4).1 (other n e b hn g1 h3)
  |some n' =>
   have g1:=blk' n n' e hn h1 h3;cases hm:pre ρ os' m with
   |none=>exact absurd g1.1 (other m e' b hm (by rw[←E2o m hm];exact h2) h4)
   |some m' =>
    have g2:=blk' m m' e' hm h2 h4;have:=hh.cM n' m' e e' b g1.2 g2.2 h3 h4;rw[←(lG hn).2,←(lG hm).2,this]
 ·cases hp:pre ρ os' n with
  |none=>rw[E2o n hp];exact hs.dQ n e hn
  |some m =>
   rcases cas n m hp with ⟨_,e1,e2,k1,k2,k3⟩ | ⟨_,_,k1⟩
   ·rcases hs.dQ n e hn with h | ⟨e3,h,h'⟩
    ·rw[h] at k1;cases k1
    ·rw[k1,u8] at h;subst h
     right
     rw[hE2];simp only[hp];exact ⟨e2,k2,h'.trans k3⟩
   ·rw[hn] at k1;cases k1
 ·have h3:=(aS.aO (w:=w') (p:=aq os') (ρ:=bD ρ) (E:=E') (E':=E2) (D:=D') (fun n hn=>E2m n hn) (v:=v) hb.x5.1).2 hr;cases hbb:aB with
  |true=>exact (aS.aO (w:=w') (p:=aq os') (ρ:=bD ρ) (E:=E') (E':=E2) (D:=D2) (fun n hn=>E2m n hn) (v:=v) hb.x5.1).2 (aS.cS (hb.x5.2 hbb) hr)
  |false =>
   refine aS.bE (E:=E2) ⟨fun b o hd =>?_,fun _ _ _ _ h=>h,fun _ _ _ h=>h,fun _ aD l h=>⟨aD,l,h,zz6 _,fun _=>rfl⟩,fun _ _ h=>h,fun _ _ h=>h,fun _ _ _ _ h=>h⟩ h3;rw[hD2];by_cases hm:M1 b
   ·exact .inr ⟨hm,hd⟩
   ·rw[hM1] at hm;exact .inl (hbx hbb b o (hold b o hd (Nat.lt_of_not_le fun h=>hm (.inl h)) fun h=>hm (.inr h)))
end
theorem tU(z:Array Value):∀ n:Nat,(Builtin.zeroCells z n).toList=(List.replicate n z.toList).flatten
 |0=>by simp[Builtin.zeroCells]
 |n+1=>by
  rw[List.replicate_succ,List.flatten_cons,←tU z n];apply List.ext_getElem?;intro i;by_cases hz:z.size=0
  ·have hz':z = #[]:=Array.eq_empty_of_size_eq_zero hz;subst hz';simp[Builtin.zeroCells]
  have hpos:0<z.size:=Nat.pos_of_ne_zero hz;by_cases hi:i<z.toList.length
  ·rw[zx1 hi];have hi':i<z.size:=by simpa using hi
   have h1:i<(n+1)*z.size:=by rw[Nat.succ_mul];omega
   simp only[Builtin.zeroCells,Array.toList_map,Array.toList_range,zx7,List.getElem?_range h1,zy3,Nat.mod_eq_of_lt hi'];simp[hi']
  ·rw[zx9 (by omega)];have hi':z.size≤i:=by simpa using hi
   simp only[Builtin.zeroCells,Array.toList_map,Array.toList_range,zx7,zw8];by_cases h2:i<(n+1)*z.size
   ·have h3:i-z.size<n*z.size:=by rw[Nat.succ_mul] at h2;omega
    rw[List.getElem?_range h2,List.getElem?_range h3];simp only[zy3];rw[←Nat.mod_eq_sub_mod hi']
   ·have h3:¬ i-z.size<n*z.size:=by rw[Nat.succ_mul] at h2;omega
    rw[List.getElem?_eq_none (by simpa using h2),List.getElem?_eq_none (by simpa using h3)]
theorem qP{w:World}{D:aL}{E:aT}{z:I}{cs:List Value}(h:af w D E z cs):∀ n:Nat,aG w D E (List.replicate n z) (List.replicate n cs).flatten
 |0=>by simp[aG]
 |n+1=>by
  simp only[List.replicate_succ,List.flatten_cons,aG];exact ⟨cs,_,rfl,h,qP h n⟩
def ep(A:ae)(sz:Nat):I→Option (List I)
 | .slice z es=>if z=sz then some es else none
 | .nils _=>some []
 | .c0 _=>some []
 | .own n l=>match A.o n with
  |some (.bT _ z es)=>if l=es.length∧z=sz then some es else none
  |_=>none
 | .view n p z lo k=>match cz A (.ptr n p) with
  |some (.agg fs)=>if lo+k≤fs.length∧z=sz then some ((fs.drop lo).take k) else none
  |_=>none
 |_=>none
section
variable {c:cI} {A:ae} {a:Act} {w:World} {D:aL} {E:aT}
theorem aP.view(h:aP c A a w D E){n:Nat}{p:List Nat}{sz lo k:Nat}{v:Value}{fs:List I}(hv:aS w D E (.view n p sz lo k) v)(hx:cz A (.ptr n p)=some (.agg fs)) :
  ∃ y b cs T off c1 c2 c3,A.o n=some (.box y)∧E n=some (.aB b y.aJ)∧w.heap[b]?=some (.cells cs T (0,0))∧y.at p=some (.agg fs)∧y.aJ.off p=some off∧cs.toList=c1++c2++c3∧c1.length=off∧aG w D E fs c2 ∧
   af w D E y cs.toList∧(∀ f∈fs,f.size=sz)∧lo+k≤fs.length∧fs.length≤maxLen∧v=.slice (some ⟨b,off+lo*sz,none⟩) k (fs.length-lo):=by
 obtain ⟨z,b',cs',T,off',c1,c2,c3,k1,k2,_,k3,k4,k5,k6,k7,k8,k9,_⟩:=h.at hx;obtain ⟨vs,g1,g2⟩:=hv;simp only[af] at g2;obtain ⟨b,aJ,off,l,h1,h2,h3,h4,h5,h6,h7⟩:=g2;rw[k2] at h1;simp only[u8,bS.aB.injEq] at h1;obtain ⟨rfl,rfl⟩:=h1;rw[k5,u8] at h2;subst h2;rw[mD p z _ k4] at h3;simp only[I.aJ,u8,cJ.dU.injEq] at h3;subst h3;rw[I.de,zy1] at h4 h5 h6;refine ⟨z,b',cs',T,off',c1,c2,c3,k1,k2,k3,k4,k5,k6,k7,by simpa only[af] using k8,k9,Ng h7,h6,h5,?_⟩;simpa[bG,I.isAgg,h4] using g1.symm
theorem aP.nw(h:aP c A a w D E){sz:Nat}{x:I}{v:Value}{ys:List I}(hv:aS w D E x v)(hs:ep A sz x=some ys) :
  ∃ ad cp news,v=.slice ad ys.length cp∧ys.length≤cp∧cp≤maxLen∧aG w D E ys news∧(∀ y∈ys,y.size=sz)∧(ys≠[]→∃ b o,ad=some ⟨b,o,none⟩∧∀ j ao,news[j]?=some ao→w.cell? ⟨b,o+j,none⟩=some ao):=by
 cases x <;>simp only[ep] at hs <;>try (cases hs;done)
 case nils z =>
  simp only[u8] at hs;subst hs;obtain ⟨cs,q1,q2⟩:=hv;simp only[af] at q2;exact ⟨none,0,[],by simpa[bG,I.isAgg,q2] using q1.symm,by simp,by simp[maxLen],by simp[aG],by simp,fun h=>absurd rfl h⟩
 case c0 z =>
  simp only[u8] at hs;subst hs;obtain ⟨cs,q1,q2⟩:=hv;simp only[af] at q2;obtain ⟨ad,q2⟩:=q2;exact ⟨ad,0,[],by simpa[bG,I.isAgg,q2] using q1.symm,by simp,by simp[maxLen],by simp[aG],by simp,fun h=>absurd rfl h⟩
 case slice z es =>
  split at hs
  ·rename_i hz;simp only[u8] at hs;subst hs hz;obtain ⟨ad,cap,e1,e2,e3,e4,e5⟩:=nt hv;rcases e4 with rfl | ⟨b,off,cs,rfl,q1,q2⟩
   ·exact ⟨ad,cap,[],e1,e2,e3,by simp[aG],by simp,fun h=>absurd rfl h⟩
   ·exact ⟨_,cap,cs,e1,e2,e3,q2,e5,fun _=>⟨b,off,rfl,fun j ao hj=>(q1 j ao hj).1⟩⟩
  ·cases hs
 case own n l =>
  split at hs
  ·rename_i T z es hn;split at hs
   ·rename_i hz;obtain ⟨hz1,rfl⟩:=hz;simp only[u8] at hs;subst hs;obtain ⟨aD,k1,k2,k3⟩:=h.bT hn;obtain ⟨cs,q1,q2⟩:=hv;simp only[af] at q2;obtain ⟨blk',l',g1,g2,_,g4⟩:=q2;rw[k1] at g1;simp only[u8,bS.rw.injEq] at g1;obtain ⟨rfl,rfl⟩:=g1
    replace g4:=g4 hz1
    cases aD with
    |none =>
     simp only at k3 g4;subst k3;have hv':v=.slice none 0 0:=by rw[g4] at q1;simpa[bG,I.isAgg] using q1.symm
     exact ⟨none,0,[],hv',by simp,by simp[maxLen],by simp[aG],by simp,fun h=>absurd rfl h⟩
    |some bc =>
     obtain ⟨b,cap⟩:=bc;simp only at g4;obtain ⟨cs',pre,rest,k4,k5,k6,k7,k8,k9,k10,k11⟩:=k3;refine ⟨some ⟨b,0,none⟩,cap,pre,by rw[←hz1];simpa[bG,I.isAgg,g4] using q1.symm,k9,k10,k7,k2,fun _=>⟨b,0,rfl,fun j ao hj =>?_⟩⟩;have:=(n8 (D:=fun _ _=>True) (c1:=[]) (c2:=pre) (c3:=rest) k5 (by simpa using k6) (fun _ _=>trivial)) j ao hj;simpa using this.1
   ·cases hs
  ·cases hs
 case view n p z lo k =>
  split at hs
  ·rename_i fs hx;split at hs
   ·rename_i hk;obtain ⟨hk,rfl⟩:=hk;simp only[u8] at hs;subst hs;obtain ⟨y,b,cs,T,off,c1,c2,c3,k1,k2,k3,k4,k5,k6,k7,k8,k9,k10,k11,k12,rfl⟩:=h.view hv hx;obtain ⟨d1,d2,d3,rfl,q1,q2,q3⟩:=tu k8 k10 lo k hk;have hlen:((fs.drop lo).take k).length=k:=by rw[zx3,zx0];omega
    refine ⟨some ⟨b,off+lo*z,none⟩,fs.length-lo,d2,by rw[hlen],by rw[hlen];omega,by omega,q2,fun y hy=>k10 y (List.mem_of_mem_drop (List.mem_of_mem_take hy)),fun _=>⟨b,_,rfl,fun j ao hj =>?_⟩⟩;have:=(n8 (D:=fun _ _=>True) (c1:=c1++d1) (c2:=d2) (c3:=d3++c3) k3 (by rw[k6];simp) (fun _ _=>trivial)) j ao hj;rw[zz5,k7,q1] at this;exact this.1
   ·cases hs
  ·cases hs
theorem aP.iT(h:aP c A a w D E){n:Nat}{p:List Nat}{sz j:Nat}{y:I}{fs ys:List I}{b off:Nat}{cs:Array Value}{T:TypeId}{c1 c2 c3 ds:List Value}(hn:A.o n=some (.box y))(av:E n=some (.aB b y.aJ))(hb:w.heap[b]?=some (.cells cs T (0,0)))
  (hat:y.at p=some (.agg fs)) (hoff:y.aJ.off p=some off) (hcs:cs.toList=c1++c2++c3) (hc1:c1.length=off) (hfs:aG w D E fs c2) (hy:af w D E y cs.toList) (hsz:∀ f∈fs,f.size=sz) (hys:aG w D E ys ds) (hj:j+ys.length≤fs.length)
  (hsh:I.cN ys=I.cN ((fs.drop j).take ys.length)) (P:Program) :
  ∃ w',(storeCells ⟨b,off+j*sz,none⟩ ds 0).run P w=.ok () w'∧aP c (A.aN n (.box (y.dx p (.agg (fs.take j++(ys++fs.drop (j+ys.length))))))) a w' D E:=by
 obtain ⟨d1,d2,d3,rfl,q1,q2,q3⟩:=tu hfs hsz j ys.length hj;have hd1:aG w D E (fs.take j) d1:=by
  have e1:fs=fs.take j++fs.drop j:=(zy9 j fs).symm;rw[e1] at hfs;obtain ⟨e1,e2,he,k1,k2⟩:=tt _ _ _ hfs;have hl:e1.length=d1.length:=by
   rw[aG.length _ _ k1,I.gR _ (fun x hx=>hsz x (List.mem_of_mem_take hx)),q1,zx3];congr 1;omega
  have:e1=d1:=by
   have:=congrArg (List.take d1.length) he;rw[List.take_left,←hl,List.take_left] at this;exact this.symm
  rw[←this];exact k1
 have hlen:ds.length=d2.length:=by rw[aG.length _ _ hys,aG.length _ _ q2,←I.mE,←I.mE,hsh]
 have hds:af w D E (.agg (fs.take j++(ys++fs.drop (j+ys.length)))) (d1++(ds++d3)):=by
  simp only[af];refine j9 _ _ _ _ hd1 (j9 _ _ _ _ hys ?_);rw[List.drop_drop] at q3;exact q3
 have hshape:(I.agg (fs.take j++(ys++fs.drop (j+ys.length)))).aJ=(I.agg fs).aJ:=by
  simp only[I.aJ,cJ.dU.injEq,I.de,zx6];rw[←I.de ys,hsh,I.de,←zx6,←zx6]
  congr 1
  rw[←List.drop_drop,zy9,zy9]
 obtain ⟨off',g1,g2,g3,g4⟩:=tq p y _ _ _ _ hy hat hds hshape;rw[hoff,u8] at g1;subst g1;have hst:=run_storeCells_at P b (off+j*sz) T ds 0 cs w hb (by
  have:cs.size=cs.toList.length:=by simp
  rw[this,hcs];simp only[zz5];omega) (aG.mi _ _ hys)
 simp only[Nat.add_zero] at hst;refine ⟨_,hst,?_⟩;refine h.Nc hn av g4 ?_;have e:cs.toList.take (off+j*sz)++ds++cs.toList.drop (off+j*sz+ds.length)=cs.toList.take off++(d1++(ds++d3))++cs.toList.drop (off+(d1++(ds++d3)).length):=by
  rw[hcs];have t1:(c1++(d1++(d2++d3))++c3).take (off+j*sz)=c1++d1:=by
   rw[←hc1,←q1,zz3,List.take_length_add_append,zz3,List.take_left]
  have t2:(c1++(d1++(d2++d3))++c3).drop (off+j*sz+ds.length)=d3++c3:=by
   rw[←hc1,←q1,hlen,zz3,Nat.add_assoc,List.drop_length_add_append,zz3,List.drop_length_add_append,zz3,List.drop_left]
  have t3:(c1++(d1++(d2++d3))++c3).take off=c1:=by rw[←hc1,zz3,List.take_left]
  have t4:(c1++(d1++(d2++d3))++c3).drop (off+(d1++(ds++d3)).length)=c3:=by
   have:(d1++(ds++d3)).length=(d1++(d2++d3)).length:=by simp[hlen]
   rw[this,←hc1,zz3,List.drop_length_add_append,List.drop_left]
  rw[t1,t2,t3,t4];simp
 rw[e];simpa using g3
end
section
variable {c:cI} {A:ae} {o:Oper} {x:I}
theorem mB{P:Program}{w:World}(k:IntKind)(n:Int)(y:Nat)(code:BoundsCode)(g1:0≤n)(g2:n≤y):(Instr.sliceBound (.int k n) y code).run P w=.ok n.toNat w:=by
 simp[Instr.sliceBound,asIntOf,g1,g2]
theorem aeL{t e:TypeId}{y:Operand}{y':aH}{lo hi mx:Option Operand}{lo' hi' mx':Option aH}{i:TypeInfo}{fs:List I}{n:Nat}{p:List Nat}{sz l0 k:Nat}(ho:o.op=.slice t y lo hi mx)(hu:c.P.underlying t=some (.slice e))(hi0:c.P.info? e=some i)
  (hy:bC c.P 0 y=some y') (h1:iy c.P lo=some lo') (h2:iy c.P hi=some hi') (h3:iy c.P mx=some mx') (hmh:mx'.isSome=true→hi'.isSome=true) (hsz:sz=c.P.cellsOf e)
  (h:ab A y'=.view n p sz l0 k) (hd:cz A (.ptr n p)=some (.agg fs)) (hx:gL n p sz l0 k fs.length (lo'.map (ab A)) (hi'.map (ab A)) (mx'.map (ab A))=some x):dF c A o x :=
 .same fun a w D E hs=>by
  have opt:∀ {q:Option Operand} {q':Option aH},iy c.P q=some q'→il w D E (q'.map (ab A)) (q.map a.eval):=by
   intro q q' hq;cases q with
   |none=>simp only[iy,u8] at hq;subst hq;simp[il]
   |some z =>
    simp only[iy,zz0] at hq;obtain ⟨z',hz,rfl⟩:=hq;simpa[il] using ca hs hz
  have h0:=ca hs hy;rw[h] at h0;obtain ⟨yy,b,cs,T,off,c1,c2,c3,k1,k2,k3,k4,k5,k6,k7,k8,k9,k10,k11,k12,hval⟩:=hs.view h0 hd;have hmh':(mx'.map (ab A)).isSome=true→(hi'.map (ab A)).isSome=true:=by simpa using hmh
  unfold gL at hx;split at hx
  ·cases hx
  rename_i hh hbh;split at hx
  ·cases hx
  rename_i ll hbl;have d1:=qH (opt h1) hbl;have d2:=qH (opt h2) hbh;have o3:=opt h3;split at hx
  ·rename_i hmx;split at hx
   case isFalse=>cases hx
   rename_i hb;obtain ⟨b1,b2,b3⟩:=hb;have hvmx:mx.map a.eval=none:=by
    rw[hmx] at o3;cases hq:mx.map a.eval with
    |none=>rfl
    |some v=>rw[hq] at o3;simp[il] at o3
   have hsb:(Instr.sliceBounds true k (fs.length-l0) (lo.map a.eval) (hi.map a.eval) (mx.map a.eval)).run c.P w=.ok (ll.toNat,hh.toNat,fs.length-l0) w:=by
    rw[hvmx];rcases d2 with ⟨_,g2,hm2⟩ | ⟨_,q2,g2⟩ <;>rcases d1 with ⟨_,g1,hm1⟩ | ⟨_,q1,g1⟩ <;>rw[g1,g2]
    ·subst hm1 hm2;simp[Instr.sliceBounds]
    ·subst hm2;simp[Instr.sliceBounds,mB q1 ll k _ b1 (by omega)]
    ·subst hm1;simp[Instr.sliceBounds,mB q2 hh (fs.length-l0) _ (by omega) (by omega)]
    ·simp[Instr.sliceBounds,mB q2 hh (fs.length-l0) _ (by omega) (by omega),mB q1 ll hh.toNat _ b1 (by omega)]
   have hrun:(Instr.sliceAt t (a.eval y) (lo.map a.eval) (hi.map a.eval) (mx.map a.eval)).run c.P w =
     .ok (.slice (if fs.length-l0=ll.toNat then some ⟨b,off+l0*sz,none⟩ else some ⟨b,off+l0*sz+ll.toNat*c.P.cellsOf e,none⟩) (hh.toNat-ll.toNat) (fs.length-l0-ll.toNat)) w:=by
    rw[hval];simp only[Instr.sliceAt,Instr.slice,Sem.run_bind,run_underlying hu,Result.andThen_ok,hsb,iS hi0,Sem.run_pure,zy3,mK]
   refine ⟨_,by simp only[execOp,ho,Sem.run_bind,hrun];rfl,?_⟩;split at hx
   ·rename_i hl;simp only[u8] at hx;subst hx;have e1:fs.length-l0=ll.toNat:=by omega
    have e2:hh.toNat-ll.toNat=0:=by omega
    rw[if_pos e1,e2,e1,Nat.sub_self];exact ⟨_,by simp[bG,I.isAgg];rfl,by simp only[af];exact ⟨_,rfl⟩⟩
   ·rename_i hl;simp only[u8] at hx;subst hx;rw[if_neg (by omega)];refine ⟨_,by simp[bG,I.isAgg];rfl,?_⟩;simp only[af];refine ⟨b,yy.aJ,off,I.cN fs,k2,k5,mD p yy _ k4,?_,?_,?_,?_⟩
    ·rw[I.de,zy1,zv8,Nat.add_assoc,hsz,Nat.sub_sub]
    ·rw[I.de,zy1];exact k12
    ·rw[I.de,zy1];omega
    ·rw[I.de];intro s hs';obtain ⟨f,hf,rfl⟩:=zx5.1 hs';rw[I.lN];exact k10 f hf
  ·rename_i kk m hmx;split at hx
   case isFalse=>cases hx
   rename_i hb;obtain ⟨b1,b2,b3,b4⟩:=hb;simp only[u8] at hx;subst hx;obtain ⟨vmx,hvmx,hvm⟩:∃ v,mx.map a.eval=some v∧v=.int kk m:=by
    rw[hmx] at o3;cases hq:mx.map a.eval with
    |none=>rw[hq] at o3;simp[il] at o3
    |some v=>rw[hq] at o3;simp only[il] at o3;exact ⟨v,rfl,(ff o3).1⟩
   subst hvm;have hsb:∃ r,(Instr.sliceBounds true k (fs.length-l0) (lo.map a.eval) (hi.map a.eval) (mx.map a.eval)).run c.P w=.ok r w:=by
    rw[hvmx];rcases d2 with ⟨fO,g2,hm2⟩ | ⟨_,q2,g2⟩
    ·rw[hmx,fO] at hmh';simp at hmh'
    ·rcases d1 with ⟨_,g1,hm1⟩ | ⟨_,q1,g1⟩ <;>rw[g1,g2]
     ·exact ⟨_,by simp[Instr.sliceBounds,mB kk m (fs.length-l0) _ (by omega) b4,mB q2 hh m.toNat _ (by omega) (by omega)];rfl⟩
     ·exact ⟨_,by simp[Instr.sliceBounds,mB kk m (fs.length-l0) _ (by omega) b4,mB q2 hh m.toNat _ (by omega) (by omega),mB q1 ll hh.toNat _ b1 (by omega)];rfl⟩
   obtain ⟨⟨r1,dE,pG⟩,hsb⟩:=hsb;have hrun:∃ v,(Instr.sliceAt t (a.eval y) (lo.map a.eval) (hi.map a.eval) (mx.map a.eval)).run c.P w=.ok v w:=by
    rw[hval];exact ⟨_,by simp only[Instr.sliceAt,Instr.slice,Sem.run_bind,run_underlying hu,Result.andThen_ok,hsb,iS hi0,Sem.run_pure,zy3];rfl⟩
   obtain ⟨v,hrun⟩:=hrun;exact ⟨v,by simp only[execOp,ho,Sem.run_bind,hrun];rfl,by simp[aS]⟩
  ·cases hx
theorem aeC{t e:TypeId}{y z:Operand}{y' z':aH}{i:TypeInfo}{fs:List I}{n:Nat}{p:List Nat}{sz lo k:Nat}{kk:IntKind}{j:Int}(ho:o.op=.indexAddr t y z)(hu:c.P.underlying t=some (.slice e))(hi:c.P.info? e=some i)
  (hy:bC c.P 0 y=some y') (hz:bC c.P 0 z=some z') (hsz:sz=c.P.cellsOf e) (h:ab A y'=.view n p sz lo k) (hd:cz A (.ptr n p)=some (.agg fs)) (h':ab A z'=.int kk j) (hj:0≤j∧j<k):dF c A o (.ptr n (p++[lo+j.toNat])) :=
 .same fun a w D E hs=>by
  have h0:=ca hs hy;rw[h] at h0;have h1':=ca hs hz;rw[h'] at h1';obtain ⟨yy,b,cs,T,off,c1,c2,c3,k1,k2,k3,k4,k5,k6,k7,k8,k9,k10,k11,k12,hval⟩:=hs.view h0 hd;refine ⟨.pointer (some ⟨b,off+lo*sz+j.toNat*c.P.cellsOf e,none⟩),by simp only[execOp,ho,hval,(ff h1').1,Sem.run_bind,yc hu hi hj];rfl,?_⟩;refine ⟨_,by simp[bG,I.isAgg];rfl,?_⟩;simp only[af];refine ⟨b,yy.aJ,off+(lo+j.toNat)*sz,k2,?_,by rw[zv8,←Nat.add_assoc,hsz]⟩;have hl:lo+j.toNat<fs.length:=by omega
  rw[cJ.td p yy.aJ off (lo+j.toNat) _ k5 (mD p yy _ k4) (by rw[I.de];simpa using hl),I.de,←List.map_take,←I.de,I.mE,oo fs _ k10 (by omega)]
theorem wu{ty:TypeId}{y:Operand}{y':aH}{n:Nat}{e:TypeId}(ho:o.op=.call { callee:=.builtin .cap,args := #[y],argTypes := #[ty] })(hu:c.P.underlying ty=some (.slice e))
  (hy:bC c.P ty y=some y') (h:∀ a w D E,aP c A a w D E→∀ v,aS w D E (ab A y') v→n≤maxLen∧∃ ad l,v=.slice ad l n):dF c A o (.int .i64 n) :=
 .same fun a w D E hs=>by
  obtain ⟨h0,ad,l,hv⟩:=h a w D E hs _ (ca hs hy);exact ⟨.int .i64 n,by simp[execOp,ho,resolve,invoke,builtin,Builtin.cap_,run_underlying hu,hv,goInt],kA (xb h0)⟩
theorem aep{t e:TypeId}{i:TypeInfo}(ho:o.op=.buildSlice t 0 #[])(hu:c.P.underlying t=some (.slice e))(hi:c.P.info? e=some i):dF c A o (.c0 (c.P.cellsOf e)):=by
 intro a w D E hs;have hs':=hs.newRow (.cells #[] e);refine ⟨.slice (some ⟨w.heap.size,0,none⟩) 0 0,_,_,?_,hs',⟨_,by simp[bG,I.isAgg];rfl,by simp only[af];exact ⟨_,rfl⟩⟩⟩;simp[execOp,ho,Instr.buildSlice,run_underlying hu,iS hi,newRow,Instr.fill,show (Array.range 0) = #[] from rfl]
theorem af7{neg:Bool}{t e:TypeId}{y z:Operand}{y':aH}{yt:TypeId}{s:Nat}(ho:o.op=.binOp (if neg then .neq else .eql) t y z yt)(hu:c.P.underlying t=some (.slice e))(hy:bC c.P 0 y=some y')(hz:bC c.P 0 z=some (.c (.nils s)))
  (h:∃ sz,ab A y'=.slice sz []∨ab A y'=.c0 sz) {a:Act} {w:World} {D:aL} {E:aT} (hs:aP c A a w D E):∃ b,(execOp a.eval o).run c.P w=.ok (.value (.bool b)) w:=by
 have h0:=ca hs hy;have h1:aS w D E (.nils s) (a.eval z):=ca hs hz;have hv:∃ ad cp,a.eval y=.slice ad 0 cp:=by
  obtain ⟨sz,h | h⟩:=h <;>rw[h] at h0
  ·obtain ⟨ad,cap,e1,_⟩:=nt h0;exact ⟨ad,cap,by simpa using e1⟩
  ·obtain ⟨cs,q1,q2⟩:=h0;simp only[af] at q2;obtain ⟨ad,q2⟩:=q2;exact ⟨ad,0,by simpa[bG,I.isAgg,q2] using q1.symm⟩
 obtain ⟨ad,cp,hyv⟩:=hv;have hv:a.eval z=.slice none 0 0:=by
  obtain ⟨cs,q1,q2⟩:=h1;simp only[af] at q2;simpa[bG,I.isAgg,q2] using q1.symm
 have he:∀ d,(Op.equalIn (d+1) t (.slice ad 0 cp) (.slice none 0 0)).run c.P w=.ok ad.isNone w:=fun d=>by
  cases ad <;>simp[Op.equalIn,run_underlying hu]
 refine ⟨if neg then !ad.isNone else ad.isNone,?_⟩;cases neg <;>simp only[execOp,ho,hyv,hv,if_true,zz7,if_false,Sem.run_bind,eqGuard] <;>simp[binOp,Op.equal,Op.maxDepth,he]
def iT(y:I)(p:List Nat)(j:Nat)(fs ys:List I):I:=y.dx p (.agg (fs.take j++(ys++fs.drop (j+ys.length))))
theorem Xt{t e:TypeId}{y:Operand}{y':aH}{z:I}{n:Nat}{p:List Nat}{lo k:Nat}{b:I}{fs:List I}(ho:o.op=.call { callee:=.builtin .clear,args := #[y],argTypes := #[t] })(hu:c.P.underlying t=some (.slice e))(hy:bC c.P t y=some y')
  (hz:fM c.P e=some z) (hv:ab A y'=.view n p (c.P.cellsOf e) lo k) (hn:A.o n=some (.box b)) (hat:b.at p=some (.agg fs)) (hsh:I.cN (List.replicate k z)=I.cN ((fs.drop lo).take k)) (hd:o.dst=none) :
  gT c A o (A.aN n (.box (iT b p lo fs (List.replicate k z)))):=by
 intro a w D E hs;obtain ⟨i,zv,hi,hzv,hzr⟩:=lO hz;have h0:=ca hs hy;rw[hv] at h0;have hx:cz A (.ptr n p)=some (.agg fs):=by simp only[cz,hn,hat]
 obtain ⟨yy,bk,cs,T,off,c1,c2,c3,k1,k2,k3,k4,k5,k6,k7,k8,k9,k10,k11,k12,hval⟩:=hs.view h0 hx;rw[hn] at k1;simp only[u8,ah.box.injEq] at k1;subst k1;have hr:aG w D E (List.replicate k z) (Builtin.zeroCells zv.cells k).toList:=by
  rw[tU];exact qP (hzr w D E) k
 obtain ⟨w',h1,h2⟩:=hs.iT (j:=lo) (ys:=List.replicate k z) hn k2 k3 k4 k5 k6 k7 k8 k9 k10 hr (by simpa using k11) (by simpa using hsh) c.P;cases k with
 |zero =>
  refine ⟨w,.inl ⟨.tuple #[],?_,D,E,?_⟩⟩
  ·simp[execOp,ho,resolve,invoke,builtin,Builtin.clear_,run_underlying hu,hval]
  ·rw[hd];have:iT b p lo fs (List.replicate 0 z)=b.dx p (.agg fs):=by simp[iT]
   have hw:w'=w:=by
    simp[Builtin.zeroCells,storeCells] at h1;exact h1.symm
   rw[hw] at h2;exact h2
 |succ k =>
  refine ⟨w',.inl ⟨.tuple #[],?_,D,E,?_⟩⟩
  ·simp[execOp,ho,resolve,invoke,builtin,Builtin.clear_,run_underlying hu,hval,zeroValue,typeInfo,hi,hzv,h1]
  ·rw[hd];exact h2
theorem Xu{t e:TypeId}{y x:Operand}{y' x':aH}{n:Nat}{p:List Nat}{lo k m:Nat}{b:I}{fs ys:List I}(ho:o.op=.call { callee:=.builtin .copy,args := #[y,x],argTypes := #[t,t] })(hu:c.P.underlying t=some (.slice e))(hi:(c.P.info? e).isSome=true)
  (hy:bC c.P t y=some y') (hx:bC c.P t x=some x') (hv:ab A y'=.view n p (c.P.cellsOf e) lo k) (hn:A.o n=some (.box b)) (hat:b.at p=some (.agg fs)) (hs:ep A (c.P.cellsOf e) (ab A x')=some ys) (hm:m=min ys.length k)
  (hsh:I.cN (ys.take m)=I.cN ((fs.drop lo).take m)) (hdn:∀ k,o.dst=some k→k<c.n) :
  gT c A o ((A.aN n (.box (iT b p lo fs (ys.take m)))).aK o.dst (.int .i64 m)):=by
 intro a w D E hsim;obtain ⟨i,hi⟩:=zw0.1 hi;have h0:=ca hsim hy;rw[hv] at h0;have hxx:cz A (.ptr n p)=some (.agg fs):=by simp only[cz,hn,hat]
 obtain ⟨yy,bk,cs,T,off,c1,c2,c3,k1,k2,k3,k4,k5,k6,k7,k8,k9,k10,k11,k12,hval⟩:=hsim.view h0 hxx;rw[hn] at k1;simp only[u8,ah.box.injEq] at k1;subst k1;obtain ⟨ad,cp,news,s1,s2,s3,s4,s5,s6⟩:=hsim.nw (ca hsim hx) hs;have hmy:m≤ys.length:=by omega
 have hci:c.P.cellsOf e=i.size:=by simp[Program.cellsOf,hi]
 obtain ⟨d1,d2,d3,e1,e2,e3,e4⟩:=tu s4 s5 0 m (by omega);simp only[Nat.zero_mul,List.drop_zero] at e2 e3;have e2':d1=[]:=List.eq_nil_of_length_eq_zero e2;subst e2';simp only[zy8] at e1;have hlen:(ys.take m).length=m:=by rw[zx3];omega
 have hd2:d2.length=m*i.size:=by rw[aG.length _ _ e3,I.gR (sz:=c.P.cellsOf e) _ (fun y hy=>s5 y (List.mem_of_mem_take hy)),hlen,hci]
 obtain ⟨w',h1,h2⟩:=hsim.iT (j:=lo) (ys:=ys.take m) hn k2 k3 k4 k5 k6 k7 k8 k9 k10 e3 (by rw[hlen];omega) (by rw[hlen];exact hsh) c.P;have hf:(Builtin.firstCells i.size m (.slice ad ys.length cp)).run c.P w=.ok d2.toArray w:=by
  by_cases hm0:m=0
  ·have:d2=[]:=List.eq_nil_of_length_eq_zero (by rw[hd2,hm0];simp);subst this;cases ad with
   |none=>exact run_firstCells_none _ _ _ _ _
   |some ad=>exact run_firstCells_some w i.size m ad ys.length cp [] (by simp[hm0]) (by simp)
  ·obtain ⟨b2,o2,rfl,hr⟩:=s6 (fun h=>by rw[h] at hmy;simp at hmy;omega);refine run_firstCells_some w i.size m _ ys.length cp d2 hd2 fun j v hj =>?_;rw[Addr.add_lit];refine hr j v ?_;rw[e1,zx1 (zy4.1 hj).1];exact hj
 have h63:m≤maxLen:=by omega
 refine ⟨w',.inl ⟨.int .i64 m,?_,D,E,h2.aK hdn (kA (xb h63))⟩⟩;have hmin:Nat.min ys.length k=m:=hm.symm;rw[←hci] at hf;simp only[execOp,ho,resolve,invoke,builtin,Sem.run_bind,Sem.run_pure,Result.andThen_ok,List.map_toArray,zz9,zx2,hval,s1];simp[Builtin.copy_,run_underlying hu,Builtin.lenOf,hmin,iS hi,hf,h1,goInt]
theorem oN{a:Act}{w:World}{D:aL}{E:aT}(hs:aP c A a w D E){sz:Nat}{x:I}{v:Value}{es:List I}(hv:aS w D E x v)(he:ep A sz x=some es) :
  ∃ ad cp olds,v=.slice ad es.length cp∧es.length≤cp∧cp≤maxLen∧aG w D E es olds∧(∀ y∈es,y.size=sz)∧∀ (P:Program) (w':World),(∀ p ao,w.cell? p=some ao→w'.cell? p=some ao)→(Builtin.firstCells sz es.length v).run P w'=.ok olds.toArray w':=by
 obtain ⟨ad,cp,news,s1,s2,s3,s4,s5,s6⟩:=hs.nw hv he;refine ⟨ad,cp,news,s1,s2,s3,s4,s5,fun P w' hw =>?_⟩;have hl:news.length=es.length*sz:=by rw[aG.length _ _ s4,I.gR _ s5]
 rw[s1];by_cases h0:es=[]
 ·subst h0;have:news=[]:=List.eq_nil_of_length_eq_zero (by rw[hl];simp);subst this;cases ad with
  |none=>exact run_firstCells_none _ _ _ _ _
  |some ad=>exact run_firstCells_some w' sz _ ad _ cp [] (by simp) (by simp)
 ·obtain ⟨b,o',rfl,hr⟩:=s6 h0;exact run_firstCells_some w' sz _ _ _ cp news hl fun j v hj=>by rw[Addr.add_lit];exact hw _ _ (hr j v hj)
theorem PW{t e:TypeId}{s x:Operand}{s' x':aH}{es ys:List I}{z:I}{d:Nat}(ho:o.op=.call { callee:=.builtin .append,args := #[s,x],argTypes := #[t,t] })(hu:c.P.underlying t=some (.slice e))(hs':bC c.P t s=some s')(hx':bC c.P t x=some x')
  (hz:fM c.P e=some z) (hzs:z.size=c.P.cellsOf e) (hse:ep A (c.P.cellsOf e) (ab A s')=some es) (hsx:ep A (c.P.cellsOf e) (ab A x')=some ys) (hby:(es.length+ys.length)*c.P.bytesOf e≤140737488355328)
  (hd:o.dst=some d) (hdn:d<c.n) (hf:A.o d=none) (hne:ys≠[]) {a:Act} {w:World} {D:aL} {E:aT} (hsim:aP c A a w D E) (hfull:∀ ad l cp,a.eval s=.slice ad l cp→cp<l+ys.length) (hml:es.length+ys.length≤maxLen) :
  ∃ v w' m,(execOp a.eval o).run c.P w=.ok (.value v) w'∧es.length+ys.length+m≤maxLen ∧
   cn c ((A.aN d (.box (.agg (es++(ys++List.replicate m z))))).aK o.dst (.view d [] (c.P.cellsOf e) 0 (es.length+ys.length))) (a.put o.dst v) w':=by
 obtain ⟨i,zv,hi,hzv,hzr⟩:=lO hz;have hci:c.P.cellsOf e=i.size:=by simp[Program.cellsOf,hi]
 have hbi:c.P.bytesOf e=i.bytes:=by simp[Program.bytesOf,hi]
 obtain ⟨ad1,cp1,olds,s1,s2,s3,s4,s5,s6⟩:=oN hsim (ca hsim hs') hse;obtain ⟨ad2,cp2,news,t1,t2,t3,t4,t5,t6⟩:=oN hsim (ca hsim hx') hsx;have hlt:=hfull _ _ _ s1;obtain ⟨m,hm⟩:∃ m,m=grownCap w (es.length+ys.length) cp1 e-(es.length+ys.length):=⟨_,rfl⟩
 have hge:=grownCap_ge w (es.length+ys.length) cp1 e;have hle:=grownCap_le_maxLen w (es.length+ys.length) cp1 e hml;obtain ⟨cells,hcells⟩:∃ cells:Array Value,cells=olds.toArray++news.toArray++Builtin.zeroCells zv.cells m:=⟨_,rfl⟩
 have hrun:(Builtin.append_ #[t,t] o.type #[a.eval s,a.eval x]).run c.P w=.ok (.slice (some ⟨w.heap.size,0,none⟩) (es.length+ys.length) (grownCap w (es.length+ys.length) cp1 e)) (w.drew.alloc (.cells cells e)):=by
  have hn:¬ (es.length+ys.length≤cp1):=by omega
  have h63:¬ (9223372036854775807<((es.length:Int)+(ys.length:Int))):=by simp only[maxLen] at hml;omega
  have h48:¬ (281474976710656<Builtin.nextslicecap (es.length+ys.length) cp1*i.bytes):=by
   have h3:(es.length+ys.length)*i.bytes≤140737488355328:=by rw[←hbi];exact hby
   have:=growslice_fits hlt h3;omega
  have g1:=s6 c.P w.drew (fun _ _ h=>h);have g2:=t6 c.P w.drew (fun _ _ h=>h);rw[s1,hci] at g1;rw[t1,hci] at g2;rw[s1,t1,hcells,hm];simp[Builtin.append_,run_underlying hu,sizeOf,typeInfo,zeroValue,hi,hzv,Builtin.lenOf,hn,h63,h48,Question.forced,g1,g2,newRow,grownCap]
  congr 2
  apply Array.ext';simp[zz3]
 have hcl:cells.toList=olds++(news++(List.replicate m zv.cells.toList).flatten):=by
  rw[hcells];simp[tU]
 have hrc:af w D E (.agg (es++(ys++List.replicate m z))) cells.toList:=by
  rw[hcl];simp only[af];exact j9 _ _ _ _ s4 (j9 _ _ _ _ t4 (qP (hzr w D E) m))
 have hsim':aP c A a w.drew D E:=hsim.grow ⟨rfl,rfl,rfl,zz6 _,fun _ _=>rfl⟩ (fun _ _ h=>h) (fun _ _ h _=>h) (fun b o h=>hsim.c9 b o h);have hrc':af w.drew D E (.agg (es++(ys++List.replicate m z))) cells.toList:=af.bE (w:=w) (w':=w.drew) (D:=D) (E:=E) ⟨fun _ _ h=>h,fun _ _ _ _ h=>h,fun _ _ _ h=>h,fun _ aD l h=>⟨aD,l,h,zz6 _,fun _=>rfl⟩,fun _ _ h=>h,fun _ _ h=>h,fun _ _ _ _ h=>h⟩ _ _ hrc;have h1:=hsim'.qD (T:=e) (.inl hdn) hf hrc';have hall:∀ y∈es++(ys++List.replicate m z),y.size=c.P.cellsOf e:=by
  intro y hy;rcases zy7.1 hy with hy | hy
  ·exact s5 y hy
  ·rcases zy7.1 hy with hy | hy
   ·exact t5 y hy
   ·rw[List.eq_of_mem_replicate hy];exact hzs
 have hlen:(es++(ys++List.replicate m z)).length=es.length+ys.length+m:=by simp[Nat.add_assoc]
 have h2:=h1.put (d:=d) (x:=.view d [] (c.P.cellsOf e) 0 (es.length+ys.length)) (v:=.slice (some ⟨w.heap.size,0,none⟩) (es.length+ys.length) (grownCap w (es.length+ys.length) cp1 e)) hdn ⟨_,by simp[bG,I.isAgg];rfl,by
  simp only[af,if_true];refine ⟨w.heap.size,(I.agg (es++(ys++List.replicate m z))).aJ,0,I.cN (es++(ys++List.replicate m z)),rfl,by cases (I.agg (es++(ys++List.replicate m z))).aJ <;>simp[cJ.off],by simp only[I.aJ,cJ.part],?_,?_,?_,?_⟩
  ·rw[I.de,zy1,hlen,hm];simp;omega
  ·rw[I.de,zy1,hlen];omega
  ·rw[I.de,zy1,hlen];omega
  ·rw[I.de];intro s hs;obtain ⟨f,hf,rfl⟩:=zx5.1 hs;rw[I.lN];exact hall f hf⟩
 refine ⟨.slice (some ⟨w.heap.size,0,none⟩) (es.length+ys.length) (grownCap w (es.length+ys.length) cp1 e),w.drew.alloc (.cells cells e),m,?_,by omega,?_⟩
 ·unfold execOp;simp only[ho,resolve,invoke,builtin,Sem.run_bind,Sem.run_pure,Result.andThen_ok,List.map_toArray,zz9,zx2,hrun]
 ·rw[hd];exact ⟨D,_,h2⟩
theorem P0{t t' e:TypeId}{s x:Operand}{s' x':aH}{es:List I}{k:Nat}{kx kt:IntKind}{aY:Int}{z:I}{d:Nat}(ho:o.op=.call { callee:=.builtin .append,args := #[s,x],argTypes := #[t,t'] })(hu:c.P.underlying t=some (.slice e))(hs':bC c.P t s=some s')(hx':bC c.P t' x=some x')(ht':c.P.underlying t'=some (.int kt))(hvx:ab A x'=.int kx aY)(hk:aY.toNat=k)(hk0:0<k)(hpos:0<c.P.cellsOf e)
  (hz:fM c.P e=some z) (hzs:z.size=c.P.cellsOf e) (hse:ep A (c.P.cellsOf e) (ab A s')=some es) (hby:(es.length+k)*c.P.bytesOf e≤140737488355328)
  (hd:o.dst=some d) (hdn:d<c.n) (hf:A.o d=none) {a:Act} {w:World} {D:aL} {E:aT} (hsim:aP c A a w D E) (hfull:∀ ad l cp,a.eval s=.slice ad l cp→cp<l+k) (hml:es.length+k≤maxLen) :
  ∃ v w' m,(execOp a.eval o).run c.P w=.ok (.value v) w'∧es.length+k+m≤maxLen ∧
   cn c ((A.aN d (.box (.agg (es++(List.replicate k z++List.replicate m z))))).aK o.dst (.view d [] (c.P.cellsOf e) 0 (es.length+k))) (a.put o.dst v) w':=by
 obtain ⟨i,zv,hi,hzv,hzr⟩:=lO hz;have hci:c.P.cellsOf e=i.size:=by simp[Program.cellsOf,hi]
 have hbi:c.P.bytesOf e=i.bytes:=by simp[Program.bytesOf,hi]
 obtain ⟨ad1,cp1,olds,s1,s2,s3,s4,s5,s6⟩:=oN hsim (ca hsim hs') hse;have v2:=ca hsim hx';rw[hvx] at v2;have t1:a.eval x=.int kx ((k:Nat):Int):=by rw[(ff v2).1];congr 1;omega
 have t4:aG w D E (List.replicate k z) (List.replicate k zv.cells.toList).flatten:=qP (hzr w D E) k;have t5:∀ y∈List.replicate k z,y.size=c.P.cellsOf e:=fun y hy=>by rw[List.eq_of_mem_replicate hy];exact hzs
 have hlt:=hfull _ _ _ s1;obtain ⟨m,hm⟩:∃ m,m=grownCap w (es.length+k) cp1 e-(es.length+k):=⟨_,rfl⟩
 have hge:=grownCap_ge w (es.length+k) cp1 e;have hle:=grownCap_le_maxLen w (es.length+k) cp1 e hml;obtain ⟨cells,hcells⟩:∃ cells:Array Value,cells=olds.toArray++Builtin.zeroCells zv.cells k++Builtin.zeroCells zv.cells m:=⟨_,rfl⟩
 have hrun:(Builtin.append_ #[t,t'] o.type #[a.eval s,a.eval x]).run c.P w=.ok (.slice (some ⟨w.heap.size,0,none⟩) (es.length+k) (grownCap w (es.length+k) cp1 e)) (w.drew.alloc (.cells cells e)):=by
  have h3:(es.length+k)*i.bytes≤140737488355328:=by rw[←hbi];exact hby
  have g1:=s6 c.P w.drew (fun _ _ h=>h);rw[s1,hci] at g1;have hfit:=growslice_fits hlt h3;have hkb:k*i.bytes≤(es.length+k)*i.bytes:=Nat.mul_le_mul_right _ (by omega);rw[s1,t1,hcells,hm];exact Lib.run_append_grow_zeros w t t' o.type e i zv kx kt hu ht' hi hzv ad1 es.length cp1 olds g1 k hk0 (by rw[←hci];exact hpos) hlt (by simp only[maxLen] at hml;omega) (by omega) (by omega)
 have hcl:cells.toList=olds++((List.replicate k zv.cells.toList).flatten++(List.replicate m zv.cells.toList).flatten):=by
  rw[hcells];simp[tU]
 have hrc:af w D E (.agg (es++(List.replicate k z++List.replicate m z))) cells.toList:=by
  rw[hcl];simp only[af];exact j9 _ _ _ _ s4 (j9 _ _ _ _ t4 (qP (hzr w D E) m))
 have hsim':aP c A a w.drew D E:=hsim.grow ⟨rfl,rfl,rfl,zz6 _,fun _ _=>rfl⟩ (fun _ _ h=>h) (fun _ _ h _=>h) (fun b o h=>hsim.c9 b o h);have hrc':af w.drew D E (.agg (es++(List.replicate k z++List.replicate m z))) cells.toList:=af.bE (w:=w) (w':=w.drew) (D:=D) (E:=E) ⟨fun _ _ h=>h,fun _ _ _ _ h=>h,fun _ _ _ h=>h,fun _ aD l h=>⟨aD,l,h,zz6 _,fun _=>rfl⟩,fun _ _ h=>h,fun _ _ h=>h,fun _ _ _ _ h=>h⟩ _ _ hrc;have h1:=hsim'.qD (T:=e) (.inl hdn) hf hrc';have hall:∀ y∈es++(List.replicate k z++List.replicate m z),y.size=c.P.cellsOf e:=by
  intro y hy;rcases zy7.1 hy with hy | hy
  ·exact s5 y hy
  ·rcases zy7.1 hy with hy | hy
   ·exact t5 y hy
   ·rw[List.eq_of_mem_replicate hy];exact hzs
 have hlen:(es++(List.replicate k z++List.replicate m z)).length=es.length+k+m:=by simp[Nat.add_assoc]
 have h2:=h1.put (d:=d) (x:=.view d [] (c.P.cellsOf e) 0 (es.length+k)) (v:=.slice (some ⟨w.heap.size,0,none⟩) (es.length+k) (grownCap w (es.length+k) cp1 e)) hdn ⟨_,by simp[bG,I.isAgg];rfl,by
  simp only[af,if_true];refine ⟨w.heap.size,(I.agg (es++(List.replicate k z++List.replicate m z))).aJ,0,I.cN (es++(List.replicate k z++List.replicate m z)),rfl,by cases (I.agg (es++(List.replicate k z++List.replicate m z))).aJ <;>simp[cJ.off],by simp only[I.aJ,cJ.part],?_,?_,?_,?_⟩
  ·rw[I.de,zy1,hlen,hm];simp;omega
  ·rw[I.de,zy1,hlen];omega
  ·rw[I.de,zy1,hlen];omega
  ·rw[I.de];intro s hs;obtain ⟨f,hf,rfl⟩:=zx5.1 hs;rw[I.lN];exact hall f hf⟩
 refine ⟨.slice (some ⟨w.heap.size,0,none⟩) (es.length+k) (grownCap w (es.length+k) cp1 e),w.drew.alloc (.cells cells e),m,?_,by omega,?_⟩
 ·unfold execOp;simp only[ho,resolve,invoke,builtin,Sem.run_bind,Sem.run_pure,Result.andThen_ok,List.map_toArray,zz9,zx2,hrun]
 ·rw[hd];exact ⟨D,_,h2⟩
theorem Xp{t e:TypeId}{s x:Operand}{s' x':aH}{ys:List I}{n:Nat}{p:List Nat}{lo k:Nat}{b:I}{fs:List I}(ho:o.op=.call { callee:=.builtin .append,args := #[s,x],argTypes := #[t,t] })(hu:c.P.underlying t=some (.slice e))(hi:(c.P.info? e).isSome=true)
  (hs':bC c.P t s=some s') (hx':bC c.P t x=some x') (hv:ab A s'=.view n p (c.P.cellsOf e) lo k) (hn:A.o n=some (.box b)) (hat:b.at p=some (.agg fs)) (hsx:ep A (c.P.cellsOf e) (ab A x')=some ys) (hroom:lo+k+ys.length≤fs.length)
  (hsh:I.cN ys=I.cN ((fs.drop (lo+k)).take ys.length)) (hdn:∀ k,o.dst=some k→k<c.n) :
  gT c A o ((A.aN n (.box (iT b p (lo+k) fs ys))).aK o.dst (.view n p (c.P.cellsOf e) lo (k+ys.length))):=by
 intro a w D E hsim;obtain ⟨i,hi⟩:=zw0.1 hi;have hci:c.P.cellsOf e=i.size:=by simp[Program.cellsOf,hi]
 have h0:=ca hsim hs';rw[hv] at h0;have hxx:cz A (.ptr n p)=some (.agg fs):=by simp only[cz,hn,hat]
 obtain ⟨yy,bk,cs,T,off,c1,c2,c3,k1,k2,k3,k4,k5,k6,k7,k8,k9,k10,k11,k12,hval⟩:=hsim.view h0 hxx;rw[hn] at k1;simp only[u8,ah.box.injEq] at k1;subst k1;obtain ⟨ad2,cp2,news,t1,t2,t3,t4,t5,t6⟩:=oN hsim (ca hsim hx') hsx;obtain ⟨w',h1,h2⟩:=hsim.iT (j:=lo+k) (ys:=ys) hn k2 k3 k4 k5 k6 k7 k8 k9 k10 t4 hroom hsh c.P;have g2:=t6 c.P w (fun _ _ h=>h);rw[t1,hci] at g2;have hr:k+ys.length≤fs.length-lo:=by omega
 refine ⟨w',.inl ⟨.slice (some ⟨bk,off+lo*c.P.cellsOf e,none⟩) (k+ys.length) (fs.length-lo),?_,D,E,h2.aK hdn ?_⟩⟩
 ·have e1:off+lo*i.size+k*i.size=off+(lo+k)*c.P.cellsOf e:=by rw[hci,zv8];omega
  unfold execOp;simp only[ho,resolve,invoke,builtin,Sem.run_bind,Sem.run_pure,Result.andThen_ok,List.map_toArray,zz9,zx2,hval,t1];simp[Builtin.append_,run_underlying hu,sizeOf,typeInfo,hi,Builtin.lenOf,hr,g2,Addr.add_lit,hci,e1];rw[hci] at h1;simp[h1]
 ·refine ⟨_,by simp[bG,I.isAgg];rfl,?_⟩;simp only[af];refine ⟨bk,b.aJ,off,I.cN fs,k2,k5,mD p b _ k4,?_,?_,?_,?_⟩
  ·rw[I.de,zy1]
  ·rw[I.de,zy1];exact k12
  ·rw[I.de,zy1];omega
  ·rw[I.de];intro s hs;obtain ⟨f,hf,rfl⟩:=zx5.1 hs;rw[I.lN];exact k10 f hf
theorem Xq{t e:TypeId}{s x:Operand}{s' x':aH}{es:List I}(ho:o.op=.call { callee:=.builtin .append,args := #[s,x],argTypes := #[t,t] })(hu:c.P.underlying t=some (.slice e))(hi:(c.P.info? e).isSome=true)(hs':bC c.P t s=some s')(hx':bC c.P t x=some x')
  (hse:ep A (c.P.cellsOf e) (ab A s')=some es) (hsx:ep A (c.P.cellsOf e) (ab A x')=some []):dF c A o (ab A s') :=
 .same fun a w D E hsim=>by
  obtain ⟨i,hi⟩:=zw0.1 hi;have hci:c.P.cellsOf e=i.size:=by simp[Program.cellsOf,hi]
  obtain ⟨ad1,cp1,olds,s1,s2,s3,s4,s5,s6⟩:=oN hsim (ca hsim hs') hse;obtain ⟨ad2,cp2,news,t1,t2,t3,t4,t5,t6⟩:=oN hsim (ca hsim hx') hsx;have g2:=t6 c.P w (fun _ _ h=>h);rw[t1,hci] at g2;simp only[aG] at t4;subst t4;refine ⟨a.eval s,?_,ca hsim hs'⟩;simp only[List.length_nil] at g2 t1;unfold execOp;simp only[ho,resolve,invoke,builtin,Sem.run_bind,Sem.run_pure,Result.andThen_ok,List.map_toArray,zz9,zx2,s1,t1];cases ad1 <;>simp[Builtin.append_,run_underlying hu,sizeOf,typeInfo,hi,Builtin.lenOf,s2,g2,storeCells]
end
end Go.Abs
