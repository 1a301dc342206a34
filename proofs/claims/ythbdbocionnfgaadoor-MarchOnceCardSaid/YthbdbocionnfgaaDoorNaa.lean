/-
  A part of the proof that the law MarchOnce returns true for every input; three tables of Go's library start as the text lays them (the card ties them); conditions: none beyond the statement's own. (part 1 of 7)
-/
import Derived.WalkKit
import Derived.Orders
import Derived.Still
import Derived.RangeFuncSeq
import Derived.RangeFuncLeaves
import Derived.RangeFuncOwn
import Derived.Great.FillDense
import Derived.Great.BuildSlice
import Derived.ChangeKeysEq
import Derived.Laws.AppendOwn
import Derived.Lib.AppendZerosOnto
set_option linter.unusedSimpArgs false
set_option linter.unusedVariables false
set_option maxHeartbeats 16000000
set_option maxRecDepth 100000
namespace Go
theorem y6:type_of% @And.intro:=@And.intro
theorem v6:type_of% @Option.some.injEq:=@Option.some.injEq
theorem u8:type_of% @Nat.le_of_ble_eq_true:=@Nat.le_of_ble_eq_true
theorem t7:type_of% @Option.map_eq_some_iff:=@Option.map_eq_some_iff
theorem t8:type_of% @Bool.and_eq_true:=@Bool.and_eq_true
theorem zz0:type_of% @List.getD_eq_getElem?_getD:=@List.getD_eq_getElem?_getD
theorem zz1:type_of% @Nat.zero_add:=@Nat.zero_add
theorem zz2:type_of% @List.cons_append:=@List.cons_append
theorem zz3:type_of% @Bool.false_eq_true:=@Bool.false_eq_true
theorem zz4:type_of% @List.map_cons:=@List.map_cons
theorem zz5:type_of% @Nat.le_refl:=@Nat.le_refl
theorem zz6:type_of% @List.length_append:=@List.length_append
theorem zz7:type_of% @List.length_map:=@List.length_map
theorem zz8:type_of% @List.getElem?_eq_some_iff:=@List.getElem?_eq_some_iff
theorem zz9:type_of% @List.append_assoc:=@List.append_assoc
theorem zy0:type_of% @List.take_succ_eq_append_getElem:=@List.take_succ_eq_append_getElem
theorem zy1:type_of% @List.mem_singleton:=@List.mem_singleton
theorem zy2:type_of% @Option.map_some:=@Option.map_some
theorem zy3:type_of% @List.append_nil:=@List.append_nil
theorem zy4:type_of% @List.mem_append:=@List.mem_append
theorem zy5:type_of% @List.mem_map:=@List.mem_map
theorem zy6:type_of% @List.getElem?_append_left:=@List.getElem?_append_left
theorem zy7:type_of% @Array.getElem?_eq_some_iff:=@Array.getElem?_eq_some_iff
theorem zy8:type_of% @List.map_append:=@List.map_append
theorem zy9:type_of% @List.mem_range:=@List.mem_range
theorem zx0:type_of% @List.getElem?_eq_getElem:=@List.getElem?_eq_getElem
theorem zx1:type_of% @Option.isSome_iff_exists:=@Option.isSome_iff_exists
theorem zx2:type_of% @List.all_eq_true:=@List.all_eq_true
theorem zx3:type_of% @List.nil_append:=@List.nil_append
theorem zx4:type_of% @List.getElem?_map:=@List.getElem?_map
theorem zx5:type_of% @List.mem_filter:=@List.mem_filter
theorem zx6:type_of% @List.map_nil:=@List.map_nil
theorem zx7:type_of% @List.length_take:=@List.length_take
theorem zx8:type_of% @List.getD_cons_zero:=@List.getD_cons_zero
theorem zx9:type_of% @List.getD_cons_succ:=@List.getD_cons_succ
theorem zw0:type_of% @List.filter_cons:=@List.filter_cons
theorem zw1:type_of% @List.take_succ_cons:=@List.take_succ_cons
theorem zw2:type_of% @Array.length_toList:=@Array.length_toList
theorem zw3:type_of% @Array.getElem?_toList:=@Array.getElem?_toList
theorem zw4:type_of% @Nat.zero_le:=@Nat.zero_le
theorem zw5:type_of% @List.getElem?_append_right:=@List.getElem?_append_right
theorem zw6:type_of% @Bool.true_eq_false:=@Bool.true_eq_false
theorem zw7:type_of% @List.getElem_mem:=@List.getElem_mem
theorem zw8:type_of% @Option.bind_eq_some_iff:=@Option.bind_eq_some_iff
theorem zw9:type_of% @List.mem_cons:=@List.mem_cons
theorem zv0:type_of% @List.cons.injEq:=@List.cons.injEq
theorem zv1:type_of% @List.length_cons:=@List.length_cons
theorem zv2:type_of% @List.nodup_append:=@List.nodup_append
end Go
namespace Go.Abs
open Go
inductive I where
 |undef | du
 |bool (b:Bool)
 |int (k:IntKind) (n:Int)
 |bR (s:ByteArray)
 |nilp | dA | dW
 |any
 |raw (v:Value)
 |nils (sz:Nat)
 |c0 (sz:Nat)
 |slice (sz:Nat) (es:List I)
 |agg (fs:List I)
 |tuple (fs:List I)
 |ref (c:I)
 |func (f:FuncId) (caps:List I)
 |iface (t:TypeId) (v:I)
 |ptr (n:Nat) (p:List Nat)
 |own (n:Nat) (k:Nat)
 |view (n:Nat) (p:List Nat) (sz lo k:Nat)
 |mref (n:Nat)
 |dp (n:Nat)
 |dk (ks vs:List I)
 deriving Inhabited
inductive cS where
 |one
 |eK (l:List cS)
 deriving Inhabited
mutual
def cS.size:cS→Nat
 | .one=>1
 | .eK l=>cS.sizes l
def cS.sizes:List cS→Nat
 | []=>0
 |s::l=>s.size+cS.sizes l
end
mutual
def I.bd:I→cS
 | .agg fs=>.eK (I.cV fs)
 |_=>.one
def I.cV:List I→List cS
 | []=>[]
 |f::fs=>f.bd::I.cV fs
end
mutual
def I.size:I→Nat
 | .agg fs=>I.sizes fs
 |_=>1
def I.sizes:List I→Nat
 | []=>0
 |f::fs=>f.size+I.sizes fs
end
def I.isAgg:I→Bool
 | .agg _=>true
 |_=>false
def cS.off:cS→List Nat→Option Nat
 |_,[]=>some 0
 | .one,_::_=>none
 | .eK l,i::p=>match l[i]? with
  |some s=>(s.off p).map (cS.sizes (l.take i) + ·)
  |none=>none
def cS.part:cS→List Nat→Option cS
 |s,[]=>some s
 | .one,_::_=>none
 | .eK l,i::p=>match l[i]? with
  |some s=>s.part p
  |none=>none
def I.at:I→List Nat→Option I
 |c,[]=>some c
 | .agg fs,i::p=>match fs[i]? with
  |some f=>f.at p
  |none=>none
 |_,_::_=>none
def I.eA:I→List Nat→I→I
 |_,[],v=>v
 | .agg fs,i::p,v=>match fs[i]? with
  |some f=>.agg (fs.set i (f.eA p v))
  |none=>.agg fs
 |c,_::_,_=>c
inductive bM where
 |aJ (b:Nat) (bd:cS)
 |rw (aH:Option (Nat×Nat)) (len:Nat)
 |op (b:Nat)
 |bA (b:Nat)
 |it (b:Nat)
def bM.eg:bM→Bool
 | .rw _ _=>false
 |_=>true
def bM.le(e e':bM):Prop:=e'=e∨∃ aH l blk' l',e=.rw aH l∧e'=.rw blk' l'∧l≤l'∧(l'=l→blk'=aH)
theorem bM.le.refl(e:bM):e.le e:=.inl rfl
theorem bM.le.eq{e e':bM}(h:e.le e')(hf:e.eg=true):e'=e:=by
 rcases h with h | ⟨aH,l,blk',l',rfl,_⟩
 ·exact h
 ·cases hf
theorem bM.le.trans{a b c:bM}(h:a.le b)(k:b.le c):a.le c:=by
 rcases h with rfl | ⟨aH,l,blk',l',rfl,rfl,U,ab⟩
 ·exact k
 ·rcases k with rfl | ⟨_,_,blk2,l2,e,rfl,af,aq⟩
  ·exact .inr ⟨aH,l,blk',l',rfl,rfl,U,ab⟩
  ·cases e;exact .inr ⟨aH,l,blk2,l2,rfl,rfl,by omega,fun e=>by rw[aq (by omega),ab (by omega)]⟩
abbrev aU:=Nat→Nat→Prop
abbrev bf:=Nat→Option bM
def reads(w:World)(D:aU)(b off:Nat)(cs:List Value):Prop :=
 ∀ j v,cs[j]?=some v→w.cell? ⟨b,off+j,none⟩=some v∧D b (off+j)
def pR(es:Array MapEntry)(clock:Nat):Prop:=(∀ x∈es.toList,x.born<clock)∧(es.toList.map (·.born)).Nodup
def pj(w:World)(D:aU)(b:Nat)(es:Array MapEntry)(clock:Nat):Prop:=w.heap[b]?=some (.map es clock)∧D b 0∧pR es clock
def bG(e:I)(v:Value)(cs:List Value):Prop:=if e.isAgg then v=.agg cs.toArray else cs=[v]
def jU(f:Nat)(vs:List Value):Value:=if f<1000000 then .func (.func f) #[] vs.toArray else .func (.func (f-1000000)) vs.toArray #[]
theorem nX{f:Nat}(h:f<1000000)(vs:List Value):jU f vs=.func (.func f) #[] vs.toArray:=by simp only[jU,if_pos h]
theorem r1(f:Nat)(vs:List Value):jU (f+1000000) vs=.func (.func f) vs.toArray #[]:=by
 simp only[jU,if_neg (show ¬ f+1000000<1000000 by omega),Nat.add_sub_cancel]
theorem Ou{f:Nat}{vs vs':List Value}(h:jU f vs=jU f vs'):vs=vs':=by
 rcases Nat.lt_or_ge f 1000000 with hf | hf
 ·rw[nX hf,nX hf] at h;simpa using h
 ·obtain ⟨g,rfl⟩:∃ g,f=g+1000000:=⟨f-1000000,by omega⟩
  rw[r1,r1] at h;simpa using h
theorem CA(f:Nat)(vs:List Value):(jU f vs).oneCell'=true:=by
 simp only[jU];split <;>simp[Value.oneCell']
mutual
/-- These cells hold this value. -/
def al(w:World)(D:aU)(E:bf):I→List Value→Prop
 | .agg fs,cs=>aP w D E fs cs
 | .bool b,cs=>cs=[.bool b]
 | .int k n,cs=>cs=[.int k n]∧k.min≤n∧n≤k.max
 | .bR s,cs=>cs=[.string s]∧s.size≤maxLen
 | .nilp,cs=>cs=[.pointer none]
 | .dA,cs=>cs=[.nilFunc]
 | .dW,cs=>cs=[.nilIface]
 | .any,cs=>∃ v:Value,cs=[v]∧v.oneCell'=true
 | .raw u,cs=>cs=[u]∧u.oneCell'=true
 | .nils _,cs=>cs=[.slice none 0 0]
 | .c0 _,cs=>∃ a,cs=[.slice a 0 0]
 | .slice sz es,cs=>∃ a cap,cs=[.slice a es.length cap]∧es.length≤cap∧cap≤maxLen ∧
   (es=[]∨∃ b off cs',a=some ⟨b,off,none⟩∧reads w D b off cs'∧aP w D E es cs')∧∀ e∈es,e.size=sz
 | .ref c,cs=>∃ b off cs',cs=[.pointer (some ⟨b,off,none⟩)]∧reads w D b off cs'∧al w D E c cs'
 | .func f caps,cs=>∃ vs:List Value,cs=[jU f vs]∧aG w D E caps vs
 | .iface t v,cs=>∃ u cs',cs=[.iface t u]∧bG v u cs'∧al w D E v cs'
 | .ptr n p,cs=>∃ b bd off,E n=some (.aJ b bd)∧bd.off p=some off∧cs=[.pointer (some ⟨b,off,none⟩)]
 | .own n k,cs=>∃ aH l,E n=some (.rw aH l)∧k≤l∧(∃ a m c,cs=[.slice a m c]) ∧
   (k=l→match aH with | none=>cs=[.slice none 0 0] | some (b,cap)=>cs=[.slice (some ⟨b,0,none⟩) k cap])
 | .view n p sz lo k,cs=>∃ b bd off l,E n=some (.aJ b bd)∧bd.off p=some off∧bd.part p=some (.eK l)∧cs=[.slice (some ⟨b,off+lo*sz,none⟩) k (l.length-lo)]∧l.length≤maxLen∧lo+k≤l.length∧∀ s∈l,s.size=sz
 | .mref n,cs=>∃ b,E n=some (.bA b)∧cs=[.map (some b)]
 | .dp n,cs=>∃ b,E n=some (.it b)∧cs=[.pointer (some ⟨b,0,none⟩)]
 | .dk ks vs,cs=>∃ b es clock,cs=[.map (some b)]∧pj w D b es clock∧aG w D E ks (es.toList.map (·.key))∧aG w D E vs (es.toList.map (·.val))
 | .undef,_ | .du,_ | .tuple _,_=>False
def aP(w:World)(D:aU)(E:bf):List I→List Value→Prop
 | [],cs=>cs=[]
 |e::es,cs=>∃ c1 c2,cs=c1++c2∧al w D E e c1∧aP w D E es c2
def aG(w:World)(D:aU)(E:bf):List I→List Value→Prop
 | [],vs=>vs=[]
 |e::es,vs=>∃ v rest cs,vs=v::rest∧bG e v cs∧al w D E e cs∧aG w D E es rest
end
def bg(w:World)(D:aU)(E:bf)(x:I)(v:Value):Prop :=
 match x with
 | .undef=>v=undef
 | .du=>True
 | .tuple fs=>∃ vs:List Value,v=.tuple vs.toArray∧aG w D E fs vs
 |x=>∃ cs,bG x v cs∧al w D E x cs
structure dU (w:World) (D:aU) (E:bf) (w':World) (D':aU) (E':bf):Prop where
 cZ:∀ b o,D b o→D' b o
 cell:∀ b o v,D b o→w.cell? ⟨b,o,none⟩=some v→w'.cell? ⟨b,o,none⟩=some v
 aJ:∀ n b bd,E n=some (.aJ b bd)→E' n=some (.aJ b bd)
 rw:∀ n aH l,E n=some (.rw aH l)→∃ blk' l',E' n=some (.rw blk' l')∧l≤l'∧(l'=l→blk'=aH)
 bA:∀ n b,E n=some (.bA b)→E' n=some (.bA b)
 it:∀ n b,E n=some (.it b)→E' n=some (.it b)
 jB:∀ b es ck,D b 0→w.heap[b]?=some (.map es ck)→w'.heap[b]?=some (.map es ck)
structure h4 (w:World) (D:aU) (w':World):Prop where
 cell:∀ b o v,D b o→w.cell? ⟨b,o,none⟩=some v→w'.cell? ⟨b,o,none⟩=some v
 jB:∀ b es ck,D b 0→w.heap[b]?=some (.map es ck)→w'.heap[b]?=some (.map es ck)
theorem h4.refl(w:World)(D:aU):h4 w D w:=⟨fun _ _ _ _ h=>h,fun _ _ _ _ h=>h⟩
theorem h4.trans{w w' w'':World}{D D':aU}(h:h4 w D w')(hD:∀ b o,D b o→D' b o)(k:h4 w' D' w''):h4 w D w'' :=
 ⟨fun b o v ah hv=>k.cell b o v (hD b o ah) (h.cell b o v ah hv),fun b es ck ah hm=>k.jB b es ck (hD b 0 ah) (h.jB b es ck ah hm)⟩
theorem dU.fw{w w':World}{D D':aU}{E E':bf}(h:dU w D E w' D' E'):h4 w D w':=⟨h.cell,h.jB⟩
theorem pj.later{w w':World}{D D':aU}{E E':bf}(h:dU w D E w' D' E'){b:Nat}{es:Array MapEntry}{clock:Nat}(hr:pj w D b es clock):pj w' D' b es clock :=
 ⟨h.jB _ _ _ hr.2.1 hr.1,h.cZ _ _ hr.2.1,hr.2.2⟩
theorem reads.later{w w':World}{D D':aU}{E E':bf}(h:dU w D E w' D' E'){b off:Nat}{cs:List Value}(hr:reads w D b off cs):reads w' D' b off cs :=
 fun j v hj=>⟨h.cell _ _ _ (hr j v hj).2 (hr j v hj).1,h.cZ _ _ (hr j v hj).2⟩
mutual
theorem al.later{w w':World}{D D':aU}{E E':bf}(h:dU w D E w' D' E'):∀ (x:I) (cs:List Value),al w D E x cs→al w' D' E' x cs
 | .agg fs,cs,hr=>by simp only[al] at *;exact aP.later h fs cs hr
 | .bool b,cs,hr=>by simpa only[al] using hr
 | .int k n,cs,hr=>by simpa only[al] using hr
 | .bR s,cs,hr=>by simpa only[al] using hr
 | .nilp,cs,hr=>by simpa only[al] using hr
 | .dA,cs,hr=>by simpa only[al] using hr
 | .dW,cs,hr | .any,cs,hr=>by simpa only[al] using hr
 | .raw _,cs,hr=>by simpa only[al] using hr
 | .nils _,cs,hr=>by simpa only[al] using hr
 | .c0 _,cs,hr=>by simpa only[al] using hr
 | .slice sz es,cs,hr=>by
  simp only[al] at *;obtain ⟨a,cap,U,ab,af,aq,h5⟩:=hr;refine ⟨a,cap,U,ab,af,?_,h5⟩;rcases aq with aq | ⟨b,off,cs',h6,h7,h8⟩
  ·exact .inl aq
  ·exact .inr ⟨b,off,cs',h6,h7.later h,aP.later h es cs' h8⟩
 | .ref c,cs,hr=>by
  simp only[al] at *;obtain ⟨b,off,cs',U,ab,af⟩:=hr;exact ⟨b,off,cs',U,ab.later h,al.later h c cs' af⟩
 | .func f caps,cs,hr=>by
  simp only[al] at *;obtain ⟨vs,U,ab⟩:=hr;exact ⟨vs,U,aG.later h caps vs ab⟩
 | .iface t v,cs,hr=>by
  simp only[al] at *;obtain ⟨u,cs',U,ab,af⟩:=hr;exact ⟨u,cs',U,ab,al.later h v cs' af⟩
 | .ptr n p,cs,hr=>by
  simp only[al] at *;obtain ⟨b,bd,off,U,ab,af⟩:=hr;exact ⟨b,bd,off,h.aJ _ _ _ U,ab,af⟩
 | .own n k,cs,hr=>by
  simp only[al] at *;obtain ⟨aH,l,U,ab,af,aq⟩:=hr;obtain ⟨blk',l',h5,h6,h7⟩:=h.rw _ _ _ U;refine ⟨blk',l',h5,Nat.le_trans ab h6,af,fun e =>?_⟩;have e1:l'=l:=by omega
  rw[h7 e1];exact aq (by omega)
 | .view n p _ _ _,cs,hr=>by
  simp only[al] at *;obtain ⟨b,bd,off,l,U,ab⟩:=hr;exact ⟨b,bd,off,l,h.aJ _ _ _ U,ab⟩
 | .mref n,cs,hr=>by
  simp only[al] at *;obtain ⟨b,U,ab⟩:=hr;exact ⟨b,h.bA _ _ U,ab⟩
 | .dp n,cs,hr=>by
  simp only[al] at *;obtain ⟨b,U,ab⟩:=hr;exact ⟨b,h.it _ _ U,ab⟩
 | .dk ks vs,cs,hr=>by
  simp only[al] at *;obtain ⟨b,es,clock,U,ab,af,aq⟩:=hr;exact ⟨b,es,clock,U,ab.later h,aG.later h ks _ af,aG.later h vs _ aq⟩
 | .undef,_,hr=>by simp only[al] at hr
 | .du,_,hr=>by simp only[al] at hr
 | .tuple _,_,hr=>by simp only[al] at hr
theorem aP.later{w w':World}{D D':aU}{E E':bf}(h:dU w D E w' D' E'):∀ (xs:List I) (cs:List Value),aP w D E xs cs→aP w' D' E' xs cs
 | [],cs,hr=>by simpa only[aP] using hr
 |x::xs,cs,hr=>by
  simp only[aP] at *;obtain ⟨c1,c2,U,ab,af⟩:=hr;exact ⟨c1,c2,U,al.later h x c1 ab,aP.later h xs c2 af⟩
theorem aG.later{w w':World}{D D':aU}{E E':bf}(h:dU w D E w' D' E'):∀ (xs:List I) (vs:List Value),aG w D E xs vs→aG w' D' E' xs vs
 | [],vs,hr=>by simpa only[aG] using hr
 |x::xs,vs,hr=>by
  simp only[aG] at *;obtain ⟨v,rest,cs,U,ab,af,aq⟩:=hr;exact ⟨v,rest,cs,U,ab,al.later h x cs af,aG.later h xs rest aq⟩
end
theorem bg.later{w w':World}{D D':aU}{E E':bf}(h:dU w D E w' D' E'){x:I}{v:Value}(hr:bg w D E x v):bg w' D' E' x v:=by
 cases x <;>simp only[bg] at * <;>first
  |exact hr
  |(obtain ⟨vs,U,ab⟩:=hr;exact ⟨vs,U,aG.later h _ _ ab⟩)
  |(obtain ⟨cs,U,ab⟩:=hr;exact ⟨cs,U,al.later h _ _ ab⟩)
mutual
theorem I.l9:∀ x:I,x.bd.size=x.size
 | .agg fs=>by simp only[I.bd,I.size,cS.size];exact I.nz fs
 | .undef | .du | .bool _ | .int _ _ | .bR _ | .nilp | .dA | .dW | .any | .raw _ | .nils _ | .c0 _ | .slice _ _ | .tuple _ | .ref _ | .func _ _ | .iface _ _ | .ptr _ _ | .own _ _ | .view _ _ _ _ _ | .mref _ | .dp _ | .dk _ _=>by simp only[I.bd,I.size,cS.size]
theorem I.nz:∀ xs:List I,cS.sizes (I.cV xs)=I.sizes xs
 | []=>by simp only[I.cV,I.sizes,cS.sizes]
 |x::xs=>by simp only[I.cV,I.sizes,cS.sizes];rw[I.l9 x,I.nz xs]
end
mutual
theorem al.length{w:World}{D:aU}{E:bf} : ∀ (x:I) (cs:List Value),al w D E x cs→cs.length=x.size
 | .agg fs,cs,hr=>by simp only[al,I.size] at *;exact aP.length fs cs hr
 | .bool b,cs,hr=>by simp only[al] at hr;simp[hr,I.size]
 | .int k n,cs,hr=>by simp only[al] at hr;simp[hr.1,I.size]
 | .bR s,cs,hr=>by simp only[al] at hr;simp[hr.1,I.size]
 | .nilp,cs,hr=>by simp only[al] at hr;simp[hr,I.size]
 | .dA,cs,hr=>by simp only[al] at hr;simp[hr,I.size]
 | .dW,cs,hr=>by simp only[al] at hr;simp[hr,I.size]
 | .any,cs,hr=>by simp only[al] at hr;obtain ⟨v,rfl,_⟩:=hr;simp[I.size]
 | .raw u,cs,hr=>by simp only[al] at hr;simp[hr.1,I.size]
 | .nils _,cs,hr=>by simp only[al] at hr;simp[hr,I.size]
 | .c0 _,cs,hr=>by simp only[al] at hr;obtain ⟨a,rfl⟩:=hr;simp[I.size]
 | .slice sz es,cs,hr=>by simp only[al] at hr;obtain ⟨a,cap,rfl,_⟩:=hr;simp[I.size]
 | .ref c,cs,hr=>by simp only[al] at hr;obtain ⟨b,off,cs',rfl,_⟩:=hr;simp[I.size]
 | .func f caps,cs,hr=>by simp only[al] at hr;obtain ⟨vs,rfl,_⟩:=hr;simp[I.size]
 | .iface t v,cs,hr=>by simp only[al] at hr;obtain ⟨u,cs',rfl,_⟩:=hr;simp[I.size]
 | .ptr n p,cs,hr=>by simp only[al] at hr;obtain ⟨b,bd,off,_,_,rfl⟩:=hr;simp[I.size]
 | .own n k,cs,hr=>by simp only[al] at hr;obtain ⟨aH,l,_,_,⟨a,m,c,rfl⟩,_⟩:=hr;simp[I.size]
 | .view n p _ _ _,cs,hr=>by simp only[al] at hr;obtain ⟨b,bd,off,l,_,_,_,rfl,_⟩:=hr;simp[I.size]
 | .mref n,cs,hr=>by simp only[al] at hr;obtain ⟨b,_,rfl⟩:=hr;simp[I.size]
 | .dp n,cs,hr=>by simp only[al] at hr;obtain ⟨b,_,rfl⟩:=hr;simp[I.size]
 | .dk ks vs,cs,hr=>by simp only[al] at hr;obtain ⟨b,es,ck,rfl,_⟩:=hr;simp[I.size]
 | .undef,_,hr=>by simp only[al] at hr
 | .du,_,hr=>by simp only[al] at hr
 | .tuple _,_,hr=>by simp only[al] at hr
theorem aP.length{w:World}{D:aU}{E:bf} : ∀ (xs:List I) (cs:List Value),aP w D E xs cs→cs.length=I.sizes xs
 | [],cs,hr=>by simp only[aP] at hr;simp[hr,I.sizes]
 |x::xs,cs,hr=>by
  simp only[aP] at hr;obtain ⟨c1,c2,rfl,U,ab⟩:=hr;simp only[zz6,I.sizes,al.length x c1 U,aP.length xs c2 ab]
end
mutual
theorem al.mY{w:World}{D:aU}{E:bf} : ∀ (x:I) (cs:List Value),al w D E x cs→∀ v∈cs,v.oneCell'=true
 | .agg fs,cs,hr=>by simp only[al] at hr;exact aP.mY fs cs hr
 | .bool b,cs,hr=>by simp only[al] at hr;simp[hr,Value.oneCell']
 | .int k n,cs,hr=>by simp only[al] at hr;simp[hr.1,Value.oneCell']
 | .bR s,cs,hr=>by simp only[al] at hr;simp[hr.1,Value.oneCell']
 | .nilp,cs,hr=>by simp only[al] at hr;simp[hr,Value.oneCell']
 | .dA,cs,hr=>by simp only[al] at hr;simp[hr,Value.oneCell']
 | .dW,cs,hr=>by simp only[al] at hr;simp[hr,Value.oneCell']
 | .any,cs,hr=>by simp only[al] at hr;obtain ⟨v,rfl,h⟩:=hr;simpa using h
 | .raw u,cs,hr=>by simp only[al] at hr;simpa[hr.1] using hr.2
 | .nils _,cs,hr=>by simp only[al] at hr;simp[hr,Value.oneCell']
 | .c0 _,cs,hr=>by simp only[al] at hr;obtain ⟨a,rfl⟩:=hr;simp[Value.oneCell']
 | .slice sz es,cs,hr=>by simp only[al] at hr;obtain ⟨a,cap,rfl,_⟩:=hr;simp[Value.oneCell']
 | .ref c,cs,hr=>by simp only[al] at hr;obtain ⟨b,off,cs',rfl,_⟩:=hr;simp[Value.oneCell']
 | .func f caps,cs,hr=>by simp only[al] at hr;obtain ⟨vs,rfl,_⟩:=hr;simp only[jU];split <;>simp[Value.oneCell']
 | .iface t v,cs,hr=>by simp only[al] at hr;obtain ⟨u,cs',rfl,_⟩:=hr;simp[Value.oneCell']
 | .ptr n p,cs,hr=>by simp only[al] at hr;obtain ⟨b,bd,off,_,_,rfl⟩:=hr;simp[Value.oneCell']
 | .own n k,cs,hr=>by simp only[al] at hr;obtain ⟨aH,l,_,_,⟨a,m,c,rfl⟩,_⟩:=hr;simp[Value.oneCell']
 | .view n p _ _ _,cs,hr=>by simp only[al] at hr;obtain ⟨b,bd,off,l,_,_,_,rfl,_⟩:=hr;simp[Value.oneCell']
 | .mref n,cs,hr=>by simp only[al] at hr;obtain ⟨b,_,rfl⟩:=hr;simp[Value.oneCell']
 | .dp n,cs,hr=>by simp only[al] at hr;obtain ⟨b,_,rfl⟩:=hr;simp[Value.oneCell']
 | .dk ks vs,cs,hr=>by simp only[al] at hr;obtain ⟨b,es,ck,rfl,_⟩:=hr;simp[Value.oneCell']
 | .undef,_,hr=>by simp only[al] at hr
 | .du,_,hr=>by simp only[al] at hr
 | .tuple _,_,hr=>by simp only[al] at hr
theorem aP.mY{w:World}{D:aU}{E:bf} : ∀ (xs:List I) (cs:List Value),aP w D E xs cs→∀ v∈cs,v.oneCell'=true
 | [],cs,hr=>by simp only[aP] at hr;simp[hr]
 |x::xs,cs,hr=>by
  simp only[aP] at hr;obtain ⟨c1,c2,rfl,U,ab⟩:=hr;intro v hv;rcases zy4.1 hv with h | h
  ·exact al.mY x c1 U v h
  ·exact aP.mY xs c2 ab v h
end
theorem bG.cells{x:I}{v:Value}{cs:List Value}{w:World}{D:aU}{E:bf}(h:bG x v cs)(hr:al w D E x cs):v.cells.toList=cs:=by
 unfold bG at h;split at h
 ·rw[h];simp[Value.cells]
 ·subst h;have:=al.mY x _ hr v (by simp);cases v <;>simp[Value.cells,Value.oneCell'] at *
theorem ng{w:World}{D:aU}{E:bf} : ∀ (xs:List I) (cs:List Value) (i:Nat) (x:I),aP w D E xs cs→xs[i]?=some x →
  ∃ c1 c2 c3,cs=c1++c2++c3∧c1.length=I.sizes (xs.take i)∧aP w D E (xs.take i) c1∧al w D E x c2∧aP w D E (xs.drop (i+1)) c3
 | [],_,i,x,_,h=>by simp at h
 |y::ys,cs,0,x,hr,h=>by
  simp only[List.getElem?_cons_zero,v6] at h;subst h;simp only[aP] at hr;obtain ⟨c1,c2,rfl,U,ab⟩:=hr;exact ⟨[],c1,c2,by simp,by simp[I.sizes],by simp[aP],U,by simpa using ab⟩
 |y::ys,cs,i+1,x,hr,h=>by
  simp only[List.getElem?_cons_succ] at h;simp only[aP] at hr;obtain ⟨c0,c',rfl,U,ab⟩:=hr;obtain ⟨c1,c2,c3,rfl,af,aq,h5,h6⟩:=ng ys c' i x ab h;refine ⟨c0++c1,c2,c3,by simp,?_,?_,h5,by simpa using h6⟩
  ·simp only[zz6,zw1,I.sizes,af,al.length y c0 U]
  ·simp only[zw1,aP];exact ⟨c0,c1,rfl,U,aq⟩
theorem kH{w:World}{D:aU}{E:bf} : ∀ (xs ys:List I) (cs ds:List Value),aP w D E xs cs→aP w D E ys ds→aP w D E (xs++ys) (cs++ds)
 | [],ys,cs,ds,h,k=>by simp only[aP] at h;subst h;simpa using k
 |x::xs,ys,cs,ds,h,k=>by
  simp only[aP,zz2] at *;obtain ⟨c1,c2,rfl,U,ab⟩:=h;exact ⟨c1,c2++ds,by simp,U,kH xs ys c2 ds ab k⟩
theorem I.iZ{sz:Nat} : ∀ (xs:List I),(∀ x∈xs,x.size=sz)→I.sizes xs=xs.length*sz
 | [],_=>by simp[I.sizes]
 |x::xs,h=>by
  simp only[I.sizes,zv1];rw[h x (by simp),I.iZ xs (fun y hy=>h y (by simp[hy])),Nat.add_mul];omega
theorem I.dw:∀ xs:List I,I.cV xs=xs.map I.bd
 | []=>by simp[I.cV]
 |x::xs=>by simp[I.cV,I.dw xs]
theorem yI{w:World}{D:aU}{E:bf} : ∀ (p:List Nat) (c x:I) (cs:List Value),al w D E c cs→c.at p=some x →
  ∃ off c1 c2 c3,c.bd.off p=some off∧cs=c1++c2++c3∧c1.length=off∧al w D E x c2
 | [],c,x,cs,hr,h=>by
  simp only[I.at,v6] at h;subst h;exact ⟨0,[],cs,[],by cases c.bd <;>simp[cS.off],by simp,rfl,hr⟩
 |i::p,.agg fs,x,cs,hr,h=>by
  simp only[I.at] at h;simp only[al] at hr;cases hf:fs[i]? with
  |none=>simp[hf] at h
  |some f =>
   simp only[hf] at h;obtain ⟨c1,c2,c3,rfl,U,_,af,_⟩:=ng fs cs i f hr hf;obtain ⟨off,d1,d2,d3,aq,rfl,h6,h7⟩:=yI p f x c2 af h;refine ⟨I.sizes (fs.take i)+off,c1++d1,d2,d3++c3,?_,by simp,by simp[U,h6],h7⟩;simp only[I.bd,cS.off,I.dw,zx4,hf,zy2,aq];rw[←List.map_take,←I.dw,I.nz]
 |_::_,.undef,_,_,_,h | _::_,.du,_,_,_,h | _::_,.bool _,_,_,_,h | _::_,.int _ _,_,_,_,h | _::_,.bR _,_,_,_,h | _::_,.nilp,_,_,_,h
 |_::_,.dA,_,_,_,h | _::_,.dW,_,_,_,h | _::_,.any,_,_,_,h | _::_,.raw _,_,_,_,h | _::_,.nils _,_,_,_,h | _::_,.c0 _,_,_,_,h | _::_,.slice _ _,_,_,_,h | _::_,.tuple _,_,_,_,h
 |_::_,.ref _,_,_,_,h | _::_,.func _ _,_,_,_,h | _::_,.iface _ _,_,_,_,h | _::_,.ptr _ _,_,_,_,h | _::_,.own _ _,_,_,_,h | _::_,.view _ _ _ _ _,_,_,_,h | _::_,.mref _,_,_,_,h | _::_,.dp _,_,_,_,h | _::_,.dk _ _,_,_,_,h=>by simp[I.at] at h
theorem vk{w:World}{D:aU}{E:bf} : ∀ (p:List Nat) (c x y:I) (cs ds:List Value),al w D E c cs→c.at p=some x→al w D E y ds→y.bd=x.bd →
  ∃ off,c.bd.off p=some off∧off+ds.length≤cs.length∧al w D E (c.eA p y) (cs.take off++ds++cs.drop (off+ds.length))∧(c.eA p y).bd=c.bd
 | [],c,x,y,cs,ds,hr,h,hy,hs=>by
  simp only[I.at,v6] at h;subst h;have hl:ds.length=cs.length:=by rw[al.length _ _ hy,al.length _ _ hr,←I.l9,←I.l9,hs]
  refine ⟨0,by cases c.bd <;>simp[cS.off],by omega,?_,by simpa[I.eA] using hs⟩;simpa[I.eA,hl] using hy
 |i::p,.agg fs,x,y,cs,ds,hr,h,hy,hs=>by
  simp only[I.at] at h;simp only[al] at hr;cases hf:fs[i]? with
  |none=>simp[hf] at h
  |some f =>
   simp only[hf] at h;obtain ⟨c1,c2,c3,rfl,U,ab,af,h3'⟩:=ng fs cs i f hr hf;obtain ⟨off,aq,h5,h6,h7⟩:=vk p f x y c2 ds af h hy hs;have hi:i<fs.length:=(zz8.1 hf).1;have hfi:fs[i]=f:=(zz8.1 hf).2;refine ⟨I.sizes (fs.take i)+off,?_,?_,?_,?_⟩
   ·simp only[I.bd,cS.off,I.dw,zx4,hf,zy2,aq];rw[←List.map_take,←I.dw,I.nz]
   ·simp only[zz6,U];omega
   ·simp only[I.eA,hf,al];have e1:fs.set i (f.eA p y)=fs.take i++f.eA p y::fs.drop (i+1):=by rw[List.set_eq_take_append_cons_drop];simp[hi]
    rw[e1];have e2:(c1++c2++c3).take (I.sizes (fs.take i)+off)++ds++(c1++c2++c3).drop (I.sizes (fs.take i)+off+ds.length)=c1++((c2.take off++ds++c2.drop (off+ds.length))++c3):=by
     rw[←U,zz9 c1 c2 c3,List.take_length_add_append,Nat.add_assoc,List.drop_length_add_append,List.take_append_of_le_length (by omega),List.drop_append_of_le_length (by omega)];simp
    rw[e2];refine kH _ _ _ _ ab ?_;simp only[aP];exact ⟨_,_,rfl,h6,h3'⟩
   ·simp only[I.eA,hf,I.bd,I.dw,List.map_set,h7,cS.eK.injEq];apply List.ext_getElem?;intro k;rw[List.getElem?_set];split
    ·rename_i hk;subst hk;simp[hi,hfi]
    ·rfl
 |_::_,.undef,_,_,_,_,_,h,_,_ | _::_,.du,_,_,_,_,_,h,_,_ | _::_,.bool _,_,_,_,_,_,h,_,_ | _::_,.int _ _,_,_,_,_,_,h,_,_ | _::_,.bR _,_,_,_,_,_,h,_,_ | _::_,.nilp,_,_,_,_,_,h,_,_
 |_::_,.dA,_,_,_,_,_,h,_,_ | _::_,.dW,_,_,_,_,_,h,_,_ | _::_,.any,_,_,_,_,_,h,_,_ | _::_,.raw _,_,_,_,_,_,h,_,_ | _::_,.nils _,_,_,_,_,_,h,_,_ | _::_,.c0 _,_,_,_,_,_,h,_,_ | _::_,.slice _ _,_,_,_,_,_,h,_,_ | _::_,.tuple _,_,_,_,_,_,h,_,_
 |_::_,.ref _,_,_,_,_,_,h,_,_ | _::_,.func _ _,_,_,_,_,_,h,_,_ | _::_,.iface _ _,_,_,_,_,_,h,_,_ | _::_,.ptr _ _,_,_,_,_,_,h,_,_ | _::_,.own _ _,_,_,_,_,_,h,_,_ | _::_,.view _ _ _ _ _,_,_,_,_,_,h,_,_ | _::_,.mref _,_,_,_,_,_,h,_,_ | _::_,.dp _,_,_,_,_,_,h,_,_ | _::_,.dk _ _,_,_,_,_,_,h,_,_=>by simp[I.at] at h
theorem ny:∀ (p:List Nat) (c x:I),c.at p=some x→c.bd.part p=some x.bd
 | [],c,x,h=>by simp only[I.at,v6] at h;subst h;cases c.bd <;>rfl
 |i::p,.agg fs,x,h=>by
  simp only[I.at] at h;cases hf:fs[i]? with
  |none=>simp[hf] at h
  |some f =>
   simp only[hf] at h;simp only[I.bd,cS.part,I.dw,zx4,hf,zy2];exact ny p f x h
 |_::_,.undef,_,h | _::_,.du,_,h | _::_,.bool _,_,h | _::_,.int _ _,_,h | _::_,.bR _,_,h | _::_,.nilp,_,h
 |_::_,.dA,_,h | _::_,.dW,_,h | _::_,.any,_,h | _::_,.raw _,_,h | _::_,.nils _,_,h | _::_,.c0 _,_,h | _::_,.slice _ _,_,h | _::_,.tuple _,_,h
 |_::_,.ref _,_,h | _::_,.func _ _,_,h | _::_,.iface _ _,_,h | _::_,.ptr _ _,_,h | _::_,.own _ _,_,h | _::_,.view _ _ _ _ _,_,h | _::_,.mref _,_,h | _::_,.dp _,_,h | _::_,.dk _ _,_,h=>by simp[I.at] at h
end Go.Abs
namespace Go.Abs
open Go Go.RowKit
inductive ao where
 |box (c:I)
 |bU (T:TypeId) (sz:Nat) (es:List I)
 |dC (o:Obj)
 |bA (ks vs:List I)
 |it (ks vs:List I) (left:List Nat) (cur:Option Nat)
 |dD (T:TypeId) (xs:List Int)
 deriving Inhabited
def ao.eg:ao→Bool
 | .it _ _ _ _=>false
 |_=>true
structure ai where
 t:Nat→I
 o:Nat→Option ao
def ai.put(A:ai)(d:Nat)(v:I):ai:=⟨fun k=>if k=d then v else A.t k,A.o⟩
def ai.aX(A:ai)(d:Option Nat)(v:I):ai:=match d with | some d=>A.put d v | none=>A
def ai.aV(A:ai)(n:Nat)(x:ao):ai:=⟨A.t,fun k=>if k=n then some x else A.o k⟩
def bI:List (Nat×I)→Nat→I
 | [],_=>.du
 |(k,v)::r,t=>if t=k then v else bI r t
def aj:List (Nat×ao)→Nat→Option ao
 | [],_=>none
 |(k,v)::r,t=>if t=k then some v else aj r t
def au(ts:List (Nat×I))(os:List (Nat×ao)):ai:=⟨bI ts,aj os⟩
def av(os:List (Nat×ao))(n:Nat):Bool:=(aj os n).isSome
abbrev cA:=I→List (Nat×ao)→Prop
structure cX where
 P:Program
 eZ:World
 bO:aU
 n:Nat
 own:Nat→Prop
 dn:bf
 Y:Value→List I→List (Nat×ao)→cA→Prop
 l4:Option Nat
 fx:Option (List Deferred):=none
def dv:Value→List I→List (Nat×ao)→cA→Prop:=fun _ _ _ _=>False
def cX.bH(c:cX):Fence:=match c.l4 with
 |none=>Fence.wide
 |some l=>Fence.wide.inRound l
def cX.e9(c:cX)(b:Nat):Prop:=c.eZ.heap.size≤b∨c.own b
structure e8 (M:Nat→Prop) (w w':World):Prop where
 os:w'.os=w.os
 tape:w'.tape=w.tape
 output:w'.output=w.output
 size:w.heap.size≤w'.heap.size
 block:∀ k,¬ M k→w'.heap[k]?=w.heap[k]?
theorem e8.refl(M:Nat→Prop)(w:World):e8 M w w:=⟨rfl,rfl,rfl,zz5 _,fun _ _=>rfl⟩
theorem e8.trans{M:Nat→Prop}{a b c:World}(h:e8 M a b)(k:e8 M b c):e8 M a c :=
 ⟨k.os.trans h.os,k.tape.trans h.tape,k.output.trans h.output,Nat.le_trans h.size k.size,fun i hi=>(k.block i hi).trans (h.block i hi)⟩
theorem e8.grow{M:Nat→Prop}{w w':World}{B:Nat}(h:Below B w w')(hB:∀ k,B≤k→M k):e8 M w w' :=
 ⟨h.os,h.tape,h.output,h.size,fun k hk=>h.block k (Nat.lt_of_not_le fun hle=>hk (hB k hle))⟩
theorem e8.I7{M:Nat→Prop}{w w':World}{B:Nat}(h:e8 M w w')(hB:∀ k,k<B→¬ M k):Below B w w' :=
 ⟨h.os,h.tape,h.output,h.size,fun k hk=>h.block k (hB k hk)⟩
def bM.aH:bM→Option Nat
 | .aJ b _=>some b
 | .rw (some (b,_)) _=>some b
 | .rw none _=>none
 | .op b=>some b
 | .bA b=>some b
 | .it b=>some b
def bM.eP:bM→Bool
 | .op _ | .bA _ | .it _=>true
 |_=>false
def qE:Obj→Bool
 | .loop _=>true
 |_=>false
def yd:Obj→Bool
 | .deferred _=>false
 |_=>true
theorem XL{o:Obj}(h:qE o=true):yd o=true:=by cases o <;>first | rfl | cases h
def pf(es:Array MapEntry)(bN:Array Nat):List Nat:=(List.range es.size).filter fun i=>match es[i]? with
 |some e => !bN.contains e.born
 |none=>false
def cN(M:Nat→Prop)(w:World)(D:aU)(E:bf)(n:Nat):Option ao→Prop
 |none=>E n=none
 |some (.box x)=>∃ b cs T,E n=some (.aJ b x.bd)∧M b∧w.heap[b]?=some (.cells cs T (0,0))∧al w D E x cs.toList∧∀ o,¬ D b o
 |some (.bU T sz es)=>∃ aH,E n=some (.rw aH es.length)∧(∀ e∈es,e.size=sz)∧match aH with
  |none=>es=[]
  |some (b,cap)=>∃ cs pre rest,M b∧w.heap[b]?=some (.cells cs T (0,0))∧cs.toList=pre++rest∧aP w D E es pre ∧
    cs.size=cap*sz∧es.length≤cap∧cap≤maxLen∧∀ o,D b o→o<pre.length
 |some (.dC x)=>∃ b,E n=some (.op b)∧M b∧w.heap[b]?=some x∧qE x=true∧∀ o,¬ D b o
 |some (.bA ks vs)=>∃ b es clock,E n=some (.bA b)∧M b∧w.heap[b]?=some (.map es clock)∧pR es clock∧aG w D E ks (es.toList.map (·.key))∧aG w D E vs (es.toList.map (·.val))∧∀ o,¬ D b o
 |some (.it ks vs left cur)=>∃ r b es clock since bN last,E n=some (.it r)∧M r∧w.heap[r]?=some (.mapIter (some b) since bN last)∧pj w D b es clock∧aG w D E ks (es.toList.map (·.key))∧aG w D E vs (es.toList.map (·.val)) ∧
   (∀ x∈es.toList,x.born<since)∧(since≤last∧since≤clock)∧left=pf es bN∧(∀ i,cur=some i→∃ e,es[i]?=some e∧bN.back?=some e.born∧last=clock)∧∀ o,¬ D r o
 |some (.dD T xs)=>∃ aH,E n=some (.rw aH xs.length)∧(∀ x∈xs,IntKind.i64.min≤x∧x≤IntKind.i64.max)∧match aH with
  |none=>xs=[]
  |some (b,cap)=>∃ cs m,M b∧w.heap[b]?=some (.cells cs T (0,0))∧cs.toList=(xs++List.replicate m 0).map (Value.int .i64)∧xs≠[]∧xs.length+m=cap∧cap≤maxLen∧∀ o,¬ D b o
def cE(E:bf)(b:Nat):Prop:=∃ n e,E n=some e∧e.aH=some b
structure ki (M:Nat→Prop) (w:World) (D:aU) (E:bf) (o:Nat→Option ao):Prop where
 bP:∀ n,cN M w D E n (o n)
 cO:∀ n m e e' b,E n=some e→E m=some e'→e.aH=some b→e'.aH=some b→n=m
def oK(run:Array Value→World→(Ending→World→Prop)→Prop)(since:World→aU→bf→Prop)(args:List I)(os:List (Nat×ao))(post:cA):Prop :=
 ∀ (w:World) (D:aU) (E:bf) (vs:List Value),since w D E→(∀ b o,D b o→b<w.heap.size)→ki (fun _=>True) w D E (aj os)→aG w D E args vs →
  run vs.toArray w fun e w'=>∃ v D' E' r os',e=.returned v∧post r os'∧bg w' D' E' r v∧ki (fun b=>w.heap.size≤b∨cE E b) w' D' E' (aj os') ∧
   e8 (fun b=>w.heap.size≤b∨cE E b) w w'∧(∀ b o,D b o→D' b o)∧(∀ b o,D' b o→b<w'.heap.size)∧(∀ b o,D' b o→b<w.heap.size→¬ cE E b→D b o) ∧
   (∀ n e,E n=some e→av os' n=true→∃ e',E' n=some e'∧e.le e')∧h4 w D w'
def xQ : String := "internal/strconv.uint64pow10"
def W5:Array Value:=(((List.range 20).map fun i=>((10^i:Nat):Int)).map fun z=>Value.int .u64 z).toArray
def h2(P:Program)(w:World)(own:Nat→Prop):Prop :=
 ∀ g,P.globalNamed xQ=some g→¬ own g∧w.var? P xQ=some W5
theorem h2.uJ{P:Program}{w:World}{own own':Nat→Prop}(h:h2 P w own)(ho:∀ b,own' b→own b):h2 P w own':=fun g hg=>⟨fun k=>(h g hg).1 (ho g k),(h g hg).2⟩
theorem h2.WW{P:Program}{w w':World}{own own' M:Nat→Prop}(h:h2 P w own)(hk:e8 M w w')(hM:∀ b,M b→w.heap.size≤b∨own b)(ho:∀ b,own' b→M b):h2 P w' own':=fun g hg=>by
 obtain ⟨U,ab⟩:=h g hg;have af:=ab;unfold World.var? at ab ⊢;rw[hg] at ab ⊢;simp only[Option.bind_some] at ab ⊢;have hlt:g<w.heap.size:=by
  rcases Nat.lt_or_ge g w.heap.size with h | h
  ·exact h
  ·rw[Array.getElem?_eq_none h] at ab;cases ab
 have hn:¬ M g:=fun hm=>by
  rcases hM g hm with h | h
  ·omega
  ·exact U h
 refine ⟨fun k=>hn (ho g k),?_⟩;rw[hk.block g hn];exact ab
structure zM (c:cX) (w:World) (D:aU) (E:bf):Prop where
 dG:e8 c.e9 c.eZ w
 cR:∀ b o,c.bO b o→D b o
 cZ:∀ b o,D b o→¬ c.e9 b→c.bO b o
 dQ:∀ n e,c.dn n=some e→E n=none∨∃ e',E n=some e'∧e.le e'
 fw:h4 c.eZ c.bO w
 sr:h2 c.P w (cE E)
def tN(P:Program)(v:Value)(vs:Array Value)(w:World)(R:Ending→World→Prop):Prop :=
 ∃ l,v=.func (.yield l) #[] #[]∧YieldAt Fence.wide 9 P l vs w R
def p9(c:cX):Prop:=h2 c.P c.eZ c.own∧∀ v args os post,c.Y v args os post→oK (tN c.P v) (zM c) args os post
def oL(fx:Option (List Deferred))(eZ:World)(ds:List Deferred)(w:World):Prop:=match fx with
 |none=>∃ Bs:List Nat,ds=Bs.map (fun B => { target:=.collected B,args := #[] })∧Bs.Nodup∧∀ B∈Bs,eZ.heap.size≤B∧w.heap[B]?=some (.deferred (some []))
 |some l=>ds=l
theorem oL.mono{fx:Option (List Deferred)}{eZ w w':World}{ds:List Deferred}(h:oL fx eZ ds w)(hk:∀ B,eZ.heap.size≤B→w.heap[B]?=some (.deferred (some []))→w'.heap[B]?=some (.deferred (some []))):oL fx eZ ds w':=by
 cases fx with
 |none =>
  obtain ⟨Bs,U,ab,af⟩:=h;exact ⟨Bs,U,ab,fun B hB=>⟨(af B hB).1,hk B (af B hB).1 (af B hB).2⟩⟩
 |some l=>exact h
theorem oL.grow{fx:Option (List Deferred)}{eZ w w':World}{ds:List Deferred}(h:oL fx eZ ds w)(hk:Below w.heap.size w w'):oL fx eZ ds w' :=
 h.mono fun B _ hB=>(hk.block B (zy7.1 hB).1).trans hB
structure aY (c:cX) (A:ai) (a:Act) (w:World) (D:aU) (E:bf):Prop where
 sz:a.tmps.size=c.n
 eB:oL c.fx c.eZ a.defers w
 dN:∀ t,bg w D E (A.t t) (a.tmps.getD t undef)
 dG:e8 c.e9 c.eZ w
 cZ:∀ b o,D b o→¬ c.e9 b→c.bO b o
 aQ:∀ b o,D b o→b<w.heap.size
 bP:∀ n,cN c.e9 w D E n (A.o n)
 cO:∀ n m e e' b,E n=some e→E m=some e'→e.aH=some b→e'.aH=some b→n=m
 dQ:∀ n e,c.dn n=some e→E n=none∨∃ e',E n=some e'∧e.le e'
 eL:∀ n,c.dn n≠none→c.n≤n∧1000000≤n
 cR:∀ b o,c.bO b o→D b o
 eV:p9 c
 fw:h4 c.eZ c.bO w
def b5(c:cX)(A:ai)(a:Act)(w:World):Prop:=∃ D E,aY c A a w D E
section
variable {c:cX} {A:ai} {a:Act} {w:World} {D:aU} {E:bf}
theorem aY.lp(h:aY c A a w D E){w':World}{D':aU}{E':bf}(hl:dU w D E w' D' E'):h4 c.eZ c.bO w':=h.fw.trans h.cR hl.fw
theorem aY.xn(h:aY c A a w D E){n:Nat}{e:bM}(hn:c.dn n=some e)(hf:e.eg=true):E n=none∨E n=some e:=by
 rcases h.dQ n e hn with k | ⟨e',k,hle⟩
 ·exact .inl k
 ·rw[hle.eq hf] at k;exact .inr k
theorem uX{M:Nat→Prop}{n:Nat}{x:ao}(h:cN M w D E n (some x)):E n≠none:=by
 cases x with
 |box x=>obtain ⟨b,cs,T,U,_⟩:=h;rw[U];simp
 |bU T sz es=>obtain ⟨aH,U,_⟩:=h;rw[U];simp
 |dC o=>obtain ⟨b,U,_⟩:=h;rw[U];simp
 |bA ks vs=>obtain ⟨b,es,ck,U,_⟩:=h;rw[U];simp
 |it ks vs left=>obtain ⟨r,b,es,ck,si,se,la,U,_⟩:=h;rw[U];simp
 |dD T xs=>obtain ⟨aH,U,_⟩:=h;rw[U];simp
theorem fS{w:World}{b:Nat}{o:Obj}(h:w.heap[b]?=some o):b<w.heap.size:=(zy7.1 h).1
theorem aY.gq(h:aY c A a w D E){n:Nat}{e:bM}{b:Nat}(he:E n=some e)(hb:e.aH=some b):b<w.heap.size:=by
 have:=h.bP n;unfold cN at this;split at this
 ·simp[this] at he
 ·obtain ⟨b',cs,T,U,ab,af,_⟩:=this;rw[U,v6] at he;subst he;simp only[bM.aH,v6] at hb;subst hb;exact fS af
 ·obtain ⟨aH,U,ab,af⟩:=this;rw[U,v6] at he;subst he;split at af
  ·simp[bM.aH] at hb
  ·obtain ⟨cs,pre,rest,aq,h5,_⟩:=af;simp only[bM.aH,v6] at hb;subst hb;exact fS h5
 ·obtain ⟨b',U,ab,af,_⟩:=this;rw[U,v6] at he;subst he;simp only[bM.aH,v6] at hb;subst hb;exact fS af
 ·obtain ⟨b',es,ck,U,ab,af,_⟩:=this;rw[U,v6] at he;subst he;simp only[bM.aH,v6] at hb;subst hb;exact fS af
 ·obtain ⟨r,b',es,ck,si,se,la,U,ab,af,_⟩:=this;rw[U,v6] at he;subst he;simp only[bM.aH,v6] at hb;subst hb;exact fS af
 ·obtain ⟨aH,U,ab,af⟩:=this;rw[U,v6] at he;subst he;split at af
  ·simp[bM.aH] at hb
  ·obtain ⟨cs,m,aq,h5,_⟩:=af;simp only[bM.aH,v6] at hb;subst hb;exact fS h5
theorem aY.yp(h:aY c A a w D E){n b:Nat}{e:bM}(he:E n=some e)(ho:e.eP=true)(hb:e.aH=some b):∀ o,¬ D b o:=by
 have:=h.bP n;unfold cN at this;split at this
 ·rw[this] at he;cases he
 ·obtain ⟨b',cs,T,U,_⟩:=this;rw[U] at he;cases he;cases ho
 ·obtain ⟨aH,U,_⟩:=this;rw[U] at he;cases he;cases ho
 ·obtain ⟨b',U,_,_,_,h5⟩:=this;rw[U] at he;cases he;cases hb;exact h5
 ·obtain ⟨b',es,ck,U,_,_,_,_,_,h5⟩:=this;rw[U] at he;cases he;cases hb;exact h5
 ·obtain ⟨r,b',es,ck,si,se,la,U,_,_,_,_,_,_,_,_,_,h5⟩:=this;rw[U] at he;cases he;cases hb;exact h5
 ·obtain ⟨aH,U,_⟩:=this;rw[U] at he;cases he;cases ho
theorem cN.later{M:Nat→Prop}{w':World}{D':aU}{E':bf}{n:Nat}{x:Option ao}(h:cN M w D E n x)(hl:dU w D E w' D' E')(ay:E' n=E n)
  (hheap:∀ e b,E n=some e→e.aH=some b→w'.heap[b]?=w.heap[b]?∧∀ o,D' b o→D b o):cN M w' D' E' n x:=by
 unfold cN at *;split
 ·rw[ay];exact h
 ·obtain ⟨b,cs,T,U,ab,af,aq,h5⟩:=h;obtain ⟨k1,k2⟩:=hheap _ b U rfl;exact ⟨b,cs,T,ay.trans U,ab,k1.trans af,al.later hl _ _ aq,fun o ho=>h5 o (k2 o ho)⟩
 ·obtain ⟨aH,U,ab,af⟩:=h;refine ⟨aH,ay.trans U,ab,?_⟩;split
  ·exact af
  ·rename_i b cap;obtain ⟨cs,pre,rest,aq,h5,h6,h7,h8,h9,h10,h11⟩:=af;obtain ⟨k1,k2⟩:=hheap _ b U rfl;exact ⟨cs,pre,rest,aq,k1.trans h5,h6,aP.later hl _ _ h7,h8,h9,h10,fun o ho=>h11 o (k2 o ho)⟩
 ·obtain ⟨b,U,ab,af,aq,h5⟩:=h;obtain ⟨k1,k2⟩:=hheap _ b U rfl;exact ⟨b,ay.trans U,ab,k1.trans af,aq,fun o ho=>h5 o (k2 o ho)⟩
 ·obtain ⟨b,es,ck,U,ab,af,aq,h5,h6,h7⟩:=h;obtain ⟨k1,k2⟩:=hheap _ b U rfl;exact ⟨b,es,ck,ay.trans U,ab,k1.trans af,aq,aG.later hl _ _ h5,aG.later hl _ _ h6,fun o ho=>h7 o (k2 o ho)⟩
 ·obtain ⟨r,b,es,ck,si,se,la,U,ab,af,aq,h5,h6,h7,h8,h9,h9',h10⟩:=h;obtain ⟨k1,k2⟩:=hheap _ r U rfl;exact ⟨r,b,es,ck,si,se,la,ay.trans U,ab,k1.trans af,aq.later hl,aG.later hl _ _ h5,aG.later hl _ _ h6,h7,h8,h9,h9',fun o ho=>h10 o (k2 o ho)⟩
 ·obtain ⟨aH,U,ab,af⟩:=h;refine ⟨aH,ay.trans U,ab,?_⟩;split
  ·exact af
  ·rename_i b cap;obtain ⟨cs,m,aq,h5,h6,h7,h8,h9,h10⟩:=af;obtain ⟨k1,k2⟩:=hheap _ b U rfl;exact ⟨cs,m,aq,k1.trans h5,h6,h7,h8,h9,fun o ho=>h10 o (k2 o ho)⟩
theorem dU.grow{w':World}{D':aU}(hb:Below w.heap.size w w')(hD:∀ b o,D b o→D' b o):dU w D E w' D' E:=by
 refine ⟨hD,fun b o v _ hv =>?_,fun _ _ _ h=>h,fun _ aH l h=>⟨aH,l,h,zz5 _,fun _=>rfl⟩,fun _ _ h=>h,fun _ _ h=>h,fun b es ck _ hm=>(hb.block b (fS hm)).trans hm⟩;rw[hb.cell (World.block_lt_of_cell? w _ hv)];exact hv
theorem aY.Dj(h:aY c A a w D E){w':World}(hb:Below w.heap.size w w'):e8 c.e9 w w':=e8.grow hb fun k hk=>.inl (Nat.le_trans h.dG.size hk)
theorem aY.old(h:aY c A a w D E){b:Nat}(hm:¬ c.e9 b):b<w.heap.size :=
 Nat.lt_of_lt_of_le (Nat.lt_of_not_le fun hle=>hm (.inl hle)) h.dG.size
theorem aY.kT(h:aY c A a w D E){d:Nat}(ah:d<c.n∨d<1000000):c.dn d=none:=by
 cases hh:c.dn d with
 |none=>rfl
 |some e=>have:=h.eL d (by rw[hh];simp);omega
theorem aY.grow(h:aY c A a w D E){w':World}{D':aU}(hb:Below w.heap.size w w')(hD:∀ b o,D b o→D' b o)
  (hold:∀ b o,D' b o→b<w.heap.size→D b o) (hlive:∀ b o,D' b o→b<w'.heap.size):aY c A a w' D' E:=by
 have hl:dU w D E w' D' E:=dU.grow hb hD;refine ⟨h.sz,h.eB.grow hb,fun t=>bg.later hl (h.dN t),h.dG.trans (h.Dj hb),fun b o ah hm=>h.cZ b o (hold b o ah (h.old hm)) hm,hlive,
  fun n=>(h.bP n).later hl rfl (fun e b he hb'=>⟨hb.block b (h.gq he hb'),fun o ho=>hold b o ho (h.gq he hb')⟩),h.cO,h.dQ,h.eL,fun b o ah=>hD b o (h.cR b o ah),h.eV,h.lp hl⟩
theorem aY.Hd(h:aY c A a w D E){D':aU}(hD:∀ b o,D b o→D' b o)
  (hold:∀ b o,D' b o→¬ c.e9 b→c.bO b o) (hlive:∀ b o,D' b o→b<w.heap.size)
  (hbox:∀ n x b,A.o n=some (.box x)→E n=some (.aJ b x.bd)→∀ o,¬ D' b o)
  (hrow:∀ n T sz es b cap,A.o n=some (.bU T sz es)→E n=some (.rw (some (b,cap)) es.length)→∀ o,D' b o→o<es.length*sz)
  (hui:∀ n T xs b cap,A.o n=some (.dD T xs)→E n=some (.rw (some (b,cap)) xs.length)→∀ o,¬ D' b o)
  (hopq:∀ n e b,E n=some e→e.eP=true→e.aH=some b→∀ o,¬ D' b o):aY c A a w D' E:=by
 have hl:dU w D E w D' E:=⟨hD,fun _ _ _ _ h=>h,fun _ _ _ h=>h,fun _ aH l h=>⟨aH,l,h,zz5 _,fun _=>rfl⟩,fun _ _ h=>h,fun _ _ h=>h,fun _ _ _ _ h=>h⟩
 refine ⟨h.sz,h.eB,fun t=>bg.later hl (h.dN t),h.dG,hold,hlive,fun n =>?_,h.cO,h.dQ,h.eL,fun b o ah=>hD b o (h.cR b o ah),h.eV,h.fw⟩;have ho:=h.bP n;cases hx:A.o n with
 |none=>rw[hx] at ho;exact ho
 |some x =>
  cases x with
  |box x =>
   rw[hx] at ho;obtain ⟨b,cs,T,U,ab,af,aq,h5⟩:=ho;exact ⟨b,cs,T,U,ab,af,al.later hl _ _ aq,hbox n x b hx U⟩
  |bU T sz es =>
   rw[hx] at ho;obtain ⟨aH,U,ab,af⟩:=ho;refine ⟨aH,U,ab,?_⟩;cases aH with
   |none=>exact af
   |some bc =>
    obtain ⟨b,cap⟩:=bc;obtain ⟨cs,pre,rest,aq,h5,h6,h7,h8,h9,h10,h11⟩:=af;refine ⟨cs,pre,rest,aq,h5,h6,aP.later hl _ _ h7,h8,h9,h10,fun o ah =>?_⟩;rw[aP.length _ _ h7,I.iZ _ ab];exact hrow n T sz es b cap hx U o ah
  |dC x =>
   rw[hx] at ho;obtain ⟨b,U,ab,af,aq,h5⟩:=ho;exact ⟨b,U,ab,af,aq,hopq n _ b U rfl rfl⟩
  |bA ks vs =>
   rw[hx] at ho;obtain ⟨b,es,ck,U,ab,af,aq,h5,h6,h7⟩:=ho;exact ⟨b,es,ck,U,ab,af,aq,aG.later hl _ _ h5,aG.later hl _ _ h6,hopq n _ b U rfl rfl⟩
  |it ks vs left cur =>
   rw[hx] at ho;obtain ⟨r,b,es,ck,si,se,la,U,ab,af,aq,h5,h6,h7,h8,h9,h9',h10⟩:=ho;exact ⟨r,b,es,ck,si,se,la,U,ab,af,aq.later hl,aG.later hl _ _ h5,aG.later hl _ _ h6,h7,h8,h9,h9',hopq n _ r U rfl rfl⟩
  |dD T xs =>
   rw[hx] at ho;obtain ⟨aH,U,ab,af⟩:=ho;refine ⟨aH,U,ab,?_⟩;cases aH with
   |none=>exact af
   |some bc =>
    obtain ⟨b,cap⟩:=bc;obtain ⟨cs,m,aq,h5,h6,h7,h8,h9,h10⟩:=af;exact ⟨cs,m,aq,h5,h6,h7,h8,h9,hui n T xs b cap hx U⟩
theorem V4(a:Act)(d:Nat)(v:Value)(t:Nat)(ah:d<a.tmps.size):(a.put (some d) v).tmps.getD t undef=if t=d then v else a.tmps.getD t undef:=by
 simp only[Act.put,Array.getD_eq_getD_getElem?,Array.getElem?_setIfInBounds];by_cases h:t=d
 ·subst h;simp[ah]
 ·simp[h,Ne.symm h]
theorem aY.put(h:aY c A a w D E){d:Nat}{x:I}{v:Value}(ah:d<c.n)(hv:bg w D E x v):aY c (A.put d x) (a.put (some d) v) w D E:=by
 refine ⟨by simp[Act.put,h.sz],by exact h.eB,fun t =>?_,h.dG,h.cZ,h.aQ,h.bP,h.cO,h.dQ,h.eL,h.cR,h.eV,h.fw⟩;rw[V4 a d v t (by rw[h.sz];exact ah)];simp only[ai.put];split
 ·exact hv
 ·exact h.dN t
theorem aY.aX(h:aY c A a w D E){d:Option Nat}{x:I}{v:Value}(ah:∀ k,d=some k→k<c.n)(hv:bg w D E x v):aY c (A.aX d x) (a.put d v) w D E:=by
 cases d with
 |none=>exact h
 |some d=>exact h.put (ah d rfl) hv
theorem rI(w:World)(o:Obj):Below w.heap.size w (w.alloc o):=(Below.refl _ _).alloc (zz5 _) o
theorem GG{w:World}{D:aU}{E:bf} : ∀ {xs:List I} {vs:List Value},aG w D E xs vs→vs.length=xs.length
 | [],vs,h=>by simp only[aG] at h;subst h;rfl
 |x::xs,vs,h=>by
  simp only[aG] at h;obtain ⟨v,rest,cs,rfl,_,_,af⟩:=h;simp[GG af]
theorem aY.ya(h:aY c A a w D E){d:Nat}{x:ao}{o':Obj}{e:bM}(hdn:d<c.n∨d<1000000)(ah:A.o d=none)(heb:e.aH=some w.heap.size)
  (hx:dU w D E (w.alloc o') D (fun n=>if n=d then some e else E n)→(∀ o,¬ D w.heap.size o)→cN c.e9 (w.alloc o') D (fun n=>if n=d then some e else E n) d (some x)) :
  aY c (A.aV d x) a (w.alloc o') D (fun n=>if n=d then some e else E n):=by
 have hEd:E d=none:=by have:=h.bP d;rw[ah] at this;exact this
 have hne:∀ {n:Nat} {e:bM},E n=some e→n≠d:=fun he e'=>by rw[e',hEd] at he;cases he
 have hl:dU w D E (w.alloc o') D (fun n=>if n=d then some e else E n):=by
  refine ⟨fun _ _ h=>h,fun b o v _ hv =>?_,fun n b bd he =>?_,fun n aH l he =>?_,fun n b he =>?_,fun n b he =>?_,fun b es ck _ hm=>(Below.heap_alloc w _ b (fS hm)).trans hm⟩
  ·rw[World.cell?_alloc_lt _ _ _ (World.block_lt_of_cell? w _ hv)];exact hv
  ·simp only[if_neg (hne he)];exact he
  ·exact ⟨aH,l,by simp only[if_neg (hne he)];exact he,zz5 _,fun _=>rfl⟩
  ·simp only[if_neg (hne he)];exact he
  ·simp only[if_neg (hne he)];exact he
 refine ⟨h.sz,h.eB.grow (rI w _),fun t=>bg.later hl (h.dN t),h.dG.trans (h.Dj (rI w _)),h.cZ,fun b o hd'=>by have:=h.aQ b o hd';simp;omega,fun n =>?_,?_,fun n e' hn =>?_,h.eL,h.cR,h.eV,h.lp hl⟩
 ·simp only[ai.aV];by_cases hn:n=d
  ·subst hn;simp only[if_true];exact hx hl fun o ho=>Nat.lt_irrefl _ (h.aQ _ o ho)
  ·simp only[if_neg hn];exact (h.bP n).later hl (by simp only[if_neg hn]) fun e b he hb=>⟨Below.heap_alloc w _ b (h.gq he hb),fun _ ho=>ho⟩
 ·intro n m e1 e2 b U ab af aq;by_cases hn:n=d <;>by_cases hm:m=d
  ·rw[hn,hm]
  ·simp only[if_pos hn,v6] at U;simp only[if_neg hm] at ab;subst U;rw[heb] at af;cases af;have:=h.gq ab aq;omega
  ·simp only[if_neg hn] at U;simp only[if_pos hm,v6] at ab;subst ab;rw[heb] at aq;cases aq;have:=h.gq U af;omega
  ·simp only[if_neg hn] at U;simp only[if_neg hm] at ab;exact h.cO n m e1 e2 b U ab af aq
 ·have hnd:n≠d:=fun e=>by rw[e,h.kT hdn] at hn;cases hn
  simp only[if_neg hnd];exact h.dQ n e' hn
theorem aY.sD(h:aY c A a w D E){d:Nat}{x:I}{cs:Array Value}{T:TypeId}(hdn:d<c.n∨d<1000000)(ah:A.o d=none)(hx:al w D E x cs.toList) :
  aY c (A.aV d (.box x)) a (w.alloc (.cells cs T)) D (fun n=>if n=d then some (.aJ w.heap.size x.bd) else E n) :=
 h.ya hdn ah rfl fun hl hno=>⟨w.heap.size,cs,T,by simp,.inl h.dG.size,heap_alloc_new w _,al.later hl _ _ hx,hno⟩
theorem aY.XF(h:aY c A a w D E){d:Nat}(hdn:d<c.n∨d<1000000)(ah:A.o d=none) :
  aY c (A.aV d (.bA [] [])) a (w.alloc (.map #[] 0)) D (fun n=>if n=d then some (.bA w.heap.size) else E n) :=
 h.ya hdn ah rfl fun _ hno=>⟨w.heap.size,#[],0,by simp,.inl h.dG.size,heap_alloc_new w _,⟨by simp,by simp⟩,by simp[aG],by simp[aG],hno⟩
theorem aY.XE(h:aY c A a w D E){d b clock:Nat}{ks vs:List I}{es:Array MapEntry}(hdn:d<c.n∨d<1000000)(ah:A.o d=none)(hm:pj w D b es clock)(hk:aG w D E ks (es.toList.map (·.key)))(hv:aG w D E vs (es.toList.map (·.val))) :
  aY c (A.aV d (.it ks vs (List.range ks.length) none)) a (w.alloc (.mapIter (some b) clock #[] clock)) D (fun n=>if n=d then some (.it w.heap.size) else E n) :=
 h.ya hdn ah rfl fun hl hno=>⟨w.heap.size,b,es,clock,clock,#[],clock,by simp,.inl h.dG.size,heap_alloc_new w _,hm.later hl,aG.later hl _ _ hk,aG.later hl _ _ hv,hm.2.2.1,⟨zz5 _,zz5 _⟩,by
  have e:ks.length=es.size:=by have:=GG hk;simpa using this.symm
  rw[e];unfold pf;exact (List.filter_eq_self.2 fun i hi=>by
   have hi':i<es.size:=by simpa using hi
   simp[Array.getElem?_eq_getElem hi']).symm,(fun i hi=>by cases hi),hno⟩
theorem wL(w:World)(g:Nat)(cs:Array Value)(p:Addr)(h:p.block≠g):(w.setRow g cs).cell? p=w.cell? p :=
 World.cell?_of_block (setRow_other w g p.block cs h)
theorem xN{M:Nat→Prop}{eZ w:World}(h:e8 M eZ w){g:Nat}(hg:M g)(cs:Array Value):e8 M eZ (w.setRow g cs) :=
 h.trans ⟨rfl,rfl,rfl,by simp[World.setRow],fun k hk=>setRow_other w g k cs (fun e=>hk (e▸hg))⟩
theorem aY.y7(h:aY c A a w D E){n b:Nat}{x y:I}{cs':Array Value}(hn:A.o n=some (.box x))(ay:E n=some (.aJ b x.bd))(hs:y.bd=x.bd)(hy:al w D E y cs'.toList) :
  aY c (A.aV n (.box y)) a (w.setRow b cs') D E:=by
 have ho:=h.bP n;rw[hn] at ho;obtain ⟨b',cs,T,U,ab,af,aq,h5⟩:=ho;rw[ay] at U;simp only[v6,bM.aJ.injEq,and_true] at U;subst U;have hl:dU w D E (w.setRow b cs') D E:=by
  refine ⟨fun _ _ h=>h,fun b1 o v ah hv =>?_,fun _ _ _ h=>h,fun _ aH l h=>⟨aH,l,h,zz5 _,fun _=>rfl⟩,fun _ _ h=>h,fun _ _ h=>h,fun b1 es ck ah hm=>(setRow_other w b b1 _ (fun e=>h5 0 (by rw[←e];exact ah))).trans hm⟩;rw[wL _ _ _ _ (fun e=>h5 o (by rw[←e];exact ah))];exact hv
 refine ⟨h.sz,h.eB.mono fun B _ hB=>(setRow_other w b B cs' (fun e=>by rw[e,af] at hB;cases hB)).trans hB,fun t=>bg.later hl (h.dN t),xN h.dG ab _,h.cZ,fun b1 o ah=>by have:=h.aQ b1 o ah;simpa[World.setRow] using this,fun m =>?_,h.cO,h.dQ,h.eL,h.cR,h.eV,h.lp hl⟩;simp only[ai.aV];by_cases hm:m=n
 ·subst hm;simp only[if_true,cN];exact ⟨b,cs',T,by rw[hs];exact ay,ab,setRow_heap w b cs cs' T _ af,al.later hl _ _ hy,h5⟩
 ·simp only[if_neg hm];refine (h.bP m).later hl rfl fun e b1 he hb=>⟨setRow_other w b b1 cs' (fun e1=>hm (h.cO m n e _ b he ay (by rw[hb,e1]) rfl)),fun _ ho=>ho⟩
theorem wM{w:World}{B:Nat}{o o':Obj}(h:w.heap[B]?=some o)(ho:o.isCells=false){b off:Nat}{v:Value}(hv:w.cell? ⟨b,off,none⟩=some v):(w.putObj B o').cell? ⟨b,off,none⟩=some v:=by
 have hne:b≠B:=fun e=>by
  obtain ⟨o2,ab,af⟩:=cells_of_cell hv;simp only at ab;rw[e,h] at ab;cases ab;rw[ho] at af;cases af
 rw[World.cell?_of_block (w:=w) (World.putObj_heap_other hne)];exact hv
theorem aY.za(h:aY c A a w D E){n b:Nat}{e:bM}{x:ao}{o0 o':Obj}(ay:E n=some e)(ho:e.eP=true)(hb:e.aH=some b)(hw:w.heap[b]?=some o0)(hnc:o0.isCells=false)(hnd:∀ q,o0≠.deferred q)(hmine:c.e9 b)
  (hx:dU w D E (w.putObj b o') D E→(w.putObj b o').heap[b]?=some o'→(∀ o,¬ D b o)→cN c.e9 (w.putObj b o') D E n (some x)):aY c (A.aV n x) a (w.putObj b o') D E:=by
 have hno:=h.yp ay ho hb;have hlt:b<w.heap.size:=fS hw;have hl:dU w D E (w.putObj b o') D E:=⟨fun _ _ h=>h,fun b1 o1 v _ hv=>wM hw hnc hv,fun _ _ _ h=>h,fun _ aH l h=>⟨aH,l,h,zz5 _,fun _=>rfl⟩,fun _ _ h=>h,fun _ _ h=>h,
  fun b1 es ck ah hm=>(World.putObj_heap_other (fun e1=>hno 0 (by rw[←e1];exact ah))).trans hm⟩
 refine ⟨h.sz,h.eB.mono fun B _ hB=>(World.putObj_heap_other (fun e1=>by rw[e1,hw] at hB;exact hnd _ (Option.some.inj hB))).trans hB,fun t=>bg.later hl (h.dN t),h.dG.trans ⟨rfl,rfl,rfl,by simp,fun k hk=>World.putObj_heap_other (fun e1=>hk (e1▸hmine))⟩,h.cZ,
  fun b1 o1 ah=>by have:=h.aQ b1 o1 ah;simpa using this,fun m =>?_,h.cO,h.dQ,h.eL,h.cR,h.eV,h.lp hl⟩
 simp only[ai.aV];by_cases hm:m=n
 ·subst hm;simp only[if_true];exact hx hl (World.putObj_heap_same hlt) hno
 ·simp only[if_neg hm];exact (h.bP m).later hl rfl fun e' b1 he hb'=>⟨World.putObj_heap_other (fun e1=>hm (h.cO m n e' _ b1 he ay hb' (by rw[e1];exact hb))),fun _ ho=>ho⟩
end
inductive aR where
 |t (n:Nat)
 |c (x:I)
 deriving Inhabited
inductive cD where
 |i (k:IntKind)
 |b
 |s
 |bl (l:List cD)
 |rH (n:Nat) (e:cD)
 deriving Inhabited
mutual
def cD.size:cD→Nat
 | .i _ | .b | .s=>1
 | .bl l=>cD.sizes l
 | .rH n e=>n*e.size
def cD.sizes:List cD→Nat
 | []=>0
 |t::ts=>t.size+cD.sizes ts
end
inductive bS where
 |mv (x:aR)
 |pick (c a b:aR)
 |bin (op:BinOp) (x y:aR)
 |eqv (ty:cD) (neg:Bool) (x y:aR)
 |nilS (neg:Bool) (x:aR)
 |conv (k:IntKind) (x:aR)
 |un (op:UnOp) (x:aR)
 |ld (s:Option Nat) (x:aR)
 |fa (f off:Nat) (x:aR)
 |fl (f off:Nat) (s:Option Nat) (x:aR)
 |ia (n esz:Nat) (x i:aR)
 |is (esz:Nat) (x i:aR)
 |ix (n esz:Nat) (s:Option Nat) (x i:aR)
 |len (x:aR)
 |lenT (x:aR)
 |va (n esz:Nat) (x:aR)
 |sl (esz:Nat) (x:aR) (lo hi mx:Option aR)
 |bld (zs:List I) (parts:List (Nat×aR))
 |bs (T esz:Nat) (parts:List aR)
 |ext (x:aR) (i:Nat)
 |mk (f:FuncId) (caps:List aR)
 |alloc (z:I)
 |box (x:aR)
 |bl (s:Option Nat) (x v:aR)
 |dB (e:TypeId) (esz bytes:Nat) (z:I) (s x:aR)
 |mA (e:TypeId) (esz bytes:Nat) (z:I) (s n:aR)
 |cap (x:aR)
 |bs0 (esz:Nat)
 |jQ (esz:Nat) (z:I) (x:aR)
 |lI (esz:Nat) (x y:aR)
 |call (f:FuncId) (args:List aR)
 |fy (x:aR) (args:List aR)
 |kN (f:FuncId) (args:List aR)
 |nilC (x:aR)
 |ptrE (neg:Bool) (x y:aR)
 |max2 (x y:aR)
 |kV (e:TypeId) (bytes:Nat) (z:I) (n:aR)
 |jg
 |lk (ty:cD) (z:I) (ok:Bool) (m k:aR)
 |eX (ty:cD) (m k v:aR)
 |jf (ty:cD) (m k:aR)
 |j9 (x:aR)
 |iR (x:aR)
 |ent (x:aR)
 deriving Inhabited
def wJ(sz:Nat):Value→Option I
 | .bool b=>some (.bool b)
 | .int k n=>if k.min≤n∧n≤k.max then some (.int k n) else none
 | .string s=>if s.size≤1000000 then some (.bR s) else none
 | .pointer none=>some .nilp
 | .slice none 0 0=>some (.nils sz)
 | .nilFunc=>some .dA
 | .nilIface=>some .dW
 | .map none=>some (.raw (.map none))
 |_=>none
theorem JC{sz:Nat}{v:Value}{x:I}(h:wJ sz v=some x)(w:World)(D:aU)(E:bf):bg w D E x v:=by
 unfold wJ at h;split at h
 case h_2 =>
  split at h
  ·rename_i hh;simp only[v6] at h;subst h;exact ⟨_,by simp[bG,I.isAgg];rfl,by simp only[al,true_and];exact hh⟩
  ·simp at h
 case h_3 =>
  split at h
  ·rename_i hh;simp only[v6] at h;subst h;exact ⟨_,by simp[bG,I.isAgg];rfl,by simp only[al,true_and];unfold maxLen;omega⟩
  ·simp at h
 case h_9=>simp at h
 all_goals
  simp only[v6] at h;subst h;exact ⟨_,by simp[bG,I.isAgg];rfl,by simp[al,Value.oneCell']⟩
def NO(P:Program)(t:TypeId):Nat:=match P.underlying t with | some (.slice e)=>P.cellsOf e | _=>0
def bB(P:Program)(t:TypeId):Operand→Option aR
 | .tmp n=>some (.t n)
 | .const v=>(wJ (NO P t) v).map .c
 | .func f=>if f<1000000 then some (.c (.func f [])) else none
 | .global _=>none
def ak(A:ai):aR→I
 | .t n=>A.t n
 | .c x=>x
section
variable {c:cX} {A:ai} {a:Act} {w:World} {D:aU} {E:bf}
theorem bZ(h:aY c A a w D E){P:Program}{t:TypeId}{x:Operand}{y:aR}(hc:bB P t x=some y):bg w D E (ak A y) (a.eval x):=by
 cases x with
 |tmp n=>simp only[bB,v6] at hc;subst hc;exact h.dN n
 |const v =>
  simp only[bB,t7] at hc;obtain ⟨z,hz,rfl⟩:=hc;exact JC hz w D E
 |global g=>simp[bB] at hc
 |func f =>
  simp only[bB] at hc;split at hc
  case isFalse=>cases hc
  rename_i hf;simp only[v6] at hc;subst hc;exact ⟨[.func (.func f) #[] #[]],by simp[bG,I.isAgg,ak,Act.eval],by simp only[al,ak,aG];exact ⟨[],by rw[nX hf],rfl⟩⟩
theorem lg{b:Bool}{v:Value}(h:bg w D E (.bool b) v):v=.bool b:=by
 obtain ⟨cs,U,ab⟩:=h;simp only[al] at ab;simp[bG,I.isAgg,ab] at U;exact U.symm
theorem eY{k:IntKind}{n:Int}{v:Value}(h:bg w D E (.int k n) v):v=.int k n∧k.min≤n∧n≤k.max:=by
 obtain ⟨cs,U,ab⟩:=h;simp only[al] at ab;simp[bG,I.isAgg,ab.1] at U;exact ⟨U.symm,ab.2⟩
theorem oy{s:ByteArray}{v:Value}(h:bg w D E (.bR s) v):v=.string s∧s.size≤maxLen:=by
 obtain ⟨cs,U,ab⟩:=h;simp only[al] at ab;simp[bG,I.isAgg,ab.1] at U;exact ⟨U.symm,ab.2⟩
theorem Ei{x:I}{v:Value}(hx:x.isAgg=false)(h:al w D E x [v]):bg w D E x v:=by
 cases x <;>simp only[al] at h <;>first | (simp[I.isAgg] at hx;done) | exact ⟨[v],by simp[bG,I.isAgg],by simpa only[al] using h⟩
theorem jC{fs:List I}{v:Value}(h:bg w D E (.agg fs) v):∃ cs:List Value,v=.agg cs.toArray∧aP w D E fs cs:=by
 obtain ⟨cs,U,ab⟩:=h;simp only[al] at ab;exact ⟨cs,by simpa[bG,I.isAgg] using U,ab⟩
theorem Eg{fs:List I}{cs:List Value}(h:aP w D E fs cs):bg w D E (.agg fs) (.agg cs.toArray):=⟨cs,by simp[bG,I.isAgg],by simpa only[al] using h⟩
theorem ph(b:Bool):bg w D E (.bool b) (.bool b):=⟨[.bool b],by simp[bG,I.isAgg],by simp[al]⟩
theorem kz{k:IntKind}{n:Int}(h:k.min≤n∧n≤k.max):bg w D E (.int k n) (.int k n):=⟨[.int k n],by simp[bG,I.isAgg],by simp only[al,true_and];exact h⟩
theorem l5{n:Nat}{p:List Nat}{v:Value}(h:bg w D E (.ptr n p) v):∃ b bd off,E n=some (.aJ b bd)∧bd.off p=some off∧v=.pointer (some ⟨b,off,none⟩):=by
 obtain ⟨cs,U,ab⟩:=h;simp only[al] at ab;obtain ⟨b,bd,off,af,aq,h5⟩:=ab;exact ⟨b,bd,off,af,aq,by simpa[bG,I.isAgg,h5] using U.symm⟩
theorem re{x:I}{v:Value}(h:bg w D E (.ref x) v):∃ b off cs,v=.pointer (some ⟨b,off,none⟩)∧reads w D b off cs∧al w D E x cs:=by
 obtain ⟨cs,U,ab⟩:=h;simp only[al] at ab;obtain ⟨b,off,cs',af,aq,h5⟩:=ab;exact ⟨b,off,cs',by simpa[bG,I.isAgg,af] using U.symm,aq,h5⟩
theorem uS{x:I}{b off:Nat}{cs:List Value}(U:reads w D b off cs)(ab:al w D E x cs):bg w D E (.ref x) (.pointer (some ⟨b,off,none⟩)) :=
 ⟨_,by simp[bG,I.isAgg];rfl,by simp only[al];exact ⟨b,off,cs,rfl,U,ab⟩⟩
theorem ox{sz:Nat}{es:List I}{v:Value}(h:bg w D E (.slice sz es) v):∃ ad cap,v=.slice ad es.length cap∧es.length≤cap∧cap≤maxLen ∧
  (es=[]∨∃ b off cs,ad=some ⟨b,off,none⟩∧reads w D b off cs∧aP w D E es cs)∧∀ e∈es,e.size=sz:=by
 obtain ⟨cs,U,ab⟩:=h;simp only[al] at ab;obtain ⟨ad,cap,af,aq⟩:=ab;exact ⟨ad,cap,by simpa[bG,I.isAgg,af] using U.symm,aq⟩
theorem uT{sz:Nat}{es:List I}{ad:Option Addr}{n cap:Nat}(hn:n=es.length)(U:n≤cap)(ab:cap≤maxLen)
  (af:es=[]∨∃ b off cs,ad=some ⟨b,off,none⟩∧reads w D b off cs∧aP w D E es cs) (aq:∀ e∈es,e.size=sz):bg w D E (.slice sz es) (.slice ad n cap):=by
 subst hn;exact ⟨_,by simp[bG,I.isAgg];rfl,by simp only[al];exact ⟨ad,cap,rfl,U,ab,af,aq⟩⟩
end
def cC(op:BinOp)(x y:I):Option I :=
 match x,y with
 | .int k a,.int k' b =>
  match op with
  | .shl=>if 0≤b then some (.int k (k.wrap (a*2^(min b.toNat k.bits)))) else none
  | .shr=>if 0≤b then some (.int k (a.fdiv (2^(min b.toNat k.bits)))) else none
  |op=>if k=k' then
   match op with
   | .add=>some (.int k (k.wrap (a+b)))
   | .sub=>some (.int k (k.wrap (a-b)))
   | .mul=>some (.int k (k.wrap (a*b)))
   | .quo=>if b=0 then none else some (.int k (k.wrap (a.tdiv b)))
   | .rem=>if b=0 then none else some (.int k (a.tmod b))
   | .and=>some (.int k (k.wrap ((BitVec.ofInt k.bits a &&& BitVec.ofInt k.bits b).toNat:Int)))
   | .or=>some (.int k (k.wrap ((BitVec.ofInt k.bits a ||| BitVec.ofInt k.bits b).toNat:Int)))
   | .xor=>some (.int k (k.wrap ((BitVec.ofInt k.bits a ^^^ BitVec.ofInt k.bits b).toNat:Int)))
   | .andNot=>some (.int k (k.wrap ((BitVec.ofInt k.bits a &&& ~~~ BitVec.ofInt k.bits b).toNat:Int)))
   | .eql=>some (.bool (a==b))
   | .neq=>some (.bool (a != b))
   | .lss=>some (.bool (decide (a<b)))
   | .leq=>some (.bool (decide (a≤b)))
   | .gtr=>some (.bool (decide (a>b)))
   | .geq=>some (.bool (decide (a≥b)))
   |_=>none
   else none
 | .bR s,.bR t =>
  match op with
  | .eql=>some (.bool (s.toList==t.toList))
  | .neq=>some (.bool (!(s.toList==t.toList)))
  | .lss=>some (.bool (Op.bytesLess s.toList t.toList))
  | .leq=>some (.bool (Op.bytesLess s.toList t.toList||s.toList==t.toList))
  | .gtr=>some (.bool (!(Op.bytesLess s.toList t.toList||s.toList==t.toList)))
  | .geq=>some (.bool (!(Op.bytesLess s.toList t.toList)))
  | .add=>if s.size+t.size≤9223372036854775807 then some (.bR (s++t)) else none
  |_=>none
 |_,_=>none
theorem rn(k:IntKind)(n:Int):k.min≤k.wrap n∧k.wrap n≤k.max:=by
 cases k <;>simp only[IntKind.min,IntKind.max,IntKind.wrap,IntKind.bits,IntKind.signed] <;>simp <;>(try split) <;>omega
theorem aao(a b:Int):(0≤a→0≤a.tmod b∧a.tmod b≤a)∧(a<0→a≤a.tmod b∧a.tmod b≤0):=by
 have key:∀ n:Nat,0≤(n:Int).tmod b∧(n:Int).tmod b≤n:=by
  intro n;cases b with
  |ofNat m=>show 0≤((n%m:Nat):Int)∧((n%m:Nat):Int)≤n;have:=Nat.mod_le n m;omega
  |negSucc m=>show 0≤((n%(m+1):Nat):Int)∧((n%(m+1):Nat):Int)≤n;have:=Nat.mod_le n (m+1);omega
 refine ⟨fun h =>?_,fun h =>?_⟩
 ·obtain ⟨n,rfl⟩:=Int.eq_ofNat_of_zero_le h;exact key n
 ·obtain ⟨n,hn⟩:=Int.eq_ofNat_of_zero_le (show 0≤-a by omega);have:=key n;rw[←hn,Int.neg_tmod] at this;omega
theorem aap(k:IntKind)(a b:Int)(h:k.min≤a∧a≤k.max):k.min≤a.tmod b∧a.tmod b≤k.max:=by
 have aZ:k.min≤0∧0≤k.max:=by cases k <;>simp[IntKind.min,IntKind.max,IntKind.bits,IntKind.signed]
 have:=aao a b;omega
theorem N7(a:Int)(m:Int)(hm:0<m):(0≤a→0≤a.fdiv m∧a.fdiv m≤a)∧(a<0→a≤a.fdiv m∧a.fdiv m≤0):=by
 rw[Int.fdiv_eq_ediv_of_nonneg _ (by omega)];have U:=Int.mul_ediv_add_emod a m;have ab:=Int.emod_nonneg a (show m≠0 by omega);refine ⟨fun h=>⟨Int.ediv_nonneg h (by omega),Int.ediv_le_self _ h⟩,fun h=>⟨?_,?_⟩⟩
 ·rw[Int.le_ediv_iff_mul_le hm];have:a*m≤a*1:=Int.mul_le_mul_of_nonpos_left (by omega) (by omega);omega
 ·have:=Int.ediv_neg_of_neg_of_pos h hm;omega
theorem N8(k:IntKind)(a:Int)(n:Nat)(h:k.min≤a∧a≤k.max):k.min≤a.fdiv (2^n)∧a.fdiv (2^n)≤k.max:=by
 have aZ:k.min≤0∧0≤k.max:=by cases k <;>simp[IntKind.min,IntKind.max,IntKind.bits,IntKind.signed]
 have:=N7 a (2^n) (Int.pow_pos (by omega));omega
def cJ(A:ai):I→Option I
 | .ref x=>some x
 | .ptr n p=>match A.o n with
  |some (.box x)=>x.at p
  |_=>none
 |_=>none
mutual
def I.bC:I→Bool
 | .agg fs=>I.b9 fs
 | .slice _ es=>I.b9 es
 | .ref x=>x.bC
 | .func _ caps=>I.b9 caps
 | .iface _ v=>v.bC
 | .dk ks vs=>I.b9 ks&&I.b9 vs
 | .ptr _ _ | .own _ _ | .view _ _ _ _ _ | .mref _ | .dp _ | .undef | .du | .tuple _=>false
 | .bool _ | .int _ _ | .bR _ | .nilp | .dA | .dW | .any | .raw _ | .nils _ | .c0 _=>true
def I.b9:List I→Bool
 | []=>true
 |x::xs=>x.bC&&I.b9 xs
end
def fZ(f:I→Option I):List I→Option (List I)
 | []=>some []
 |x::xs=>match f x,fZ f xs with
  |some y,some ys=>some (y::ys)
  |_,_=>none
def c4(A:ai):Nat→I→Option I
 |0,_=>none
 |k+1,x=>if x.bC then some x else match x with
  | .agg fs=>(fZ (c4 A k) fs).map .agg
  | .func f caps=>if f<1000000 then (fZ (c4 A k) caps).map (.func f) else some .any
  | .ptr n p=>match cJ A (.ptr n p) with
   |some y=>(c4 A k y).map .ref
   |none=>none
  | .view n p sz lo l=>match cJ A (.ptr n p) with
   |some (.agg fs)=>if I.b9 ((fs.drop lo).take l)=true then some (.slice sz ((fs.drop lo).take l)) else none
   |_=>none
  | .mref n=>match A.o n with
   |some (.bA ks vs)=>if I.b9 ks=true then (fZ (c4 A k) vs).map (.dk ks) else none
   |_=>none
  | .own n l=>match A.o n with
   |some (.bU _ sz es)=>if l=es.length∧I.b9 es=true then some (.slice sz es) else none
   |_=>none
  |_=>none
mutual
/-- The value for others to hold: pointers to the frame's own variables and rows become what they hold. -/
def bn(aJ:Bool)(A:ai):I→Option I
 | .ptr n p=>if aJ then (match cJ A (.ptr n p) with | some x=>if x.bC then some (.ref x) else (c4 A 9 x).map .ref | none=>none) else none
 | .own n k=>match A.o n with
  |some (.bU _ sz es)=>if k=es.length∧I.b9 es=true then some (.slice sz es) else none
  |_=>none
 | .view n p sz lo k=>if aJ then (match cJ A (.ptr n p) with
  |some (.agg fs)=>if I.b9 ((fs.drop lo).take k)=true then some (.slice sz ((fs.drop lo).take k)) else none
  |_=>none) else none
 | .mref n=>if aJ then (match A.o n with
  |some (.bA ks vs)=>if I.b9 ks=true then (fZ (c4 A 9) vs).map (.dk ks) else none
  |_=>none) else none
 | .dp _=>none
 | .dk ks vs=>if I.b9 ks&&I.b9 vs then some (.dk ks vs) else none
 | .nils sz=>some (.slice sz [])
 | .c0 sz=>some (.slice sz [])
 | .func f caps=>if f<1000000 then (bX aJ A caps).map (.func f) else some .any
 | .agg fs=>(bX aJ A fs).map .agg
 | .tuple _=>none
 | .undef=>none
 | .du=>none
 | .bool b=>some (.bool b)
 | .int k n=>some (.int k n)
 | .bR s=>some (.bR s)
 | .nilp=>some .nilp
 | .dA=>some .dA
 | .dW=>some .dW
 | .any=>some .any
 | .raw u=>some (.raw u)
 | .slice sz es=>if I.b9 es then some (.slice sz es) else none
 | .ref x=>if x.bC then some (.ref x) else none
 | .iface t v=>if v.bC then some (.iface t v) else none
def bX(aJ:Bool)(A:ai):List I→Option (List I)
 | []=>some []
 |x::xs=>match bn aJ A x,bX aJ A xs with
  |some y,some ys=>some (y::ys)
  |_,_=>none
end
def b8(s:Option Nat)(x:I):Bool:=match s with
 |none => !x.isAgg
 |some n=>x.isAgg&&x.size==n
def I.bT:I→Bool
 | .undef | .du | .tuple _=>false
 |_=>true
def jx(n esz:Nat)(fs:List I):Bool:=fs.length==n&&fs.all fun f=>f.size==esz
def dY(zs:List I):List (Nat×I)→Option (List I)
 | []=>some zs
 |(i,v)::rest=>match zs[i]? with
  |some z=>if v.bT=true∧v.size=z.size then dY (zs.set i v) rest else none
  |none=>none
def jM(x:Option I)(d:Int):Option Int:=match x with
 |none=>some d
 |some (.int _ n)=>some n
 |_=>none
def jD(sz:Nat)(es:List I)(lo hi mx:Option I):Option I :=
 match jM hi es.length with
 |none=>none
 |some h=>match jM mx es.length with
  |none=>none
  |some m=>match jM lo 0 with
   |none=>none
   |some l=>if 0≤l∧l≤h∧h≤m∧m≤es.length then
     (if mx.isSome∧m=l then some (.c0 sz) else some (.slice sz ((es.take h.toNat).drop l.toNat))) else none
def ma(n:Nat)(p:List Nat)(sz lo k total:Nat)(lo' hi' mx':Option I):Option I :=
 match jM hi' k with
 |none=>none
 |some h=>match jM lo' 0 with
  |none=>none
  |some l=>match mx' with
   |none=>if 0≤l∧l≤h∧h≤((total-lo:Nat):Int) then (if l=((total-lo:Nat):Int) then some (.c0 sz) else some (.view n p sz (lo+l.toNat) (h.toNat-l.toNat))) else none
   |some (.int _ m)=>if 0≤l∧l≤h∧h≤m∧m≤((total-lo:Nat):Int) then some .du else none
   |_=>none
def jK(a b:Option Bool):Option Bool:=match a,b with
 |some x,some y=>some (x&&y)
 |_,_=>none
mutual
/-- '==',part by part. -/
def b7:cD→I→I→Option Bool
 | .i k,x,y=>match x,y with
  | .int k1 a,.int k2 b=>if k1=k∧k2=k then some (a==b) else none
  |_,_=>none
 | .b,x,y=>match x,y with
  | .bool a,.bool b=>some (a==b)
  |_,_=>none
 | .s,x,y=>match x,y with
  | .bR a,.bR b=>some (a.toList==b.toList)
  |_,_=>none
 | .bl l,x,y=>match x,y with
  | .agg fs,.agg gs=>iK l fs gs
  |_,_=>none
 | .rH n e,x,y=>match x,y with
  | .agg fs,.agg gs=>if fs.length=n∧gs.length=n then (fs.zip gs).foldr (fun p acc=>jK (b7 e p.1 p.2) acc) (some true) else none
  |_,_=>none
def iK:List cD→List I→List I→Option Bool
 | [],fs,gs=>match fs,gs with
  | [],[]=>some true
  |_,_=>none
 |t::ts,fs,gs=>match fs,gs with
  |f::fs,g::gs=>jK (b7 t f g) (iK ts fs gs)
  |_,_=>none
end
def qp(k:IntKind)(n:Int):Int:=k.wrap ((BitVec.ofInt k.bits (if k.signed then -1 else k.max) ^^^ BitVec.ofInt k.bits n).toNat:Int)
def eG(ty:cD)(k:I):List I→Nat→Option (Option Nat)
 | [],_=>some none
 |x::xs,i=>match b7 ty k x with
  |some true=>some (some i)
  |some false=>eG ty k xs (i+1)
  |none=>none
def gx(A:ai):I→Option (List I×List I)
 | .dk ks vs=>some (ks,vs)
 | .mref n=>match A.o n with
  |some (.bA ks vs)=>some (ks,vs)
  |_=>none
 | .raw (.map none)=>some ([],[])
 |_=>none
def fu(ty:cD)(z k:I)(ks vs:List I):Option (I×Bool) :=
 if (b7 ty k k).isSome then (match eG ty k ks 0 with
  |some (some i)=>(vs[i]?).map fun v=>(v,true)
  |some none=>some (z,false)
  |none=>none) else none
def jd:I→Option Bool
 | .nilp=>some true
 | .ptr _ _=>some false
 | .ref _=>some false
 |_=>none
def fE(ty:cD)(k v:I)(ks vs:List I):Option (List I×List I) :=
 if (b7 ty k k).isSome=true∧k.bT=true∧v.bT=true then (match eG ty k ks 0 with
  |some (some i)=>some (ks,vs.set i v)
  |some none=>some (ks++[k],vs++[v])
  |none=>none) else none
def mS(ty:cD)(k:I)(ks vs:List I):Option (List I×List I) :=
 if (b7 ty k k).isSome=true then (match eG ty k ks 0 with
  |some (some i)=>some (ks.eraseIdx i,vs.eraseIdx i)
  |some none=>some (ks,vs)
  |none=>none) else none
def mU:I→Option I
 | .ptr n p=>some (.ptr n p)
 | .ref x=>some (.ref x)
 |_=>none
def sC:I→I→Option I
 | .int k a,.int k2 b=>if k=k2 then some (.int k (if b>a then b else a)) else none
 |_,_=>none
def oh(neg:Bool):Option Bool→Option Bool→Option I
 |some a,some b=>if a||b then some (.bool (if neg then !(a&&b) else (a&&b))) else none
 |_,_=>none
def sv(ok:Bool):Option (I×Bool)→Option I
 |some (v,b)=>some (if ok then .tuple [v,.bool b] else v)
 |none=>none
def su(ty:cD)(z:I)(ok:Bool)(k:I):Option (List I×List I)→Option I
 |some (ks,vs)=>sv ok (fu ty z k ks vs)
 |none=>none
def nU(ks vs:List I):Option Nat→Option I
 |some i=>match ks[i]?,vs[i]? with
  |some k,some v=>some (.tuple [k,v])
  |_,_=>none
 |none=>none
def bq(A:ai):bS→Option I
 | .mv x=>some (ak A x)
 | .pick c a b=>match ak A c with | .bool t=>some (if t then ak A a else ak A b) | _=>none
 | .bin op x y=>cC op (ak A x) (ak A y)
 | .eqv ty neg x y=>(b7 ty (ak A x) (ak A y)).map fun b=>.bool (if neg then !b else b)
 | .nilS neg x=>match ak A x with
  | .nils _=>some (.bool (!neg))
  | .slice _ es=>if es.isEmpty then none else some (.bool neg)
  | .view _ _ _ _ _=>some (.bool neg)
  |_=>none
 | .conv k x=>match ak A x with | .int _ n=>some (.int k (k.wrap n)) | _=>none
 | .un op x=>match op,ak A x with
  | .not,.bool b=>some (.bool !b)
  | .neg,.int k n=>some (.int k (k.wrap (0-n)))
  | .xor,.int k n=>some (.int k (qp k n))
  |_,_=>none
 | .ld s x=>match cJ A (ak A x) with | some v=>if b8 s v then some v else none | none=>none
 | .fa f off x=>match ak A x with
  | .ref (.agg fs)=>match fs[f]? with | some v=>if I.sizes (fs.take f)=off then some (.ref v) else none | none=>none
  | .ptr n p=>match cJ A (.ptr n p) with | some (.agg fs)=>if f<fs.length∧I.sizes (fs.take f)=off then some (.ptr n (p++[f])) else none | _=>none
  |_=>none
 | .fl f off s x=>match ak A x with
  | .agg fs=>match fs[f]? with | some v=>if I.sizes (fs.take f)=off∧b8 s v=true then some v else none | none=>none
  |_=>none
 | .ia n esz x i=>match ak A i with
  | .int _ k=>if 0≤k∧k<n then (match ak A x with
   | .ref (.agg fs)=>if jx n esz fs then (fs[k.toNat]?).map .ref else none
   | .ptr m p=>match cJ A (.ptr m p) with | some (.agg fs)=>if jx n esz fs then some (.ptr m (p++[k.toNat])) else none | _=>none
   |_=>none) else none
  |_=>none
 | .is esz x i=>match ak A i with
  | .int _ k=>match ak A x with
   | .slice sz es=>if sz=esz∧0≤k∧k<es.length then (es[k.toNat]?).map .ref else none
   | .own m l=>match A.o m with | some (.bU _ sz es)=>if l=es.length∧sz=esz∧0≤k∧k<es.length then (es[k.toNat]?).map .ref else none | _=>none
   | .view m p sz lo l=>match cJ A (.ptr m p) with | some (.agg _)=>if sz=esz∧0≤k∧k<l then some (.ptr m (p++[lo+k.toNat])) else none | _=>none
   |_=>none
  |_=>none
 | .ix n esz s x i=>match ak A i with
  | .int _ k=>if 0≤k∧k<n then (match ak A x with
   | .agg fs=>if jx n esz fs then (match fs[k.toNat]? with | some v=>if b8 s v then some v else none | none=>none) else none
   |_=>none) else none
  |_=>none
 | .len x=>match ak A x with
  | .slice _ es=>some (.int .i64 es.length)
  | .nils _ | .c0 _=>some (.int .i64 0)
  | .own m l=>match A.o m with | some (.bU _ _ es)=>if l=es.length then some (.int .i64 es.length) else none | _=>none
  | .view _ _ _ _ k=>some (.int .i64 k)
  |_=>none
 | .cap x=>match ak A x with
  | .nils _ | .c0 _=>some (.int .i64 ((0:Nat):Int))
  | .view n p _ lo _=>match cJ A (.ptr n p) with | some (.agg fs)=>some (.int .i64 ((fs.length-lo:Nat):Int)) | _=>none
  |_=>none
 | .bs0 esz=>some (.c0 esz)
 | .lenT x=>match ak A x with
  | .bR s=>some (.int .i64 s.size)
  |_=>none
 | .va n esz x=>match ak A x with
  | .ptr m p=>match cJ A (.ptr m p) with | some (.agg fs)=>if jx n esz fs=true∧n≤maxLen∧n≠0 then some (.view m p esz 0 n) else none | _=>none
  | .ref (.agg fs)=>if jx n esz fs=true∧n≤maxLen∧n≠0 then some (.slice esz fs) else none
  |_=>none
 | .sl esz x lo hi mx=>match ak A x with
  | .slice sz es=>if sz=esz then jD sz es (lo.map (ak A)) (hi.map (ak A)) (mx.map (ak A)) else none
  | .nils sz=>if sz=esz then jD sz [] (lo.map (ak A)) (hi.map (ak A)) (mx.map (ak A)) else none
  | .c0 sz=>if sz=esz then jD sz [] (lo.map (ak A)) (hi.map (ak A)) (mx.map (ak A)) else none
  | .view n p sz l0 k=>match cJ A (.ptr n p) with | some (.agg fs)=>if sz=esz then ma n p sz l0 k fs.length (lo.map (ak A)) (hi.map (ak A)) (mx.map (ak A)) else none | _=>none
  |_=>none
 | .bld zs parts=>(dY zs (parts.map fun p=>(p.1,ak A p.2))).map .agg
 | .nilC x=>mU (ak A x)
 | .max2 x y=>sC (ak A x) (ak A y)
 | .ptrE neg x y=>oh neg (jd (ak A x)) (jd (ak A y))
 | .lk ty z ok m k=>su ty z ok (ak A k) (gx A (ak A m))
 | .ent x=>match ak A x with
  | .dp n=>match A.o n with
   |some (.it ks vs _ cur)=>nU ks vs cur
   |_=>none
  |_=>none
 | .bs _ esz parts=>match bX false A (parts.map (ak A)) with
  |some es=>if (es.all fun e=>e.size==esz)∧I.b9 es then some (.slice esz es) else none
  |none=>none
 | .ext x i=>match ak A x with | .tuple fs=>fs[i]? | _=>none
 | .mk f caps=>if ((caps.map (ak A)).all fun y=>y.bT)=true then some (.func f (caps.map (ak A))) else none
 |_=>none
mutual
theorem al.fW{w:World}{D D':aU}{E E':bf}(hD:∀ b o,D b o→D' b o):∀ (x:I) (cs:List Value),x.bC=true→al w D E x cs→al w D' E' x cs
 | .agg fs,cs,hc,hr=>by simp only[al,I.bC] at *;exact aP.fW hD fs cs hc hr
 | .bool b,cs,_,hr=>by simpa only[al] using hr
 | .int k n,cs,_,hr=>by simpa only[al] using hr
 | .bR s,cs,_,hr=>by simpa only[al] using hr
 | .nilp,cs,_,hr=>by simpa only[al] using hr
 | .dA,cs,_,hr=>by simpa only[al] using hr
 | .dW,cs,_,hr | .any,cs,_,hr=>by simpa only[al] using hr
 | .raw _,cs,_,hr=>by simpa only[al] using hr
 | .nils _,cs,_,hr=>by simpa only[al] using hr
 | .c0 _,cs,_,hr=>by simpa only[al] using hr
 | .slice sz es,cs,hc,hr=>by
  simp only[al,I.bC] at *;obtain ⟨a,cap,U,ab,af,aq,h5⟩:=hr;refine ⟨a,cap,U,ab,af,?_,h5⟩;rcases aq with aq | ⟨b,off,cs',h6,h7,h8⟩
  ·exact .inl aq
  ·exact .inr ⟨b,off,cs',h6,fun j v hj=>⟨(h7 j v hj).1,hD _ _ (h7 j v hj).2⟩,aP.fW hD es cs' hc h8⟩
 | .ref x,cs,hc,hr=>by
  simp only[al,I.bC] at *;obtain ⟨b,off,cs',U,ab,af⟩:=hr;exact ⟨b,off,cs',U,fun j v hj=>⟨(ab j v hj).1,hD _ _ (ab j v hj).2⟩,al.fW hD x cs' hc af⟩
 | .func f caps,cs,hc,hr=>by
  simp only[al,I.bC] at *;obtain ⟨vs,U,ab⟩:=hr;exact ⟨vs,U,aG.fW hD caps vs hc ab⟩
 | .iface t v,cs,hc,hr=>by
  simp only[al,I.bC] at *;obtain ⟨u,cs',U,ab,af⟩:=hr;exact ⟨u,cs',U,ab,al.fW hD v cs' hc af⟩
 | .ptr n p,_,hc,_=>by simp[I.bC] at hc
 | .own n k,_,hc,_=>by simp[I.bC] at hc
 | .view n p _ _ _,_,hc,_=>by simp[I.bC] at hc
 | .mref n,_,hc,_=>by simp[I.bC] at hc
 | .dp n,_,hc,_=>by simp[I.bC] at hc
 | .dk ks vs,cs,hc,hr=>by
  simp only[al,I.bC,t8] at *;obtain ⟨b,es,ck,U,ab,af,aq⟩:=hr;exact ⟨b,es,ck,U,⟨ab.1,hD _ _ ab.2.1,ab.2.2⟩,aG.fW hD ks _ hc.1 af,aG.fW hD vs _ hc.2 aq⟩
 | .undef,_,hc,_=>by simp[I.bC] at hc
 | .du,_,hc,_=>by simp[I.bC] at hc
 | .tuple _,_,hc,_=>by simp[I.bC] at hc
theorem aP.fW{w:World}{D D':aU}{E E':bf}(hD:∀ b o,D b o→D' b o):∀ (xs:List I) (cs:List Value),I.b9 xs=true→aP w D E xs cs→aP w D' E' xs cs
 | [],cs,_,hr=>by simpa only[aP] using hr
 |x::xs,cs,hc,hr=>by
  simp only[aP,I.b9,t8] at *;obtain ⟨c1,c2,U,ab,af⟩:=hr;exact ⟨c1,c2,U,al.fW hD x c1 hc.1 ab,aP.fW hD xs c2 hc.2 af⟩
theorem aG.fW{w:World}{D D':aU}{E E':bf}(hD:∀ b o,D b o→D' b o):∀ (xs:List I) (vs:List Value),I.b9 xs=true→aG w D E xs vs→aG w D' E' xs vs
 | [],vs,_,hr=>by simpa only[aG] using hr
 |x::xs,vs,hc,hr=>by
  simp only[aG,I.b9,t8] at *;obtain ⟨v,rest,cs,U,ab,af,aq⟩:=hr;exact ⟨v,rest,cs,U,ab,al.fW hD x cs hc.1 af,aG.fW hD xs rest hc.2 aq⟩
end
theorem pz{w:World}{D:aU}{b:Nat}{cs:Array Value}{T:TypeId}{fz:Nat×Nat}(hb:w.heap[b]?=some (.cells cs T fz)){c1 c2 c3:List Value}(hc:cs.toList=c1++c2++c3)
  (hD:∀ o,o<c1.length+c2.length→D b o):reads w D b c1.length c2:=by
 intro j v hj;have hjl:j<c2.length:=(zz8.1 hj).1;refine ⟨?_,hD _ (by omega)⟩;have e:cs[c1.length+j]?=some v:=by
  rw[←zw3,hc,zz9,zw5 (by omega),Nat.add_sub_cancel_left,zy6 (by omega)];exact hj
 simp[World.cell?,hb,e]
section
variable {c:cX} {A:ai} {a:Act} {w:World} {D:aU} {E:bf}
theorem aY.box(h:aY c A a w D E){n:Nat}{x:I}(hn:A.o n=some (.box x)) :
  ∃ b cs T,E n=some (.aJ b x.bd)∧c.e9 b∧w.heap[b]?=some (.cells cs T (0,0))∧al w D E x cs.toList∧∀ o,¬ D b o:=by
 have:=h.bP n;rw[hn] at this;exact this
theorem aY.bU(h:aY c A a w D E){n sz:Nat}{T:TypeId}{es:List I}(hn:A.o n=some (.bU T sz es)) :
  ∃ aH,E n=some (.rw aH es.length)∧(∀ e∈es,e.size=sz)∧match aH with
  |none=>es=[]
  |some (b,cap)=>∃ cs pre rest,c.e9 b∧w.heap[b]?=some (.cells cs T (0,0))∧cs.toList=pre++rest∧aP w D E es pre ∧
    cs.size=cap*sz∧es.length≤cap∧cap≤maxLen∧∀ o,D b o→o<pre.length:=by
 have:=h.bP n;rw[hn] at this;exact this
theorem aY.tt(h:aY c A a w D E){n:Nat}{T:TypeId}{xs:List Int}(hn:A.o n=some (.dD T xs)) :
  ∃ aH,E n=some (.rw aH xs.length)∧(∀ x∈xs,IntKind.i64.min≤x∧x≤IntKind.i64.max)∧match aH with
  |none=>xs=[]
  |some (b,cap)=>∃ cs m,c.e9 b∧w.heap[b]?=some (.cells cs T (0,0))∧cs.toList=(xs++List.replicate m 0).map (Value.int .i64)∧xs≠[]∧xs.length+m=cap∧cap≤maxLen∧∀ o,¬ D b o:=by
 have:=h.bP n;rw[hn] at this;exact this
theorem aY.map(h:aY c A a w D E){n:Nat}{ks vs:List I}(hn:A.o n=some (.bA ks vs)) :
  ∃ b es clock,E n=some (.bA b)∧c.e9 b∧w.heap[b]?=some (.map es clock)∧pR es clock∧aG w D E ks (es.toList.map (·.key))∧aG w D E vs (es.toList.map (·.val))∧∀ o,¬ D b o:=by
 have:=h.bP n;rw[hn] at this;exact this
theorem aY.at(h:aY c A a w D E){n:Nat}{p:List Nat}{x:I}(hx:cJ A (.ptr n p)=some x) :
  ∃ y b cs T off c1 c2 c3,A.o n=some (.box y)∧E n=some (.aJ b y.bd)∧c.e9 b∧w.heap[b]?=some (.cells cs T (0,0))∧y.at p=some x∧y.bd.off p=some off ∧
   cs.toList=c1++c2++c3∧c1.length=off∧al w D E x c2∧al w D E y cs.toList∧∀ o,¬ D b o:=by
 simp only[cJ] at hx;split at hx
 ·rename_i y hn;obtain ⟨b,cs,T,U,ab,af,aq,h5⟩:=h.box hn;obtain ⟨off,c1,c2,c3,h6,h7,h8,h9⟩:=yI p y x _ aq hx;exact ⟨y,b,cs,T,off,c1,c2,c3,hn,U,ab,af,hx,h6,h7,h8,h9,aq,h5⟩
 ·cases hx
theorem aY.Ab(h:aY c A a w D E){x y:I}{v:Value}(hv:bg w D E x v)(hx:cJ A x=some y) :
  ∃ b off cs,v=.pointer (some ⟨b,off,none⟩)∧(∀ j u,cs[j]?=some u→w.cell? ⟨b,off+j,none⟩=some u)∧al w D E y cs:=by
 cases x with
 |ref z =>
  simp only[cJ,v6] at hx;subst hx;obtain ⟨b,off,cs,U,ab,af⟩:=re hv;exact ⟨b,off,cs,U,fun j u hj=>(ab j u hj).1,af⟩
 |ptr n p =>
  obtain ⟨b,bd,off,U,ab,af⟩:=l5 hv;obtain ⟨z,b',cs,T,off',c1,c2,c3,k1,k2,_,k3,_,k5,k6,k7,k8,_,_⟩:=h.at hx;rw[k2] at U;simp only[v6,bM.aJ.injEq] at U;obtain ⟨rfl,rfl⟩:=U;rw[k5,v6] at ab;subst ab;refine ⟨b',off',c2,af,fun j u hj =>?_,k8⟩;have:=pz (D:=fun _ _=>True) k3 k6 (fun _ _=>trivial);rw[k7] at this;exact (this j u hj).1
 |_=>simp[cJ] at hx
theorem vm{w:World}{D:aU}{E:bf} : ∀ (xs ys:List I) (cs:List Value),aP w D E (xs++ys) cs→∃ c1 c2,cs=c1++c2∧aP w D E xs c1∧aP w D E ys c2
 | [],ys,cs,hr=>⟨[],cs,rfl,by simp[aP],hr⟩
 |x::xs,ys,cs,hr=>by
  simp only[zz2,aP] at hr;obtain ⟨d1,d2,rfl,k1,k2⟩:=hr;obtain ⟨e1,e2,rfl,k3,k4⟩:=vm xs ys d2 k2;exact ⟨d1++e1,e2,by simp,by simp only[aP];exact ⟨d1,e1,rfl,k1,k3⟩,k4⟩
theorem GL{fs:List I}{sz:Nat}(h:∀ s∈I.cV fs,s.size=sz):∀ f∈fs,f.size=sz:=by
 intro f hf;rw[←I.l9];exact h _ (by rw[I.dw];exact zy5.2 ⟨f,hf,rfl⟩)
theorem vn{w:World}{D:aU}{E:bf}{fs:List I}{cs:List Value}{sz:Nat}(hr:aP w D E fs cs)(hev:∀ f∈fs,f.size=sz)(lo k:Nat)(h:lo+k≤fs.length) :
  ∃ d1 d2 d3,cs=d1++(d2++d3)∧d1.length=lo*sz∧aP w D E ((fs.drop lo).take k) d2∧aP w D E ((fs.drop lo).drop k) d3:=by
 have e1:fs=fs.take lo++((fs.drop lo).take k++(fs.drop lo).drop k):=by rw[List.take_append_drop,List.take_append_drop]
 rw[e1] at hr;obtain ⟨d1,d',rfl,q1,q2⟩:=vm _ _ _ hr;obtain ⟨d2,d3,rfl,q3,q4⟩:=vm _ _ _ q2;refine ⟨d1,d2,d3,rfl,?_,q3,q4⟩;rw[aP.length _ _ q1,I.iZ _ (fun x hx=>hev x (List.mem_of_mem_take hx)),zx7]
 congr 1
 omega
structure iI (aJ:Bool) (A:ai) (D:aU) (E:bf) (D':aU):Prop where
 cZ:∀ b o,D b o→D' b o
 bU:∀ n T sz es b cap,A.o n=some (.bU T sz es)→E n=some (.rw (some (b,cap)) es.length)→∀ o,o<es.length*sz→D' b o
 box:aJ=true→∀ n x b bd,A.o n=some (.box x)→E n=some (.aJ b bd)→∀ o,o<x.size→D' b o
 map:aJ=true→∀ n ks vs b,A.o n=some (.bA ks vs)→E n=some (.bA b)→D' b 0
def ep(A A':ai):Prop:=∀ n x,A.o n=some x→A'.o n=some x
theorem jR{A A':ai}(hu:ep A A'){x v:I}(h:cJ A x=some v):cJ A' x=some v:=by
 cases x <;>simp only[cJ] at h ⊢ <;>try exact h
 rename_i n p;cases ho:A.o n with
 |none=>rw[ho] at h;cases h
 |some y=>rw[ho] at h;rw[hu n y ho];exact h
theorem BW{A0 A:ai}(hu:ep A0 A){n:Nat}{p:List Nat}{x z:I}(h:cJ A0 (.ptr n p)=some x)(hz:A.o n=some (.box z)):A0.o n=some (.box z):=by
 simp only[cJ] at h;split at h
 ·rename_i y hy;have:=hu n _ hy;rw[hz] at this;rw[hy,←this]
 ·cases h
theorem aY.Ge(h:aY c A a w D E){A0:ai}(hu:ep A0 A){D':aU}(hw:iI true A0 D E D'){n:Nat}{p:List Nat}{x:I}{cs:List Value}(hx:cJ A0 (.ptr n p)=some x)(hr:al w D E (.ptr n p) cs) :
  ∃ b off c2,cs=[.pointer (some ⟨b,off,none⟩)]∧reads w D' b off c2∧al w D E x c2:=by
 obtain ⟨z,b',cs',T,off',c1,c2,c3,k1,k2,_,k3,k4,k5,k6,k7,k8,k9,_⟩:=h.at (jR hu hx);have k1:=BW hu hx k1;simp only[al] at hr;obtain ⟨b,bd,off,U,ab,af⟩:=hr;rw[k2] at U;simp only[v6,bM.aJ.injEq] at U;obtain ⟨rfl,rfl⟩:=U;rw[k5,v6] at ab;subst ab;have hsz:=al.length z _ k9;rw[k6] at hsz;simp only[zz6] at hsz;refine ⟨b',off',c2,af,?_,k8⟩;rw[←k7];exact pz k3 k6 (fun o ho=>hw.box rfl n z b' _ k1 k2 o (by omega))
theorem aY.jD(h:aY c A a w D E){A0:ai}(hu:ep A0 A){D':aU}{E':bf}(hw:iI true A0 D E D'){n:Nat}{p:List Nat}{sz lo k:Nat}{fs:List I}{cs:List Value}(hx:cJ A0 (.ptr n p)=some (.agg fs))(hr:al w D E (.view n p sz lo k) cs)
  (hcl:I.b9 ((fs.drop lo).take k)=true):al w D' E' (.slice sz ((fs.drop lo).take k)) cs:=by
 obtain ⟨z,b',cs',T,off',c1,c2,c3,k1,k2,_,k3,k4,k5,k6,k7,k8,k9,_⟩:=h.at (jR hu hx);have k1:=BW hu hx k1;simp only[al] at hr k8 ⊢;obtain ⟨b,bd,off,l,U,ab,af,aq,h5,h6,h7⟩:=hr;rw[k2] at U;simp only[v6,bM.aJ.injEq] at U;obtain ⟨rfl,rfl⟩:=U;rw[k5,v6] at ab;subst ab;rw[ny p z _ k4] at af;simp only[I.bd,v6,cS.eK.injEq] at af;subst af;have hsz:=al.length z _ k9;rw[k6] at hsz;rw[I.dw,zz7] at aq h5 h6;have hev:=GL h7;obtain ⟨d1,d2,d3,rfl,q1,q2,q3⟩:=vn k8 hev lo k h6;simp only[zz6] at hsz;have hlen:((fs.drop lo).take k).length=k:=by rw[zx7,List.length_drop];omega
 refine ⟨some ⟨b',off'+lo*sz,none⟩,fs.length-lo,by rw[hlen];exact aq,by rw[hlen];omega,by omega,.inr ⟨b',off'+lo*sz,d2,rfl,?_,aP.fW hw.cZ _ d2 hcl q2⟩,?_⟩
 ·have:=pz (D:=D') (c1:=c1++d1) (c2:=d2) (c3:=d3++c3) k3 (by rw[k6];simp) (fun o ho=>hw.box rfl n z b' _ k1 k2 o (by rw[zz6] at ho;omega));rw[zz6,k7,q1] at this;exact this
 ·intro e he;exact hev e (List.mem_of_mem_drop (List.mem_of_mem_take he))
theorem aY.Gx(h:aY c A a w D E){aJ:Bool}{A0:ai}(hu:ep A0 A){D':aU}{E':bf}(hw:iI aJ A0 D E D'){n k T sz:Nat}{es:List I}{cs:List Value}(hn:A0.o n=some (.bU T sz es))(hcl:I.b9 es=true)(hk:k=es.length)(hr:al w D E (.own n k) cs):al w D' E' (.slice sz es) cs:=by
 subst hk;simp only[al] at hr;obtain ⟨aH,l,U,ab,_,aq⟩:=hr;obtain ⟨blk',k1,k2,k3⟩:=h.bU (hu n _ hn);rw[k1] at U;simp only[v6,bM.rw.injEq] at U;obtain ⟨rfl,rfl⟩:=U;have aq:=aq rfl;cases blk' with
 |none =>
  simp only at k3 aq;subst k3;simp only[al];exact ⟨none,0,by simpa using aq,by simp,by simp[maxLen],by simp,by simp⟩
 |some bc =>
  obtain ⟨b,cap⟩:=bc;simp only at aq;obtain ⟨cs',pre,rest,k4,k5,k6,k7,k8,k9,k10,k11⟩:=k3;simp only[al];refine ⟨some ⟨b,0,none⟩,cap,aq,k9,k10,.inr ⟨b,0,pre,rfl,?_,aP.fW hw.cZ es pre hcl k7⟩,k2⟩;have hp:pre.length=es.length*sz:=by rw[aP.length _ _ k7,I.iZ _ k2]
  have:=pz (D:=D') (c1:=[]) k5 (by simpa using k6) (fun o ho=>hw.bU n T sz es b cap hn k1 o (by simp at ho;omega));simpa using this
theorem D9{w:World}{D D':aU}{E E':bf}{f:I→Option I}(hf:∀ x y cs,al w D E x cs→f x=some y→al w D' E' y cs):∀ (xs ys:List I) (cs:List Value),aP w D E xs cs→fZ f xs=some ys→aP w D' E' ys cs
 | [],ys,cs,hr,h=>by simp only[fZ,v6] at h;subst h;simpa only[aP] using hr
 |x::xs,ys,cs,hr,h=>by
  simp only[fZ] at h;split at h
  ·rename_i y ys' U ab;simp only[v6] at h;subst h;simp only[aP] at *;obtain ⟨c1,c2,e,k1,k2⟩:=hr;exact ⟨c1,c2,e,hf x y c1 k1 U,D9 hf xs ys' c2 k2 ab⟩
  ·cases h
theorem uP{w:World}{D D':aU}{E E':bf}{f:I→Option I}(hf:∀ x y cs,al w D E x cs→f x=some y→al w D' E' y cs)(hp:∀ x y,f x=some y→y.isAgg=x.isAgg):∀ (xs ys:List I) (vs:List Value),aG w D E xs vs→fZ f xs=some ys→aG w D' E' ys vs
 | [],ys,cs,hr,h=>by simp only[fZ,v6] at h;subst h;simpa only[aG] using hr
 |x::xs,ys,cs,hr,h=>by
  simp only[fZ] at h;split at h
  ·rename_i y ys' U ab;simp only[v6] at h;subst h;simp only[aG] at *;obtain ⟨v,rest,c1,e,k1,k2,k3⟩:=hr;refine ⟨v,rest,c1,e,?_,hf x y c1 k2 U,uP hf hp xs ys' rest k3 ab⟩;unfold bG at *;rw[hp x y U];exact k1
  ·cases h
theorem xi{A0:ai} : ∀ {k:Nat} {x y:I},c4 A0 k x=some y→y.isAgg=x.isAgg
 |0,_,_,h=>by simp[c4] at h
 |k+1,x,y,h=>by
  simp only[c4] at h;split at h
  ·simp only[v6] at h;rw[h]
  ·cases x <;>simp only[] at h <;>first
    |(cases h;done)
    |(split at h <;>first | (simp only[t7] at h;obtain ⟨z,_,rfl⟩:=h;rfl) | (simp only[v6] at h;subst h;rfl);done)
    |(simp only[t7] at h;obtain ⟨z,_,rfl⟩:=h;rfl)
    |((repeat' split at h) <;>first | (cases h;done) | (simp only[v6] at h;subst h;rfl) | (simp only[t7] at h;obtain ⟨z,_,rfl⟩:=h;rfl))
theorem xj(h:aY c A a w D E){A0:ai}(hu:ep A0 A){D':aU}{E':bf}(hw:iI true A0 D E D'):∀ (k:Nat) (x y:I) (cs:List Value),al w D E x cs→c4 A0 k x=some y→al w D' E' y cs
 |0,_,_,_,_,hf=>by simp[c4] at hf
 |k+1,x,y,cs,hr,hf=>by
  have ih:=xj h hu (E':=E') hw k;simp only[c4] at hf;split at hf
  ·rename_i hcl;simp only[v6] at hf;subst hf;exact al.fW hw.cZ x cs hcl hr
  ·rename_i hcl;cases x <;>simp only[] at hf <;>try (cases hf;done)
   case agg fs =>
    simp only[t7] at hf;obtain ⟨ys,hy,rfl⟩:=hf;simp only[al] at *;exact D9 ih fs ys cs hr hy
   case func f caps =>
    split at hf
    case isFalse =>
     simp only[v6] at hf;subst hf;simp only[al] at *;obtain ⟨vs,U,ab⟩:=hr;exact ⟨_,U,CA f vs⟩
    simp only[t7] at hf;obtain ⟨ys,hy,rfl⟩:=hf;simp only[al] at *;obtain ⟨vs,U,ab⟩:=hr;exact ⟨vs,U,uP ih (fun x y hxy=>xi hxy) caps ys vs ab hy⟩
   case ptr n p =>
    split at hf
    case h_2=>cases hf
    rename_i z hz;simp only[t7] at hf;obtain ⟨y',hy,rfl⟩:=hf;obtain ⟨b,off,c2,k1,k2,k3⟩:=h.Ge hu hw hz hr;simp only[al];exact ⟨b,off,c2,k1,k2,ih z y' c2 k3 hy⟩
   case view n p sz lo l =>
    split at hf
    case h_2=>cases hf
    rename_i fs hx;split at hf
    case isFalse=>cases hf
    rename_i hc;simp only[v6] at hf;subst hf;exact h.jD hu hw hx hr hc
   case mref n =>
    split at hf
    case h_2=>cases hf
    rename_i ks vs hn;split at hf
    case isFalse=>cases hf
    rename_i hc;simp only[t7] at hf;obtain ⟨ys,hy,rfl⟩:=hf;simp only[al] at hr ⊢;obtain ⟨b,U,ab⟩:=hr;obtain ⟨b',es,ck,k1,k2,k3,k4,k5,k6,k7⟩:=h.map (hu n _ hn);rw[k1] at U;cases U;exact ⟨b,es,ck,ab,⟨k3,hw.map rfl n ks vs b hn k1,k4⟩,aG.fW hw.cZ ks _ hc k5,uP ih (fun x y hxy=>xi hxy) vs ys _ k6 hy⟩
   case own n l =>
    split at hf
    case h_2=>cases hf
    rename_i T sz es hn;split at hf
    case isFalse=>cases hf
    rename_i hk;simp only[v6] at hf;subst hf;exact h.Gx hu hw hn hk.2 hk.1 hr
mutual
theorem Cr(h:aY c A a w D E){aJ:Bool}{A0:ai}(hu:ep A0 A){D':aU}{E':bf}(hw:iI aJ A0 D E D'):∀ (x y:I) (cs:List Value),al w D E x cs→bn aJ A0 x=some y→al w D' E' y cs
 | .ptr n p,y,cs,hr,hf=>by
  simp only[bn] at hf;split at hf
  case isFalse=>cases hf
  rename_i hbx;subst hbx;split at hf
  case h_2=>cases hf
  rename_i x hx;obtain ⟨b,off,c2,k1,k2,k3⟩:=h.Ge hu hw hx hr;split at hf
  ·rename_i hcl;simp only[v6] at hf;subst hf;simp only[al];exact ⟨b,off,c2,k1,k2,al.fW hw.cZ x c2 hcl k3⟩
  ·simp only[t7] at hf;obtain ⟨y',hy,rfl⟩:=hf;simp only[al];exact ⟨b,off,c2,k1,k2,xj h hu hw 9 x y' c2 k3 hy⟩
 | .mref n,y,cs,hr,hf=>by
  simp only[bn] at hf;split at hf
  case isFalse=>cases hf
  rename_i hbx;subst hbx;split at hf
  case h_2=>cases hf
  rename_i ks vs hn;split at hf
  case isFalse=>cases hf
  rename_i hc;simp only[t7] at hf;obtain ⟨ys,hy,rfl⟩:=hf;simp only[al] at hr ⊢;obtain ⟨b,U,ab⟩:=hr;obtain ⟨b',es,ck,k1,k2,k3,k4,k5,k6,k7⟩:=h.map (hu n _ hn);rw[k1] at U;cases U;exact ⟨b,es,ck,ab,⟨k3,hw.map rfl n ks vs b hn k1,k4⟩,aG.fW hw.cZ ks _ hc k5,uP (xj h hu hw 9) (fun x y hxy=>xi hxy) vs ys _ k6 hy⟩
 | .dp _,_,_,_,hf=>by simp[bn] at hf
 | .dk ks vs,y,cs,hr,hf=>by
  simp only[bn] at hf;split at hf
  ·rename_i hc;simp only[v6] at hf;subst hf;exact al.fW hw.cZ _ cs (by simpa[I.bC] using hc) hr
  ·cases hf
 | .own n k,y,cs,hr,hf=>by
  simp only[bn] at hf;split at hf
  case h_2=>cases hf
  rename_i T sz es hn;split at hf
  case isFalse=>cases hf
  rename_i hk;simp only[v6] at hf;subst hf;exact h.Gx hu hw hn hk.2 hk.1 hr
 | .view n p sz lo k,y,cs,hr,hf=>by
  simp only[bn] at hf;split at hf
  case isFalse=>cases hf
  rename_i hbx;subst hbx;split at hf
  case h_2=>cases hf
  rename_i fs hx;split at hf
  case isFalse=>cases hf
  rename_i hcl;simp only[v6] at hf;subst hf;exact h.jD hu hw hx hr hcl
 | .nils sz,y,cs,hr,hf=>by
  simp only[bn,v6] at hf;subst hf;simp only[al] at *;exact ⟨none,0,by simpa using hr,by simp,by simp[maxLen],by simp,by simp⟩
 | .c0 sz,y,cs,hr,hf=>by
  simp only[bn,v6] at hf;subst hf;simp only[al] at *;obtain ⟨ad,hr⟩:=hr;exact ⟨ad,0,by simpa using hr,by simp,by simp[maxLen],by simp,by simp⟩
 | .func f caps,y,cs,hr,hf=>by
  simp only[bn] at hf;split at hf
  case isFalse =>
   simp only[v6] at hf;subst hf;simp only[al] at *;obtain ⟨vs,U,ab⟩:=hr;exact ⟨_,U,CA f vs⟩
  simp only[t7] at hf;obtain ⟨ys,hy,rfl⟩:=hf;simp only[al] at *;obtain ⟨vs,U,ab⟩:=hr;exact ⟨vs,U,mJ h hu hw caps ys vs ab hy⟩
 | .agg fs,y,cs,hr,hf=>by
  simp only[bn,t7] at hf;obtain ⟨ys,hy,rfl⟩:=hf;simp only[al] at *;exact Cs h hu hw fs ys cs hr hy
 | .tuple _,_,_,_,hf=>by simp[bn] at hf
 | .undef,_,_,_,hf=>by simp[bn] at hf
 | .du,_,_,_,hf=>by simp[bn] at hf
 | .bool b,y,cs,hr,hf=>by simp only[bn,v6] at hf;subst hf;simpa only[al] using hr
 | .int k n,y,cs,hr,hf=>by simp only[bn,v6] at hf;subst hf;simpa only[al] using hr
 | .bR s,y,cs,hr,hf=>by simp only[bn,v6] at hf;subst hf;simpa only[al] using hr
 | .nilp,y,cs,hr,hf=>by simp only[bn,v6] at hf;subst hf;simpa only[al] using hr
 | .dA,y,cs,hr,hf=>by simp only[bn,v6] at hf;subst hf;simpa only[al] using hr
 | .dW,y,cs,hr,hf | .any,y,cs,hr,hf=>by simp only[bn,v6] at hf;subst hf;simpa only[al] using hr
 | .raw _,y,cs,hr,hf=>by simp only[bn,v6] at hf;subst hf;simpa only[al] using hr
 | .slice sz es,y,cs,hr,hf=>by
  simp only[bn] at hf;split at hf
  ·rename_i hc;simp only[v6] at hf;subst hf;exact al.fW hw.cZ _ cs (by simpa[I.bC] using hc) hr
  ·cases hf
 | .ref x,y,cs,hr,hf=>by
  simp only[bn] at hf;split at hf
  ·rename_i hc;simp only[v6] at hf;subst hf;exact al.fW hw.cZ _ cs (by simpa[I.bC] using hc) hr
  ·cases hf
 | .iface t v,y,cs,hr,hf=>by
  simp only[bn] at hf;split at hf
  ·rename_i hc;simp only[v6] at hf;subst hf;exact al.fW hw.cZ _ cs (by simpa[I.bC] using hc) hr
  ·cases hf
theorem Cs(h:aY c A a w D E){aJ:Bool}{A0:ai}(hu:ep A0 A){D':aU}{E':bf}(hw:iI aJ A0 D E D'):∀ (xs ys:List I) (cs:List Value),aP w D E xs cs→bX aJ A0 xs=some ys→aP w D' E' ys cs
 | [],ys,cs,hr,hf=>by simp only[bX,v6] at hf;subst hf;simpa only[aP] using hr
 |x::xs,ys,cs,hr,hf=>by
  simp only[bX] at hf;split at hf
  ·rename_i y ys' U ab;simp only[v6] at hf;subst hf;simp only[aP] at *;obtain ⟨c1,c2,e,k1,k2⟩:=hr;exact ⟨c1,c2,e,Cr h hu hw x y c1 k1 U,Cs h hu hw xs ys' c2 k2 ab⟩
  ·cases hf
theorem mJ(h:aY c A a w D E){aJ:Bool}{A0:ai}(hu:ep A0 A){D':aU}{E':bf}(hw:iI aJ A0 D E D'):∀ (xs ys:List I) (vs:List Value),aG w D E xs vs→bX aJ A0 xs=some ys→aG w D' E' ys vs
 | [],ys,cs,hr,hf=>by simp only[bX,v6] at hf;subst hf;simpa only[aG] using hr
 |x::xs,ys,cs,hr,hf=>by
  simp only[bX] at hf;split at hf
  ·rename_i y ys' U ab;simp only[v6] at hf;subst hf;simp only[aG] at *;obtain ⟨v,rest,c1,e,k1,k2,k3⟩:=hr;refine ⟨v,rest,c1,e,?_,Cr h hu hw x y c1 k2 U,mJ h hu hw xs ys' rest k3 ab⟩;have:y.isAgg=x.isAgg:=by
    cases x <;>simp only[bn] at U <;>first
     |(simp at U;done)
     |(simp only[v6] at U;subst U;rfl)
     |(simp only[t7] at U;obtain ⟨z,_,rfl⟩:=U;rfl)
     |((repeat' split at U) <;>first | (simp at U;done) | (simp only[v6] at U;subst U;rfl) | (simp only[t7] at U;obtain ⟨z,_,rfl⟩:=U;rfl))
   unfold bG at *;rw[this];exact k1
  ·cases hf
end
end
def fY(P:Program)(t:TypeId):Option (Option Nat):=match P.underlying t with
 |some (.struct _) | some (.array _ _)=>some (some (P.cellsOf t))
 |some _=>some none
 |none=>none
def zm(P:Program):Nat→TypeId→Option I
 |0,_=>none
 |d+1,t=>match P.underlying t with
  |some .bool=>some (.bool false)
  |some (.int k)=>some (.int k 0)
  |some .string=>some (.bR ByteArray.empty)
  |some (.pointer _)=>some .nilp
  |some (.slice e)=>some (.nils (P.cellsOf e))
  |some (.func _ _ _)=>some .dA
  |some (.interface _)=>some .dW
  |some (.map _ _)=>some (.raw (.map none))
  |some (.struct fs)=>(fs.toList.mapM fun f=>zm P d f.type).map .agg
  |some (.array n e)=>(zm P d e).map fun z=>.agg (List.replicate n z)
  |_=>none
def lF:I→Value→Bool
 | .bool b,.bool b'=>b==b'
 | .int k n,.int k' n'=>k==k'&&n==n'&&decide (k.min≤n∧n≤k.max)
 | .bR s,.string t=>s.size==0&&t.size==0
 | .nilp,.pointer none=>true
 | .nils _,.slice none 0 0=>true
 | .dA,.nilFunc=>true
 | .dW,.nilIface=>true
 | .raw (.map none),.map none=>true
 |_,_=>false
mutual
def nE:I→List Value→Option (List Value)
 | .agg fs,cs=>tA fs cs
 | .bool b,v::cs=>if lF (.bool b) v then some cs else none
 | .int k n,v::cs=>if lF (.int k n) v then some cs else none
 | .bR s,v::cs=>if lF (.bR s) v then some cs else none
 | .nilp,v::cs=>if lF .nilp v then some cs else none
 | .nils z,v::cs=>if lF (.nils z) v then some cs else none
 | .dA,v::cs=>if lF .dA v then some cs else none
 | .dW,v::cs=>if lF .dW v then some cs else none
 | .raw u,v::cs=>if lF (.raw u) v then some cs else none
 |_,_=>none
def tA:List I→List Value→Option (List Value)
 | [],cs=>some cs
 |x::xs,cs=>match nE x cs with
  |some r=>tA xs r
  |none=>none
end
theorem ByteArray.NN{s t:ByteArray}(hs:s.size=0)(ht:t.size=0):s=t:=by
 cases s with | mk a=>cases t with | mk b =>
 have ha:a = #[]:=Array.eq_empty_of_size_eq_zero hs;have hb:b = #[]:=Array.eq_empty_of_size_eq_zero ht;rw[ha,hb]
theorem Lj{x:I}{v:Value}(h:lF x v=true)(w:World)(D:aU)(E:bf):al w D E x [v]:=by
 unfold lF at h;split at h
 case h_9=>cases h
 case h_1=>simp only[beq_iff_eq] at h;subst h;simp[al]
 case h_2 =>
  simp only[t8,beq_iff_eq,decide_eq_true_eq] at h;obtain ⟨⟨rfl,rfl⟩,h⟩:=h;simp only[al,true_and];exact h
 case h_3 =>
  simp only[t8,beq_iff_eq] at h;have e:=ByteArray.NN h.1 h.2;subst e;simp only[al,true_and];rw[h.1];exact zw4 _
 all_goals simp[al,Value.oneCell']
mutual
theorem Hg:∀ (x:I) (cs r:List Value),nE x cs=some r→∃ c1,cs=c1++r∧∀ w D E,al w D E x c1
 | .agg fs,cs,r,h=>by
  simp only[nE] at h;obtain ⟨c1,U,ab⟩:=Hh fs cs r h;exact ⟨c1,U,fun w D E=>by simp only[al];exact ab w D E⟩
 | .bool b,v::cs,r,h | .int k n,v::cs,r,h | .bR s,v::cs,r,h | .nilp,v::cs,r,h | .nils z,v::cs,r,h | .dA,v::cs,r,h | .dW,v::cs,r,h | .raw u,v::cs,r,h=>by
  simp only[nE] at h;split at h
  ·rename_i hh;simp only[v6] at h;subst h;exact ⟨[v],rfl,fun w D E=>Lj hh w D E⟩
  ·cases h
 | .bool b,[],r,h | .int k n,[],r,h | .bR s,[],r,h | .nilp,[],r,h | .nils z,[],r,h | .dA,[],r,h | .dW,[],r,h | .raw _,[],r,h=>by simp[nE] at h
 | .any,_,_,h | .undef,_,_,h | .du,_,_,h | .c0 _,_,_,h | .slice _ _,_,_,h | .tuple _,_,_,h | .ref _,_,_,h | .func _ _,_,_,h | .iface _ _,_,_,h | .ptr _ _,_,_,h | .own _ _,_,_,h | .view _ _ _ _ _,_,_,h | .mref _,_,_,h | .dp _,_,_,h | .dk _ _,_,_,h=>by simp[nE] at h
theorem Hh:∀ (xs:List I) (cs r:List Value),tA xs cs=some r→∃ c1,cs=c1++r∧∀ w D E,aP w D E xs c1
 | [],cs,r,h=>by
  simp only[tA,v6] at h;exact ⟨[],by simp[h],fun w D E=>by simp[aP]⟩
 |x::xs,cs,r,h=>by
  simp only[tA] at h;split at h
  ·rename_i r' hx;obtain ⟨c1,U,ab⟩:=Hg x cs r' hx;obtain ⟨c2,af,aq⟩:=Hh xs r' r h;exact ⟨c1++c2,by rw[U,af,zz9],fun w D E=>by simp only[aP];exact ⟨c1,c2,rfl,ab w D E,aq w D E⟩⟩
  ·cases h
end
def gC(P:Program)(t:TypeId):Option I :=
 match (P.info? t).bind (·.zero),zm P 12 t with
 |some z,some x=>match nE x z.cells.toList with
  |some []=>some x
  |_=>none
 |_,_=>none
theorem mq{P:Program}{t:TypeId}{x:I}(h:gC P t=some x):∃ i z,P.info? t=some i∧i.zero=some z∧∀ w D E,al w D E x z.cells.toList:=by
 unfold gC at h;split at h
 ·rename_i z x' hz hx;split at h
  ·rename_i hk;simp only[v6] at h;subst h;obtain ⟨i,hi,hz'⟩:=zw8.1 hz;obtain ⟨c1,U,ab⟩:=Hg _ _ _ hk;rw[zy3] at U;exact ⟨i,z,hi,hz',fun w D E=>by rw[U];exact ab w D E⟩
  ·cases h
 ·cases h
def lV:Nat→List I→List (Nat×Nat)
 |_,[]=>[]
 |k,x::xs=>(k,x.size)::lV (k+x.size) xs
theorem ER:∀ (xs:List I) (k i:Nat),(lV k xs)[i]?=(xs[i]?).map fun x=>(k+I.sizes (xs.take i),x.size)
 | [],k,i=>by simp[lV]
 |x::xs,k,0=>by simp[lV,I.sizes]
 |x::xs,k,i+1=>by
  simp only[lV,List.getElem?_cons_succ,ER xs,zw1,I.sizes];cases xs[i]? <;>simp;omega
def fe (P : Program) (f : FuncId) : Bool := Nat.blt f 1000000 && (P.funcs[f]?).any fun fn => fn.name != "runtime.NumGoroutine" && fn.body.isSome
def lD(P:Program)(ps:List (Nat×Operand)):Option (List (Nat×aR)):=ps.mapM fun p=>(bB P 0 p.2).map fun x=>(p.1,x)
def jb(P:Program):Option Operand→Option (Option aR)
 |none=>some none
 |some x=>(bB P 0 x).map some
def kP(P:Program):List Operand→List TypeId→Option (List aR)
 | [],_=>some []
 |x::xs,ts=>match bB P (ts.headD 0) x,kP P xs ts.tail with
  |some y,some ys=>some (y::ys)
  |_,_=>none
def qS(P:Program):Nat→List Field→Bool
 |_,[]=>true
 |k,f::fs=>f.offset==k&&qS P (k+P.cellsOf f.type) fs
def hd(P:Program):Nat→TypeId→Option cD
 |0,_=>none
 |d+1,t=>match P.underlying t with
  |some (.int k)=>some (.i k)
  |some .bool=>some .b
  |some .string=>some .s
  | some (.struct fs) => if P.stoodInHeld t = false ∧ (fs.toList.all fun f => f.name != "_") = true ∧ qS P 0 fs.toList = true then
    (fs.toList.mapM fun (f:Field)=>match hd P d f.type with
     |some ty=>if ty.size=P.cellsOf f.type then some ty else none
     |none=>none).map .bl else none
  |some (.array n e)=>match hd P d e with
   |some ty=>if ty.size=P.cellsOf e∧(P.info? e).isSome=true then some (.rH n ty) else none
   |none=>none
  |_=>none
def sf:Option TypeDesc→Bool
 |some (.int _)=>true
 |_=>false
def xI:cD→Bool
 | .i _=>true
 |_=>false
def kr(P:Program)(t:TypeId):Option cD:=match P.underlying t with
 |some (.int k)=>some (.i k)
 |some (.struct fs)=>match hd P 12 t with
  |some (.bl l)=>if l.all xI=true∧(fs.all fun f=>sf (P.underlying f.type))=true then some (.bl l) else none
  |_=>none
 |_=>none
def vO(P:Program)(t:TypeId)(z:I):Bool:=match (P.info? t).bind (·.zero) with
 |some (.agg _)=>z.isAgg
 |some _ => !z.isAgg
 |none=>false
def yZ:Operand→Operand→Bool
 | .tmp a,.tmp b=>a==b
 |_,_=>false
theorem ZJ{x y:Operand}(h:yZ x y=true):y=x:=by
 unfold yZ at h;split at h
 ·simp only[beq_iff_eq] at h;rw[h]
 ·cases h
def di(P:Program)(o:Oper):Option bS :=
 match o.op with
 | .move x | .assign x=>(bB P o.type x).map .mv
 | .pick c a b=>match bB P 0 c,bB P o.type a,bB P o.type b with
  |some c,some a,some b=>some (.pick c a b)
  |_,_,_=>none
 | .binOp op t x y _=>match P.underlying t,bB P 0 x,bB P 0 y with
  |some (.int _),some x,some y | some .string,some x,some y=>some (.bin op x y)
  |some (.slice _),some x,some y=>match y with
   | .c (.nils _)=>if op=.eql∨op=.neq then some (.nilS (op==.neq) x) else none
   |_=>none
  |some (.pointer _),some x,some y=>if op=.eql∨op=.neq then some (.ptrE (op==.neq) x y) else none
  |some _,some x,some y=>if (op=.eql∨op=.neq)∧P.eqGuardType P.depth t=false then (hd P 12 t).map fun ty=>.eqv ty (op==.neq) x y else none
  |_,_,_=>none
 | .unOp op _ x=>(bB P 0 x).map (.un op)
 | .nilCheck x=>(bB P 0 x).map .nilC
 | .makeMap _ none=>some .jg
 | .lookup t m k ok=>match P.underlying t,bB P 0 m,bB P 0 k with
  |some (.map kt et),some m,some k=>match kr P kt,gC P et with
   |some ty,some z=>if vO P et z=true then some (.lk ty z ok m k) else none
   |_,_=>none
  |_,_,_=>none
 | .mapUpdate t m k v | .insert t m k v=>match P.underlying t,bB P 0 m,bB P 0 k with
  |some (.map kt et),some m,some k=>match kr P kt,bB P et v with
   |some ty,some v=>some (.eX ty m k v)
   |_,_=>none
  |_,_,_=>none
 | .makeSlice t l l'=>match P.underlying t,bB P 0 l with
  |some (.slice e),some n=>match gC P e with
   |some z=>if yZ l l'=true∧z.size=1∧P.cellsOf e=1 then some (.kV e (P.bytesOf e) z n) else none
   |none=>none
  |_,_=>none
 | .range t x=>match P.underlying t with
  |some (.map _ _)=>(bB P 0 x).map .j9
  |_=>none
 | .next x false=>(bB P 0 x).map .iR
 | .entry x=>(bB P 0 x).map .ent
 | .convert oB dst x=>match P.underlying oB,P.underlying dst,bB P 0 x with
  |some (.int _),some (.int k),some x=>some (.conv k x)
  |_,_,_=>none
 | .load t x=>match fY P t,bB P 0 x with
  |some s,some x=>some (.ld s x)
  |_,_=>none
 | .fieldAddr t x f=>match P.underlying t,bB P 0 x with
  |some (.struct fs),some x=>match fs[f]? with
   |some fd=>if P.cellsOf fd.type=0 then none else some (.fa f fd.offset x)
   |none=>none
  |_,_=>none
 | .field t x f=>match P.underlying t,bB P 0 x with
  |some (.struct fs),some x=>match fs[f]? with
   |some fd=>(fY P fd.type).map fun s=>.fl f fd.offset s x
   |none=>none
  |_,_=>none
 | .indexAddr t x i=>match P.underlying t,bB P 0 x,bB P 0 i with
  |some (.array n e),some x,some i=>if (P.info? e).isSome then some (.ia n (P.cellsOf e) x i) else none
  |some (.slice e),some x,some i=>if (P.info? e).isSome then some (.is (P.cellsOf e) x i) else none
  |_,_,_=>none
 | .index t x i=>match P.underlying t,bB P 0 x,bB P 0 i with
  |some (.array n e),some x,some i=>(fY P e).map fun s=>.ix n (P.cellsOf e) s x i
  |_,_,_=>none
 | .slice t x lo hi mx=>match P.underlying t,bB P 0 x with
  |some (.array n e),some x=>match lo,hi,mx with
   |none,none,none=>if (P.info? e).isSome then some (.va n (P.cellsOf e) x) else none
   |_,_,_=>none
  |some (.slice e),some x=>match jb P lo,jb P hi,jb P mx with
   |some lo,some hi,some mx=>if (mx.isSome=true→hi.isSome=true)∧(P.info? e).isSome=true then some (.sl (P.cellsOf e) x lo hi mx) else none
   |_,_,_=>none
  |_,_=>none
 | .build t parts=>match gC P t,lD P parts.toList with
  |some (.agg zs),some ps=>match P.underlying t with
   |some (.struct fs)=>if (fs.toList.map fun f=>(f.offset,P.cellsOf f.type))=lV 0 zs∧(fs.all fun f=>(P.info? f.type).isSome)=true then some (.bld zs ps) else none
   |some (.array n e)=>if zs.length=n∧(zs.all fun z=>z.size==P.cellsOf e)=true∧(P.info? e).isSome=true then some (.bld zs ps) else none
   |_=>none
  |_,_=>none
 | .buildSlice t len parts=>match P.underlying t with
  |some (.slice e)=>match lD P parts.toList with
   |some ps=>if len=0∧parts = #[]∧(P.info? e).isSome=true then some (.bs0 (P.cellsOf e)) else if ps.map (·.1)=List.range len∧0<P.cellsOf e∧0<len∧len*P.cellsOf e≤16777216∧((P.info? e).bind (·.zero)).isSome=true then some (.bs e (P.cellsOf e) (ps.map (·.2))) else none
   |none=>none
  |_=>none
 | .extract x i=>(bB P 0 x).map fun x=>.ext x i
 | .makeFunc (.func f) first caps=>if f<1000000 then (if first.isEmpty then (kP P caps.toList []).map (.mk f) else if caps.isEmpty then (kP P first.toList []).map (.mk (f+1000000)) else none) else none
 | .alloc t=>(gC P t).map .alloc
 | .box t x=>(bB P t x).map .box
 | .store t x v=>match fY P t,bB P 0 x,bB P t v with
  |some s,some x,some v=>if s.isSome=true∨P.cellsOf t=1 then some (.bl s x v) else none
  |_,_,_=>none
 | .call { callee:=.value (.func f),args,argTypes } =>if fe P f then (kP P args.toList argTypes.toList).map (.call f) else (kP P args.toList argTypes.toList).map (.kN f)
 | .call { callee:=.value x,args,argTypes } =>match bB P 0 x,kP P args.toList argTypes.toList with
  |some x,some args=>some (.fy x args)
  |_,_=>none
 | .call { callee:=.builtin .len,args,argTypes } =>match args.toList,argTypes.toList with
  | [x],[t]=>match P.underlying t with
   |some (.slice _)=>(bB P t x).map .len
   |some .string=>(bB P t x).map .lenT
   |_=>none
  |_,_=>none
 | .call { callee:=.builtin .append,args,argTypes } =>match args.toList,argTypes.toList with
  | [s,x],[t,t']=>match P.underlying t,bB P t s,bB P t' x with
   |some (.slice e),some s,some x=>if t=t'∧0<P.cellsOf e∧(gC P e).map I.size=some (P.cellsOf e) then (gC P e).map fun z=>.dB e (P.cellsOf e) (P.bytesOf e) z s x else
    if sf (P.underlying t')=true∧0<P.cellsOf e∧(gC P e).map I.size=some (P.cellsOf e) then (gC P e).map fun z=>.mA e (P.cellsOf e) (P.bytesOf e) z s x else none
   |_,_,_=>none
  |_,_=>none
 | .call { callee:=.builtin .cap,args,argTypes } =>match args.toList,argTypes.toList with
  | [x],[t]=>match P.underlying t with
   |some (.slice _)=>(bB P t x).map .cap
   |_=>none
  |_,_=>none
 | .call { callee:=.builtin .clear,args,argTypes } =>match args.toList,argTypes.toList with
  | [x],[t]=>match P.underlying t,bB P t x with
   |some (.slice e),some x=>(gC P e).map fun z=>.jQ (P.cellsOf e) z x
   |_,_=>none
  |_,_=>none
 | .call { callee:=.builtin .copy,args,argTypes } =>match args.toList,argTypes.toList with
  | [x,y],[t,t']=>match P.underlying t,bB P t x,bB P t' y with
   |some (.slice e),some x,some y=>if t=t'∧(P.info? e).isSome=true then some (.lI (P.cellsOf e) x y) else none
   |_,_,_=>none
  |_,_=>none
 | .call { callee:=.builtin .delete,args,argTypes } =>match args.toList,argTypes.toList with
  | [m,k],[t,_]=>match P.underlying t,bB P 0 m,bB P 0 k with
   |some (.map kt _),some m,some k=>(kr P kt).map fun ty=>.jf ty m k
   |_,_,_=>none
  |_,_=>none
 | .call { callee:=.builtin .max,args,.. } =>match args.toList with
  | [x,y]=>match bB P 0 x,bB P 0 y with
   |some x,some y=>some (.max2 x y)
   |_,_=>none
  |_=>none
 |_=>none
def dH(c:cX)(A:ai)(o:Oper)(x:I):Prop :=
 ∀ a w D E,aY c A a w D E→∃ v w' D',(execOp a.eval o).run c.P w=.ok (.value v) w'∧aY c A a w' D' E∧bg w' D' E x v
section
variable {c:cX} {A:ai} {o:Oper} {x:I}
theorem dH.same(h:∀ a w D E,aY c A a w D E→∃ v,(execOp a.eval o).run c.P w=.ok (.value v) w∧bg w D E x v):dH c A o x :=
 fun a w D E hs=>let ⟨v,U,ab⟩:=h a w D E hs;⟨v,w,D,U,hs,ab⟩
theorem Db{y:Operand}{z:aR}(ho:o.op=.move y∨o.op=.assign y)(hz:bB c.P o.type y=some z):dH c A o (ak A z) :=
 .same fun a w D E hs=>⟨a.eval y,by rcases ho with ho | ho <;>simp[execOp,ho],bZ hs hz⟩
theorem Wu{q y z:Operand}{q' y' z':aR}{t:Bool}(ho:o.op=.pick q y z)(hq:bB c.P 0 q=some q')(hy:bB c.P o.type y=some y')(hz:bB c.P o.type z=some z')
  (ht:ak A q'=.bool t):dH c A o (if t then ak A y' else ak A z') :=
 .same fun a w D E hs=>by
  have U:=bZ hs hq;rw[ht] at U;have ab:=lg U;refine ⟨if t then a.eval y else a.eval z,by cases t <;>simp[execOp,ho,ab,asBool],?_⟩;cases t
  ·exact bZ hs hz
  ·exact bZ hs hy
theorem yT{P:Program}{w:World}(op:BinOp)(t:TypeId)(x y:Operand){u v:Value}(hu:u.oneCell'=true)(hn:u≠.nilIface):(eqGuard op t x y u v).run P w=.ok () w:=by
 cases op <;>cases u <;>simp[Value.oneCell'] at hu <;>first | (exact absurd rfl hn) | (cases v <;>simp[eqGuard])
theorem Is{op:BinOp}{x y z:I}(h:cC op x y=some z){P:Program}{t:TypeId}{w:World}{D:aU}{E:bf}{u v:Value}(hx:bg w D E x u)(hy:bg w D E y v)(xo yo:Operand) :
  ∃ r,(do eqGuard op t xo yo u v;binOp op t u v:Sem Value).run P w=.ok r w∧bg w D E z r:=by
 unfold cC at h;split at h
 ·rename_i k a k' b;obtain ⟨rfl,ha⟩:=eY hx;obtain ⟨rfl,hb⟩:=eY hy;have hg:∀ op,(eqGuard op t xo yo (.int k a) (.int k' b)).run P w=.ok () w:=fun op=>yT op t xo yo rfl (by simp);simp only[Sem.run_bind,hg,Result.andThen_ok];split at h
  ·split at h
   ·rename_i hb0;simp only[v6] at h;subst h;have:¬ b<0:=by omega
    exact ⟨_,by simp[binOp,Op.shift,this],kz (rn _ _)⟩
   ·cases h
  ·split at h
   ·rename_i hb0;simp only[v6] at h;subst h;have:¬ b<0:=by omega
    exact ⟨_,by simp[binOp,Op.shift,this],kz (N8 _ _ _ ha)⟩
   ·cases h
  ·rename_i op U ab;split at h
   ·rename_i hk;subst hk;split at h <;>first
     |(simp at h;done)
     |(simp only[v6] at h;subst h;exact ⟨_,by simp[binOp,Op.intArith,Op.intBits,Op.intCmp],kz (rn _ _)⟩)
     |(simp only[v6] at h;subst h;exact ⟨_,by simp[binOp,Op.intCmp],ph _⟩)
     |(split at h
       ·cases h
       ·rename_i hb0;simp only[v6] at h;subst h
        first
         |exact ⟨_,by simp[binOp,Op.intDiv,hb0],kz (rn _ _)⟩
         |exact ⟨_,by simp[binOp,Op.intDiv,hb0],kz (aap _ _ _ ha)⟩)
   ·cases h
 ·rename_i s s';obtain ⟨rfl,hs1⟩:=oy hx;obtain ⟨rfl,hs2⟩:=oy hy;have hg:∀ op,(eqGuard op t xo yo (.string s) (.string s')).run P w=.ok () w:=fun op=>yT op t xo yo rfl (by simp);simp only[Sem.run_bind,hg,Result.andThen_ok];split at h <;>first
   |(simp at h;done)
   |(simp only[v6] at h;subst h;exact ⟨_,by simp[binOp,Op.stringOp],ph _⟩)
   |(split at h
     ·rename_i hl;simp only[v6] at h;subst h;have hl':¬ (((s.size+s'.size:Nat):Int)>IntKind.i64.max):=by
       have e:IntKind.i64.max=9223372036854775807:=by simp[IntKind.max,IntKind.bits,IntKind.signed]
       rw[e];omega
      refine ⟨.string (s++s'),by simp only[binOp,Op.stringOp,if_neg hl',Sem.run_pure],?_⟩;exact ⟨_,by simp[bG,I.isAgg];rfl,by simp only[al,true_and];rw[ByteArray.size_append];unfold maxLen;omega⟩
     ·cases h)
 ·cases h
theorem C9{op:BinOp}{t yt:TypeId}{y z:Operand}{y' z':aR}(ho:o.op=.binOp op t y z yt)(hy:bB c.P 0 y=some y')(hz:bB c.P 0 z=some z')(h:cC op (ak A y') (ak A z')=some x):dH c A o x :=
 .same fun a w D E hs=>by
  obtain ⟨r,U,ab⟩:=Is h (P:=c.P) (t:=t) (bZ hs hy) (bZ hs hz) y z;exact ⟨r,by simp only[execOp,ho,Sem.run_bind] at *;rw[U];rfl,ab⟩
theorem Wt{t:TypeId}{y:Operand}{y':aR}{b:Bool}(ho:o.op=.unOp .not t y)(hy:bB c.P 0 y=some y')(h:ak A y'=.bool b):dH c A o (.bool !b) :=
 .same fun a w D E hs=>by
  have U:=bZ hs hy;rw[h] at U;exact ⟨.bool !b,by simp[execOp,ho,lg U,Op.unary],ph _⟩
theorem Ws{t:TypeId}{y:Operand}{y':aR}{k:IntKind}{n:Int}(ho:o.op=.unOp .neg t y)(hy:bB c.P 0 y=some y')(h:ak A y'=.int k n):dH c A o (.int k (k.wrap (0-n))) :=
 .same fun a w D E hs=>by
  have U:=bZ hs hy;rw[h] at U;exact ⟨.int k (k.wrap (0-n)),by simp[execOp,ho,(eY U).1,Op.unary,Op.intArith],kz (rn _ _)⟩
theorem Wa{t:TypeId}{y:Operand}{y':aR}{k:IntKind}{n:Int}(ho:o.op=.unOp .xor t y)(hy:bB c.P 0 y=some y')(h:ak A y'=.int k n):dH c A o (.int k (qp k n)) :=
 .same fun a w D E hs=>by
  have U:=bZ hs hy;rw[h] at U;exact ⟨.int k (qp k n),by simp[execOp,ho,(eY U).1,Op.unary,Op.intBits,qp],kz (rn _ _)⟩
theorem V9{oB dst:TypeId}{y:Operand}{y':aR}{k k0 k1:IntKind}{n:Int}(ho:o.op=.convert oB dst y)(U:c.P.underlying oB=some (.int k0))(ab:c.P.underlying dst=some (.int k))
  (hy:bB c.P 0 y=some y') (h:ak A y'=.int k1 n):dH c A o (.int k (k.wrap n)) :=
 .same fun a w D E hs=>by
  have af:=bZ hs hy;rw[h] at af;exact ⟨.int k (k.wrap n),by simp[execOp,ho,(eY af).1,convert,run_underlying U,run_underlying ab,Conv.intToInt],kz (rn _ _)⟩
theorem Wd{y:Operand}{y':aR}{i:Nat}{fs:List I}(ho:o.op=.extract y i)(hy:bB c.P 0 y=some y')(h:ak A y'=.tuple fs)(hi:fs[i]?=some x):dH c A o x :=
 .same fun a w D E hs=>by
  have af:=bZ hs hy;rw[h] at af;obtain ⟨vs,aq,h5⟩:=af;have:∀ (fs:List I) (vs:List Value) (i:Nat),aG w D E fs vs→fs[i]?=some x→∃ v,vs[i]?=some v∧bg w D E x v:=by
   intro fs
   induction fs with
   |nil=>intro vs i _ hi;simp at hi
   |cons f fs ih =>
    intro vs i hr hi;simp only[aG] at hr;obtain ⟨v,rest,cs,rfl,k1,k2,k3⟩:=hr;cases i with
    |zero =>
     simp only[List.getElem?_cons_zero,v6] at hi ⊢;subst hi;refine ⟨v,rfl,?_⟩;cases f <;>simp only[bg] <;>first | (simp only[al] at k2;done) | exact ⟨cs,k1,k2⟩
    |succ i=>simpa using ih rest i k3 (by simpa using hi)
  obtain ⟨v,h6,h7⟩:=this fs vs i h5 hi;exact ⟨v,by simp[execOp,ho,aq,Instr.extract,h6],h7⟩
theorem jY{w:World}{D:aU}{E:bf}{x:I}{v:Value}{cs:List Value}(U:bG x v cs)(ab:al w D E x cs):bg w D E x v:=by
 cases x <;>simp only[bg] <;>first | (simp only[al] at ab;done) | exact ⟨cs,U,ab⟩
theorem GB{P:Program}{w:World}{t:TypeId}{s:Option Nat}(h:fY P t=some s):(isAgg t).run P w=.ok s.isSome w:=by
 unfold fY at h;unfold isAgg;cases hu:P.underlying t with
 |none=>simp[hu] at h
 |some d =>
  rw[Sem.run_bind,run_underlying hu w];cases d <;>simp_all <;>(subst h;rfl)
theorem xR{P:Program}{t:TypeId}{n:Nat}(h:fY P t=some (some n)):n=P.cellsOf t:=by
 unfold fY at h;split at h <;>simp_all
theorem xH{P:Program}{t:TypeId}{d:TypeDesc}(h:P.underlying t=some d):∃ i,P.info? t=some i:=by
 unfold Program.underlying at h;cases hi:P.info? t with
 |none=>simp[hi] at h
 |some i=>exact ⟨i,rfl⟩
theorem jm{P:Program}{w:World}{t:TypeId}{i:TypeInfo}(h:P.info? t=some i):(sizeOf t).run P w=.ok (P.cellsOf t) w:=by
 simp[sizeOf,typeInfo,h,Program.cellsOf]
theorem uH{P:Program}{t:TypeId}{s:Option Nat}(h:fY P t=some s):∃ i,P.info? t=some i:=by
 unfold fY at h;split at h
 ·rename_i fs hu;exact xH hu
 ·rename_i n e hu;exact xH hu
 ·rename_i d _ _ hu;exact xH hu
 ·cases h
theorem nL(b off j:Nat):(⟨b,off,none⟩:Addr).add j=⟨b,off+j,none⟩:=by unfold Addr.add;split <;>simp_all
theorem GC{P:Program}{w:World}{D:aU}{E:bf}{t:TypeId}{s:Option Nat}{b off:Nat}{cs:List Value}{y:I}(hk:fY P t=some s)(hok:b8 s y=true)
  (hcs:∀ j u,cs[j]?=some u→w.cell? ⟨b,off+j,none⟩=some u) (hy:al w D E y cs):∃ v,(loadVar t ⟨b,off,none⟩).run P w=.ok v w∧bg w D E y v:=by
 have hag:=GB (w:=w) hk;cases s with
 |none =>
  simp only[b8,Bool.not_eq_true'] at hok;have hl:=al.length _ _ hy;have hsz:y.size=1:=by cases y <;>simp_all[I.isAgg,I.size]
  rw[hsz] at hl
  match cs,hl with
  | [v],_ =>
   have:=hcs 0 v rfl;rw[Nat.add_zero] at this;refine ⟨v,?_,Ei hok hy⟩;simp only[loadVar,Sem.run_bind,hag,Result.andThen_ok,Option.isSome_none,zz3,if_false,run_load,this]
 |some n =>
  simp only[b8,t8,beq_iff_eq] at hok;obtain ⟨hag',hsz⟩:=hok;have hn:=xR hk;obtain ⟨i,hi⟩:=uH hk;have hl:=al.length _ _ hy;refine ⟨.agg cs.toArray,?_,jY (by simp[bG,hag']) hy⟩;have hlc:=run_loadCells_list (P:=P) w ⟨b,off,none⟩ cs (fun j u hj=>by rw[nL];exact hcs j u hj);rw[hl,hsz,hn] at hlc;simp only[loadVar,Sem.run_bind,hag,Result.andThen_ok,Option.isSome_some,if_true,jm hi,hlc,Sem.run_pure]
theorem Wn{t:TypeId}{y:Operand}{y':aR}{s:Option Nat}(ho:o.op=.load t y)(hk:fY c.P t=some s)(hy:bB c.P 0 y=some y')(h:cJ A (ak A y')=some x)(hok:b8 s x=true):dH c A o x :=
 .same fun a w D E hs=>by
  obtain ⟨b,off,cs,U,ab,af⟩:=hs.Ab (bZ hs hy) h;obtain ⟨v,aq,h5⟩:=GC hk hok ab af;exact ⟨v,by simp[execOp,ho,Instr.loadAt,U,Instr.sureAddr,aq],h5⟩
theorem vq{w:World}{D:aU}{b off:Nat}{c1 c2 c3:List Value}(h:reads w D b off (c1++c2++c3)):reads w D b (off+c1.length) c2:=by
 intro j v hj;have hjl:j<c2.length:=(zz8.1 hj).1;have:=h (c1.length+j) v (by rw[zz9,zw5 (by omega),Nat.add_sub_cancel_left,zy6 (by omega)];exact hj)
 rwa [←Nat.add_assoc] at this
theorem cS.uZ:∀ (p:List Nat) (s:cS) (o i:Nat) (l:List cS),s.off p=some o→s.part p=some (.eK l)→i<l.length→s.off (p++[i])=some (o+cS.sizes (l.take i))
 | [],s,o,i,l,U,ab,af=>by
  simp only[cS.part,v6] at ab;subst ab;simp only[cS.off,v6] at U;subst U;simp[cS.off,zx0 af]
 |k::p,.one,o,i,l,U,ab,af=>by simp[cS.part] at ab
 |k::p,.eK m,o,i,l,U,ab,af=>by
  simp only[cS.off,cS.part,zz2] at *;cases hk:m[k]? with
  |none=>simp[hk] at ab
  |some s =>
   simp only[hk] at U ab ⊢;simp only[t7] at U;obtain ⟨o',aq,rfl⟩:=U;rw[cS.uZ p s o' i l aq ab af];simp[Nat.add_assoc]
theorem pN{esz:Nat} : ∀ (fs:List I) (k:Nat),(∀ f∈fs,f.size=esz)→k≤fs.length→I.sizes (fs.take k)=k*esz:=by
 intro fs k h hk;rw[I.iZ _ (fun x hx=>h x (List.mem_of_mem_take hx))];simp[Nat.min_eq_left hk]
theorem rT{n esz:Nat}{fs:List I}(h:jx n esz fs=true):fs.length=n∧∀ f∈fs,f.size=esz:=by
 simp only[jx,t8,beq_iff_eq,zx2] at h;exact h
theorem Gz{P:Program}{w:World}{t:TypeId}{f b off:Nat}{fs:Array Field}{fd:Field}(hu:P.underlying t=some (.struct fs))(hf:fs[f]?=some fd)(hz:¬ P.cellsOf fd.type=0) :
  (Instr.fieldAt t (.pointer (some ⟨b,off,none⟩)) f).run P w=.ok (.pointer (some ⟨b,off+fd.offset,none⟩)) w:=by
 have hi:∃ i,P.info? fd.type=some i:=by
  cases h:P.info? fd.type with
  |none=>simp[Program.cellsOf,h] at hz
  |some i=>exact ⟨i,rfl⟩
 obtain ⟨i,hi⟩:=hi;simp only[Instr.fieldAt,Sem.run_bind,run_underlying hu,Result.andThen_ok,hf,Instr.sureAddr,Sem.run_pure,fieldPlace,jm hi,Sem.run_ite,if_neg hz,nL]
theorem Wf{t:TypeId}{y:Operand}{y':aR}{f:Nat}{fs:Array Field}{fd:Field}{gs:List I}(ho:o.op=.fieldAddr t y f)(hu:c.P.underlying t=some (.struct fs))(hf:fs[f]?=some fd)(hz:¬ c.P.cellsOf fd.type=0)
  (hy:bB c.P 0 y=some y') (h:ak A y'=.ref (.agg gs)) (hx:gs[f]?=some x) (hoff:I.sizes (gs.take f)=fd.offset):dH c A o (.ref x) :=
 .same fun a w D E hs=>by
  have U:=bZ hs hy;rw[h] at U;obtain ⟨b,off,cs,ab,af,aq⟩:=re U;simp only[al] at aq;obtain ⟨c1,c2,c3,rfl,k1,_,k2,_⟩:=ng gs cs f x aq hx;refine ⟨_,by simp only[execOp,ho,ab,Sem.run_bind,Gz hu hf hz];rfl,uS (cs:=c2) ?_ k2⟩;rw[←hoff,←k1];exact vq af
theorem We{t:TypeId}{y:Operand}{y':aR}{f n:Nat}{p:List Nat}{fs:Array Field}{fd:Field}{gs:List I}(ho:o.op=.fieldAddr t y f)(hu:c.P.underlying t=some (.struct fs))(hf:fs[f]?=some fd)(hz:¬ c.P.cellsOf fd.type=0)
  (hy:bB c.P 0 y=some y') (h:ak A y'=.ptr n p) (ah:cJ A (.ptr n p)=some (.agg gs)) (hl:f<gs.length) (hoff:I.sizes (gs.take f)=fd.offset):dH c A o (.ptr n (p++[f])) :=
 .same fun a w D E hs=>by
  have U:=bZ hs hy;rw[h] at U;obtain ⟨b,bd,off,ab,af,aq⟩:=l5 U;obtain ⟨z,b',cs,T,off',c1,c2,c3,k1,k2,_,k3,k4,k5,k6,k7,k8,k9,_⟩:=hs.at ah;rw[k2] at ab;simp only[v6,bM.aJ.injEq] at ab;obtain ⟨rfl,rfl⟩:=ab;refine ⟨_,by simp only[execOp,ho,aq,Sem.run_bind,Gz hu hf hz];rfl,?_⟩;refine ⟨_,by simp[bG,I.isAgg];rfl,?_⟩;simp only[al];refine ⟨b',z.bd,off+fd.offset,k2,?_,rfl⟩;rw[cS.uZ p z.bd off f _ af (ny p z _ k4) (by rw[I.dw];simpa using hl),I.dw,←List.map_take,←I.dw,I.nz,hoff]
theorem GA{P:Program}{w:World}{t e:TypeId}{n b off:Nat}{kk:IntKind}{k:Int}{i:TypeInfo}(hu:P.underlying t=some (.array n e))(hi:P.info? e=some i)(hk:0≤k∧k<n) :
  (Instr.indexAt t (.pointer (some ⟨b,off,none⟩)) (.int kk k)).run P w=.ok (.pointer (some ⟨b,off+k.toNat*P.cellsOf e,none⟩)) w:=by
 simp[Instr.indexAt,asIntOf,run_underlying hu,Instr.sureAddr,hk,jm hi,nL]
theorem yU{P:Program}{w:World}{t e:TypeId}{n b off cap:Nat}{kk:IntKind}{k:Int}{i:TypeInfo}(hu:P.underlying t=some (.slice e))(hi:P.info? e=some i)(hk:0≤k∧k<n) :
  (Instr.indexAt t (.slice (some ⟨b,off,none⟩) n cap) (.int kk k)).run P w=.ok (.pointer (some ⟨b,off+k.toNat*P.cellsOf e,none⟩)) w:=by
 simp[Instr.indexAt,asIntOf,run_underlying hu,hk,jm hi,nL]
theorem Wi{t e:TypeId}{y z:Operand}{y' z':aR}{n:Nat}{i:TypeInfo}{gs:List I}{kk:IntKind}{k:Int}(ho:o.op=.indexAddr t y z)(hu:c.P.underlying t=some (.array n e))(hi:c.P.info? e=some i)
  (hy:bB c.P 0 y=some y') (hz:bB c.P 0 z=some z') (h:ak A y'=.ref (.agg gs)) (h':ak A z'=.int kk k) (hk:0≤k∧k<n) (hev:jx n (c.P.cellsOf e) gs=true) (hx:gs[k.toNat]?=some x):dH c A o (.ref x) :=
 .same fun a w D E hs=>by
  have U:=bZ hs hy;rw[h] at U;have h1':=bZ hs hz;rw[h'] at h1';obtain ⟨b,off,cs,ab,af,aq⟩:=re U;simp only[al] at aq;obtain ⟨c1,c2,c3,rfl,k1,_,k2,_⟩:=ng gs cs k.toNat x aq hx;obtain ⟨e1,e2⟩:=rT hev;have hl:k.toNat<gs.length:=(zz8.1 hx).1;refine ⟨_,by simp only[execOp,ho,ab,(eY h1').1,Sem.run_bind,GA hu hi hk];rfl,uS (cs:=c2) ?_ k2⟩;rw[←pN gs k.toNat e2 (by omega),←k1];exact vq af
theorem Wh{t e:TypeId}{y z:Operand}{y' z':aR}{n m:Nat}{p:List Nat}{i:TypeInfo}{gs:List I}{kk:IntKind}{k:Int}(ho:o.op=.indexAddr t y z)(hu:c.P.underlying t=some (.array n e))(hi:c.P.info? e=some i)
  (hy:bB c.P 0 y=some y') (hz:bB c.P 0 z=some z') (h:ak A y'=.ptr m p) (h':ak A z'=.int kk k) (hk:0≤k∧k<n) (ah:cJ A (.ptr m p)=some (.agg gs)) (hev:jx n (c.P.cellsOf e) gs=true):dH c A o (.ptr m (p++[k.toNat])) :=
 .same fun a w D E hs=>by
  have U:=bZ hs hy;rw[h] at U;have h1':=bZ hs hz;rw[h'] at h1';obtain ⟨b,bd,off,ab,af,aq⟩:=l5 U;obtain ⟨zz,b',cs,T,off',c1,c2,c3,k1,k2,_,k3,k4,k5,k6,k7,k8,k9,_⟩:=hs.at ah;rw[k2] at ab;simp only[v6,bM.aJ.injEq] at ab;obtain ⟨rfl,rfl⟩:=ab;obtain ⟨e1,e2⟩:=rT hev;have hl:k.toNat<gs.length:=by omega
  refine ⟨_,by simp only[execOp,ho,aq,(eY h1').1,Sem.run_bind,GA hu hi hk];rfl,?_⟩;refine ⟨_,by simp[bG,I.isAgg];rfl,?_⟩;simp only[al];refine ⟨b',zz.bd,off+k.toNat*c.P.cellsOf e,k2,?_,rfl⟩;rw[cS.uZ p zz.bd off k.toNat _ af (ny p zz _ k4) (by rw[I.dw];simpa using hl),I.dw,←List.map_take,←I.dw,I.nz,pN gs _ e2 (by omega)]
theorem B6{w:World}{D:aU}{E:bf}{b off sz k:Nat}{cs:List Value}{es:List I}{x:I}(U:reads w D b off cs)(ab:aP w D E es cs)(af:∀ e∈es,e.size=sz)(hx:es[k]?=some x) :
  ∃ c2,reads w D b (off+k*sz) c2∧al w D E x c2:=by
 obtain ⟨c1,c2,c3,rfl,k1,_,k2,_⟩:=ng es cs k x ab hx;have hl:k<es.length:=(zz8.1 hx).1;refine ⟨c2,?_,k2⟩;rw[←pN es k af (by omega),←k1];exact vq U
theorem Wj{t e:TypeId}{y z:Operand}{y' z':aR}{i:TypeInfo}{es:List I}{kk:IntKind}{k:Int}(ho:o.op=.indexAddr t y z)(hu:c.P.underlying t=some (.slice e))(hi:c.P.info? e=some i)
  (hy:bB c.P 0 y=some y') (hz:bB c.P 0 z=some z') (h:ak A y'=.slice (c.P.cellsOf e) es) (h':ak A z'=.int kk k) (hk:0≤k∧k<es.length) (hx:es[k.toNat]?=some x):dH c A o (.ref x) :=
 .same fun a w D E hs=>by
  have U:=bZ hs hy;rw[h] at U;have h1':=bZ hs hz;rw[h'] at h1';obtain ⟨ad,cap,rfl',ab,af,aq,h5⟩:=ox U;rcases aq with aq | ⟨b,off,cs,rfl,h6,h7⟩
  ·subst aq;simp at hx
  obtain ⟨c2,k1,k2⟩:=B6 h6 h7 h5 hx;exact ⟨_,by simp only[execOp,ho,rfl',(eY h1').1,Sem.run_bind,yU hu hi hk];rfl,uS k1 k2⟩
theorem aY.ZQ{a:Act}{w:World}{D:aU}{E:bf}(h:aY c A a w D E){n sz b cap:Nat}{T:TypeId}{es:List I}(hn:A.o n=some (.bU T sz es))(ay:E n=some (.rw (some (b,cap)) es.length)) :
  aY c A a w (fun b' o=>D b' o∨(b'=b∧o<es.length*sz)) E:=by
 have hrow:=h.bU hn;obtain ⟨aH,k1,k2,k3⟩:=hrow;rw[ay] at k1;simp only[v6,bM.rw.injEq,and_true] at k1;subst k1;obtain ⟨cs,pre,rest,k4,k5,k6,k7,k8,k9,k10,k11⟩:=k3;refine h.Hd (fun _ _ ah=>.inl ah) ?_ ?_ ?_ ?_ ?_ ?_
 ·rintro b' o (ah | ⟨rfl,_⟩) hlt
  ·exact h.cZ _ _ ah hlt
  ·exact absurd k4 hlt
 ·rintro b' o (ah | ⟨rfl,_⟩)
  ·exact h.aQ _ _ ah
  ·exact fS k5
 ·rintro m x b' hm hEm o (ah | ⟨rfl,_⟩)
  ·obtain ⟨b2,cs2,tM,q1,q2,q3,q4,q5⟩:=h.box hm;rw[q1] at hEm;simp only[v6,bM.aJ.injEq,and_true] at hEm;subst hEm;exact q5 o ah
  ·have:=h.cO m n _ _ b' hEm ay rfl rfl;subst this;rw[hm] at hn;cases hn
 ·rintro m T' sz' es' b' cap' hm hEm o (ah | ⟨rfl,ho⟩)
  ·obtain ⟨aH,q1,q2,q3⟩:=h.bU hm;rw[hEm] at q1;simp only[v6,bM.rw.injEq,and_true] at q1;subst q1;obtain ⟨cs',pre',rest',q4,q5,q6,q7,q8,q9,q10,q11⟩:=q3;have:=q11 o ah
   rwa [aP.length _ _ q7,I.iZ _ q2] at this
  ·have:=h.cO m n _ _ b' hEm ay rfl rfl;subst this;rw[hm] at hn;simp only[v6,ao.bU.injEq] at hn;obtain ⟨rfl,rfl,rfl⟩:=hn;exact ho
 ·rintro m T' xs b' cap' hm hEm o (ah | ⟨rfl,ho⟩)
  ·obtain ⟨aH,q1,_,q3⟩:=h.tt hm;rw[hEm] at q1;simp only[v6,bM.rw.injEq,and_true] at q1;subst q1;obtain ⟨_,_,_,_,_,_,_,_,q4⟩:=q3;exact q4 o ah
  ·have:=h.cO m n _ _ b' hEm ay rfl rfl;subst this;rw[hm] at hn;cases hn
 ·rintro m e' b' hE' hoth hblk o (ah | ⟨rfl,_⟩)
  ·exact h.yp hE' hoth hblk o ah
  ·have:=h.cO m n _ _ b' hE' ay hblk rfl;subst this;rw[hE'] at ay;cases ay;cases hoth
theorem aY.own{a:Act}{w:World}{D:aU}{E:bf}(h:aY c A a w D E){n sz:Nat}{T:TypeId}{es:List I}{v:Value}(hn:A.o n=some (.bU T sz es))(hv:bg w D E (.own n es.length) v) :
  (es=[]∧E n=some (.rw none 0)∧v=.slice none 0 0) ∨
  ∃ b cap cs pre rest,E n=some (.rw (some (b,cap)) es.length)∧v=.slice (some ⟨b,0,none⟩) es.length cap∧c.e9 b∧w.heap[b]?=some (.cells cs T (0,0))∧cs.toList=pre++rest ∧
   aP w D E es pre∧cs.size=cap*sz∧es.length≤cap∧cap≤maxLen∧(∀ o,D b o→o<pre.length):=by
 obtain ⟨cs0,U,ab⟩:=hv;simp only[al] at ab;obtain ⟨aH,l,af,aq,_,h5⟩:=ab;obtain ⟨blk',k1,k2,k3⟩:=h.bU hn;rw[k1] at af;simp only[v6,bM.rw.injEq] at af;obtain ⟨rfl,rfl⟩:=af;have h5:=h5 rfl;cases blk' with
 |none =>
  simp only at k3 h5;subst k3;exact .inl ⟨rfl,k1,by simpa[bG,I.isAgg,h5] using U.symm⟩
 |some bc =>
  obtain ⟨b,cap⟩:=bc;simp only at h5;obtain ⟨cs,pre,rest,k4,k5,k6,k7,k8,k9,k10,k11⟩:=k3;exact .inr ⟨b,cap,cs,pre,rest,k1,by simpa[bG,I.isAgg,h5] using U.symm,k4,k5,k6,k7,k8,k9,k10,k11⟩
theorem Wk{t e:TypeId}{y z:Operand}{y' z':aR}{i:TypeInfo}{es:List I}{n:Nat}{kk:IntKind}{k:Int}(ho:o.op=.indexAddr t y z)(hu:c.P.underlying t=some (.slice e))(hi:c.P.info? e=some i)
  (hy:bB c.P 0 y=some y') (hz:bB c.P 0 z=some z') (h:ak A y'=.own n es.length) {T:TypeId} (hn:A.o n=some (.bU T (c.P.cellsOf e) es)) (h':ak A z'=.int kk k) (hk:0≤k∧k<es.length) (hx:es[k.toNat]?=some x):dH c A o (.ref x):=by
 intro a w D E hs;have U:=bZ hs hy;rw[h] at U;have h1':=bZ hs hz;rw[h'] at h1';rcases hs.own hn U with ⟨rfl,_⟩ | ⟨b,cap,cs,pre,rest,k1,k2,k3,k4,k5,k6,k7,k8,k9,k10⟩
 ·simp at hx
 ·have hs':=hs.ZQ hn k1;obtain ⟨aH,q1,q2,_⟩:=hs.bU hn;have hpl:pre.length=es.length*c.P.cellsOf e:=by rw[aP.length _ _ k6,I.iZ _ q2]
  have hr:reads w (fun b' o=>D b' o∨(b'=b∧o<es.length*c.P.cellsOf e)) b 0 pre:=by
   have:=pz (D:=fun b' o=>D b' o∨(b'=b∧o<es.length*c.P.cellsOf e)) (c1:=[]) k4 (by simpa using k5) (fun o ho=>.inr ⟨rfl,by simp at ho;omega⟩);simpa using this
  have hrc:aP w (fun b' o=>D b' o∨(b'=b∧o<es.length*c.P.cellsOf e)) E es pre :=
   aP.later ⟨fun _ _ ah=>.inl ah,fun _ _ _ _ h=>h,fun _ _ _ h=>h,fun _ aH l h=>⟨aH,l,h,zz5 _,fun _=>rfl⟩,fun _ _ h=>h,fun _ _ h=>h,fun _ _ _ _ h=>h⟩ es pre k6
  obtain ⟨c2,q3,q4⟩:=B6 hr hrc q2 hx;exact ⟨_,w,_,by simp only[execOp,ho,k2,(eY h1').1,Sem.run_bind,yU hu hi hk];rfl,hs',uS q3 q4⟩
end
section
variable {c:cX} {A:ai} {o:Oper} {x:I}
theorem pK{P:Program}{w:World}{D:aU}{E:bf}{t:TypeId}{s:Option Nat}{c1 c2 c3:List Value}{y:I}(hk:fY P t=some s)(hok:b8 s y=true)(hy:al w D E y c2) :
  ∃ v,(part t (c1++c2++c3).toArray c1.length).run P w=.ok v w∧bg w D E y v:=by
 have hag:=GB (w:=w) hk;have hl:=al.length _ _ hy;cases s with
 |none =>
  simp only[b8,Bool.not_eq_true'] at hok;have hsz:y.size=1:=by cases y <;>simp_all[I.isAgg,I.size]
  rw[hsz] at hl
  match c2,hl with
  | [v],_ =>
   refine ⟨v,?_,Ei hok hy⟩;simp[part,hag]
 |some n =>
  simp only[b8,t8,beq_iff_eq] at hok;obtain ⟨hag',hsz⟩:=hok;have hn:=xR hk;obtain ⟨i,hi⟩:=uH hk;refine ⟨.agg c2.toArray,?_,jY (by simp[bG,hag']) hy⟩;have e:((c1++c2++c3).toArray.extract c1.length (c1.length+P.cellsOf t))=c2.toArray:=by
   have:P.cellsOf t=c2.length:=by rw[hl,hsz,hn]
   rw[this];simp
  simp only[part,Sem.run_bind,hag,Result.andThen_ok,Option.isSome_some,if_true,jm hi,e,Sem.run_pure]
theorem Wg{t:TypeId}{y:Operand}{y':aR}{f:Nat}{s:Option Nat}{fs:Array Field}{fd:Field}{gs:List I}(ho:o.op=.field t y f)(hu:c.P.underlying t=some (.struct fs))(hf:fs[f]?=some fd)(hk:fY c.P fd.type=some s)
  (hy:bB c.P 0 y=some y') (h:ak A y'=.agg gs) (hx:gs[f]?=some x) (hoff:I.sizes (gs.take f)=fd.offset) (hok:b8 s x=true):dH c A o x :=
 .same fun a w D E hs=>by
  have U:=bZ hs hy;rw[h] at U;obtain ⟨cs,ab,aq⟩:=jC U;obtain ⟨c1,c2,c3,rfl,k1,_,k2,_⟩:=ng gs cs f x aq hx;obtain ⟨v,k3,k4⟩:=pK (c1:=c1) (c3:=c3) hk hok k2;rw[k1,hoff] at k3;exact ⟨v,by simp only[execOp,ho,ab,Instr.field,Sem.run_bind,run_underlying hu,Result.andThen_ok,hf,asAgg,Sem.run_pure,k3],k4⟩
theorem Wm{t e:TypeId}{y z:Operand}{y' z':aR}{n:Nat}{s:Option Nat}{gs:List I}{kk:IntKind}{k:Int}(ho:o.op=.index t y z)(hu:c.P.underlying t=some (.array n e))(hk:fY c.P e=some s)
  (hy:bB c.P 0 y=some y') (hz:bB c.P 0 z=some z') (h:ak A y'=.agg gs) (h':ak A z'=.int kk k) (hb:0≤k∧k<n) (hev:jx n (c.P.cellsOf e) gs=true) (hx:gs[k.toNat]?=some x) (hok:b8 s x=true):dH c A o x :=
 .same fun a w D E hs=>by
  have U:=bZ hs hy;rw[h] at U;have h1':=bZ hs hz;rw[h'] at h1';obtain ⟨cs,ab,aq⟩:=jC U;obtain ⟨c1,c2,c3,rfl,k1,_,k2,_⟩:=ng gs cs k.toNat x aq hx;obtain ⟨v,k3,k4⟩:=pK (c1:=c1) (c3:=c3) hk hok k2;obtain ⟨e1,e2⟩:=rT hev;obtain ⟨i,hi⟩:=uH hk;have hl:k.toNat<gs.length:=(zz8.1 hx).1;rw[k1,pN gs k.toNat e2 (by omega)] at k3;exact ⟨v,by simp only[execOp,ho,ab,(eY h1').1,Instr.index,Sem.run_bind,asIntOf,run_underlying hu,Result.andThen_ok,Sem.run_ite,if_pos hb,jm hi,Sem.run_pure,k3],k4⟩
theorem xY{n:Nat}(h:n≤maxLen):IntKind.i64.min≤(n:Int)∧(n:Int)≤IntKind.i64.max:=by
 simp only[IntKind.min,IntKind.max,IntKind.bits,IntKind.signed];unfold maxLen at h;simp;omega
theorem qB{ty:TypeId}{y:Operand}{y':aR}{n:Nat}{d:TypeDesc}(ho:o.op=.call { callee:=.builtin .len,args := #[y],argTypes := #[ty] })(hu:c.P.underlying ty=some d)(ah:(∃ e,d=.slice e)∨d=.string)
  (hy:bB c.P ty y=some y') (h:∀ a w D E,aY c A a w D E→∀ v,bg w D E (ak A y') v→n≤maxLen∧((∃ e,d=.slice e)→∃ ad cap,v=.slice ad n cap)∧(d=.string→∃ s,v=.string s∧s.size=n)):dH c A o (.int .i64 n) :=
 .same fun a w D E hs=>by
  obtain ⟨aZ,U,ab⟩:=h a w D E hs _ (bZ hs hy);refine ⟨.int .i64 n,?_,kz (xY aZ)⟩;rcases ah with ⟨e,rfl⟩ | rfl
  ·obtain ⟨ad,cap,hv⟩:=U ⟨e,rfl⟩;simp[execOp,ho,resolve,invoke,builtin,Builtin.len_,run_underlying hu,hv,goInt]
  ·obtain ⟨s,hv,hs⟩:=ab rfl;simp[execOp,ho,resolve,invoke,builtin,Builtin.len_,run_underlying hu,hv,goInt,hs]
theorem Wy{t e:TypeId}{y:Operand}{y':aR}{n:Nat}{i:TypeInfo}{gs:List I}(ho:o.op=.slice t y none none none)(hu:c.P.underlying t=some (.array n e))(hi:c.P.info? e=some i)
  (hy:bB c.P 0 y=some y') (h:ak A y'=.ref (.agg gs)) (hev:jx n (c.P.cellsOf e) gs=true) (hn:n≤maxLen):dH c A o (.slice (c.P.cellsOf e) gs) :=
 .same fun a w D E hs=>by
  have U:=bZ hs hy;rw[h] at U;obtain ⟨b,off,cs,ab,af,aq⟩:=re U;simp only[al] at aq;obtain ⟨e1,e2⟩:=rT hev;by_cases aZ:n=0
  ·exact ⟨.slice (some ⟨b,off,none⟩) 0 0,by simp[execOp,ho,ab,Instr.sliceAt,run_underlying hu,Instr.sureAddr,Instr.sliceBounds,jm hi,aZ],uT (by omega) (by omega) (by simp[maxLen]) (.inl (List.eq_nil_of_length_eq_zero (by omega))) e2⟩
  ·exact ⟨.slice (some ⟨b,off,none⟩) n n,by simp[execOp,ho,ab,Instr.sliceAt,run_underlying hu,Instr.sureAddr,Instr.sliceBounds,jm hi,nL],uT e1.symm (zz5 _) hn (.inr ⟨b,off,cs,rfl,af,aq⟩) e2⟩
theorem Wx{t e:TypeId}{y:Operand}{y':aR}{n m:Nat}{p:List Nat}{i:TypeInfo}{gs:List I}(ho:o.op=.slice t y none none none)(hu:c.P.underlying t=some (.array n e))(hi:c.P.info? e=some i)
  (hy:bB c.P 0 y=some y') (h:ak A y'=.ptr m p) (ah:cJ A (.ptr m p)=some (.agg gs)) (hev:jx n (c.P.cellsOf e) gs=true) (hn:n≤maxLen) (hn0:n≠0):dH c A o (.view m p (c.P.cellsOf e) 0 n) :=
 .same fun a w D E hs=>by
  have U:=bZ hs hy;rw[h] at U;obtain ⟨b,bd,off,ab,af,aq⟩:=l5 U;obtain ⟨zz,b',cs,T,off',c1,c2,c3,k1,k2,_,k3,k4,k5,k6,k7,k8,k9,_⟩:=hs.at ah;rw[k2] at ab;simp only[v6,bM.aJ.injEq] at ab;obtain ⟨rfl,rfl⟩:=ab;obtain ⟨e1,e2⟩:=rT hev;refine ⟨.slice (some ⟨b',off,none⟩) n n,by simp[execOp,ho,aq,Instr.sliceAt,run_underlying hu,Instr.sureAddr,Instr.sliceBounds,jm hi,nL],?_⟩;refine ⟨_,by simp[bG,I.isAgg];rfl,?_⟩;simp only[al];refine ⟨b',zz.bd,off,I.cV gs,k2,af,ny p zz _ k4,?_,?_,?_,?_⟩
  ·rw[I.dw,zz7,e1];simp
  ·rw[I.dw,zz7,e1];exact hn
  ·rw[I.dw,zz7,e1];omega
  ·rw[I.dw];intro s hs';obtain ⟨f,hf,rfl⟩:=zy5.1 hs';rw[I.l9];exact e2 f hf
theorem Y9{w:World}{D:aU}{E:bf}{b off sz:Nat}{cs:List Value}{es:List I}(U:reads w D b off cs)(ab:aP w D E es cs)(af:∀ e∈es,e.size=sz)(l h:Nat)(hl:l≤h)(hh:h≤es.length) :
  ∃ c2,reads w D b (off+l*sz) c2∧aP w D E ((es.take h).drop l) c2:=by
 have hspl:∀ (xs ys:List I) (cs:List Value),aP w D E (xs++ys) cs→∃ c1 c2,cs=c1++c2∧aP w D E xs c1∧aP w D E ys c2:=by
  intro xs
  induction xs with
  |nil=>intro ys cs hr;exact ⟨[],cs,rfl,by simp[aP],hr⟩
  |cons x xs ih =>
   intro ys cs hr;simp only[zz2,aP] at hr;obtain ⟨d1,d2,rfl,k1,k2⟩:=hr;obtain ⟨e1,e2,rfl,k3,k4⟩:=ih ys d2 k2;exact ⟨d1++e1,e2,by simp,by simp only[aP];exact ⟨d1,e1,rfl,k1,k3⟩,k4⟩
 have e1:es=es.take l++((es.take h).drop l++es.drop h):=by
  rw[←zz9]
  conv=>lhs;rw[←List.take_append_drop h es]
  congr 1
  rw[←List.aam l h es hl]
 rw[e1] at ab;obtain ⟨c1,c',rfl,k1,k2⟩:=hspl _ _ _ ab;obtain ⟨c2,c3,rfl,k3,k4⟩:=hspl _ _ _ k2;refine ⟨c2,?_,k3⟩;rw[←pN es l af (by omega),←aP.length _ _ k1];rw[←zz9] at U;exact vq U
 where
 List.aam {α:Type} (l h:Nat) (es:List α) (hl:l≤h):es.take h=es.take l++(es.take h).drop l:=by
  conv=>lhs;rw[←List.take_append_drop l (es.take h)]
  rw[List.take_take,Nat.min_eq_left hl]
def iU(w:World)(D:aU)(E:bf)(x:Option I)(v:Option Value):Prop:=match x,v with
 |none,none=>True
 |some x,some v=>bg w D E x v
 |_,_=>False
theorem Jw{x:I}{d n:Int}(h:jM (some x) d=some n):∃ k,x=.int k n:=by
 cases x <;>simp[jM] at h
 subst h;exact ⟨_,rfl⟩
theorem sL{w:World}{D:aU}{E:bf}{x:Option I}{v:Option Value}{d n:Int}(h:iU w D E x v)(hb:jM x d=some n) :
  (x=none∧v=none∧d=n)∨(x.isSome=true∧∃ k,v=some (.int k n)):=by
 cases x with
 |none =>
  cases v with
  |some _=>simp[iU] at h
  |none=>simp only[jM,v6] at hb;exact .inl ⟨rfl,rfl,hb⟩
 |some x =>
  cases v with
  |none=>simp[iU] at h
  |some v =>
   obtain ⟨k,rfl⟩:=Jw hb;simp only[iU] at h;exact .inr ⟨rfl,k,by rw[(eY h).1]⟩
theorem yV{P:Program}{w:World}{D:aU}{E:bf}{t e:TypeId}{i:TypeInfo}{sz:Nat}{es:List I}{lo hi mx:Option I}{vlo vhi vmx:Option Value}{x:I}{ad:Option Addr}{cap:Nat}
  (hu:P.underlying t=some (.slice e)) (hi':P.info? e=some i) (hsz:sz=P.cellsOf e) (hmh:mx.isSome=true→hi.isSome=true)
  (U:iU w D E lo vlo) (ab:iU w D E hi vhi) (af:iU w D E mx vmx) (hx:jD sz es lo hi mx=some x)
  (hcap:es.length≤cap) (hcm:cap≤maxLen) (hes:es=[]∨∃ b off cs,ad=some ⟨b,off,none⟩∧reads w D b off cs∧aP w D E es cs) (hall:∀ e∈es,e.size=sz) :
  ∃ v,(Instr.sliceAt t (.slice ad es.length cap) vlo vhi vmx).run P w=.ok v w∧bg w D E x v:=by
 unfold jD at hx;split at hx
 ·cases hx
 rename_i h hh;split at hx
 ·cases hx
 rename_i m hm;split at hx
 ·cases hx
 rename_i l hl;split at hx
 case isFalse=>cases hx
 rename_i hb;obtain ⟨b1,b2,b3,b4⟩:=hb;have sb:∀ (k:IntKind) (n:Int) (y:Nat) (code:BoundsCode),0≤n→n≤y→(Instr.sliceBound (.int k n) y code).run P w=.ok n.toNat w:=fun k n y code g1 g2=>by
  simp[Instr.sliceBound,asIntOf,g1,g2]
 -- the bounds that the program finds
 have key:∃ m':Nat,es.length≤cap∧m'≤cap∧h.toNat≤m'∧(mx.isSome=true→m'=m.toNat)∧(mx=none→m'=cap) ∧
   (Instr.sliceBounds true es.length cap vlo vhi vmx).run P w=.ok (l.toNat,h.toNat,m') w:=by
  have c1:=sL U hl;have c2:=sL ab hh;have c3:=sL af hm;clear U ab af;rcases c3 with ⟨rfl,rfl,hm3⟩ | ⟨s3,k3,rfl⟩
  ·refine ⟨cap,hcap,zz5 _,by omega,fun e=>(by cases e),fun _=>rfl,?_⟩;rcases c2 with ⟨rfl,rfl,hm2⟩ | ⟨s2,k2,rfl⟩ <;>rcases c1 with ⟨rfl,rfl,hm1⟩ | ⟨s1,k1,rfl⟩
   ·subst hm1 hm2;simp[Instr.sliceBounds]
   ·subst hm2;simp[Instr.sliceBounds,sb k1 l es.length _ b1 (by omega)]
   ·subst hm1;simp[Instr.sliceBounds,sb k2 h cap _ (by omega) (by omega)]
   ·simp[Instr.sliceBounds,sb k2 h cap _ (by omega) (by omega),sb k1 l h.toNat _ b1 (by omega)]
  ·refine ⟨m.toNat,hcap,by omega,by omega,fun _=>rfl,fun e=>(by rw[e] at s3;cases s3),?_⟩;rcases c2 with ⟨rfl,rfl,hm2⟩ | ⟨s2,k2,rfl⟩
   ·simp[s3] at hmh
   ·rcases c1 with ⟨rfl,rfl,hm1⟩ | ⟨s1,k1,rfl⟩
    ·subst hm1;simp[Instr.sliceBounds,sb k3 m cap _ (by omega) (by omega),sb k2 h m.toNat _ (by omega) (by omega)]
    ·simp[Instr.sliceBounds,sb k3 m cap _ (by omega) (by omega),sb k2 h m.toNat _ (by omega) (by omega),sb k1 l h.toNat _ b1 (by omega)]
 obtain ⟨m',g1,g2,g3,g4,g5,hsb⟩:=key;have hrun:(Instr.sliceAt t (.slice ad es.length cap) vlo vhi vmx).run P w =
   .ok (.slice (if m'=l.toNat then ad else ad.map (·.add (l.toNat*P.cellsOf e))) (h.toNat-l.toNat) (m'-l.toNat)) w:=by
  simp only[Instr.sliceAt,Instr.slice,Sem.run_bind,run_underlying hu,Result.andThen_ok,hsb,jm hi',Sem.run_pure]
 refine ⟨_,hrun,?_⟩;split at hx
 ·rename_i hc;simp only[v6] at hx;subst hx;have e1:m'=l.toNat:=by rw[g4 hc.1,hc.2]
  have e2:h.toNat-l.toNat=0:=by omega
  rw[if_pos e1,e2,e1,Nat.sub_self];exact ⟨_,by simp[bG,I.isAgg];rfl,by simp only[al];exact ⟨ad,rfl⟩⟩
 ·simp only[v6] at hx;subst hx;have hlen:((es.take h.toNat).drop l.toNat).length=h.toNat-l.toNat:=by simp;omega
  refine uT hlen.symm (by omega) (by omega) ?_ (fun y hy=>hall y (List.mem_of_mem_take (List.mem_of_mem_drop hy)));by_cases hz:h.toNat=l.toNat
  ·left;exact List.eq_nil_of_length_eq_zero (by omega)
  ·right
   rw[if_neg (by omega)];rcases hes with rfl | ⟨b,off,cs,rfl,q1,q2⟩
   ·simp at b4 g3;omega
   ·obtain ⟨c2,q3,q4⟩:=Y9 q1 q2 hall l.toNat h.toNat (by omega) (by omega);exact ⟨b,off+l.toNat*sz,c2,by simp[nL,hsz],q3,q4⟩
theorem xC{t e:TypeId}{y:Operand}{y':aR}{lo hi mx:Option Operand}{lo' hi' mx':Option aR}{i:TypeInfo}{es:List I}(ho:o.op=.slice t y lo hi mx)(hu:c.P.underlying t=some (.slice e))(hi0:c.P.info? e=some i)
  (hy:bB c.P 0 y=some y') (U:jb c.P lo=some lo') (ab:jb c.P hi=some hi') (af:jb c.P mx=some mx') (hmh:mx'.isSome=true→hi'.isSome=true)
  (h:ak A y'=.slice (c.P.cellsOf e) es∨(ak A y'=.nils (c.P.cellsOf e)∧es=[])∨(ak A y'=.c0 (c.P.cellsOf e)∧es=[])) (hx:jD (c.P.cellsOf e) es (lo'.map (ak A)) (hi'.map (ak A)) (mx'.map (ak A))=some x):dH c A o x :=
 .same fun a w D E hs=>by
  have opt:∀ {q:Option Operand} {q':Option aR},jb c.P q=some q'→iU w D E (q'.map (ak A)) (q.map a.eval):=by
   intro q q' hq;cases q with
   |none=>simp only[jb,v6] at hq;subst hq;simp[iU]
   |some z =>
    simp only[jb,t7] at hq;obtain ⟨z',hz,rfl⟩:=hq;simpa[iU] using bZ hs hz
  have aZ:=bZ hs hy;have hmh':(mx'.map (ak A)).isSome=true→(hi'.map (ak A)).isSome=true:=by simpa using hmh
  rcases h with h | ⟨h,rfl⟩ | ⟨h,rfl⟩
  ·rw[h] at aZ;obtain ⟨ad,cap,e1,e2,e3,e4,e5⟩:=ox aZ;obtain ⟨v,k1,k2⟩:=yV hu hi0 rfl hmh' (opt U) (opt ab) (opt af) hx e2 e3 e4 e5;exact ⟨v,by simp only[execOp,ho,e1,Sem.run_bind,k1];rfl,k2⟩
  ·rw[h] at aZ;obtain ⟨cs,q1,q2⟩:=aZ;simp only[al] at q2;have e1:a.eval y=.slice none ([]:List I).length 0:=by simpa[bG,I.isAgg,q2] using q1.symm
   obtain ⟨v,k1,k2⟩:=yV (ad:=none) (cap:=0) hu hi0 rfl hmh' (opt U) (opt ab) (opt af) hx (by simp) (by simp[maxLen]) (.inl rfl) (by simp);exact ⟨v,by simp only[execOp,ho,e1,Sem.run_bind,k1];rfl,k2⟩
  ·rw[h] at aZ;obtain ⟨cs,q1,q2⟩:=aZ;simp only[al] at q2;obtain ⟨ad,q2⟩:=q2;have e1:a.eval y=.slice ad ([]:List I).length 0:=by simpa[bG,I.isAgg,q2] using q1.symm
   obtain ⟨v,k1,k2⟩:=yV (ad:=ad) (cap:=0) hu hi0 rfl hmh' (opt U) (opt ab) (opt af) hx (by simp) (by simp[maxLen]) (.inl rfl) (by simp);exact ⟨v,by simp only[execOp,ho,e1,Sem.run_bind,k1];rfl,k2⟩
end
inductive fJ {α β:Type} (R:α→β→Prop):List α→List β→Prop where
 |nil:fJ R [] []
 |cons {x:α} {y:β} {xs:List α} {ys:List β} : R x y→fJ R xs ys→fJ R (x::xs) (y::ys)
section
variable {c:cX} {A:ai} {o:Oper} {x:I}
theorem Y8{w:World}{D:aU}{E:bf}{xs:List I}{cs ds:List Value}{i:Nat}{x y:I}(h:aP w D E xs cs)(hx:xs[i]?=some x)(hy:al w D E y ds)(hs:y.size=x.size) :
  I.sizes (xs.take i)+ds.length≤cs.length∧aP w D E (xs.set i y) (cs.take (I.sizes (xs.take i))++ds++cs.drop (I.sizes (xs.take i)+ds.length)):=by
 obtain ⟨c1,c2,c3,rfl,U,ab,af,aq⟩:=ng xs cs i x h hx;have hi:i<xs.length:=(zz8.1 hx).1;have hl:ds.length=c2.length:=by rw[al.length _ _ hy,al.length _ _ af,hs]
 refine ⟨by simp only[zz6,U];omega,?_⟩;have e1:xs.set i y=xs.take i++y::xs.drop (i+1):=by rw[List.set_eq_take_append_cons_drop];simp[hi]
 have e2:(c1++c2++c3).take (I.sizes (xs.take i))++ds++(c1++c2++c3).drop (I.sizes (xs.take i)+ds.length)=c1++(ds++c3):=by
  rw[←U,hl,zz9 c1 c2 c3,List.take_left,List.drop_length_add_append,List.drop_left,zz9]
 rw[e1,e2];refine kH _ _ _ _ ab ?_;simp only[aP];exact ⟨ds,c3,rfl,hy,aq⟩
theorem Ov(off:Nat)(l:List Value)(cs:Array Value)(h:off+l.length≤cs.size) :
  ((l.zipIdx 0).foldl (fun cs (x:Value×Nat)=>cs.setIfInBounds (off+x.2) x.1) cs).toList=cs.toList.take off++l++cs.toList.drop (off+l.length):=by
 obtain ⟨U,ab⟩:=Great.foldl_set off l 0 cs;apply List.ext_getElem?;intro k;rw[zw3,ab k];simp only[Nat.add_zero,zz9];by_cases hk:k<off
 ·rw[if_neg (by omega),zy6 (by simp;omega)];simp[hk]
 ·rw[zw5 (by simp;omega)];simp only[zx7,zw2,Nat.min_eq_left (show off≤cs.size by omega)];by_cases hk2:k<off+l.length
  ·rw[if_pos ⟨by omega,by omega,by omega⟩,zy6 (by omega)]
  ·rw[if_neg (by omega),zw5 (by omega)];simp only[List.getElem?_drop,zw3]
   congr 1
   omega
theorem xg{w:World}{D:aU}{E:bf}(pl:Nat→Option (Nat×Nat)):∀ (ps:List (Nat×I)) (vs:List (Nat×Value)) (zs zs':List I) (cells:Array Value),
  (∀ i z,zs[i]?=some z→pl i=some (I.sizes (zs.take i),z.size))→aP w D E zs cells.toList→dY zs ps=some zs' →
  fJ (fun (p:Nat×I) (v:Nat×Value)=>p.1=v.1∧bg w D E p.2 v.2) ps vs →
  ∃ cells',Instr.fill pl cells vs=some cells'∧aP w D E zs' cells'.toList
 | [],vs,zs,zs',cells,hp,hr,hs,hf=>by
  cases hf;simp only[dY,v6] at hs;subst hs;exact ⟨cells,rfl,hr⟩
 |(i,y)::ps,vs,zs,zs',cells,hp,hr,hs,hf=>by
  cases hf with
  |cons U ab =>
   rename_i v vs;obtain ⟨j,u⟩:=v;simp only at U;obtain ⟨rfl,hv⟩:=U;simp only[dY] at hs;split at hs
   ·rename_i z hz;split at hs
    ·rename_i hsz;obtain ⟨hval,hsz⟩:=hsz;obtain ⟨ds,k1,k2⟩:∃ ds,bG y u ds∧al w D E y ds:=by
      cases y <;>simp[I.bT] at hval <;>exact hv
     have hcells:=k1.cells k2;have hds:u.cells.size=z.size:=by rw[←zw2,hcells,al.length _ _ k2,hsz]
     obtain ⟨k3,k4⟩:=Y8 hr hz k2 hsz;have hcl:cells.toList.length=cells.size:=zw2;have hl:ds.length=u.cells.size:=by rw[←hcells,zw2]
     have hp':∀ k z',(zs.set i y)[k]?=some z'→pl k=some (I.sizes ((zs.set i y).take k),z'.size):=by
      intro k z' hk;have hil:i<zs.length:=(zz8.1 hz).1;have hsizes:∀ k,I.sizes ((zs.set i y).take k)=I.sizes (zs.take k):=by
       intro k;have gen:∀ (zs:List I) (i k:Nat) (z:I),zs[i]?=some z→z.size=y.size→I.sizes ((zs.set i y).take k)=I.sizes (zs.take k):=by
        intro zs
        induction zs with
        |nil=>intro i k z hz _;simp at hz
        |cons q qs ih =>
         intro i k z hz he;cases k with
         |zero=>simp
         |succ k =>
          cases i with
          |zero =>
           simp only[List.getElem?_cons_zero,v6] at hz;subst hz;simp[I.sizes,he]
          |succ i =>
           simp only[List.set_cons_succ,zw1,I.sizes,ih i k z (by simpa using hz) he]
       exact gen zs i k z hz hsz.symm
      rw[hsizes];rw[List.getElem?_set] at hk;split at hk
      ·rename_i hik;subst hik;simp only[v6] at hk;subst hk;rw[hp i z hz,hsz]
      ·exact hp k z' hk
     have hfold:=Ov (I.sizes (zs.take i)) u.cells.toList cells (by rw[hcells];omega);rw[hcells] at hfold;obtain ⟨cells',k5,k6⟩:=xg pl ps vs (zs.set i y) zs' ((u.cells.toList.zipIdx 0).foldl (fun cs (x:Value×Nat)=>cs.setIfInBounds (I.sizes (zs.take i)+x.2) x.1) cells) hp'
      (by rw[hcells,hfold];exact k4) hs ab
     refine ⟨cells',?_,k6⟩;unfold Instr.fill;simp only[hp i z hz];rw[if_neg (by simp[hds];omega)];rw[←k5]
     congr 1
     rw[←Array.foldl_toList,Array.toList_zipIdx]
    ·cases hs
   ·cases hs
theorem EO{a:Act}{w:World}{D:aU}{E:bf}(hs:aY c A a w D E){P:Program} : ∀ (ps:List (Nat×Operand)) (qs:List (Nat×aR)),lD P ps=some qs →
  fJ (fun (p:Nat×I) (v:Nat×Value)=>p.1=v.1∧bg w D E p.2 v.2) (qs.map fun p=>(p.1,ak A p.2)) (ps.map fun p=>(p.1,a.eval p.2))
 | [],qs,h=>by simp[lD] at h;subst h;exact .nil
 |(i,x)::ps,qs,h=>by
  simp only[lD,List.mapM_cons,Option.bind_eq_bind,Option.pure_def,zw8,t7,v6] at h;obtain ⟨_,⟨y,hy,rfl⟩,qs',hq,rfl⟩:=h;exact .cons ⟨rfl,bZ hs hy⟩ (EO hs ps qs' hq)
theorem Da{t:TypeId}{parts:Array (Nat×Operand)}{ps:List (Nat×aR)}{zs zs':List I}(ho:o.op=.build t parts)(hz:gC c.P t=some (.agg zs))(hp:lD c.P parts.toList=some ps)
  (hpl:(∃ fs,c.P.underlying t=some (.struct fs)∧(fs.toList.map fun f=>(f.offset,c.P.cellsOf f.type))=lV 0 zs∧(fs.all fun f=>(c.P.info? f.type).isSome)=true) ∨
   (∃ n e,c.P.underlying t=some (.array n e)∧zs.length=n∧(zs.all fun z=>z.size==c.P.cellsOf e)=true∧(c.P.info? e).isSome=true))
  (h:dY zs (ps.map fun p=>(p.1,ak A p.2))=some zs'):dH c A o (.agg zs') :=
 .same fun a w D E hs=>by
  obtain ⟨i,z,hi,hzv,hzr⟩:=mq hz;have hzr:=hzr w D E;simp only[al] at hzr;have hparts:=EO hs parts.toList ps hp;have hmap:(parts.map fun (q:Nat×Operand)=>(q.1,a.eval q.2)).toList=parts.toList.map fun p=>(p.1,a.eval p.2):=by simp
  rcases hpl with ⟨fs,hu,hoffs,hinfo⟩ | ⟨n,e,hu,hn,hev,hinfo⟩
  ·have hpl:∀ i z,zs[i]?=some z→(lV 0 zs)[i]?=some (I.sizes (zs.take i),z.size):=by
    intro i z hiz;rw[ER,hiz];simp
   obtain ⟨cells',k1,k2⟩:=xg ((lV 0 zs)[·]?) _ _ zs zs' z.cells hpl hzr h hparts;have hm:fs.toList.mapM (fun f=>(c.P.info? f.type).map fun i=>(f.offset,i.size))=some (lV 0 zs):=by
    rw[←hoffs];have hall:∀ f∈fs.toList,(c.P.info? f.type).isSome=true:=fun f hf=>by
     have:=(Array.all_eq_true_iff_forall_mem.1 hinfo) f (by simpa using hf);exact this
    revert hall;generalize fs.toList=l;intro hall
    induction l with
    |nil=>rfl
    |cons f l ih =>
     obtain ⟨j,hj⟩:=zx1.1 (hall f (by simp));simp only[List.mapM_cons,Option.bind_eq_bind,hj,zy2,Option.bind_some,ih (fun g hg=>hall g (by simp[hg])),Option.pure_def,zz4,Program.cellsOf,Option.getD_some]
   have hb:c.P.built t (parts.map fun (q:Nat×Operand)=>(q.1,a.eval q.2)).toList=some cells':=by
    unfold Program.built;simp only[hi,hu,hzv,hm];rw[hmap,←k1]
    congr 1
    funext k
    simp
   exact ⟨.agg cells',by simp only[execOp,ho,Sem.run_bind,run_build w t _ _ hb];rfl,by have:=Eg k2;simpa using this⟩
  ·obtain ⟨ie,hie⟩:=zx1.1 hinfo;have hev':∀ z∈zs,z.size=ie.size:=fun z hz=>by
    have:=zx2.1 hev z hz;simpa[Program.cellsOf,hie] using this
   have hpl:∀ i z,zs[i]?=some z→(fun i=>some (i*ie.size,ie.size)) i=some (I.sizes (zs.take i),z.size):=by
    intro i z hiz;have hl:i<zs.length:=(zz8.1 hiz).1;rw[pN zs i hev' (by omega),hev' z (List.mem_of_getElem? hiz)]
   obtain ⟨cells',k1,k2⟩:=xg (fun i=>some (i*ie.size,ie.size)) _ _ zs zs' z.cells hpl hzr h hparts;have hb:c.P.built t (parts.map fun (q:Nat×Operand)=>(q.1,a.eval q.2)).toList=some cells':=by
    unfold Program.built;simp only[hi,hu,hzv,hie];rw[hmap,←k1]
   exact ⟨.agg cells',by simp only[execOp,ho,Sem.run_bind,run_build w t _ _ hb];rfl,by have:=Eg k2;simpa using this⟩
theorem lB{a:Act}{w:World}{D:aU}{E:bf}(hs:aY c A a w D E){P:Program} : ∀ (xs:List Operand) (ts:List TypeId) (ys:List aR),kP P xs ts=some ys →
  fJ (bg w D E) (ys.map (ak A)) (xs.map a.eval)
 | [],_,ys,h=>by simp[kP] at h;subst h;exact .nil
 |x::xs,ts,ys,h=>by
  simp only[kP] at h;split at h
  ·rename_i y ys' U ab;simp only[v6] at h;subst h;exact .cons (bZ hs U) (lB hs xs _ ys' ab)
  ·cases h
theorem l6{w:World}{D:aU}{E:bf} : ∀ (xs:List I) (vs:List Value),fJ (bg w D E) xs vs→(∀ x∈xs,x.bT=true)→aG w D E xs vs
 | [],vs,h,_=>by cases h;simp[aG]
 |x::xs,vs,h,hv=>by
  cases h with
  |cons U ab =>
   rename_i v vs;have hx:=hv x (by simp);obtain ⟨cs,k1,k2⟩:∃ cs,bG x v cs∧al w D E x cs:=by
    cases x <;>simp[I.bT] at hx <;>exact U
   simp only[aG];exact ⟨v,vs,cs,rfl,k1,k2,l6 xs vs ab (fun y hy=>hv y (by simp[hy]))⟩
theorem rZ{aJ:Bool}{B:ai} : ∀ {xs ys:List I},bX aJ B xs=some ys→∀ x∈xs,x.bT=true
 | [],ys,_,x,hx=>by simp at hx
 |y::xs,ys,h,x,hx=>by
  simp only[bX] at h;split at h
  ·rename_i z zs U ab;rcases zw9.1 hx with rfl | hx
   ·cases x <;>simp_all[bn,I.bT]
   ·exact rZ ab x hx
  ·cases h
theorem Wp{f:FuncId}(hf:f<1000000){caps:Array Operand}{ys:List aR}(ho:o.op=.makeFunc (.func f) #[] caps)(hc:kP c.P caps.toList []=some ys)(hv:∀ y∈ys,(ak A y).bT=true):dH c A o (.func f (ys.map (ak A))) :=
 .same fun a w D E hs=>by
  have h:=l6 _ _ (lB hs caps.toList [] ys hc) (by simpa using hv);have e:caps.map a.eval=(caps.toList.map a.eval).toArray:=by apply Array.ext';simp
  refine ⟨.func (.func f) #[] (caps.toList.map a.eval).toArray,by simp[execOp,ho,Instr.makeFunc,e],⟨_,by simp[bG,I.isAgg];rfl,?_⟩⟩;simp only[al];exact ⟨_,by rw[nX hf],h⟩
theorem Wq{f:FuncId}{first:Array Operand}{ys:List aR}(ho:o.op=.makeFunc (.func f) first #[])(hc:kP c.P first.toList []=some ys)(hv:∀ y∈ys,(ak A y).bT=true):dH c A o (.func (f+1000000) (ys.map (ak A))) :=
 .same fun a w D E hs=>by
  have h:=l6 _ _ (lB hs first.toList [] ys hc) (by simpa using hv);have e:first.map a.eval=(first.toList.map a.eval).toArray:=by apply Array.ext';simp
  refine ⟨.func (.func f) (first.toList.map a.eval).toArray #[],by simp[execOp,ho,Instr.makeFunc,e],⟨_,by simp[bG,I.isAgg];rfl,?_⟩⟩;simp only[al];exact ⟨_,by rw[r1],h⟩
theorem GF{w:World}{D:aU}{E:bf} : ∀ (xs:List I) (vs:List Value),aG w D E xs vs→aP w D E xs (vs.flatMap fun v=>v.cells.toList)∧vs.length=xs.length∧∀ (sz:Nat),(∀ x∈xs,x.size=sz)→∀ v∈vs,v.cells.size=sz
 | [],vs,h=>by simp only[aG] at h;subst h;simp[aP]
 |x::xs,vs,h=>by
  simp only[aG] at h;obtain ⟨v,rest,cs,rfl,U,ab,af⟩:=h;obtain ⟨k1,k2,k3⟩:=GF xs rest af;have hc:=U.cells ab;refine ⟨?_,by simp[k2],fun sz hsz u hu =>?_⟩
  ·simp only[List.flatMap_cons,aP];exact ⟨_,_,rfl,by rw[hc];exact ab,k1⟩
  ·rcases zw9.1 hu with rfl | hu
   ·rw[←zw2,hc,al.length _ _ ab,hsz x (by simp)]
   ·exact k3 sz (fun y hy=>hsz y (by simp[hy])) u hu
def pJ(A:ai)(D:aU)(E:bf):aU:=fun b o=>D b o∨∃ n T sz es cap,A.o n=some (.bU T sz es)∧E n=some (.rw (some (b,cap)) es.length)∧o<es.length*sz
theorem aY.pM{a:Act}{w:World}{D:aU}{E:bf}(h:aY c A a w D E):aY c A a w (pJ A D E) E∧iI false A D E (pJ A D E):=by
 have hblk:∀ {n T sz es b cap},A.o n=some (.bU T sz es)→E n=some (.rw (some (b,cap)) es.length)→c.e9 b∧b<w.heap.size:=by
  intro n T sz es b cap hn ay;obtain ⟨aH,k1,k2,k3⟩:=h.bU hn;rw[ay] at k1;simp only[v6,bM.rw.injEq,and_true] at k1;subst k1;obtain ⟨cs,pre,rest,k4,k5,_⟩:=k3;exact ⟨k4,fS k5⟩
 refine ⟨h.Hd (fun _ _ ah=>.inl ah) ?_ ?_ ?_ ?_ ?_ ?_,⟨fun _ _ ah=>.inl ah,fun n T sz es b cap hn ay o ho=>.inr ⟨n,T,sz,es,cap,hn,ay,ho⟩,(fun hb=>by cases hb),fun hb=>by cases hb⟩⟩
 ·rintro b o (ah | ⟨n,T,sz,es,cap,hn,ay,ho⟩) hlt
  ·exact h.cZ _ _ ah hlt
  ·exact absurd (hblk hn ay).1 hlt
 ·rintro b o (ah | ⟨n,T,sz,es,cap,hn,ay,ho⟩)
  ·exact h.aQ _ _ ah
  ·exact (hblk hn ay).2
 ·rintro m x b hm hEm o (ah | ⟨n,T,sz,es,cap,hn,ay,ho⟩)
  ·obtain ⟨b2,cs2,tM,q1,q2,q3,q4,q5⟩:=h.box hm;rw[q1] at hEm;simp only[v6,bM.aJ.injEq,and_true] at hEm;subst hEm;exact q5 o ah
  ·have:=h.cO m n _ _ b hEm ay rfl rfl;subst this;rw[hm] at hn;cases hn
 ·rintro m T' sz' es' b cap' hm hEm o (ah | ⟨n,T,sz,es,cap,hn,ay,ho⟩)
  ·obtain ⟨aH,q1,q2,q3⟩:=h.bU hm;rw[hEm] at q1;simp only[v6,bM.rw.injEq,and_true] at q1;subst q1;obtain ⟨cs',pre',rest',q4,q5,q6,q7,q8,q9,q10,q11⟩:=q3;have:=q11 o ah
   rwa [aP.length _ _ q7,I.iZ _ q2] at this
  ·have:=h.cO m n _ _ b hEm ay rfl rfl;subst this;rw[hm] at hn;simp only[v6,ao.bU.injEq] at hn;obtain ⟨rfl,rfl,rfl⟩:=hn;exact ho
 ·rintro m T' xs b cap' hm hEm o (ah | ⟨n,T,sz,es,cap,hn,ay,ho⟩)
  ·obtain ⟨aH,q1,_,q3⟩:=h.tt hm;rw[hEm] at q1;simp only[v6,bM.rw.injEq,and_true] at q1;subst q1;obtain ⟨_,_,_,_,_,_,_,_,q4⟩:=q3;exact q4 o ah
  ·have:=h.cO m n _ _ b hEm ay rfl rfl;subst this;rw[hm] at hn;cases hn
 ·rintro m e' b hE' hoth hblk o (ah | ⟨n,T,sz,es,cap,hn,ay,ho⟩)
  ·exact h.yp hE' hoth hblk o ah
  ·have:=h.cO m n _ _ b hE' ay hblk rfl;subst this;rw[hE'] at ay;cases ay;cases hoth
theorem EP{a:Act}{w:World}{D:aU}{E:bf}(hs:aY c A a w D E){P:Program} : ∀ (ps:List (Nat×Operand)) (qs:List (Nat×aR)),lD P ps=some qs →
  fJ (bg w D E) ((qs.map (·.2)).map (ak A)) (ps.map fun p=>a.eval p.2)∧qs.map (·.1)=ps.map (·.1)
 | [],qs,h=>by simp[lD] at h;subst h;exact ⟨.nil,rfl⟩
 |(i,x)::ps,qs,h=>by
  simp only[lD,List.mapM_cons,Option.bind_eq_bind,Option.pure_def,zw8,t7,v6] at h;obtain ⟨_,⟨y,hy,rfl⟩,qs',hq,rfl⟩:=h;obtain ⟨U,ab⟩:=EP hs ps qs' hq;exact ⟨.cons (bZ hs hy) U,by simp[ab]⟩
theorem aY.newRow{a:Act}{w:World}{D:aU}{E:bf}(h:aY c A a w D E)(o:Obj):aY c A a (w.alloc o) (fun b k=>D b k∨b=w.heap.size) E:=by
 refine h.grow (rI w o) (fun _ _ ah=>.inl ah) ?_ ?_
 ·rintro b k (ah | rfl) hlt
  ·exact ah
  ·omega
 ·rintro b k (ah | rfl)
  ·have:=h.aQ _ _ ah;simp;omega
  ·simp
theorem aaK{α:Type}(ps:List (Nat×α))(h:ps.map (·.1)=List.range ps.length):ps=((ps.map (·.2)).zipIdx 0).map fun x=>(x.2,x.1):=by
 apply List.ext_getElem?;intro k;rw[zx4,List.getElem?_zipIdx,zx4];cases hk:ps[k]? with
 |none=>simp
 |some p =>
  have hl:k<ps.length:=(zz8.1 hk).1;have:=congrArg (·[k]?) h;simp only[zx4,hk,zy2,List.getElem?_range hl,v6] at this;simp[←this]
theorem V7{t e:TypeId}{len:Nat}{parts:Array (Nat×Operand)}{ps:List (Nat×aR)}{es:List I}(ho:o.op=.buildSlice t len parts)(hu:c.P.underlying t=some (.slice e))(hp:lD c.P parts.toList=some ps)
  (hr:ps.map (·.1)=List.range len) (aZ:0<c.P.cellsOf e) (hlen:0<len) (hsm:len*c.P.cellsOf e≤16777216) (hz:((c.P.info? e).bind (·.zero)).isSome=true)
  (hes:bX false A ((ps.map (·.2)).map (ak A))=some es) (hev:∀ x∈es,x.size=c.P.cellsOf e) (hcl:I.b9 es=true):dH c A o (.slice (c.P.cellsOf e) es):=by
 intro a w D E hs;obtain ⟨hfor,hidx⟩:=EP hs parts.toList ps hp;obtain ⟨hs1,hw⟩:=hs.pM;have hrv:=mJ (E':=E) hs (fun _ _ h=>h) hw _ es _ (l6 _ _ hfor (rZ hes)) hes;obtain ⟨k1,k2,k3⟩:=GF es _ hrv;have k3:=k3 _ hev;have hl:parts.toList.length=len:=by
  have:=congrArg List.length hidx;rw[hr] at this;simpa using this.symm
 have hesl:es.length=len:=by rw[←k2];simp[hl]
 obtain ⟨z,hz⟩:=zx1.1 hz;obtain ⟨ie,hie,hzz⟩:=zw8.1 hz;have hsz:ie.size=c.P.cellsOf e:=by simp[Program.cellsOf,hie]
 -- the literal's cells
 have hfill:Instr.fill (fun i=>some (i*ie.size,ie.size)) ((Array.range (len*ie.size)).map (z.cells[· % z.cells.size]!)) (parts.map fun (q:Nat×Operand)=>(q.1,a.eval q.2)).toList =
   some ((parts.toList.map fun p=>a.eval p.2).flatMap fun v=>v.cells.toList).toArray:=by
  have hpz:(parts.map fun (q:Nat×Operand)=>(q.1,a.eval q.2)).toList=((parts.toList.map fun p=>a.eval p.2).zipIdx 0).map fun x=>(x.2,x.1):=by
   have:=aaK (parts.toList.map fun (q:Nat×Operand)=>(q.1,a.eval q.2)) (by simp only[List.map_map,zz7];rw[hl,←hr,hidx];rfl);rw[Array.toList_map,this,List.map_map];rfl
  rw[hpz,hsz];exact Great.fill_whole aZ _ _ (fun v hv=>k3 v hv) (by simp[hl])
 have hrun:=run_buildSlice (P:=c.P) w t e len (parts.map fun (q:Nat×Operand)=>(q.1,a.eval q.2)) _ ie z hu hie hzz (by rw[hsz];omega) (by rw[hsz];exact Nat.ne_of_gt (Nat.mul_pos hlen aZ)) hfill;generalize hcells:((parts.toList.map fun p=>a.eval p.2).flatMap fun v=>v.cells.toList)=cells at *;have hs2:=hs1.newRow (.cells cells.toArray e);refine ⟨_,_,_,by simp only[execOp,ho,Sem.run_bind];rw[hrun];rfl,hs2,uT hesl.symm (zz5 _) ?_ (.inr ⟨w.heap.size,0,cells,rfl,?_,?_⟩) hev⟩
 ·unfold maxLen;have:len≤len*c.P.cellsOf e:=Nat.le_mul_of_pos_right _ aZ;omega
 ·intro j v hj;refine ⟨?_,.inr rfl⟩;rw[zz1];have:=World.cell?_alloc_new w cells.toArray e j;rw[this];simpa using hj
 ·refine aP.later ?_ es cells k1;exact dU.grow (rI w _) (fun _ _ ah=>.inl ah)
end
mutual
theorem qv:∀ (ty:cD) (x y:I) (r:Bool),b7 ty x y=some r→x.size=ty.size∧y.size=ty.size
 | .i k,x,y,r,h=>by
  simp only[b7] at h;split at h
  ·simp[I.size,cD.size]
  ·cases h
 | .b,x,y,r,h=>by
  simp only[b7] at h;split at h
  ·simp[I.size,cD.size]
  ·cases h
 | .s,x,y,r,h=>by
  simp only[b7] at h;split at h
  ·simp[I.size,cD.size]
  ·cases h
 | .bl l,x,y,r,h=>by
  simp only[b7] at h;split at h
  ·simp only[I.size,cD.size];exact Ca l _ _ r h
  ·cases h
 | .rH n e,x,y,r,h=>by
  simp only[b7] at h;split at h
  ·rename_i fs gs;split at h
   ·rename_i hl;simp only[I.size,cD.size];have:∀ (fs gs:List I) (r:Bool),fs.length=gs.length→(fs.zip gs).foldr (fun p acc=>jK (b7 e p.1 p.2) acc) (some true)=some r→I.sizes fs=fs.length*e.size∧I.sizes gs=fs.length*e.size:=by
     intro fs
     induction fs with
     |nil=>intro gs r hl _;cases gs with | nil=>simp[I.sizes] | cons _ _=>simp at hl
     |cons f fs ih =>
      intro gs r hl h;cases gs with
      |nil=>simp at hl
      |cons g gs =>
       simp only[List.zip_cons_cons,List.foldr_cons] at h;unfold jK at h;split at h
       ·rename_i a b U ab;obtain ⟨k1,k2⟩:=ih gs b (by simpa using hl) ab;obtain ⟨k3,k4⟩:=qv e f g a U;simp only[I.sizes,zv1,k1,k2,k3,k4,Nat.add_mul,Nat.one_mul];omega
       ·cases h
    obtain ⟨k1,k2⟩:=this fs gs r (by omega) h;rw[k1,k2,hl.1];exact ⟨rfl,rfl⟩
   ·cases h
  ·cases h
theorem Ca:∀ (l:List cD) (xs ys:List I) (r:Bool),iK l xs ys=some r→I.sizes xs=cD.sizes l∧I.sizes ys=cD.sizes l
 | [],xs,ys,r,h=>by
  simp only[iK] at h;split at h
  ·simp[I.sizes,cD.sizes]
  ·cases h
 |t::ts,xs,ys,r,h=>by
  simp only[iK] at h;split at h
  ·rename_i f fs g gs;unfold jK at h;split at h
   ·rename_i a b U ab;obtain ⟨k1,k2⟩:=qv t f g a U;obtain ⟨k3,k4⟩:=Ca ts fs gs b ab;simp only[I.sizes,cD.sizes,k1,k2,k3,k4];exact ⟨trivial,trivial⟩
   ·cases h
  ·cases h
end
section
variable {P:Program} {w:World} {D:aU} {E:bf}
theorem wV{d:Nat}{t:TypeId}{ty:cD}(h:hd P d t=some ty)(hs:ty.size=P.cellsOf t){x y:I}{r:Bool}(hr:b7 ty x y=some r):∃ s,fY P t=some s∧b8 s x=true∧b8 s y=true:=by
 have hsz:=qv ty x y r hr;cases d with
 |zero=>simp[hd] at h
 |succ d =>
  simp only[hd] at h;split at h
  ·rename_i k hu;simp only[v6] at h;subst h;simp only[b7] at hr;split at hr
   ·exact ⟨none,by simp[fY,hu],by simp[b8,I.isAgg],by simp[b8,I.isAgg]⟩
   ·cases hr
  ·rename_i hu;simp only[v6] at h;subst h;simp only[b7] at hr;split at hr
   ·exact ⟨none,by simp[fY,hu],by simp[b8,I.isAgg],by simp[b8,I.isAgg]⟩
   ·cases hr
  ·rename_i hu;simp only[v6] at h;subst h;simp only[b7] at hr;split at hr
   ·exact ⟨none,by simp[fY,hu],by simp[b8,I.isAgg],by simp[b8,I.isAgg]⟩
   ·cases hr
  ·rename_i fs hu;split at h
   ·simp only[t7] at h;obtain ⟨l,_,rfl⟩:=h;simp only[b7] at hr;split at hr
    ·exact ⟨some (P.cellsOf t),by simp[fY,hu],by simp[b8,I.isAgg,hsz.1,hs],by simp[b8,I.isAgg,hsz.2,hs]⟩
    ·cases hr
   ·cases h
  ·rename_i n e hu;split at h
   ·split at h
    ·simp only[v6] at h;subst h;simp only[b7] at hr;split at hr
     ·exact ⟨some (P.cellsOf t),by simp[fY,hu],by simp[b8,I.isAgg,hsz.1,hs],by simp[b8,I.isAgg,hsz.2,hs]⟩
     ·cases hr
    ·cases h
   ·cases h
  ·cases h
theorem Cc{k:Nat}{g:Field→Option cD}(hg:∀ (f:Field) (ty:cD),g f=some ty→ty.size=P.cellsOf f.type∧∃ d,hd P d f.type=some ty ∧
   ∀ (x y:I) (u v:Value) (r:Bool),bg w D E x u→bg w D E y v→b7 ty x y=some r→(Op.equalIn k f.type u v).run P w=.ok r w) :
  ∀ (fs : List Field) (l : List cD) (xs ys : List I) (r : Bool) (c1 c2 d1 d2 : List Value), fs.mapM g = some l → (∀ f ∈ fs, f.name ≠ "_") → qS P c1.length fs = true → c1.length = d1.length →
   aP w D E xs c2→aP w D E ys d2→iK l xs ys=some r→(Op.eqFields k (c1++c2).toArray (d1++d2).toArray fs).run P w=.ok r w
 | [],l,xs,ys,r,c1,c2,d1,d2,hm,_,_,_,_,_,h=>by
  simp at hm;subst hm;simp only[iK] at h;split at h
  ·simp only[v6] at h;subst h;simp[Op.eqFields]
  ·cases h
 |f::fs,l,xs,ys,r,c1,c2,d1,d2,hm,hn,ho,hl,hx,hy,h=>by
  simp only[List.mapM_cons,Option.bind_eq_bind,Option.pure_def,zw8,v6] at hm;obtain ⟨ty,hty,tys,htys,rfl⟩:=hm;simp only[iK] at h;split at h
  case h_2=>cases h
  rename_i x xs y ys;unfold jK at h;split at h
  case h_2=>cases h
  rename_i ra rb U ab;simp only[v6] at h;subst h;simp only[aP] at hx hy;obtain ⟨e1,e2,rfl,k1,k2⟩:=hx;obtain ⟨f1,f2,rfl,k3,k4⟩:=hy;obtain ⟨hsz,dd,ah,heq⟩:=hg f ty hty;obtain ⟨s,q1,q2,q3⟩:=wV ah hsz U;obtain ⟨u,p1,p2⟩:=pK (c1:=c1) (c3:=e2) q1 q2 k1;obtain ⟨v,p3,p4⟩:=pK (c1:=d1) (c3:=f2) q1 q3 k3;simp only[qS,t8,beq_iff_eq] at ho;have hsx:=qv ty x y ra U;have hle:e1.length=P.cellsOf f.type:=by rw[al.length _ _ k1,hsx.1,hsz]
  have hlf:f1.length=P.cellsOf f.type:=by rw[al.length _ _ k3,hsx.2,hsz]
  have ih:=Cc hg fs tys xs ys rb (c1++e1) e2 (d1++f1) f2 htys (fun g hg=>hn g (by simp[hg])) (by simp only[zz6,hle];exact ho.2) (by simp[hl,hle,hlf]) k2 k4 ab;rw[zz9] at p1 p3;rw[zz9,zz9] at ih;rw[←ho.1] at p1;rw[←hl,←ho.1] at p3;simp only[Op.eqFields,hn f (by simp),ne_eq,not_false_eq_true,if_true,Sem.run_bind,p1,Result.andThen_ok,p3,heq x y u v ra p2 p4 U];cases ra
  ·simp
  ·simpa using ih
theorem Cd{d:Nat}{e:TypeId}{ty:cD}{dd:Nat}(hty:hd P dd e=some ty)(hsz:ty.size=P.cellsOf e)
  (heq:∀ (x y:I) (u v:Value) (r:Bool),bg w D E x u→bg w D E y v→b7 ty x y=some r→(Op.equalIn d e u v).run P w=.ok r w) :
  ∀ (m k:Nat) (xs ys:List I) (c1 c2 d1 d2:List Value) (r:Bool),xs.length=m→ys.length=m→c1.length=k*P.cellsOf e→d1.length=k*P.cellsOf e→aP w D E xs c2→aP w D E ys d2 →
   (xs.zip ys).foldr (fun p acc=>jK (b7 ty p.1 p.2) acc) (some true)=some r→(Op.eqItems d e (P.cellsOf e) (c1++c2).toArray (d1++d2).toArray (List.range' k m)).run P w=.ok r w
 |0,k,xs,ys,c1,c2,d1,d2,r,hx,hy,_,_,_,_,h=>by
  have e1:=List.eq_nil_of_length_eq_zero hx;subst e1;simp only[List.zip_nil_left,List.foldr_nil,v6] at h;subst h;simp[Op.eqItems]
 |m+1,k,xs,ys,c1,c2,d1,d2,r,hx,hy,hc,ah,hrx,hry,h=>by
  cases xs with
  |nil=>simp at hx
  |cons x xs =>
  cases ys with
  |nil=>simp at hy
  |cons y ys =>
  simp only[List.zip_cons_cons,List.foldr_cons] at h;unfold jK at h;split at h
  case h_2=>cases h
  rename_i ra rb U ab;simp only[v6] at h;subst h;simp only[aP] at hrx hry;obtain ⟨e1,e2,rfl,k1,k2⟩:=hrx;obtain ⟨f1,f2,rfl,k3,k4⟩:=hry;obtain ⟨s,q1,q2,q3⟩:=wV hty hsz U;obtain ⟨u,p1,p2⟩:=pK (c1:=c1) (c3:=e2) q1 q2 k1;obtain ⟨v,p3,p4⟩:=pK (c1:=d1) (c3:=f2) q1 q3 k3;have hsx:=qv ty x y ra U;have hle:e1.length=P.cellsOf e:=by rw[al.length _ _ k1,hsx.1,hsz]
  have hlf:f1.length=P.cellsOf e:=by rw[al.length _ _ k3,hsx.2,hsz]
  have ih:=Cd hty hsz heq m (k+1) xs ys (c1++e1) e2 (d1++f1) f2 rb (by simpa using hx) (by simpa using hy) (by simp only[zz6,hle,hc,Nat.add_mul,Nat.one_mul]) (by simp only[zz6,hlf,ah,Nat.add_mul,Nat.one_mul]) k2 k4 ab;rw[zz9] at p1 p3;rw[zz9,zz9] at ih;rw[hc] at p1;rw[ah] at p3;simp only[List.range'_succ,Op.eqItems,Sem.run_bind,p1,Result.andThen_ok,p3,heq x y u v ra p2 p4 U];cases ra
  ·simp
  ·simpa using ih
theorem uf:∀ (d:Nat) (t:TypeId) (ty:cD),hd P d t=some ty→∀ (x y:I) (u v:Value) (r:Bool),bg w D E x u→bg w D E y v→b7 ty x y=some r→∀ dep,d≤dep→(Op.equalIn dep t u v).run P w=.ok r w
 |0,t,ty,h,_,_,_,_,_,_,_,_,_,_=>by simp[hd] at h
 |d+1,t,ty,h,x,y,u,v,r,hx,hy,hr,dep,hdep=>by
  obtain ⟨k,rfl⟩:∃ k,dep=k+1:=⟨dep-1,by omega⟩
  simp only[hd] at h;split at h
  ·rename_i kk hu;simp only[v6] at h;subst h;simp only[b7] at hr;split at hr
   ·split at hr
    ·simp only[v6] at hr;subst hr;rw[(eY hx).1,(eY hy).1];rename_i hk;rw[hk.1,hk.2];exact run_equalIn_int w k t kk kk _ _ hu
    ·cases hr
   ·cases hr
  ·rename_i hu;simp only[v6] at h;subst h;simp only[b7] at hr;split at hr
   ·simp only[v6] at hr;subst hr;rw[lg hx,lg hy];exact run_equalIn_bool' w k t _ _ hu
   ·cases hr
  ·rename_i hu;simp only[v6] at h;subst h;simp only[b7] at hr;split at hr
   ·simp only[v6] at hr;subst hr;rw[(oy hx).1,(oy hy).1];exact run_equalIn_string w k t _ _ hu
   ·cases hr
  ·rename_i fs hu;split at h
   ·rename_i hc;simp only[t7] at h;obtain ⟨l,hl,rfl⟩:=h;simp only[b7] at hr;split at hr
    ·obtain ⟨cs,rfl,U⟩:=jC hx;obtain ⟨ds,rfl,ab⟩:=jC hy;have hf:P.fieldsOf t=fs:=by simp[Program.fieldsOf,hu]
     rw[run_equalIn_struct w k t _ _ (by rw[hf];exact hu) hc.1,hf];refine Cc (g:=fun f=>match hd P d f.type with | some ty=>if ty.size=P.cellsOf f.type then some ty else none | none=>none) (fun f ty hg =>?_) fs.toList l _ _ r [] cs [] ds hl (fun f hf =>?_) hc.2.2 rfl U ab hr
     ·split at hg
      ·rename_i ty' hty;split at hg
       ·rename_i hs;simp only[v6] at hg;subst hg;exact ⟨hs,d,hty,fun x y u v r hx hy hr=>uf d f.type _ hty x y u v r hx hy hr k (by omega)⟩
       ·cases hg
      ·cases hg
     ·have:=zx2.1 hc.2.1 f hf;simpa using this
    ·cases hr
   ·cases h
  ·rename_i n e hu;split at h
   ·rename_i ty' hty;split at h
    ·rename_i hc;simp only[v6] at h;subst h;simp only[b7] at hr;split at hr
     ·split at hr
      ·rename_i hl;obtain ⟨cs,rfl,U⟩:=jC hx;obtain ⟨ds,rfl,ab⟩:=jC hy;obtain ⟨i,hi⟩:=zx1.1 hc.2;rw[run_equalIn_array w k _ _ hu hi,List.range_eq_range'];exact Cd hty hc.1 (fun x y u v r hx hy hr=>uf d e _ hty x y u v r hx hy hr k (by omega)) n 0 _ _ [] cs [] ds r hl.1 hl.2 (by simp) (by simp) U ab hr
      ·cases hr
     ·cases hr
    ·cases h
   ·cases h
  ·cases h
end
section
variable {c:cX} {A:ai} {o:Oper} {x:I}
theorem ZG{P:Program}{w:World}{D:aU}{E:bf}(op:BinOp)(t:TypeId)(x y:Operand){a b:I}{ty:cD}{r:Bool}{u v:Value}(hr:b7 ty a b=some r)(hx:bg w D E a u)(hm:P.eqGuardType P.depth t=false) :
  (eqGuard op t x y u v).run P w=.ok () w:=by
 have:u.oneCell'=true∧u≠.nilIface∨∃ cs,u=.agg cs:=by
  cases ty <;>simp only[b7] at hr <;>split at hr <;>first
   |(cases hr;done)
   |(left;rw[(eY hx).1];exact ⟨rfl,by simp⟩)
   |(left;rw[lg hx];exact ⟨rfl,by simp⟩)
   |(left;rw[(oy hx).1];exact ⟨rfl,by simp⟩)
   |(right;obtain ⟨cs,h,_⟩:=jC hx;exact ⟨_,h⟩)
 rcases this with ⟨U,ab⟩ | ⟨cs,rfl⟩
 ·exact yT op t x y U ab
 ·cases op <;>cases v <;>simp[eqGuard,run_program,hm]
theorem I8{P:Program}{w:World}{D:aU}{E:bf}{neg:Bool}{t:TypeId}{a b:I}{ty:cD}{r:Bool}{u v:Value}(hr:b7 ty a b=some r)(hx:bg w D E a u)(hy:bg w D E b v){dt:Nat}(hdt:dt≤10000)(hty:hd P dt t=some ty) :
  (binOp (if neg then .neq else .eql) t u v).run P w=.ok (.bool (if neg then !r else r)) w:=by
 have he:=uf (w:=w) (D:=D) (E:=E) dt t ty hty a b u v r hx hy hr 10000 hdt;cases ty <;>simp only[b7] at hr <;>split at hr <;>first | (cases hr;done) | skip
 ·rw[(eY hx).1,(eY hy).1] at *;split at hr
  ·rename_i hk;simp only[v6] at hr;subst hr;rw[hk.1,hk.2];cases neg <;>simp[binOp,Op.intCmp,bne]
  ·cases hr
 ·have e1:=lg hx;have e2:=lg hy;subst e1 e2;cases neg <;>simp only[binOp,if_true,zz3,if_false] <;>simp[Op.equal,Op.maxDepth,he]
 ·rw[(oy hx).1,(oy hy).1] at *;simp only[v6] at hr;subst hr;cases neg <;>simp[binOp,Op.stringOp]
 ·obtain ⟨cs,rfl,_⟩:=jC hx;obtain ⟨ds,rfl,_⟩:=jC hy;cases neg <;>simp only[if_true,zz3,if_false]
  ·rw[run_eql_struct,he];rfl
  ·rw[run_neq_struct,he];rfl
 ·obtain ⟨cs,rfl,_⟩:=jC hx;obtain ⟨ds,rfl,_⟩:=jC hy;cases neg <;>simp only[if_true,zz3,if_false]
  ·rw[run_eql_struct,he];rfl
  ·rw[run_neq_struct,he];rfl
theorem Wc{neg:Bool}{t yt:TypeId}{y z:Operand}{y' z':aR}{ty:cD}{r:Bool}(ho:o.op=.binOp (if neg then .neq else .eql) t y z yt)(hy:bB c.P 0 y=some y')(hz:bB c.P 0 z=some z')(hg:c.P.eqGuardType c.P.depth t=false)
  (hty:hd c.P 12 t=some ty) (h:b7 ty (ak A y') (ak A z')=some r):dH c A o (.bool (if neg then !r else r)) :=
 .same fun a w D E hs=>by
  have U:=bZ hs hy;have ab:=bZ hs hz;refine ⟨_,?_,ph _⟩;simp only[execOp,ho,Sem.run_bind,ZG _ t y z h U hg,Result.andThen_ok,I8 h U ab (dt:=12) (by omega) hty];rfl
theorem xB{neg:Bool}{t yt e:TypeId}{y z:Operand}{y':aR}{sz:Nat}{r:Bool}(ho:o.op=.binOp (if neg then .neq else .eql) t y z yt)(hu:c.P.underlying t=some (.slice e))(hy:bB c.P 0 y=some y')(hz:bB c.P 0 z=some (.c (.nils sz)))
  (h:(∃ s,ak A y'=.nils s∧r=true)∨(∃ s es,ak A y'=.slice s es∧es≠[]∧r=false)∨(∃ n p s lo k,ak A y'=.view n p s lo k∧r=false)):dH c A o (.bool (if neg then !r else r)) :=
 .same fun a w D E hs=>by
  have U:=bZ hs hy;have ab:bg w D E (.nils sz) (a.eval z):=bZ hs hz;have hv:a.eval z=.slice none 0 0:=by
   obtain ⟨cs,q1,q2⟩:=ab;simp only[al] at q2;simpa[bG,I.isAgg,q2] using q1.symm
  have hu':(∃ ad n cp,a.eval y=.slice ad n cp∧r=ad.isNone):=by
   rcases h with ⟨s,h,rfl⟩ | ⟨s,es,h,hne,rfl⟩ | ⟨n,p,s,lo,k,h,rfl⟩
   ·rw[h] at U;obtain ⟨cs,q1,q2⟩:=U;simp only[al] at q2;exact ⟨none,0,0,by simpa[bG,I.isAgg,q2] using q1.symm,rfl⟩
   ·rw[h] at U;obtain ⟨ad,cap,e1,_,_,e4,_⟩:=ox U;rcases e4 with e4 | ⟨b,off,cs,rfl,_,_⟩
    ·exact absurd e4 hne
    ·exact ⟨_,_,_,e1,rfl⟩
   ·rw[h] at U;obtain ⟨cs,q1,q2⟩:=U;simp only[al] at q2;obtain ⟨b,bd,off,l,_,_,_,q2,_⟩:=q2;exact ⟨_,_,_,by simpa[bG,I.isAgg,q2] using q1.symm,rfl⟩
  obtain ⟨ad,n,cp,hyv,rfl⟩:=hu';have he:∀ d,(Op.equalIn (d+1) t (.slice ad n cp) (.slice none 0 0)).run c.P w=.ok ad.isNone w:=fun d=>by
   cases ad <;>simp[Op.equalIn,run_underlying hu]
  refine ⟨.bool (if neg then !ad.isNone else ad.isNone),?_,ph _⟩;cases neg <;>simp only[execOp,ho,hyv,hv,if_true,zz3,if_false,Sem.run_bind,eqGuard] <;>simp[binOp,Op.equal,Op.maxDepth,he]
end
def iH(c:cX)(A:ai)(o:Oper)(B:ai):Prop :=
 ∀ a w D E,aY c A a w D E→∃ w',((∃ v,(execOp a.eval o).run c.P w=.ok (.value v) w'∧b5 c B (a.put o.dst v) w')∨((execOp a.eval o).run c.P w=.ok .skip w'∧b5 c B (a.put o.dst undef) w'))
section
variable {c:cX} {A:ai} {o:Oper} {x:I}
theorem dH.does(h:dH c A o x)(ah:∀ k,o.dst=some k→k<c.n):iH c A o (A.aX o.dst x):=by
 intro a w D E hs;obtain ⟨v,w',D',U,ab,af⟩:=h a w D E hs;exact ⟨w',.inl ⟨v,U,D',E,ab.aX ah af⟩⟩
theorem Nl{t:TypeId}{z:I}{d:Nat}(ho:o.op=.alloc t)(hz:gC c.P t=some z)(ah:o.dst=some d)(hn:d<c.n)(hf:A.o d=none):iH c A o ((A.aV d (.box z)).put d (.ptr d [])):=by
 intro a w D E hs;obtain ⟨i,zv,hi,hzv,hzr⟩:=mq hz;have U:=hs.sD (T:=t) (.inl hn) hf (hzr w D E);have ab:=U.put (x:=.ptr d []) (v:=.pointer (some ⟨w.heap.size,0,none⟩)) hn ⟨_,by simp[bG,I.isAgg];rfl,by
  simp only[al,if_true];exact ⟨w.heap.size,z.bd,0,rfl,by cases z.bd <;>simp[cS.off],rfl⟩⟩
 exact ⟨w.alloc (.cells zv.cells t),.inl ⟨.pointer (some ⟨w.heap.size,0,none⟩),by simp[execOp,ho,Instr.alloc,zeroValue,typeInfo,hi,hzv,newVar,newRow],D,_,by rw[ah];exact ab⟩⟩
theorem Ns{t:TypeId}{y:Operand}{y':aR}{d:Nat}(ho:o.op=.box t y)(hy:bB c.P t y=some y')(hv:(ak A y').bT=true)(ah:o.dst=some d)(hn:d<c.n)(hf:A.o d=none) :
  iH c A o ((A.aV d (.box (ak A y'))).put d (.ptr d [])):=by
 intro a w D E hs;obtain ⟨cs,k1,k2⟩:∃ cs,bG (ak A y') (a.eval y) cs∧al w D E (ak A y') cs:=by
  have h:=bZ hs hy;generalize ak A y'=z at *;cases z <;>simp[I.bT] at hv <;>exact h
 have hc:=k1.cells k2;rw[←hc] at k2;have U:=hs.sD (T:=t) (.inl hn) hf k2;have ab:=U.put (x:=.ptr d []) (v:=.pointer (some ⟨w.heap.size,0,none⟩)) hn ⟨_,by simp[bG,I.isAgg];rfl,by
  simp only[al,if_true];exact ⟨w.heap.size,(ak A y').bd,0,rfl,by cases (ak A y').bd <;>simp[cS.off],rfl⟩⟩
 exact ⟨w.alloc (.cells (a.eval y).cells t),.inl ⟨.pointer (some ⟨w.heap.size,0,none⟩),by simp[execOp,ho,Instr.box,newVar,newRow],D,_,by rw[ah];exact ab⟩⟩
theorem Nz{t:TypeId}{y z:Operand}{y' z':aR}{s:Option Nat}{n:Nat}{p:List Nat}{b old:I}(ho:o.op=.store t y z)(hk:fY c.P t=some s)(hk1:s.isSome=true∨c.P.cellsOf t=1)(hy:bB c.P 0 y=some y')(hz:bB c.P t z=some z')
  (hp:ak A y'=.ptr n p) (hb:A.o n=some (.box b)) (hat:b.at p=some old) (hv:(ak A z').bT=true) (hok:b8 s (ak A z')=true) (hsh:(ak A z').bd=old.bd) (ah:o.dst=none) :
  iH c A o (A.aV n (.box (b.eA p (ak A z')))):=by
 intro a w D E hs;have U:=bZ hs hy;rw[hp] at U;obtain ⟨bb,bd,off,ab,af,aq⟩:=l5 U;obtain ⟨b',cs,T,k1,k2,k3,k4,k5⟩:=hs.box hb;rw[k1] at ab;simp only[v6,bM.aJ.injEq] at ab;obtain ⟨rfl,rfl⟩:=ab;obtain ⟨ds,q1,q2⟩:∃ ds,bG (ak A z') (a.eval z) ds∧al w D E (ak A z') ds:=by
  have h:=bZ hs hz;generalize ak A z'=zz at *;cases zz <;>simp[I.bT] at hv <;>exact h
 have hc:=q1.cells q2;obtain ⟨off',p1,p2,p3,p4⟩:=vk p b old _ _ ds k4 hat q2 hsh;rw[af,v6] at p1;subst p1;have hl:=al.length _ _ q2;obtain ⟨i,hi⟩:=uH hk;have hsz:ds.length=c.P.cellsOf t:=by
  cases s with
  |none =>
   simp only[b8,Bool.not_eq_true'] at hok;have:(ak A z').size=1:=by generalize ak A z'=zz at *;cases zz <;>simp_all[I.isAgg,I.size]
   rw[hl,this];rcases hk1 with h | h
   ·cases h
   ·exact h.symm
  |some m =>
   simp only[b8,t8,beq_iff_eq] at hok;rw[hl,hok.2,xR hk]
 have hcs:(a.eval z).cells.size=ds.length:=by rw[←hc,zw2]
 have hrun:=run_storeCells_at c.P b' off T ds 0 cs w k3 (by rw[zw2] at p2;omega) (al.mY _ _ q2);simp only[Nat.add_zero] at hrun;have hs2:=hs.y7 (y:=b.eA p (ak A z')) (cs':=(cs.toList.take off++ds++cs.toList.drop (off+ds.length)).toArray) hb k1 p4 (by simpa using p3);refine ⟨w.setRow b' (cs.toList.take off++ds++cs.toList.drop (off+ds.length)).toArray,.inr ⟨?_,D,E,?_⟩⟩
 ·have e:(a.eval z).cells.toList=ds:=hc;have hg:¬ (a.eval z).cells.size≠c.P.cellsOf t:=by rw[hcs,hsz];simp
  simp only[execOp,ho,aq,Instr.storeAt,Instr.sureAddr,storeVar,Sem.run_bind,Sem.run_pure,Result.andThen_ok,jm hi,Sem.run_ite,if_neg hg,e,hrun]
 ·rw[ah];exact hs2
end
section
variable {c:cX} {A:ai} {a:Act} {w:World} {D:aU} {E:bf}
theorem aY.CC(h:aY c A a w D E){n:Nat}{T:TypeId}{sz cap:Nat}{es ys:List I}{pre news rest:List Value}{cs:Array Value}{aH:Option (Nat×Nat)}(hn:A.o n=some (.bU T sz es))(ay:E n=some (.rw aH es.length))(hes:aP w D E es pre)
  (hys:aP w D E ys news) (hysz:∀ e∈ys,e.size=sz) (hne:ys≠[]) (hcs:cs.toList=(pre++news)++rest) (hsize:cs.size=cap*sz) (hlen:es.length+ys.length≤cap) (hcap:cap≤maxLen) :
  aY c (A.aV n (.bU T sz (es++ys))) a (w.drew.alloc (.cells cs T)) D (fun m=>if m=n then some (.rw (some (w.heap.size,cap)) (es.length+ys.length)) else E m):=by
 have hlast:0<ys.length:=List.length_pos_iff.2 hne;have hheap:∀ b,b<w.heap.size→(w.drew.alloc (.cells cs T)).heap[b]?=w.heap[b]?:=fun b hb=>Below.heap_alloc w.drew _ b hb;have hl:dU w D E (w.drew.alloc (.cells cs T)) D (fun m=>if m=n then some (.rw (some (w.heap.size,cap)) (es.length+ys.length)) else E m):=by
  have eP:∀ {m:Nat} {e:bM},E m=some e→e.eg=true→(if m=n then some (.rw (some (w.heap.size,cap)) (es.length+ys.length)) else E m)=some e:=fun {m e} he hfx=>by
   have:m≠n:=fun e=>by rw[e,ay] at he;cases he;cases hfx
   rw[if_neg this];exact he
  refine ⟨fun _ _ h=>h,fun b o v _ hv =>?_,fun m b bd he=>eP he rfl,fun m blk' l he =>?_,fun m b he=>eP he rfl,fun m b he=>eP he rfl,fun b es ck _ hm=>(hheap b (fS hm)).trans hm⟩
  ·rw[World.cell?_of_block (hheap b (World.block_lt_of_cell? w _ hv))];exact hv
  ·by_cases hm:m=n
   ·subst hm;rw[ay] at he;simp only[v6,bM.rw.injEq] at he;exact ⟨_,_,if_pos rfl,by omega,fun e=>by omega⟩
   ·exact ⟨blk',l,by simp only[if_neg hm];exact he,zz5 _,fun _=>rfl⟩
 have hown:=h.bP n;rw[hn] at hown;obtain ⟨blk1,hb1,hb2,_⟩:=hown;refine ⟨h.sz,h.eB.mono fun B _ hB=>(hheap B (zy7.1 hB).1).trans hB,fun t=>bg.later hl (h.dN t),h.dG.trans ⟨rfl,rfl,rfl,by simp,fun k hk=>hheap k (h.old hk)⟩,h.cZ,fun b o hd'=>by have:=h.aQ b o hd';simp;omega,fun m =>?_,?_,fun m e hm =>?_,h.eL,h.cR,h.eV,h.lp hl⟩
 ·simp only[ai.aV];by_cases hm:m=n
  ·subst hm;simp only[if_true,cN];refine ⟨some (w.heap.size,cap),by simp,fun e he =>?_,?_⟩
   ·rcases zy4.1 he with he | he
    ·exact hb2 e he
    ·exact hysz e he
   ·refine ⟨cs,pre++news,rest,.inl h.dG.size,heap_alloc_new w.drew _,hcs,?_,hsize,by simpa using hlen,hcap,fun o ho=>absurd (h.aQ _ o ho) (Nat.lt_irrefl _)⟩;exact aP.later hl _ _ (kH _ _ _ _ hes hys)
  ·simp only[if_neg hm];exact (h.bP m).later hl (by simp only[if_neg hm]) fun e b he hb=>⟨hheap b (h.gq he hb),fun _ ho=>ho⟩
 ·intro m m' e e' b U ab af aq;by_cases hm:m=n <;>by_cases hm':m'=n
  ·rw[hm,hm']
  ·simp only[if_pos hm,v6] at U;simp only[if_neg hm'] at ab;subst U;simp only[bM.aH,v6] at af;have:=h.gq ab aq;omega
  ·simp only[if_neg hm] at U;simp only[if_pos hm',v6] at ab;subst ab;simp only[bM.aH,v6] at aq;have:=h.gq U af;omega
  ·simp only[if_neg hm] at U;simp only[if_neg hm'] at ab;exact h.cO m m' e e' b U ab af aq
 ·by_cases hmn:m=n
  ·subst hmn;rcases h.dQ _ _ hm with k | ⟨e',k,hle⟩
   ·rw[ay] at k;cases k
   ·rw[ay] at k;cases k;exact .inr ⟨_,if_pos rfl,hle.trans (.inr ⟨_,_,_,_,rfl,rfl,by omega,fun e=>by omega⟩)⟩
  ·simp only[if_neg hmn];exact h.dQ _ _ hm
theorem aY.Yw(h:aY c A a w D E){n:Nat}{T:TypeId}{sz b cap:Nat}{es ys:List I}{pre news rest:List Value}{cs:Array Value}(hn:A.o n=some (.bU T sz es))(ay:E n=some (.rw (some (b,cap)) es.length))(hb:w.heap[b]?=some (.cells cs T (0,0)))
  (hcs:cs.toList=pre++rest) (hes:aP w D E es pre) (hys:aP w D E ys news) (hysz:∀ e∈ys,e.size=sz) (hne:ys≠[]) (hsize:cs.size=cap*sz) (hlen:es.length+ys.length≤cap) (hcap:cap≤maxLen) (hD:∀ o,D b o→o<pre.length) (hbase:c.e9 b) :
  aY c (A.aV n (.bU T sz (es++ys))) a (w.setRow b (pre++news++rest.drop news.length).toArray) D (fun m=>if m=n then some (.rw (some (b,cap)) (es.length+ys.length)) else E m):=by
 have hlast:0<ys.length:=List.length_pos_iff.2 hne;have hown:=h.bP n;rw[hn] at hown;obtain ⟨blk1,hb1,hb2,_⟩:=hown;have hnl:news.length=ys.length*sz:=by rw[aP.length _ _ hys,I.iZ _ hysz]
 have hpl:pre.length=es.length*sz:=by rw[aP.length _ _ hes,I.iZ _ hb2]
 have hl:dU w D E (w.setRow b (pre++news++rest.drop news.length).toArray) D (fun m=>if m=n then some (.rw (some (b,cap)) (es.length+ys.length)) else E m):=by
  have eP:∀ {m:Nat} {e:bM},E m=some e→e.eg=true→(if m=n then some (.rw (some (b,cap)) (es.length+ys.length)) else E m)=some e:=fun {m e} he hfx=>by
   have:m≠n:=fun e=>by rw[e,ay] at he;cases he;cases hfx
   rw[if_neg this];exact he
  refine ⟨fun _ _ h=>h,fun b1 o v ah hv =>?_,fun m b bd he=>eP he rfl,fun m blk' l he =>?_,fun m b he=>eP he rfl,fun m b he=>eP he rfl,fun b1 es ck _ hm=>(setRow_other w b b1 _ (fun e=>by rw[e,hb] at hm;cases hm)).trans hm⟩
  ·by_cases hbb:b1=b
   ·subst hbb;have ho:=hD o ah;have U:=setRow_heap w b1 cs (pre++news++rest.drop news.length).toArray T _ hb;rw[cell_of_row _ b1 o _ T (0,0) U];rw[cell_of_row _ b1 o _ T (0,0) hb] at hv;have e1:cs[o]?=pre[o]?:=by rw[←zw3,hcs,zy6 ho]
    rw[←hv,e1];simp only[List.getElem?_toArray,zz9];rw[zy6 ho]
   ·rw[wL _ _ _ _ hbb];exact hv
  ·by_cases hm:m=n
   ·subst hm;rw[ay] at he;simp only[v6,bM.rw.injEq] at he;exact ⟨_,_,if_pos rfl,by omega,fun e=>by omega⟩
   ·exact ⟨blk',l,by simp only[if_neg hm];exact he,zz5 _,fun _=>rfl⟩
 refine ⟨h.sz,h.eB.mono fun B _ hB=>(setRow_other w b B _ (fun e=>by rw[e,hb] at hB;cases hB)).trans hB,fun t=>bg.later hl (h.dN t),xN h.dG hbase _,h.cZ,fun b1 o ah=>by have:=h.aQ b1 o ah;simpa[World.setRow] using this,fun m =>?_,?_,fun m e hm =>?_,h.eL,h.cR,h.eV,h.lp hl⟩
 ·simp only[ai.aV];by_cases hm:m=n
  ·subst hm;simp only[if_true,cN];refine ⟨some (b,cap),by simp,fun e he =>?_,?_⟩
   ·rcases zy4.1 he with he | he
    ·exact hb2 e he
    ·exact hysz e he
   ·refine ⟨_,pre++news,rest.drop news.length,hbase,setRow_heap w b cs _ T _ hb,by simp,aP.later hl _ _ (kH _ _ _ _ hes hys),?_,by simpa using hlen,hcap,fun o ho =>?_⟩
    ·have e1:cs.size=pre.length+rest.length:=by rw[←zw2,hcs,zz6]
     have e2:news.length+pre.length≤cs.size:=by
      rw[hsize,hnl,hpl,←Nat.add_mul];exact Nat.mul_le_mul_right _ (by omega)
     simp only[List.size_toArray,zz6,List.length_drop];omega
    ·have:=hD o ho;rw[zz6];omega
  ·simp only[if_neg hm];refine (h.bP m).later hl (by simp only[if_neg hm]) fun e b1 he hb'=>⟨setRow_other w b b1 _ (fun e1=>hm (h.cO m n e _ b he ay (by rw[hb',e1]) rfl)),fun _ ho=>ho⟩
 ·intro m m' e e' b' U ab af aq;by_cases hm:m=n <;>by_cases hm':m'=n
  ·rw[hm,hm']
  ·simp only[if_pos hm,v6] at U;simp only[if_neg hm'] at ab;subst U;exact absurd (h.cO m' n e' _ b' ab ay aq af) hm'
  ·simp only[if_neg hm] at U;simp only[if_pos hm',v6] at ab;subst ab;exact absurd (h.cO m n e _ b' U ay af aq) hm
  ·simp only[if_neg hm] at U;simp only[if_neg hm'] at ab;exact h.cO m m' e e' b' U ab af aq
 ·by_cases hmn:m=n
  ·subst hmn;rcases h.dQ _ _ hm with k | ⟨e',k,hle⟩
   ·rw[ay] at k;cases k
   ·rw[ay] at k;cases k;exact .inr ⟨_,if_pos rfl,hle.trans (.inr ⟨_,_,_,_,rfl,rfl,by omega,fun e=>by omega⟩)⟩
  ·simp only[if_neg hmn];exact h.dQ _ _ hm
theorem Hi(n:Nat):(Builtin.zeroCells #[Value.int .i64 0] n).toList=(List.replicate n (0:Int)).map (Value.int .i64):=by
 simp only[Builtin.zeroCells,List.size_toArray,List.length_singleton,Nat.mul_one,Nat.mod_one,List.map_replicate];apply List.ext_getElem?;intro k;simp[List.getElem?_replicate];by_cases h:k<n
 ·rw[if_pos h,List.getElem?_range h];rfl
 ·rw[if_neg h,List.getElem?_eq_none (by simpa using h)];rfl
theorem F6{w:World}{D:aU}{E:bf} : ∀ {xs:List Int} {cs:List Value},aP w D E (xs.map (I.int .i64)) cs→cs=xs.map (Value.int .i64)∧∀ x∈xs,IntKind.i64.min≤x∧x≤IntKind.i64.max
 | [],cs,h=>by
  simp only[zx6,aP] at h;subst h;exact ⟨rfl,by simp⟩
 |x::xs,cs,h=>by
  simp only[zz4,aP] at h;obtain ⟨c1,c2,rfl,U,ab⟩:=h;obtain ⟨rfl,af⟩:=F6 ab;have h1':c1=[.int .i64 x]∧IntKind.i64.min≤x∧x≤IntKind.i64.max:=U;obtain ⟨rfl,aq⟩:=h1';refine ⟨rfl,fun y hy =>?_⟩;rcases zw9.1 hy with rfl | hy
  ·exact aq
  ·exact af y hy
theorem aY.CD(h:aY c A a w D E){n:Nat}{T:TypeId}{cap m':Nat}{es ys:List Int}{cs:Array Value}{aH:Option (Nat×Nat)}(hn:A.o n=some (.dD T es))(ay:E n=some (.rw aH es.length))(hr:∀ x∈es++ys,IntKind.i64.min≤x∧x≤IntKind.i64.max)
  (hne:ys≠[]) (hcs:cs.toList=(es++ys++List.replicate m' 0).map (Value.int .i64)) (hlen:es.length+ys.length+m'=cap) (hcap:cap≤maxLen) :
  aY c (A.aV n (.dD T (es++ys))) a (w.drew.alloc (.cells cs T)) D (fun m=>if m=n then some (.rw (some (w.heap.size,cap)) (es.length+ys.length)) else E m):=by
 have hlast:0<ys.length:=List.length_pos_iff.2 hne;have hheap:∀ b,b<w.heap.size→(w.drew.alloc (.cells cs T)).heap[b]?=w.heap[b]?:=fun b hb=>Below.heap_alloc w.drew _ b hb;have hl:dU w D E (w.drew.alloc (.cells cs T)) D (fun m=>if m=n then some (.rw (some (w.heap.size,cap)) (es.length+ys.length)) else E m):=by
  have eP:∀ {m:Nat} {e:bM},E m=some e→e.eg=true→(if m=n then some (.rw (some (w.heap.size,cap)) (es.length+ys.length)) else E m)=some e:=fun {m e} he hfx=>by
   have:m≠n:=fun e=>by rw[e,ay] at he;cases he;cases hfx
   rw[if_neg this];exact he
  refine ⟨fun _ _ h=>h,fun b o v _ hv =>?_,fun m b bd he=>eP he rfl,fun m blk' l he =>?_,fun m b he=>eP he rfl,fun m b he=>eP he rfl,fun b es ck _ hm=>(hheap b (fS hm)).trans hm⟩
  ·rw[World.cell?_of_block (hheap b (World.block_lt_of_cell? w _ hv))];exact hv
  ·by_cases hm:m=n
   ·subst hm;rw[ay] at he;simp only[v6,bM.rw.injEq] at he;exact ⟨_,_,if_pos rfl,by omega,fun e=>by omega⟩
   ·exact ⟨blk',l,by simp only[if_neg hm];exact he,zz5 _,fun _=>rfl⟩
 refine ⟨h.sz,h.eB.mono fun B _ hB=>(hheap B (zy7.1 hB).1).trans hB,fun t=>bg.later hl (h.dN t),h.dG.trans ⟨rfl,rfl,rfl,by simp,fun k hk=>hheap k (h.old hk)⟩,h.cZ,fun b o hd'=>by have:=h.aQ b o hd';simp;omega,fun m =>?_,?_,fun m e hm =>?_,h.eL,h.cR,h.eV,h.lp hl⟩
 ·simp only[ai.aV];by_cases hm:m=n
  ·subst hm;simp only[if_true,cN];exact ⟨some (w.heap.size,cap),by simp,hr,cs,m',.inl h.dG.size,heap_alloc_new w.drew _,hcs,by simp[hne],by simp only[zz6];exact hlen,hcap,fun o ho=>absurd (h.aQ _ o ho) (Nat.lt_irrefl _)⟩
  ·simp only[if_neg hm];exact (h.bP m).later hl (by simp only[if_neg hm]) fun e b he hb=>⟨hheap b (h.gq he hb),fun _ ho=>ho⟩
 ·intro m m' e e' b U ab af aq;by_cases hm:m=n <;>by_cases hm':m'=n
  ·rw[hm,hm']
  ·simp only[if_pos hm,v6] at U;simp only[if_neg hm'] at ab;subst U;simp only[bM.aH,v6] at af;have:=h.gq ab aq;omega
  ·simp only[if_neg hm] at U;simp only[if_pos hm',v6] at ab;subst ab;simp only[bM.aH,v6] at aq;have:=h.gq U af;omega
  ·simp only[if_neg hm] at U;simp only[if_neg hm'] at ab;exact h.cO m m' e e' b U ab af aq
 ·by_cases hmn:m=n
  ·subst hmn;rcases h.dQ _ _ hm with k | ⟨e',k,hle⟩
   ·rw[ay] at k;cases k
   ·rw[ay] at k;cases k;exact .inr ⟨_,if_pos rfl,hle.trans (.inr ⟨_,_,_,_,rfl,rfl,by omega,fun e=>by omega⟩)⟩
  ·simp only[if_neg hmn];exact h.dQ _ _ hm
theorem aY.Yx(h:aY c A a w D E){n:Nat}{T:TypeId}{b cap m':Nat}{es ys:List Int}{cs:Array Value}(hn:A.o n=some (.dD T es))(ay:E n=some (.rw (some (b,cap)) es.length))(hb:w.heap[b]?=some (.cells cs T (0,0)))
  (hr:∀ x∈es++ys,IntKind.i64.min≤x∧x≤IntKind.i64.max) (hne:ys≠[]) (hlen:es.length+ys.length+m'=cap) (hcap:cap≤maxLen) (hD:∀ o,¬ D b o) (hbase:c.e9 b) :
  aY c (A.aV n (.dD T (es++ys))) a (w.setRow b ((es++ys++List.replicate m' 0).map (Value.int .i64)).toArray) D (fun m=>if m=n then some (.rw (some (b,cap)) (es.length+ys.length)) else E m):=by
 have hlast:0<ys.length:=List.length_pos_iff.2 hne;have hl:dU w D E (w.setRow b ((es++ys++List.replicate m' 0).map (Value.int .i64)).toArray) D (fun m=>if m=n then some (.rw (some (b,cap)) (es.length+ys.length)) else E m):=by
  have eP:∀ {m:Nat} {e:bM},E m=some e→e.eg=true→(if m=n then some (.rw (some (b,cap)) (es.length+ys.length)) else E m)=some e:=fun {m e} he hfx=>by
   have:m≠n:=fun e=>by rw[e,ay] at he;cases he;cases hfx
   rw[if_neg this];exact he
  refine ⟨fun _ _ h=>h,fun b1 o v ah hv =>?_,fun m b bd he=>eP he rfl,fun m blk' l he =>?_,fun m b he=>eP he rfl,fun m b he=>eP he rfl,fun b1 es ck _ hm=>(setRow_other w b b1 _ (fun e=>by rw[e,hb] at hm;cases hm)).trans hm⟩
  ·by_cases hbb:b1=b
   ·subst hbb;exact absurd ah (hD o)
   ·rw[wL _ _ _ _ hbb];exact hv
  ·by_cases hm:m=n
   ·subst hm;rw[ay] at he;simp only[v6,bM.rw.injEq] at he;exact ⟨_,_,if_pos rfl,by omega,fun e=>by omega⟩
   ·exact ⟨blk',l,by simp only[if_neg hm];exact he,zz5 _,fun _=>rfl⟩
 refine ⟨h.sz,h.eB.mono fun B _ hB=>(setRow_other w b B _ (fun e=>by rw[e,hb] at hB;cases hB)).trans hB,fun t=>bg.later hl (h.dN t),xN h.dG hbase _,h.cZ,fun b1 o ah=>by have:=h.aQ b1 o ah;simpa[World.setRow] using this,fun m =>?_,?_,fun m e hm =>?_,h.eL,h.cR,h.eV,h.lp hl⟩
 ·simp only[ai.aV];by_cases hm:m=n
  ·subst hm;simp only[if_true,cN];exact ⟨some (b,cap),by simp,hr,_,m',hbase,setRow_heap w b cs _ T _ hb,by simp,by simp[hne],by simp only[zz6];exact hlen,hcap,hD⟩
  ·simp only[if_neg hm];refine (h.bP m).later hl (by simp only[if_neg hm]) fun e b1 he hb'=>⟨setRow_other w b b1 _ (fun e1=>hm (h.cO m n e _ b he ay (by rw[hb',e1]) rfl)),fun _ ho=>ho⟩
 ·intro m m' e e' b' U ab af aq;by_cases hm:m=n <;>by_cases hm':m'=n
  ·rw[hm,hm']
  ·simp only[if_pos hm,v6] at U;simp only[if_neg hm'] at ab;subst U;exact absurd (h.cO m' n e' _ b' ab ay aq af) hm'
  ·simp only[if_neg hm] at U;simp only[if_pos hm',v6] at ab;subst ab;exact absurd (h.cO m n e _ b' U ay af aq) hm
  ·simp only[if_neg hm] at U;simp only[if_neg hm'] at ab;exact h.cO m m' e e' b' U ab af aq
 ·by_cases hmn:m=n
  ·subst hmn;rcases h.dQ _ _ hm with k | ⟨e',k,hle⟩
   ·rw[ay] at k;cases k
   ·rw[ay] at k;cases k;exact .inr ⟨_,if_pos rfl,hle.trans (.inr ⟨_,_,_,_,rfl,rfl,by omega,fun e=>by omega⟩)⟩
  ·simp only[if_neg hmn];exact h.dQ _ _ hm
end
section
variable {c:cX} {A:ai} {o:Oper}
theorem Nn{t e:TypeId}{s x:Operand}{s' x':aR}{n k sz:Nat}{es ys:List I}{z:I}(ho:o.op=.call { callee:=.builtin .append,args := #[s,x],argTypes := #[t,t] })(ht:c.P.underlying t=some (.slice e))(hs':bB c.P t s=some s')(hx':bB c.P t x=some x')
  (hz:gC c.P e=some z) (hzs:z.size=c.P.cellsOf e) (hpos:0<c.P.cellsOf e) (hs:ak A s'=.own n k) (hn:A.o n=some (.bU e (c.P.cellsOf e) es)) (hk:k=es.length) (hx:ak A x'=.slice sz ys) (hsz:sz=c.P.cellsOf e) (hne:ys≠[])
  (h63:es.length+ys.length≤maxLen) (hby:(es.length+ys.length)*c.P.bytesOf e≤140737488355328) (ah:∀ k,o.dst=some k→k<c.n) :
  iH c A o ((A.aV n (.bU e (c.P.cellsOf e) (es++ys))).aX o.dst (.own n (es.length+ys.length))):=by
 intro a w D E hsim;obtain ⟨i,zv,hi,hzv,hzr⟩:=mq hz;have hci:c.P.cellsOf e=i.size:=by simp[Program.cellsOf,hi]
 have hbi:c.P.bytesOf e=i.bytes:=by simp[Program.bytesOf,hi]
 have hzc:zv.cells.size=i.size:=by
  have:=al.length _ _ (hzr w D E);rw[zw2] at this;rw[this,hzs,hci]
 subst hk;have v1:=bZ hsim hs';rw[hs] at v1;have v2:=bZ hsim hx';rw[hx] at v2;obtain ⟨ad,cp,hxv,hc1,hc2,hc3,hc4⟩:=ox v2;obtain ⟨b2,off2,news,rfl,hr2,hys⟩:=hc3.resolve_left hne;have hobj:=hsim.bP n;rw[hn] at hobj;obtain ⟨aH,ay,hesz,hblk⟩:=hobj;have hnl:news.length=ys.length*i.size:=by rw[aP.length _ _ hys,I.iZ _ hc4,hsz,hci]
 have hysz:∀ y∈ys,y.size=c.P.cellsOf e:=fun y hy=>by rw[hc4 y hy,hsz]
 have hnews:∀ j v,news[j]?=some v→w.cell? ((⟨b2,off2,none⟩:Addr).add j)=some v:=fun j v hj=>by
  rw[Addr.add_lit];exact (hr2 j v hj).1
 have U:=aP.mY _ _ hys;have hsv:match aH with | none=>a.eval s=.slice none 0 0 | some (b,cap)=>a.eval s=.slice (some ⟨b,0,none⟩) es.length cap:=by
  obtain ⟨cs,q1,q2⟩:=v1;simp only[al] at q2;obtain ⟨blk',l,q3,q4,q5,q6⟩:=q2;rw[ay] at q3;simp only[v6,bM.rw.injEq] at q3;obtain ⟨rfl,rfl⟩:=q3;have q7:=q6 rfl;simp only[bG,I.isAgg] at q1;cases aH with
  |none=>simp only at q7 ⊢;rw[q7] at q1;simpa using q1.symm
  |some bc=>simp only at q7 ⊢;rw[q7] at q1;simpa using q1.symm
 have hl0:0<ys.length:=List.length_pos_iff.2 hne;have h63':=h63;simp only[maxLen] at h63';have run:∀ v' w',(Builtin.append_ #[t,t] o.type #[a.eval s,.slice (some ⟨b2,off2,none⟩) ys.length cp]).run c.P w=.ok v' w'→(execOp a.eval o).run c.P w=.ok (.value v') w':=by
  intro v' w' hr;unfold execOp;simp only[ho,resolve,invoke,builtin,Sem.run_bind,Sem.run_pure,Result.andThen_ok,List.map_toArray,zz4,zx6,hxv,hr]
 have put:∀ (w':World) (b cap:Nat) (v':Value),v'=.slice (some ⟨b,0,none⟩) (es.length+ys.length) cap→aY c (A.aV n (.bU e (c.P.cellsOf e) (es++ys))) a w' D (fun m=>if m=n then some (.rw (some (b,cap)) (es.length+ys.length)) else E m) →
   b5 c ((A.aV n (.bU e (c.P.cellsOf e) (es++ys))).aX o.dst (.own n (es.length+ys.length))) (a.put o.dst v') w':=by
  rintro w' b cap v' rfl hs2;refine ⟨D,_,hs2.aX ah ⟨_,by simp[bG,I.isAgg];rfl,?_⟩⟩;simp only[al,if_true];exact ⟨some (b,cap),es.length+ys.length,rfl,zz5 _,⟨_,_,_,rfl⟩,fun _=>rfl⟩
 cases aH with
 |none =>
  simp only at hblk hsv;subst hblk;have hr:=run_append_nil (P:=c.P) w t o.type e i zv ht hi hzv ⟨b2,off2,none⟩ ys.length cp news hnl hnews hl0 (by simp at h63';omega) (by rw[hbi] at hby;simp at hby;omega);rw[←hsv] at hr;have hge:=grownCap_ge w ys.length 0 e;refine ⟨_,.inl ⟨_,run _ _ hr,put _ w.heap.size (grownCap w ys.length 0 e) _ (by simp) ?_⟩⟩;refine hsim.CC (pre:=[]) (news:=news) (rest:=(Builtin.zeroCells zv.cells (grownCap w ys.length 0 e-ys.length)).toList) hn ay (by simp[aP]) hys hysz hne (by simp) ?_ (by simpa using hge) (grownCap_le_maxLen w ys.length 0 e (by simpa using h63));simp only[Array.size_append,List.size_toArray,size_zeroCells,hzc,hnl,hci,←Nat.add_mul]
  congr 1
  omega
 |some bc =>
  obtain ⟨b,cap⟩:=bc;simp only at hblk hsv;obtain ⟨cs,pre,rest,k1,k2,k3,k4,k5,k6,k7,k8⟩:=hblk;have hpl:pre.length=es.length*i.size:=by rw[aP.length _ _ k4,I.iZ _ hesz,hci]
  by_cases hroom:es.length+ys.length≤cap
  ·have hfit:es.length*i.size+news.length≤cs.size:=by rw[hnl,k5,hci,←Nat.add_mul];exact Nat.mul_le_mul_right _ hroom
   have hr:=run_append_room (P:=c.P) w t o.type e i ht hi b es.length cap cs k2 ⟨b2,off2,none⟩ ys.length cp news hnl hnews U hroom hfit;rw[←hsv] at hr;refine ⟨_,.inl ⟨_,run _ _ hr,put _ b cap _ rfl ?_⟩⟩;have e1:cs.toList.take (es.length*i.size)=pre:=by rw[k3,←hpl];exact List.take_left
   have e2:cs.toList.drop (es.length*i.size+news.length)=rest.drop news.length:=by rw[k3,←hpl,←List.drop_drop,List.drop_left]
   rw[e1,e2];exact hsim.Yw hn ay k2 k3 k4 hys hysz hne k5 hroom k7 k8 k1
  ·have holds:∀ j v,pre[j]?=some v→w.cell? ((⟨b,0,none⟩:Addr).add j)=some v:=fun j v hj=>by
    rw[Addr.add_lit,zz1,cell_of_row w b j cs e (0,0) k2,←zw3,k3];have:j<pre.length:=(zz8.1 hj).1;rw[zy6 this];exact hj
   have hr:=run_append_grow (P:=c.P) w t o.type e i zv ht hi hzv ⟨b,0,none⟩ es.length cap pre hpl holds ⟨b2,off2,none⟩ ys.length cp news hnl hnews (by omega) (by omega) (growslice_fits (by omega) (by rw[←hbi];exact hby));rw[←hsv] at hr;have hge:=grownCap_ge w (es.length+ys.length) cap e;refine ⟨_,.inl ⟨_,run _ _ hr,put _ w.heap.size (grownCap w (es.length+ys.length) cap e) _ rfl ?_⟩⟩;refine hsim.CC (pre:=pre) (news:=news) (rest:=(Builtin.zeroCells zv.cells (grownCap w (es.length+ys.length) cap e-(es.length+ys.length))).toList) hn ay k4 hys hysz hne (by simp) ?_ hge (grownCap_le_maxLen w _ cap e h63);simp only[Array.size_append,List.size_toArray,size_zeroCells,hzc,hnl,hpl,hci,←Nat.add_mul]
   congr 1
   omega
theorem Np{t e:TypeId}{s x:Operand}{s' x':aR}{n k sz:Nat}{es ys:List Int}(ho:o.op=.call { callee:=.builtin .append,args := #[s,x],argTypes := #[t,t] })(ht:c.P.underlying t=some (.slice e))(hs':bB c.P t s=some s')(hx':bB c.P t x=some x')
  (hz:gC c.P e=some (.int .i64 0)) (h1c:c.P.cellsOf e=1) (hs:ak A s'=.own n k) (hn:A.o n=some (.dD e es)) (hk:k=es.length) (hx:ak A x'=.slice sz (ys.map (.int .i64))) (hne:ys≠[])
  (h63:es.length+ys.length≤maxLen) (hby:(es.length+ys.length)*c.P.bytesOf e≤140737488355328) (ah:∀ k,o.dst=some k→k<c.n) :
  iH c A o ((A.aV n (.dD e (es++ys))).aX o.dst (.own n (es.length+ys.length))):=by
 intro a w D E hsim;obtain ⟨i,zv,hi,hzv,hzr⟩:=mq hz;have hci:c.P.cellsOf e=i.size:=by simp[Program.cellsOf,hi]
 have hi1:i.size=1:=hci.symm.trans h1c;have hbi:c.P.bytesOf e=i.bytes:=by simp[Program.bytesOf,hi]
 have hzv2:zv.cells = #[Value.int .i64 0]:=by
  have:zv.cells.toList=[Value.int .i64 0]:=(hzr w D E).1;exact Array.toList_inj.1 this
 subst hk;have v1:=bZ hsim hs';rw[hs] at v1;have v2:=bZ hsim hx';rw[hx] at v2;obtain ⟨ad,cp,hxv,hc1,hc2,hc3,hc4⟩:=ox v2;obtain ⟨b2,off2,news,rfl,hr2,hys⟩:=hc3.resolve_left (by simpa using hne);rw[zz7] at hxv;obtain ⟨aH,ay,hesr,hblk⟩:=hsim.tt hn;obtain ⟨hnw,hyr⟩:=F6 hys;have hnl0:news.length=ys.length:=by rw[hnw,zz7]
 have hnl:news.length=ys.length*i.size:=by rw[hi1,Nat.mul_one,hnl0]
 have hrr:∀ x∈es++ys,IntKind.i64.min≤x∧x≤IntKind.i64.max:=fun x hx=>by
  rcases zy4.1 hx with h | h
  ·exact hesr x h
  ·exact hyr x h
 have hnews:∀ j v,news[j]?=some v→w.cell? ((⟨b2,off2,none⟩:Addr).add j)=some v:=fun j v hj=>by
  rw[Addr.add_lit];exact (hr2 j v hj).1
 have U:=aP.mY _ _ hys;have hsv:match aH with | none=>a.eval s=.slice none 0 0 | some (b,cap)=>a.eval s=.slice (some ⟨b,0,none⟩) es.length cap:=by
  obtain ⟨cs,q1,q2⟩:=v1;simp only[al] at q2;obtain ⟨blk',l,q3,q4,q5,q6⟩:=q2;rw[ay] at q3;simp only[v6,bM.rw.injEq] at q3;obtain ⟨rfl,rfl⟩:=q3;have q7:=q6 rfl;simp only[bG,I.isAgg] at q1;cases aH with
  |none=>simp only at q7 ⊢;rw[q7] at q1;simpa using q1.symm
  |some bc=>simp only at q7 ⊢;rw[q7] at q1;simpa using q1.symm
 have hl0:0<ys.length:=List.length_pos_iff.2 hne;have h63':=h63;simp only[maxLen] at h63';have run:∀ v' w',(Builtin.append_ #[t,t] o.type #[a.eval s,.slice (some ⟨b2,off2,none⟩) ys.length cp]).run c.P w=.ok v' w'→(execOp a.eval o).run c.P w=.ok (.value v') w':=by
  intro v' w' hr;unfold execOp;simp only[ho,resolve,invoke,builtin,Sem.run_bind,Sem.run_pure,Result.andThen_ok,List.map_toArray,zz4,zx6,hxv,hr]
 have put:∀ (w':World) (b cap:Nat) (v':Value),v'=.slice (some ⟨b,0,none⟩) (es.length+ys.length) cap→aY c (A.aV n (.dD e (es++ys))) a w' D (fun m=>if m=n then some (.rw (some (b,cap)) (es.length+ys.length)) else E m) →
   b5 c ((A.aV n (.dD e (es++ys))).aX o.dst (.own n (es.length+ys.length))) (a.put o.dst v') w':=by
  rintro w' b cap v' rfl hs2;refine ⟨D,_,hs2.aX ah ⟨_,by simp[bG,I.isAgg];rfl,?_⟩⟩;simp only[al,if_true];exact ⟨some (b,cap),es.length+ys.length,rfl,zz5 _,⟨_,_,_,rfl⟩,fun _=>rfl⟩
 cases aH with
 |none =>
  simp only at hblk hsv;subst hblk;have hr:=run_append_nil (P:=c.P) w t o.type e i zv ht hi hzv ⟨b2,off2,none⟩ ys.length cp news hnl hnews hl0 (by simp at h63';omega) (by rw[hbi] at hby;simp at hby;omega);rw[←hsv] at hr;have hge:=grownCap_ge w ys.length 0 e;refine ⟨_,.inl ⟨_,run _ _ hr,put _ w.heap.size (grownCap w ys.length 0 e) _ (by simp) ?_⟩⟩;refine hsim.CD (m':=grownCap w ys.length 0 e-ys.length) hn ay hrr hne ?_ (by simp;omega) (grownCap_le_maxLen w ys.length 0 e (by simpa using h63));rw[hzv2];simp only[Array.toList_append,Hi,zx3,zy8,hnw]
 |some bc =>
  obtain ⟨b,cap⟩:=bc;simp only at hblk hsv;obtain ⟨cs,m,k1,k2,k3,k4,k5,k6,k7⟩:=hblk;have hcz:cs.size=cap:=by rw[←zw2,k3];simp;omega
  by_cases hroom:es.length+ys.length≤cap
  ·have hfit:es.length*i.size+news.length≤cs.size:=by rw[hnl,hi1];omega
   have hr:=run_append_room (P:=c.P) w t o.type e i ht hi b es.length cap cs k2 ⟨b2,off2,none⟩ ys.length cp news hnl hnews U hroom hfit;rw[←hsv] at hr;refine ⟨_,.inl ⟨_,run _ _ hr,put _ b cap _ rfl ?_⟩⟩;have e0:cs.toList.take (es.length*i.size)++news++cs.toList.drop (es.length*i.size+news.length)=(es++ys++List.replicate (m-ys.length) 0).map (Value.int .i64):=by
    rw[hi1,Nat.mul_one,hnl0,k3,hnw,←List.map_take,←List.map_drop,List.take_left,←List.drop_drop,List.drop_left];simp only[zy8,List.drop_replicate]
   rw[e0];exact hsim.Yx (m':=m-ys.length) hn ay k2 hrr hne (by omega) k6 k7 k1
  ·have hpl:(es.map (Value.int .i64)).length=es.length*i.size:=by rw[hi1];simp
   have holds:∀ j v,(es.map (Value.int .i64))[j]?=some v→w.cell? ((⟨b,0,none⟩:Addr).add j)=some v:=fun j v hj=>by
    rw[Addr.add_lit,zz1,cell_of_row w b j cs e (0,0) k2,←zw3,k3];have:j<(es.map (Value.int .i64)).length:=(zz8.1 hj).1;rw[zy8,zy6 this];exact hj
   have hr:=run_append_grow (P:=c.P) w t o.type e i zv ht hi hzv ⟨b,0,none⟩ es.length cap (es.map (Value.int .i64)) hpl holds ⟨b2,off2,none⟩ ys.length cp news hnl hnews (by omega) (by omega) (growslice_fits (by omega) (by rw[←hbi];exact hby));rw[←hsv] at hr;have hge:=grownCap_ge w (es.length+ys.length) cap e;refine ⟨_,.inl ⟨_,run _ _ hr,put _ w.heap.size (grownCap w (es.length+ys.length) cap e) _ rfl ?_⟩⟩;refine hsim.CD (m':=grownCap w (es.length+ys.length) cap e-(es.length+ys.length)) hn ay hrr hne ?_ (by omega) (grownCap_le_maxLen w _ cap e h63);rw[hzv2];simp only[Array.toList_append,Hi,zy8,hnw]
end
mutual
def I.only(p:Nat→Bool):I→Bool
 | .agg fs | .tuple fs=>I.b6 p fs
 | .slice _ es=>I.b6 p es
 | .ref x=>x.only p
 | .func _ caps=>I.b6 p caps
 | .iface _ v=>v.only p
 | .ptr n _ | .own n _ | .view n _ _ _ _ | .mref n | .dp n=>p n
 | .dk ks vs=>I.b6 p ks&&I.b6 p vs
 |_=>true
def I.b6(p:Nat→Bool):List I→Bool
 | []=>true
 |x::xs=>x.only p&&I.b6 p xs
end
mutual
theorem kD(p:Nat→Bool):∀ x:I,x.bC=true→x.only p=true
 | .agg fs,h=>by simp only[I.bC,I.only] at *;exact lU p fs h
 | .slice _ es,h=>by simp only[I.bC,I.only] at *;exact lU p es h
 | .ref x,h=>by simp only[I.bC,I.only] at *;exact kD p x h
 | .func _ caps,h=>by simp only[I.bC,I.only] at *;exact lU p caps h
 | .iface _ v,h=>by simp only[I.bC,I.only] at *;exact kD p v h
 | .bool _,_ | .int _ _,_ | .bR _,_ | .nilp,_ | .dA,_ | .dW,_ | .any,_ | .raw _,_ | .nils _,_ | .c0 _,_=>by simp[I.only]
 | .dk ks vs,h=>by simp only[I.bC,I.only,t8] at *;exact ⟨lU p ks h.1,lU p vs h.2⟩
 | .ptr _ _,h | .own _ _,h | .view _ _ _ _ _,h | .mref _,h | .dp _,h | .undef,h | .du,h | .tuple _,h=>by simp[I.bC] at h
theorem lU(p:Nat→Bool):∀ xs:List I,I.b9 xs=true→I.b6 p xs=true
 | [],_=>rfl
 |x::xs,h=>by
  simp only[I.b9,I.b6,t8] at *;exact ⟨kD p x h.1,lU p xs h.2⟩
end
mutual
theorem al.c9{w:World}{D:aU}{E E':bf}{p:Nat→Bool}(ay:∀ n,p n=true→E' n=E n):∀ (x:I) (cs:List Value),x.only p=true→al w D E x cs→al w D E' x cs
 | .agg fs,cs,ho,hr=>by simp only[al,I.only] at *;exact aP.c9 ay fs cs ho hr
 | .bool b,cs,_,hr=>by simpa only[al] using hr
 | .int k n,cs,_,hr=>by simpa only[al] using hr
 | .bR s,cs,_,hr=>by simpa only[al] using hr
 | .nilp,cs,_,hr=>by simpa only[al] using hr
 | .dA,cs,_,hr=>by simpa only[al] using hr
 | .dW,cs,_,hr | .any,cs,_,hr=>by simpa only[al] using hr
 | .raw _,cs,_,hr=>by simpa only[al] using hr
 | .nils _,cs,_,hr=>by simpa only[al] using hr
 | .c0 _,cs,_,hr=>by simpa only[al] using hr
 | .slice sz es,cs,ho,hr=>by
  simp only[al,I.only] at *;obtain ⟨a,cap,U,ab,af,aq,h5⟩:=hr;refine ⟨a,cap,U,ab,af,?_,h5⟩;rcases aq with aq | ⟨b,off,cs',h6,h7,h8⟩
  ·exact .inl aq
  ·exact .inr ⟨b,off,cs',h6,h7,aP.c9 ay es cs' ho h8⟩
 | .ref x,cs,ho,hr=>by
  simp only[al,I.only] at *;obtain ⟨b,off,cs',U,ab,af⟩:=hr;exact ⟨b,off,cs',U,ab,al.c9 ay x cs' ho af⟩
 | .func f caps,cs,ho,hr=>by
  simp only[al,I.only] at *;obtain ⟨vs,U,ab⟩:=hr;exact ⟨vs,U,aG.c9 ay caps vs ho ab⟩
 | .iface t v,cs,ho,hr=>by
  simp only[al,I.only] at *;obtain ⟨u,cs',U,ab,af⟩:=hr;exact ⟨u,cs',U,ab,al.c9 ay v cs' ho af⟩
 | .ptr n p,cs,ho,hr=>by
  simp only[al,I.only] at *;obtain ⟨b,bd,off,U,ab⟩:=hr;exact ⟨b,bd,off,(ay n ho).trans U,ab⟩
 | .own n k,cs,ho,hr=>by
  simp only[al,I.only] at *;obtain ⟨aH,l,U,ab⟩:=hr;exact ⟨aH,l,(ay n ho).trans U,ab⟩
 | .view n p _ _ _,cs,ho,hr=>by
  simp only[al,I.only] at *;obtain ⟨b,bd,off,l,U,ab⟩:=hr;exact ⟨b,bd,off,l,(ay n ho).trans U,ab⟩
 | .mref n,cs,ho,hr=>by
  simp only[al,I.only] at *;obtain ⟨b,U,ab⟩:=hr;exact ⟨b,(ay n ho).trans U,ab⟩
 | .dp n,cs,ho,hr=>by
  simp only[al,I.only] at *;obtain ⟨b,U,ab⟩:=hr;exact ⟨b,(ay n ho).trans U,ab⟩
 | .dk ks vs,cs,ho,hr=>by
  simp only[al,I.only,t8] at *;obtain ⟨b,es,ck,U,ab,af,aq⟩:=hr;exact ⟨b,es,ck,U,ab,aG.c9 ay ks _ ho.1 af,aG.c9 ay vs _ ho.2 aq⟩
 | .undef,_,_,hr=>by simp only[al] at hr
 | .du,_,_,hr=>by simp only[al] at hr
 | .tuple _,_,_,hr=>by simp only[al] at hr
theorem aP.c9{w:World}{D:aU}{E E':bf}{p:Nat→Bool}(ay:∀ n,p n=true→E' n=E n):∀ (xs:List I) (cs:List Value),I.b6 p xs=true→aP w D E xs cs→aP w D E' xs cs
 | [],cs,_,hr=>by simpa only[aP] using hr
 |x::xs,cs,ho,hr=>by
  simp only[aP,I.b6,t8] at *;obtain ⟨c1,c2,U,ab,af⟩:=hr;exact ⟨c1,c2,U,al.c9 ay x c1 ho.1 ab,aP.c9 ay xs c2 ho.2 af⟩
theorem aG.c9{w:World}{D:aU}{E E':bf}{p:Nat→Bool}(ay:∀ n,p n=true→E' n=E n):∀ (xs:List I) (vs:List Value),I.b6 p xs=true→aG w D E xs vs→aG w D E' xs vs
 | [],vs,_,hr=>by simpa only[aG] using hr
 |x::xs,vs,ho,hr=>by
  simp only[aG,I.b6,t8] at *;obtain ⟨v,rest,cs,U,ab,af,aq⟩:=hr;exact ⟨v,rest,cs,U,ab,al.c9 ay x cs ho.1 af,aG.c9 ay xs rest ho.2 aq⟩
end
theorem bg.c9{w:World}{D:aU}{E E':bf}{p:Nat→Bool}(ay:∀ n,p n=true→E' n=E n){x:I}{v:Value}(ho:x.only p=true)(hr:bg w D E x v):bg w D E' x v:=by
 cases x <;>simp only[bg] at * <;>first
  |exact hr
  |(obtain ⟨vs,U,ab⟩:=hr;exact ⟨vs,U,aG.c9 ay _ _ (by simpa[I.only] using ho) ab⟩)
  |(obtain ⟨cs,U,ab⟩:=hr;exact ⟨cs,U,al.c9 ay _ _ ho ab⟩)
def ao.only(p:Nat→Bool):ao→Bool
 | .box x=>x.only p
 | .bU _ _ es=>I.b6 p es
 | .dC _=>true
 | .dD _ _=>true
 | .bA ks vs | .it ks vs _ _=>I.b6 p ks&&I.b6 p vs
def bx:List (Nat×Nat)→Nat→Nat
 | [],n=>n
 |(a,b)::r,n=>if n=a then b else bx r n
mutual
def I.a8(ρ:Nat→Nat):I→I
 | .agg fs=>.agg (I.dm ρ fs)
 | .tuple fs=>.tuple (I.dm ρ fs)
 | .slice sz es=>.slice sz (I.dm ρ es)
 | .ref x=>.ref (x.a8 ρ)
 | .func f caps=>.func f (I.dm ρ caps)
 | .iface t v=>.iface t (v.a8 ρ)
 | .ptr n p=>.ptr (ρ n) p
 | .own n k=>.own (ρ n) k
 | .view n p sz lo k=>.view (ρ n) p sz lo k
 | .mref n=>.mref (ρ n)
 | .dp n=>.dp (ρ n)
 | .dk ks vs=>.dk (I.dm ρ ks) (I.dm ρ vs)
 | .undef=>.undef | .du=>.du | .bool b=>.bool b | .int k n=>.int k n | .bR s=>.bR s
 | .nilp=>.nilp | .dA=>.dA | .dW=>.dW | .any=>.any | .raw u=>.raw u | .nils z=>.nils z | .c0 z=>.c0 z
def I.dm(ρ:Nat→Nat):List I→List I
 | []=>[]
 |x::xs=>x.a8 ρ::I.dm ρ xs
end
def ao.a8(ρ:Nat→Nat):ao→ao
 | .box x=>.box (x.a8 ρ)
 | .bU T sz es=>.bU T sz (I.dm ρ es)
 | .dC x=>.dC x
 | .dD T xs=>.dD T xs
 | .bA ks vs=>.bA (I.dm ρ ks) (I.dm ρ vs)
 | .it ks vs left cur=>.it (I.dm ρ ks) (I.dm ρ vs) left cur
mutual
theorem qY(ρ:Nat→Nat):∀ x:I,(x.a8 ρ).size=x.size
 | .agg fs=>by simp only[I.a8,I.size];exact Gp ρ fs
 | .undef | .du | .bool _ | .int _ _ | .bR _ | .nilp | .dA | .dW | .any | .raw _ | .nils _ | .c0 _ | .slice _ _ | .tuple _ | .ref _ | .func _ _ | .iface _ _ | .ptr _ _ | .own _ _ | .view _ _ _ _ _ | .mref _ | .dp _ | .dk _ _=>by simp only[I.a8,I.size]
theorem Gp(ρ:Nat→Nat):∀ xs:List I,I.sizes (I.dm ρ xs)=I.sizes xs
 | []=>rfl
 |x::xs=>by simp only[I.dm,I.sizes,qY ρ x,Gp ρ xs]
end
mutual
theorem vt(ρ:Nat→Nat):∀ x:I,(x.a8 ρ).bd=x.bd
 | .agg fs=>by simp only[I.a8,I.bd,cS.eK.injEq];exact Gn ρ fs
 | .undef | .du | .bool _ | .int _ _ | .bR _ | .nilp | .dA | .dW | .any | .raw _ | .nils _ | .c0 _ | .slice _ _ | .tuple _ | .ref _ | .func _ _ | .iface _ _ | .ptr _ _ | .own _ _ | .view _ _ _ _ _ | .mref _ | .dp _ | .dk _ _=>by simp only[I.a8,I.bd]
theorem Gn(ρ:Nat→Nat):∀ xs:List I,I.cV (I.dm ρ xs)=I.cV xs
 | []=>rfl
 |x::xs=>by simp only[I.dm,I.cV,vt ρ x,Gn ρ xs]
end
theorem Zl(ρ:Nat→Nat)(x:I):(x.a8 ρ).isAgg=x.isAgg:=by cases x <;>simp[I.a8,I.isAgg]
theorem pD(ρ:Nat→Nat)(xs:List I):I.dm ρ xs=xs.map (I.a8 ρ):=by
 induction xs with
 |nil=>rfl
 |cons x xs ih=>simp[I.dm,ih]
theorem pC(ρ:Nat→Nat)(xs:List I):(I.dm ρ xs).length=xs.length:=by rw[pD];simp
theorem Gk(ρ:Nat→Nat)(x:I)(v:Value)(cs:List Value):bG (x.a8 ρ) v cs=bG x v cs:=by simp only[bG,Zl]
mutual
/-- A value,its names put for others that stand for the same. -/
theorem al.a8{w:World}{D:aU}{E E':bf}{p:Nat→Bool}{ρ:Nat→Nat}(ay:∀ n,p n=true→E' (ρ n)=E n):∀ (x:I) (cs:List Value),x.only p=true→(al w D E' (x.a8 ρ) cs↔al w D E x cs)
 | .agg fs,cs,ho=>by simp only[al,I.a8,I.only] at *;exact aP.a8 ay fs cs ho
 | .bool b,cs,_ | .int k n,cs,_ | .bR s,cs,_ | .nilp,cs,_ | .dA,cs,_ | .dW,cs,_ | .any,cs,_ | .raw _,cs,_ | .nils _,cs,_ | .c0 _,cs,_ | .undef,cs,_ | .du,cs,_ | .tuple _,cs,_=>by simp only[al,I.a8]
 | .slice sz es,cs,ho=>by
  simp only[al,I.a8,I.only,pC] at *;have e1:(I.dm ρ es=[])↔es=[]:=by rw[←List.length_eq_zero_iff,pC,List.length_eq_zero_iff]
  have e2:(∀ e∈I.dm ρ es,e.size=sz)↔∀ e∈es,e.size=sz:=by
   rw[pD];constructor
   ·intro h e he;rw[←qY ρ e];exact h _ (zy5.2 ⟨e,he,rfl⟩)
   ·intro h e he;obtain ⟨e',he',rfl⟩:=zy5.1 he;rw[qY];exact h _ he'
  simp only[e1,e2];constructor
  ·rintro ⟨a,cap,U,ab,af,aq,h5⟩;refine ⟨a,cap,U,ab,af,?_,h5⟩;rcases aq with aq | ⟨b,off,cs',h6,h7,h8⟩
   ·exact .inl aq
   ·exact .inr ⟨b,off,cs',h6,h7,(aP.a8 ay es cs' ho).1 h8⟩
  ·rintro ⟨a,cap,U,ab,af,aq,h5⟩;refine ⟨a,cap,U,ab,af,?_,h5⟩;rcases aq with aq | ⟨b,off,cs',h6,h7,h8⟩
   ·exact .inl aq
   ·exact .inr ⟨b,off,cs',h6,h7,(aP.a8 ay es cs' ho).2 h8⟩
 | .ref x,cs,ho=>by
  simp only[al,I.a8,I.only] at *;constructor
  ·rintro ⟨b,off,cs',U,ab,af⟩;exact ⟨b,off,cs',U,ab,(al.a8 ay x cs' ho).1 af⟩
  ·rintro ⟨b,off,cs',U,ab,af⟩;exact ⟨b,off,cs',U,ab,(al.a8 ay x cs' ho).2 af⟩
 | .func f caps,cs,ho=>by
  simp only[al,I.a8,I.only] at *;constructor
  ·rintro ⟨vs,U,ab⟩;exact ⟨vs,U,(aG.a8 ay caps vs ho).1 ab⟩
  ·rintro ⟨vs,U,ab⟩;exact ⟨vs,U,(aG.a8 ay caps vs ho).2 ab⟩
 | .iface t v,cs,ho=>by
  simp only[al,I.a8,I.only,Gk] at *;constructor
  ·rintro ⟨u,cs',U,ab,af⟩;exact ⟨u,cs',U,ab,(al.a8 ay v cs' ho).1 af⟩
  ·rintro ⟨u,cs',U,ab,af⟩;exact ⟨u,cs',U,ab,(al.a8 ay v cs' ho).2 af⟩
 | .ptr n p,cs,ho=>by simp only[al,I.a8,I.only] at *;rw[ay n ho]
 | .own n k,cs,ho=>by simp only[al,I.a8,I.only] at *;rw[ay n ho]
 | .view n p _ _ _,cs,ho=>by simp only[al,I.a8,I.only] at *;rw[ay n ho]
 | .mref n,cs,ho=>by simp only[al,I.a8,I.only] at *;rw[ay n ho]
 | .dp n,cs,ho=>by simp only[al,I.a8,I.only] at *;rw[ay n ho]
 | .dk ks vs,cs,ho=>by
  simp only[al,I.a8,I.only,t8] at *;constructor
  ·rintro ⟨b,es,ck,U,ab,af,aq⟩;exact ⟨b,es,ck,U,ab,(aG.a8 ay ks _ ho.1).1 af,(aG.a8 ay vs _ ho.2).1 aq⟩
  ·rintro ⟨b,es,ck,U,ab,af,aq⟩;exact ⟨b,es,ck,U,ab,(aG.a8 ay ks _ ho.1).2 af,(aG.a8 ay vs _ ho.2).2 aq⟩
theorem aP.a8{w:World}{D:aU}{E E':bf}{p:Nat→Bool}{ρ:Nat→Nat}(ay:∀ n,p n=true→E' (ρ n)=E n):∀ (xs:List I) (cs:List Value),I.b6 p xs=true→(aP w D E' (I.dm ρ xs) cs↔aP w D E xs cs)
 | [],cs,_=>by simp only[aP,I.dm]
 |x::xs,cs,ho=>by
  simp only[aP,I.dm,I.b6,t8] at *;constructor
  ·rintro ⟨c1,c2,U,ab,af⟩;exact ⟨c1,c2,U,(al.a8 ay x c1 ho.1).1 ab,(aP.a8 ay xs c2 ho.2).1 af⟩
  ·rintro ⟨c1,c2,U,ab,af⟩;exact ⟨c1,c2,U,(al.a8 ay x c1 ho.1).2 ab,(aP.a8 ay xs c2 ho.2).2 af⟩
theorem aG.a8{w:World}{D:aU}{E E':bf}{p:Nat→Bool}{ρ:Nat→Nat}(ay:∀ n,p n=true→E' (ρ n)=E n):∀ (xs:List I) (vs:List Value),I.b6 p xs=true→(aG w D E' (I.dm ρ xs) vs↔aG w D E xs vs)
 | [],vs,_=>by simp only[aG,I.dm]
 |x::xs,vs,ho=>by
  simp only[aG,I.dm,I.b6,t8,Gk] at *;constructor
  ·rintro ⟨v,rest,cs,U,ab,af,aq⟩;exact ⟨v,rest,cs,U,ab,(al.a8 ay x cs ho.1).1 af,(aG.a8 ay xs rest ho.2).1 aq⟩
  ·rintro ⟨v,rest,cs,U,ab,af,aq⟩;exact ⟨v,rest,cs,U,ab,(al.a8 ay x cs ho.1).2 af,(aG.a8 ay xs rest ho.2).2 aq⟩
end
theorem bg.a8{w:World}{D:aU}{E E':bf}{p:Nat→Bool}{ρ:Nat→Nat}(ay:∀ n,p n=true→E' (ρ n)=E n){x:I}{v:Value}(ho:x.only p=true):bg w D E' (x.a8 ρ) v↔bg w D E x v:=by
 cases x <;>first
  |(simp only[bg,I.a8];done)
  |(simp only[bg,I.a8,I.only] at ho ⊢
    constructor
    ·rintro ⟨vs,U,ab⟩;exact ⟨vs,U,(aG.a8 ay _ _ ho).1 ab⟩
    ·rintro ⟨vs,U,ab⟩;exact ⟨vs,U,(aG.a8 ay _ _ ho).2 ab⟩)
  |(have key:=fun x cs=>al.a8 (w:=w) (D:=D) ay x cs
    refine exists_congr fun cs=>and_congr ?_ ?_
    ·first | exact Iff.rfl | simp only[bG,I.a8,I.isAgg]
    ·first | exact key _ cs ho | (have h:=key _ cs ho;simpa only[I.a8] using h))
mutual
/-- Values that read no memory: but they may name objects. -/
def I.dJ:I→Bool
 | .agg fs | .tuple fs=>I.jA fs
 | .func _ caps=>I.jA caps
 | .iface _ v=>v.dJ
 | .slice _ es=>es.isEmpty
 | .ref _ | .dk _ _=>false
 |_=>true
def I.jA:List I→Bool
 | []=>true
 |x::xs=>x.dJ&&I.jA xs
end
def ao.dJ:ao→Bool
 | .box x=>x.dJ
 | .bU _ _ es=>I.jA es
 | .dD _ _=>true
 | .dC _=>true
 | .bA ks vs=>I.jA ks&&I.jA vs
 | .it .. =>false
mutual
theorem al.dJ{w w':World}{D D':aU}{E:bf} : ∀ (x:I) (cs:List Value),x.dJ=true→al w D E x cs→al w' D' E x cs
 | .agg fs,cs,hf,hr=>by simp only[al,I.dJ] at *;exact aP.dJ fs cs hf hr
 | .bool b,cs,_,hr | .int k n,cs,_,hr | .bR s,cs,_,hr | .nilp,cs,_,hr | .dA,cs,_,hr | .dW,cs,_,hr | .any,cs,_,hr | .raw _,cs,_,hr | .nils _,cs,_,hr | .c0 _,cs,_,hr
 | .ptr _ _,cs,_,hr | .own _ _,cs,_,hr | .view _ _ _ _ _,cs,_,hr | .mref _,cs,_,hr | .dp _,cs,_,hr=>by simpa only[al] using hr
 | .func f caps,cs,hf,hr=>by
  simp only[al,I.dJ] at *;obtain ⟨vs,U,ab⟩:=hr;exact ⟨vs,U,aG.dJ caps vs hf ab⟩
 | .iface t v,cs,hf,hr=>by
  simp only[al,I.dJ] at *;obtain ⟨u,cs',U,ab,af⟩:=hr;exact ⟨u,cs',U,ab,al.dJ v cs' hf af⟩
 | .slice sz es,cs,hf,hr=>by
  simp only[al,I.dJ,List.isEmpty_iff] at *;subst hf;obtain ⟨a,cap,U,ab,af,_,h5⟩:=hr;exact ⟨a,cap,U,ab,af,.inl rfl,h5⟩
 | .ref _,_,hf,_ | .dk _ _,_,hf,_=>by simp[I.dJ] at hf
 | .undef,_,_,hr | .du,_,_,hr | .tuple _,_,_,hr=>by simp only[al] at hr
theorem aP.dJ{w w':World}{D D':aU}{E:bf} : ∀ (xs:List I) (cs:List Value),I.jA xs=true→aP w D E xs cs→aP w' D' E xs cs
 | [],cs,_,hr=>by simpa only[aP] using hr
 |x::xs,cs,hf,hr=>by
  simp only[aP,I.jA,t8] at *;obtain ⟨c1,c2,U,ab,af⟩:=hr;exact ⟨c1,c2,U,al.dJ x c1 hf.1 ab,aP.dJ xs c2 hf.2 af⟩
theorem aG.dJ{w w':World}{D D':aU}{E:bf} : ∀ (xs:List I) (vs:List Value),I.jA xs=true→aG w D E xs vs→aG w' D' E xs vs
 | [],vs,_,hr=>by simpa only[aG] using hr
 |x::xs,vs,hf,hr=>by
  simp only[aG,I.jA,t8] at *;obtain ⟨v,rest,cs,U,ab,af,aq⟩:=hr;exact ⟨v,rest,cs,U,ab,al.dJ x cs hf.1 af,aG.dJ xs rest hf.2 aq⟩
end
theorem bg.dJ{w w':World}{D D':aU}{E:bf}{x:I}{v:Value}(hf:x.dJ=true)(hr:bg w D E x v):bg w' D' E x v:=by
 cases x <;>simp only[bg] at * <;>first
  |exact hr
  |(obtain ⟨vs,U,ab⟩:=hr;exact ⟨vs,U,aG.dJ _ _ (by simpa[I.dJ] using hf) ab⟩)
  |(obtain ⟨cs,U,ab⟩:=hr;exact ⟨cs,U,al.dJ _ _ hf ab⟩)
def df(ρ:List (Nat×Nat))(os:List (Nat×ao)):List (Nat×ao):=os.map fun q=>(bx ρ q.1,q.2.a8 (bx ρ))
def pre(ρ:List (Nat×Nat))(os:List (Nat×ao))(n:Nat):Option Nat:=(os.find? fun q=>bx ρ q.1==n).map (·.1)
theorem xJ{os:List (Nat×ao)}{m:Nat} : av os m=true↔∃ q∈os,q.1=m:=by
 induction os with
 |nil=>simp[av,aj]
 |cons q os ih =>
  obtain ⟨k,v⟩:=q;simp only[av,aj] at *;by_cases h:m=k
  ·subst h;simp
  ·simp only[if_neg h,ih,zw9,Prod.exists,exists_and_right,exists_eq_right];constructor
   ·rintro ⟨a,b⟩;exact ⟨a,.inr b⟩
   ·rintro ⟨a,b | b⟩
    ·cases b;exact absurd rfl h
    ·exact ⟨a,b⟩
theorem jk{ρ:List (Nat×Nat)}{os:List (Nat×ao)}{n m:Nat}(h:pre ρ os n=some m):av os m=true∧bx ρ m=n:=by
 simp only[pre,t7] at h;obtain ⟨q,hq,rfl⟩:=h;exact ⟨xJ.2 ⟨q,List.mem_of_find?_eq_some hq,rfl⟩,by simpa using List.find?_some hq⟩
theorem vh{ρ:List (Nat×Nat)}{os:List (Nat×ao)}{n m:Nat}(h:pre ρ os n=none)(hm:av os m=true):bx ρ m≠n:=by
 simp only[pre,Option.map_eq_none_iff,List.find?_eq_none] at h;obtain ⟨q,hq,rfl⟩:=xJ.1 hm;simpa using h q hq
theorem qM(ρ:List (Nat×Nat))(os os0:List (Nat×ao))(n:Nat):aj (df ρ os++os0) n=match pre ρ os n with
  |some m=>(aj os m).map (ao.a8 (bx ρ))
  |none=>aj os0 n:=by
 induction os with
 |nil=>simp[df,pre]
 |cons q os ih =>
  obtain ⟨k,v⟩:=q;simp only[df,zz4,zz2,aj,pre,List.find?_cons] at *;by_cases h:bx ρ k=n
  ·subst h;simp
  ·rw[if_neg (Ne.symm h)];have hb:(bx ρ k==n)=false:=by simpa using h
   rw[hb,ih];simp only;cases hf:os.find? (fun q=>bx ρ q.1==n) with
   |none=>rfl
   |some q =>
    simp only[zy2];have hq:=List.find?_some hf;have hne:q.1≠k:=fun e=>h (by rw[←e];simpa using hq);rw[if_neg hne]
def ay(ρ:List (Nat×Nat))(os:List (Nat×ao))(E:bf):bf:=fun n=>if av os n then E (bx ρ n) else none
structure gE (ρ:List (Nat×Nat)) (os os0:List (Nat×ao)):Prop where
 fQ:∀ m x,aj os m=some x→aj os0 (bx ρ m)=some (x.a8 (bx ρ))∧x.only (av os)=true∧x.eg=true
 inj:∀ m m',av os m=true→av os m'=true→bx ρ m=bx ρ m'→m=m'
structure gm (aJ:Bool) (ρ:List (Nat×Nat)) (os os0:List (Nat×ao)) (r:I) (os':List (Nat×ao)):Prop where
 fQ:∀ m x,aj os' m=some x→x.only (av os')=true∧x.eg=true∧(aJ=true→x.dJ=true)
 inj:∀ m m',av os' m=true→av os' m'=true→bx ρ m=bx ρ m'→m=m'
 old:∀ m,av os m=true→av os' m=true
 jZ:∀ m,av os' m=true→av os m=false→aj os0 (bx ρ m)=none∧bx ρ m<1000000
 yM:r.only (av os')=true∧(aJ=true→r.dJ=true)
section
variable {c:cX} {a:Act} {w:World} {D:aU} {E:bf} {ts:List (Nat×I)} {os0 os:List (Nat×ao)} {ρ:List (Nat×Nat)}
theorem aY.given(hs:aY c (au ts os0) a w D E)(hg:gE ρ os os0){m:Nat}(hm:av os m=true):∃ x e,aj os m=some x∧ay ρ os E m=some e∧E (bx ρ m)=some e∧cN (fun _=>True) w D (ay ρ os E) m (some x) ∧
  ∀ b,e.aH=some b→c.e9 b∧(∃ o,w.heap[b]?=some o∧yd o=true)∧b<w.heap.size∧(e.eg=true→∀ o,¬ D b o):=by
 cases hx:aj os m with
 |none=>simp[av,hx] at hm
 |some x =>
  obtain ⟨U,ab,af⟩:=hg.fQ m x hx;have ho:=hs.bP (bx ρ m);simp only[au] at ho;rw[U] at ho;have hEm:ay ρ os E m=E (bx ρ m):=by simp only[ay,hm,if_true]
  have hin:∀ n,av os n=true→E (bx ρ n)=ay ρ os E n:=fun n hn=>by simp only[ay,hn,if_true]
  cases x with
  |bU T sz es =>
   obtain ⟨aH,k1,k2,k3⟩:=ho;rw[pC] at k1;have h2':I.b6 (av os) es=true:=ab;have k2':∀ e∈es,e.size=sz:=fun e he=>by rw[←qY (bx ρ) e];exact k2 _ (by rw[pD];exact zy5.2 ⟨e,he,rfl⟩)
   refine ⟨_,_,rfl,hEm.trans k1,k1,⟨aH,hEm.trans k1,k2',?_⟩,fun b hb =>?_⟩
   ·cases aH with
    |none=>simp only[pD,List.map_eq_nil_iff] at k3;exact k3
    |some bc =>
     obtain ⟨b,cap⟩:=bc;obtain ⟨cs,pr,rest,q1,q2,q3,q4,q5,q6,q7,q8⟩:=k3;rw[pC] at q6;exact ⟨cs,pr,rest,trivial,q2,q3,(aP.a8 (p:=av os) hin es _ h2').1 q4,q5,q6,q7,q8⟩
   ·cases aH with
    |none=>cases hb
    |some bc =>
     obtain ⟨b',cap⟩:=bc;cases hb;obtain ⟨cs,pr,rest,q1,q2,_⟩:=k3;exact ⟨q1,⟨_,q2,rfl⟩,fS q2,fun h=>by cases h⟩
  |box y =>
   obtain ⟨b,cs,T,k1,k2,k3,k4,k5⟩:=ho;rw[vt] at k1;refine ⟨_,_,rfl,hEm.trans k1,k1,⟨b,cs,T,hEm.trans k1,trivial,k3,?_,k5⟩,fun b' hb =>?_⟩
   ·exact (al.a8 (p:=av os) hin y _ (by simpa[ao.only] using ab)).1 k4
   ·cases hb;exact ⟨k2,⟨_,k3,rfl⟩,fS k3,fun _=>k5⟩
  |dC o =>
   obtain ⟨b,k1,k2,k3,k4,k5⟩:=ho;exact ⟨_,_,rfl,hEm.trans k1,k1,⟨b,hEm.trans k1,trivial,k3,k4,k5⟩,fun b' hb=>by cases hb;exact ⟨k2,⟨_,k3,XL k4⟩,fS k3,fun _=>k5⟩⟩
  |bA ks vs =>
   obtain ⟨b,es,ck,k1,k2,k3,k4,k5,k6,k7⟩:=ho;simp only[ao.only,t8] at ab;exact ⟨_,_,rfl,hEm.trans k1,k1,⟨b,es,ck,hEm.trans k1,trivial,k3,k4,(aG.a8 (p:=av os) hin ks _ ab.1).1 k5,(aG.a8 (p:=av os) hin vs _ ab.2).1 k6,k7⟩,
    fun b' hb=>by cases hb;exact ⟨k2,⟨_,k3,rfl⟩,fS k3,fun _=>k7⟩⟩
  |it ks vs left cur=>cases af
  |dD T xs =>
   obtain ⟨aH,k1,k2,k3⟩:=ho;refine ⟨_,_,rfl,hEm.trans k1,k1,⟨aH,hEm.trans k1,k2,?_⟩,fun b hb =>?_⟩
   ·cases aH with
    |none=>exact k3
    |some bc =>
     obtain ⟨b,cap⟩:=bc;obtain ⟨cs,r,q1,q2⟩:=k3;exact ⟨cs,r,trivial,q2⟩
   ·cases aH with
    |none=>cases hb
    |some bc =>
     obtain ⟨b',cap⟩:=bc;cases hb;obtain ⟨cs,r,q1,q2,_⟩:=k3;exact ⟨q1,⟨_,q2,rfl⟩,fS q2,fun h=>by cases h⟩
theorem aY.uv(hs:aY c (au ts os0) a w D E)(hg:gE ρ os os0){b:Nat}(hb:cE (ay ρ os E) b):∃ m e,av os m=true∧E (bx ρ m)=some e∧e.aH=some b∧c.e9 b∧(∃ o,w.heap[b]?=some o∧yd o=true)∧b<w.heap.size:=by
 obtain ⟨m,e,U,ab⟩:=hb;by_cases hm:av os m=true
 ·obtain ⟨x,e',k1,k2,k3,k4,k5⟩:=hs.given hg hm;rw[k2,v6] at U;subst U;obtain ⟨q1,q2,q3,_⟩:=k5 b ab;exact ⟨m,_,hm,k3,ab,q1,q2,q3⟩
 ·simp[ay,hm] at U
theorem aY.Dp(hs:aY c (au ts os0) a w D E)(hg:gE ρ os os0){D1:aU}(hD:∀ b o,D b o→D1 b o)(hown:∀ b o,D1 b o→cE (ay ρ os E) b→D b o):ki (fun _=>True) w D1 (ay ρ os E) (aj os):=by
 refine ⟨fun n =>?_,fun n m e e' b U ab af aq =>?_⟩
 ·cases hx:aj os n with
  |none=>simp[cN,ay,av,hx]
  |some x =>
   have hm:av os n=true:=by simp[av,hx]
   obtain ⟨y,e,k1,k2,k3,k4,k5⟩:=hs.given hg hm;rw[hx,v6] at k1;subst k1;refine k4.later (E':=ay ρ os E) ⟨hD,fun _ _ _ _ h=>h,fun _ _ _ h=>h,fun _ aH l h=>⟨aH,l,h,zz5 _,fun _=>rfl⟩,fun _ _ h=>h,fun _ _ h=>h,fun _ _ _ _ h=>h⟩ rfl fun e' b' he hb'=>⟨rfl,fun o ho =>?_⟩
   exact hown b' o ho ⟨n,e',he,hb'⟩
 ·have hn:av os n=true:=by
   by_cases h:av os n=true;· exact h
   ·simp[ay,h] at U
  have hm:av os m=true:=by
    by_cases h:av os m=true;· exact h
    ·simp[ay,h] at ab
  simp only[ay,hn,hm,if_true] at U ab;exact hg.inj n m hn hm (hs.cO _ _ e e' b U ab af aq)
theorem aY.gG(hs:aY c (au ts os0) a w D E)(hg:gE ρ os os0){aJ:Bool}{D1:aU}(hD:∀ b o,D b o→D1 b o)(hbx:aJ=false→∀ b o,D1 b o→D b o){w':World}{D':aU}{E':bf}{v:Value}{r:I}{os':List (Nat×ao)}
  (hb:gm aJ ρ os os0 r os') (hr:bg w' D' E' r v) (hh:ki (fun b=>w.heap.size≤b∨cE (ay ρ os E) b) w' D' E' (aj os')) (hk:e8 (fun b=>w.heap.size≤b∨cE (ay ρ os E) b) w w')
  (hlive:∀ b o,D' b o→b<w'.heap.size) (hup:∀ b o,D1 b o→D' b o) (hst:h4 w D1 w') (hold:∀ b o,D' b o→b<w.heap.size→¬ cE (ay ρ os E) b→D1 b o) (hbox:∀ n e,ay ρ os E n=some e→av os' n=true→∃ e',E' n=some e'∧e.le e') :
  ∃ D2 E2,aY c (au ts (df ρ os'++os0)) a w' D2 E2∧bg w' D2 E2 (r.a8 (bx ρ)) v∧∀ m e,ay ρ os E m=some e→av os' m=true→∃ e',E2 (bx ρ m)=some e'∧e.le e':=by
 obtain ⟨M1,hM1⟩:∃ M1:Nat→Prop,M1=fun b=>w.heap.size≤b∨cE (ay ρ os E) b:=⟨_,rfl⟩
 rw[←hM1] at hh hk;obtain ⟨D2,hD2⟩:∃ D2:aU,D2=fun b o=>D b o∨(M1 b∧D' b o):=⟨_,rfl⟩
 obtain ⟨E2,hE2⟩:∃ E2:bf,E2=fun n=>match pre ρ os' n with | some m=>E' m | none=>E n:=⟨_,rfl⟩
 have kv:∀ b,M1 b→c.e9 b:=fun b hb'=>by
  rw[hM1] at hb';rcases hb' with h | h
  ·exact .inl (Nat.le_trans hs.dG.size h)
  ·obtain ⟨m,e,_,_,_,af,_⟩:=hs.uv hg h;exact af
 have upD:∀ b o,D b o→D' b o:=fun b o ah=>hup b o (hD b o ah);have E2m:∀ m,av os' m=true→E2 (bx ρ m)=E' m:=fun m hm=>by
  rw[hE2];simp only;cases hp:pre ρ os' (bx ρ m) with
  |none=>exact absurd rfl (vh hp hm)
  |some m' =>
   obtain ⟨U,ab⟩:=jk hp;rw[hb.inj m' m U hm ab]
 have E2o:∀ n,pre ρ os' n=none→E2 n=E n:=fun n hn=>by rw[hE2];simp only[hn]
 -- a name that has a new meaning: one that was handed over,or one that was free
 have cas:∀ n m,pre ρ os' n=some m→(av os m=true∧∃ e e',E n=some e∧E' m=some e'∧e.le e')∨(av os m=false∧E n=none∧c.dn n=none):=fun n m hp=>by
  obtain ⟨U,ab⟩:=jk hp;cases hm:av os m with
  |true =>
   obtain ⟨y,e,k1,k2,k3,_⟩:=hs.given hg hm;rw[ab] at k3;obtain ⟨e',q1,q2⟩:=hbox m e k2 U;exact .inl ⟨rfl,e,e',k3,q1,q2⟩
  |false =>
   obtain ⟨k1,k2⟩:=hb.jZ m U hm;rw[ab] at k1 k2;have ho:=hs.bP n;simp only[au,k1] at ho;exact .inr ⟨rfl,ho,hs.kT (.inr k2)⟩
 have hl:dU w D E w' D2 E2:=by
  have ez:∀ n e,E n=some e→∃ e',E2 n=some e'∧e.le e':=fun n e he=>by
   cases hp:pre ρ os' n with
   |none=>exact ⟨e,by rw[E2o n hp];exact he,.refl e⟩
   |some m =>
    rw[hE2];simp only[hp];rcases cas n m hp with ⟨_,e1,e2,k1,k2,k3⟩ | ⟨_,k1,_⟩
    ·rw[he] at k1;cases k1;exact ⟨e2,k2,k3⟩
    ·rw[he] at k1;cases k1
  have keepf:∀ n e,E n=some e→e.eg=true→E2 n=some e:=fun n e he hf=>by
   obtain ⟨e',k1,k2⟩:=ez n e he;rw[k1,k2.eq hf]
  refine ⟨fun b o h=>by rw[hD2];exact .inl h,fun b o v' ah hv=>hst.cell b o v' (hD b o ah) hv,fun n b bd he=>keepf n _ he rfl,fun n aH l he =>?_,fun n b he=>keepf n _ he rfl,fun n b he=>keepf n _ he rfl,fun b es ck ah hm=>hst.jB b es ck (hD b 0 ah) hm⟩;obtain ⟨e',k1,k2⟩:=ez n _ he;rcases k2 with rfl | ⟨_,_,blk',l',e,rfl,k3,k4⟩
  ·exact ⟨aH,l,k1,zz5 _,fun _=>rfl⟩
  ·cases e;exact ⟨blk',l',k1,k3,k4⟩
 -- blocks of names that were not handed over
 have other:∀ n e b,pre ρ os' n=none→E n=some e→e.aH=some b→¬ M1 b:=fun n e b hp he hb' hm=>by
  rw[hM1] at hm;rcases hm with h | h
  ·exact absurd (hs.gq he hb') (by omega)
  ·obtain ⟨m,e',U,ab,af,_⟩:=hs.uv hg h;have:=hs.cO n (bx ρ m) e _ b he ab hb' af;exact vh hp (hb.old m U) this.symm
 have toD2:∀ {x:I} {cs:List Value},(aJ=true→x.dJ=true)→al w' D' E2 x cs→al w' D2 E2 x cs:=fun {x cs} hx h=>by
  cases hbb:aJ with
  |true=>exact al.dJ x cs (hx hbb) h
  |false =>
   refine al.later (E:=E2) ⟨fun b o ah =>?_,fun _ _ _ _ h=>h,fun _ _ _ h=>h,fun _ aH l h=>⟨aH,l,h,zz5 _,fun _=>rfl⟩,fun _ _ h=>h,fun _ _ h=>h,fun _ _ _ _ h=>h⟩ x cs h;rw[hD2];by_cases hm:M1 b
   ·exact .inr ⟨hm,ah⟩
   ·rw[hM1] at hm;exact .inl (hbx hbb b o (hold b o ah (Nat.lt_of_not_le fun h=>hm (.inl h)) fun h=>hm (.inr h)))
 have toD2c:∀ {xs:List I} {cs:List Value},I.b6 (av os') xs=true→(aJ=true→I.jA xs=true)→aP w' D' E' xs cs→aP w' D2 E2 (I.dm (bx ρ) xs) cs:=fun {xs cs} ho hx h=>by
  cases hbb:aJ with
  |true=>exact (aP.a8 (w:=w') (D:=D2) (p:=av os') (ρ:=bx ρ) (E:=E') (E':=E2) (fun n hn=>E2m n hn) xs cs ho).2 (aP.dJ xs cs (hx hbb) h)
  |false =>
   have ab:=(aP.a8 (w:=w') (D:=D') (p:=av os') (ρ:=bx ρ) (E:=E') (E':=E2) (fun n hn=>E2m n hn) xs cs ho).2 h;refine aP.later (E:=E2) ⟨fun b o ah =>?_,fun _ _ _ _ h=>h,fun _ _ _ h=>h,fun _ aH l h=>⟨aH,l,h,zz5 _,fun _=>rfl⟩,fun _ _ h=>h,fun _ _ h=>h,fun _ _ _ _ h=>h⟩ _ cs ab;rw[hD2];by_cases hm:M1 b
   ·exact .inr ⟨hm,ah⟩
   ·rw[hM1] at hm;exact .inl (hbx hbb b o (hold b o ah (Nat.lt_of_not_le fun h=>hm (.inl h)) fun h=>hm (.inr h)))
 have toD2s:∀ {xs:List I} {cs:List Value},I.b6 (av os') xs=true→(aJ=true→I.jA xs=true)→aG w' D' E' xs cs→aG w' D2 E2 (I.dm (bx ρ) xs) cs:=fun {xs cs} ho hx h=>by
  cases hbb:aJ with
  |true=>exact (aG.a8 (w:=w') (D:=D2) (p:=av os') (ρ:=bx ρ) (E:=E') (E':=E2) (fun n hn=>E2m n hn) xs cs ho).2 (aG.dJ xs cs (hx hbb) h)
  |false =>
   have ab:=(aG.a8 (w:=w') (D:=D') (p:=av os') (ρ:=bx ρ) (E:=E') (E':=E2) (fun n hn=>E2m n hn) xs cs ho).2 h;refine aG.later (E:=E2) ⟨fun b o ah =>?_,fun _ _ _ _ h=>h,fun _ _ _ h=>h,fun _ aH l h=>⟨aH,l,h,zz5 _,fun _=>rfl⟩,fun _ _ h=>h,fun _ _ h=>h,fun _ _ _ _ h=>h⟩ _ cs ab;rw[hD2];by_cases hm:M1 b
   ·exact .inr ⟨hm,ah⟩
   ·rw[hM1] at hm;exact .inl (hbx hbb b o (hold b o ah (Nat.lt_of_not_le fun h=>hm (.inl h)) fun h=>hm (.inr h)))
 refine ⟨D2,E2,⟨hs.sz,hs.eB.mono fun B _ hB =>?_,fun t=>bg.later hl (hs.dN t),hs.dG.trans ⟨hk.os,hk.tape,hk.output,hk.size,fun k hk'=>hk.block k fun h=>hk' (kv k h)⟩,fun b o ah hm =>?_,fun b o ah =>?_,fun n =>?_,?_,fun n e hn =>?_,hs.eL,
  fun b o ah=>hl.cZ b o (hs.cR b o ah),hs.eV,hs.lp hl⟩,?_,fun m e k1 k3=>by rw[E2m m k3];exact hbox m e k1 k3⟩
 ·refine (hk.block B fun hm =>?_).trans hB;rw[hM1] at hm;rcases hm with h | h
  ·exact absurd (zy7.1 hB).1 (by omega)
  ·obtain ⟨m,e,_,_,_,_,⟨o,aq,h5⟩,_⟩:=hs.uv hg h;rw[hB] at aq;cases aq;cases h5
 ·rw[hD2] at ah;rcases ah with ah | ⟨U,_⟩
  ·exact hs.cZ b o ah hm
  ·exact absurd (kv b U) hm
 ·rw[hD2] at ah;rcases ah with ah | ⟨_,U⟩
  ·exact Nat.lt_of_lt_of_le (hs.aQ b o ah) hk.size
  ·exact hlive b o U
 ·simp only[au,qM];cases hp:pre ρ os' n with
  |none =>
   simp only;refine (hs.bP n).later hl (E2o n hp) fun e b he hb'=>⟨hk.block b (other n e b hp he hb'),fun o ho =>?_⟩
   rw[hD2] at ho;rcases ho with ho | ⟨U,_⟩
   ·exact ho
   ·exact absurd U (other n e b hp he hb')
  |some m =>
   simp only;obtain ⟨U,ab⟩:=jk hp;cases hx:aj os' m with
   |none=>simp[av,hx] at U
   |some x =>
    obtain ⟨k1,kf,k2⟩:=hb.fQ m x hx;have ho:=hh.bP m;rw[hx] at ho;have noD:∀ b,(∀ o,¬ D' b o)→∀ o,¬ D2 b o:=fun b hno o ho=>by
     rw[hD2] at ho;rcases ho with ho | ⟨_,ho⟩
     ·exact hno o (upD b o ho)
     ·exact hno o ho
    cases x with
    |bU T sz es =>
     obtain ⟨aH,q1,q2,q3⟩:=ho;simp only[zy2,ao.a8,cN,pC];refine ⟨aH,by rw[←ab,E2m m U];exact q1,fun e he =>?_,?_⟩
     ·rw[pD] at he;obtain ⟨e',he',rfl⟩:=zy5.1 he;rw[qY];exact q2 e' he'
     ·cases aH with
      |none=>simp only at q3 ⊢;rw[q3];rfl
      |some bc =>
       obtain ⟨b,cap⟩:=bc;obtain ⟨cs,pr,rest,g1,g2,g3,g4,g5,g6,g7,g8⟩:=q3;refine ⟨cs,pr,rest,kv b g1,g2,g3,toD2c (by simpa[ao.only] using k1) (fun h=>by simpa[ao.dJ] using k2 h) g4,g5,g6,g7,fun o ho =>?_⟩;rw[hD2] at ho;rcases ho with ho | ⟨_,ho⟩
       ·exact g8 o (upD b o ho)
       ·exact g8 o ho
    |dD T xs =>
     obtain ⟨aH,q1,q2,q3⟩:=ho;simp only[zy2,ao.a8,cN];refine ⟨aH,by rw[←ab,E2m m U];exact q1,q2,?_⟩;cases aH with
     |none=>exact q3
     |some bc =>
      obtain ⟨b,cap⟩:=bc;obtain ⟨cs,r,g1,g2,g3,g4,g5,g6,g7⟩:=q3;exact ⟨cs,r,kv b g1,g2,g3,g4,g5,g6,noD b g7⟩
    |dC x =>
     obtain ⟨b,q1,q2,q3,q4,q5⟩:=ho;simp only[zy2,ao.a8,cN];exact ⟨b,by rw[←ab,E2m m U];exact q1,kv b q2,q3,q4,noD b q5⟩
    |it ks vs left cur=>cases kf
    |bA ks vs =>
     obtain ⟨b,es,ck,q1,q2,q3,q4,q5,q6,q7⟩:=ho;simp only[zy2,ao.a8,cN];simp only[ao.only,t8] at k1;simp only[ao.dJ,t8] at k2;exact ⟨b,es,ck,by rw[←ab,E2m m U];exact q1,kv b q2,q3,q4,toD2s k1.1 (fun h=>(k2 h).1) q5,toD2s k1.2 (fun h=>(k2 h).2) q6,noD b q7⟩
    |box y =>
     obtain ⟨b,cs,T,q1,q2,q3,q4,q5⟩:=ho;simp only[zy2,ao.a8,cN];refine ⟨b,cs,T,by rw[vt,←ab,E2m m U];exact q1,kv b q2,q3,?_,noD b q5⟩;have af:=(al.a8 (w:=w') (D:=D') (p:=av os') (ρ:=bx ρ) (E:=E') (E':=E2) (fun n hn=>E2m n hn) y cs.toList (by simpa[ao.only] using k1)).2 q4;cases hbb:aJ with
     |true =>
      have aq:al w' D2 E' y cs.toList:=al.dJ y _ (k2 hbb) q4;exact (al.a8 (w:=w') (D:=D2) (p:=av os') (ρ:=bx ρ) (E:=E') (E':=E2) (fun n hn=>E2m n hn) y cs.toList (by simpa[ao.only] using k1)).2 aq
     |false=>exact toD2 (fun h=>by rw[hbb] at h;cases h) af
 ·intro n m e e' b U ab af aq;have blk':∀ n m e,pre ρ os' n=some m→E2 n=some e→e.aH=some b→M1 b∧E' m=some e:=fun n m e hp he hb'=>by
   obtain ⟨k1,k2⟩:=jk hp;rw[←k2,E2m m k1] at he;cases hx:aj os' m with
   |none=>simp[av,hx] at k1
   |some x =>
    obtain ⟨_,kf,_⟩:=hb.fQ m x hx;have ho:=hh.bP m;rw[hx] at ho;cases x with
    |bU T sz es =>
     obtain ⟨aH,q1,q2,q3⟩:=ho;rw[q1,v6] at he;subst he;cases aH with
     |none=>cases hb'
     |some bc =>
      obtain ⟨b',cap⟩:=bc;cases hb';obtain ⟨cs,pr,rest,g1,_⟩:=q3;exact ⟨g1,q1⟩
    |it ks vs left cur=>cases kf
    |dD T xs =>
     obtain ⟨aH,q1,q2,q3⟩:=ho;rw[q1,v6] at he;subst he;cases aH with
     |none=>cases hb'
     |some bc =>
      obtain ⟨b',cap⟩:=bc;cases hb';obtain ⟨cs,r,g1,_⟩:=q3;exact ⟨g1,q1⟩
    |bA ks vs =>
     obtain ⟨b',es,ck,q1,q2,_⟩:=ho;rw[q1,v6] at he;subst he;cases hb';exact ⟨q2,q1⟩
    |dC x =>
     obtain ⟨b',q1,q2,_⟩:=ho;rw[q1,v6] at he;subst he;cases hb';exact ⟨q2,q1⟩
    |box y =>
     obtain ⟨b',cs,T,q1,q2,_⟩:=ho;rw[q1,v6] at he;subst he;cases hb';exact ⟨q2,q1⟩
  cases hn:pre ρ os' n with
  |none =>
   have g1:E n=some e:=by rw[←E2o n hn];exact U
   cases hm:pre ρ os' m with
   |none=>exact hs.cO n m e e' b g1 (by rw[←E2o m hm];exact ab) af aq
   |some m'=>exact absurd (blk' m m' e' hm ab aq).1 (other n e b hn g1 af)
  |some n' =>
   have g1:=blk' n n' e hn U af;cases hm:pre ρ os' m with
   |none=>exact absurd g1.1 (other m e' b hm (by rw[←E2o m hm];exact ab) aq)
   |some m' =>
    have g2:=blk' m m' e' hm ab aq;have:=hh.cO n' m' e e' b g1.2 g2.2 af aq;rw[←(jk hn).2,←(jk hm).2,this]
 ·cases hp:pre ρ os' n with
  |none=>rw[E2o n hp];exact hs.dQ n e hn
  |some m =>
   rcases cas n m hp with ⟨_,e1,e2,k1,k2,k3⟩ | ⟨_,_,k1⟩
   ·rcases hs.dQ n e hn with h | ⟨e3,h,h'⟩
    ·rw[h] at k1;cases k1
    ·rw[k1,v6] at h;subst h
     right
     rw[hE2];simp only[hp];exact ⟨e2,k2,h'.trans k3⟩
   ·rw[hn] at k1;cases k1
 ·have af:=(bg.a8 (w:=w') (p:=av os') (ρ:=bx ρ) (E:=E') (E':=E2) (D:=D') (fun n hn=>E2m n hn) (v:=v) hb.yM.1).2 hr;cases hbb:aJ with
  |true=>exact (bg.a8 (w:=w') (p:=av os') (ρ:=bx ρ) (E:=E') (E':=E2) (D:=D2) (fun n hn=>E2m n hn) (v:=v) hb.yM.1).2 (bg.dJ (hb.yM.2 hbb) hr)
  |false =>
   refine bg.later (E:=E2) ⟨fun b o ah =>?_,fun _ _ _ _ h=>h,fun _ _ _ h=>h,fun _ aH l h=>⟨aH,l,h,zz5 _,fun _=>rfl⟩,fun _ _ h=>h,fun _ _ h=>h,fun _ _ _ _ h=>h⟩ af;rw[hD2];by_cases hm:M1 b
   ·exact .inr ⟨hm,ah⟩
   ·rw[hM1] at hm;exact .inl (hbx hbb b o (hold b o ah (Nat.lt_of_not_le fun h=>hm (.inl h)) fun h=>hm (.inr h)))
end
theorem vP(z:Array Value):∀ n:Nat,(Builtin.zeroCells z n).toList=(List.replicate n z.toList).flatten
 |0=>by simp[Builtin.zeroCells]
 |n+1=>by
  rw[List.replicate_succ,List.flatten_cons,←vP z n];apply List.ext_getElem?;intro i;by_cases hz:z.size=0
  ·have hz':z = #[]:=Array.eq_empty_of_size_eq_zero hz;subst hz';simp[Builtin.zeroCells]
  have hpos:0<z.size:=Nat.pos_of_ne_zero hz;by_cases hi:i<z.toList.length
  ·rw[zy6 hi];have hi':i<z.size:=by simpa using hi
   have U:i<(n+1)*z.size:=by rw[Nat.succ_mul];omega
   simp only[Builtin.zeroCells,Array.toList_map,Array.toList_range,zx4,List.getElem?_range U,zy2,Nat.mod_eq_of_lt hi'];simp[hi']
  ·rw[zw5 (by omega)];have hi':z.size≤i:=by simpa using hi
   simp only[Builtin.zeroCells,Array.toList_map,Array.toList_range,zx4,zw2];by_cases ab:i<(n+1)*z.size
   ·have af:i-z.size<n*z.size:=by rw[Nat.succ_mul] at ab;omega
    rw[List.getElem?_range ab,List.getElem?_range af];simp only[zy2];rw[←Nat.mod_eq_sub_mod hi']
   ·have af:¬ i-z.size<n*z.size:=by rw[Nat.succ_mul] at ab;omega
    rw[List.getElem?_eq_none (by simpa using ab),List.getElem?_eq_none (by simpa using af)]
theorem sW{w:World}{D:aU}{E:bf}{z:I}{cs:List Value}(h:al w D E z cs):∀ n:Nat,aP w D E (List.replicate n z) (List.replicate n cs).flatten
 |0=>by simp[aP]
 |n+1=>by
  simp only[List.replicate_succ,List.flatten_cons,aP];exact ⟨cs,_,rfl,h,sW h n⟩
def eC(A:ai)(sz:Nat):I→Option (List I)
 | .slice z es=>if z=sz then some es else none
 | .nils _=>some []
 | .c0 _=>some []
 | .own n l=>match A.o n with
  |some (.bU _ z es)=>if l=es.length∧z=sz then some es else none
  |_=>none
 | .view n p z lo k=>match cJ A (.ptr n p) with
  |some (.agg fs)=>if lo+k≤fs.length∧z=sz then some ((fs.drop lo).take k) else none
  |_=>none
 |_=>none
section
variable {c:cX} {A:ai} {a:Act} {w:World} {D:aU} {E:bf}
theorem aY.view(h:aY c A a w D E){n:Nat}{p:List Nat}{sz lo k:Nat}{v:Value}{fs:List I}(hv:bg w D E (.view n p sz lo k) v)(hx:cJ A (.ptr n p)=some (.agg fs)) :
  ∃ y b cs T off c1 c2 c3,A.o n=some (.box y)∧E n=some (.aJ b y.bd)∧w.heap[b]?=some (.cells cs T (0,0))∧y.at p=some (.agg fs)∧y.bd.off p=some off∧cs.toList=c1++c2++c3∧c1.length=off∧aP w D E fs c2 ∧
   al w D E y cs.toList∧(∀ f∈fs,f.size=sz)∧lo+k≤fs.length∧fs.length≤maxLen∧v=.slice (some ⟨b,off+lo*sz,none⟩) k (fs.length-lo):=by
 obtain ⟨z,b',cs',T,off',c1,c2,c3,k1,k2,_,k3,k4,k5,k6,k7,k8,k9,_⟩:=h.at hx;obtain ⟨vs,g1,g2⟩:=hv;simp only[al] at g2;obtain ⟨b,bd,off,l,U,ab,af,aq,h5,h6,h7⟩:=g2;rw[k2] at U;simp only[v6,bM.aJ.injEq] at U;obtain ⟨rfl,rfl⟩:=U;rw[k5,v6] at ab;subst ab;rw[ny p z _ k4] at af;simp only[I.bd,v6,cS.eK.injEq] at af;subst af;rw[I.dw,zz7] at aq h5 h6;refine ⟨z,b',cs',T,off',c1,c2,c3,k1,k2,k3,k4,k5,k6,k7,by simpa only[al] using k8,k9,GL h7,h6,h5,?_⟩;simpa[bG,I.isAgg,aq] using g1.symm
theorem aY.oB(h:aY c A a w D E){sz:Nat}{x:I}{v:Value}{ys:List I}(hv:bg w D E x v)(hs:eC A sz x=some ys) :
  ∃ ad cp news,v=.slice ad ys.length cp∧ys.length≤cp∧cp≤maxLen∧aP w D E ys news∧(∀ y∈ys,y.size=sz)∧(ys≠[]→∃ b o,ad=some ⟨b,o,none⟩∧∀ j u,news[j]?=some u→w.cell? ⟨b,o+j,none⟩=some u):=by
 cases x <;>simp only[eC] at hs <;>try (cases hs;done)
 case nils z =>
  simp only[v6] at hs;subst hs;obtain ⟨cs,q1,q2⟩:=hv;simp only[al] at q2;exact ⟨none,0,[],by simpa[bG,I.isAgg,q2] using q1.symm,by simp,by simp[maxLen],by simp[aP],by simp,fun h=>absurd rfl h⟩
 case c0 z =>
  simp only[v6] at hs;subst hs;obtain ⟨cs,q1,q2⟩:=hv;simp only[al] at q2;obtain ⟨ad,q2⟩:=q2;exact ⟨ad,0,[],by simpa[bG,I.isAgg,q2] using q1.symm,by simp,by simp[maxLen],by simp[aP],by simp,fun h=>absurd rfl h⟩
 case slice z es =>
  split at hs
  ·rename_i hz;simp only[v6] at hs;subst hs hz;obtain ⟨ad,cap,e1,e2,e3,e4,e5⟩:=ox hv;rcases e4 with rfl | ⟨b,off,cs,rfl,q1,q2⟩
   ·exact ⟨ad,cap,[],e1,e2,e3,by simp[aP],by simp,fun h=>absurd rfl h⟩
   ·exact ⟨_,cap,cs,e1,e2,e3,q2,e5,fun _=>⟨b,off,rfl,fun j u hj=>(q1 j u hj).1⟩⟩
  ·cases hs
 case own n l =>
  split at hs
  ·rename_i T z es hn;split at hs
   ·rename_i hz;obtain ⟨hz1,rfl⟩:=hz;simp only[v6] at hs;subst hs;obtain ⟨aH,k1,k2,k3⟩:=h.bU hn;obtain ⟨cs,q1,q2⟩:=hv;simp only[al] at q2;obtain ⟨blk',l',g1,g2,_,g4⟩:=q2;rw[k1] at g1;simp only[v6,bM.rw.injEq] at g1;obtain ⟨rfl,rfl⟩:=g1
    replace g4:=g4 hz1
    cases aH with
    |none =>
     simp only at k3 g4;subst k3;have hv':v=.slice none 0 0:=by rw[g4] at q1;simpa[bG,I.isAgg] using q1.symm
     exact ⟨none,0,[],hv',by simp,by simp[maxLen],by simp[aP],by simp,fun h=>absurd rfl h⟩
    |some bc =>
     obtain ⟨b,cap⟩:=bc;simp only at g4;obtain ⟨cs',pre,rest,k4,k5,k6,k7,k8,k9,k10,k11⟩:=k3;refine ⟨some ⟨b,0,none⟩,cap,pre,by rw[←hz1];simpa[bG,I.isAgg,g4] using q1.symm,k9,k10,k7,k2,fun _=>⟨b,0,rfl,fun j u hj =>?_⟩⟩;have:=(pz (D:=fun _ _=>True) (c1:=[]) (c2:=pre) (c3:=rest) k5 (by simpa using k6) (fun _ _=>trivial)) j u hj;simpa using this.1
   ·cases hs
  ·cases hs
 case view n p z lo k =>
  split at hs
  ·rename_i fs hx;split at hs
   ·rename_i hk;obtain ⟨hk,rfl⟩:=hk;simp only[v6] at hs;subst hs;obtain ⟨y,b,cs,T,off,c1,c2,c3,k1,k2,k3,k4,k5,k6,k7,k8,k9,k10,k11,k12,rfl⟩:=h.view hv hx;obtain ⟨d1,d2,d3,rfl,q1,q2,q3⟩:=vn k8 k10 lo k hk;have hlen:((fs.drop lo).take k).length=k:=by rw[zx7,List.length_drop];omega
    refine ⟨some ⟨b,off+lo*z,none⟩,fs.length-lo,d2,by rw[hlen],by rw[hlen];omega,by omega,q2,fun y hy=>k10 y (List.mem_of_mem_drop (List.mem_of_mem_take hy)),fun _=>⟨b,_,rfl,fun j u hj =>?_⟩⟩;have:=(pz (D:=fun _ _=>True) (c1:=c1++d1) (c2:=d2) (c3:=d3++c3) k3 (by rw[k6];simp) (fun _ _=>trivial)) j u hj;rw[zz6,k7,q1] at this;exact this.1
   ·cases hs
  ·cases hs
theorem aY.jo(h:aY c A a w D E){n:Nat}{p:List Nat}{sz j:Nat}{y:I}{fs ys:List I}{b off:Nat}{cs:Array Value}{T:TypeId}{c1 c2 c3 ds:List Value}(hn:A.o n=some (.box y))(ay:E n=some (.aJ b y.bd))(hb:w.heap[b]?=some (.cells cs T (0,0)))
  (hat:y.at p=some (.agg fs)) (hoff:y.bd.off p=some off) (hcs:cs.toList=c1++c2++c3) (hc1:c1.length=off) (hfs:aP w D E fs c2) (hy:al w D E y cs.toList) (hsz:∀ f∈fs,f.size=sz) (hys:aP w D E ys ds) (hj:j+ys.length≤fs.length)
  (hsh:I.cV ys=I.cV ((fs.drop j).take ys.length)) (P:Program) :
  ∃ w',(storeCells ⟨b,off+j*sz,none⟩ ds 0).run P w=.ok () w'∧aY c (A.aV n (.box (y.eA p (.agg (fs.take j++(ys++fs.drop (j+ys.length))))))) a w' D E:=by
 obtain ⟨d1,d2,d3,rfl,q1,q2,q3⟩:=vn hfs hsz j ys.length hj;have hd1:aP w D E (fs.take j) d1:=by
  have e1:fs=fs.take j++fs.drop j:=(List.take_append_drop j fs).symm;rw[e1] at hfs;obtain ⟨e1,e2,he,k1,k2⟩:=vm _ _ _ hfs;have hl:e1.length=d1.length:=by
   rw[aP.length _ _ k1,I.iZ _ (fun x hx=>hsz x (List.mem_of_mem_take hx)),q1,zx7];congr 1;omega
  have:e1=d1:=by
   have:=congrArg (List.take d1.length) he;rw[List.take_left,←hl,List.take_left] at this;exact this.symm
  rw[←this];exact k1
 have hlen:ds.length=d2.length:=by rw[aP.length _ _ hys,aP.length _ _ q2,←I.nz,←I.nz,hsh]
 have hds:al w D E (.agg (fs.take j++(ys++fs.drop (j+ys.length)))) (d1++(ds++d3)):=by
  simp only[al];refine kH _ _ _ _ hd1 (kH _ _ _ _ hys ?_);rw[List.drop_drop] at q3;exact q3
 have hshape:(I.agg (fs.take j++(ys++fs.drop (j+ys.length)))).bd=(I.agg fs).bd:=by
  simp only[I.bd,cS.eK.injEq,I.dw,zy8];rw[←I.dw ys,hsh,I.dw,←zy8,←zy8]
  congr 1
  rw[←List.drop_drop,List.take_append_drop,List.take_append_drop]
 obtain ⟨off',g1,g2,g3,g4⟩:=vk p y _ _ _ _ hy hat hds hshape;rw[hoff,v6] at g1;subst g1;have hst:=run_storeCells_at P b (off+j*sz) T ds 0 cs w hb (by
  have:cs.size=cs.toList.length:=by simp
  rw[this,hcs];simp only[zz6];omega) (aP.mY _ _ hys)
 simp only[Nat.add_zero] at hst;refine ⟨_,hst,?_⟩;refine h.y7 hn ay g4 ?_;have e:cs.toList.take (off+j*sz)++ds++cs.toList.drop (off+j*sz+ds.length)=cs.toList.take off++(d1++(ds++d3))++cs.toList.drop (off+(d1++(ds++d3)).length):=by
  rw[hcs];have t1:(c1++(d1++(d2++d3))++c3).take (off+j*sz)=c1++d1:=by
   rw[←hc1,←q1,zz9,List.take_length_add_append,zz9,List.take_left]
  have t2:(c1++(d1++(d2++d3))++c3).drop (off+j*sz+ds.length)=d3++c3:=by
   rw[←hc1,←q1,hlen,zz9,Nat.add_assoc,List.drop_length_add_append,zz9,List.drop_length_add_append,zz9,List.drop_left]
  have t3:(c1++(d1++(d2++d3))++c3).take off=c1:=by rw[←hc1,zz9,List.take_left]
  have t4:(c1++(d1++(d2++d3))++c3).drop (off+(d1++(ds++d3)).length)=c3:=by
   have:(d1++(ds++d3)).length=(d1++(d2++d3)).length:=by simp[hlen]
   rw[this,←hc1,zz9,List.drop_length_add_append,List.drop_left]
  rw[t1,t2,t3,t4];simp
 rw[e];simpa using g3
end
section
variable {c:cX} {A:ai} {o:Oper} {x:I}
theorem nx{P:Program}{w:World}(k:IntKind)(n:Int)(y:Nat)(code:BoundsCode)(g1:0≤n)(g2:n≤y):(Instr.sliceBound (.int k n) y code).run P w=.ok n.toNat w:=by
 simp[Instr.sliceBound,asIntOf,g1,g2]
theorem Ww{t e:TypeId}{y:Operand}{y':aR}{lo hi mx:Option Operand}{lo' hi' mx':Option aR}{i:TypeInfo}{fs:List I}{n:Nat}{p:List Nat}{sz l0 k:Nat}(ho:o.op=.slice t y lo hi mx)(hu:c.P.underlying t=some (.slice e))(hi0:c.P.info? e=some i)
  (hy:bB c.P 0 y=some y') (U:jb c.P lo=some lo') (ab:jb c.P hi=some hi') (af:jb c.P mx=some mx') (hmh:mx'.isSome=true→hi'.isSome=true) (hsz:sz=c.P.cellsOf e)
  (h:ak A y'=.view n p sz l0 k) (ah:cJ A (.ptr n p)=some (.agg fs)) (hx:ma n p sz l0 k fs.length (lo'.map (ak A)) (hi'.map (ak A)) (mx'.map (ak A))=some x):dH c A o x :=
 .same fun a w D E hs=>by
  have opt:∀ {q:Option Operand} {q':Option aR},jb c.P q=some q'→iU w D E (q'.map (ak A)) (q.map a.eval):=by
   intro q q' hq;cases q with
   |none=>simp only[jb,v6] at hq;subst hq;simp[iU]
   |some z =>
    simp only[jb,t7] at hq;obtain ⟨z',hz,rfl⟩:=hq;simpa[iU] using bZ hs hz
  have aZ:=bZ hs hy;rw[h] at aZ;obtain ⟨yy,b,cs,T,off,c1,c2,c3,k1,k2,k3,k4,k5,k6,k7,k8,k9,k10,k11,k12,hval⟩:=hs.view aZ ah;have hmh':(mx'.map (ak A)).isSome=true→(hi'.map (ak A)).isSome=true:=by simpa using hmh
  unfold ma at hx;split at hx
  ·cases hx
  rename_i hh hbh;split at hx
  ·cases hx
  rename_i ll hbl;have d1:=sL (opt U) hbl;have d2:=sL (opt ab) hbh;have o3:=opt af;split at hx
  ·rename_i hmx;split at hx
   case isFalse=>cases hx
   rename_i hb;obtain ⟨b1,b2,b3⟩:=hb;have hvmx:mx.map a.eval=none:=by
    rw[hmx] at o3;cases hq:mx.map a.eval with
    |none=>rfl
    |some v=>rw[hq] at o3;simp[iU] at o3
   have hsb:(Instr.sliceBounds true k (fs.length-l0) (lo.map a.eval) (hi.map a.eval) (mx.map a.eval)).run c.P w=.ok (ll.toNat,hh.toNat,fs.length-l0) w:=by
    rw[hvmx];rcases d2 with ⟨_,g2,hm2⟩ | ⟨_,q2,g2⟩ <;>rcases d1 with ⟨_,g1,hm1⟩ | ⟨_,q1,g1⟩ <;>rw[g1,g2]
    ·subst hm1 hm2;simp[Instr.sliceBounds]
    ·subst hm2;simp[Instr.sliceBounds,nx q1 ll k _ b1 (by omega)]
    ·subst hm1;simp[Instr.sliceBounds,nx q2 hh (fs.length-l0) _ (by omega) (by omega)]
    ·simp[Instr.sliceBounds,nx q2 hh (fs.length-l0) _ (by omega) (by omega),nx q1 ll hh.toNat _ b1 (by omega)]
   have hrun:(Instr.sliceAt t (a.eval y) (lo.map a.eval) (hi.map a.eval) (mx.map a.eval)).run c.P w =
     .ok (.slice (if fs.length-l0=ll.toNat then some ⟨b,off+l0*sz,none⟩ else some ⟨b,off+l0*sz+ll.toNat*c.P.cellsOf e,none⟩) (hh.toNat-ll.toNat) (fs.length-l0-ll.toNat)) w:=by
    rw[hval];simp only[Instr.sliceAt,Instr.slice,Sem.run_bind,run_underlying hu,Result.andThen_ok,hsb,jm hi0,Sem.run_pure,zy2,nL]
   refine ⟨_,by simp only[execOp,ho,Sem.run_bind,hrun];rfl,?_⟩;split at hx
   ·rename_i hl;simp only[v6] at hx;subst hx;have e1:fs.length-l0=ll.toNat:=by omega
    have e2:hh.toNat-ll.toNat=0:=by omega
    rw[if_pos e1,e2,e1,Nat.sub_self];exact ⟨_,by simp[bG,I.isAgg];rfl,by simp only[al];exact ⟨_,rfl⟩⟩
   ·rename_i hl;simp only[v6] at hx;subst hx;rw[if_neg (by omega)];refine ⟨_,by simp[bG,I.isAgg];rfl,?_⟩;simp only[al];refine ⟨b,yy.bd,off,I.cV fs,k2,k5,ny p yy _ k4,?_,?_,?_,?_⟩
    ·rw[I.dw,zz7,Nat.add_mul,Nat.add_assoc,hsz,Nat.sub_sub]
    ·rw[I.dw,zz7];exact k12
    ·rw[I.dw,zz7];omega
    ·rw[I.dw];intro s hs';obtain ⟨f,hf,rfl⟩:=zy5.1 hs';rw[I.l9];exact k10 f hf
  ·rename_i kk m hmx;split at hx
   case isFalse=>cases hx
   rename_i hb;obtain ⟨b1,b2,b3,b4⟩:=hb;simp only[v6] at hx;subst hx;obtain ⟨vmx,hvmx,hvm⟩:∃ v,mx.map a.eval=some v∧v=.int kk m:=by
    rw[hmx] at o3;cases hq:mx.map a.eval with
    |none=>rw[hq] at o3;simp[iU] at o3
    |some v=>rw[hq] at o3;simp only[iU] at o3;exact ⟨v,rfl,(eY o3).1⟩
   subst hvm;have hsb:∃ r,(Instr.sliceBounds true k (fs.length-l0) (lo.map a.eval) (hi.map a.eval) (mx.map a.eval)).run c.P w=.ok r w:=by
    rw[hvmx];rcases d2 with ⟨g0,g2,hm2⟩ | ⟨_,q2,g2⟩
    ·rw[hmx,g0] at hmh';simp at hmh'
    ·rcases d1 with ⟨_,g1,hm1⟩ | ⟨_,q1,g1⟩ <;>rw[g1,g2]
     ·exact ⟨_,by simp[Instr.sliceBounds,nx kk m (fs.length-l0) _ (by omega) b4,nx q2 hh m.toNat _ (by omega) (by omega)];rfl⟩
     ·exact ⟨_,by simp[Instr.sliceBounds,nx kk m (fs.length-l0) _ (by omega) b4,nx q2 hh m.toNat _ (by omega) (by omega),nx q1 ll hh.toNat _ b1 (by omega)];rfl⟩
   obtain ⟨⟨lX,j5,lY⟩,hsb⟩:=hsb;have hrun:∃ v,(Instr.sliceAt t (a.eval y) (lo.map a.eval) (hi.map a.eval) (mx.map a.eval)).run c.P w=.ok v w:=by
    rw[hval];exact ⟨_,by simp only[Instr.sliceAt,Instr.slice,Sem.run_bind,run_underlying hu,Result.andThen_ok,hsb,jm hi0,Sem.run_pure,zy2];rfl⟩
   obtain ⟨v,hrun⟩:=hrun;exact ⟨v,by simp only[execOp,ho,Sem.run_bind,hrun];rfl,by simp[bg]⟩
  ·cases hx
theorem Wl{t e:TypeId}{y z:Operand}{y' z':aR}{i:TypeInfo}{fs:List I}{n:Nat}{p:List Nat}{sz lo k:Nat}{kk:IntKind}{j:Int}(ho:o.op=.indexAddr t y z)(hu:c.P.underlying t=some (.slice e))(hi:c.P.info? e=some i)
  (hy:bB c.P 0 y=some y') (hz:bB c.P 0 z=some z') (hsz:sz=c.P.cellsOf e) (h:ak A y'=.view n p sz lo k) (ah:cJ A (.ptr n p)=some (.agg fs)) (h':ak A z'=.int kk j) (hj:0≤j∧j<k):dH c A o (.ptr n (p++[lo+j.toNat])) :=
 .same fun a w D E hs=>by
  have aZ:=bZ hs hy;rw[h] at aZ;have h1':=bZ hs hz;rw[h'] at h1';obtain ⟨yy,b,cs,T,off,c1,c2,c3,k1,k2,k3,k4,k5,k6,k7,k8,k9,k10,k11,k12,hval⟩:=hs.view aZ ah;refine ⟨.pointer (some ⟨b,off+lo*sz+j.toNat*c.P.cellsOf e,none⟩),by simp only[execOp,ho,hval,(eY h1').1,Sem.run_bind,yU hu hi hj];rfl,?_⟩;refine ⟨_,by simp[bG,I.isAgg];rfl,?_⟩;simp only[al];refine ⟨b,yy.bd,off+(lo+j.toNat)*sz,k2,?_,by rw[Nat.add_mul,←Nat.add_assoc,hsz]⟩;have hl:lo+j.toNat<fs.length:=by omega
  rw[cS.uZ p yy.bd off (lo+j.toNat) _ k5 (ny p yy _ k4) (by rw[I.dw];simpa using hl),I.dw,←List.map_take,←I.dw,I.nz,pN fs _ k10 (by omega)]
theorem xA{ty:TypeId}{y:Operand}{y':aR}{n:Nat}{e:TypeId}(ho:o.op=.call { callee:=.builtin .cap,args := #[y],argTypes := #[ty] })(hu:c.P.underlying ty=some (.slice e))
  (hy:bB c.P ty y=some y') (h:∀ a w D E,aY c A a w D E→∀ v,bg w D E (ak A y') v→n≤maxLen∧∃ ad l,v=.slice ad l n):dH c A o (.int .i64 n) :=
 .same fun a w D E hs=>by
  obtain ⟨aZ,ad,l,hv⟩:=h a w D E hs _ (bZ hs hy);exact ⟨.int .i64 n,by simp[execOp,ho,resolve,invoke,builtin,Builtin.cap_,run_underlying hu,hv,goInt],kz (xY aZ)⟩
theorem V8{t e:TypeId}{i:TypeInfo}(ho:o.op=.buildSlice t 0 #[])(hu:c.P.underlying t=some (.slice e))(hi:c.P.info? e=some i):dH c A o (.c0 (c.P.cellsOf e)):=by
 intro a w D E hs;have hs':=hs.newRow (.cells #[] e);refine ⟨.slice (some ⟨w.heap.size,0,none⟩) 0 0,_,_,?_,hs',⟨_,by simp[bG,I.isAgg];rfl,by simp only[al];exact ⟨_,rfl⟩⟩⟩;simp[execOp,ho,Instr.buildSlice,run_underlying hu,jm hi,newRow,Instr.fill,show (Array.range 0) = #[] from rfl]
theorem XH{neg:Bool}{t e:TypeId}{y z:Operand}{y':aR}{yt:TypeId}{s:Nat}(ho:o.op=.binOp (if neg then .neq else .eql) t y z yt)(hu:c.P.underlying t=some (.slice e))(hy:bB c.P 0 y=some y')(hz:bB c.P 0 z=some (.c (.nils s)))
  (h:∃ sz,ak A y'=.slice sz []∨ak A y'=.c0 sz) {a:Act} {w:World} {D:aU} {E:bf} (hs:aY c A a w D E):∃ b,(execOp a.eval o).run c.P w=.ok (.value (.bool b)) w:=by
 have aZ:=bZ hs hy;have U:bg w D E (.nils s) (a.eval z):=bZ hs hz;have hv:∃ ad cp,a.eval y=.slice ad 0 cp:=by
  obtain ⟨sz,h | h⟩:=h <;>rw[h] at aZ
  ·obtain ⟨ad,cap,e1,_⟩:=ox aZ;exact ⟨ad,cap,by simpa using e1⟩
  ·obtain ⟨cs,q1,q2⟩:=aZ;simp only[al] at q2;obtain ⟨ad,q2⟩:=q2;exact ⟨ad,0,by simpa[bG,I.isAgg,q2] using q1.symm⟩
 obtain ⟨ad,cp,hyv⟩:=hv;have hv:a.eval z=.slice none 0 0:=by
  obtain ⟨cs,q1,q2⟩:=U;simp only[al] at q2;simpa[bG,I.isAgg,q2] using q1.symm
 have he:∀ d,(Op.equalIn (d+1) t (.slice ad 0 cp) (.slice none 0 0)).run c.P w=.ok ad.isNone w:=fun d=>by
  cases ad <;>simp[Op.equalIn,run_underlying hu]
 refine ⟨if neg then !ad.isNone else ad.isNone,?_⟩;cases neg <;>simp only[execOp,ho,hyv,hv,if_true,zz3,if_false,Sem.run_bind,eqGuard] <;>simp[binOp,Op.equal,Op.maxDepth,he]
def jo(y:I)(p:List Nat)(j:Nat)(fs ys:List I):I:=y.eA p (.agg (fs.take j++(ys++fs.drop (j+ys.length))))
theorem Nt{t e:TypeId}{y:Operand}{y':aR}{z:I}{n:Nat}{p:List Nat}{lo k:Nat}{b:I}{fs:List I}(ho:o.op=.call { callee:=.builtin .clear,args := #[y],argTypes := #[t] })(hu:c.P.underlying t=some (.slice e))(hy:bB c.P t y=some y')
  (hz:gC c.P e=some z) (hv:ak A y'=.view n p (c.P.cellsOf e) lo k) (hn:A.o n=some (.box b)) (hat:b.at p=some (.agg fs)) (hsh:I.cV (List.replicate k z)=I.cV ((fs.drop lo).take k)) (ah:o.dst=none) :
  iH c A o (A.aV n (.box (jo b p lo fs (List.replicate k z)))):=by
 intro a w D E hs;obtain ⟨i,zv,hi,hzv,hzr⟩:=mq hz;have aZ:=bZ hs hy;rw[hv] at aZ;have hx:cJ A (.ptr n p)=some (.agg fs):=by simp only[cJ,hn,hat]
 obtain ⟨yy,bk,cs,T,off,c1,c2,c3,k1,k2,k3,k4,k5,k6,k7,k8,k9,k10,k11,k12,hval⟩:=hs.view aZ hx;rw[hn] at k1;simp only[v6,ao.box.injEq] at k1;subst k1;have hr:aP w D E (List.replicate k z) (Builtin.zeroCells zv.cells k).toList:=by
  rw[vP];exact sW (hzr w D E) k
 obtain ⟨w',U,ab⟩:=hs.jo (j:=lo) (ys:=List.replicate k z) hn k2 k3 k4 k5 k6 k7 k8 k9 k10 hr (by simpa using k11) (by simpa using hsh) c.P;cases k with
 |zero =>
  refine ⟨w,.inl ⟨.tuple #[],?_,D,E,?_⟩⟩
  ·simp[execOp,ho,resolve,invoke,builtin,Builtin.clear_,run_underlying hu,hval]
  ·rw[ah];have:jo b p lo fs (List.replicate 0 z)=b.eA p (.agg fs):=by simp[jo]
   have hw:w'=w:=by
    simp[Builtin.zeroCells,storeCells] at U;exact U.symm
   rw[hw] at ab;exact ab
 |succ k =>
  refine ⟨w',.inl ⟨.tuple #[],?_,D,E,?_⟩⟩
  ·simp[execOp,ho,resolve,invoke,builtin,Builtin.clear_,run_underlying hu,hval,zeroValue,typeInfo,hi,hzv,U]
  ·rw[ah];exact ab
theorem Nu{t e:TypeId}{y x:Operand}{y' x':aR}{n:Nat}{p:List Nat}{lo k m:Nat}{b:I}{fs ys:List I}(ho:o.op=.call { callee:=.builtin .copy,args := #[y,x],argTypes := #[t,t] })(hu:c.P.underlying t=some (.slice e))(hi:(c.P.info? e).isSome=true)
  (hy:bB c.P t y=some y') (hx:bB c.P t x=some x') (hv:ak A y'=.view n p (c.P.cellsOf e) lo k) (hn:A.o n=some (.box b)) (hat:b.at p=some (.agg fs)) (hs:eC A (c.P.cellsOf e) (ak A x')=some ys) (hm:m=min ys.length k)
  (hsh:I.cV (ys.take m)=I.cV ((fs.drop lo).take m)) (hdn:∀ k,o.dst=some k→k<c.n) :
  iH c A o ((A.aV n (.box (jo b p lo fs (ys.take m)))).aX o.dst (.int .i64 m)):=by
 intro a w D E hsim;obtain ⟨i,hi⟩:=zx1.1 hi;have aZ:=bZ hsim hy;rw[hv] at aZ;have hxx:cJ A (.ptr n p)=some (.agg fs):=by simp only[cJ,hn,hat]
 obtain ⟨yy,bk,cs,T,off,c1,c2,c3,k1,k2,k3,k4,k5,k6,k7,k8,k9,k10,k11,k12,hval⟩:=hsim.view aZ hxx;rw[hn] at k1;simp only[v6,ao.box.injEq] at k1;subst k1;obtain ⟨ad,cp,news,s1,s2,s3,s4,s5,s6⟩:=hsim.oB (bZ hsim hx) hs;have hmy:m≤ys.length:=by omega
 have hci:c.P.cellsOf e=i.size:=by simp[Program.cellsOf,hi]
 obtain ⟨d1,d2,d3,e1,e2,e3,e4⟩:=vn s4 s5 0 m (by omega);simp only[Nat.zero_mul,List.drop_zero] at e2 e3;have e2':d1=[]:=List.eq_nil_of_length_eq_zero e2;subst e2';simp only[zx3] at e1;have hlen:(ys.take m).length=m:=by rw[zx7];omega
 have hd2:d2.length=m*i.size:=by rw[aP.length _ _ e3,I.iZ (sz:=c.P.cellsOf e) _ (fun y hy=>s5 y (List.mem_of_mem_take hy)),hlen,hci]
 obtain ⟨w',U,ab⟩:=hsim.jo (j:=lo) (ys:=ys.take m) hn k2 k3 k4 k5 k6 k7 k8 k9 k10 e3 (by rw[hlen];omega) (by rw[hlen];exact hsh) c.P;have hf:(Builtin.firstCells i.size m (.slice ad ys.length cp)).run c.P w=.ok d2.toArray w:=by
  by_cases hm0:m=0
  ·have:d2=[]:=List.eq_nil_of_length_eq_zero (by rw[hd2,hm0];simp);subst this;cases ad with
   |none=>exact run_firstCells_none _ _ _ _ _
   |some ad=>exact run_firstCells_some w i.size m ad ys.length cp [] (by simp[hm0]) (by simp)
  ·obtain ⟨b2,o2,rfl,hr⟩:=s6 (fun h=>by rw[h] at hmy;simp at hmy;omega);refine run_firstCells_some w i.size m _ ys.length cp d2 hd2 fun j v hj =>?_;rw[Addr.add_lit];refine hr j v ?_;rw[e1,zy6 (zz8.1 hj).1];exact hj
 have h63:m≤maxLen:=by omega
 refine ⟨w',.inl ⟨.int .i64 m,?_,D,E,ab.aX hdn (kz (xY h63))⟩⟩;have hmin:Nat.min ys.length k=m:=hm.symm;rw[←hci] at hf;simp only[execOp,ho,resolve,invoke,builtin,Sem.run_bind,Sem.run_pure,Result.andThen_ok,List.map_toArray,zz4,zx6,hval,s1];simp[Builtin.copy_,run_underlying hu,Builtin.lenOf,hmin,jm hi,hf,U,goInt]
theorem qh{a:Act}{w:World}{D:aU}{E:bf}(hs:aY c A a w D E){sz:Nat}{x:I}{v:Value}{es:List I}(hv:bg w D E x v)(he:eC A sz x=some es) :
  ∃ ad cp olds,v=.slice ad es.length cp∧es.length≤cp∧cp≤maxLen∧aP w D E es olds∧(∀ y∈es,y.size=sz)∧∀ (P:Program) (w':World),(∀ p u,w.cell? p=some u→w'.cell? p=some u)→(Builtin.firstCells sz es.length v).run P w'=.ok olds.toArray w':=by
 obtain ⟨ad,cp,news,s1,s2,s3,s4,s5,s6⟩:=hs.oB hv he;refine ⟨ad,cp,news,s1,s2,s3,s4,s5,fun P w' hw =>?_⟩;have hl:news.length=es.length*sz:=by rw[aP.length _ _ s4,I.iZ _ s5]
 rw[s1];by_cases aZ:es=[]
 ·subst aZ;have:news=[]:=List.eq_nil_of_length_eq_zero (by rw[hl];simp);subst this;cases ad with
  |none=>exact run_firstCells_none _ _ _ _ _
  |some ad=>exact run_firstCells_some w' sz _ ad _ cp [] (by simp) (by simp)
 ·obtain ⟨b,o',rfl,hr⟩:=s6 aZ;exact run_firstCells_some w' sz _ _ _ cp news hl fun j v hj=>by rw[Addr.add_lit];exact hw _ _ (hr j v hj)
theorem IW{t e:TypeId}{s x:Operand}{s' x':aR}{es ys:List I}{z:I}{d:Nat}(ho:o.op=.call { callee:=.builtin .append,args := #[s,x],argTypes := #[t,t] })(hu:c.P.underlying t=some (.slice e))(hs':bB c.P t s=some s')(hx':bB c.P t x=some x')
  (hz:gC c.P e=some z) (hzs:z.size=c.P.cellsOf e) (hse:eC A (c.P.cellsOf e) (ak A s')=some es) (hsx:eC A (c.P.cellsOf e) (ak A x')=some ys) (hby:(es.length+ys.length)*c.P.bytesOf e≤140737488355328)
  (ah:o.dst=some d) (hdn:d<c.n) (hf:A.o d=none) (hne:ys≠[]) {a:Act} {w:World} {D:aU} {E:bf} (hsim:aY c A a w D E) (hfull:∀ ad l cp,a.eval s=.slice ad l cp→cp<l+ys.length) (hml:es.length+ys.length≤maxLen) :
  ∃ v w' m,(execOp a.eval o).run c.P w=.ok (.value v) w'∧es.length+ys.length+m≤maxLen ∧
   b5 c ((A.aV d (.box (.agg (es++(ys++List.replicate m z))))).aX o.dst (.view d [] (c.P.cellsOf e) 0 (es.length+ys.length))) (a.put o.dst v) w':=by
 obtain ⟨i,zv,hi,hzv,hzr⟩:=mq hz;have hci:c.P.cellsOf e=i.size:=by simp[Program.cellsOf,hi]
 have hbi:c.P.bytesOf e=i.bytes:=by simp[Program.bytesOf,hi]
 obtain ⟨ad1,cp1,olds,s1,s2,s3,s4,s5,s6⟩:=qh hsim (bZ hsim hs') hse;obtain ⟨ad2,cp2,news,t1,t2,t3,t4,t5,t6⟩:=qh hsim (bZ hsim hx') hsx;have hlt:=hfull _ _ _ s1;obtain ⟨m,hm⟩:∃ m,m=grownCap w (es.length+ys.length) cp1 e-(es.length+ys.length):=⟨_,rfl⟩
 have hge:=grownCap_ge w (es.length+ys.length) cp1 e;have hle:=grownCap_le_maxLen w (es.length+ys.length) cp1 e hml;obtain ⟨cells,hcells⟩:∃ cells:Array Value,cells=olds.toArray++news.toArray++Builtin.zeroCells zv.cells m:=⟨_,rfl⟩
 have hrun:(Builtin.append_ #[t,t] o.type #[a.eval s,a.eval x]).run c.P w=.ok (.slice (some ⟨w.heap.size,0,none⟩) (es.length+ys.length) (grownCap w (es.length+ys.length) cp1 e)) (w.drew.alloc (.cells cells e)):=by
  have hn:¬ (es.length+ys.length≤cp1):=by omega
  have h63:¬ (9223372036854775807<((es.length:Int)+(ys.length:Int))):=by simp only[maxLen] at hml;omega
  have h48:¬ (281474976710656<Builtin.nextslicecap (es.length+ys.length) cp1*i.bytes):=by
   have af:(es.length+ys.length)*i.bytes≤140737488355328:=by rw[←hbi];exact hby
   have:=growslice_fits hlt af;omega
  have g1:=s6 c.P w.drew (fun _ _ h=>h);have g2:=t6 c.P w.drew (fun _ _ h=>h);rw[s1,hci] at g1;rw[t1,hci] at g2;rw[s1,t1,hcells,hm];simp[Builtin.append_,run_underlying hu,sizeOf,typeInfo,zeroValue,hi,hzv,Builtin.lenOf,hn,h63,h48,Question.forced,g1,g2,newRow,grownCap]
  congr 2
  apply Array.ext';simp[zz9]
 have hcl:cells.toList=olds++(news++(List.replicate m zv.cells.toList).flatten):=by
  rw[hcells];simp[vP]
 have hrc:al w D E (.agg (es++(ys++List.replicate m z))) cells.toList:=by
  rw[hcl];simp only[al];exact kH _ _ _ _ s4 (kH _ _ _ _ t4 (sW (hzr w D E) m))
 have hsim':aY c A a w.drew D E:=hsim.grow ⟨rfl,rfl,rfl,zz5 _,fun _ _=>rfl⟩ (fun _ _ h=>h) (fun _ _ h _=>h) (fun b o h=>hsim.aQ b o h);have hrc':al w.drew D E (.agg (es++(ys++List.replicate m z))) cells.toList:=al.later (w:=w) (w':=w.drew) (D:=D) (E:=E) ⟨fun _ _ h=>h,fun _ _ _ _ h=>h,fun _ _ _ h=>h,fun _ aH l h=>⟨aH,l,h,zz5 _,fun _=>rfl⟩,fun _ _ h=>h,fun _ _ h=>h,fun _ _ _ _ h=>h⟩ _ _ hrc;have U:=hsim'.sD (T:=e) (.inl hdn) hf hrc';have hall:∀ y∈es++(ys++List.replicate m z),y.size=c.P.cellsOf e:=by
  intro y hy;rcases zy4.1 hy with hy | hy
  ·exact s5 y hy
  ·rcases zy4.1 hy with hy | hy
   ·exact t5 y hy
   ·rw[List.eq_of_mem_replicate hy];exact hzs
 have hlen:(es++(ys++List.replicate m z)).length=es.length+ys.length+m:=by simp[Nat.add_assoc]
 have ab:=U.put (d:=d) (x:=.view d [] (c.P.cellsOf e) 0 (es.length+ys.length)) (v:=.slice (some ⟨w.heap.size,0,none⟩) (es.length+ys.length) (grownCap w (es.length+ys.length) cp1 e)) hdn ⟨_,by simp[bG,I.isAgg];rfl,by
  simp only[al,if_true];refine ⟨w.heap.size,(I.agg (es++(ys++List.replicate m z))).bd,0,I.cV (es++(ys++List.replicate m z)),rfl,by cases (I.agg (es++(ys++List.replicate m z))).bd <;>simp[cS.off],by simp only[I.bd,cS.part],?_,?_,?_,?_⟩
  ·rw[I.dw,zz7,hlen,hm];simp;omega
  ·rw[I.dw,zz7,hlen];omega
  ·rw[I.dw,zz7,hlen];omega
  ·rw[I.dw];intro s hs;obtain ⟨f,hf,rfl⟩:=zy5.1 hs;rw[I.l9];exact hall f hf⟩
 refine ⟨.slice (some ⟨w.heap.size,0,none⟩) (es.length+ys.length) (grownCap w (es.length+ys.length) cp1 e),w.drew.alloc (.cells cells e),m,?_,by omega,?_⟩
 ·unfold execOp;simp only[ho,resolve,invoke,builtin,Sem.run_bind,Sem.run_pure,Result.andThen_ok,List.map_toArray,zz4,zx6,hrun]
 ·rw[ah];exact ⟨D,_,ab⟩
theorem IX{t t' e:TypeId}{s x:Operand}{s' x':aR}{es:List I}{k:Nat}{kx kt:IntKind}{cd:Int}{z:I}{d:Nat}(ho:o.op=.call { callee:=.builtin .append,args := #[s,x],argTypes := #[t,t'] })(hu:c.P.underlying t=some (.slice e))(hs':bB c.P t s=some s')(hx':bB c.P t' x=some x')(ht':c.P.underlying t'=some (.int kt))(hvx:ak A x'=.int kx cd)(hk:cd.toNat=k)(hk0:0<k)(hpos:0<c.P.cellsOf e)
  (hz:gC c.P e=some z) (hzs:z.size=c.P.cellsOf e) (hse:eC A (c.P.cellsOf e) (ak A s')=some es) (hby:(es.length+k)*c.P.bytesOf e≤140737488355328)
  (ah:o.dst=some d) (hdn:d<c.n) (hf:A.o d=none) {a:Act} {w:World} {D:aU} {E:bf} (hsim:aY c A a w D E) (hfull:∀ ad l cp,a.eval s=.slice ad l cp→cp<l+k) (hml:es.length+k≤maxLen) :
  ∃ v w' m,(execOp a.eval o).run c.P w=.ok (.value v) w'∧es.length+k+m≤maxLen ∧
   b5 c ((A.aV d (.box (.agg (es++(List.replicate k z++List.replicate m z))))).aX o.dst (.view d [] (c.P.cellsOf e) 0 (es.length+k))) (a.put o.dst v) w':=by
 obtain ⟨i,zv,hi,hzv,hzr⟩:=mq hz;have hci:c.P.cellsOf e=i.size:=by simp[Program.cellsOf,hi]
 have hbi:c.P.bytesOf e=i.bytes:=by simp[Program.bytesOf,hi]
 obtain ⟨ad1,cp1,olds,s1,s2,s3,s4,s5,s6⟩:=qh hsim (bZ hsim hs') hse;have v2:=bZ hsim hx';rw[hvx] at v2;have t1:a.eval x=.int kx ((k:Nat):Int):=by rw[(eY v2).1];congr 1;omega
 have t4:aP w D E (List.replicate k z) (List.replicate k zv.cells.toList).flatten:=sW (hzr w D E) k;have t5:∀ y∈List.replicate k z,y.size=c.P.cellsOf e:=fun y hy=>by rw[List.eq_of_mem_replicate hy];exact hzs
 have hlt:=hfull _ _ _ s1;obtain ⟨m,hm⟩:∃ m,m=grownCap w (es.length+k) cp1 e-(es.length+k):=⟨_,rfl⟩
 have hge:=grownCap_ge w (es.length+k) cp1 e;have hle:=grownCap_le_maxLen w (es.length+k) cp1 e hml;obtain ⟨cells,hcells⟩:∃ cells:Array Value,cells=olds.toArray++Builtin.zeroCells zv.cells k++Builtin.zeroCells zv.cells m:=⟨_,rfl⟩
 have hrun:(Builtin.append_ #[t,t'] o.type #[a.eval s,a.eval x]).run c.P w=.ok (.slice (some ⟨w.heap.size,0,none⟩) (es.length+k) (grownCap w (es.length+k) cp1 e)) (w.drew.alloc (.cells cells e)):=by
  have af:(es.length+k)*i.bytes≤140737488355328:=by rw[←hbi];exact hby
  have g1:=s6 c.P w.drew (fun _ _ h=>h);rw[s1,hci] at g1;have hfit:=growslice_fits hlt af;have hkb:k*i.bytes≤(es.length+k)*i.bytes:=Nat.mul_le_mul_right _ (by omega);rw[s1,t1,hcells,hm];exact Lib.run_append_grow_zeros w t t' o.type e i zv kx kt hu ht' hi hzv ad1 es.length cp1 olds g1 k hk0 (by rw[←hci];exact hpos) hlt (by simp only[maxLen] at hml;omega) (by omega) (by omega)
 have hcl:cells.toList=olds++((List.replicate k zv.cells.toList).flatten++(List.replicate m zv.cells.toList).flatten):=by
  rw[hcells];simp[vP]
 have hrc:al w D E (.agg (es++(List.replicate k z++List.replicate m z))) cells.toList:=by
  rw[hcl];simp only[al];exact kH _ _ _ _ s4 (kH _ _ _ _ t4 (sW (hzr w D E) m))
 have hsim':aY c A a w.drew D E:=hsim.grow ⟨rfl,rfl,rfl,zz5 _,fun _ _=>rfl⟩ (fun _ _ h=>h) (fun _ _ h _=>h) (fun b o h=>hsim.aQ b o h);have hrc':al w.drew D E (.agg (es++(List.replicate k z++List.replicate m z))) cells.toList:=al.later (w:=w) (w':=w.drew) (D:=D) (E:=E) ⟨fun _ _ h=>h,fun _ _ _ _ h=>h,fun _ _ _ h=>h,fun _ aH l h=>⟨aH,l,h,zz5 _,fun _=>rfl⟩,fun _ _ h=>h,fun _ _ h=>h,fun _ _ _ _ h=>h⟩ _ _ hrc;have U:=hsim'.sD (T:=e) (.inl hdn) hf hrc';have hall:∀ y∈es++(List.replicate k z++List.replicate m z),y.size=c.P.cellsOf e:=by
  intro y hy;rcases zy4.1 hy with hy | hy
  ·exact s5 y hy
  ·rcases zy4.1 hy with hy | hy
   ·exact t5 y hy
   ·rw[List.eq_of_mem_replicate hy];exact hzs
 have hlen:(es++(List.replicate k z++List.replicate m z)).length=es.length+k+m:=by simp[Nat.add_assoc]
 have ab:=U.put (d:=d) (x:=.view d [] (c.P.cellsOf e) 0 (es.length+k)) (v:=.slice (some ⟨w.heap.size,0,none⟩) (es.length+k) (grownCap w (es.length+k) cp1 e)) hdn ⟨_,by simp[bG,I.isAgg];rfl,by
  simp only[al,if_true];refine ⟨w.heap.size,(I.agg (es++(List.replicate k z++List.replicate m z))).bd,0,I.cV (es++(List.replicate k z++List.replicate m z)),rfl,by cases (I.agg (es++(List.replicate k z++List.replicate m z))).bd <;>simp[cS.off],by simp only[I.bd,cS.part],?_,?_,?_,?_⟩
  ·rw[I.dw,zz7,hlen,hm];simp;omega
  ·rw[I.dw,zz7,hlen];omega
  ·rw[I.dw,zz7,hlen];omega
  ·rw[I.dw];intro s hs;obtain ⟨f,hf,rfl⟩:=zy5.1 hs;rw[I.l9];exact hall f hf⟩
 refine ⟨.slice (some ⟨w.heap.size,0,none⟩) (es.length+k) (grownCap w (es.length+k) cp1 e),w.drew.alloc (.cells cells e),m,?_,by omega,?_⟩
 ·unfold execOp;simp only[ho,resolve,invoke,builtin,Sem.run_bind,Sem.run_pure,Result.andThen_ok,List.map_toArray,zz4,zx6,hrun]
 ·rw[ah];exact ⟨D,_,ab⟩
theorem Nq{t e:TypeId}{s x:Operand}{s' x':aR}{ys:List I}{n:Nat}{p:List Nat}{lo k:Nat}{b:I}{fs:List I}(ho:o.op=.call { callee:=.builtin .append,args := #[s,x],argTypes := #[t,t] })(hu:c.P.underlying t=some (.slice e))(hi:(c.P.info? e).isSome=true)
  (hs':bB c.P t s=some s') (hx':bB c.P t x=some x') (hv:ak A s'=.view n p (c.P.cellsOf e) lo k) (hn:A.o n=some (.box b)) (hat:b.at p=some (.agg fs)) (hsx:eC A (c.P.cellsOf e) (ak A x')=some ys) (hroom:lo+k+ys.length≤fs.length)
  (hsh:I.cV ys=I.cV ((fs.drop (lo+k)).take ys.length)) (hdn:∀ k,o.dst=some k→k<c.n) :
  iH c A o ((A.aV n (.box (jo b p (lo+k) fs ys))).aX o.dst (.view n p (c.P.cellsOf e) lo (k+ys.length))):=by
 intro a w D E hsim;obtain ⟨i,hi⟩:=zx1.1 hi;have hci:c.P.cellsOf e=i.size:=by simp[Program.cellsOf,hi]
 have aZ:=bZ hsim hs';rw[hv] at aZ;have hxx:cJ A (.ptr n p)=some (.agg fs):=by simp only[cJ,hn,hat]
 obtain ⟨yy,bk,cs,T,off,c1,c2,c3,k1,k2,k3,k4,k5,k6,k7,k8,k9,k10,k11,k12,hval⟩:=hsim.view aZ hxx;rw[hn] at k1;simp only[v6,ao.box.injEq] at k1;subst k1;obtain ⟨ad2,cp2,news,t1,t2,t3,t4,t5,t6⟩:=qh hsim (bZ hsim hx') hsx;obtain ⟨w',U,ab⟩:=hsim.jo (j:=lo+k) (ys:=ys) hn k2 k3 k4 k5 k6 k7 k8 k9 k10 t4 hroom hsh c.P;have g2:=t6 c.P w (fun _ _ h=>h);rw[t1,hci] at g2;have hr:k+ys.length≤fs.length-lo:=by omega
 refine ⟨w',.inl ⟨.slice (some ⟨bk,off+lo*c.P.cellsOf e,none⟩) (k+ys.length) (fs.length-lo),?_,D,E,ab.aX hdn ?_⟩⟩
 ·have e1:off+lo*i.size+k*i.size=off+(lo+k)*c.P.cellsOf e:=by rw[hci,Nat.add_mul];omega
  unfold execOp;simp only[ho,resolve,invoke,builtin,Sem.run_bind,Sem.run_pure,Result.andThen_ok,List.map_toArray,zz4,zx6,hval,t1];simp[Builtin.append_,run_underlying hu,sizeOf,typeInfo,hi,Builtin.lenOf,hr,g2,Addr.add_lit,hci,e1];rw[hci] at U;simp[U]
 ·refine ⟨_,by simp[bG,I.isAgg];rfl,?_⟩;simp only[al];refine ⟨bk,b.bd,off,I.cV fs,k2,k5,ny p b _ k4,?_,?_,?_,?_⟩
  ·rw[I.dw,zz7]
  ·rw[I.dw,zz7];exact k12
  ·rw[I.dw,zz7];omega
  ·rw[I.dw];intro s hs;obtain ⟨f,hf,rfl⟩:=zy5.1 hs;rw[I.l9];exact k10 f hf
theorem Nr{t e:TypeId}{s x:Operand}{s' x':aR}{es:List I}(ho:o.op=.call { callee:=.builtin .append,args := #[s,x],argTypes := #[t,t] })(hu:c.P.underlying t=some (.slice e))(hi:(c.P.info? e).isSome=true)(hs':bB c.P t s=some s')(hx':bB c.P t x=some x')
  (hse:eC A (c.P.cellsOf e) (ak A s')=some es) (hsx:eC A (c.P.cellsOf e) (ak A x')=some []):dH c A o (ak A s') :=
 .same fun a w D E hsim=>by
  obtain ⟨i,hi⟩:=zx1.1 hi;have hci:c.P.cellsOf e=i.size:=by simp[Program.cellsOf,hi]
  obtain ⟨ad1,cp1,olds,s1,s2,s3,s4,s5,s6⟩:=qh hsim (bZ hsim hs') hse;obtain ⟨ad2,cp2,news,t1,t2,t3,t4,t5,t6⟩:=qh hsim (bZ hsim hx') hsx;have g2:=t6 c.P w (fun _ _ h=>h);rw[t1,hci] at g2;simp only[aP] at t4;subst t4;refine ⟨a.eval s,?_,bZ hsim hs'⟩;simp only[List.length_nil] at g2 t1;unfold execOp;simp only[ho,resolve,invoke,builtin,Sem.run_bind,Sem.run_pure,Result.andThen_ok,List.map_toArray,zz4,zx6,s1,t1];cases ad1 <;>simp[Builtin.append_,run_underlying hu,sizeOf,typeInfo,hi,Builtin.lenOf,s2,g2,storeCells]
end
end Go.Abs
