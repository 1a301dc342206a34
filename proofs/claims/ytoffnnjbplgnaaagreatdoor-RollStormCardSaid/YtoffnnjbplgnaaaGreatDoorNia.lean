/-
  A part of the proof that the law RollStorm returns true for every input; five variables of Go's library start as the text lays them (the card ties them); conditions: none beyond the statement's own. (part 1 of 6)
-/
import Derived.WalkKit
import Derived.Orders
import Derived.Still
import Derived.RangeFuncSeq
import Derived.RangeFuncLeaves
import Derived.RangeFuncOwn
import Derived.Great.FillDense
import Derived.Great.BuildSlice
import Derived.Laws.CopyRow
import Derived.ChangeKeysEq
import Derived.Laws.AppendOwn
set_option linter.unusedSimpArgs false
set_option linter.unusedVariables false
set_option maxHeartbeats 16000000
set_option maxRecDepth 100000
namespace Go
theorem y6:type_of% @And.intro:=@And.intro
theorem v6:type_of% @Option.some.injEq:=@Option.some.injEq
theorem t7:type_of% @Option.map_eq_some_iff:=@Option.map_eq_some_iff
theorem t8:type_of% @Nat.le_of_ble_eq_true:=@Nat.le_of_ble_eq_true
theorem Z7:type_of% @Bool.and_eq_true:=@Bool.and_eq_true
theorem Z8:type_of% @List.length_append:=@List.length_append
theorem Z9:type_of% @List.length_map:=@List.length_map
theorem zz0:type_of% @List.append_assoc:=@List.append_assoc
theorem zz1:type_of% @List.map_cons:=@List.map_cons
theorem zz2:type_of% @Nat.le_refl:=@Nat.le_refl
theorem zz3:type_of% @Bool.false_eq_true:=@Bool.false_eq_true
theorem zz4:type_of% @List.length_take:=@List.length_take
theorem zz5:type_of% @Nat.zero_add:=@Nat.zero_add
theorem zz6:type_of% @List.getElem?_eq_some_iff:=@List.getElem?_eq_some_iff
theorem zz7:type_of% @Option.map_some:=@Option.map_some
theorem zz8:type_of% @List.cons_append:=@List.cons_append
theorem zz9:type_of% @Int.eq_ofNat_of_zero_le:=@Int.eq_ofNat_of_zero_le
theorem zy0:type_of% @List.getElem?_eq_getElem:=@List.getElem?_eq_getElem
theorem zy1:type_of% @Array.getElem?_eq_some_iff:=@Array.getElem?_eq_some_iff
theorem zy2:type_of% @List.mem_append:=@List.mem_append
theorem zy3:type_of% @List.nil_append:=@List.nil_append
theorem zy4:type_of% @Option.isSome_iff_exists:=@Option.isSome_iff_exists
theorem zy5:type_of% @List.map_nil:=@List.map_nil
theorem zy6:type_of% @List.getElem?_append_left:=@List.getElem?_append_left
theorem zy7:type_of% @List.cons.injEq:=@List.cons.injEq
theorem zy8:type_of% @List.mem_cons:=@List.mem_cons
theorem zy9:type_of% @List.getD_eq_getElem?_getD:=@List.getD_eq_getElem?_getD
theorem zx0:type_of% @Array.getElem?_toList:=@Array.getElem?_toList
theorem zx1:type_of% @List.take_append_drop:=@List.take_append_drop
theorem zx2:type_of% @List.mem_singleton:=@List.mem_singleton
theorem zx3:type_of% @List.getElem?_map:=@List.getElem?_map
theorem zx4:type_of% @List.mem_map:=@List.mem_map
theorem zx5:type_of% @List.map_append:=@List.map_append
theorem zx6:type_of% @Array.length_toList:=@Array.length_toList
theorem zx7:type_of% @List.length_cons:=@List.length_cons
theorem zx8:type_of% @List.all_eq_true:=@List.all_eq_true
theorem zx9:type_of% @List.append_nil:=@List.append_nil
theorem zw0:type_of% @Option.map_none:=@Option.map_none
theorem zw1:type_of% @List.eq_nil_of_length_eq_zero:=@List.eq_nil_of_length_eq_zero
theorem zw2:type_of% @List.length_nil:=@List.length_nil
theorem zw3:type_of% @List.getElem?_append_right:=@List.getElem?_append_right
theorem zw4:type_of% @List.take_of_length_le:=@List.take_of_length_le
theorem zw5:type_of% @List.mem_of_mem_take:=@List.mem_of_mem_take
theorem zw6:type_of% @Option.bind_eq_some_iff:=@Option.bind_eq_some_iff
theorem zw7:type_of% @Array.getElem?_eq_getElem:=@Array.getElem?_eq_getElem
theorem zw8:type_of% @Option.bind_some:=@Option.bind_some
theorem zw9:type_of% @Nat.lt_of_lt_of_le:=@Nat.lt_of_lt_of_le
theorem zv0:type_of% @Nat.zero_le:=@Nat.zero_le
theorem zv1:type_of% @List.length_drop:=@List.length_drop
end Go
namespace Go.Abs
open Go
inductive I where
 |undef | dc
 |bool (b:Bool)
 |int (k:IntKind) (n:Int)
 |ak (s:ByteArray)
 |nilp | di | cU
 |any
 |raw (v:Value)
 |nils (sz:Nat)
 |c0 (sz:Nat)
 |slice (sz:Nat) (es:List I)
 |agg (fs:List I)
 |tuple (fs:List I)
 |ref (c:I)
 |func (f:FuncId) (caps:List I)
 |iface (t:TypeId) (v:I)
 |ptr (n:Nat) (p:List Nat)
 |own (n:Nat) (k:Nat)
 |view (n:Nat) (p:List Nat) (sz lo k:Nat)
 |mref (n:Nat)
 |c8 (n:Nat)
 |da (ks vs:List I)
 deriving Inhabited
inductive bP where
 |one
 |eE (l:List bP)
 deriving Inhabited
mutual
def bP.size:bP→Nat
 | .one=>1
 | .eE l=>bP.sizes l
def bP.sizes:List bP→Nat
 | []=>0
 |s::l=>s.size+bP.sizes l
end
mutual
def I.aL:I→bP
 | .agg fs=>.eE (I.cJ fs)
 |_=>.one
def I.cJ:List I→List bP
 | []=>[]
 |f::fs=>f.aL::I.cJ fs
end
mutual
def I.size:I→Nat
 | .agg fs=>I.sizes fs
 |_=>1
def I.sizes:List I→Nat
 | []=>0
 |f::fs=>f.size+I.sizes fs
end
def I.isAgg:I→Bool
 | .agg _=>true
 |_=>false
def bP.off:bP→List Nat→Option Nat
 |_,[]=>some 0
 | .one,_::_=>none
 | .eE l,i::p=>match l[i]? with
  |some s=>(s.off p).map (bP.sizes (l.take i) + ·)
  |none=>none
def bP.part:bP→List Nat→Option bP
 |s,[]=>some s
 | .one,_::_=>none
 | .eE l,i::p=>match l[i]? with
  |some s=>s.part p
  |none=>none
def I.at:I→List Nat→Option I
 |c,[]=>some c
 | .agg fs,i::p=>match fs[i]? with
  |some f=>f.at p
  |none=>none
 |_,_::_=>none
def I.dI:I→List Nat→I→I
 |_,[],v=>v
 | .agg fs,i::p,v=>match fs[i]? with
  |some f=>.agg (fs.set i (f.dI p v))
  |none=>.agg fs
 |c,_::_,_=>c
inductive bw where
 |aE (b:Nat) (aL:bP)
 |rw (aB:Option (Nat×Nat)) (len:Nat)
 |op (b:Nat)
 |cn (b:Nat)
 |it (b:Nat)
def bw.eB:bw→Bool
 | .rw _ _=>false
 |_=>true
def bw.eD(e e':bw):Prop:=e'=e∨∃ aB l blk' l',e=.rw aB l∧e'=.rw blk' l'∧l≤l'∧(l'=l→blk'=aB)
theorem bw.eD.refl(e:bw):e.eD e:=.inl rfl
theorem bw.eD.eq{e e':bw}(h:e.eD e')(hf:e.eB=true):e'=e:=by
 rcases h with h | ⟨aB,l,blk',l',rfl,_⟩
 ·exact h
 ·cases hf
theorem bw.eD.trans{a b c:bw}(h:a.eD b)(k:b.eD c):a.eD c:=by
 rcases h with rfl | ⟨aB,l,blk',l',rfl,rfl,h1,h2⟩
 ·exact k
 ·rcases k with rfl | ⟨_,_,blk2,l2,e,rfl,h3,h4⟩
  ·exact .inr ⟨aB,l,blk',l',rfl,rfl,h1,h2⟩
  ·cases e;exact .inr ⟨aB,l,blk2,l2,rfl,rfl,by omega,fun e=>by rw[h4 (by omega),h2 (by omega)]⟩
abbrev aH:=Nat→Nat→Prop
abbrev aN:=Nat→Option bw
def reads(w:World)(D:aH)(b off:Nat)(cs:List Value):Prop :=
 ∀ j v,cs[j]?=some v→w.cell? ⟨b,off+j,none⟩=some v∧D b (off+j)
def nM(es:Array MapEntry)(clock:Nat):Prop:=(∀ x∈es.toList,x.born<clock)∧(es.toList.map (·.born)).Nodup
def nc(w:World)(D:aH)(b:Nat)(es:Array MapEntry)(clock:Nat):Prop:=w.heap[b]?=some (.map es clock)∧D b 0∧nM es clock
def ba(e:I)(v:Value)(cs:List Value):Prop:=if e.isAgg then v=.agg cs.toArray else cs=[v]
def jh(f:Nat)(vs:List Value):Value:=if f<1000000 then .func (.func f) #[] vs.toArray else .func (.func (f-1000000)) vs.toArray #[]
theorem mb{f:Nat}(h:f<1000000)(vs:List Value):jh f vs=.func (.func f) #[] vs.toArray:=by simp only[jh,if_pos h]
theorem qb(f:Nat)(vs:List Value):jh (f+1000000) vs=.func (.func f) vs.toArray #[]:=by
 simp only[jh,if_neg (show ¬ f+1000000<1000000 by omega),Nat.add_sub_cancel]
theorem M2{f:Nat}{vs vs':List Value}(h:jh f vs=jh f vs'):vs=vs':=by
 rcases Nat.lt_or_ge f 1000000 with hf | hf
 ·rw[mb hf,mb hf] at h;simpa using h
 ·obtain ⟨g,rfl⟩:∃ g,f=g+1000000:=⟨f-1000000,by omega⟩
  rw[qb,qb] at h;simpa using h
theorem Bg(f:Nat)(vs:List Value):(jh f vs).oneCell'=true:=by
 simp only[jh];split <;>simp[Value.oneCell']
mutual
/-- These cells hold this value. -/
def af(w:World)(D:aH)(E:aN):I→List Value→Prop
 | .agg fs,cs=>aA w D E fs cs
 | .bool b,cs=>cs=[.bool b]
 | .int k n,cs=>cs=[.int k n]∧k.min≤n∧n≤k.max
 | .ak s,cs=>cs=[.string s]∧s.size≤maxLen
 | .nilp,cs=>cs=[.pointer none]
 | .di,cs=>cs=[.nilFunc]
 | .cU,cs=>cs=[.nilIface]
 | .any,cs=>∃ v:Value,cs=[v]∧v.oneCell'=true
 | .raw u,cs=>cs=[u]∧u.oneCell'=true
 | .nils _,cs=>cs=[.slice none 0 0]
 | .c0 _,cs=>∃ a,cs=[.slice a 0 0]
 | .slice sz es,cs=>∃ a cap,cs=[.slice a es.length cap]∧es.length≤cap∧cap≤maxLen ∧
   (es=[]∨∃ b off cs',a=some ⟨b,off,none⟩∧reads w D b off cs'∧aA w D E es cs')∧∀ e∈es,e.size=sz
 | .ref c,cs=>∃ b off cs',cs=[.pointer (some ⟨b,off,none⟩)]∧reads w D b off cs'∧af w D E c cs'
 | .func f caps,cs=>∃ vs:List Value,cs=[jh f vs]∧ao w D E caps vs
 | .iface t v,cs=>∃ u cs',cs=[.iface t u]∧ba v u cs'∧af w D E v cs'
 | .ptr n p,cs=>∃ b aL off,E n=some (.aE b aL)∧aL.off p=some off∧cs=[.pointer (some ⟨b,off,none⟩)]
 | .own n k,cs=>∃ aB l,E n=some (.rw aB l)∧k≤l∧(∃ a m c,cs=[.slice a m c]) ∧
   (k=l→match aB with | none=>cs=[.slice none 0 0] | some (b,cap)=>cs=[.slice (some ⟨b,0,none⟩) k cap])
 | .view n p sz lo k,cs=>∃ b aL off l,E n=some (.aE b aL)∧aL.off p=some off∧aL.part p=some (.eE l)∧cs=[.slice (some ⟨b,off+lo*sz,none⟩) k (l.length-lo)]∧l.length≤maxLen∧lo+k≤l.length∧∀ s∈l,s.size=sz
 | .mref n,cs=>∃ b,E n=some (.cn b)∧cs=[.map (some b)]
 | .c8 n,cs=>∃ b,E n=some (.it b)∧cs=[.pointer (some ⟨b,0,none⟩)]
 | .da ks vs,cs=>∃ b es clock,cs=[.map (some b)]∧nc w D b es clock∧ao w D E ks (es.toList.map (·.key))∧ao w D E vs (es.toList.map (·.val))
 | .undef,_ | .dc,_ | .tuple _,_=>False
def aA(w:World)(D:aH)(E:aN):List I→List Value→Prop
 | [],cs=>cs=[]
 |e::es,cs=>∃ c1 c2,cs=c1++c2∧af w D E e c1∧aA w D E es c2
def ao(w:World)(D:aH)(E:aN):List I→List Value→Prop
 | [],vs=>vs=[]
 |e::es,vs=>∃ v rest cs,vs=v::rest∧ba e v cs∧af w D E e cs∧ao w D E es rest
end
def aR(w:World)(D:aH)(E:aN)(x:I)(v:Value):Prop :=
 match x with
 | .undef=>v=undef
 | .dc=>True
 | .tuple fs=>∃ vs:List Value,v=.tuple vs.toArray∧ao w D E fs vs
 |x=>∃ cs,ba x v cs∧af w D E x cs
structure dy (w:World) (D:aH) (E:aN) (w':World) (D':aH) (E':aN):Prop where
 cO:∀ b o,D b o→D' b o
 cell:∀ b o v,D b o→w.cell? ⟨b,o,none⟩=some v→w'.cell? ⟨b,o,none⟩=some v
 aE:∀ n b aL,E n=some (.aE b aL)→E' n=some (.aE b aL)
 rw:∀ n aB l,E n=some (.rw aB l)→∃ blk' l',E' n=some (.rw blk' l')∧l≤l'∧(l'=l→blk'=aB)
 cn:∀ n b,E n=some (.cn b)→E' n=some (.cn b)
 it:∀ n b,E n=some (.it b)→E' n=some (.it b)
 iR:∀ b es ck,D b 0→w.heap[b]?=some (.map es ck)→w'.heap[b]?=some (.map es ck)
structure gq (w:World) (D:aH) (w':World):Prop where
 cell:∀ b o v,D b o→w.cell? ⟨b,o,none⟩=some v→w'.cell? ⟨b,o,none⟩=some v
 iR:∀ b es ck,D b 0→w.heap[b]?=some (.map es ck)→w'.heap[b]?=some (.map es ck)
theorem gq.refl(w:World)(D:aH):gq w D w:=⟨fun _ _ _ _ h=>h,fun _ _ _ _ h=>h⟩
theorem gq.trans{w w' w'':World}{D D':aH}(h:gq w D w')(hD:∀ b o,D b o→D' b o)(k:gq w' D' w''):gq w D w'' :=
 ⟨fun b o v hd ab=>k.cell b o v (hD b o hd) (h.cell b o v hd ab),fun b es ck hd hm=>k.iR b es ck (hD b 0 hd) (h.iR b es ck hd hm)⟩
theorem dy.fy{w w':World}{D D':aH}{E E':aN}(h:dy w D E w' D' E'):gq w D w':=⟨h.cell,h.iR⟩
theorem nc.later{w w':World}{D D':aH}{E E':aN}(h:dy w D E w' D' E'){b:Nat}{es:Array MapEntry}{clock:Nat}(hr:nc w D b es clock):nc w' D' b es clock :=
 ⟨h.iR _ _ _ hr.2.1 hr.1,h.cO _ _ hr.2.1,hr.2.2⟩
theorem reads.later{w w':World}{D D':aH}{E E':aN}(h:dy w D E w' D' E'){b off:Nat}{cs:List Value}(hr:reads w D b off cs):reads w' D' b off cs :=
 fun j v hj=>⟨h.cell _ _ _ (hr j v hj).2 (hr j v hj).1,h.cO _ _ (hr j v hj).2⟩
mutual
theorem af.later{w w':World}{D D':aH}{E E':aN}(h:dy w D E w' D' E'):∀ (x:I) (cs:List Value),af w D E x cs→af w' D' E' x cs
 | .agg fs,cs,hr=>by simp only[af] at *;exact aA.later h fs cs hr
 | .bool b,cs,hr=>by simpa only[af] using hr
 | .int k n,cs,hr=>by simpa only[af] using hr
 | .ak s,cs,hr=>by simpa only[af] using hr
 | .nilp,cs,hr=>by simpa only[af] using hr
 | .di,cs,hr=>by simpa only[af] using hr
 | .cU,cs,hr | .any,cs,hr=>by simpa only[af] using hr
 | .raw _,cs,hr=>by simpa only[af] using hr
 | .nils _,cs,hr=>by simpa only[af] using hr
 | .c0 _,cs,hr=>by simpa only[af] using hr
 | .slice sz es,cs,hr=>by
  simp only[af] at *;obtain ⟨a,cap,h1,h2,h3,h4,h5⟩:=hr;refine ⟨a,cap,h1,h2,h3,?_,h5⟩;rcases h4 with h4 | ⟨b,off,cs',h6,h7,h8⟩
  ·exact .inl h4
  ·exact .inr ⟨b,off,cs',h6,h7.later h,aA.later h es cs' h8⟩
 | .ref c,cs,hr=>by
  simp only[af] at *;obtain ⟨b,off,cs',h1,h2,h3⟩:=hr;exact ⟨b,off,cs',h1,h2.later h,af.later h c cs' h3⟩
 | .func f caps,cs,hr=>by
  simp only[af] at *;obtain ⟨vs,h1,h2⟩:=hr;exact ⟨vs,h1,ao.later h caps vs h2⟩
 | .iface t v,cs,hr=>by
  simp only[af] at *;obtain ⟨u,cs',h1,h2,h3⟩:=hr;exact ⟨u,cs',h1,h2,af.later h v cs' h3⟩
 | .ptr n p,cs,hr=>by
  simp only[af] at *;obtain ⟨b,aL,off,h1,h2,h3⟩:=hr;exact ⟨b,aL,off,h.aE _ _ _ h1,h2,h3⟩
 | .own n k,cs,hr=>by
  simp only[af] at *;obtain ⟨aB,l,h1,h2,h3,h4⟩:=hr;obtain ⟨blk',l',h5,h6,h7⟩:=h.rw _ _ _ h1;refine ⟨blk',l',h5,Nat.le_trans h2 h6,h3,fun e =>?_⟩;have e1:l'=l:=by omega
  rw[h7 e1];exact h4 (by omega)
 | .view n p _ _ _,cs,hr=>by
  simp only[af] at *;obtain ⟨b,aL,off,l,h1,h2⟩:=hr;exact ⟨b,aL,off,l,h.aE _ _ _ h1,h2⟩
 | .mref n,cs,hr=>by
  simp only[af] at *;obtain ⟨b,h1,h2⟩:=hr;exact ⟨b,h.cn _ _ h1,h2⟩
 | .c8 n,cs,hr=>by
  simp only[af] at *;obtain ⟨b,h1,h2⟩:=hr;exact ⟨b,h.it _ _ h1,h2⟩
 | .da ks vs,cs,hr=>by
  simp only[af] at *;obtain ⟨b,es,clock,h1,h2,h3,h4⟩:=hr;exact ⟨b,es,clock,h1,h2.later h,ao.later h ks _ h3,ao.later h vs _ h4⟩
 | .undef,_,hr=>by simp only[af] at hr
 | .dc,_,hr=>by simp only[af] at hr
 | .tuple _,_,hr=>by simp only[af] at hr
theorem aA.later{w w':World}{D D':aH}{E E':aN}(h:dy w D E w' D' E'):∀ (xs:List I) (cs:List Value),aA w D E xs cs→aA w' D' E' xs cs
 | [],cs,hr=>by simpa only[aA] using hr
 |x::xs,cs,hr=>by
  simp only[aA] at *;obtain ⟨c1,c2,h1,h2,h3⟩:=hr;exact ⟨c1,c2,h1,af.later h x c1 h2,aA.later h xs c2 h3⟩
theorem ao.later{w w':World}{D D':aH}{E E':aN}(h:dy w D E w' D' E'):∀ (xs:List I) (vs:List Value),ao w D E xs vs→ao w' D' E' xs vs
 | [],vs,hr=>by simpa only[ao] using hr
 |x::xs,vs,hr=>by
  simp only[ao] at *;obtain ⟨v,rest,cs,h1,h2,h3,h4⟩:=hr;exact ⟨v,rest,cs,h1,h2,af.later h x cs h3,ao.later h xs rest h4⟩
end
theorem aR.later{w w':World}{D D':aH}{E E':aN}(h:dy w D E w' D' E'){x:I}{v:Value}(hr:aR w D E x v):aR w' D' E' x v:=by
 cases x <;>simp only[aR] at * <;>first
  |exact hr
  |(obtain ⟨vs,h1,h2⟩:=hr;exact ⟨vs,h1,ao.later h _ _ h2⟩)
  |(obtain ⟨cs,h1,h2⟩:=hr;exact ⟨cs,h1,af.later h _ _ h2⟩)
mutual
theorem I.iH:∀ x:I,x.aL.size=x.size
 | .agg fs=>by simp only[I.aL,I.size,bP.size];exact I.lT fs
 | .undef | .dc | .bool _ | .int _ _ | .ak _ | .nilp | .di | .cU | .any | .raw _ | .nils _ | .c0 _ | .slice _ _ | .tuple _ | .ref _ | .func _ _ | .iface _ _ | .ptr _ _ | .own _ _ | .view _ _ _ _ _ | .mref _ | .c8 _ | .da _ _=>by simp only[I.aL,I.size,bP.size]
theorem I.lT:∀ xs:List I,bP.sizes (I.cJ xs)=I.sizes xs
 | []=>by simp only[I.cJ,I.sizes,bP.sizes]
 |x::xs=>by simp only[I.cJ,I.sizes,bP.sizes];rw[I.iH x,I.lT xs]
end
mutual
theorem af.length{w:World}{D:aH}{E:aN} : ∀ (x:I) (cs:List Value),af w D E x cs→cs.length=x.size
 | .agg fs,cs,hr=>by simp only[af,I.size] at *;exact aA.length fs cs hr
 | .bool b,cs,hr=>by simp only[af] at hr;simp[hr,I.size]
 | .int k n,cs,hr=>by simp only[af] at hr;simp[hr.1,I.size]
 | .ak s,cs,hr=>by simp only[af] at hr;simp[hr.1,I.size]
 | .nilp,cs,hr=>by simp only[af] at hr;simp[hr,I.size]
 | .di,cs,hr=>by simp only[af] at hr;simp[hr,I.size]
 | .cU,cs,hr=>by simp only[af] at hr;simp[hr,I.size]
 | .any,cs,hr=>by simp only[af] at hr;obtain ⟨v,rfl,_⟩:=hr;simp[I.size]
 | .raw u,cs,hr=>by simp only[af] at hr;simp[hr.1,I.size]
 | .nils _,cs,hr=>by simp only[af] at hr;simp[hr,I.size]
 | .c0 _,cs,hr=>by simp only[af] at hr;obtain ⟨a,rfl⟩:=hr;simp[I.size]
 | .slice sz es,cs,hr=>by simp only[af] at hr;obtain ⟨a,cap,rfl,_⟩:=hr;simp[I.size]
 | .ref c,cs,hr=>by simp only[af] at hr;obtain ⟨b,off,cs',rfl,_⟩:=hr;simp[I.size]
 | .func f caps,cs,hr=>by simp only[af] at hr;obtain ⟨vs,rfl,_⟩:=hr;simp[I.size]
 | .iface t v,cs,hr=>by simp only[af] at hr;obtain ⟨u,cs',rfl,_⟩:=hr;simp[I.size]
 | .ptr n p,cs,hr=>by simp only[af] at hr;obtain ⟨b,aL,off,_,_,rfl⟩:=hr;simp[I.size]
 | .own n k,cs,hr=>by simp only[af] at hr;obtain ⟨aB,l,_,_,⟨a,m,c,rfl⟩,_⟩:=hr;simp[I.size]
 | .view n p _ _ _,cs,hr=>by simp only[af] at hr;obtain ⟨b,aL,off,l,_,_,_,rfl,_⟩:=hr;simp[I.size]
 | .mref n,cs,hr=>by simp only[af] at hr;obtain ⟨b,_,rfl⟩:=hr;simp[I.size]
 | .c8 n,cs,hr=>by simp only[af] at hr;obtain ⟨b,_,rfl⟩:=hr;simp[I.size]
 | .da ks vs,cs,hr=>by simp only[af] at hr;obtain ⟨b,es,ck,rfl,_⟩:=hr;simp[I.size]
 | .undef,_,hr=>by simp only[af] at hr
 | .dc,_,hr=>by simp only[af] at hr
 | .tuple _,_,hr=>by simp only[af] at hr
theorem aA.length{w:World}{D:aH}{E:aN} : ∀ (xs:List I) (cs:List Value),aA w D E xs cs→cs.length=I.sizes xs
 | [],cs,hr=>by simp only[aA] at hr;simp[hr,I.sizes]
 |x::xs,cs,hr=>by
  simp only[aA] at hr;obtain ⟨c1,c2,rfl,h1,h2⟩:=hr;simp only[Z8,I.sizes,af.length x c1 h1,aA.length xs c2 h2]
end
mutual
theorem af.kL{w:World}{D:aH}{E:aN} : ∀ (x:I) (cs:List Value),af w D E x cs→∀ v∈cs,v.oneCell'=true
 | .agg fs,cs,hr=>by simp only[af] at hr;exact aA.kL fs cs hr
 | .bool b,cs,hr=>by simp only[af] at hr;simp[hr,Value.oneCell']
 | .int k n,cs,hr=>by simp only[af] at hr;simp[hr.1,Value.oneCell']
 | .ak s,cs,hr=>by simp only[af] at hr;simp[hr.1,Value.oneCell']
 | .nilp,cs,hr=>by simp only[af] at hr;simp[hr,Value.oneCell']
 | .di,cs,hr=>by simp only[af] at hr;simp[hr,Value.oneCell']
 | .cU,cs,hr=>by simp only[af] at hr;simp[hr,Value.oneCell']
 | .any,cs,hr=>by simp only[af] at hr;obtain ⟨v,rfl,h⟩:=hr;simpa using h
 | .raw u,cs,hr=>by simp only[af] at hr;simpa[hr.1] using hr.2
 | .nils _,cs,hr=>by simp only[af] at hr;simp[hr,Value.oneCell']
 | .c0 _,cs,hr=>by simp only[af] at hr;obtain ⟨a,rfl⟩:=hr;simp[Value.oneCell']
 | .slice sz es,cs,hr=>by simp only[af] at hr;obtain ⟨a,cap,rfl,_⟩:=hr;simp[Value.oneCell']
 | .ref c,cs,hr=>by simp only[af] at hr;obtain ⟨b,off,cs',rfl,_⟩:=hr;simp[Value.oneCell']
 | .func f caps,cs,hr=>by simp only[af] at hr;obtain ⟨vs,rfl,_⟩:=hr;simp only[jh];split <;>simp[Value.oneCell']
 | .iface t v,cs,hr=>by simp only[af] at hr;obtain ⟨u,cs',rfl,_⟩:=hr;simp[Value.oneCell']
 | .ptr n p,cs,hr=>by simp only[af] at hr;obtain ⟨b,aL,off,_,_,rfl⟩:=hr;simp[Value.oneCell']
 | .own n k,cs,hr=>by simp only[af] at hr;obtain ⟨aB,l,_,_,⟨a,m,c,rfl⟩,_⟩:=hr;simp[Value.oneCell']
 | .view n p _ _ _,cs,hr=>by simp only[af] at hr;obtain ⟨b,aL,off,l,_,_,_,rfl,_⟩:=hr;simp[Value.oneCell']
 | .mref n,cs,hr=>by simp only[af] at hr;obtain ⟨b,_,rfl⟩:=hr;simp[Value.oneCell']
 | .c8 n,cs,hr=>by simp only[af] at hr;obtain ⟨b,_,rfl⟩:=hr;simp[Value.oneCell']
 | .da ks vs,cs,hr=>by simp only[af] at hr;obtain ⟨b,es,ck,rfl,_⟩:=hr;simp[Value.oneCell']
 | .undef,_,hr=>by simp only[af] at hr
 | .dc,_,hr=>by simp only[af] at hr
 | .tuple _,_,hr=>by simp only[af] at hr
theorem aA.kL{w:World}{D:aH}{E:aN} : ∀ (xs:List I) (cs:List Value),aA w D E xs cs→∀ v∈cs,v.oneCell'=true
 | [],cs,hr=>by simp only[aA] at hr;simp[hr]
 |x::xs,cs,hr=>by
  simp only[aA] at hr;obtain ⟨c1,c2,rfl,h1,h2⟩:=hr;intro v ab;rcases zy2.1 ab with h | h
  ·exact af.kL x c1 h1 v h
  ·exact aA.kL xs c2 h2 v h
end
theorem ba.cells{x:I}{v:Value}{cs:List Value}{w:World}{D:aH}{E:aN}(h:ba x v cs)(hr:af w D E x cs):v.cells.toList=cs:=by
 unfold ba at h;split at h
 ·rw[h];simp[Value.cells]
 ·subst h;have:=af.kL x _ hr v (by simp);cases v <;>simp[Value.cells,Value.oneCell'] at *
theorem lI{w:World}{D:aH}{E:aN} : ∀ (xs:List I) (cs:List Value) (i:Nat) (x:I),aA w D E xs cs→xs[i]?=some x →
  ∃ c1 c2 c3,cs=c1++c2++c3∧c1.length=I.sizes (xs.take i)∧aA w D E (xs.take i) c1∧af w D E x c2∧aA w D E (xs.drop (i+1)) c3
 | [],_,i,x,_,h=>by simp at h
 |y::ys,cs,0,x,hr,h=>by
  simp only[List.getElem?_cons_zero,v6] at h;subst h;simp only[aA] at hr;obtain ⟨c1,c2,rfl,h1,h2⟩:=hr;exact ⟨[],c1,c2,by simp,by simp[I.sizes],by simp[aA],h1,by simpa using h2⟩
 |y::ys,cs,i+1,x,hr,h=>by
  simp only[List.getElem?_cons_succ] at h;simp only[aA] at hr;obtain ⟨c0,c',rfl,h1,h2⟩:=hr;obtain ⟨c1,c2,c3,rfl,h3,h4,h5,h6⟩:=lI ys c' i x h2 h;refine ⟨c0++c1,c2,c3,by simp,?_,?_,h5,by simpa using h6⟩
  ·simp only[Z8,List.take_succ_cons,I.sizes,h3,af.length y c0 h1]
  ·simp only[List.take_succ_cons,aA];exact ⟨c0,c1,rfl,h1,h4⟩
theorem jl{w:World}{D:aH}{E:aN} : ∀ (xs ys:List I) (cs ds:List Value),aA w D E xs cs→aA w D E ys ds→aA w D E (xs++ys) (cs++ds)
 | [],ys,cs,ds,h,k=>by simp only[aA] at h;subst h;simpa using k
 |x::xs,ys,cs,ds,h,k=>by
  simp only[aA,zz8] at *;obtain ⟨c1,c2,rfl,h1,h2⟩:=h;exact ⟨c1,c2++ds,by simp,h1,jl xs ys c2 ds h2 k⟩
theorem I.gF{sz:Nat} : ∀ (xs:List I),(∀ x∈xs,x.size=sz)→I.sizes xs=xs.length*sz
 | [],_=>by simp[I.sizes]
 |x::xs,h=>by
  simp only[I.sizes,zx7];rw[h x (by simp),I.gF xs (fun y hy=>h y (by simp[hy])),Nat.add_mul];omega
theorem I.cL:∀ xs:List I,I.cJ xs=xs.map I.aL
 | []=>by simp[I.cJ]
 |x::xs=>by simp[I.cJ,I.cL xs]
theorem wS{w:World}{D:aH}{E:aN} : ∀ (p:List Nat) (c x:I) (cs:List Value),af w D E c cs→c.at p=some x →
  ∃ off c1 c2 c3,c.aL.off p=some off∧cs=c1++c2++c3∧c1.length=off∧af w D E x c2
 | [],c,x,cs,hr,h=>by
  simp only[I.at,v6] at h;subst h;exact ⟨0,[],cs,[],by cases c.aL <;>simp[bP.off],by simp,rfl,hr⟩
 |i::p,.agg fs,x,cs,hr,h=>by
  simp only[I.at] at h;simp only[af] at hr;cases hf:fs[i]? with
  |none=>simp[hf] at h
  |some f =>
   simp only[hf] at h;obtain ⟨c1,c2,c3,rfl,h1,_,h3,_⟩:=lI fs cs i f hr hf;obtain ⟨off,d1,d2,d3,h4,rfl,h6,h7⟩:=wS p f x c2 h3 h;refine ⟨I.sizes (fs.take i)+off,c1++d1,d2,d3++c3,?_,by simp,by simp[h1,h6],h7⟩;simp only[I.aL,bP.off,I.cL,zx3,hf,zz7,h4];rw[←List.map_take,←I.cL,I.lT]
 |_::_,.undef,_,_,_,h | _::_,.dc,_,_,_,h | _::_,.bool _,_,_,_,h | _::_,.int _ _,_,_,_,h | _::_,.ak _,_,_,_,h | _::_,.nilp,_,_,_,h
 |_::_,.di,_,_,_,h | _::_,.cU,_,_,_,h | _::_,.any,_,_,_,h | _::_,.raw _,_,_,_,h | _::_,.nils _,_,_,_,h | _::_,.c0 _,_,_,_,h | _::_,.slice _ _,_,_,_,h | _::_,.tuple _,_,_,_,h
 |_::_,.ref _,_,_,_,h | _::_,.func _ _,_,_,_,h | _::_,.iface _ _,_,_,_,h | _::_,.ptr _ _,_,_,_,h | _::_,.own _ _,_,_,_,h | _::_,.view _ _ _ _ _,_,_,_,h | _::_,.mref _,_,_,_,h | _::_,.c8 _,_,_,_,h | _::_,.da _ _,_,_,_,h=>by simp[I.at] at h
theorem tl{w:World}{D:aH}{E:aN} : ∀ (p:List Nat) (c x y:I) (cs ds:List Value),af w D E c cs→c.at p=some x→af w D E y ds→y.aL=x.aL →
  ∃ off,c.aL.off p=some off∧off+ds.length≤cs.length∧af w D E (c.dI p y) (cs.take off++ds++cs.drop (off+ds.length))∧(c.dI p y).aL=c.aL
 | [],c,x,y,cs,ds,hr,h,hy,hs=>by
  simp only[I.at,v6] at h;subst h;have hl:ds.length=cs.length:=by rw[af.length _ _ hy,af.length _ _ hr,←I.iH,←I.iH,hs]
  refine ⟨0,by cases c.aL <;>simp[bP.off],by omega,?_,by simpa[I.dI] using hs⟩;simpa[I.dI,hl] using hy
 |i::p,.agg fs,x,y,cs,ds,hr,h,hy,hs=>by
  simp only[I.at] at h;simp only[af] at hr;cases hf:fs[i]? with
  |none=>simp[hf] at h
  |some f =>
   simp only[hf] at h;obtain ⟨c1,c2,c3,rfl,h1,h2,h3,h3'⟩:=lI fs cs i f hr hf;obtain ⟨off,h4,h5,h6,h7⟩:=tl p f x y c2 ds h3 h hy hs;have hi:i<fs.length:=(zz6.1 hf).1;have hfi:fs[i]=f:=(zz6.1 hf).2;refine ⟨I.sizes (fs.take i)+off,?_,?_,?_,?_⟩
   ·simp only[I.aL,bP.off,I.cL,zx3,hf,zz7,h4];rw[←List.map_take,←I.cL,I.lT]
   ·simp only[Z8,h1];omega
   ·simp only[I.dI,hf,af];have e1:fs.set i (f.dI p y)=fs.take i++f.dI p y::fs.drop (i+1):=by rw[List.set_eq_take_append_cons_drop];simp[hi]
    rw[e1];have e2:(c1++c2++c3).take (I.sizes (fs.take i)+off)++ds++(c1++c2++c3).drop (I.sizes (fs.take i)+off+ds.length)=c1++((c2.take off++ds++c2.drop (off+ds.length))++c3):=by
     rw[←h1,zz0 c1 c2 c3,List.take_length_add_append,Nat.add_assoc,List.drop_length_add_append,List.take_append_of_le_length (by omega),List.drop_append_of_le_length (by omega)];simp
    rw[e2];refine jl _ _ _ _ h2 ?_;simp only[aA];exact ⟨_,_,rfl,h6,h3'⟩
   ·simp only[I.dI,hf,I.aL,I.cL,List.map_set,h7,bP.eE.injEq];apply List.ext_getElem?;intro k;rw[List.getElem?_set];split
    ·rename_i hk;subst hk;simp[hi,hfi]
    ·rfl
 |_::_,.undef,_,_,_,_,_,h,_,_ | _::_,.dc,_,_,_,_,_,h,_,_ | _::_,.bool _,_,_,_,_,_,h,_,_ | _::_,.int _ _,_,_,_,_,_,h,_,_ | _::_,.ak _,_,_,_,_,_,h,_,_ | _::_,.nilp,_,_,_,_,_,h,_,_
 |_::_,.di,_,_,_,_,_,h,_,_ | _::_,.cU,_,_,_,_,_,h,_,_ | _::_,.any,_,_,_,_,_,h,_,_ | _::_,.raw _,_,_,_,_,_,h,_,_ | _::_,.nils _,_,_,_,_,_,h,_,_ | _::_,.c0 _,_,_,_,_,_,h,_,_ | _::_,.slice _ _,_,_,_,_,_,h,_,_ | _::_,.tuple _,_,_,_,_,_,h,_,_
 |_::_,.ref _,_,_,_,_,_,h,_,_ | _::_,.func _ _,_,_,_,_,_,h,_,_ | _::_,.iface _ _,_,_,_,_,_,h,_,_ | _::_,.ptr _ _,_,_,_,_,_,h,_,_ | _::_,.own _ _,_,_,_,_,_,h,_,_ | _::_,.view _ _ _ _ _,_,_,_,_,_,h,_,_ | _::_,.mref _,_,_,_,_,_,h,_,_ | _::_,.c8 _,_,_,_,_,_,h,_,_ | _::_,.da _ _,_,_,_,_,_,h,_,_=>by simp[I.at] at h
theorem lS:∀ (p:List Nat) (c x:I),c.at p=some x→c.aL.part p=some x.aL
 | [],c,x,h=>by simp only[I.at,v6] at h;subst h;cases c.aL <;>rfl
 |i::p,.agg fs,x,h=>by
  simp only[I.at] at h;cases hf:fs[i]? with
  |none=>simp[hf] at h
  |some f =>
   simp only[hf] at h;simp only[I.aL,bP.part,I.cL,zx3,hf,zz7];exact lS p f x h
 |_::_,.undef,_,h | _::_,.dc,_,h | _::_,.bool _,_,h | _::_,.int _ _,_,h | _::_,.ak _,_,h | _::_,.nilp,_,h
 |_::_,.di,_,h | _::_,.cU,_,h | _::_,.any,_,h | _::_,.raw _,_,h | _::_,.nils _,_,h | _::_,.c0 _,_,h | _::_,.slice _ _,_,h | _::_,.tuple _,_,h
 |_::_,.ref _,_,h | _::_,.func _ _,_,h | _::_,.iface _ _,_,h | _::_,.ptr _ _,_,h | _::_,.own _ _,_,h | _::_,.view _ _ _ _ _,_,h | _::_,.mref _,_,h | _::_,.c8 _,_,h | _::_,.da _ _,_,h=>by simp[I.at] at h
end Go.Abs
namespace Go.Abs
open Go Go.RowKit
inductive aj where
 |box (c:I)
 |bF (T:TypeId) (sz:Nat) (es:List I)
 |dm (o:Obj)
 |cn (ks vs:List I)
 |it (ks vs:List I) (left:List Nat) (cur:Option Nat)
 |dW (T:TypeId) (xs:List Int)
 deriving Inhabited
def aj.eB:aj→Bool
 | .it _ _ _ _=>false
 |_=>true
structure ae where
 t:Nat→I
 o:Nat→Option aj
def ae.put(A:ae)(d:Nat)(v:I):ae:=⟨fun k=>if k=d then v else A.t k,A.o⟩
def ae.aP(A:ae)(d:Option Nat)(v:I):ae:=match d with | some d=>A.put d v | none=>A
def ae.aQ(A:ae)(n:Nat)(x:aj):ae:=⟨A.t,fun k=>if k=n then some x else A.o k⟩
def cj:List (Nat×I)→Nat→I
 | [],_=>.dc
 |(k,v)::r,t=>if t=k then v else cj r t
def aD:List (Nat×aj)→Nat→Option aj
 | [],_=>none
 |(k,v)::r,t=>if t=k then some v else aD r t
def aw(ts:List (Nat×I))(os:List (Nat×aj)):ae:=⟨cj ts,aD os⟩
def aC(os:List (Nat×aj))(n:Nat):Bool:=(aD os n).isSome
abbrev b9:=I→List (Nat×aj)→Prop
structure ct where
 P:Program
 cW:World
 bL:aH
 n:Nat
 own:Nat→Prop
 cu:aN
 Y:Value→List I→List (Nat×aj)→b9→Prop
 qQ:Option Nat
 dF:Option (List Deferred):=none
def fO:Value→List I→List (Nat×aj)→b9→Prop:=fun _ _ _ _=>False
def ct.bl(c:ct):Fence:=match c.qQ with
 |none=>Fence.wide
 |some l=>Fence.wide.inRound l
def ct.eA(c:ct)(b:Nat):Prop:=c.cW.heap.size≤b∨c.own b
structure eH (M:Nat→Prop) (w w':World):Prop where
 os:w'.os=w.os
 tape:w'.tape=w.tape
 output:w'.output=w.output
 size:w.heap.size≤w'.heap.size
 block:∀ k,¬ M k→w'.heap[k]?=w.heap[k]?
theorem eH.refl(M:Nat→Prop)(w:World):eH M w w:=⟨rfl,rfl,rfl,zz2 _,fun _ _=>rfl⟩
theorem eH.trans{M:Nat→Prop}{a b c:World}(h:eH M a b)(k:eH M b c):eH M a c :=
 ⟨k.os.trans h.os,k.tape.trans h.tape,k.output.trans h.output,Nat.le_trans h.size k.size,fun i hi=>(k.block i hi).trans (h.block i hi)⟩
theorem eH.grow{M:Nat→Prop}{w w':World}{B:Nat}(h:Below B w w')(hB:∀ k,B≤k→M k):eH M w w' :=
 ⟨h.os,h.tape,h.output,h.size,fun k hk=>h.block k (Nat.lt_of_not_le fun hle=>hk (hB k hle))⟩
theorem eH.Hp{M:Nat→Prop}{w w':World}{B:Nat}(h:eH M w w')(hB:∀ k,k<B→¬ M k):Below B w w' :=
 ⟨h.os,h.tape,h.output,h.size,fun k hk=>h.block k (hB k hk)⟩
def bw.aB:bw→Option Nat
 | .aE b _=>some b
 | .rw (some (b,_)) _=>some b
 | .rw none _=>none
 | .op b=>some b
 | .cn b=>some b
 | .it b=>some b
def bw.eI:bw→Bool
 | .op _ | .cn _ | .it _=>true
 |_=>false
def oI:Obj→Bool
 | .loop _=>true
 |_=>false
def sX:Obj→Bool
 | .deferred _=>false
 |_=>true
theorem WQ{o:Obj}(h:oI o=true):sX o=true:=by cases o <;>first | rfl | cases h
def na(es:Array MapEntry)(seen:Array Nat):List Nat:=(List.range es.size).filter fun i=>match es[i]? with
 |some e => !seen.contains e.born
 |none=>false
def bP.BY:bP→Bool
 | .one=>true
 | .eE _=>false
def bP.flat:bP→Bool
 | .one=>false
 | .eE l=>l.all bP.BY
def eh(w:World)(b:Nat)(cs:Array Value)(T:TypeId)(s:bP):Prop:=∃ fz:Nat×Nat,w.heap[b]?=some (.cells cs T fz)∧(fz=(0,0)∨(fz.1=cs.size∧s.flat=true))
section
variable {w w':World} {b:Nat} {cs cs':Array Value} {T:TypeId} {s:bP}
theorem eh.CC(h:w.heap[b]?=some (.cells cs T (0,0))):eh w b cs T s:=⟨_,h,.inl rfl⟩
theorem eh.lt(h:eh w b cs T s):b<w.heap.size:=by obtain ⟨_,h,_⟩:=h;exact (zy1.1 h).1
theorem eh.XF(h:eh w b cs T s)(k:w'.heap[b]?=w.heap[b]?):eh w' b cs T s:=by obtain ⟨fz,h,hf⟩:=h;exact ⟨fz,k.trans h,hf⟩
theorem eh.Cz(h:eh w b cs T s){q:Option (List Deferred)}(k:w.heap[b]?=some (.deferred q)):False:=by obtain ⟨_,h,_⟩:=h;rw[h] at k;cases k
theorem eh.bD(h:eh w b cs T s):∃ o,w.heap[b]?=some o∧sX o=true:=by obtain ⟨_,h,_⟩:=h;exact ⟨_,h,rfl⟩
theorem eh.setRow(h:eh w b cs T s)(hs:cs'.size=cs.size):eh (w.setRow b cs') b cs' T s:=by
 obtain ⟨fz,h,hf⟩:=h;exact ⟨fz,setRow_heap w b cs cs' T _ h,hf.imp id fun k=>⟨k.1.trans hs.symm,k.2⟩⟩
theorem eh.aL{s':bP}(h:eh w b cs T s)(e:s'=s):eh w b cs T s':=e▸h
theorem eh.M4(h:eh w b cs T s){o:Nat}(ho:o<cs.size):w.frozen? ⟨b,o,none⟩=false:=by
 obtain ⟨⟨z1,z2⟩,h,hf⟩:=h;cases hq:w.frozen? ⟨b,o,none⟩ with
 |false=>rfl
 |true =>
  simp only[World.frozen?,h,Z7,decide_eq_true_eq] at hq;rcases hf with hf | hf
  ·simp only[Prod.mk.injEq] at hf;omega
  ·have:=hf.1;simp only at this;omega
theorem eh.plain(h:eh w b cs T s)(hs:s.flat=false):w.heap[b]?=some (.cells cs T (0,0)):=by
 obtain ⟨fz,h,hf | hf⟩:=h
 ·rw[←hf];exact h
 ·rw[hs] at hf;cases hf.2
end
def c6(M:Nat→Prop)(w:World)(D:aH)(E:aN)(n:Nat):Option aj→Prop
 |none=>E n=none
 |some (.box x)=>∃ b cs T,E n=some (.aE b x.aL)∧M b∧eh w b cs T x.aL∧af w D E x cs.toList∧∀ o,¬ D b o
 |some (.bF T sz es)=>∃ aB,E n=some (.rw aB es.length)∧(∀ e∈es,e.size=sz)∧match aB with
  |none=>es=[]
  |some (b,cap)=>∃ cs pre rest,M b∧w.heap[b]?=some (.cells cs T (0,0))∧cs.toList=pre++rest∧aA w D E es pre ∧
    cs.size=cap*sz∧es.length≤cap∧cap≤maxLen∧∀ o,D b o→o<pre.length
 |some (.dm x)=>∃ b,E n=some (.op b)∧M b∧w.heap[b]?=some x∧oI x=true∧∀ o,¬ D b o
 |some (.cn ks vs)=>∃ b es clock,E n=some (.cn b)∧M b∧w.heap[b]?=some (.map es clock)∧nM es clock∧ao w D E ks (es.toList.map (·.key))∧ao w D E vs (es.toList.map (·.val))∧∀ o,¬ D b o
 |some (.it ks vs left cur)=>∃ r b es clock since seen last,E n=some (.it r)∧M r∧w.heap[r]?=some (.mapIter (some b) since seen last)∧nc w D b es clock∧ao w D E ks (es.toList.map (·.key))∧ao w D E vs (es.toList.map (·.val)) ∧
   (∀ x∈es.toList,x.born<since)∧(since≤last∧since≤clock)∧left=na es seen∧(∀ i,cur=some i→∃ e,es[i]?=some e∧seen.back?=some e.born∧last=clock)∧∀ o,¬ D r o
 |some (.dW T xs)=>∃ aB,E n=some (.rw aB xs.length)∧(∀ x∈xs,IntKind.i64.min≤x∧x≤IntKind.i64.max)∧match aB with
  |none=>xs=[]
  |some (b,cap)=>∃ cs m,M b∧w.heap[b]?=some (.cells cs T (0,0))∧cs.toList=(xs++List.replicate m 0).map (Value.int .i64)∧xs≠[]∧xs.length+m=cap∧cap≤maxLen∧∀ o,¬ D b o
def bU(E:aN)(b:Nat):Prop:=∃ n e,E n=some e∧e.aB=some b
structure jq (M:Nat→Prop) (w:World) (D:aH) (E:aN) (o:Nat→Option aj):Prop where
 bD:∀ n,c6 M w D E n (o n)
 cD:∀ n m e e' b,E n=some e→E m=some e'→e.aB=some b→e'.aB=some b→n=m
def mJ(run:Array Value→World→(Ending→World→Prop)→Prop)(since:World→aH→aN→Prop)(args:List I)(os:List (Nat×aj))(post:b9):Prop :=
 ∀ (w:World) (D:aH) (E:aN) (vs:List Value),since w D E→(∀ b o,D b o→b<w.heap.size)→jq (fun _=>True) w D E (aD os)→ao w D E args vs →
  run vs.toArray w fun e w'=>∃ v D' E' r os',e=.returned v∧post r os'∧aR w' D' E' r v∧jq (fun b=>w.heap.size≤b∨bU E b) w' D' E' (aD os') ∧
   eH (fun b=>w.heap.size≤b∨bU E b) w w'∧(∀ b o,D b o→D' b o)∧(∀ b o,D' b o→b<w'.heap.size)∧(∀ b o,D' b o→b<w.heap.size→¬ bU E b→D b o) ∧
   (∀ n e,E n=some e→aC os' n=true→∃ e',E' n=some e'∧e.eD e')∧gq w D w'
def sy : String := "internal/strconv.uint64pow10"
def B4:Array Value:=(((List.range 20).map fun i=>((10^i:Nat):Int)).map fun z=>Value.int .u64 z).toArray
inductive ui where
 |tf | int | ov
def sA:ui→Array Value→Prop
 | .tf,v=>v=B4
 | .int,v=>∃ m:Int,v = #[.int .i64 m]
 | .ov,v=>∃ t p,v = #[.iface t p]
def mZ : List (String × ui) := [(sy, .tf), ("internal/bytealg.MaxLen", .int), ("strconv.ErrSyntax", .ov), ("strconv.ErrRange", .ov)]
def eJ(P:Program)(w:World)(own:Nat→Prop):Prop :=
 ∀ q∈mZ,∀ g,P.globalNamed q.1=some g→¬ own g∧∃ v,w.var? P q.1=some v∧sA q.2 v
theorem eJ.sD{P:Program}{w:World}{own own':Nat→Prop}(h:eJ P w own)(ho:∀ b,own' b→own b):eJ P w own':=fun q hq g hg=>⟨fun k=>(h q hq g hg).1 (ho g k),(h q hq g hg).2⟩
theorem eJ.B3{P:Program}{w w':World}{own own' M:Nat→Prop}(h:eJ P w own)(hk:eH M w w')(hM:∀ b,M b→w.heap.size≤b∨own b)(ho:∀ b,own' b→M b):eJ P w' own':=fun q hq g hg=>by
 obtain ⟨h1,v,h2,ab⟩:=h q hq g hg;have h3:=h2;unfold World.var? at h2;rw[hg] at h2;simp only[zw8] at h2;have hlt:g<w.heap.size:=by
  rcases Nat.lt_or_ge g w.heap.size with h | h
  ·exact h
  ·rw[Array.getElem?_eq_none h] at h2;cases h2
 have hn:¬ M g:=fun hm=>by
  rcases hM g hm with h | h
  ·omega
  ·exact h1 h
 refine ⟨fun k=>hn (ho g k),v,?_,ab⟩;unfold World.var?;rw[hg];simp only[zw8];rw[hk.block g hn];exact h2
theorem eJ.sf{P:Program}{w:World}{own:Nat→Prop}(h:eJ P w own){n:String}{k:ui}(hm:(n,k)∈mZ){g:Nat}(hg:P.globalNamed n=some g):∃ v,w.var? P n=some v∧sA k v:=(h _ hm g hg).2
structure yr (c:ct) (w:World) (D:aH) (E:aN):Prop where
 dn:eH c.eA c.cW w
 cE:∀ b o,c.bL b o→D b o
 cO:∀ b o,D b o→¬ c.eA b→c.bL b o
 dG:∀ n e,c.cu n=some e→E n=none∨∃ e',E n=some e'∧e.eD e'
 fy:gq c.cW c.bL w
 qo:eJ c.P w (bU E)
def rA(P:Program)(v:Value)(vs:Array Value)(w:World)(R:Ending→World→Prop):Prop :=
 ∃ l,v=.func (.yield l) #[] #[]∧YieldAt Fence.wide 9 P l vs w R
def oa(c:ct):Prop:=eJ c.P c.cW c.own∧∀ v args os post,c.Y v args os post→mJ (rA c.P v) (yr c) args os post
def mK(dF:Option (List Deferred))(cW:World)(ds:List Deferred)(w:World):Prop:=match dF with
 |none=>∃ Bs:List Nat,ds=Bs.map (fun B => { target:=.collected B,args := #[] })∧Bs.Nodup∧∀ B∈Bs,cW.heap.size≤B∧w.heap[B]?=some (.deferred (some []))
 |some l=>ds=l
theorem mK.mono{dF:Option (List Deferred)}{cW w w':World}{ds:List Deferred}(h:mK dF cW ds w)(hk:∀ B,cW.heap.size≤B→w.heap[B]?=some (.deferred (some []))→w'.heap[B]?=some (.deferred (some []))):mK dF cW ds w':=by
 cases dF with
 |none =>
  obtain ⟨Bs,h1,h2,h3⟩:=h;exact ⟨Bs,h1,h2,fun B hB=>⟨(h3 B hB).1,hk B (h3 B hB).1 (h3 B hB).2⟩⟩
 |some l=>exact h
theorem mK.grow{dF:Option (List Deferred)}{cW w w':World}{ds:List Deferred}(h:mK dF cW ds w)(hk:Below w.heap.size w w'):mK dF cW ds w' :=
 h.mono fun B _ hB=>(hk.block B (zy1.1 hB).1).trans hB
structure aM (c:ct) (A:ae) (a:Act) (w:World) (D:aH) (E:aN):Prop where
 sz:a.tmps.size=c.n
 er:mK c.dF c.cW a.defers w
 dK:∀ t,aR w D E (A.t t) (a.tmps.getD t undef)
 dn:eH c.eA c.cW w
 cO:∀ b o,D b o→¬ c.eA b→c.bL b o
 cS:∀ b o,D b o→b<w.heap.size
 bD:∀ n,c6 c.eA w D E n (A.o n)
 cD:∀ n m e e' b,E n=some e→E m=some e'→e.aB=some b→e'.aB=some b→n=m
 dG:∀ n e,c.cu n=some e→E n=none∨∃ e',E n=some e'∧e.eD e'
 eN:∀ n,c.cu n≠none→c.n≤n∧1000000≤n
 cE:∀ b o,c.bL b o→D b o
 eV:oa c
 fy:gq c.cW c.bL w
def bE(c:ct)(A:ae)(a:Act)(w:World):Prop:=∃ D E,aM c A a w D E
section
variable {c:ct} {A:ae} {a:Act} {w:World} {D:aH} {E:aN}
theorem aM.kh(h:aM c A a w D E){w':World}{D':aH}{E':aN}(hl:dy w D E w' D' E'):gq c.cW c.bL w':=h.fy.trans h.cE hl.fy
theorem aM.vt(h:aM c A a w D E){n:Nat}{e:bw}(hn:c.cu n=some e)(hf:e.eB=true):E n=none∨E n=some e:=by
 rcases h.dG n e hn with k | ⟨e',k,hle⟩
 ·exact .inl k
 ·rw[hle.eq hf] at k;exact .inr k
theorem qz{M:Nat→Prop}{n:Nat}{x:aj}(h:c6 M w D E n (some x)):E n≠none:=by
 cases x with
 |box x=>obtain ⟨b,cs,T,h1,_⟩:=h;rw[h1];simp
 |bF T sz es=>obtain ⟨aB,h1,_⟩:=h;rw[h1];simp
 |dm o=>obtain ⟨b,h1,_⟩:=h;rw[h1];simp
 |cn ks vs=>obtain ⟨b,es,ck,h1,_⟩:=h;rw[h1];simp
 |it ks vs left=>obtain ⟨r,b,es,ck,ea,se,la,h1,_⟩:=h;rw[h1];simp
 |dW T xs=>obtain ⟨aB,h1,_⟩:=h;rw[h1];simp
theorem eR{w:World}{b:Nat}{o:Obj}(h:w.heap[b]?=some o):b<w.heap.size:=(zy1.1 h).1
theorem aM.fp(h:aM c A a w D E){n:Nat}{e:bw}{b:Nat}(he:E n=some e)(hb:e.aB=some b):b<w.heap.size:=by
 have:=h.bD n;unfold c6 at this;split at this
 ·simp[this] at he
 ·obtain ⟨b',cs,T,h1,h2,h3,_⟩:=this;rw[h1,v6] at he;subst he;simp only[bw.aB,v6] at hb;subst hb;exact h3.lt
 ·obtain ⟨aB,h1,h2,h3⟩:=this;rw[h1,v6] at he;subst he;split at h3
  ·simp[bw.aB] at hb
  ·obtain ⟨cs,pre,rest,h4,h5,_⟩:=h3;simp only[bw.aB,v6] at hb;subst hb;exact eR h5
 ·obtain ⟨b',h1,h2,h3,_⟩:=this;rw[h1,v6] at he;subst he;simp only[bw.aB,v6] at hb;subst hb;exact eR h3
 ·obtain ⟨b',es,ck,h1,h2,h3,_⟩:=this;rw[h1,v6] at he;subst he;simp only[bw.aB,v6] at hb;subst hb;exact eR h3
 ·obtain ⟨r,b',es,ck,ea,se,la,h1,h2,h3,_⟩:=this;rw[h1,v6] at he;subst he;simp only[bw.aB,v6] at hb;subst hb;exact eR h3
 ·obtain ⟨aB,h1,h2,h3⟩:=this;rw[h1,v6] at he;subst he;split at h3
  ·simp[bw.aB] at hb
  ·obtain ⟨cs,m,h4,h5,_⟩:=h3;simp only[bw.aB,v6] at hb;subst hb;exact eR h5
theorem aM.wH(h:aM c A a w D E){n b:Nat}{e:bw}(he:E n=some e)(ho:e.eI=true)(hb:e.aB=some b):∀ o,¬ D b o:=by
 have:=h.bD n;unfold c6 at this;split at this
 ·rw[this] at he;cases he
 ·obtain ⟨b',cs,T,h1,_⟩:=this;rw[h1] at he;cases he;cases ho
 ·obtain ⟨aB,h1,_⟩:=this;rw[h1] at he;cases he;cases ho
 ·obtain ⟨b',h1,_,_,_,h5⟩:=this;rw[h1] at he;cases he;cases hb;exact h5
 ·obtain ⟨b',es,ck,h1,_,_,_,_,_,h5⟩:=this;rw[h1] at he;cases he;cases hb;exact h5
 ·obtain ⟨r,b',es,ck,ea,se,la,h1,_,_,_,_,_,_,_,_,_,h5⟩:=this;rw[h1] at he;cases he;cases hb;exact h5
 ·obtain ⟨aB,h1,_⟩:=this;rw[h1] at he;cases he;cases ho
theorem c6.later{M:Nat→Prop}{w':World}{D':aH}{E':aN}{n:Nat}{x:Option aj}(h:c6 M w D E n x)(hl:dy w D E w' D' E')(aq:E' n=E n)
  (hheap:∀ e b,E n=some e→e.aB=some b→w'.heap[b]?=w.heap[b]?∧∀ o,D' b o→D b o):c6 M w' D' E' n x:=by
 unfold c6 at *;split
 ·rw[aq];exact h
 ·obtain ⟨b,cs,T,h1,h2,h3,h4,h5⟩:=h;obtain ⟨k1,k2⟩:=hheap _ b h1 rfl;exact ⟨b,cs,T,aq.trans h1,h2,h3.XF k1,af.later hl _ _ h4,fun o ho=>h5 o (k2 o ho)⟩
 ·obtain ⟨aB,h1,h2,h3⟩:=h;refine ⟨aB,aq.trans h1,h2,?_⟩;split
  ·exact h3
  ·rename_i b cap;obtain ⟨cs,pre,rest,h4,h5,h6,h7,h8,h9,h10,h11⟩:=h3;obtain ⟨k1,k2⟩:=hheap _ b h1 rfl;exact ⟨cs,pre,rest,h4,k1.trans h5,h6,aA.later hl _ _ h7,h8,h9,h10,fun o ho=>h11 o (k2 o ho)⟩
 ·obtain ⟨b,h1,h2,h3,h4,h5⟩:=h;obtain ⟨k1,k2⟩:=hheap _ b h1 rfl;exact ⟨b,aq.trans h1,h2,k1.trans h3,h4,fun o ho=>h5 o (k2 o ho)⟩
 ·obtain ⟨b,es,ck,h1,h2,h3,h4,h5,h6,h7⟩:=h;obtain ⟨k1,k2⟩:=hheap _ b h1 rfl;exact ⟨b,es,ck,aq.trans h1,h2,k1.trans h3,h4,ao.later hl _ _ h5,ao.later hl _ _ h6,fun o ho=>h7 o (k2 o ho)⟩
 ·obtain ⟨r,b,es,ck,ea,se,la,h1,h2,h3,h4,h5,h6,h7,h8,h9,h9',h10⟩:=h;obtain ⟨k1,k2⟩:=hheap _ r h1 rfl;exact ⟨r,b,es,ck,ea,se,la,aq.trans h1,h2,k1.trans h3,h4.later hl,ao.later hl _ _ h5,ao.later hl _ _ h6,h7,h8,h9,h9',fun o ho=>h10 o (k2 o ho)⟩
 ·obtain ⟨aB,h1,h2,h3⟩:=h;refine ⟨aB,aq.trans h1,h2,?_⟩;split
  ·exact h3
  ·rename_i b cap;obtain ⟨cs,m,h4,h5,h6,h7,h8,h9,h10⟩:=h3;obtain ⟨k1,k2⟩:=hheap _ b h1 rfl;exact ⟨cs,m,h4,k1.trans h5,h6,h7,h8,h9,fun o ho=>h10 o (k2 o ho)⟩
theorem dy.grow{w':World}{D':aH}(hb:Below w.heap.size w w')(hD:∀ b o,D b o→D' b o):dy w D E w' D' E:=by
 refine ⟨hD,fun b o v _ ab =>?_,fun _ _ _ h=>h,fun _ aB l h=>⟨aB,l,h,zz2 _,fun _=>rfl⟩,fun _ _ h=>h,fun _ _ h=>h,fun b es ck _ hm=>(hb.block b (eR hm)).trans hm⟩;rw[hb.cell (World.block_lt_of_cell? w _ ab)];exact ab
theorem aM.BI(h:aM c A a w D E){w':World}(hb:Below w.heap.size w w'):eH c.eA w w':=eH.grow hb fun k hk=>.inl (Nat.le_trans h.dn.size hk)
theorem aM.old(h:aM c A a w D E){b:Nat}(hm:¬ c.eA b):b<w.heap.size :=
 zw9 (Nat.lt_of_not_le fun hle=>hm (.inl hle)) h.dn.size
theorem aM.jx(h:aM c A a w D E){d:Nat}(hd:d<c.n∨d<1000000):c.cu d=none:=by
 cases hh:c.cu d with
 |none=>rfl
 |some e=>have:=h.eN d (by rw[hh];simp);omega
theorem aM.grow(h:aM c A a w D E){w':World}{D':aH}(hb:Below w.heap.size w w')(hD:∀ b o,D b o→D' b o)
  (hold:∀ b o,D' b o→b<w.heap.size→D b o) (hlive:∀ b o,D' b o→b<w'.heap.size):aM c A a w' D' E:=by
 have hl:dy w D E w' D' E:=dy.grow hb hD;refine ⟨h.sz,h.er.grow hb,fun t=>aR.later hl (h.dK t),h.dn.trans (h.BI hb),fun b o hd hm=>h.cO b o (hold b o hd (h.old hm)) hm,hlive,
  fun n=>(h.bD n).later hl rfl (fun e b he hb'=>⟨hb.block b (h.fp he hb'),fun o ho=>hold b o ho (h.fp he hb')⟩),h.cD,h.dG,h.eN,fun b o hd=>hD b o (h.cE b o hd),h.eV,h.kh hl⟩
theorem aM.FP(h:aM c A a w D E){D':aH}(hD:∀ b o,D b o→D' b o)
  (hold:∀ b o,D' b o→¬ c.eA b→c.bL b o) (hlive:∀ b o,D' b o→b<w.heap.size)
  (hbox:∀ n x b,A.o n=some (.box x)→E n=some (.aE b x.aL)→∀ o,¬ D' b o)
  (hrow:∀ n T sz es b cap,A.o n=some (.bF T sz es)→E n=some (.rw (some (b,cap)) es.length)→∀ o,D' b o→o<es.length*sz)
  (hui:∀ n T xs b cap,A.o n=some (.dW T xs)→E n=some (.rw (some (b,cap)) xs.length)→∀ o,¬ D' b o)
  (hopq:∀ n e b,E n=some e→e.eI=true→e.aB=some b→∀ o,¬ D' b o):aM c A a w D' E:=by
 have hl:dy w D E w D' E:=⟨hD,fun _ _ _ _ h=>h,fun _ _ _ h=>h,fun _ aB l h=>⟨aB,l,h,zz2 _,fun _=>rfl⟩,fun _ _ h=>h,fun _ _ h=>h,fun _ _ _ _ h=>h⟩
 refine ⟨h.sz,h.er,fun t=>aR.later hl (h.dK t),h.dn,hold,hlive,fun n =>?_,h.cD,h.dG,h.eN,fun b o hd=>hD b o (h.cE b o hd),h.eV,h.fy⟩;have ho:=h.bD n;cases hx:A.o n with
 |none=>rw[hx] at ho;exact ho
 |some x =>
  cases x with
  |box x =>
   rw[hx] at ho;obtain ⟨b,cs,T,h1,h2,h3,h4,h5⟩:=ho;exact ⟨b,cs,T,h1,h2,h3,af.later hl _ _ h4,hbox n x b hx h1⟩
  |bF T sz es =>
   rw[hx] at ho;obtain ⟨aB,h1,h2,h3⟩:=ho;refine ⟨aB,h1,h2,?_⟩;cases aB with
   |none=>exact h3
   |some bc =>
    obtain ⟨b,cap⟩:=bc;obtain ⟨cs,pre,rest,h4,h5,h6,h7,h8,h9,h10,h11⟩:=h3;refine ⟨cs,pre,rest,h4,h5,h6,aA.later hl _ _ h7,h8,h9,h10,fun o hd =>?_⟩;rw[aA.length _ _ h7,I.gF _ h2];exact hrow n T sz es b cap hx h1 o hd
  |dm x =>
   rw[hx] at ho;obtain ⟨b,h1,h2,h3,h4,h5⟩:=ho;exact ⟨b,h1,h2,h3,h4,hopq n _ b h1 rfl rfl⟩
  |cn ks vs =>
   rw[hx] at ho;obtain ⟨b,es,ck,h1,h2,h3,h4,h5,h6,h7⟩:=ho;exact ⟨b,es,ck,h1,h2,h3,h4,ao.later hl _ _ h5,ao.later hl _ _ h6,hopq n _ b h1 rfl rfl⟩
  |it ks vs left cur =>
   rw[hx] at ho;obtain ⟨r,b,es,ck,ea,se,la,h1,h2,h3,h4,h5,h6,h7,h8,h9,h9',h10⟩:=ho;exact ⟨r,b,es,ck,ea,se,la,h1,h2,h3,h4.later hl,ao.later hl _ _ h5,ao.later hl _ _ h6,h7,h8,h9,h9',hopq n _ r h1 rfl rfl⟩
  |dW T xs =>
   rw[hx] at ho;obtain ⟨aB,h1,h2,h3⟩:=ho;refine ⟨aB,h1,h2,?_⟩;cases aB with
   |none=>exact h3
   |some bc =>
    obtain ⟨b,cap⟩:=bc;obtain ⟨cs,m,h4,h5,h6,h7,h8,h9,h10⟩:=h3;exact ⟨cs,m,h4,h5,h6,h7,h8,h9,hui n T xs b cap hx h1⟩
theorem UR(a:Act)(d:Nat)(v:Value)(t:Nat)(hd:d<a.tmps.size):(a.put (some d) v).tmps.getD t undef=if t=d then v else a.tmps.getD t undef:=by
 simp only[Act.put,Array.getD_eq_getD_getElem?,Array.getElem?_setIfInBounds];by_cases h:t=d
 ·subst h;simp[hd]
 ·simp[h,Ne.symm h]
theorem aM.put(h:aM c A a w D E){d:Nat}{x:I}{v:Value}(hd:d<c.n)(ab:aR w D E x v):aM c (A.put d x) (a.put (some d) v) w D E:=by
 refine ⟨by simp[Act.put,h.sz],by exact h.er,fun t =>?_,h.dn,h.cO,h.cS,h.bD,h.cD,h.dG,h.eN,h.cE,h.eV,h.fy⟩;rw[UR a d v t (by rw[h.sz];exact hd)];simp only[ae.put];split
 ·exact ab
 ·exact h.dK t
theorem aM.aP(h:aM c A a w D E){d:Option Nat}{x:I}{v:Value}(hd:∀ k,d=some k→k<c.n)(ab:aR w D E x v):aM c (A.aP d x) (a.put d v) w D E:=by
 cases d with
 |none=>exact h
 |some d=>exact h.put (hd d rfl) ab
theorem ju(w:World)(o:Obj):Below w.heap.size w (w.alloc o):=(Below.refl _ _).alloc (zz2 _) o
theorem ET{w:World}{D:aH}{E:aN} : ∀ {xs:List I} {vs:List Value},ao w D E xs vs→vs.length=xs.length
 | [],vs,h=>by simp only[ao] at h;subst h;rfl
 |x::xs,vs,h=>by
  simp only[ao] at h;obtain ⟨v,rest,cs,rfl,_,_,h3⟩:=h;simp[ET h3]
theorem aM.qy(h:aM c A a w D E){d:Nat}{x:aj}{o':Obj}{e:bw}(hdn:d<c.n∨d<1000000)(hd:A.o d=none)(heb:e.aB=some w.heap.size)
  (hx:dy w D E (w.alloc o') D (fun n=>if n=d then some e else E n)→(∀ o,¬ D w.heap.size o)→c6 c.eA (w.alloc o') D (fun n=>if n=d then some e else E n) d (some x)) :
  aM c (A.aQ d x) a (w.alloc o') D (fun n=>if n=d then some e else E n):=by
 have hEd:E d=none:=by have:=h.bD d;rw[hd] at this;exact this
 have hne:∀ {n:Nat} {e:bw},E n=some e→n≠d:=fun he e'=>by rw[e',hEd] at he;cases he
 have hl:dy w D E (w.alloc o') D (fun n=>if n=d then some e else E n):=by
  refine ⟨fun _ _ h=>h,fun b o v _ ab =>?_,fun n b aL he =>?_,fun n aB l he =>?_,fun n b he =>?_,fun n b he =>?_,fun b es ck _ hm=>(Below.heap_alloc w _ b (eR hm)).trans hm⟩
  ·rw[World.cell?_alloc_lt _ _ _ (World.block_lt_of_cell? w _ ab)];exact ab
  ·simp only[if_neg (hne he)];exact he
  ·exact ⟨aB,l,by simp only[if_neg (hne he)];exact he,zz2 _,fun _=>rfl⟩
  ·simp only[if_neg (hne he)];exact he
  ·simp only[if_neg (hne he)];exact he
 refine ⟨h.sz,h.er.grow (ju w _),fun t=>aR.later hl (h.dK t),h.dn.trans (h.BI (ju w _)),h.cO,fun b o hd'=>by have:=h.cS b o hd';simp;omega,fun n =>?_,?_,fun n e' hn =>?_,h.eN,h.cE,h.eV,h.kh hl⟩
 ·simp only[ae.aQ];by_cases hn:n=d
  ·subst hn;simp only[if_true];exact hx hl fun o ho=>Nat.lt_irrefl _ (h.cS _ o ho)
  ·simp only[if_neg hn];exact (h.bD n).later hl (by simp only[if_neg hn]) fun e b he hb=>⟨Below.heap_alloc w _ b (h.fp he hb),fun _ ho=>ho⟩
 ·intro n m e1 e2 b h1 h2 h3 h4;by_cases hn:n=d <;>by_cases hm:m=d
  ·rw[hn,hm]
  ·simp only[if_pos hn,v6] at h1;simp only[if_neg hm] at h2;subst h1;rw[heb] at h3;cases h3;have:=h.fp h2 h4;omega
  ·simp only[if_neg hn] at h1;simp only[if_pos hm,v6] at h2;subst h2;rw[heb] at h4;cases h4;have:=h.fp h1 h3;omega
  ·simp only[if_neg hn] at h1;simp only[if_neg hm] at h2;exact h.cD n m e1 e2 b h1 h2 h3 h4
 ·have hnd:n≠d:=fun e=>by rw[e,h.jx hdn] at hn;cases hn
  simp only[if_neg hnd];exact h.dG n e' hn
theorem aM.qx(h:aM c A a w D E){d:Nat}{x:I}{cs:Array Value}{T:TypeId}(hdn:d<c.n∨d<1000000)(hd:A.o d=none)(hx:af w D E x cs.toList) :
  aM c (A.aQ d (.box x)) a (w.alloc (.cells cs T)) D (fun n=>if n=d then some (.aE w.heap.size x.aL) else E n) :=
 h.qy hdn hd rfl fun hl hno=>⟨w.heap.size,cs,T,by simp,.inl h.dn.size,.CC (heap_alloc_new w _),af.later hl _ _ hx,hno⟩
theorem aM.WJ(h:aM c A a w D E){d:Nat}(hdn:d<c.n∨d<1000000)(hd:A.o d=none) :
  aM c (A.aQ d (.cn [] [])) a (w.alloc (.map #[] 0)) D (fun n=>if n=d then some (.cn w.heap.size) else E n) :=
 h.qy hdn hd rfl fun _ hno=>⟨w.heap.size,#[],0,by simp,.inl h.dn.size,heap_alloc_new w _,⟨by simp,by simp⟩,by simp[ao],by simp[ao],hno⟩
theorem aM.WI(h:aM c A a w D E){d b clock:Nat}{ks vs:List I}{es:Array MapEntry}(hdn:d<c.n∨d<1000000)(hd:A.o d=none)(hm:nc w D b es clock)(hk:ao w D E ks (es.toList.map (·.key)))(ab:ao w D E vs (es.toList.map (·.val))) :
  aM c (A.aQ d (.it ks vs (List.range ks.length) none)) a (w.alloc (.mapIter (some b) clock #[] clock)) D (fun n=>if n=d then some (.it w.heap.size) else E n) :=
 h.qy hdn hd rfl fun hl hno=>⟨w.heap.size,b,es,clock,clock,#[],clock,by simp,.inl h.dn.size,heap_alloc_new w _,hm.later hl,ao.later hl _ _ hk,ao.later hl _ _ ab,hm.2.2.1,⟨zz2 _,zz2 _⟩,by
  have e:ks.length=es.size:=by have:=ET hk;simpa using this.symm
  rw[e];unfold na;exact (List.filter_eq_self.2 fun i hi=>by
   have hi':i<es.size:=by simpa using hi
   simp[zw7 hi']).symm,(fun i hi=>by cases hi),hno⟩
theorem uQ(w:World)(g:Nat)(cs:Array Value)(p:Addr)(h:p.block≠g):(w.setRow g cs).cell? p=w.cell? p :=
 World.cell?_of_block (setRow_other w g p.block cs h)
theorem vQ{M:Nat→Prop}{cW w:World}(h:eH M cW w){g:Nat}(hg:M g)(cs:Array Value):eH M cW (w.setRow g cs) :=
 h.trans ⟨rfl,rfl,rfl,by simp[World.setRow],fun k hk=>setRow_other w g k cs (fun e=>hk (e▸hg))⟩
theorem aM.xj(h:aM c A a w D E){n b:Nat}{x y:I}{cs':Array Value}(hn:A.o n=some (.box x))(aq:E n=some (.aE b x.aL))(hs:y.aL=x.aL)(hy:af w D E y cs'.toList) :
  aM c (A.aQ n (.box y)) a (w.setRow b cs') D E:=by
 have ho:=h.bD n;rw[hn] at ho;obtain ⟨b',cs,T,h1,h2,h3,h4,h5⟩:=ho;rw[aq] at h1;simp only[v6,bw.aE.injEq,and_true] at h1;subst h1;have hl:dy w D E (w.setRow b cs') D E:=by
  refine ⟨fun _ _ h=>h,fun b1 o v hd ab =>?_,fun _ _ _ h=>h,fun _ aB l h=>⟨aB,l,h,zz2 _,fun _=>rfl⟩,fun _ _ h=>h,fun _ _ h=>h,fun b1 es ck hd hm=>(setRow_other w b b1 _ (fun e=>h5 0 (by rw[←e];exact hd))).trans hm⟩;rw[uQ _ _ _ _ (fun e=>h5 o (by rw[←e];exact hd))];exact ab
 refine ⟨h.sz,h.er.mono fun B _ hB=>(setRow_other w b B cs' (fun e=>h3.Cz (by rw[←e];exact hB))).trans hB,fun t=>aR.later hl (h.dK t),vQ h.dn h2 _,h.cO,fun b1 o hd=>by have:=h.cS b1 o hd;simpa[World.setRow] using this,fun m =>?_,h.cD,h.dG,h.eN,h.cE,h.eV,h.kh hl⟩;simp only[ae.aQ];by_cases hm:m=n
 ·subst hm;simp only[if_true,c6];exact ⟨b,cs',T,by rw[hs];exact aq,h2,eh.aL (h3.setRow (by have a1:=af.length _ _ hy;have a2:=af.length _ _ h4;rw[←I.iH,hs,I.iH,←a2] at a1;simpa using a1)) hs,af.later hl _ _ hy,h5⟩
 ·simp only[if_neg hm];refine (h.bD m).later hl rfl fun e b1 he hb=>⟨setRow_other w b b1 cs' (fun e1=>hm (h.cD m n e _ b he aq (by rw[hb,e1]) rfl)),fun _ ho=>ho⟩
theorem uR{w:World}{B:Nat}{o o':Obj}(h:w.heap[B]?=some o)(ho:o.isCells=false){b off:Nat}{v:Value}(ab:w.cell? ⟨b,off,none⟩=some v):(w.putObj B o').cell? ⟨b,off,none⟩=some v:=by
 have hne:b≠B:=fun e=>by
  obtain ⟨o2,h2,h3⟩:=cells_of_cell ab;simp only at h2;rw[e,h] at h2;cases h2;rw[ho] at h3;cases h3
 rw[World.cell?_of_block (w:=w) (World.putObj_heap_other hne)];exact ab
theorem aM.xl(h:aM c A a w D E){n b:Nat}{e:bw}{x:aj}{o0 o':Obj}(aq:E n=some e)(ho:e.eI=true)(hb:e.aB=some b)(hw:w.heap[b]?=some o0)(hnc:o0.isCells=false)(hnd:∀ q,o0≠.deferred q)(hmine:c.eA b)
  (hx:dy w D E (w.putObj b o') D E→(w.putObj b o').heap[b]?=some o'→(∀ o,¬ D b o)→c6 c.eA (w.putObj b o') D E n (some x)):aM c (A.aQ n x) a (w.putObj b o') D E:=by
 have hno:=h.wH aq ho hb;have hlt:b<w.heap.size:=eR hw;have hl:dy w D E (w.putObj b o') D E:=⟨fun _ _ h=>h,fun b1 o1 v _ ab=>uR hw hnc ab,fun _ _ _ h=>h,fun _ aB l h=>⟨aB,l,h,zz2 _,fun _=>rfl⟩,fun _ _ h=>h,fun _ _ h=>h,
  fun b1 es ck hd hm=>(World.putObj_heap_other (fun e1=>hno 0 (by rw[←e1];exact hd))).trans hm⟩
 refine ⟨h.sz,h.er.mono fun B _ hB=>(World.putObj_heap_other (fun e1=>by rw[e1,hw] at hB;exact hnd _ (Option.some.inj hB))).trans hB,fun t=>aR.later hl (h.dK t),h.dn.trans ⟨rfl,rfl,rfl,by simp,fun k hk=>World.putObj_heap_other (fun e1=>hk (e1▸hmine))⟩,h.cO,
  fun b1 o1 hd=>by have:=h.cS b1 o1 hd;simpa using this,fun m =>?_,h.cD,h.dG,h.eN,h.cE,h.eV,h.kh hl⟩
 simp only[ae.aQ];by_cases hm:m=n
 ·subst hm;simp only[if_true];exact hx hl (World.putObj_heap_same hlt) hno
 ·simp only[if_neg hm];exact (h.bD m).later hl rfl fun e' b1 he hb'=>⟨World.putObj_heap_other (fun e1=>hm (h.cD m n e' _ b1 he aq hb' (by rw[e1];exact hb))),fun _ ho=>ho⟩
end
inductive ay where
 |t (n:Nat)
 |c (x:I)
 deriving Inhabited
inductive cm where
 |i (k:IntKind)
 |b
 |s
 |aV (l:List cm)
 |pO (n:Nat) (e:cm)
 deriving Inhabited
mutual
def cm.size:cm→Nat
 | .i _ | .b | .s=>1
 | .aV l=>cm.sizes l
 | .pO n e=>n*e.size
def cm.sizes:List cm→Nat
 | []=>0
 |t::ts=>t.size+cm.sizes ts
end
inductive uk where
 |ea
 |ss (lo hi:Bool)
 |nf (neg:Bool)
 |min2
 |mi (T:TypeId)
 |kM
 deriving Inhabited,DecidableEq
inductive bt where
 |mv (x:ay)
 |pick (c a b:ay)
 |bin (op:BinOp) (x y:ay)
 |eqv (ty:cm) (neg:Bool) (x y:ay)
 |nilS (neg:Bool) (x:ay)
 |conv (k:IntKind) (x:ay)
 |un (op:UnOp) (x:ay)
 |ld (s:Option Nat) (x:ay)
 |fa (f off:Nat) (x:ay)
 |fl (f off:Nat) (s:Option Nat) (x:ay)
 |ia (n esz:Nat) (x i:ay)
 |is (esz:Nat) (x i:ay)
 |ix (n esz:Nat) (s:Option Nat) (x i:ay)
 |len (x:ay)
 |lenT (x:ay)
 |va (n esz:Nat) (x:ay)
 |sl (esz:Nat) (x:ay) (lo hi mx:Option ay)
 |bld (zs:List I) (parts:List (Nat×ay))
 |bs (T esz:Nat) (parts:List ay)
 |ext (x:ay) (i:Nat)
 |mk (f:FuncId) (caps:List ay)
 |alloc (z:I)
 |box (x:ay)
 |aV (s:Option Nat) (x v:ay)
 |dM (e:TypeId) (esz bytes:Nat) (z:I) (s x:ay)
 |jM (e:TypeId) (esz bytes:Nat) (z:I) (s n:ay)
 |cap (x:ay)
 |bs0 (esz:Nat)
 |jv (esz:Nat) (z:I) (x:ay)
 |gx (esz:Nat) (x y:ay)
 |call (f:FuncId) (args:List ay)
 |fq (x:ay) (args:List ay)
 |gW (f:FuncId) (args:List ay)
 |nilC (x:ay)
 |ptrE (neg:Bool) (x y:ay)
 |max2 (x y:ay)
 |prim (p:uk) (xs:List ay)
 |b2s (x:ay)
 |eO (x:ay)
 |jG (e:TypeId) (bytes:Nat) (z:I) (n:ay)
 |kK
 |jF (e:TypeId) (sz:Nat)
 |lk (ty:cm) (z:I) (ok:Bool) (m k:ay)
 |j4 (ty:cm) (m k v:ay)
 |lF (ty:cm) (m k:ay)
 |kd (x:ay)
 |j5 (x:ay)
 |ent (x:ay)
 deriving Inhabited
def rN(sz:Nat):Value→Option I
 | .bool b=>some (.bool b)
 | .int k n=>if k.min≤n∧n≤k.max then some (.int k n) else none
 | .string s=>if s.size≤1000000 then some (.ak s) else none
 | .pointer none=>some .nilp
 | .slice none 0 0=>some (.nils sz)
 | .nilFunc=>some .di
 | .nilIface=>some .cU
 | .map none=>some (.raw (.map none))
 |_=>none
theorem HU{sz:Nat}{v:Value}{x:I}(h:rN sz v=some x)(w:World)(D:aH)(E:aN):aR w D E x v:=by
 unfold rN at h;split at h
 case h_2 =>
  split at h
  ·rename_i hh;simp only[v6] at h;subst h;exact ⟨_,by simp[ba,I.isAgg];rfl,by simp only[af,true_and];exact hh⟩
  ·simp at h
 case h_3 =>
  split at h
  ·rename_i hh;simp only[v6] at h;subst h;exact ⟨_,by simp[ba,I.isAgg];rfl,by simp only[af,true_and];unfold maxLen;omega⟩
  ·simp at h
 case h_9=>simp at h
 all_goals
  simp only[v6] at h;subst h;exact ⟨_,by simp[ba,I.isAgg];rfl,by simp[af,Value.oneCell']⟩
def Mz(P:Program)(t:TypeId):Nat:=match P.underlying t with | some (.slice e)=>P.cellsOf e | _=>0
def aU(P:Program)(t:TypeId):Operand→Option ay
 | .tmp n=>some (.t n)
 | .const v=>(rN (Mz P t) v).map .c
 | .func f=>if f<1000000 then some (.c (.func f [])) else none
 | .global _=>none
def ah(A:ae):ay→I
 | .t n=>A.t n
 | .c x=>x
section
variable {c:ct} {A:ae} {a:Act} {w:World} {D:aH} {E:aN}
theorem bn(h:aM c A a w D E){P:Program}{t:TypeId}{x:Operand}{y:ay}(hc:aU P t x=some y):aR w D E (ah A y) (a.eval x):=by
 cases x with
 |tmp n=>simp only[aU,v6] at hc;subst hc;exact h.dK n
 |const v =>
  simp only[aU,t7] at hc;obtain ⟨z,hz,rfl⟩:=hc;exact HU hz w D E
 |global g=>simp[aU] at hc
 |func f =>
  simp only[aU] at hc;split at hc
  case isFalse=>cases hc
  rename_i hf;simp only[v6] at hc;subst hc;exact ⟨[.func (.func f) #[] #[]],by simp[ba,I.isAgg,ah,Act.eval],by simp only[af,ah,ao];exact ⟨[],by rw[mb hf],rfl⟩⟩
theorem kS{b:Bool}{v:Value}(h:aR w D E (.bool b) v):v=.bool b:=by
 obtain ⟨cs,h1,h2⟩:=h;simp only[af] at h2;simp[ba,I.isAgg,h2] at h1;exact h1.symm
theorem dB{k:IntKind}{n:Int}{v:Value}(h:aR w D E (.int k n) v):v=.int k n∧k.min≤n∧n≤k.max:=by
 obtain ⟨cs,h1,h2⟩:=h;simp only[af] at h2;simp[ba,I.isAgg,h2.1] at h1;exact ⟨h1.symm,h2.2⟩
theorem gn{s:ByteArray}{v:Value}(h:aR w D E (.ak s) v):v=.string s∧s.size≤maxLen:=by
 obtain ⟨cs,h1,h2⟩:=h;simp only[af] at h2;simp[ba,I.isAgg,h2.1] at h1;exact ⟨h1.symm,h2.2⟩
theorem Cw{x:I}{v:Value}(hx:x.isAgg=false)(h:af w D E x [v]):aR w D E x v:=by
 cases x <;>simp only[af] at h <;>first | (simp[I.isAgg] at hx;done) | exact ⟨[v],by simp[ba,I.isAgg],by simpa only[af] using h⟩
theorem iW{fs:List I}{v:Value}(h:aR w D E (.agg fs) v):∃ cs:List Value,v=.agg cs.toArray∧aA w D E fs cs:=by
 obtain ⟨cs,h1,h2⟩:=h;simp only[af] at h2;exact ⟨cs,by simpa[ba,I.isAgg] using h1,h2⟩
theorem Cu{fs:List I}{cs:List Value}(h:aA w D E fs cs):aR w D E (.agg fs) (.agg cs.toArray):=⟨cs,by simp[ba,I.isAgg],by simpa only[af] using h⟩
theorem kJ(b:Bool):aR w D E (.bool b) (.bool b):=⟨[.bool b],by simp[ba,I.isAgg],by simp[af]⟩
theorem iy{k:IntKind}{n:Int}(h:k.min≤n∧n≤k.max):aR w D E (.int k n) (.int k n):=⟨[.int k n],by simp[ba,I.isAgg],by simp only[af,true_and];exact h⟩
theorem kT{n:Nat}{p:List Nat}{v:Value}(h:aR w D E (.ptr n p) v):∃ b aL off,E n=some (.aE b aL)∧aL.off p=some off∧v=.pointer (some ⟨b,off,none⟩):=by
 obtain ⟨cs,h1,h2⟩:=h;simp only[af] at h2;obtain ⟨b,aL,off,h3,h4,h5⟩:=h2;exact ⟨b,aL,off,h3,h4,by simpa[ba,I.isAgg,h5] using h1.symm⟩
theorem pd{x:I}{v:Value}(h:aR w D E (.ref x) v):∃ b off cs,v=.pointer (some ⟨b,off,none⟩)∧reads w D b off cs∧af w D E x cs:=by
 obtain ⟨cs,h1,h2⟩:=h;simp only[af] at h2;obtain ⟨b,off,cs',h3,h4,h5⟩:=h2;exact ⟨b,off,cs',by simpa[ba,I.isAgg,h3] using h1.symm,h4,h5⟩
theorem sP{x:I}{b off:Nat}{cs:List Value}(h1:reads w D b off cs)(h2:af w D E x cs):aR w D E (.ref x) (.pointer (some ⟨b,off,none⟩)) :=
 ⟨_,by simp[ba,I.isAgg];rfl,by simp only[af];exact ⟨b,off,cs,rfl,h1,h2⟩⟩
theorem kU{sz:Nat}{es:List I}{v:Value}(h:aR w D E (.slice sz es) v):∃ ad cap,v=.slice ad es.length cap∧es.length≤cap∧cap≤maxLen ∧
  (es=[]∨∃ b off cs,ad=some ⟨b,off,none⟩∧reads w D b off cs∧aA w D E es cs)∧∀ e∈es,e.size=sz:=by
 obtain ⟨cs,h1,h2⟩:=h;simp only[af] at h2;obtain ⟨ad,cap,h3,h4⟩:=h2;exact ⟨ad,cap,by simpa[ba,I.isAgg,h3] using h1.symm,h4⟩
theorem sQ{sz:Nat}{es:List I}{ad:Option Addr}{n cap:Nat}(hn:n=es.length)(h1:n≤cap)(h2:cap≤maxLen)
  (h3:es=[]∨∃ b off cs,ad=some ⟨b,off,none⟩∧reads w D b off cs∧aA w D E es cs) (h4:∀ e∈es,e.size=sz):aR w D E (.slice sz es) (.slice ad n cap):=by
 subst hn;exact ⟨_,by simp[ba,I.isAgg];rfl,by simp only[af];exact ⟨ad,cap,rfl,h1,h2,h3,h4⟩⟩
end
def bG(op:BinOp)(x y:I):Option I :=
 match x,y with
 | .int k a,.int k' b =>
  match op with
  | .shl=>if 0≤b then some (.int k (k.wrap (a*2^(min b.toNat k.bits)))) else none
  | .shr=>if 0≤b then some (.int k (a.fdiv (2^(min b.toNat k.bits)))) else none
  |op=>if k=k' then
   match op with
   | .add=>some (.int k (k.wrap (a+b)))
   | .sub=>some (.int k (k.wrap (a-b)))
   | .mul=>some (.int k (k.wrap (a*b)))
   | .quo=>if b=0 then none else some (.int k (k.wrap (a.tdiv b)))
   | .rem=>if b=0 then none else some (.int k (a.tmod b))
   | .and=>some (.int k (k.wrap ((BitVec.ofInt k.bits a &&& BitVec.ofInt k.bits b).toNat:Int)))
   | .or=>some (.int k (k.wrap ((BitVec.ofInt k.bits a ||| BitVec.ofInt k.bits b).toNat:Int)))
   | .xor=>some (.int k (k.wrap ((BitVec.ofInt k.bits a ^^^ BitVec.ofInt k.bits b).toNat:Int)))
   | .andNot=>some (.int k (k.wrap ((BitVec.ofInt k.bits a &&& ~~~ BitVec.ofInt k.bits b).toNat:Int)))
   | .eql=>some (.bool (a==b))
   | .neq=>some (.bool (a != b))
   | .lss=>some (.bool (decide (a<b)))
   | .leq=>some (.bool (decide (a≤b)))
   | .gtr=>some (.bool (decide (a>b)))
   | .geq=>some (.bool (decide (a≥b)))
   |_=>none
   else none
 | .ak s,.ak t =>
  match op with
  | .eql=>some (.bool (s.toList==t.toList))
  | .neq=>some (.bool (!(s.toList==t.toList)))
  | .lss=>some (.bool (Op.bytesLess s.toList t.toList))
  | .leq=>some (.bool (Op.bytesLess s.toList t.toList||s.toList==t.toList))
  | .gtr=>some (.bool (!(Op.bytesLess s.toList t.toList||s.toList==t.toList)))
  | .geq=>some (.bool (!(Op.bytesLess s.toList t.toList)))
  | .add=>if s.size+t.size≤9223372036854775807 then some (.ak (s++t)) else none
  |_=>none
 |_,_=>none
theorem pz(k:IntKind)(n:Int):k.min≤k.wrap n∧k.wrap n≤k.max:=by
 cases k <;>simp only[IntKind.min,IntKind.max,IntKind.wrap,IntKind.bits,IntKind.signed] <;>simp <;>(try split) <;>omega
theorem ZD(a b:Int):(0≤a→0≤a.tmod b∧a.tmod b≤a)∧(a<0→a≤a.tmod b∧a.tmod b≤0):=by
 have key:∀ n:Nat,0≤(n:Int).tmod b∧(n:Int).tmod b≤n:=by
  intro n;cases b with
  |ofNat m=>show 0≤((n%m:Nat):Int)∧((n%m:Nat):Int)≤n;have:=Nat.mod_le n m;omega
  |negSucc m=>show 0≤((n%(m+1):Nat):Int)∧((n%(m+1):Nat):Int)≤n;have:=Nat.mod_le n (m+1);omega
 refine ⟨fun h =>?_,fun h =>?_⟩
 ·obtain ⟨n,rfl⟩:=zz9 h;exact key n
 ·obtain ⟨n,hn⟩:=zz9 (show 0≤-a by omega);have:=key n;rw[←hn,Int.neg_tmod] at this;omega
theorem ZE(k:IntKind)(a b:Int)(h:k.min≤a∧a≤k.max):k.min≤a.tmod b∧a.tmod b≤k.max:=by
 have h0:k.min≤0∧0≤k.max:=by cases k <;>simp[IntKind.min,IntKind.max,IntKind.bits,IntKind.signed]
 have:=ZD a b;omega
theorem MN(a:Int)(m:Int)(hm:0<m):(0≤a→0≤a.fdiv m∧a.fdiv m≤a)∧(a<0→a≤a.fdiv m∧a.fdiv m≤0):=by
 rw[Int.fdiv_eq_ediv_of_nonneg _ (by omega)];have h1:=Int.mul_ediv_add_emod a m;have h2:=Int.emod_nonneg a (show m≠0 by omega);refine ⟨fun h=>⟨Int.ediv_nonneg h (by omega),Int.ediv_le_self _ h⟩,fun h=>⟨?_,?_⟩⟩
 ·rw[Int.le_ediv_iff_mul_le hm];have:a*m≤a*1:=Int.mul_le_mul_of_nonpos_left (by omega) (by omega);omega
 ·have:=Int.ediv_neg_of_neg_of_pos h hm;omega
theorem MO(k:IntKind)(a:Int)(n:Nat)(h:k.min≤a∧a≤k.max):k.min≤a.fdiv (2^n)∧a.fdiv (2^n)≤k.max:=by
 have h0:k.min≤0∧0≤k.max:=by cases k <;>simp[IntKind.min,IntKind.max,IntKind.bits,IntKind.signed]
 have:=MN a (2^n) (Int.pow_pos (by omega));omega
def bT(A:ae):I→Option I
 | .ref x=>some x
 | .ptr n p=>match A.o n with
  |some (.box x)=>x.at p
  |_=>none
 |_=>none
mutual
def I.bC:I→Bool
 | .agg fs=>I.cv fs
 | .slice _ es=>I.cv es
 | .ref x=>x.bC
 | .func _ caps=>I.cv caps
 | .iface _ v=>v.bC
 | .da ks vs=>I.cv ks&&I.cv vs
 | .ptr _ _ | .own _ _ | .view _ _ _ _ _ | .mref _ | .c8 _ | .undef | .dc | .tuple _=>false
 | .bool _ | .int _ _ | .ak _ | .nilp | .di | .cU | .any | .raw _ | .nils _ | .c0 _=>true
def I.cv:List I→Bool
 | []=>true
 |x::xs=>x.bC&&I.cv xs
end
def ib(f:I→Option I):List I→Option (List I)
 | []=>some []
 |x::xs=>match f x,ib f xs with
  |some y,some ys=>some (y::ys)
  |_,_=>none
def gA(A:ae):Nat→I→Option I
 |0,_=>none
 |k+1,x=>if x.bC then some x else match x with
  | .agg fs=>(ib (gA A k) fs).map .agg
  | .func f caps=>if f<1000000 then (ib (gA A k) caps).map (.func f) else some .any
  | .ptr n p=>match bT A (.ptr n p) with
   |some y=>(gA A k y).map .ref
   |none=>none
  | .view n p sz lo l=>match bT A (.ptr n p) with
   |some (.agg fs)=>if I.cv ((fs.drop lo).take l)=true then some (.slice sz ((fs.drop lo).take l)) else none
   |_=>none
  | .mref n=>match A.o n with
   |some (.cn ks vs)=>if I.cv ks=true then (ib (gA A k) vs).map (.da ks) else none
   |_=>none
  | .own n l=>match A.o n with
   |some (.bF _ sz es)=>if l=es.length∧I.cv es=true then some (.slice sz es) else none
   |_=>none
  |_=>none
mutual
/-- The value for others to hold: pointers to the frame's own variables and rows become what they hold. -/
def bf(aE:Bool)(A:ae):I→Option I
 | .ptr n p=>if aE then (match bT A (.ptr n p) with | some x=>if x.bC then some (.ref x) else (gA A 9 x).map .ref | none=>none) else none
 | .own n k=>match A.o n with
  |some (.bF _ sz es)=>if k=es.length∧I.cv es=true then some (.slice sz es) else none
  |_=>none
 | .view n p sz lo k=>if aE then (match bT A (.ptr n p) with
  |some (.agg fs)=>if I.cv ((fs.drop lo).take k)=true then some (.slice sz ((fs.drop lo).take k)) else none
  |_=>none) else none
 | .mref n=>if aE then (match A.o n with
  |some (.cn ks vs)=>if I.cv ks=true then (ib (gA A 9) vs).map (.da ks) else none
  |_=>none) else none
 | .c8 _=>none
 | .da ks vs=>if I.cv ks&&I.cv vs then some (.da ks vs) else none
 | .nils sz=>some (.slice sz [])
 | .c0 sz=>some (.slice sz [])
 | .func f caps=>if f<1000000 then (bJ aE A caps).map (.func f) else some .any
 | .agg fs=>(bJ aE A fs).map .agg
 | .tuple _=>none
 | .undef=>none
 | .dc=>none
 | .bool b=>some (.bool b)
 | .int k n=>some (.int k n)
 | .ak s=>some (.ak s)
 | .nilp=>some .nilp
 | .di=>some .di
 | .cU=>some .cU
 | .any=>some .any
 | .raw u=>some (.raw u)
 | .slice sz es=>if I.cv es then some (.slice sz es) else none
 | .ref x=>if x.bC then some (.ref x) else none
 | .iface t v=>if v.bC then some (.iface t v) else none
def bJ(aE:Bool)(A:ae):List I→Option (List I)
 | []=>some []
 |x::xs=>match bf aE A x,bJ aE A xs with
  |some y,some ys=>some (y::ys)
  |_,_=>none
end
def bN(s:Option Nat)(x:I):Bool:=match s with
 |none => !x.isAgg
 |some n=>x.isAgg&&x.size==n
def I.cC:I→Bool
 | .undef | .dc | .tuple _=>false
 |_=>true
def gz(n esz:Nat)(fs:List I):Bool:=fs.length==n&&fs.all fun f=>f.size==esz
def eT(zs:List I):List (Nat×I)→Option (List I)
 | []=>some zs
 |(i,v)::rest=>match zs[i]? with
  |some z=>if v.cC=true∧v.size=z.size then eT (zs.set i v) rest else none
  |none=>none
def gJ(x:Option I)(d:Int):Option Int:=match x with
 |none=>some d
 |some (.int _ n)=>some n
 |_=>none
def il(sz:Nat)(es:List I)(lo hi mx:Option I):Option I :=
 match gJ hi es.length with
 |none=>none
 |some h=>match gJ mx es.length with
  |none=>none
  |some m=>match gJ lo 0 with
   |none=>none
   |some l=>if 0≤l∧l≤h∧h≤m∧m≤es.length then
     (if mx.isSome∧m=l then some (.c0 sz) else some (.slice sz ((es.take h.toNat).drop l.toNat))) else none
def iX(n:Nat)(p:List Nat)(sz lo k total:Nat)(lo' hi' mx':Option I):Option I :=
 match gJ hi' k with
 |none=>none
 |some h=>match gJ lo' 0 with
  |none=>none
  |some l=>match mx' with
   |none=>if 0≤l∧l≤h∧h≤((total-lo:Nat):Int) then (if l=((total-lo:Nat):Int) then some (.c0 sz) else some (.view n p sz (lo+l.toNat) (h.toNat-l.toNat))) else none
   |some (.int _ m)=>if 0≤l∧l≤h∧h≤m∧m≤((total-lo:Nat):Int) then some .dc else none
   |_=>none
def iN(a b:Option Bool):Option Bool:=match a,b with
 |some x,some y=>some (x&&y)
 |_,_=>none
mutual
/-- '==',part by part. -/
def bW:cm→I→I→Option Bool
 | .i k,x,y=>match x,y with
  | .int k1 a,.int k2 b=>if k1=k∧k2=k then some (a==b) else none
  |_,_=>none
 | .b,x,y=>match x,y with
  | .bool a,.bool b=>some (a==b)
  |_,_=>none
 | .s,x,y=>match x,y with
  | .ak a,.ak b=>some (a.toList==b.toList)
  |_,_=>none
 | .aV l,x,y=>match x,y with
  | .agg fs,.agg gs=>gN l fs gs
  |_,_=>none
 | .pO n e,x,y=>match x,y with
  | .agg fs,.agg gs=>if fs.length=n∧gs.length=n then (fs.zip gs).foldr (fun p acc=>iN (bW e p.1 p.2) acc) (some true) else none
  |_,_=>none
def gN:List cm→List I→List I→Option Bool
 | [],fs,gs=>match fs,gs with
  | [],[]=>some true
  |_,_=>none
 |t::ts,fs,gs=>match fs,gs with
  |f::fs,g::gs=>iN (bW t f g) (gN ts fs gs)
  |_,_=>none
end
def oo(k:IntKind)(n:Int):Int:=k.wrap ((BitVec.ofInt k.bits (if k.signed then -1 else k.max) ^^^ BitVec.ofInt k.bits n).toNat:Int)
def iu(ty:cm)(k:I):List I→Nat→Option (Option Nat)
 | [],_=>some none
 |x::xs,i=>match bW ty k x with
  |some true=>some (some i)
  |some false=>iu ty k xs (i+1)
  |none=>none
def gj(A:ae):I→Option (List I×List I)
 | .da ks vs=>some (ks,vs)
 | .mref n=>match A.o n with
  |some (.cn ks vs)=>some (ks,vs)
  |_=>none
 | .raw (.map none)=>some ([],[])
 |_=>none
def qu(ty:cm)(z k:I)(ks vs:List I):Option (I×Bool) :=
 if (bW ty k k).isSome then (match iu ty k ks 0 with
  |some (some i)=>(vs[i]?).map fun v=>(v,true)
  |some none=>some (z,false)
  |none=>none) else none
def iw:I→Option Bool
 | .nilp=>some true
 | .ptr _ _=>some false
 | .ref _=>some false
 |_=>none
def qw(ty:cm)(k v:I)(ks vs:List I):Option (List I×List I) :=
 if (bW ty k k).isSome=true∧k.cC=true∧v.cC=true then (match iu ty k ks 0 with
  |some (some i)=>some (ks,vs.set i v)
  |some none=>some (ks++[k],vs++[v])
  |none=>none) else none
def wa(ty:cm)(k:I)(ks vs:List I):Option (List I×List I) :=
 if (bW ty k k).isSome=true then (match iu ty k ks 0 with
  |some (some i)=>some (ks.eraseIdx i,vs.eraseIdx i)
  |some none=>some (ks,vs)
  |none=>none) else none
def nd:I→Option I
 | .ptr n p=>some (.ptr n p)
 | .ref x=>some (.ref x)
 |_=>none
def wk:I→I→Option I
 | .int k a,.int k2 b=>if k=k2 then some (.int k (if b>a then b else a)) else none
 |_,_=>none
def my(neg:Bool):Option Bool→Option Bool→Option I
 |some a,some b=>if a||b then some (.bool (if neg then !(a&&b) else (a&&b))) else none
 |_,_=>none
def qt(ok:Bool):Option (I×Bool)→Option I
 |some (v,b)=>some (if ok then .tuple [v,.bool b] else v)
 |none=>none
def qq(ty:cm)(z:I)(ok:Bool)(k:I):Option (List I×List I)→Option I
 |some (ks,vs)=>qt ok (qu ty z k ks vs)
 |none=>none
def rY(ks vs:List I):Option Nat→Option I
 |some i=>match ks[i]?,vs[i]? with
  |some k,some v=>some (.tuple [k,v])
  |_,_=>none
 |none=>none
def mP:List I→Option (List UInt8)
 | []=>some []
 |x::xs=>match x,mP xs with
  | .int .u8 n,some l=>some (UInt8.ofNat n.toNat::l)
  |_,_=>none
def c7(A:ae)(sz:Nat):I→Option (List I)
 | .slice z es=>if z=sz then some es else none
 | .nils _=>some []
 | .c0 _=>some []
 | .own n l=>match A.o n with
  |some (.bF _ z es)=>if l=es.length∧z=sz then some es else none
  |_=>none
 | .view n p z lo k=>match bT A (.ptr n p) with
  |some (.agg fs)=>if lo+k≤fs.length∧z=sz then some ((fs.drop lo).take k) else none
  |_=>none
 |_=>none
def eF:uk→List I→Option I
 | .ea,[.ak s,.int _ i]=>if 0≤i then (s.data.toList[i.toNat]?).map fun b=>.int .u8 b.toNat else none
 | .ss false true,[.ak s,.int _ h]=>if 0≤h∧h≤s.size then some (.ak (s.extract 0 h.toNat)) else none
 | .ss true false,[.ak s,.int _ l]=>if 0≤l∧l≤s.size then some (.ak (s.extract l.toNat s.size)) else none
 | .ss true true,[.ak s,.int _ l,.int _ h]=>if 0≤l∧l≤h∧h≤s.size then some (.ak (s.extract l.toNat h.toNat)) else none
 | .nf neg,[.cU]=>some (.bool (!neg))
 | .nf neg,[.iface _ _]=>some (.bool neg)
 | .min2,[.int k a,.int k2 b]=>if k=k2 then some (.int k (if b<a then b else a)) else none
 | .mi T,[x]=>if x.bC=true∧x.cC=true then some (.iface T x) else none
 |_,_=>none
def lj:Option (List I)→Option I
 |some es=>(mP es).map fun l=>.ak ⟨l.toArray⟩
 |none=>none
def kg(A:ae)(sz:Nat):I→Option (List I)
 | .ak s=>if sz=1 then some (s.data.toList.map fun b=>.int .u8 b.toNat) else none
 |x=>c7 A sz x
def lO:I→Option (List I)
 | .ak s=>some (s.data.toList.map fun b=>.int .u8 b.toNat)
 |_=>none
def aY(A:ae):bt→Option I
 | .mv x=>some (ah A x)
 | .pick c a b=>match ah A c with | .bool t=>some (if t then ah A a else ah A b) | _=>none
 | .bin op x y=>bG op (ah A x) (ah A y)
 | .eqv ty neg x y=>(bW ty (ah A x) (ah A y)).map fun b=>.bool (if neg then !b else b)
 | .nilS neg x=>match ah A x with
  | .nils _=>some (.bool (!neg))
  | .slice _ es=>if es.isEmpty then none else some (.bool neg)
  | .view _ _ _ _ _=>some (.bool neg)
  |_=>none
 | .conv k x=>match ah A x with | .int _ n=>some (.int k (k.wrap n)) | _=>none
 | .un op x=>match op,ah A x with
  | .not,.bool b=>some (.bool !b)
  | .neg,.int k n=>some (.int k (k.wrap (0-n)))
  | .xor,.int k n=>some (.int k (oo k n))
  |_,_=>none
 | .ld s x=>match bT A (ah A x) with | some v=>if bN s v then some v else none | none=>none
 | .fa f off x=>match ah A x with
  | .ref (.agg fs)=>match fs[f]? with | some v=>if I.sizes (fs.take f)=off then some (.ref v) else none | none=>none
  | .ptr n p=>match bT A (.ptr n p) with | some (.agg fs)=>if f<fs.length∧I.sizes (fs.take f)=off then some (.ptr n (p++[f])) else none | _=>none
  |_=>none
 | .fl f off s x=>match ah A x with
  | .agg fs=>match fs[f]? with | some v=>if I.sizes (fs.take f)=off∧bN s v=true then some v else none | none=>none
  |_=>none
 | .ia n esz x i=>match ah A i with
  | .int _ k=>if 0≤k∧k<n then (match ah A x with
   | .ref (.agg fs)=>if gz n esz fs then (fs[k.toNat]?).map .ref else none
   | .ptr m p=>match bT A (.ptr m p) with | some (.agg fs)=>if gz n esz fs then some (.ptr m (p++[k.toNat])) else none | _=>none
   |_=>none) else none
  |_=>none
 | .is esz x i=>match ah A i with
  | .int _ k=>match ah A x with
   | .slice sz es=>if sz=esz∧0≤k∧k<es.length then (es[k.toNat]?).map .ref else none
   | .own m l=>match A.o m with | some (.bF _ sz es)=>if l=es.length∧sz=esz∧0≤k∧k<es.length then (es[k.toNat]?).map .ref else none | _=>none
   | .view m p sz lo l=>match bT A (.ptr m p) with | some (.agg _)=>if sz=esz∧0≤k∧k<l then some (.ptr m (p++[lo+k.toNat])) else none | _=>none
   |_=>none
  |_=>none
 | .ix n esz s x i=>match ah A i with
  | .int _ k=>if 0≤k∧k<n then (match ah A x with
   | .agg fs=>if gz n esz fs then (match fs[k.toNat]? with | some v=>if bN s v then some v else none | none=>none) else none
   |_=>none) else none
  |_=>none
 | .len x=>match ah A x with
  | .slice _ es=>some (.int .i64 es.length)
  | .nils _ | .c0 _=>some (.int .i64 0)
  | .own m l=>match A.o m with | some (.bF _ _ es)=>if l=es.length then some (.int .i64 es.length) else none | _=>none
  | .view _ _ _ _ k=>some (.int .i64 k)
  |_=>none
 | .cap x=>match ah A x with
  | .nils _ | .c0 _=>some (.int .i64 ((0:Nat):Int))
  | .view n p _ lo _=>match bT A (.ptr n p) with | some (.agg fs)=>some (.int .i64 ((fs.length-lo:Nat):Int)) | _=>none
  |_=>none
 | .bs0 esz=>some (.c0 esz)
 | .lenT x=>match ah A x with
  | .ak s=>some (.int .i64 s.size)
  |_=>none
 | .va n esz x=>match ah A x with
  | .ptr m p=>match bT A (.ptr m p) with | some (.agg fs)=>if gz n esz fs=true∧n≤maxLen∧n≠0 then some (.view m p esz 0 n) else none | _=>none
  | .ref (.agg fs)=>if gz n esz fs=true∧n≤maxLen∧n≠0 then some (.slice esz fs) else none
  |_=>none
 | .sl esz x lo hi mx=>match ah A x with
  | .slice sz es=>if sz=esz then il sz es (lo.map (ah A)) (hi.map (ah A)) (mx.map (ah A)) else none
  | .nils sz=>if sz=esz then il sz [] (lo.map (ah A)) (hi.map (ah A)) (mx.map (ah A)) else none
  | .c0 sz=>if sz=esz then il sz [] (lo.map (ah A)) (hi.map (ah A)) (mx.map (ah A)) else none
  | .view n p sz l0 k=>match bT A (.ptr n p) with | some (.agg fs)=>if sz=esz then iX n p sz l0 k fs.length (lo.map (ah A)) (hi.map (ah A)) (mx.map (ah A)) else none | _=>none
  |_=>none
 | .bld zs parts=>(eT zs (parts.map fun p=>(p.1,ah A p.2))).map .agg
 | .nilC x=>nd (ah A x)
 | .max2 x y=>wk (ah A x) (ah A y)
 | .prim p xs=>eF p (xs.map (ah A))
 | .b2s x=>lj (c7 A 1 (ah A x))
 | .ptrE neg x y=>my neg (iw (ah A x)) (iw (ah A y))
 | .lk ty z ok m k=>qq ty z ok (ah A k) (gj A (ah A m))
 | .ent x=>match ah A x with
  | .c8 n=>match A.o n with
   |some (.it ks vs _ cur)=>rY ks vs cur
   |_=>none
  |_=>none
 | .bs _ esz parts=>match bJ false A (parts.map (ah A)) with
  |some es=>if (es.all fun e=>e.size==esz)∧I.cv es then some (.slice esz es) else none
  |none=>none
 | .ext x i=>match ah A x with | .tuple fs=>fs[i]? | _=>none
 | .mk f caps=>if ((caps.map (ah A)).all fun y=>y.cC)=true then some (.func f (caps.map (ah A))) else none
 |_=>none
mutual
theorem af.fe{w:World}{D D':aH}{E E':aN}(hD:∀ b o,D b o→D' b o):∀ (x:I) (cs:List Value),x.bC=true→af w D E x cs→af w D' E' x cs
 | .agg fs,cs,hc,hr=>by simp only[af,I.bC] at *;exact aA.fe hD fs cs hc hr
 | .bool b,cs,_,hr=>by simpa only[af] using hr
 | .int k n,cs,_,hr=>by simpa only[af] using hr
 | .ak s,cs,_,hr=>by simpa only[af] using hr
 | .nilp,cs,_,hr=>by simpa only[af] using hr
 | .di,cs,_,hr=>by simpa only[af] using hr
 | .cU,cs,_,hr | .any,cs,_,hr=>by simpa only[af] using hr
 | .raw _,cs,_,hr=>by simpa only[af] using hr
 | .nils _,cs,_,hr=>by simpa only[af] using hr
 | .c0 _,cs,_,hr=>by simpa only[af] using hr
 | .slice sz es,cs,hc,hr=>by
  simp only[af,I.bC] at *;obtain ⟨a,cap,h1,h2,h3,h4,h5⟩:=hr;refine ⟨a,cap,h1,h2,h3,?_,h5⟩;rcases h4 with h4 | ⟨b,off,cs',h6,h7,h8⟩
  ·exact .inl h4
  ·exact .inr ⟨b,off,cs',h6,fun j v hj=>⟨(h7 j v hj).1,hD _ _ (h7 j v hj).2⟩,aA.fe hD es cs' hc h8⟩
 | .ref x,cs,hc,hr=>by
  simp only[af,I.bC] at *;obtain ⟨b,off,cs',h1,h2,h3⟩:=hr;exact ⟨b,off,cs',h1,fun j v hj=>⟨(h2 j v hj).1,hD _ _ (h2 j v hj).2⟩,af.fe hD x cs' hc h3⟩
 | .func f caps,cs,hc,hr=>by
  simp only[af,I.bC] at *;obtain ⟨vs,h1,h2⟩:=hr;exact ⟨vs,h1,ao.fe hD caps vs hc h2⟩
 | .iface t v,cs,hc,hr=>by
  simp only[af,I.bC] at *;obtain ⟨u,cs',h1,h2,h3⟩:=hr;exact ⟨u,cs',h1,h2,af.fe hD v cs' hc h3⟩
 | .ptr n p,_,hc,_=>by simp[I.bC] at hc
 | .own n k,_,hc,_=>by simp[I.bC] at hc
 | .view n p _ _ _,_,hc,_=>by simp[I.bC] at hc
 | .mref n,_,hc,_=>by simp[I.bC] at hc
 | .c8 n,_,hc,_=>by simp[I.bC] at hc
 | .da ks vs,cs,hc,hr=>by
  simp only[af,I.bC,Z7] at *;obtain ⟨b,es,ck,h1,h2,h3,h4⟩:=hr;exact ⟨b,es,ck,h1,⟨h2.1,hD _ _ h2.2.1,h2.2.2⟩,ao.fe hD ks _ hc.1 h3,ao.fe hD vs _ hc.2 h4⟩
 | .undef,_,hc,_=>by simp[I.bC] at hc
 | .dc,_,hc,_=>by simp[I.bC] at hc
 | .tuple _,_,hc,_=>by simp[I.bC] at hc
theorem aA.fe{w:World}{D D':aH}{E E':aN}(hD:∀ b o,D b o→D' b o):∀ (xs:List I) (cs:List Value),I.cv xs=true→aA w D E xs cs→aA w D' E' xs cs
 | [],cs,_,hr=>by simpa only[aA] using hr
 |x::xs,cs,hc,hr=>by
  simp only[aA,I.cv,Z7] at *;obtain ⟨c1,c2,h1,h2,h3⟩:=hr;exact ⟨c1,c2,h1,af.fe hD x c1 hc.1 h2,aA.fe hD xs c2 hc.2 h3⟩
theorem ao.fe{w:World}{D D':aH}{E E':aN}(hD:∀ b o,D b o→D' b o):∀ (xs:List I) (vs:List Value),I.cv xs=true→ao w D E xs vs→ao w D' E' xs vs
 | [],vs,_,hr=>by simpa only[ao] using hr
 |x::xs,vs,hc,hr=>by
  simp only[ao,I.cv,Z7] at *;obtain ⟨v,rest,cs,h1,h2,h3,h4⟩:=hr;exact ⟨v,rest,cs,h1,h2,af.fe hD x cs hc.1 h3,ao.fe hD xs rest hc.2 h4⟩
end
theorem tr{w:World}{D:aH}{b:Nat}{cs:Array Value}{T:TypeId}{fz:Nat×Nat}(hb:w.heap[b]?=some (.cells cs T fz)){c1 c2 c3:List Value}(hc:cs.toList=c1++c2++c3)
  (hD:∀ o,o<c1.length+c2.length→D b o):reads w D b c1.length c2:=by
 intro j v hj;have hjl:j<c2.length:=(zz6.1 hj).1;refine ⟨?_,hD _ (by omega)⟩;have e:cs[c1.length+j]?=some v:=by
  rw[←zx0,hc,zz0,zw3 (by omega),Nat.add_sub_cancel_left,zy6 (by omega)];exact hj
 simp[World.cell?,hb,e]
theorem tE(P:Program)(g o:Nat)(t:TypeId){s:bP} : ∀ (vs:List Value) (i:Nat) (cur:Array Value) (w:World),eh w g cur t s→o+i+vs.length≤cur.size→(∀ v∈vs,v.oneCell'=true) →
  (storeCells ⟨g,o,none⟩ vs i).run P w=.ok () (w.setRow g (cur.toList.take (o+i)++vs++cur.toList.drop (o+i+vs.length)).toArray)
 | [],i,cur,w,hg,_,_=>by
  obtain ⟨fz,hg,_⟩:=hg;simp only[storeCells,zx9,zw2,Nat.add_zero,zx1,Array.toArray_toList];rw[setRow_self w g cur t fz hg];rfl
 |v::rest,i,cur,w,hg,hl,h1=>by
  have hi:o+i<cur.size:=by simp at hl;omega
  have hg2:=hg.setRow (cs':=cur.setIfInBounds (o+i) v) (by simp);have hfro:=hg.M4 hi;obtain ⟨fz,hg,_⟩:=hg;have hadd:(⟨g,o,none⟩:Addr).add i=⟨g,o+i,none⟩:=by unfold Addr.add;split <;>simp_all
  have hcell:w.cell? ⟨g,o+i,none⟩=some cur[o+i]:=by simp[World.cell?,hg,hi]
  have hst:(store ((⟨g,o,none⟩:Addr).add i) v).run P w=.ok () (w.setRow g (cur.setIfInBounds (o+i) v)):=by
   rw[hadd,run_store P w _ v _ (h1 v (by simp)),hcell];simp[hfro,setCell_eq_setRow w g (o+i) cur t fz v hg]
  have ih:=tE P g o t rest (i+1) (cur.setIfInBounds (o+i) v) (w.setRow g (cur.setIfInBounds (o+i) v)) hg2 (by simp at hl ⊢;omega) (fun x hx=>h1 x (by simp[hx]));simp only[storeCells,Sem.run_bind,hst,Result.andThen_ok,ih,setRow_setRow]
  congr 3
  have e:=list_seg_step cur.toList (o+i) v rest (by simp at hl ⊢;omega);simpa[Array.toList_setIfInBounds,Nat.add_assoc] using e
theorem tq{w:World}{D:aH}{b:Nat}{cs:Array Value}{T:TypeId}{s:bP}(hb:eh w b cs T s){c1 c2 c3:List Value}(hc:cs.toList=c1++c2++c3)
  (hD:∀ o,o<c1.length+c2.length→D b o):reads w D b c1.length c2:=by
 obtain ⟨_,hb,_⟩:=hb;exact tr hb hc hD
section
variable {c:ct} {A:ae} {a:Act} {w:World} {D:aH} {E:aN}
theorem aM.box(h:aM c A a w D E){n:Nat}{x:I}(hn:A.o n=some (.box x)) :
  ∃ b cs T,E n=some (.aE b x.aL)∧c.eA b∧eh w b cs T x.aL∧af w D E x cs.toList∧∀ o,¬ D b o:=by
 have:=h.bD n;rw[hn] at this;exact this
theorem aM.bF(h:aM c A a w D E){n sz:Nat}{T:TypeId}{es:List I}(hn:A.o n=some (.bF T sz es)) :
  ∃ aB,E n=some (.rw aB es.length)∧(∀ e∈es,e.size=sz)∧match aB with
  |none=>es=[]
  |some (b,cap)=>∃ cs pre rest,c.eA b∧w.heap[b]?=some (.cells cs T (0,0))∧cs.toList=pre++rest∧aA w D E es pre ∧
    cs.size=cap*sz∧es.length≤cap∧cap≤maxLen∧∀ o,D b o→o<pre.length:=by
 have:=h.bD n;rw[hn] at this;exact this
theorem aM.xK(h:aM c A a w D E){n:Nat}{T:TypeId}{xs:List Int}(hn:A.o n=some (.dW T xs)) :
  ∃ aB,E n=some (.rw aB xs.length)∧(∀ x∈xs,IntKind.i64.min≤x∧x≤IntKind.i64.max)∧match aB with
  |none=>xs=[]
  |some (b,cap)=>∃ cs m,c.eA b∧w.heap[b]?=some (.cells cs T (0,0))∧cs.toList=(xs++List.replicate m 0).map (Value.int .i64)∧xs≠[]∧xs.length+m=cap∧cap≤maxLen∧∀ o,¬ D b o:=by
 have:=h.bD n;rw[hn] at this;exact this
theorem aM.map(h:aM c A a w D E){n:Nat}{ks vs:List I}(hn:A.o n=some (.cn ks vs)) :
  ∃ b es clock,E n=some (.cn b)∧c.eA b∧w.heap[b]?=some (.map es clock)∧nM es clock∧ao w D E ks (es.toList.map (·.key))∧ao w D E vs (es.toList.map (·.val))∧∀ o,¬ D b o:=by
 have:=h.bD n;rw[hn] at this;exact this
theorem aM.at(h:aM c A a w D E){n:Nat}{p:List Nat}{x:I}(hx:bT A (.ptr n p)=some x) :
  ∃ y b cs T off c1 c2 c3,A.o n=some (.box y)∧E n=some (.aE b y.aL)∧c.eA b∧eh w b cs T y.aL∧y.at p=some x∧y.aL.off p=some off ∧
   cs.toList=c1++c2++c3∧c1.length=off∧af w D E x c2∧af w D E y cs.toList∧∀ o,¬ D b o:=by
 simp only[bT] at hx;split at hx
 ·rename_i y hn;obtain ⟨b,cs,T,h1,h2,h3,h4,h5⟩:=h.box hn;obtain ⟨off,c1,c2,c3,h6,h7,h8,h9⟩:=wS p y x _ h4 hx;exact ⟨y,b,cs,T,off,c1,c2,c3,hn,h1,h2,h3,hx,h6,h7,h8,h9,h4,h5⟩
 ·cases hx
theorem aM.yN(h:aM c A a w D E){x y:I}{v:Value}(ab:aR w D E x v)(hx:bT A x=some y) :
  ∃ b off cs,v=.pointer (some ⟨b,off,none⟩)∧(∀ j u,cs[j]?=some u→w.cell? ⟨b,off+j,none⟩=some u)∧af w D E y cs:=by
 cases x with
 |ref z =>
  simp only[bT,v6] at hx;subst hx;obtain ⟨b,off,cs,h1,h2,h3⟩:=pd ab;exact ⟨b,off,cs,h1,fun j u hj=>(h2 j u hj).1,h3⟩
 |ptr n p =>
  obtain ⟨b,aL,off,h1,h2,h3⟩:=kT ab;obtain ⟨z,b',cs,T,off',c1,c2,c3,k1,k2,_,k3,_,k5,k6,k7,k8,_,_⟩:=h.at hx;rw[k2] at h1;simp only[v6,bw.aE.injEq] at h1;obtain ⟨rfl,rfl⟩:=h1;rw[k5,v6] at h2;subst h2;refine ⟨b',off',c2,h3,fun j u hj =>?_,k8⟩;have:=tq (D:=fun _ _=>True) k3 k6 (fun _ _=>trivial);rw[k7] at this;exact (this j u hj).1
 |_=>simp[bT] at hx
theorem tn{w:World}{D:aH}{E:aN} : ∀ (xs ys:List I) (cs:List Value),aA w D E (xs++ys) cs→∃ c1 c2,cs=c1++c2∧aA w D E xs c1∧aA w D E ys c2
 | [],ys,cs,hr=>⟨[],cs,rfl,by simp[aA],hr⟩
 |x::xs,ys,cs,hr=>by
  simp only[zz8,aA] at hr;obtain ⟨d1,d2,rfl,k1,k2⟩:=hr;obtain ⟨e1,e2,rfl,k3,k4⟩:=tn xs ys d2 k2;exact ⟨d1++e1,e2,by simp,by simp only[aA];exact ⟨d1,e1,rfl,k1,k3⟩,k4⟩
theorem Fc{fs:List I}{sz:Nat}(h:∀ s∈I.cJ fs,s.size=sz):∀ f∈fs,f.size=sz:=by
 intro f hf;rw[←I.iH];exact h _ (by rw[I.cL];exact zx4.2 ⟨f,hf,rfl⟩)
theorem tp{w:World}{D:aH}{E:aN}{fs:List I}{cs:List Value}{sz:Nat}(hr:aA w D E fs cs)(hev:∀ f∈fs,f.size=sz)(lo k:Nat)(h:lo+k≤fs.length) :
  ∃ d1 d2 d3,cs=d1++(d2++d3)∧d1.length=lo*sz∧aA w D E ((fs.drop lo).take k) d2∧aA w D E ((fs.drop lo).drop k) d3:=by
 have e1:fs=fs.take lo++((fs.drop lo).take k++(fs.drop lo).drop k):=by rw[zx1,zx1]
 rw[e1] at hr;obtain ⟨d1,d',rfl,q1,q2⟩:=tn _ _ _ hr;obtain ⟨d2,d3,rfl,q3,q4⟩:=tn _ _ _ q2;refine ⟨d1,d2,d3,rfl,?_,q3,q4⟩;rw[aA.length _ _ q1,I.gF _ (fun x hx=>hev x (zw5 hx)),zz4]
 congr 1
 omega
structure gY (aE:Bool) (A:ae) (D:aH) (E:aN) (D':aH):Prop where
 cO:∀ b o,D b o→D' b o
 bF:∀ n T sz es b cap,A.o n=some (.bF T sz es)→E n=some (.rw (some (b,cap)) es.length)→∀ o,o<es.length*sz→D' b o
 box:aE=true→∀ n x b aL,A.o n=some (.box x)→E n=some (.aE b aL)→∀ o,o<x.size→D' b o
 map:aE=true→∀ n ks vs b,A.o n=some (.cn ks vs)→E n=some (.cn b)→D' b 0
def dE(A A':ae):Prop:=∀ n x,A.o n=some x→A'.o n=some x
theorem iO{A A':ae}(hu:dE A A'){x v:I}(h:bT A x=some v):bT A' x=some v:=by
 cases x <;>simp only[bT] at h ⊢ <;>try exact h
 rename_i n p;cases ho:A.o n with
 |none=>rw[ho] at h;cases h
 |some y=>rw[ho] at h;rw[hu n y ho];exact h
theorem Az{A0 A:ae}(hu:dE A0 A){n:Nat}{p:List Nat}{x z:I}(h:bT A0 (.ptr n p)=some x)(hz:A.o n=some (.box z)):A0.o n=some (.box z):=by
 simp only[bT] at h;split at h
 ·rename_i y hy;have:=hu n _ hy;rw[hz] at this;rw[hy,←this]
 ·cases h
theorem aM.EA(h:aM c A a w D E){A0:ae}(hu:dE A0 A){D':aH}(hw:gY true A0 D E D'){n:Nat}{p:List Nat}{x:I}{cs:List Value}(hx:bT A0 (.ptr n p)=some x)(hr:af w D E (.ptr n p) cs) :
  ∃ b off c2,cs=[.pointer (some ⟨b,off,none⟩)]∧reads w D' b off c2∧af w D E x c2:=by
 obtain ⟨z,b',cs',T,off',c1,c2,c3,k1,k2,_,k3,k4,k5,k6,k7,k8,k9,_⟩:=h.at (iO hu hx);have k1:=Az hu hx k1;simp only[af] at hr;obtain ⟨b,aL,off,h1,h2,h3⟩:=hr;rw[k2] at h1;simp only[v6,bw.aE.injEq] at h1;obtain ⟨rfl,rfl⟩:=h1;rw[k5,v6] at h2;subst h2;have hsz:=af.length z _ k9;rw[k6] at hsz;simp only[Z8] at hsz;refine ⟨b',off',c2,h3,?_,k8⟩;rw[←k7];exact tq k3 k6 (fun o ho=>hw.box rfl n z b' _ k1 k2 o (by omega))
theorem aM.il(h:aM c A a w D E){A0:ae}(hu:dE A0 A){D':aH}{E':aN}(hw:gY true A0 D E D'){n:Nat}{p:List Nat}{sz lo k:Nat}{fs:List I}{cs:List Value}(hx:bT A0 (.ptr n p)=some (.agg fs))(hr:af w D E (.view n p sz lo k) cs)
  (hcl:I.cv ((fs.drop lo).take k)=true):af w D' E' (.slice sz ((fs.drop lo).take k)) cs:=by
 obtain ⟨z,b',cs',T,off',c1,c2,c3,k1,k2,_,k3,k4,k5,k6,k7,k8,k9,_⟩:=h.at (iO hu hx);have k1:=Az hu hx k1;simp only[af] at hr k8 ⊢;obtain ⟨b,aL,off,l,h1,h2,h3,h4,h5,h6,h7⟩:=hr;rw[k2] at h1;simp only[v6,bw.aE.injEq] at h1;obtain ⟨rfl,rfl⟩:=h1;rw[k5,v6] at h2;subst h2;rw[lS p z _ k4] at h3;simp only[I.aL,v6,bP.eE.injEq] at h3;subst h3;have hsz:=af.length z _ k9;rw[k6] at hsz;rw[I.cL,Z9] at h4 h5 h6;have hev:=Fc h7;obtain ⟨d1,d2,d3,rfl,q1,q2,q3⟩:=tp k8 hev lo k h6;simp only[Z8] at hsz;have hlen:((fs.drop lo).take k).length=k:=by rw[zz4,zv1];omega
 refine ⟨some ⟨b',off'+lo*sz,none⟩,fs.length-lo,by rw[hlen];exact h4,by rw[hlen];omega,by omega,.inr ⟨b',off'+lo*sz,d2,rfl,?_,aA.fe hw.cO _ d2 hcl q2⟩,?_⟩
 ·have:=tq (D:=D') (c1:=c1++d1) (c2:=d2) (c3:=d3++c3) k3 (by rw[k6];simp) (fun o ho=>hw.box rfl n z b' _ k1 k2 o (by rw[Z8] at ho;omega));rw[Z8,k7,q1] at this;exact this
 ·intro e he;exact hev e (List.mem_of_mem_drop (zw5 he))
theorem aM.EJ(h:aM c A a w D E){aE:Bool}{A0:ae}(hu:dE A0 A){D':aH}{E':aN}(hw:gY aE A0 D E D'){n k T sz:Nat}{es:List I}{cs:List Value}(hn:A0.o n=some (.bF T sz es))(hcl:I.cv es=true)(hk:k=es.length)(hr:af w D E (.own n k) cs):af w D' E' (.slice sz es) cs:=by
 subst hk;simp only[af] at hr;obtain ⟨aB,l,h1,h2,_,h4⟩:=hr;obtain ⟨blk',k1,k2,k3⟩:=h.bF (hu n _ hn);rw[k1] at h1;simp only[v6,bw.rw.injEq] at h1;obtain ⟨rfl,rfl⟩:=h1;have h4:=h4 rfl;cases blk' with
 |none =>
  simp only at k3 h4;subst k3;simp only[af];exact ⟨none,0,by simpa using h4,by simp,by simp[maxLen],by simp,by simp⟩
 |some bc =>
  obtain ⟨b,cap⟩:=bc;simp only at h4;obtain ⟨cs',pre,rest,k4,k5,k6,k7,k8,k9,k10,k11⟩:=k3;simp only[af];refine ⟨some ⟨b,0,none⟩,cap,h4,k9,k10,.inr ⟨b,0,pre,rfl,?_,aA.fe hw.cO es pre hcl k7⟩,k2⟩;have hp:pre.length=es.length*sz:=by rw[aA.length _ _ k7,I.gF _ k2]
  have:=tr (D:=D') (c1:=[]) k5 (by simpa using k6) (fun o ho=>hw.bF n T sz es b cap hn k1 o (by simp at ho;omega));simpa using this
theorem Cq{w:World}{D D':aH}{E E':aN}{f:I→Option I}(hf:∀ x y cs,af w D E x cs→f x=some y→af w D' E' y cs):∀ (xs ys:List I) (cs:List Value),aA w D E xs cs→ib f xs=some ys→aA w D' E' ys cs
 | [],ys,cs,hr,h=>by simp only[ib,v6] at h;subst h;simpa only[aA] using hr
 |x::xs,ys,cs,hr,h=>by
  simp only[ib] at h;split at h
  ·rename_i y ys' h1 h2;simp only[v6] at h;subst h;simp only[aA] at *;obtain ⟨c1,c2,e,k1,k2⟩:=hr;exact ⟨c1,c2,e,hf x y c1 k1 h1,Cq hf xs ys' c2 k2 h2⟩
  ·cases h
theorem sL{w:World}{D D':aH}{E E':aN}{f:I→Option I}(hf:∀ x y cs,af w D E x cs→f x=some y→af w D' E' y cs)(hp:∀ x y,f x=some y→y.isAgg=x.isAgg):∀ (xs ys:List I) (vs:List Value),ao w D E xs vs→ib f xs=some ys→ao w D' E' ys vs
 | [],ys,cs,hr,h=>by simp only[ib,v6] at h;subst h;simpa only[ao] using hr
 |x::xs,ys,cs,hr,h=>by
  simp only[ib] at h;split at h
  ·rename_i y ys' h1 h2;simp only[v6] at h;subst h;simp only[ao] at *;obtain ⟨v,rest,c1,e,k1,k2,k3⟩:=hr;refine ⟨v,rest,c1,e,?_,hf x y c1 k2 h1,sL hf hp xs ys' rest k3 h2⟩;unfold ba at *;rw[hp x y h1];exact k1
  ·cases h
theorem vm{A0:ae} : ∀ {k:Nat} {x y:I},gA A0 k x=some y→y.isAgg=x.isAgg
 |0,_,_,h=>by simp[gA] at h
 |k+1,x,y,h=>by
  simp only[gA] at h;split at h
  ·simp only[v6] at h;rw[h]
  ·cases x <;>simp only[] at h <;>first
    |(cases h;done)
    |(split at h <;>first | (simp only[t7] at h;obtain ⟨z,_,rfl⟩:=h;rfl) | (simp only[v6] at h;subst h;rfl);done)
    |(simp only[t7] at h;obtain ⟨z,_,rfl⟩:=h;rfl)
    |((repeat' split at h) <;>first | (cases h;done) | (simp only[v6] at h;subst h;rfl) | (simp only[t7] at h;obtain ⟨z,_,rfl⟩:=h;rfl))
theorem vn(h:aM c A a w D E){A0:ae}(hu:dE A0 A){D':aH}{E':aN}(hw:gY true A0 D E D'):∀ (k:Nat) (x y:I) (cs:List Value),af w D E x cs→gA A0 k x=some y→af w D' E' y cs
 |0,_,_,_,_,hf=>by simp[gA] at hf
 |k+1,x,y,cs,hr,hf=>by
  have ih:=vn h hu (E':=E') hw k;simp only[gA] at hf;split at hf
  ·rename_i hcl;simp only[v6] at hf;subst hf;exact af.fe hw.cO x cs hcl hr
  ·rename_i hcl;cases x <;>simp only[] at hf <;>try (cases hf;done)
   case agg fs =>
    simp only[t7] at hf;obtain ⟨ys,hy,rfl⟩:=hf;simp only[af] at *;exact Cq ih fs ys cs hr hy
   case func f caps =>
    split at hf
    case isFalse =>
     simp only[v6] at hf;subst hf;simp only[af] at *;obtain ⟨vs,h1,h2⟩:=hr;exact ⟨_,h1,Bg f vs⟩
    simp only[t7] at hf;obtain ⟨ys,hy,rfl⟩:=hf;simp only[af] at *;obtain ⟨vs,h1,h2⟩:=hr;exact ⟨vs,h1,sL ih (fun x y hxy=>vm hxy) caps ys vs h2 hy⟩
   case ptr n p =>
    split at hf
    case h_2=>cases hf
    rename_i z hz;simp only[t7] at hf;obtain ⟨y',hy,rfl⟩:=hf;obtain ⟨b,off,c2,k1,k2,k3⟩:=h.EA hu hw hz hr;simp only[af];exact ⟨b,off,c2,k1,k2,ih z y' c2 k3 hy⟩
   case view n p sz lo l =>
    split at hf
    case h_2=>cases hf
    rename_i fs hx;split at hf
    case isFalse=>cases hf
    rename_i hc;simp only[v6] at hf;subst hf;exact h.il hu hw hx hr hc
   case mref n =>
    split at hf
    case h_2=>cases hf
    rename_i ks vs hn;split at hf
    case isFalse=>cases hf
    rename_i hc;simp only[t7] at hf;obtain ⟨ys,hy,rfl⟩:=hf;simp only[af] at hr ⊢;obtain ⟨b,h1,h2⟩:=hr;obtain ⟨b',es,ck,k1,k2,k3,k4,k5,k6,k7⟩:=h.map (hu n _ hn);rw[k1] at h1;cases h1;exact ⟨b,es,ck,h2,⟨k3,hw.map rfl n ks vs b hn k1,k4⟩,ao.fe hw.cO ks _ hc k5,sL ih (fun x y hxy=>vm hxy) vs ys _ k6 hy⟩
   case own n l =>
    split at hf
    case h_2=>cases hf
    rename_i T sz es hn;split at hf
    case isFalse=>cases hf
    rename_i hk;simp only[v6] at hf;subst hf;exact h.EJ hu hw hn hk.2 hk.1 hr
mutual
theorem A6(h:aM c A a w D E){aE:Bool}{A0:ae}(hu:dE A0 A){D':aH}{E':aN}(hw:gY aE A0 D E D'):∀ (x y:I) (cs:List Value),af w D E x cs→bf aE A0 x=some y→af w D' E' y cs
 | .ptr n p,y,cs,hr,hf=>by
  simp only[bf] at hf;split at hf
  case isFalse=>cases hf
  rename_i hbx;subst hbx;split at hf
  case h_2=>cases hf
  rename_i x hx;obtain ⟨b,off,c2,k1,k2,k3⟩:=h.EA hu hw hx hr;split at hf
  ·rename_i hcl;simp only[v6] at hf;subst hf;simp only[af];exact ⟨b,off,c2,k1,k2,af.fe hw.cO x c2 hcl k3⟩
  ·simp only[t7] at hf;obtain ⟨y',hy,rfl⟩:=hf;simp only[af];exact ⟨b,off,c2,k1,k2,vn h hu hw 9 x y' c2 k3 hy⟩
 | .mref n,y,cs,hr,hf=>by
  simp only[bf] at hf;split at hf
  case isFalse=>cases hf
  rename_i hbx;subst hbx;split at hf
  case h_2=>cases hf
  rename_i ks vs hn;split at hf
  case isFalse=>cases hf
  rename_i hc;simp only[t7] at hf;obtain ⟨ys,hy,rfl⟩:=hf;simp only[af] at hr ⊢;obtain ⟨b,h1,h2⟩:=hr;obtain ⟨b',es,ck,k1,k2,k3,k4,k5,k6,k7⟩:=h.map (hu n _ hn);rw[k1] at h1;cases h1;exact ⟨b,es,ck,h2,⟨k3,hw.map rfl n ks vs b hn k1,k4⟩,ao.fe hw.cO ks _ hc k5,sL (vn h hu hw 9) (fun x y hxy=>vm hxy) vs ys _ k6 hy⟩
 | .c8 _,_,_,_,hf=>by simp[bf] at hf
 | .da ks vs,y,cs,hr,hf=>by
  simp only[bf] at hf;split at hf
  ·rename_i hc;simp only[v6] at hf;subst hf;exact af.fe hw.cO _ cs (by simpa[I.bC] using hc) hr
  ·cases hf
 | .own n k,y,cs,hr,hf=>by
  simp only[bf] at hf;split at hf
  case h_2=>cases hf
  rename_i T sz es hn;split at hf
  case isFalse=>cases hf
  rename_i hk;simp only[v6] at hf;subst hf;exact h.EJ hu hw hn hk.2 hk.1 hr
 | .view n p sz lo k,y,cs,hr,hf=>by
  simp only[bf] at hf;split at hf
  case isFalse=>cases hf
  rename_i hbx;subst hbx;split at hf
  case h_2=>cases hf
  rename_i fs hx;split at hf
  case isFalse=>cases hf
  rename_i hcl;simp only[v6] at hf;subst hf;exact h.il hu hw hx hr hcl
 | .nils sz,y,cs,hr,hf=>by
  simp only[bf,v6] at hf;subst hf;simp only[af] at *;exact ⟨none,0,by simpa using hr,by simp,by simp[maxLen],by simp,by simp⟩
 | .c0 sz,y,cs,hr,hf=>by
  simp only[bf,v6] at hf;subst hf;simp only[af] at *;obtain ⟨ad,hr⟩:=hr;exact ⟨ad,0,by simpa using hr,by simp,by simp[maxLen],by simp,by simp⟩
 | .func f caps,y,cs,hr,hf=>by
  simp only[bf] at hf;split at hf
  case isFalse =>
   simp only[v6] at hf;subst hf;simp only[af] at *;obtain ⟨vs,h1,h2⟩:=hr;exact ⟨_,h1,Bg f vs⟩
  simp only[t7] at hf;obtain ⟨ys,hy,rfl⟩:=hf;simp only[af] at *;obtain ⟨vs,h1,h2⟩:=hr;exact ⟨vs,h1,lA h hu hw caps ys vs h2 hy⟩
 | .agg fs,y,cs,hr,hf=>by
  simp only[bf,t7] at hf;obtain ⟨ys,hy,rfl⟩:=hf;simp only[af] at *;exact A7 h hu hw fs ys cs hr hy
 | .tuple _,_,_,_,hf=>by simp[bf] at hf
 | .undef,_,_,_,hf=>by simp[bf] at hf
 | .dc,_,_,_,hf=>by simp[bf] at hf
 | .bool b,y,cs,hr,hf=>by simp only[bf,v6] at hf;subst hf;simpa only[af] using hr
 | .int k n,y,cs,hr,hf=>by simp only[bf,v6] at hf;subst hf;simpa only[af] using hr
 | .ak s,y,cs,hr,hf=>by simp only[bf,v6] at hf;subst hf;simpa only[af] using hr
 | .nilp,y,cs,hr,hf=>by simp only[bf,v6] at hf;subst hf;simpa only[af] using hr
 | .di,y,cs,hr,hf=>by simp only[bf,v6] at hf;subst hf;simpa only[af] using hr
 | .cU,y,cs,hr,hf | .any,y,cs,hr,hf=>by simp only[bf,v6] at hf;subst hf;simpa only[af] using hr
 | .raw _,y,cs,hr,hf=>by simp only[bf,v6] at hf;subst hf;simpa only[af] using hr
 | .slice sz es,y,cs,hr,hf=>by
  simp only[bf] at hf;split at hf
  ·rename_i hc;simp only[v6] at hf;subst hf;exact af.fe hw.cO _ cs (by simpa[I.bC] using hc) hr
  ·cases hf
 | .ref x,y,cs,hr,hf=>by
  simp only[bf] at hf;split at hf
  ·rename_i hc;simp only[v6] at hf;subst hf;exact af.fe hw.cO _ cs (by simpa[I.bC] using hc) hr
  ·cases hf
 | .iface t v,y,cs,hr,hf=>by
  simp only[bf] at hf;split at hf
  ·rename_i hc;simp only[v6] at hf;subst hf;exact af.fe hw.cO _ cs (by simpa[I.bC] using hc) hr
  ·cases hf
theorem A7(h:aM c A a w D E){aE:Bool}{A0:ae}(hu:dE A0 A){D':aH}{E':aN}(hw:gY aE A0 D E D'):∀ (xs ys:List I) (cs:List Value),aA w D E xs cs→bJ aE A0 xs=some ys→aA w D' E' ys cs
 | [],ys,cs,hr,hf=>by simp only[bJ,v6] at hf;subst hf;simpa only[aA] using hr
 |x::xs,ys,cs,hr,hf=>by
  simp only[bJ] at hf;split at hf
  ·rename_i y ys' h1 h2;simp only[v6] at hf;subst hf;simp only[aA] at *;obtain ⟨c1,c2,e,k1,k2⟩:=hr;exact ⟨c1,c2,e,A6 h hu hw x y c1 k1 h1,A7 h hu hw xs ys' c2 k2 h2⟩
  ·cases hf
theorem lA(h:aM c A a w D E){aE:Bool}{A0:ae}(hu:dE A0 A){D':aH}{E':aN}(hw:gY aE A0 D E D'):∀ (xs ys:List I) (vs:List Value),ao w D E xs vs→bJ aE A0 xs=some ys→ao w D' E' ys vs
 | [],ys,cs,hr,hf=>by simp only[bJ,v6] at hf;subst hf;simpa only[ao] using hr
 |x::xs,ys,cs,hr,hf=>by
  simp only[bJ] at hf;split at hf
  ·rename_i y ys' h1 h2;simp only[v6] at hf;subst hf;simp only[ao] at *;obtain ⟨v,rest,c1,e,k1,k2,k3⟩:=hr;refine ⟨v,rest,c1,e,?_,A6 h hu hw x y c1 k2 h1,lA h hu hw xs ys' rest k3 h2⟩;have:y.isAgg=x.isAgg:=by
    cases x <;>simp only[bf] at h1 <;>first
     |(simp at h1;done)
     |(simp only[v6] at h1;subst h1;rfl)
     |(simp only[t7] at h1;obtain ⟨z,_,rfl⟩:=h1;rfl)
     |((repeat' split at h1) <;>first | (simp at h1;done) | (simp only[v6] at h1;subst h1;rfl) | (simp only[t7] at h1;obtain ⟨z,_,rfl⟩:=h1;rfl))
   unfold ba at *;rw[this];exact k1
  ·cases hf
end
end
def fh(P:Program)(t:TypeId):Option (Option Nat):=match P.underlying t with
 |some (.struct _) | some (.array _ _)=>some (some (P.cellsOf t))
 |some _=>some none
 |none=>none
def xS(P:Program):Nat→TypeId→Option I
 |0,_=>none
 |d+1,t=>match P.underlying t with
  |some .bool=>some (.bool false)
  |some (.int k)=>some (.int k 0)
  |some .string=>some (.ak ByteArray.empty)
  |some (.pointer _)=>some .nilp
  |some (.slice e)=>some (.nils (P.cellsOf e))
  |some (.func _ _ _)=>some .di
  |some (.interface _)=>some .cU
  |some (.map _ _)=>some (.raw (.map none))
  |some (.struct fs)=>(fs.toList.mapM fun f=>xS P d f.type).map .agg
  |some (.array n e)=>(xS P d e).map fun z=>.agg (List.replicate n z)
  |_=>none
def kr:I→Value→Bool
 | .bool b,.bool b'=>b==b'
 | .int k n,.int k' n'=>k==k'&&n==n'&&decide (k.min≤n∧n≤k.max)
 | .ak s,.string t=>s.size==0&&t.size==0
 | .nilp,.pointer none=>true
 | .nils _,.slice none 0 0=>true
 | .di,.nilFunc=>true
 | .cU,.nilIface=>true
 | .raw (.map none),.map none=>true
 |_,_=>false
mutual
def lY:I→List Value→Option (List Value)
 | .agg fs,cs=>rn fs cs
 | .bool b,v::cs=>if kr (.bool b) v then some cs else none
 | .int k n,v::cs=>if kr (.int k n) v then some cs else none
 | .ak s,v::cs=>if kr (.ak s) v then some cs else none
 | .nilp,v::cs=>if kr .nilp v then some cs else none
 | .nils z,v::cs=>if kr (.nils z) v then some cs else none
 | .di,v::cs=>if kr .di v then some cs else none
 | .cU,v::cs=>if kr .cU v then some cs else none
 | .raw u,v::cs=>if kr (.raw u) v then some cs else none
 |_,_=>none
def rn:List I→List Value→Option (List Value)
 | [],cs=>some cs
 |x::xs,cs=>match lY x cs with
  |some r=>rn xs r
  |none=>none
end
theorem ByteArray.My{s t:ByteArray}(hs:s.size=0)(ht:t.size=0):s=t:=by
 cases s with | mk a=>cases t with | mk b =>
 have ha:a = #[]:=Array.eq_empty_of_size_eq_zero hs;have hb:b = #[]:=Array.eq_empty_of_size_eq_zero ht;rw[ha,hb]
theorem J8{x:I}{v:Value}(h:kr x v=true)(w:World)(D:aH)(E:aN):af w D E x [v]:=by
 unfold kr at h;split at h
 case h_9=>cases h
 case h_1=>simp only[beq_iff_eq] at h;subst h;simp[af]
 case h_2 =>
  simp only[Z7,beq_iff_eq,decide_eq_true_eq] at h;obtain ⟨⟨rfl,rfl⟩,h⟩:=h;simp only[af,true_and];exact h
 case h_3 =>
  simp only[Z7,beq_iff_eq] at h;have e:=ByteArray.My h.1 h.2;subst e;simp only[af,true_and];rw[h.1];exact zv0 _
 all_goals simp[af,Value.oneCell']
mutual
theorem FT:∀ (x:I) (cs r:List Value),lY x cs=some r→∃ c1,cs=c1++r∧∀ w D E,af w D E x c1
 | .agg fs,cs,r,h=>by
  simp only[lY] at h;obtain ⟨c1,h1,h2⟩:=FU fs cs r h;exact ⟨c1,h1,fun w D E=>by simp only[af];exact h2 w D E⟩
 | .bool b,v::cs,r,h | .int k n,v::cs,r,h | .ak s,v::cs,r,h | .nilp,v::cs,r,h | .nils z,v::cs,r,h | .di,v::cs,r,h | .cU,v::cs,r,h | .raw u,v::cs,r,h=>by
  simp only[lY] at h;split at h
  ·rename_i hh;simp only[v6] at h;subst h;exact ⟨[v],rfl,fun w D E=>J8 hh w D E⟩
  ·cases h
 | .bool b,[],r,h | .int k n,[],r,h | .ak s,[],r,h | .nilp,[],r,h | .nils z,[],r,h | .di,[],r,h | .cU,[],r,h | .raw _,[],r,h=>by simp[lY] at h
 | .any,_,_,h | .undef,_,_,h | .dc,_,_,h | .c0 _,_,_,h | .slice _ _,_,_,h | .tuple _,_,_,h | .ref _,_,_,h | .func _ _,_,_,h | .iface _ _,_,_,h | .ptr _ _,_,_,h | .own _ _,_,_,h | .view _ _ _ _ _,_,_,h | .mref _,_,_,h | .c8 _,_,_,h | .da _ _,_,_,h=>by simp[lY] at h
theorem FU:∀ (xs:List I) (cs r:List Value),rn xs cs=some r→∃ c1,cs=c1++r∧∀ w D E,aA w D E xs c1
 | [],cs,r,h=>by
  simp only[rn,v6] at h;exact ⟨[],by simp[h],fun w D E=>by simp[aA]⟩
 |x::xs,cs,r,h=>by
  simp only[rn] at h;split at h
  ·rename_i r' hx;obtain ⟨c1,h1,h2⟩:=FT x cs r' hx;obtain ⟨c2,h3,h4⟩:=FU xs r' r h;exact ⟨c1++c2,by rw[h1,h3,zz0],fun w D E=>by simp only[aA];exact ⟨c1,c2,rfl,h2 w D E,h4 w D E⟩⟩
  ·cases h
end
def fm(P:Program)(t:TypeId):Option I :=
 match (P.info? t).bind (·.zero),xS P 12 t with
 |some z,some x=>match lY x z.cells.toList with
  |some []=>some x
  |_=>none
 |_,_=>none
theorem kj{P:Program}{t:TypeId}{x:I}(h:fm P t=some x):∃ i z,P.info? t=some i∧i.zero=some z∧∀ w D E,af w D E x z.cells.toList:=by
 unfold fm at h;split at h
 ·rename_i z x' hz hx;split at h
  ·rename_i hk;simp only[v6] at h;subst h;obtain ⟨i,hi,hz'⟩:=zw6.1 hz;obtain ⟨c1,h1,h2⟩:=FT _ _ _ hk;rw[zx9] at h1;exact ⟨i,z,hi,hz',fun w D E=>by rw[h1];exact h2 w D E⟩
  ·cases h
 ·cases h
def kN:Nat→List I→List (Nat×Nat)
 |_,[]=>[]
 |k,x::xs=>(k,x.size)::kN (k+x.size) xs
theorem C7:∀ (xs:List I) (k i:Nat),(kN k xs)[i]?=(xs[i]?).map fun x=>(k+I.sizes (xs.take i),x.size)
 | [],k,i=>by simp[kN]
 |x::xs,k,0=>by simp[kN,I.sizes]
 |x::xs,k,i+1=>by
  simp only[kN,List.getElem?_cons_succ,C7 xs,List.take_succ_cons,I.sizes];cases xs[i]? <;>simp;omega
def dZ (P : Program) (f : FuncId) : Bool := Nat.blt f 1000000 && (P.funcs[f]?).any fun fn => fn.name != "runtime.NumGoroutine" && fn.body.isSome
def kq(P:Program)(ps:List (Nat×Operand)):Option (List (Nat×ay)):=ps.mapM fun p=>(aU P 0 p.2).map fun x=>(p.1,x)
def ir(P:Program):Option Operand→Option (Option ay)
 |none=>some none
 |some x=>(aU P 0 x).map some
def jO(P:Program):List Operand→List TypeId→Option (List ay)
 | [],_=>some []
 |x::xs,ts=>match aU P (ts.headD 0) x,jO P xs ts.tail with
  |some y,some ys=>some (y::ys)
  |_,_=>none
def oW(P:Program):Nat→List Field→Bool
 |_,[]=>true
 |k,f::fs=>f.offset==k&&oW P (k+P.cellsOf f.type) fs
def fZ(P:Program):Nat→TypeId→Option cm
 |0,_=>none
 |d+1,t=>match P.underlying t with
  |some (.int k)=>some (.i k)
  |some .bool=>some .b
  |some .string=>some .s
  | some (.struct fs) => if P.stoodInHeld t = false ∧ (fs.toList.all fun f => f.name != "_") = true ∧ oW P 0 fs.toList = true then
    (fs.toList.mapM fun (f:Field)=>match fZ P d f.type with
     |some ty=>if ty.size=P.cellsOf f.type then some ty else none
     |none=>none).map .aV else none
  |some (.array n e)=>match fZ P d e with
   |some ty=>if ty.size=P.cellsOf e∧(P.info? e).isSome=true then some (.pO n ty) else none
   |none=>none
  |_=>none
def qk:Option TypeDesc→Bool
 |some (.int _)=>true
 |_=>false
def vM:cm→Bool
 | .i _=>true
 |_=>false
def jB(P:Program)(t:TypeId):Option cm:=match P.underlying t with
 |some (.int k)=>some (.i k)
 |some (.struct fs)=>match fZ P 12 t with
  |some (.aV l)=>if l.all vM=true∧(fs.all fun f=>qk (P.underlying f.type))=true then some (.aV l) else none
  |_=>none
 |_=>none
def tZ(P:Program)(t:TypeId)(z:I):Bool:=match (P.info? t).bind (·.zero) with
 |some (.agg _)=>z.isAgg
 |some _ => !z.isAgg
 |none=>false
def ub:Operand→Operand→Option Nat
 | .const (.int _ l),.const (.int _ c)=>if l=0∧0≤c∧c≤1000000 then some c.toNat else none
 |_,_=>none
theorem ZZ{x y:Operand}{m:Nat}(h:ub x y=some m):m≤1000000∧∃ k k',x=.const (.int k 0)∧y=.const (.int k' (m:Int)):=by
 unfold ub at h;split at h
 ·rename_i k l k' c;split at h
  ·rename_i hc;simp only[v6] at h;subst h;refine ⟨by omega,k,k',by rw[hc.1],?_⟩;rw[show ((c.toNat:Nat):Int)=c by omega]
  ·cases h
 ·cases h
def xh:Operand→Operand→Bool
 | .tmp a,.tmp b=>a==b
 |_,_=>false
theorem Y5{x y:Operand}(h:xh x y=true):y=x:=by
 unfold xh at h;split at h
 ·simp only[beq_iff_eq] at h;rw[h]
 ·cases h
def VN:Option TypeDesc→Bool
 |some .string=>true
 |_=>false
def An:Option TypeDesc→Bool
 |some (.interface _)=>false
 |some _=>true
 |none=>false
def cA(P:Program)(o:Oper):Option bt :=
 match o.op with
 | .move x | .assign x=>(aU P o.type x).map .mv
 | .pick c a b=>match aU P 0 c,aU P o.type a,aU P o.type b with
  |some c,some a,some b=>some (.pick c a b)
  |_,_,_=>none
 | .binOp op t x y _=>match P.underlying t,aU P 0 x,aU P 0 y with
  |some (.int _),some x,some y | some .string,some x,some y=>some (.bin op x y)
  |some (.slice _),some x,some y=>match y with
   | .c (.nils _)=>if op=.eql∨op=.neq then some (.nilS (op==.neq) x) else none
   |_=>none
  |some (.pointer _),some x,some y=>if op=.eql∨op=.neq then some (.ptrE (op==.neq) x y) else none
  |some (.interface _),some x,some y=>match y with
   | .c .cU=>if op=.eql∨op=.neq then some (.prim (.nf (op==.neq)) [x]) else none
   |_=>none
  |some _,some x,some y=>if (op=.eql∨op=.neq)∧P.eqGuardType P.depth t=false then (fZ P 12 t).map fun ty=>.eqv ty (op==.neq) x y else none
  |_,_,_=>none
 | .unOp op _ x=>(aU P 0 x).map (.un op)
 | .nilCheck x=>(aU P 0 x).map .nilC
 | .makeMap _ none=>some .kK
 | .lookup t m k ok=>match P.underlying t,aU P 0 m,aU P 0 k with
  |some (.map kt et),some m,some k=>match jB P kt,fm P et with
   |some ty,some z=>if tZ P et z=true then some (.lk ty z ok m k) else none
   |_,_=>none
  |_,_,_=>none
 | .mapUpdate t m k v | .insert t m k v=>match P.underlying t,aU P 0 m,aU P 0 k with
  |some (.map kt et),some m,some k=>match jB P kt,aU P et v with
   |some ty,some v=>some (.j4 ty m k v)
   |_,_=>none
  |_,_,_=>none
 | .makeSlice t l l'=>match P.underlying t,aU P 0 l with
  |some (.slice e),some n=>match fm P e with
   |some z=>if xh l l'=true∧z.size=1∧P.cellsOf e=1 then some (.jG e (P.bytesOf e) z n) else
    match ub l l' with
    |some m=>if m*P.bytesOf e≤281474976710656 then some (.jF e (P.cellsOf e)) else none
    |none=>none
   |none=>none
  |_,_=>none
 | .range t x=>match P.underlying t with
  |some (.map _ _)=>(aU P 0 x).map .kd
  |_=>none
 | .next x false=>(aU P 0 x).map .j5
 | .entry x=>(aU P 0 x).map .ent
 | .convert lV dst x=>match P.underlying lV,P.underlying dst,aU P 0 x with
  |some (.int _),some (.int k),some x=>some (.conv k x)
  |some (.slice e),some .string,some x=>match P.underlying e with
   |some (.int .u8)=>some (.b2s x)
   |_=>none
  |some .string,some (.slice e),some x=>match P.underlying e with
   |some (.int .u8)=>some (.eO x)
   |_=>none
  |_,_,_=>none
 | .load t x=>match fh P t,aU P 0 x with
  |some s,some x=>some (.ld s x)
  |_,_=>none
 | .fieldAddr t x f=>match P.underlying t,aU P 0 x with
  |some (.struct fs),some x=>match fs[f]? with
   |some fd=>if P.cellsOf fd.type=0 then none else some (.fa f fd.offset x)
   |none=>none
  |_,_=>none
 | .field t x f=>match P.underlying t,aU P 0 x with
  |some (.struct fs),some x=>match fs[f]? with
   |some fd=>(fh P fd.type).map fun s=>.fl f fd.offset s x
   |none=>none
  |_,_=>none
 | .indexAddr t x i=>match P.underlying t,aU P 0 x,aU P 0 i with
  |some (.array n e),some x,some i=>if (P.info? e).isSome then some (.ia n (P.cellsOf e) x i) else none
  |some (.slice e),some x,some i=>if (P.info? e).isSome then some (.is (P.cellsOf e) x i) else none
  |_,_,_=>none
 | .index t x i=>match P.underlying t,aU P 0 x,aU P 0 i with
  |some (.array n e),some x,some i=>(fh P e).map fun s=>.ix n (P.cellsOf e) s x i
  |some .string,some x,some i=>some (.prim .ea [x,i])
  |_,_,_=>none
 | .slice t x lo hi mx=>match P.underlying t,aU P 0 x with
  |some (.array n e),some x=>match lo,hi,mx with
   |none,none,none=>if (P.info? e).isSome then some (.va n (P.cellsOf e) x) else none
   |_,_,_=>none
  |some (.slice e),some x=>match ir P lo,ir P hi,ir P mx with
   |some lo,some hi,some mx=>if (mx.isSome=true→hi.isSome=true)∧(P.info? e).isSome=true then some (.sl (P.cellsOf e) x lo hi mx) else none
   |_,_,_=>none
  |some .string,some x=>match lo,hi,mx with
   |none,some hi,none=>(aU P 0 hi).map fun hi=>.prim (.ss false true) [x,hi]
   |some lo,none,none=>(aU P 0 lo).map fun lo=>.prim (.ss true false) [x,lo]
   |some lo,some hi,none=>match aU P 0 lo,aU P 0 hi with
    |some lo,some hi=>some (.prim (.ss true true) [x,lo,hi])
    |_,_=>none
   |_,_,_=>none
  |_,_=>none
 | .build t parts=>match fm P t,kq P parts.toList with
  |some (.agg zs),some ps=>match P.underlying t with
   |some (.struct fs)=>if (fs.toList.map fun f=>(f.offset,P.cellsOf f.type))=kN 0 zs∧(fs.all fun f=>(P.info? f.type).isSome)=true then some (.bld zs ps) else none
   |some (.array n e)=>if zs.length=n∧(zs.all fun z=>z.size==P.cellsOf e)=true∧(P.info? e).isSome=true then some (.bld zs ps) else none
   |_=>none
  |_,_=>none
 | .buildSlice t len parts=>match P.underlying t with
  |some (.slice e)=>match kq P parts.toList with
   |some ps=>if len=0∧parts = #[]∧(P.info? e).isSome=true then some (.bs0 (P.cellsOf e)) else if ps.map (·.1)=List.range len∧0<P.cellsOf e∧0<len∧len*P.cellsOf e≤16777216∧((P.info? e).bind (·.zero)).isSome=true then some (.bs e (P.cellsOf e) (ps.map (·.2))) else none
   |none=>none
  |_=>none
 | .extract x i=>(aU P 0 x).map fun x=>.ext x i
 | .makeFunc (.func f) first caps=>if f<1000000 then (if first.isEmpty then (jO P caps.toList []).map (.mk f) else if caps.isEmpty then (jO P first.toList []).map (.mk (f+1000000)) else none) else none
 | .alloc t=>(fm P t).map .alloc
 | .box t x=>(aU P t x).map .box
 | .store t x v=>match fh P t,aU P 0 x,aU P t v with
  |some s,some x,some v=>if s.isSome=true∨P.cellsOf t=1 then some (.aV s x v) else none
  |_,_,_=>none
 | .call { callee:=.value (.func f),args,argTypes } =>if dZ P f then (jO P args.toList argTypes.toList).map (.call f) else (jO P args.toList argTypes.toList).map (.gW f)
 | .call { callee:=.value x,args,argTypes } =>match aU P 0 x,jO P args.toList argTypes.toList with
  |some x,some args=>some (.fq x args)
  |_,_=>none
 | .call { callee:=.builtin .len,args,argTypes } =>match args.toList,argTypes.toList with
  | [x],[t]=>match P.underlying t with
   |some (.slice _)=>(aU P t x).map .len
   |some .string=>(aU P t x).map .lenT
   |_=>none
  |_,_=>none
 | .call { callee:=.builtin .append,args,argTypes } =>match args.toList,argTypes.toList with
  | [s,x],[t,t']=>match P.underlying t,aU P t s,aU P t' x with
   |some (.slice e),some s,some x=>if t=t'∧0<P.cellsOf e∧(fm P e).map I.size=some (P.cellsOf e) then (fm P e).map fun z=>.dM e (P.cellsOf e) (P.bytesOf e) z s x else
    if qk (P.underlying t')=true∧0<P.cellsOf e∧(fm P e).map I.size=some (P.cellsOf e) then (fm P e).map fun z=>.jM e (P.cellsOf e) (P.bytesOf e) z s x else none
   |_,_,_=>none
  |_,_=>none
 | .call { callee:=.builtin .cap,args,argTypes } =>match args.toList,argTypes.toList with
  | [x],[t]=>match P.underlying t with
   |some (.slice _)=>(aU P t x).map .cap
   |_=>none
  |_,_=>none
 | .call { callee:=.builtin .clear,args,argTypes } =>match args.toList,argTypes.toList with
  | [x],[t]=>match P.underlying t,aU P t x with
   |some (.slice e),some x=>(fm P e).map fun z=>.jv (P.cellsOf e) z x
   |_,_=>none
  |_,_=>none
 | .call { callee:=.builtin .copy,args,argTypes } =>match args.toList,argTypes.toList with
  | [x,y],[t,t']=>match P.underlying t,aU P t x,aU P t' y with
   |some (.slice e),some x,some y=>if (t=t'∨VN (P.underlying t')=true)∧(P.info? e).isSome=true then some (.gx (P.cellsOf e) x y) else none
   |_,_,_=>none
  |_,_=>none
 | .call { callee:=.builtin .delete,args,argTypes } =>match args.toList,argTypes.toList with
  | [m,k],[t,_]=>match P.underlying t,aU P 0 m,aU P 0 k with
   |some (.map kt _),some m,some k=>(jB P kt).map fun ty=>.lF ty m k
   |_,_,_=>none
  |_,_=>none
 | .call { callee:=.builtin .max,args,.. } =>match args.toList with
  | [x,y]=>match aU P 0 x,aU P 0 y with
   |some x,some y=>some (.max2 x y)
   |_,_=>none
  |_=>none
 | .call { callee:=.builtin .min,args,.. } =>match args.toList with
  | [x,y]=>match aU P 0 x,aU P 0 y with
   |some x,some y=>some (.prim .min2 [x,y])
   |_,_=>none
  |_=>none
 | .makeInterface t x=>if An (P.underlying t)=true then (aU P t x).map fun x=>.prim (.mi t) [x] else none
 | .panic x=>(aU P 0 x).map fun x=>.prim .kM [x]
 |_=>none
def cM(c:ct)(A:ae)(o:Oper)(x:I):Prop :=
 ∀ a w D E,aM c A a w D E→∃ v w' D',(execOp a.eval o).run c.P w=.ok (.value v) w'∧aM c A a w' D' E∧aR w' D' E x v
section
variable {c:ct} {A:ae} {o:Oper} {x:I}
theorem cM.same(h:∀ a w D E,aM c A a w D E→∃ v,(execOp a.eval o).run c.P w=.ok (.value v) w∧aR w D E x v):cM c A o x :=
 fun a w D E hs=>let ⟨v,h1,h2⟩:=h a w D E hs;⟨v,w,D,h1,hs,h2⟩
theorem BF{y:Operand}{z:ay}(ho:o.op=.move y∨o.op=.assign y)(hz:aU c.P o.type y=some z):cM c A o (ah A z) :=
 .same fun a w D E hs=>⟨a.eval y,by rcases ho with ho | ho <;>simp[execOp,ho],bn hs hz⟩
theorem Vo{q y z:Operand}{q' y' z':ay}{t:Bool}(ho:o.op=.pick q y z)(hq:aU c.P 0 q=some q')(hy:aU c.P o.type y=some y')(hz:aU c.P o.type z=some z')
  (ht:ah A q'=.bool t):cM c A o (if t then ah A y' else ah A z') :=
 .same fun a w D E hs=>by
  have h1:=bn hs hq;rw[ht] at h1;have h2:=kS h1;refine ⟨if t then a.eval y else a.eval z,by cases t <;>simp[execOp,ho,h2,asBool],?_⟩;cases t
  ·exact bn hs hz
  ·exact bn hs hy
theorem w7{P:Program}{w:World}(op:BinOp)(t:TypeId)(x y:Operand){u v:Value}(hu:u.oneCell'=true)(hn:u≠.nilIface):(eqGuard op t x y u v).run P w=.ok () w:=by
 cases op <;>cases u <;>simp[Value.oneCell'] at hu <;>first | (exact absurd rfl hn) | (cases v <;>simp[eqGuard])
theorem GJ{op:BinOp}{x y z:I}(h:bG op x y=some z){P:Program}{t:TypeId}{w:World}{D:aH}{E:aN}{u v:Value}(hx:aR w D E x u)(hy:aR w D E y v)(xo yo:Operand) :
  ∃ r,(do eqGuard op t xo yo u v;binOp op t u v:Sem Value).run P w=.ok r w∧aR w D E z r:=by
 unfold bG at h;split at h
 ·rename_i k a k' b;obtain ⟨rfl,ha⟩:=dB hx;obtain ⟨rfl,hb⟩:=dB hy;have hg:∀ op,(eqGuard op t xo yo (.int k a) (.int k' b)).run P w=.ok () w:=fun op=>w7 op t xo yo rfl (by simp);simp only[Sem.run_bind,hg,Result.andThen_ok];split at h
  ·split at h
   ·rename_i hb0;simp only[v6] at h;subst h;have:¬ b<0:=by omega
    exact ⟨_,by simp[binOp,Op.shift,this],iy (pz _ _)⟩
   ·cases h
  ·split at h
   ·rename_i hb0;simp only[v6] at h;subst h;have:¬ b<0:=by omega
    exact ⟨_,by simp[binOp,Op.shift,this],iy (MO _ _ _ ha)⟩
   ·cases h
  ·rename_i op h1 h2;split at h
   ·rename_i hk;subst hk;split at h <;>first
     |(simp at h;done)
     |(simp only[v6] at h;subst h;exact ⟨_,by simp[binOp,Op.intArith,Op.intBits,Op.intCmp],iy (pz _ _)⟩)
     |(simp only[v6] at h;subst h;exact ⟨_,by simp[binOp,Op.intCmp],kJ _⟩)
     |(split at h
       ·cases h
       ·rename_i hb0;simp only[v6] at h;subst h
        first
         |exact ⟨_,by simp[binOp,Op.intDiv,hb0],iy (pz _ _)⟩
         |exact ⟨_,by simp[binOp,Op.intDiv,hb0],iy (ZE _ _ _ ha)⟩)
   ·cases h
 ·rename_i s s';obtain ⟨rfl,hs1⟩:=gn hx;obtain ⟨rfl,hs2⟩:=gn hy;have hg:∀ op,(eqGuard op t xo yo (.string s) (.string s')).run P w=.ok () w:=fun op=>w7 op t xo yo rfl (by simp);simp only[Sem.run_bind,hg,Result.andThen_ok];split at h <;>first
   |(simp at h;done)
   |(simp only[v6] at h;subst h;exact ⟨_,by simp[binOp,Op.stringOp],kJ _⟩)
   |(split at h
     ·rename_i hl;simp only[v6] at h;subst h;have hl':¬ (((s.size+s'.size:Nat):Int)>IntKind.i64.max):=by
       have e:IntKind.i64.max=9223372036854775807:=by simp[IntKind.max,IntKind.bits,IntKind.signed]
       rw[e];omega
      refine ⟨.string (s++s'),by simp only[binOp,Op.stringOp,if_neg hl',Sem.run_pure],?_⟩;exact ⟨_,by simp[ba,I.isAgg];rfl,by simp only[af,true_and];rw[ByteArray.size_append];unfold maxLen;omega⟩
     ·cases h)
 ·cases h
theorem BD{op:BinOp}{t yt:TypeId}{y z:Operand}{y' z':ay}(ho:o.op=.binOp op t y z yt)(hy:aU c.P 0 y=some y')(hz:aU c.P 0 z=some z')(h:bG op (ah A y') (ah A z')=some x):cM c A o x :=
 .same fun a w D E hs=>by
  obtain ⟨r,h1,h2⟩:=GJ h (P:=c.P) (t:=t) (bn hs hy) (bn hs hz) y z;exact ⟨r,by simp only[execOp,ho,Sem.run_bind] at *;rw[h1];rfl,h2⟩
theorem Vn{t:TypeId}{y:Operand}{y':ay}{b:Bool}(ho:o.op=.unOp .not t y)(hy:aU c.P 0 y=some y')(h:ah A y'=.bool b):cM c A o (.bool !b) :=
 .same fun a w D E hs=>by
  have h1:=bn hs hy;rw[h] at h1;exact ⟨.bool !b,by simp[execOp,ho,kS h1,Op.unary],kJ _⟩
theorem Vl{t:TypeId}{y:Operand}{y':ay}{k:IntKind}{n:Int}(ho:o.op=.unOp .neg t y)(hy:aU c.P 0 y=some y')(h:ah A y'=.int k n):cM c A o (.int k (k.wrap (0-n))) :=
 .same fun a w D E hs=>by
  have h1:=bn hs hy;rw[h] at h1;exact ⟨.int k (k.wrap (0-n)),by simp[execOp,ho,(dB h1).1,Op.unary,Op.intArith],iy (pz _ _)⟩
theorem UY{t:TypeId}{y:Operand}{y':ay}{k:IntKind}{n:Int}(ho:o.op=.unOp .xor t y)(hy:aU c.P 0 y=some y')(h:ah A y'=.int k n):cM c A o (.int k (oo k n)) :=
 .same fun a w D E hs=>by
  have h1:=bn hs hy;rw[h] at h1;exact ⟨.int k (oo k n),by simp[execOp,ho,(dB h1).1,Op.unary,Op.intBits,oo],iy (pz _ _)⟩
theorem UX{lV dst:TypeId}{y:Operand}{y':ay}{k k0 k1:IntKind}{n:Int}(ho:o.op=.convert lV dst y)(h1:c.P.underlying lV=some (.int k0))(h2:c.P.underlying dst=some (.int k))
  (hy:aU c.P 0 y=some y') (h:ah A y'=.int k1 n):cM c A o (.int k (k.wrap n)) :=
 .same fun a w D E hs=>by
  have h3:=bn hs hy;rw[h] at h3;exact ⟨.int k (k.wrap n),by simp[execOp,ho,(dB h3).1,convert,run_underlying h1,run_underlying h2,Conv.intToInt],iy (pz _ _)⟩
theorem U4{y:Operand}{y':ay}{i:Nat}{fs:List I}(ho:o.op=.extract y i)(hy:aU c.P 0 y=some y')(h:ah A y'=.tuple fs)(hi:fs[i]?=some x):cM c A o x :=
 .same fun a w D E hs=>by
  have h3:=bn hs hy;rw[h] at h3;obtain ⟨vs,h4,h5⟩:=h3;have:∀ (fs:List I) (vs:List Value) (i:Nat),ao w D E fs vs→fs[i]?=some x→∃ v,vs[i]?=some v∧aR w D E x v:=by
   intro fs
   induction fs with
   |nil=>intro vs i _ hi;simp at hi
   |cons f fs ih =>
    intro vs i hr hi;simp only[ao] at hr;obtain ⟨v,rest,cs,rfl,k1,k2,k3⟩:=hr;cases i with
    |zero =>
     simp only[List.getElem?_cons_zero,v6] at hi ⊢;subst hi;refine ⟨v,rfl,?_⟩;cases f <;>simp only[aR] <;>first | (simp only[af] at k2;done) | exact ⟨cs,k1,k2⟩
    |succ i=>simpa using ih rest i k3 (by simpa using hi)
  obtain ⟨v,h6,h7⟩:=this fs vs i h5 hi;exact ⟨v,by simp[execOp,ho,h4,Instr.extract,h6],h7⟩
theorem fG{w:World}{D:aH}{E:aN}{x:I}{v:Value}{cs:List Value}(h1:ba x v cs)(h2:af w D E x cs):aR w D E x v:=by
 cases x <;>simp only[aR] <;>first | (simp only[af] at h2;done) | exact ⟨cs,h1,h2⟩
theorem EN{P:Program}{w:World}{t:TypeId}{s:Option Nat}(h:fh P t=some s):(isAgg t).run P w=.ok s.isSome w:=by
 unfold fh at h;unfold isAgg;cases hu:P.underlying t with
 |none=>simp[hu] at h
 |some d =>
  rw[Sem.run_bind,run_underlying hu w];cases d <;>simp_all <;>(subst h;rfl)
theorem vT{P:Program}{t:TypeId}{n:Nat}(h:fh P t=some (some n)):n=P.cellsOf t:=by
 unfold fh at h;split at h <;>simp_all
theorem vK{P:Program}{t:TypeId}{d:TypeDesc}(h:P.underlying t=some d):∃ i,P.info? t=some i:=by
 unfold Program.underlying at h;cases hi:P.info? t with
 |none=>simp[hi] at h
 |some i=>exact ⟨i,rfl⟩
theorem gT{P:Program}{w:World}{t:TypeId}{i:TypeInfo}(h:P.info? t=some i):(sizeOf t).run P w=.ok (P.cellsOf t) w:=by
 simp[sizeOf,typeInfo,h,Program.cellsOf]
theorem sB{P:Program}{t:TypeId}{s:Option Nat}(h:fh P t=some s):∃ i,P.info? t=some i:=by
 unfold fh at h;split at h
 ·rename_i fs hu;exact vK hu
 ·rename_i n e hu;exact vK hu
 ·rename_i d _ _ hu;exact vK hu
 ·cases h
theorem l8(b off j:Nat):(⟨b,off,none⟩:Addr).add j=⟨b,off+j,none⟩:=by unfold Addr.add;split <;>simp_all
theorem EO{P:Program}{w:World}{D:aH}{E:aN}{t:TypeId}{s:Option Nat}{b off:Nat}{cs:List Value}{y:I}(hk:fh P t=some s)(hok:bN s y=true)
  (hcs:∀ j u,cs[j]?=some u→w.cell? ⟨b,off+j,none⟩=some u) (hy:af w D E y cs):∃ v,(loadVar t ⟨b,off,none⟩).run P w=.ok v w∧aR w D E y v:=by
 have hag:=EN (w:=w) hk;cases s with
 |none =>
  simp only[bN,Bool.not_eq_true'] at hok;have hl:=af.length _ _ hy;have hsz:y.size=1:=by cases y <;>simp_all[I.isAgg,I.size]
  rw[hsz] at hl
  match cs,hl with
  | [v],_ =>
   have:=hcs 0 v rfl;rw[Nat.add_zero] at this;refine ⟨v,?_,Cw hok hy⟩;simp only[loadVar,Sem.run_bind,hag,Result.andThen_ok,Option.isSome_none,zz3,if_false,run_load,this]
 |some n =>
  simp only[bN,Z7,beq_iff_eq] at hok;obtain ⟨hag',hsz⟩:=hok;have hn:=vT hk;obtain ⟨i,hi⟩:=sB hk;have hl:=af.length _ _ hy;refine ⟨.agg cs.toArray,?_,fG (by simp[ba,hag']) hy⟩;have hlc:=run_loadCells_list (P:=P) w ⟨b,off,none⟩ cs (fun j u hj=>by rw[l8];exact hcs j u hj);rw[hl,hsz,hn] at hlc;simp only[loadVar,Sem.run_bind,hag,Result.andThen_ok,Option.isSome_some,if_true,gT hi,hlc,Sem.run_pure]
theorem Ve{t:TypeId}{y:Operand}{y':ay}{s:Option Nat}(ho:o.op=.load t y)(hk:fh c.P t=some s)(hy:aU c.P 0 y=some y')(h:bT A (ah A y')=some x)(hok:bN s x=true):cM c A o x :=
 .same fun a w D E hs=>by
  obtain ⟨b,off,cs,h1,h2,h3⟩:=hs.yN (bn hs hy) h;obtain ⟨v,h4,h5⟩:=EO hk hok h2 h3;exact ⟨v,by simp[execOp,ho,Instr.loadAt,h1,Instr.sureAddr,h4],h5⟩
theorem tu{w:World}{D:aH}{b off:Nat}{c1 c2 c3:List Value}(h:reads w D b off (c1++c2++c3)):reads w D b (off+c1.length) c2:=by
 intro j v hj;have hjl:j<c2.length:=(zz6.1 hj).1;have:=h (c1.length+j) v (by rw[zz0,zw3 (by omega),Nat.add_sub_cancel_left,zy6 (by omega)];exact hj)
 rwa [←Nat.add_assoc] at this
theorem bP.s9:∀ (p:List Nat) (s:bP) (o i:Nat) (l:List bP),s.off p=some o→s.part p=some (.eE l)→i<l.length→s.off (p++[i])=some (o+bP.sizes (l.take i))
 | [],s,o,i,l,h1,h2,h3=>by
  simp only[bP.part,v6] at h2;subst h2;simp only[bP.off,v6] at h1;subst h1;simp[bP.off,zy0 h3]
 |k::p,.one,o,i,l,h1,h2,h3=>by simp[bP.part] at h2
 |k::p,.eE m,o,i,l,h1,h2,h3=>by
  simp only[bP.off,bP.part,zz8] at *;cases hk:m[k]? with
  |none=>simp[hk] at h2
  |some s =>
   simp only[hk] at h1 h2 ⊢;simp only[t7] at h1;obtain ⟨o',h4,rfl⟩:=h1;rw[bP.s9 p s o' i l h4 h2 h3];simp[Nat.add_assoc]
theorem nI{esz:Nat} : ∀ (fs:List I) (k:Nat),(∀ f∈fs,f.size=esz)→k≤fs.length→I.sizes (fs.take k)=k*esz:=by
 intro fs k h hk;rw[I.gF _ (fun x hx=>h x (zw5 hx))];simp[Nat.min_eq_left hk]
theorem p7{n esz:Nat}{fs:List I}(h:gz n esz fs=true):fs.length=n∧∀ f∈fs,f.size=esz:=by
 simp only[gz,Z7,beq_iff_eq,zx8] at h;exact h
theorem EL{P:Program}{w:World}{t:TypeId}{f b off:Nat}{fs:Array Field}{fd:Field}(hu:P.underlying t=some (.struct fs))(hf:fs[f]?=some fd)(hz:¬ P.cellsOf fd.type=0) :
  (Instr.fieldAt t (.pointer (some ⟨b,off,none⟩)) f).run P w=.ok (.pointer (some ⟨b,off+fd.offset,none⟩)) w:=by
 have hi:∃ i,P.info? fd.type=some i:=by
  cases h:P.info? fd.type with
  |none=>simp[Program.cellsOf,h] at hz
  |some i=>exact ⟨i,rfl⟩
 obtain ⟨i,hi⟩:=hi;simp only[Instr.fieldAt,Sem.run_bind,run_underlying hu,Result.andThen_ok,hf,Instr.sureAddr,Sem.run_pure,fieldPlace,gT hi,Sem.run_ite,if_neg hz,l8]
theorem U6{t:TypeId}{y:Operand}{y':ay}{f:Nat}{fs:Array Field}{fd:Field}{gs:List I}(ho:o.op=.fieldAddr t y f)(hu:c.P.underlying t=some (.struct fs))(hf:fs[f]?=some fd)(hz:¬ c.P.cellsOf fd.type=0)
  (hy:aU c.P 0 y=some y') (h:ah A y'=.ref (.agg gs)) (hx:gs[f]?=some x) (hoff:I.sizes (gs.take f)=fd.offset):cM c A o (.ref x) :=
 .same fun a w D E hs=>by
  have h1:=bn hs hy;rw[h] at h1;obtain ⟨b,off,cs,h2,h3,h4⟩:=pd h1;simp only[af] at h4;obtain ⟨c1,c2,c3,rfl,k1,_,k2,_⟩:=lI gs cs f x h4 hx;refine ⟨_,by simp only[execOp,ho,h2,Sem.run_bind,EL hu hf hz];rfl,sP (cs:=c2) ?_ k2⟩;rw[←hoff,←k1];exact tu h3
theorem U5{t:TypeId}{y:Operand}{y':ay}{f n:Nat}{p:List Nat}{fs:Array Field}{fd:Field}{gs:List I}(ho:o.op=.fieldAddr t y f)(hu:c.P.underlying t=some (.struct fs))(hf:fs[f]?=some fd)(hz:¬ c.P.cellsOf fd.type=0)
  (hy:aU c.P 0 y=some y') (h:ah A y'=.ptr n p) (hd:bT A (.ptr n p)=some (.agg gs)) (hl:f<gs.length) (hoff:I.sizes (gs.take f)=fd.offset):cM c A o (.ptr n (p++[f])) :=
 .same fun a w D E hs=>by
  have h1:=bn hs hy;rw[h] at h1;obtain ⟨b,aL,off,h2,h3,h4⟩:=kT h1;obtain ⟨z,b',cs,T,off',c1,c2,c3,k1,k2,_,k3,k4,k5,k6,k7,k8,k9,_⟩:=hs.at hd;rw[k2] at h2;simp only[v6,bw.aE.injEq] at h2;obtain ⟨rfl,rfl⟩:=h2;refine ⟨_,by simp only[execOp,ho,h4,Sem.run_bind,EL hu hf hz];rfl,?_⟩;refine ⟨_,by simp[ba,I.isAgg];rfl,?_⟩;simp only[af];refine ⟨b',z.aL,off+fd.offset,k2,?_,rfl⟩;rw[bP.s9 p z.aL off f _ h3 (lS p z _ k4) (by rw[I.cL];simpa using hl),I.cL,←List.map_take,←I.cL,I.lT,hoff]
theorem EM{P:Program}{w:World}{t e:TypeId}{n b off:Nat}{kk:IntKind}{k:Int}{i:TypeInfo}(hu:P.underlying t=some (.array n e))(hi:P.info? e=some i)(hk:0≤k∧k<n) :
  (Instr.indexAt t (.pointer (some ⟨b,off,none⟩)) (.int kk k)).run P w=.ok (.pointer (some ⟨b,off+k.toNat*P.cellsOf e,none⟩)) w:=by
 simp[Instr.indexAt,asIntOf,run_underlying hu,Instr.sureAddr,hk,gT hi,l8]
theorem w8{P:Program}{w:World}{t e:TypeId}{n b off cap:Nat}{kk:IntKind}{k:Int}{i:TypeInfo}(hu:P.underlying t=some (.slice e))(hi:P.info? e=some i)(hk:0≤k∧k<n) :
  (Instr.indexAt t (.slice (some ⟨b,off,none⟩) n cap) (.int kk k)).run P w=.ok (.pointer (some ⟨b,off+k.toNat*P.cellsOf e,none⟩)) w:=by
 simp[Instr.indexAt,asIntOf,run_underlying hu,hk,gT hi,l8]
theorem U9{t e:TypeId}{y z:Operand}{y' z':ay}{n:Nat}{i:TypeInfo}{gs:List I}{kk:IntKind}{k:Int}(ho:o.op=.indexAddr t y z)(hu:c.P.underlying t=some (.array n e))(hi:c.P.info? e=some i)
  (hy:aU c.P 0 y=some y') (hz:aU c.P 0 z=some z') (h:ah A y'=.ref (.agg gs)) (h':ah A z'=.int kk k) (hk:0≤k∧k<n) (hev:gz n (c.P.cellsOf e) gs=true) (hx:gs[k.toNat]?=some x):cM c A o (.ref x) :=
 .same fun a w D E hs=>by
  have h1:=bn hs hy;rw[h] at h1;have h1':=bn hs hz;rw[h'] at h1';obtain ⟨b,off,cs,h2,h3,h4⟩:=pd h1;simp only[af] at h4;obtain ⟨c1,c2,c3,rfl,k1,_,k2,_⟩:=lI gs cs k.toNat x h4 hx;obtain ⟨e1,e2⟩:=p7 hev;have hl:k.toNat<gs.length:=(zz6.1 hx).1;refine ⟨_,by simp only[execOp,ho,h2,(dB h1').1,Sem.run_bind,EM hu hi hk];rfl,sP (cs:=c2) ?_ k2⟩;rw[←nI gs k.toNat e2 (by omega),←k1];exact tu h3
theorem U8{t e:TypeId}{y z:Operand}{y' z':ay}{n m:Nat}{p:List Nat}{i:TypeInfo}{gs:List I}{kk:IntKind}{k:Int}(ho:o.op=.indexAddr t y z)(hu:c.P.underlying t=some (.array n e))(hi:c.P.info? e=some i)
  (hy:aU c.P 0 y=some y') (hz:aU c.P 0 z=some z') (h:ah A y'=.ptr m p) (h':ah A z'=.int kk k) (hk:0≤k∧k<n) (hd:bT A (.ptr m p)=some (.agg gs)) (hev:gz n (c.P.cellsOf e) gs=true):cM c A o (.ptr m (p++[k.toNat])) :=
 .same fun a w D E hs=>by
  have h1:=bn hs hy;rw[h] at h1;have h1':=bn hs hz;rw[h'] at h1';obtain ⟨b,aL,off,h2,h3,h4⟩:=kT h1;obtain ⟨zz,b',cs,T,off',c1,c2,c3,k1,k2,_,k3,k4,k5,k6,k7,k8,k9,_⟩:=hs.at hd;rw[k2] at h2;simp only[v6,bw.aE.injEq] at h2;obtain ⟨rfl,rfl⟩:=h2;obtain ⟨e1,e2⟩:=p7 hev;have hl:k.toNat<gs.length:=by omega
  refine ⟨_,by simp only[execOp,ho,h4,(dB h1').1,Sem.run_bind,EM hu hi hk];rfl,?_⟩;refine ⟨_,by simp[ba,I.isAgg];rfl,?_⟩;simp only[af];refine ⟨b',zz.aL,off+k.toNat*c.P.cellsOf e,k2,?_,rfl⟩;rw[bP.s9 p zz.aL off k.toNat _ h3 (lS p zz _ k4) (by rw[I.cL];simpa using hl),I.cL,←List.map_take,←I.cL,I.lT,nI gs _ e2 (by omega)]
theorem u9{w:World}{D:aH}{E:aN}{b off sz k:Nat}{cs:List Value}{es:List I}{x:I}(h1:reads w D b off cs)(h2:aA w D E es cs)(h3:∀ e∈es,e.size=sz)(hx:es[k]?=some x) :
  ∃ c2,reads w D b (off+k*sz) c2∧af w D E x c2:=by
 obtain ⟨c1,c2,c3,rfl,k1,_,k2,_⟩:=lI es cs k x h2 hx;have hl:k<es.length:=(zz6.1 hx).1;refine ⟨c2,?_,k2⟩;rw[←nI es k h3 (by omega),←k1];exact tu h1
theorem Va{t e:TypeId}{y z:Operand}{y' z':ay}{i:TypeInfo}{es:List I}{kk:IntKind}{k:Int}(ho:o.op=.indexAddr t y z)(hu:c.P.underlying t=some (.slice e))(hi:c.P.info? e=some i)
  (hy:aU c.P 0 y=some y') (hz:aU c.P 0 z=some z') (h:ah A y'=.slice (c.P.cellsOf e) es) (h':ah A z'=.int kk k) (hk:0≤k∧k<es.length) (hx:es[k.toNat]?=some x):cM c A o (.ref x) :=
 .same fun a w D E hs=>by
  have h1:=bn hs hy;rw[h] at h1;have h1':=bn hs hz;rw[h'] at h1';obtain ⟨ad,cap,rfl',h2,h3,h4,h5⟩:=kU h1;rcases h4 with h4 | ⟨b,off,cs,rfl,h6,h7⟩
  ·subst h4;simp at hx
  obtain ⟨c2,k1,k2⟩:=u9 h6 h7 h5 hx;exact ⟨_,by simp only[execOp,ho,rfl',(dB h1').1,Sem.run_bind,w8 hu hi hk];rfl,sP k1 k2⟩
theorem aM.Zh{a:Act}{w:World}{D:aH}{E:aN}(h:aM c A a w D E){n sz b cap:Nat}{T:TypeId}{es:List I}(hn:A.o n=some (.bF T sz es))(aq:E n=some (.rw (some (b,cap)) es.length)) :
  aM c A a w (fun b' o=>D b' o∨(b'=b∧o<es.length*sz)) E:=by
 have hrow:=h.bF hn;obtain ⟨aB,k1,k2,k3⟩:=hrow;rw[aq] at k1;simp only[v6,bw.rw.injEq,and_true] at k1;subst k1;obtain ⟨cs,pre,rest,k4,k5,k6,k7,k8,k9,k10,k11⟩:=k3;refine h.FP (fun _ _ hd=>.inl hd) ?_ ?_ ?_ ?_ ?_ ?_
 ·rintro b' o (hd | ⟨rfl,_⟩) hlt
  ·exact h.cO _ _ hd hlt
  ·exact absurd k4 hlt
 ·rintro b' o (hd | ⟨rfl,_⟩)
  ·exact h.cS _ _ hd
  ·exact eR k5
 ·rintro m x b' hm hEm o (hd | ⟨rfl,_⟩)
  ·obtain ⟨b2,cs2,T2,q1,q2,q3,q4,q5⟩:=h.box hm;rw[q1] at hEm;simp only[v6,bw.aE.injEq,and_true] at hEm;subst hEm;exact q5 o hd
  ·have:=h.cD m n _ _ b' hEm aq rfl rfl;subst this;rw[hm] at hn;cases hn
 ·rintro m T' sz' es' b' cap' hm hEm o (hd | ⟨rfl,ho⟩)
  ·obtain ⟨aB,q1,q2,q3⟩:=h.bF hm;rw[hEm] at q1;simp only[v6,bw.rw.injEq,and_true] at q1;subst q1;obtain ⟨cs',pre',rest',q4,q5,q6,q7,q8,q9,q10,q11⟩:=q3;have:=q11 o hd
   rwa [aA.length _ _ q7,I.gF _ q2] at this
  ·have:=h.cD m n _ _ b' hEm aq rfl rfl;subst this;rw[hm] at hn;simp only[v6,aj.bF.injEq] at hn;obtain ⟨rfl,rfl,rfl⟩:=hn;exact ho
 ·rintro m T' xs b' cap' hm hEm o (hd | ⟨rfl,ho⟩)
  ·obtain ⟨aB,q1,_,q3⟩:=h.xK hm;rw[hEm] at q1;simp only[v6,bw.rw.injEq,and_true] at q1;subst q1;obtain ⟨_,_,_,_,_,_,_,_,q4⟩:=q3;exact q4 o hd
  ·have:=h.cD m n _ _ b' hEm aq rfl rfl;subst this;rw[hm] at hn;cases hn
 ·rintro m e' b' hE' hoth hblk o (hd | ⟨rfl,_⟩)
  ·exact h.wH hE' hoth hblk o hd
  ·have:=h.cD m n _ _ b' hE' aq hblk rfl;subst this;rw[hE'] at aq;cases aq;cases hoth
theorem aM.own{a:Act}{w:World}{D:aH}{E:aN}(h:aM c A a w D E){n sz:Nat}{T:TypeId}{es:List I}{v:Value}(hn:A.o n=some (.bF T sz es))(ab:aR w D E (.own n es.length) v) :
  (es=[]∧E n=some (.rw none 0)∧v=.slice none 0 0) ∨
  ∃ b cap cs pre rest,E n=some (.rw (some (b,cap)) es.length)∧v=.slice (some ⟨b,0,none⟩) es.length cap∧c.eA b∧w.heap[b]?=some (.cells cs T (0,0))∧cs.toList=pre++rest ∧
   aA w D E es pre∧cs.size=cap*sz∧es.length≤cap∧cap≤maxLen∧(∀ o,D b o→o<pre.length):=by
 obtain ⟨cs0,h1,h2⟩:=ab;simp only[af] at h2;obtain ⟨aB,l,h3,h4,_,h5⟩:=h2;obtain ⟨blk',k1,k2,k3⟩:=h.bF hn;rw[k1] at h3;simp only[v6,bw.rw.injEq] at h3;obtain ⟨rfl,rfl⟩:=h3;have h5:=h5 rfl;cases blk' with
 |none =>
  simp only at k3 h5;subst k3;exact .inl ⟨rfl,k1,by simpa[ba,I.isAgg,h5] using h1.symm⟩
 |some bc =>
  obtain ⟨b,cap⟩:=bc;simp only at h5;obtain ⟨cs,pre,rest,k4,k5,k6,k7,k8,k9,k10,k11⟩:=k3;exact .inr ⟨b,cap,cs,pre,rest,k1,by simpa[ba,I.isAgg,h5] using h1.symm,k4,k5,k6,k7,k8,k9,k10,k11⟩
theorem Vb{t e:TypeId}{y z:Operand}{y' z':ay}{i:TypeInfo}{es:List I}{n:Nat}{kk:IntKind}{k:Int}(ho:o.op=.indexAddr t y z)(hu:c.P.underlying t=some (.slice e))(hi:c.P.info? e=some i)
  (hy:aU c.P 0 y=some y') (hz:aU c.P 0 z=some z') (h:ah A y'=.own n es.length) {T:TypeId} (hn:A.o n=some (.bF T (c.P.cellsOf e) es)) (h':ah A z'=.int kk k) (hk:0≤k∧k<es.length) (hx:es[k.toNat]?=some x):cM c A o (.ref x):=by
 intro a w D E hs;have h1:=bn hs hy;rw[h] at h1;have h1':=bn hs hz;rw[h'] at h1';rcases hs.own hn h1 with ⟨rfl,_⟩ | ⟨b,cap,cs,pre,rest,k1,k2,k3,k4,k5,k6,k7,k8,k9,k10⟩
 ·simp at hx
 ·have hs':=hs.Zh hn k1;obtain ⟨aB,q1,q2,_⟩:=hs.bF hn;have hpl:pre.length=es.length*c.P.cellsOf e:=by rw[aA.length _ _ k6,I.gF _ q2]
  have hr:reads w (fun b' o=>D b' o∨(b'=b∧o<es.length*c.P.cellsOf e)) b 0 pre:=by
   have:=tr (D:=fun b' o=>D b' o∨(b'=b∧o<es.length*c.P.cellsOf e)) (c1:=[]) k4 (by simpa using k5) (fun o ho=>.inr ⟨rfl,by simp at ho;omega⟩);simpa using this
  have hrc:aA w (fun b' o=>D b' o∨(b'=b∧o<es.length*c.P.cellsOf e)) E es pre :=
   aA.later ⟨fun _ _ hd=>.inl hd,fun _ _ _ _ h=>h,fun _ _ _ h=>h,fun _ aB l h=>⟨aB,l,h,zz2 _,fun _=>rfl⟩,fun _ _ h=>h,fun _ _ h=>h,fun _ _ _ _ h=>h⟩ es pre k6
  obtain ⟨c2,q3,q4⟩:=u9 hr hrc q2 hx;exact ⟨_,w,_,by simp only[execOp,ho,k2,(dB h1').1,Sem.run_bind,w8 hu hi hk];rfl,hs',sP q3 q4⟩
end
section
variable {c:ct} {A:ae} {o:Oper} {x:I}
theorem nF{P:Program}{w:World}{D:aH}{E:aN}{t:TypeId}{s:Option Nat}{c1 c2 c3:List Value}{y:I}(hk:fh P t=some s)(hok:bN s y=true)(hy:af w D E y c2) :
  ∃ v,(part t (c1++c2++c3).toArray c1.length).run P w=.ok v w∧aR w D E y v:=by
 have hag:=EN (w:=w) hk;have hl:=af.length _ _ hy;cases s with
 |none =>
  simp only[bN,Bool.not_eq_true'] at hok;have hsz:y.size=1:=by cases y <;>simp_all[I.isAgg,I.size]
  rw[hsz] at hl
  match c2,hl with
  | [v],_ =>
   refine ⟨v,?_,Cw hok hy⟩;simp[part,hag]
 |some n =>
  simp only[bN,Z7,beq_iff_eq] at hok;obtain ⟨hag',hsz⟩:=hok;have hn:=vT hk;obtain ⟨i,hi⟩:=sB hk;refine ⟨.agg c2.toArray,?_,fG (by simp[ba,hag']) hy⟩;have e:((c1++c2++c3).toArray.extract c1.length (c1.length+P.cellsOf t))=c2.toArray:=by
   have:P.cellsOf t=c2.length:=by rw[hl,hsz,hn]
   rw[this];simp
  simp only[part,Sem.run_bind,hag,Result.andThen_ok,Option.isSome_some,if_true,gT hi,e,Sem.run_pure]
theorem U7{t:TypeId}{y:Operand}{y':ay}{f:Nat}{s:Option Nat}{fs:Array Field}{fd:Field}{gs:List I}(ho:o.op=.field t y f)(hu:c.P.underlying t=some (.struct fs))(hf:fs[f]?=some fd)(hk:fh c.P fd.type=some s)
  (hy:aU c.P 0 y=some y') (h:ah A y'=.agg gs) (hx:gs[f]?=some x) (hoff:I.sizes (gs.take f)=fd.offset) (hok:bN s x=true):cM c A o x :=
 .same fun a w D E hs=>by
  have h1:=bn hs hy;rw[h] at h1;obtain ⟨cs,h2,h4⟩:=iW h1;obtain ⟨c1,c2,c3,rfl,k1,_,k2,_⟩:=lI gs cs f x h4 hx;obtain ⟨v,k3,k4⟩:=nF (c1:=c1) (c3:=c3) hk hok k2;rw[k1,hoff] at k3;exact ⟨v,by simp only[execOp,ho,h2,Instr.field,Sem.run_bind,run_underlying hu,Result.andThen_ok,hf,asAgg,Sem.run_pure,k3],k4⟩
theorem Vd{t e:TypeId}{y z:Operand}{y' z':ay}{n:Nat}{s:Option Nat}{gs:List I}{kk:IntKind}{k:Int}(ho:o.op=.index t y z)(hu:c.P.underlying t=some (.array n e))(hk:fh c.P e=some s)
  (hy:aU c.P 0 y=some y') (hz:aU c.P 0 z=some z') (h:ah A y'=.agg gs) (h':ah A z'=.int kk k) (hb:0≤k∧k<n) (hev:gz n (c.P.cellsOf e) gs=true) (hx:gs[k.toNat]?=some x) (hok:bN s x=true):cM c A o x :=
 .same fun a w D E hs=>by
  have h1:=bn hs hy;rw[h] at h1;have h1':=bn hs hz;rw[h'] at h1';obtain ⟨cs,h2,h4⟩:=iW h1;obtain ⟨c1,c2,c3,rfl,k1,_,k2,_⟩:=lI gs cs k.toNat x h4 hx;obtain ⟨v,k3,k4⟩:=nF (c1:=c1) (c3:=c3) hk hok k2;obtain ⟨e1,e2⟩:=p7 hev;obtain ⟨i,hi⟩:=sB hk;have hl:k.toNat<gs.length:=(zz6.1 hx).1;rw[k1,nI gs k.toNat e2 (by omega)] at k3;exact ⟨v,by simp only[execOp,ho,h2,(dB h1').1,Instr.index,Sem.run_bind,asIntOf,run_underlying hu,Result.andThen_ok,Sem.run_ite,if_pos hb,gT hi,Sem.run_pure,k3],k4⟩
theorem v8{n:Nat}(h:n≤maxLen):IntKind.i64.min≤(n:Int)∧(n:Int)≤IntKind.i64.max:=by
 simp only[IntKind.min,IntKind.max,IntKind.bits,IntKind.signed];unfold maxLen at h;simp;omega
theorem oE{ty:TypeId}{y:Operand}{y':ay}{n:Nat}{d:TypeDesc}(ho:o.op=.call { callee:=.builtin .len,args := #[y],argTypes := #[ty] })(hu:c.P.underlying ty=some d)(hd:(∃ e,d=.slice e)∨d=.string)
  (hy:aU c.P ty y=some y') (h:∀ a w D E,aM c A a w D E→∀ v,aR w D E (ah A y') v→n≤maxLen∧((∃ e,d=.slice e)→∃ ad cap,v=.slice ad n cap)∧(d=.string→∃ s,v=.string s∧s.size=n)):cM c A o (.int .i64 n) :=
 .same fun a w D E hs=>by
  obtain ⟨h0,h1,h2⟩:=h a w D E hs _ (bn hs hy);refine ⟨.int .i64 n,?_,iy (v8 h0)⟩;rcases hd with ⟨e,rfl⟩ | rfl
  ·obtain ⟨ad,cap,ab⟩:=h1 ⟨e,rfl⟩;simp[execOp,ho,resolve,invoke,builtin,Builtin.len_,run_underlying hu,ab,goInt]
  ·obtain ⟨s,ab,hs⟩:=h2 rfl;simp[execOp,ho,resolve,invoke,builtin,Builtin.len_,run_underlying hu,ab,goInt,hs]
theorem Vw{t e:TypeId}{y:Operand}{y':ay}{n:Nat}{i:TypeInfo}{gs:List I}(ho:o.op=.slice t y none none none)(hu:c.P.underlying t=some (.array n e))(hi:c.P.info? e=some i)
  (hy:aU c.P 0 y=some y') (h:ah A y'=.ref (.agg gs)) (hev:gz n (c.P.cellsOf e) gs=true) (hn:n≤maxLen):cM c A o (.slice (c.P.cellsOf e) gs) :=
 .same fun a w D E hs=>by
  have h1:=bn hs hy;rw[h] at h1;obtain ⟨b,off,cs,h2,h3,h4⟩:=pd h1;simp only[af] at h4;obtain ⟨e1,e2⟩:=p7 hev;by_cases h0:n=0
  ·exact ⟨.slice (some ⟨b,off,none⟩) 0 0,by simp[execOp,ho,h2,Instr.sliceAt,run_underlying hu,Instr.sureAddr,Instr.sliceBounds,gT hi,h0],sQ (by omega) (by omega) (by simp[maxLen]) (.inl (zw1 (by omega))) e2⟩
  ·exact ⟨.slice (some ⟨b,off,none⟩) n n,by simp[execOp,ho,h2,Instr.sliceAt,run_underlying hu,Instr.sureAddr,Instr.sliceBounds,gT hi,l8],sQ e1.symm (zz2 _) hn (.inr ⟨b,off,cs,rfl,h3,h4⟩) e2⟩
theorem Vv{t e:TypeId}{y:Operand}{y':ay}{n m:Nat}{p:List Nat}{i:TypeInfo}{gs:List I}(ho:o.op=.slice t y none none none)(hu:c.P.underlying t=some (.array n e))(hi:c.P.info? e=some i)
  (hy:aU c.P 0 y=some y') (h:ah A y'=.ptr m p) (hd:bT A (.ptr m p)=some (.agg gs)) (hev:gz n (c.P.cellsOf e) gs=true) (hn:n≤maxLen) (hn0:n≠0):cM c A o (.view m p (c.P.cellsOf e) 0 n) :=
 .same fun a w D E hs=>by
  have h1:=bn hs hy;rw[h] at h1;obtain ⟨b,aL,off,h2,h3,h4⟩:=kT h1;obtain ⟨zz,b',cs,T,off',c1,c2,c3,k1,k2,_,k3,k4,k5,k6,k7,k8,k9,_⟩:=hs.at hd;rw[k2] at h2;simp only[v6,bw.aE.injEq] at h2;obtain ⟨rfl,rfl⟩:=h2;obtain ⟨e1,e2⟩:=p7 hev;refine ⟨.slice (some ⟨b',off,none⟩) n n,by simp[execOp,ho,h4,Instr.sliceAt,run_underlying hu,Instr.sureAddr,Instr.sliceBounds,gT hi,l8],?_⟩;refine ⟨_,by simp[ba,I.isAgg];rfl,?_⟩;simp only[af];refine ⟨b',zz.aL,off,I.cJ gs,k2,h3,lS p zz _ k4,?_,?_,?_,?_⟩
  ·rw[I.cL,Z9,e1];simp
  ·rw[I.cL,Z9,e1];exact hn
  ·rw[I.cL,Z9,e1];omega
  ·rw[I.cL];intro s hs';obtain ⟨f,hf,rfl⟩:=zx4.1 hs';rw[I.iH];exact e2 f hf
theorem Yr{w:World}{D:aH}{E:aN}{b off sz:Nat}{cs:List Value}{es:List I}(h1:reads w D b off cs)(h2:aA w D E es cs)(h3:∀ e∈es,e.size=sz)(l h:Nat)(hl:l≤h)(hh:h≤es.length) :
  ∃ c2,reads w D b (off+l*sz) c2∧aA w D E ((es.take h).drop l) c2:=by
 have hspl:∀ (xs ys:List I) (cs:List Value),aA w D E (xs++ys) cs→∃ c1 c2,cs=c1++c2∧aA w D E xs c1∧aA w D E ys c2:=by
  intro xs
  induction xs with
  |nil=>intro ys cs hr;exact ⟨[],cs,rfl,by simp[aA],hr⟩
  |cons x xs ih =>
   intro ys cs hr;simp only[zz8,aA] at hr;obtain ⟨d1,d2,rfl,k1,k2⟩:=hr;obtain ⟨e1,e2,rfl,k3,k4⟩:=ih ys d2 k2;exact ⟨d1++e1,e2,by simp,by simp only[aA];exact ⟨d1,e1,rfl,k1,k3⟩,k4⟩
 have e1:es=es.take l++((es.take h).drop l++es.drop h):=by
  rw[←zz0]
  conv=>lhs;rw[←zx1 h es]
  congr 1
  rw[←List.ZA l h es hl]
 rw[e1] at h2;obtain ⟨c1,c',rfl,k1,k2⟩:=hspl _ _ _ h2;obtain ⟨c2,c3,rfl,k3,k4⟩:=hspl _ _ _ k2;refine ⟨c2,?_,k3⟩;rw[←nI es l h3 (by omega),←aA.length _ _ k1];rw[←zz0] at h1;exact tu h1
 where
 List.ZA {α:Type} (l h:Nat) (es:List α) (hl:l≤h):es.take h=es.take l++(es.take h).drop l:=by
  conv=>lhs;rw[←zx1 l (es.take h)]
  rw[List.take_take,Nat.min_eq_left hl]
def ic(w:World)(D:aH)(E:aN)(x:Option I)(v:Option Value):Prop:=match x,v with
 |none,none=>True
 |some x,some v=>aR w D E x v
 |_,_=>False
theorem HO{x:I}{d n:Int}(h:gJ (some x) d=some n):∃ k,x=.int k n:=by
 cases x <;>simp[gJ] at h
 subst h;exact ⟨_,rfl⟩
theorem qD{w:World}{D:aH}{E:aN}{x:Option I}{v:Option Value}{d n:Int}(h:ic w D E x v)(hb:gJ x d=some n) :
  (x=none∧v=none∧d=n)∨(x.isSome=true∧∃ k,v=some (.int k n)):=by
 cases x with
 |none =>
  cases v with
  |some _=>simp[ic] at h
  |none=>simp only[gJ,v6] at hb;exact .inl ⟨rfl,rfl,hb⟩
 |some x =>
  cases v with
  |none=>simp[ic] at h
  |some v =>
   obtain ⟨k,rfl⟩:=HO hb;simp only[ic] at h;exact .inr ⟨rfl,k,by rw[(dB h).1]⟩
theorem w9{P:Program}{w:World}{D:aH}{E:aN}{t e:TypeId}{i:TypeInfo}{sz:Nat}{es:List I}{lo hi mx:Option I}{vlo vhi vmx:Option Value}{x:I}{ad:Option Addr}{cap:Nat}
  (hu:P.underlying t=some (.slice e)) (hi':P.info? e=some i) (hsz:sz=P.cellsOf e) (hmh:mx.isSome=true→hi.isSome=true)
  (h1:ic w D E lo vlo) (h2:ic w D E hi vhi) (h3:ic w D E mx vmx) (hx:il sz es lo hi mx=some x)
  (hcap:es.length≤cap) (hcm:cap≤maxLen) (hes:es=[]∨∃ b off cs,ad=some ⟨b,off,none⟩∧reads w D b off cs∧aA w D E es cs) (hall:∀ e∈es,e.size=sz) :
  ∃ v,(Instr.sliceAt t (.slice ad es.length cap) vlo vhi vmx).run P w=.ok v w∧aR w D E x v:=by
 unfold il at hx;split at hx
 ·cases hx
 rename_i h hh;split at hx
 ·cases hx
 rename_i m hm;split at hx
 ·cases hx
 rename_i l hl;split at hx
 case isFalse=>cases hx
 rename_i hb;obtain ⟨b1,b2,b3,b4⟩:=hb;have sb:∀ (k:IntKind) (n:Int) (y:Nat) (code:BoundsCode),0≤n→n≤y→(Instr.sliceBound (.int k n) y code).run P w=.ok n.toNat w:=fun k n y code g1 g2=>by
  simp[Instr.sliceBound,asIntOf,g1,g2]
 -- the bounds that the program finds
 have key:∃ m':Nat,es.length≤cap∧m'≤cap∧h.toNat≤m'∧(mx.isSome=true→m'=m.toNat)∧(mx=none→m'=cap) ∧
   (Instr.sliceBounds true es.length cap vlo vhi vmx).run P w=.ok (l.toNat,h.toNat,m') w:=by
  have c1:=qD h1 hl;have c2:=qD h2 hh;have c3:=qD h3 hm;clear h1 h2 h3;rcases c3 with ⟨rfl,rfl,hm3⟩ | ⟨s3,k3,rfl⟩
  ·refine ⟨cap,hcap,zz2 _,by omega,fun e=>(by cases e),fun _=>rfl,?_⟩;rcases c2 with ⟨rfl,rfl,hm2⟩ | ⟨s2,k2,rfl⟩ <;>rcases c1 with ⟨rfl,rfl,hm1⟩ | ⟨s1,k1,rfl⟩
   ·subst hm1 hm2;simp[Instr.sliceBounds]
   ·subst hm2;simp[Instr.sliceBounds,sb k1 l es.length _ b1 (by omega)]
   ·subst hm1;simp[Instr.sliceBounds,sb k2 h cap _ (by omega) (by omega)]
   ·simp[Instr.sliceBounds,sb k2 h cap _ (by omega) (by omega),sb k1 l h.toNat _ b1 (by omega)]
  ·refine ⟨m.toNat,hcap,by omega,by omega,fun _=>rfl,fun e=>(by rw[e] at s3;cases s3),?_⟩;rcases c2 with ⟨rfl,rfl,hm2⟩ | ⟨s2,k2,rfl⟩
   ·simp[s3] at hmh
   ·rcases c1 with ⟨rfl,rfl,hm1⟩ | ⟨s1,k1,rfl⟩
    ·subst hm1;simp[Instr.sliceBounds,sb k3 m cap _ (by omega) (by omega),sb k2 h m.toNat _ (by omega) (by omega)]
    ·simp[Instr.sliceBounds,sb k3 m cap _ (by omega) (by omega),sb k2 h m.toNat _ (by omega) (by omega),sb k1 l h.toNat _ b1 (by omega)]
 obtain ⟨m',g1,g2,g3,g4,g5,hsb⟩:=key;have hrun:(Instr.sliceAt t (.slice ad es.length cap) vlo vhi vmx).run P w =
   .ok (.slice (if m'=l.toNat then ad else ad.map (·.add (l.toNat*P.cellsOf e))) (h.toNat-l.toNat) (m'-l.toNat)) w:=by
  simp only[Instr.sliceAt,Instr.slice,Sem.run_bind,run_underlying hu,Result.andThen_ok,hsb,gT hi',Sem.run_pure]
 refine ⟨_,hrun,?_⟩;split at hx
 ·rename_i hc;simp only[v6] at hx;subst hx;have e1:m'=l.toNat:=by rw[g4 hc.1,hc.2]
  have e2:h.toNat-l.toNat=0:=by omega
  rw[if_pos e1,e2,e1,Nat.sub_self];exact ⟨_,by simp[ba,I.isAgg];rfl,by simp only[af];exact ⟨ad,rfl⟩⟩
 ·simp only[v6] at hx;subst hx;have hlen:((es.take h.toNat).drop l.toNat).length=h.toNat-l.toNat:=by simp;omega
  refine sQ hlen.symm (by omega) (by omega) ?_ (fun y hy=>hall y (zw5 (List.mem_of_mem_drop hy)));by_cases hz:h.toNat=l.toNat
  ·left;exact zw1 (by omega)
  ·right
   rw[if_neg (by omega)];rcases hes with rfl | ⟨b,off,cs,rfl,q1,q2⟩
   ·simp at b4 g3;omega
   ·obtain ⟨c2,q3,q4⟩:=Yr q1 q2 hall l.toNat h.toNat (by omega) (by omega);exact ⟨b,off+l.toNat*sz,c2,by simp[l8,hsz],q3,q4⟩
theorem vH{t e:TypeId}{y:Operand}{y':ay}{lo hi mx:Option Operand}{lo' hi' mx':Option ay}{i:TypeInfo}{es:List I}(ho:o.op=.slice t y lo hi mx)(hu:c.P.underlying t=some (.slice e))(hi0:c.P.info? e=some i)
  (hy:aU c.P 0 y=some y') (h1:ir c.P lo=some lo') (h2:ir c.P hi=some hi') (h3:ir c.P mx=some mx') (hmh:mx'.isSome=true→hi'.isSome=true)
  (h:ah A y'=.slice (c.P.cellsOf e) es∨(ah A y'=.nils (c.P.cellsOf e)∧es=[])∨(ah A y'=.c0 (c.P.cellsOf e)∧es=[])) (hx:il (c.P.cellsOf e) es (lo'.map (ah A)) (hi'.map (ah A)) (mx'.map (ah A))=some x):cM c A o x :=
 .same fun a w D E hs=>by
  have opt:∀ {q:Option Operand} {q':Option ay},ir c.P q=some q'→ic w D E (q'.map (ah A)) (q.map a.eval):=by
   intro q q' hq;cases q with
   |none=>simp only[ir,v6] at hq;subst hq;simp[ic]
   |some z =>
    simp only[ir,t7] at hq;obtain ⟨z',hz,rfl⟩:=hq;simpa[ic] using bn hs hz
  have h0:=bn hs hy;have hmh':(mx'.map (ah A)).isSome=true→(hi'.map (ah A)).isSome=true:=by simpa using hmh
  rcases h with h | ⟨h,rfl⟩ | ⟨h,rfl⟩
  ·rw[h] at h0;obtain ⟨ad,cap,e1,e2,e3,e4,e5⟩:=kU h0;obtain ⟨v,k1,k2⟩:=w9 hu hi0 rfl hmh' (opt h1) (opt h2) (opt h3) hx e2 e3 e4 e5;exact ⟨v,by simp only[execOp,ho,e1,Sem.run_bind,k1];rfl,k2⟩
  ·rw[h] at h0;obtain ⟨cs,q1,q2⟩:=h0;simp only[af] at q2;have e1:a.eval y=.slice none ([]:List I).length 0:=by simpa[ba,I.isAgg,q2] using q1.symm
   obtain ⟨v,k1,k2⟩:=w9 (ad:=none) (cap:=0) hu hi0 rfl hmh' (opt h1) (opt h2) (opt h3) hx (by simp) (by simp[maxLen]) (.inl rfl) (by simp);exact ⟨v,by simp only[execOp,ho,e1,Sem.run_bind,k1];rfl,k2⟩
  ·rw[h] at h0;obtain ⟨cs,q1,q2⟩:=h0;simp only[af] at q2;obtain ⟨ad,q2⟩:=q2;have e1:a.eval y=.slice ad ([]:List I).length 0:=by simpa[ba,I.isAgg,q2] using q1.symm
   obtain ⟨v,k1,k2⟩:=w9 (ad:=ad) (cap:=0) hu hi0 rfl hmh' (opt h1) (opt h2) (opt h3) hx (by simp) (by simp[maxLen]) (.inl rfl) (by simp);exact ⟨v,by simp only[execOp,ho,e1,Sem.run_bind,k1];rfl,k2⟩
end
inductive ee {α β:Type} (R:α→β→Prop):List α→List β→Prop where
 |nil:ee R [] []
 |cons {x:α} {y:β} {xs:List α} {ys:List β} : R x y→ee R xs ys→ee R (x::xs) (y::ys)
section
variable {c:ct} {A:ae} {o:Oper} {x:I}
theorem Yq{w:World}{D:aH}{E:aN}{xs:List I}{cs ds:List Value}{i:Nat}{x y:I}(h:aA w D E xs cs)(hx:xs[i]?=some x)(hy:af w D E y ds)(hs:y.size=x.size) :
  I.sizes (xs.take i)+ds.length≤cs.length∧aA w D E (xs.set i y) (cs.take (I.sizes (xs.take i))++ds++cs.drop (I.sizes (xs.take i)+ds.length)):=by
 obtain ⟨c1,c2,c3,rfl,h1,h2,h3,h4⟩:=lI xs cs i x h hx;have hi:i<xs.length:=(zz6.1 hx).1;have hl:ds.length=c2.length:=by rw[af.length _ _ hy,af.length _ _ h3,hs]
 refine ⟨by simp only[Z8,h1];omega,?_⟩;have e1:xs.set i y=xs.take i++y::xs.drop (i+1):=by rw[List.set_eq_take_append_cons_drop];simp[hi]
 have e2:(c1++c2++c3).take (I.sizes (xs.take i))++ds++(c1++c2++c3).drop (I.sizes (xs.take i)+ds.length)=c1++(ds++c3):=by
  rw[←h1,hl,zz0 c1 c2 c3,List.take_left,List.drop_length_add_append,List.drop_left,zz0]
 rw[e1,e2];refine jl _ _ _ _ h2 ?_;simp only[aA];exact ⟨ds,c3,rfl,hy,h4⟩
theorem M3(off:Nat)(l:List Value)(cs:Array Value)(h:off+l.length≤cs.size) :
  ((l.zipIdx 0).foldl (fun cs (x:Value×Nat)=>cs.setIfInBounds (off+x.2) x.1) cs).toList=cs.toList.take off++l++cs.toList.drop (off+l.length):=by
 obtain ⟨h1,h2⟩:=Great.foldl_set off l 0 cs;apply List.ext_getElem?;intro k;rw[zx0,h2 k];simp only[Nat.add_zero,zz0];by_cases hk:k<off
 ·rw[if_neg (by omega),zy6 (by simp;omega)];simp[hk]
 ·rw[zw3 (by simp;omega)];simp only[zz4,zx6,Nat.min_eq_left (show off≤cs.size by omega)];by_cases hk2:k<off+l.length
  ·rw[if_pos ⟨by omega,by omega,by omega⟩,zy6 (by omega)]
  ·rw[if_neg (by omega),zw3 (by omega)];simp only[List.getElem?_drop,zx0]
   congr 1
   omega
theorem vl{w:World}{D:aH}{E:aN}(pl:Nat→Option (Nat×Nat)):∀ (ps:List (Nat×I)) (vs:List (Nat×Value)) (zs zs':List I) (cells:Array Value),
  (∀ i z,zs[i]?=some z→pl i=some (I.sizes (zs.take i),z.size))→aA w D E zs cells.toList→eT zs ps=some zs' →
  ee (fun (p:Nat×I) (v:Nat×Value)=>p.1=v.1∧aR w D E p.2 v.2) ps vs →
  ∃ cells',Instr.fill pl cells vs=some cells'∧aA w D E zs' cells'.toList
 | [],vs,zs,zs',cells,hp,hr,hs,hf=>by
  cases hf;simp only[eT,v6] at hs;subst hs;exact ⟨cells,rfl,hr⟩
 |(i,y)::ps,vs,zs,zs',cells,hp,hr,hs,hf=>by
  cases hf with
  |cons h1 h2 =>
   rename_i v vs;obtain ⟨j,u⟩:=v;simp only at h1;obtain ⟨rfl,ab⟩:=h1;simp only[eT] at hs;split at hs
   ·rename_i z hz;split at hs
    ·rename_i hsz;obtain ⟨hval,hsz⟩:=hsz;obtain ⟨ds,k1,k2⟩:∃ ds,ba y u ds∧af w D E y ds:=by
      cases y <;>simp[I.cC] at hval <;>exact ab
     have hcells:=k1.cells k2;have hds:u.cells.size=z.size:=by rw[←zx6,hcells,af.length _ _ k2,hsz]
     obtain ⟨k3,k4⟩:=Yq hr hz k2 hsz;have hcl:cells.toList.length=cells.size:=zx6;have hl:ds.length=u.cells.size:=by rw[←hcells,zx6]
     have hp':∀ k z',(zs.set i y)[k]?=some z'→pl k=some (I.sizes ((zs.set i y).take k),z'.size):=by
      intro k z' hk;have hil:i<zs.length:=(zz6.1 hz).1;have hsizes:∀ k,I.sizes ((zs.set i y).take k)=I.sizes (zs.take k):=by
       intro k;have gen:∀ (zs:List I) (i k:Nat) (z:I),zs[i]?=some z→z.size=y.size→I.sizes ((zs.set i y).take k)=I.sizes (zs.take k):=by
        intro zs
        induction zs with
        |nil=>intro i k z hz _;simp at hz
        |cons q qs ih =>
         intro i k z hz he;cases k with
         |zero=>simp
         |succ k =>
          cases i with
          |zero =>
           simp only[List.getElem?_cons_zero,v6] at hz;subst hz;simp[I.sizes,he]
          |succ i =>
           simp only[List.set_cons_succ,List.take_succ_cons,I.sizes,ih i k z (by simpa using hz) he]
       exact gen zs i k z hz hsz.symm
      rw[hsizes];rw[List.getElem?_set] at hk;split at hk
      ·rename_i hik;subst hik;simp only[v6] at hk;subst hk;rw[hp i z hz,hsz]
      ·exact hp k z' hk
     have hfold:=M3 (I.sizes (zs.take i)) u.cells.toList cells (by rw[hcells];omega);rw[hcells] at hfold;obtain ⟨cells',k5,k6⟩:=vl pl ps vs (zs.set i y) zs' ((u.cells.toList.zipIdx 0).foldl (fun cs (x:Value×Nat)=>cs.setIfInBounds (I.sizes (zs.take i)+x.2) x.1) cells) hp'
      (by rw[hcells,hfold];exact k4) hs h2
     refine ⟨cells',?_,k6⟩;unfold Instr.fill;simp only[hp i z hz];rw[if_neg (by simp[hds];omega)];rw[←k5]
     congr 1
     rw[←Array.foldl_toList,Array.toList_zipIdx]
    ·cases hs
   ·cases hs
theorem C4{a:Act}{w:World}{D:aH}{E:aN}(hs:aM c A a w D E){P:Program} : ∀ (ps:List (Nat×Operand)) (qs:List (Nat×ay)),kq P ps=some qs →
  ee (fun (p:Nat×I) (v:Nat×Value)=>p.1=v.1∧aR w D E p.2 v.2) (qs.map fun p=>(p.1,ah A p.2)) (ps.map fun p=>(p.1,a.eval p.2))
 | [],qs,h=>by simp[kq] at h;subst h;exact .nil
 |(i,x)::ps,qs,h=>by
  simp only[kq,List.mapM_cons,Option.bind_eq_bind,Option.pure_def,zw6,t7,v6] at h;obtain ⟨_,⟨y,hy,rfl⟩,qs',hq,rfl⟩:=h;exact .cons ⟨rfl,bn hs hy⟩ (C4 hs ps qs' hq)
theorem BE{t:TypeId}{parts:Array (Nat×Operand)}{ps:List (Nat×ay)}{zs zs':List I}(ho:o.op=.build t parts)(hz:fm c.P t=some (.agg zs))(hp:kq c.P parts.toList=some ps)
  (hpl:(∃ fs,c.P.underlying t=some (.struct fs)∧(fs.toList.map fun f=>(f.offset,c.P.cellsOf f.type))=kN 0 zs∧(fs.all fun f=>(c.P.info? f.type).isSome)=true) ∨
   (∃ n e,c.P.underlying t=some (.array n e)∧zs.length=n∧(zs.all fun z=>z.size==c.P.cellsOf e)=true∧(c.P.info? e).isSome=true))
  (h:eT zs (ps.map fun p=>(p.1,ah A p.2))=some zs'):cM c A o (.agg zs') :=
 .same fun a w D E hs=>by
  obtain ⟨i,z,hi,hzv,hzr⟩:=kj hz;have hzr:=hzr w D E;simp only[af] at hzr;have hparts:=C4 hs parts.toList ps hp;have hmap:(parts.map fun (q:Nat×Operand)=>(q.1,a.eval q.2)).toList=parts.toList.map fun p=>(p.1,a.eval p.2):=by simp
  rcases hpl with ⟨fs,hu,hoffs,hinfo⟩ | ⟨n,e,hu,hn,hev,hinfo⟩
  ·have hpl:∀ i z,zs[i]?=some z→(kN 0 zs)[i]?=some (I.sizes (zs.take i),z.size):=by
    intro i z hiz;rw[C7,hiz];simp
   obtain ⟨cells',k1,k2⟩:=vl ((kN 0 zs)[·]?) _ _ zs zs' z.cells hpl hzr h hparts;have hm:fs.toList.mapM (fun f=>(c.P.info? f.type).map fun i=>(f.offset,i.size))=some (kN 0 zs):=by
    rw[←hoffs];have hall:∀ f∈fs.toList,(c.P.info? f.type).isSome=true:=fun f hf=>by
     have:=(Array.all_eq_true_iff_forall_mem.1 hinfo) f (by simpa using hf);exact this
    revert hall;generalize fs.toList=l;intro hall
    induction l with
    |nil=>rfl
    |cons f l ih =>
     obtain ⟨j,hj⟩:=zy4.1 (hall f (by simp));simp only[List.mapM_cons,Option.bind_eq_bind,hj,zz7,zw8,ih (fun g hg=>hall g (by simp[hg])),Option.pure_def,zz1,Program.cellsOf,Option.getD_some]
   have hb:c.P.built t (parts.map fun (q:Nat×Operand)=>(q.1,a.eval q.2)).toList=some cells':=by
    unfold Program.built;simp only[hi,hu,hzv,hm];rw[hmap,←k1]
    congr 1
    funext k
    simp
   exact ⟨.agg cells',by simp only[execOp,ho,Sem.run_bind,run_build w t _ _ hb];rfl,by have:=Cu k2;simpa using this⟩
  ·obtain ⟨ie,hie⟩:=zy4.1 hinfo;have hev':∀ z∈zs,z.size=ie.size:=fun z hz=>by
    have:=zx8.1 hev z hz;simpa[Program.cellsOf,hie] using this
   have hpl:∀ i z,zs[i]?=some z→(fun i=>some (i*ie.size,ie.size)) i=some (I.sizes (zs.take i),z.size):=by
    intro i z hiz;have hl:i<zs.length:=(zz6.1 hiz).1;rw[nI zs i hev' (by omega),hev' z (List.mem_of_getElem? hiz)]
   obtain ⟨cells',k1,k2⟩:=vl (fun i=>some (i*ie.size,ie.size)) _ _ zs zs' z.cells hpl hzr h hparts;have hb:c.P.built t (parts.map fun (q:Nat×Operand)=>(q.1,a.eval q.2)).toList=some cells':=by
    unfold Program.built;simp only[hi,hu,hzv,hie];rw[hmap,←k1]
   exact ⟨.agg cells',by simp only[execOp,ho,Sem.run_bind,run_build w t _ _ hb];rfl,by have:=Cu k2;simpa using this⟩
theorem km{a:Act}{w:World}{D:aH}{E:aN}(hs:aM c A a w D E){P:Program} : ∀ (xs:List Operand) (ts:List TypeId) (ys:List ay),jO P xs ts=some ys →
  ee (aR w D E) (ys.map (ah A)) (xs.map a.eval)
 | [],_,ys,h=>by simp[jO] at h;subst h;exact .nil
 |x::xs,ts,ys,h=>by
  simp only[jO] at h;split at h
  ·rename_i y ys' h1 h2;simp only[v6] at h;subst h;exact .cons (bn hs h1) (km hs xs _ ys' h2)
  ·cases h
theorem kV{w:World}{D:aH}{E:aN} : ∀ (xs:List I) (vs:List Value),ee (aR w D E) xs vs→(∀ x∈xs,x.cC=true)→ao w D E xs vs
 | [],vs,h,_=>by cases h;simp[ao]
 |x::xs,vs,h,ab=>by
  cases h with
  |cons h1 h2 =>
   rename_i v vs;have hx:=ab x (by simp);obtain ⟨cs,k1,k2⟩:∃ cs,ba x v cs∧af w D E x cs:=by
    cases x <;>simp[I.cC] at hx <;>exact h1
   simp only[ao];exact ⟨v,vs,cs,rfl,k1,k2,kV xs vs h2 (fun y hy=>ab y (by simp[hy]))⟩
theorem qa{aE:Bool}{B:ae} : ∀ {xs ys:List I},bJ aE B xs=some ys→∀ x∈xs,x.cC=true
 | [],ys,_,x,hx=>by simp at hx
 |y::xs,ys,h,x,hx=>by
  simp only[bJ] at h;split at h
  ·rename_i z zs h1 h2;rcases zy8.1 hx with rfl | hx
   ·cases x <;>simp_all[bf,I.cC]
   ·exact qa h2 x hx
  ·cases h
theorem Vg{f:FuncId}(hf:f<1000000){caps:Array Operand}{ys:List ay}(ho:o.op=.makeFunc (.func f) #[] caps)(hc:jO c.P caps.toList []=some ys)(ab:∀ y∈ys,(ah A y).cC=true):cM c A o (.func f (ys.map (ah A))) :=
 .same fun a w D E hs=>by
  have h:=kV _ _ (km hs caps.toList [] ys hc) (by simpa using ab);have e:caps.map a.eval=(caps.toList.map a.eval).toArray:=by apply Array.ext';simp
  refine ⟨.func (.func f) #[] (caps.toList.map a.eval).toArray,by simp[execOp,ho,Instr.makeFunc,e],⟨_,by simp[ba,I.isAgg];rfl,?_⟩⟩;simp only[af];exact ⟨_,by rw[mb hf],h⟩
theorem Vi{f:FuncId}{first:Array Operand}{ys:List ay}(ho:o.op=.makeFunc (.func f) first #[])(hc:jO c.P first.toList []=some ys)(ab:∀ y∈ys,(ah A y).cC=true):cM c A o (.func (f+1000000) (ys.map (ah A))) :=
 .same fun a w D E hs=>by
  have h:=kV _ _ (km hs first.toList [] ys hc) (by simpa using ab);have e:first.map a.eval=(first.toList.map a.eval).toArray:=by apply Array.ext';simp
  refine ⟨.func (.func f) (first.toList.map a.eval).toArray #[],by simp[execOp,ho,Instr.makeFunc,e],⟨_,by simp[ba,I.isAgg];rfl,?_⟩⟩;simp only[af];exact ⟨_,by rw[qb],h⟩
theorem ES{w:World}{D:aH}{E:aN} : ∀ (xs:List I) (vs:List Value),ao w D E xs vs→aA w D E xs (vs.flatMap fun v=>v.cells.toList)∧vs.length=xs.length∧∀ (sz:Nat),(∀ x∈xs,x.size=sz)→∀ v∈vs,v.cells.size=sz
 | [],vs,h=>by simp only[ao] at h;subst h;simp[aA]
 |x::xs,vs,h=>by
  simp only[ao] at h;obtain ⟨v,rest,cs,rfl,h1,h2,h3⟩:=h;obtain ⟨k1,k2,k3⟩:=ES xs rest h3;have hc:=h1.cells h2;refine ⟨?_,by simp[k2],fun sz hsz u hu =>?_⟩
  ·simp only[List.flatMap_cons,aA];exact ⟨_,_,rfl,by rw[hc];exact h2,k1⟩
  ·rcases zy8.1 hu with rfl | hu
   ·rw[←zx6,hc,af.length _ _ h2,hsz x (by simp)]
   ·exact k3 sz (fun y hy=>hsz y (by simp[hy])) u hu
def nE(A:ae)(D:aH)(E:aN):aH:=fun b o=>D b o∨∃ n T sz es cap,A.o n=some (.bF T sz es)∧E n=some (.rw (some (b,cap)) es.length)∧o<es.length*sz
theorem aM.nH{a:Act}{w:World}{D:aH}{E:aN}(h:aM c A a w D E):aM c A a w (nE A D E) E∧gY false A D E (nE A D E):=by
 have hblk:∀ {n T sz es b cap},A.o n=some (.bF T sz es)→E n=some (.rw (some (b,cap)) es.length)→c.eA b∧b<w.heap.size:=by
  intro n T sz es b cap hn aq;obtain ⟨aB,k1,k2,k3⟩:=h.bF hn;rw[aq] at k1;simp only[v6,bw.rw.injEq,and_true] at k1;subst k1;obtain ⟨cs,pre,rest,k4,k5,_⟩:=k3;exact ⟨k4,eR k5⟩
 refine ⟨h.FP (fun _ _ hd=>.inl hd) ?_ ?_ ?_ ?_ ?_ ?_,⟨fun _ _ hd=>.inl hd,fun n T sz es b cap hn aq o ho=>.inr ⟨n,T,sz,es,cap,hn,aq,ho⟩,(fun hb=>by cases hb),fun hb=>by cases hb⟩⟩
 ·rintro b o (hd | ⟨n,T,sz,es,cap,hn,aq,ho⟩) hlt
  ·exact h.cO _ _ hd hlt
  ·exact absurd (hblk hn aq).1 hlt
 ·rintro b o (hd | ⟨n,T,sz,es,cap,hn,aq,ho⟩)
  ·exact h.cS _ _ hd
  ·exact (hblk hn aq).2
 ·rintro m x b hm hEm o (hd | ⟨n,T,sz,es,cap,hn,aq,ho⟩)
  ·obtain ⟨b2,cs2,T2,q1,q2,q3,q4,q5⟩:=h.box hm;rw[q1] at hEm;simp only[v6,bw.aE.injEq,and_true] at hEm;subst hEm;exact q5 o hd
  ·have:=h.cD m n _ _ b hEm aq rfl rfl;subst this;rw[hm] at hn;cases hn
 ·rintro m T' sz' es' b cap' hm hEm o (hd | ⟨n,T,sz,es,cap,hn,aq,ho⟩)
  ·obtain ⟨aB,q1,q2,q3⟩:=h.bF hm;rw[hEm] at q1;simp only[v6,bw.rw.injEq,and_true] at q1;subst q1;obtain ⟨cs',pre',rest',q4,q5,q6,q7,q8,q9,q10,q11⟩:=q3;have:=q11 o hd
   rwa [aA.length _ _ q7,I.gF _ q2] at this
  ·have:=h.cD m n _ _ b hEm aq rfl rfl;subst this;rw[hm] at hn;simp only[v6,aj.bF.injEq] at hn;obtain ⟨rfl,rfl,rfl⟩:=hn;exact ho
 ·rintro m T' xs b cap' hm hEm o (hd | ⟨n,T,sz,es,cap,hn,aq,ho⟩)
  ·obtain ⟨aB,q1,_,q3⟩:=h.xK hm;rw[hEm] at q1;simp only[v6,bw.rw.injEq,and_true] at q1;subst q1;obtain ⟨_,_,_,_,_,_,_,_,q4⟩:=q3;exact q4 o hd
  ·have:=h.cD m n _ _ b hEm aq rfl rfl;subst this;rw[hm] at hn;cases hn
 ·rintro m e' b hE' hoth hblk o (hd | ⟨n,T,sz,es,cap,hn,aq,ho⟩)
  ·exact h.wH hE' hoth hblk o hd
  ·have:=h.cD m n _ _ b hE' aq hblk rfl;subst this;rw[hE'] at aq;cases aq;cases hoth
theorem C5{a:Act}{w:World}{D:aH}{E:aN}(hs:aM c A a w D E){P:Program} : ∀ (ps:List (Nat×Operand)) (qs:List (Nat×ay)),kq P ps=some qs →
  ee (aR w D E) ((qs.map (·.2)).map (ah A)) (ps.map fun p=>a.eval p.2)∧qs.map (·.1)=ps.map (·.1)
 | [],qs,h=>by simp[kq] at h;subst h;exact ⟨.nil,rfl⟩
 |(i,x)::ps,qs,h=>by
  simp only[kq,List.mapM_cons,Option.bind_eq_bind,Option.pure_def,zw6,t7,v6] at h;obtain ⟨_,⟨y,hy,rfl⟩,qs',hq,rfl⟩:=h;obtain ⟨h1,h2⟩:=C5 hs ps qs' hq;exact ⟨.cons (bn hs hy) h1,by simp[h2]⟩
theorem aM.newRow{a:Act}{w:World}{D:aH}{E:aN}(h:aM c A a w D E)(o:Obj):aM c A a (w.alloc o) (fun b k=>D b k∨b=w.heap.size) E:=by
 refine h.grow (ju w o) (fun _ _ hd=>.inl hd) ?_ ?_
 ·rintro b k (hd | rfl) hlt
  ·exact hd
  ·omega
 ·rintro b k (hd | rfl)
  ·have:=h.cS _ _ hd;simp;omega
  ·simp
theorem Z1{α:Type}(ps:List (Nat×α))(h:ps.map (·.1)=List.range ps.length):ps=((ps.map (·.2)).zipIdx 0).map fun x=>(x.2,x.1):=by
 apply List.ext_getElem?;intro k;rw[zx3,List.getElem?_zipIdx,zx3];cases hk:ps[k]? with
 |none=>simp
 |some p =>
  have hl:k<ps.length:=(zz6.1 hk).1;have:=congrArg (·[k]?) h;simp only[zx3,hk,zz7,List.getElem?_range hl,v6] at this;simp[←this]
theorem UU{t e:TypeId}{len:Nat}{parts:Array (Nat×Operand)}{ps:List (Nat×ay)}{es:List I}(ho:o.op=.buildSlice t len parts)(hu:c.P.underlying t=some (.slice e))(hp:kq c.P parts.toList=some ps)
  (hr:ps.map (·.1)=List.range len) (h0:0<c.P.cellsOf e) (hlen:0<len) (hsm:len*c.P.cellsOf e≤16777216) (hz:((c.P.info? e).bind (·.zero)).isSome=true)
  (hes:bJ false A ((ps.map (·.2)).map (ah A))=some es) (hev:∀ x∈es,x.size=c.P.cellsOf e) (hcl:I.cv es=true):cM c A o (.slice (c.P.cellsOf e) es):=by
 intro a w D E hs;obtain ⟨hfor,hidx⟩:=C5 hs parts.toList ps hp;obtain ⟨hs1,hw⟩:=hs.nH;have hrv:=lA (E':=E) hs (fun _ _ h=>h) hw _ es _ (kV _ _ hfor (qa hes)) hes;obtain ⟨k1,k2,k3⟩:=ES es _ hrv;have k3:=k3 _ hev;have hl:parts.toList.length=len:=by
  have:=congrArg List.length hidx;rw[hr] at this;simpa using this.symm
 have hesl:es.length=len:=by rw[←k2];simp[hl]
 obtain ⟨z,hz⟩:=zy4.1 hz;obtain ⟨ie,hie,hzz⟩:=zw6.1 hz;have hsz:ie.size=c.P.cellsOf e:=by simp[Program.cellsOf,hie]
 -- the literal's cells
 have hfill:Instr.fill (fun i=>some (i*ie.size,ie.size)) ((Array.range (len*ie.size)).map (z.cells[· % z.cells.size]!)) (parts.map fun (q:Nat×Operand)=>(q.1,a.eval q.2)).toList =
   some ((parts.toList.map fun p=>a.eval p.2).flatMap fun v=>v.cells.toList).toArray:=by
  have hpz:(parts.map fun (q:Nat×Operand)=>(q.1,a.eval q.2)).toList=((parts.toList.map fun p=>a.eval p.2).zipIdx 0).map fun x=>(x.2,x.1):=by
   have:=Z1 (parts.toList.map fun (q:Nat×Operand)=>(q.1,a.eval q.2)) (by simp only[List.map_map,Z9];rw[hl,←hr,hidx];rfl);rw[Array.toList_map,this,List.map_map];rfl
  rw[hpz,hsz];exact Great.fill_whole h0 _ _ (fun v ab=>k3 v ab) (by simp[hl])
 have hrun:=run_buildSlice (P:=c.P) w t e len (parts.map fun (q:Nat×Operand)=>(q.1,a.eval q.2)) _ ie z hu hie hzz (by rw[hsz];omega) (by rw[hsz];exact Nat.ne_of_gt (Nat.mul_pos hlen h0)) hfill;generalize hcells:((parts.toList.map fun p=>a.eval p.2).flatMap fun v=>v.cells.toList)=cells at *;have hs2:=hs1.newRow (.cells cells.toArray e);refine ⟨_,_,_,by simp only[execOp,ho,Sem.run_bind];rw[hrun];rfl,hs2,sQ hesl.symm (zz2 _) ?_ (.inr ⟨w.heap.size,0,cells,rfl,?_,?_⟩) hev⟩
 ·unfold maxLen;have:len≤len*c.P.cellsOf e:=Nat.le_mul_of_pos_right _ h0;omega
 ·intro j v hj;refine ⟨?_,.inr rfl⟩;rw[zz5];have:=World.cell?_alloc_new w cells.toArray e j;rw[this];simpa using hj
 ·refine aA.later ?_ es cells k1;exact dy.grow (ju w _) (fun _ _ hd=>.inl hd)
end
mutual
theorem ou:∀ (ty:cm) (x y:I) (r:Bool),bW ty x y=some r→x.size=ty.size∧y.size=ty.size
 | .i k,x,y,r,h=>by
  simp only[bW] at h;split at h
  ·simp[I.size,cm.size]
  ·cases h
 | .b,x,y,r,h=>by
  simp only[bW] at h;split at h
  ·simp[I.size,cm.size]
  ·cases h
 | .s,x,y,r,h=>by
  simp only[bW] at h;split at h
  ·simp[I.size,cm.size]
  ·cases h
 | .aV l,x,y,r,h=>by
  simp only[bW] at h;split at h
  ·simp only[I.size,cm.size];exact AP l _ _ r h
  ·cases h
 | .pO n e,x,y,r,h=>by
  simp only[bW] at h;split at h
  ·rename_i fs gs;split at h
   ·rename_i hl;simp only[I.size,cm.size];have:∀ (fs gs:List I) (r:Bool),fs.length=gs.length→(fs.zip gs).foldr (fun p acc=>iN (bW e p.1 p.2) acc) (some true)=some r→I.sizes fs=fs.length*e.size∧I.sizes gs=fs.length*e.size:=by
     intro fs
     induction fs with
     |nil=>intro gs r hl _;cases gs with | nil=>simp[I.sizes] | cons _ _=>simp at hl
     |cons f fs ih =>
      intro gs r hl h;cases gs with
      |nil=>simp at hl
      |cons g gs =>
       simp only[List.zip_cons_cons,List.foldr_cons] at h;unfold iN at h;split at h
       ·rename_i a b h1 h2;obtain ⟨k1,k2⟩:=ih gs b (by simpa using hl) h2;obtain ⟨k3,k4⟩:=ou e f g a h1;simp only[I.sizes,zx7,k1,k2,k3,k4,Nat.add_mul,Nat.one_mul];omega
       ·cases h
    obtain ⟨k1,k2⟩:=this fs gs r (by omega) h;rw[k1,k2,hl.1];exact ⟨rfl,rfl⟩
   ·cases h
  ·cases h
theorem AP:∀ (l:List cm) (xs ys:List I) (r:Bool),gN l xs ys=some r→I.sizes xs=cm.sizes l∧I.sizes ys=cm.sizes l
 | [],xs,ys,r,h=>by
  simp only[gN] at h;split at h
  ·simp[I.sizes,cm.sizes]
  ·cases h
 |t::ts,xs,ys,r,h=>by
  simp only[gN] at h;split at h
  ·rename_i f fs g gs;unfold iN at h;split at h
   ·rename_i a b h1 h2;obtain ⟨k1,k2⟩:=ou t f g a h1;obtain ⟨k3,k4⟩:=AP ts fs gs b h2;simp only[I.sizes,cm.sizes,k1,k2,k3,k4];exact ⟨trivial,trivial⟩
   ·cases h
  ·cases h
end
section
variable {P:Program} {w:World} {D:aH} {E:aN}
theorem u6{d:Nat}{t:TypeId}{ty:cm}(h:fZ P d t=some ty)(hs:ty.size=P.cellsOf t){x y:I}{r:Bool}(hr:bW ty x y=some r):∃ s,fh P t=some s∧bN s x=true∧bN s y=true:=by
 have hsz:=ou ty x y r hr;cases d with
 |zero=>simp[fZ] at h
 |succ d =>
  simp only[fZ] at h;split at h
  ·rename_i k hu;simp only[v6] at h;subst h;simp only[bW] at hr;split at hr
   ·exact ⟨none,by simp[fh,hu],by simp[bN,I.isAgg],by simp[bN,I.isAgg]⟩
   ·cases hr
  ·rename_i hu;simp only[v6] at h;subst h;simp only[bW] at hr;split at hr
   ·exact ⟨none,by simp[fh,hu],by simp[bN,I.isAgg],by simp[bN,I.isAgg]⟩
   ·cases hr
  ·rename_i hu;simp only[v6] at h;subst h;simp only[bW] at hr;split at hr
   ·exact ⟨none,by simp[fh,hu],by simp[bN,I.isAgg],by simp[bN,I.isAgg]⟩
   ·cases hr
  ·rename_i fs hu;split at h
   ·simp only[t7] at h;obtain ⟨l,_,rfl⟩:=h;simp only[bW] at hr;split at hr
    ·exact ⟨some (P.cellsOf t),by simp[fh,hu],by simp[bN,I.isAgg,hsz.1,hs],by simp[bN,I.isAgg,hsz.2,hs]⟩
    ·cases hr
   ·cases h
  ·rename_i n e hu;split at h
   ·split at h
    ·simp only[v6] at h;subst h;simp only[bW] at hr;split at hr
     ·exact ⟨some (P.cellsOf t),by simp[fh,hu],by simp[bN,I.isAgg,hsz.1,hs],by simp[bN,I.isAgg,hsz.2,hs]⟩
     ·cases hr
    ·cases h
   ·cases h
  ·cases h
theorem AR{k:Nat}{g:Field→Option cm}(hg:∀ (f:Field) (ty:cm),g f=some ty→ty.size=P.cellsOf f.type∧∃ d,fZ P d f.type=some ty ∧
   ∀ (x y:I) (u v:Value) (r:Bool),aR w D E x u→aR w D E y v→bW ty x y=some r→(Op.equalIn k f.type u v).run P w=.ok r w) :
  ∀ (fs : List Field) (l : List cm) (xs ys : List I) (r : Bool) (c1 c2 d1 d2 : List Value), fs.mapM g = some l → (∀ f ∈ fs, f.name ≠ "_") → oW P c1.length fs = true → c1.length = d1.length →
   aA w D E xs c2→aA w D E ys d2→gN l xs ys=some r→(Op.eqFields k (c1++c2).toArray (d1++d2).toArray fs).run P w=.ok r w
 | [],l,xs,ys,r,c1,c2,d1,d2,hm,_,_,_,_,_,h=>by
  simp at hm;subst hm;simp only[gN] at h;split at h
  ·simp only[v6] at h;subst h;simp[Op.eqFields]
  ·cases h
 |f::fs,l,xs,ys,r,c1,c2,d1,d2,hm,hn,ho,hl,hx,hy,h=>by
  simp only[List.mapM_cons,Option.bind_eq_bind,Option.pure_def,zw6,v6] at hm;obtain ⟨ty,hty,tys,htys,rfl⟩:=hm;simp only[gN] at h;split at h
  case h_2=>cases h
  rename_i x xs y ys;unfold iN at h;split at h
  case h_2=>cases h
  rename_i ra rb h1 h2;simp only[v6] at h;subst h;simp only[aA] at hx hy;obtain ⟨e1,e2,rfl,k1,k2⟩:=hx;obtain ⟨f1,f2,rfl,k3,k4⟩:=hy;obtain ⟨hsz,dd,hd,heq⟩:=hg f ty hty;obtain ⟨s,q1,q2,q3⟩:=u6 hd hsz h1;obtain ⟨u,p1,p2⟩:=nF (c1:=c1) (c3:=e2) q1 q2 k1;obtain ⟨v,p3,p4⟩:=nF (c1:=d1) (c3:=f2) q1 q3 k3;simp only[oW,Z7,beq_iff_eq] at ho;have hsx:=ou ty x y ra h1;have hle:e1.length=P.cellsOf f.type:=by rw[af.length _ _ k1,hsx.1,hsz]
  have hlf:f1.length=P.cellsOf f.type:=by rw[af.length _ _ k3,hsx.2,hsz]
  have ih:=AR hg fs tys xs ys rb (c1++e1) e2 (d1++f1) f2 htys (fun g hg=>hn g (by simp[hg])) (by simp only[Z8,hle];exact ho.2) (by simp[hl,hle,hlf]) k2 k4 h2;rw[zz0] at p1 p3;rw[zz0,zz0] at ih;rw[←ho.1] at p1;rw[←hl,←ho.1] at p3;simp only[Op.eqFields,hn f (by simp),ne_eq,not_false_eq_true,if_true,Sem.run_bind,p1,Result.andThen_ok,p3,heq x y u v ra p2 p4 h1];cases ra
  ·simp
  ·simpa using ih
theorem AS{d:Nat}{e:TypeId}{ty:cm}{dd:Nat}(hty:fZ P dd e=some ty)(hsz:ty.size=P.cellsOf e)
  (heq:∀ (x y:I) (u v:Value) (r:Bool),aR w D E x u→aR w D E y v→bW ty x y=some r→(Op.equalIn d e u v).run P w=.ok r w) :
  ∀ (m k:Nat) (xs ys:List I) (c1 c2 d1 d2:List Value) (r:Bool),xs.length=m→ys.length=m→c1.length=k*P.cellsOf e→d1.length=k*P.cellsOf e→aA w D E xs c2→aA w D E ys d2 →
   (xs.zip ys).foldr (fun p acc=>iN (bW ty p.1 p.2) acc) (some true)=some r→(Op.eqItems d e (P.cellsOf e) (c1++c2).toArray (d1++d2).toArray (List.range' k m)).run P w=.ok r w
 |0,k,xs,ys,c1,c2,d1,d2,r,hx,hy,_,_,_,_,h=>by
  have e1:=zw1 hx;subst e1;simp only[List.zip_nil_left,List.foldr_nil,v6] at h;subst h;simp[Op.eqItems]
 |m+1,k,xs,ys,c1,c2,d1,d2,r,hx,hy,hc,hd,hrx,hry,h=>by
  cases xs with
  |nil=>simp at hx
  |cons x xs =>
  cases ys with
  |nil=>simp at hy
  |cons y ys =>
  simp only[List.zip_cons_cons,List.foldr_cons] at h;unfold iN at h;split at h
  case h_2=>cases h
  rename_i ra rb h1 h2;simp only[v6] at h;subst h;simp only[aA] at hrx hry;obtain ⟨e1,e2,rfl,k1,k2⟩:=hrx;obtain ⟨f1,f2,rfl,k3,k4⟩:=hry;obtain ⟨s,q1,q2,q3⟩:=u6 hty hsz h1;obtain ⟨u,p1,p2⟩:=nF (c1:=c1) (c3:=e2) q1 q2 k1;obtain ⟨v,p3,p4⟩:=nF (c1:=d1) (c3:=f2) q1 q3 k3;have hsx:=ou ty x y ra h1;have hle:e1.length=P.cellsOf e:=by rw[af.length _ _ k1,hsx.1,hsz]
  have hlf:f1.length=P.cellsOf e:=by rw[af.length _ _ k3,hsx.2,hsz]
  have ih:=AS hty hsz heq m (k+1) xs ys (c1++e1) e2 (d1++f1) f2 rb (by simpa using hx) (by simpa using hy) (by simp only[Z8,hle,hc,Nat.add_mul,Nat.one_mul]) (by simp only[Z8,hlf,hd,Nat.add_mul,Nat.one_mul]) k2 k4 h2;rw[zz0] at p1 p3;rw[zz0,zz0] at ih;rw[hc] at p1;rw[hd] at p3;simp only[List.range'_succ,Op.eqItems,Sem.run_bind,p1,Result.andThen_ok,p3,heq x y u v ra p2 p4 h1];cases ra
  ·simp
  ·simpa using ih
theorem rZ:∀ (d:Nat) (t:TypeId) (ty:cm),fZ P d t=some ty→∀ (x y:I) (u v:Value) (r:Bool),aR w D E x u→aR w D E y v→bW ty x y=some r→∀ dep,d≤dep→(Op.equalIn dep t u v).run P w=.ok r w
 |0,t,ty,h,_,_,_,_,_,_,_,_,_,_=>by simp[fZ] at h
 |d+1,t,ty,h,x,y,u,v,r,hx,hy,hr,dep,hdep=>by
  obtain ⟨k,rfl⟩:∃ k,dep=k+1:=⟨dep-1,by omega⟩
  simp only[fZ] at h;split at h
  ·rename_i kk hu;simp only[v6] at h;subst h;simp only[bW] at hr;split at hr
   ·split at hr
    ·simp only[v6] at hr;subst hr;rw[(dB hx).1,(dB hy).1];rename_i hk;rw[hk.1,hk.2];exact run_equalIn_int w k t kk kk _ _ hu
    ·cases hr
   ·cases hr
  ·rename_i hu;simp only[v6] at h;subst h;simp only[bW] at hr;split at hr
   ·simp only[v6] at hr;subst hr;rw[kS hx,kS hy];exact run_equalIn_bool' w k t _ _ hu
   ·cases hr
  ·rename_i hu;simp only[v6] at h;subst h;simp only[bW] at hr;split at hr
   ·simp only[v6] at hr;subst hr;rw[(gn hx).1,(gn hy).1];exact run_equalIn_string w k t _ _ hu
   ·cases hr
  ·rename_i fs hu;split at h
   ·rename_i hc;simp only[t7] at h;obtain ⟨l,hl,rfl⟩:=h;simp only[bW] at hr;split at hr
    ·obtain ⟨cs,rfl,h1⟩:=iW hx;obtain ⟨ds,rfl,h2⟩:=iW hy;have hf:P.fieldsOf t=fs:=by simp[Program.fieldsOf,hu]
     rw[run_equalIn_struct w k t _ _ (by rw[hf];exact hu) hc.1,hf];refine AR (g:=fun f=>match fZ P d f.type with | some ty=>if ty.size=P.cellsOf f.type then some ty else none | none=>none) (fun f ty hg =>?_) fs.toList l _ _ r [] cs [] ds hl (fun f hf =>?_) hc.2.2 rfl h1 h2 hr
     ·split at hg
      ·rename_i ty' hty;split at hg
       ·rename_i hs;simp only[v6] at hg;subst hg;exact ⟨hs,d,hty,fun x y u v r hx hy hr=>rZ d f.type _ hty x y u v r hx hy hr k (by omega)⟩
       ·cases hg
      ·cases hg
     ·have:=zx8.1 hc.2.1 f hf;simpa using this
    ·cases hr
   ·cases h
  ·rename_i n e hu;split at h
   ·rename_i ty' hty;split at h
    ·rename_i hc;simp only[v6] at h;subst h;simp only[bW] at hr;split at hr
     ·split at hr
      ·rename_i hl;obtain ⟨cs,rfl,h1⟩:=iW hx;obtain ⟨ds,rfl,h2⟩:=iW hy;obtain ⟨i,hi⟩:=zy4.1 hc.2;rw[run_equalIn_array w k _ _ hu hi,List.range_eq_range'];exact AS hty hc.1 (fun x y u v r hx hy hr=>rZ d e _ hty x y u v r hx hy hr k (by omega)) n 0 _ _ [] cs [] ds r hl.1 hl.2 (by simp) (by simp) h1 h2 hr
      ·cases hr
     ·cases hr
    ·cases h
   ·cases h
  ·cases h
end
section
variable {c:ct} {A:ae} {o:Oper} {x:I}
theorem Y0{P:Program}{w:World}{D:aH}{E:aN}(op:BinOp)(t:TypeId)(x y:Operand){a b:I}{ty:cm}{r:Bool}{u v:Value}(hr:bW ty a b=some r)(hx:aR w D E a u)(hm:P.eqGuardType P.depth t=false) :
  (eqGuard op t x y u v).run P w=.ok () w:=by
 have:u.oneCell'=true∧u≠.nilIface∨∃ cs,u=.agg cs:=by
  cases ty <;>simp only[bW] at hr <;>split at hr <;>first
   |(cases hr;done)
   |(left;rw[(dB hx).1];exact ⟨rfl,by simp⟩)
   |(left;rw[kS hx];exact ⟨rfl,by simp⟩)
   |(left;rw[(gn hx).1];exact ⟨rfl,by simp⟩)
   |(right;obtain ⟨cs,h,_⟩:=iW hx;exact ⟨_,h⟩)
 rcases this with ⟨h1,h2⟩ | ⟨cs,rfl⟩
 ·exact w7 op t x y h1 h2
 ·cases op <;>cases v <;>simp[eqGuard,run_program,hm]
theorem Hq{P:Program}{w:World}{D:aH}{E:aN}{neg:Bool}{t:TypeId}{a b:I}{ty:cm}{r:Bool}{u v:Value}(hr:bW ty a b=some r)(hx:aR w D E a u)(hy:aR w D E b v){dt:Nat}(hdt:dt≤10000)(hty:fZ P dt t=some ty) :
  (binOp (if neg then .neq else .eql) t u v).run P w=.ok (.bool (if neg then !r else r)) w:=by
 have he:=rZ (w:=w) (D:=D) (E:=E) dt t ty hty a b u v r hx hy hr 10000 hdt;cases ty <;>simp only[bW] at hr <;>split at hr <;>first | (cases hr;done) | skip
 ·rw[(dB hx).1,(dB hy).1] at *;split at hr
  ·rename_i hk;simp only[v6] at hr;subst hr;rw[hk.1,hk.2];cases neg <;>simp[binOp,Op.intCmp,bne]
  ·cases hr
 ·have e1:=kS hx;have e2:=kS hy;subst e1 e2;cases neg <;>simp only[binOp,if_true,zz3,if_false] <;>simp[Op.equal,Op.maxDepth,he]
 ·rw[(gn hx).1,(gn hy).1] at *;simp only[v6] at hr;subst hr;cases neg <;>simp[binOp,Op.stringOp]
 ·obtain ⟨cs,rfl,_⟩:=iW hx;obtain ⟨ds,rfl,_⟩:=iW hy;cases neg <;>simp only[if_true,zz3,if_false]
  ·rw[run_eql_struct,he];rfl
  ·rw[run_neq_struct,he];rfl
 ·obtain ⟨cs,rfl,_⟩:=iW hx;obtain ⟨ds,rfl,_⟩:=iW hy;cases neg <;>simp only[if_true,zz3,if_false]
  ·rw[run_eql_struct,he];rfl
  ·rw[run_neq_struct,he];rfl
theorem U0{neg:Bool}{t yt:TypeId}{y z:Operand}{y' z':ay}{ty:cm}{r:Bool}(ho:o.op=.binOp (if neg then .neq else .eql) t y z yt)(hy:aU c.P 0 y=some y')(hz:aU c.P 0 z=some z')(hg:c.P.eqGuardType c.P.depth t=false)
  (hty:fZ c.P 12 t=some ty) (h:bW ty (ah A y') (ah A z')=some r):cM c A o (.bool (if neg then !r else r)) :=
 .same fun a w D E hs=>by
  have h1:=bn hs hy;have h2:=bn hs hz;refine ⟨_,?_,kJ _⟩;simp only[execOp,ho,Sem.run_bind,Y0 _ t y z h h1 hg,Result.andThen_ok,Hq h h1 h2 (dt:=12) (by omega) hty];rfl
theorem vG{neg:Bool}{t yt e:TypeId}{y z:Operand}{y':ay}{sz:Nat}{r:Bool}(ho:o.op=.binOp (if neg then .neq else .eql) t y z yt)(hu:c.P.underlying t=some (.slice e))(hy:aU c.P 0 y=some y')(hz:aU c.P 0 z=some (.c (.nils sz)))
  (h:(∃ s,ah A y'=.nils s∧r=true)∨(∃ s es,ah A y'=.slice s es∧es≠[]∧r=false)∨(∃ n p s lo k,ah A y'=.view n p s lo k∧r=false)):cM c A o (.bool (if neg then !r else r)) :=
 .same fun a w D E hs=>by
  have h1:=bn hs hy;have h2:aR w D E (.nils sz) (a.eval z):=bn hs hz;have ab:a.eval z=.slice none 0 0:=by
   obtain ⟨cs,q1,q2⟩:=h2;simp only[af] at q2;simpa[ba,I.isAgg,q2] using q1.symm
  have hu':(∃ ad n cp,a.eval y=.slice ad n cp∧r=ad.isNone):=by
   rcases h with ⟨s,h,rfl⟩ | ⟨s,es,h,hne,rfl⟩ | ⟨n,p,s,lo,k,h,rfl⟩
   ·rw[h] at h1;obtain ⟨cs,q1,q2⟩:=h1;simp only[af] at q2;exact ⟨none,0,0,by simpa[ba,I.isAgg,q2] using q1.symm,rfl⟩
   ·rw[h] at h1;obtain ⟨ad,cap,e1,_,_,e4,_⟩:=kU h1;rcases e4 with e4 | ⟨b,off,cs,rfl,_,_⟩
    ·exact absurd e4 hne
    ·exact ⟨_,_,_,e1,rfl⟩
   ·rw[h] at h1;obtain ⟨cs,q1,q2⟩:=h1;simp only[af] at q2;obtain ⟨b,aL,off,l,_,_,_,q2,_⟩:=q2;exact ⟨_,_,_,by simpa[ba,I.isAgg,q2] using q1.symm,rfl⟩
  obtain ⟨ad,n,cp,hyv,rfl⟩:=hu';have he:∀ d,(Op.equalIn (d+1) t (.slice ad n cp) (.slice none 0 0)).run c.P w=.ok ad.isNone w:=fun d=>by
   cases ad <;>simp[Op.equalIn,run_underlying hu]
  refine ⟨.bool (if neg then !ad.isNone else ad.isNone),?_,kJ _⟩;cases neg <;>simp only[execOp,ho,hyv,ab,if_true,zz3,if_false,Sem.run_bind,eqGuard] <;>simp[binOp,Op.equal,Op.maxDepth,he]
end
def gp(c:ct)(A:ae)(o:Oper)(B:ae):Prop :=
 ∀ a w D E,aM c A a w D E→∃ w',((∃ v,(execOp a.eval o).run c.P w=.ok (.value v) w'∧bE c B (a.put o.dst v) w')∨((execOp a.eval o).run c.P w=.ok .skip w'∧bE c B (a.put o.dst undef) w'))
section
variable {c:ct} {A:ae} {o:Oper} {x:I}
theorem cM.does(h:cM c A o x)(hd:∀ k,o.dst=some k→k<c.n):gp c A o (A.aP o.dst x):=by
 intro a w D E hs;obtain ⟨v,w',D',h1,h2,h3⟩:=h a w D E hs;exact ⟨w',.inl ⟨v,h1,D',E,h2.aP hd h3⟩⟩
theorem L2{t:TypeId}{z:I}{d:Nat}(ho:o.op=.alloc t)(hz:fm c.P t=some z)(hd:o.dst=some d)(hn:d<c.n)(hf:A.o d=none):gp c A o ((A.aQ d (.box z)).put d (.ptr d [])):=by
 intro a w D E hs;obtain ⟨i,zv,hi,hzv,hzr⟩:=kj hz;have h1:=hs.qx (T:=t) (.inl hn) hf (hzr w D E);have h2:=h1.put (x:=.ptr d []) (v:=.pointer (some ⟨w.heap.size,0,none⟩)) hn ⟨_,by simp[ba,I.isAgg];rfl,by
  simp only[af,if_true];exact ⟨w.heap.size,z.aL,0,rfl,by cases z.aL <;>simp[bP.off],rfl⟩⟩
 exact ⟨w.alloc (.cells zv.cells t),.inl ⟨.pointer (some ⟨w.heap.size,0,none⟩),by simp[execOp,ho,Instr.alloc,zeroValue,typeInfo,hi,hzv,newVar,newRow],D,_,by rw[hd];exact h2⟩⟩
theorem L7{t:TypeId}{y:Operand}{y':ay}{d:Nat}(ho:o.op=.box t y)(hy:aU c.P t y=some y')(ab:(ah A y').cC=true)(hd:o.dst=some d)(hn:d<c.n)(hf:A.o d=none) :
  gp c A o ((A.aQ d (.box (ah A y'))).put d (.ptr d [])):=by
 intro a w D E hs;obtain ⟨cs,k1,k2⟩:∃ cs,ba (ah A y') (a.eval y) cs∧af w D E (ah A y') cs:=by
  have h:=bn hs hy;generalize ah A y'=z at *;cases z <;>simp[I.cC] at ab <;>exact h
 have hc:=k1.cells k2;rw[←hc] at k2;have h1:=hs.qx (T:=t) (.inl hn) hf k2;have h2:=h1.put (x:=.ptr d []) (v:=.pointer (some ⟨w.heap.size,0,none⟩)) hn ⟨_,by simp[ba,I.isAgg];rfl,by
  simp only[af,if_true];exact ⟨w.heap.size,(ah A y').aL,0,rfl,by cases (ah A y').aL <;>simp[bP.off],rfl⟩⟩
 exact ⟨w.alloc (.cells (a.eval y).cells t),.inl ⟨.pointer (some ⟨w.heap.size,0,none⟩),by simp[execOp,ho,Instr.box,newVar,newRow],D,_,by rw[hd];exact h2⟩⟩
theorem Mg{t:TypeId}{y z:Operand}{y' z':ay}{s:Option Nat}{n:Nat}{p:List Nat}{b old:I}(ho:o.op=.store t y z)(hk:fh c.P t=some s)(hk1:s.isSome=true∨c.P.cellsOf t=1)(hy:aU c.P 0 y=some y')(hz:aU c.P t z=some z')
  (hp:ah A y'=.ptr n p) (hb:A.o n=some (.box b)) (hat:b.at p=some old) (ab:(ah A z').cC=true) (hok:bN s (ah A z')=true) (hsh:(ah A z').aL=old.aL) (hd:o.dst=none) :
  gp c A o (A.aQ n (.box (b.dI p (ah A z')))):=by
 intro a w D E hs;have h1:=bn hs hy;rw[hp] at h1;obtain ⟨bb,aL,off,h2,h3,h4⟩:=kT h1;obtain ⟨b',cs,T,k1,k2,k3,k4,k5⟩:=hs.box hb;rw[k1] at h2;simp only[v6,bw.aE.injEq] at h2;obtain ⟨rfl,rfl⟩:=h2;obtain ⟨ds,q1,q2⟩:∃ ds,ba (ah A z') (a.eval z) ds∧af w D E (ah A z') ds:=by
  have h:=bn hs hz;generalize ah A z'=zz at *;cases zz <;>simp[I.cC] at ab <;>exact h
 have hc:=q1.cells q2;obtain ⟨off',p1,p2,p3,p4⟩:=tl p b old _ _ ds k4 hat q2 hsh;rw[h3,v6] at p1;subst p1;have hl:=af.length _ _ q2;obtain ⟨i,hi⟩:=sB hk;have hsz:ds.length=c.P.cellsOf t:=by
  cases s with
  |none =>
   simp only[bN,Bool.not_eq_true'] at hok;have:(ah A z').size=1:=by generalize ah A z'=zz at *;cases zz <;>simp_all[I.isAgg,I.size]
   rw[hl,this];rcases hk1 with h | h
   ·cases h
   ·exact h.symm
  |some m =>
   simp only[bN,Z7,beq_iff_eq] at hok;rw[hl,hok.2,vT hk]
 have hcs:(a.eval z).cells.size=ds.length:=by rw[←hc,zx6]
 have hrun:=tE c.P b' off T ds 0 cs w k3 (by rw[zx6] at p2;omega) (af.kL _ _ q2);simp only[Nat.add_zero] at hrun;have hs2:=hs.xj (y:=b.dI p (ah A z')) (cs':=(cs.toList.take off++ds++cs.toList.drop (off+ds.length)).toArray) hb k1 p4 (by simpa using p3);refine ⟨w.setRow b' (cs.toList.take off++ds++cs.toList.drop (off+ds.length)).toArray,.inr ⟨?_,D,E,?_⟩⟩
 ·have e:(a.eval z).cells.toList=ds:=hc;have hg:¬ (a.eval z).cells.size≠c.P.cellsOf t:=by rw[hcs,hsz];simp
  simp only[execOp,ho,h4,Instr.storeAt,Instr.sureAddr,storeVar,Sem.run_bind,Sem.run_pure,Result.andThen_ok,gT hi,Sem.run_ite,if_neg hg,e,hrun]
 ·rw[hd];exact hs2
end
section
variable {c:ct} {A:ae} {a:Act} {w:World} {D:aH} {E:aN}
theorem aM.Bh(h:aM c A a w D E){n:Nat}{T:TypeId}{sz cap:Nat}{es ys:List I}{pre news rest:List Value}{cs:Array Value}{aB:Option (Nat×Nat)}(hn:A.o n=some (.bF T sz es))(aq:E n=some (.rw aB es.length))(hes:aA w D E es pre)
  (hys:aA w D E ys news) (hysz:∀ e∈ys,e.size=sz) (hne:ys≠[]) (hcs:cs.toList=(pre++news)++rest) (hsize:cs.size=cap*sz) (hlen:es.length+ys.length≤cap) (hcap:cap≤maxLen) :
  aM c (A.aQ n (.bF T sz (es++ys))) a (w.drew.alloc (.cells cs T)) D (fun m=>if m=n then some (.rw (some (w.heap.size,cap)) (es.length+ys.length)) else E m):=by
 have hlast:0<ys.length:=List.length_pos_iff.2 hne;have hheap:∀ b,b<w.heap.size→(w.drew.alloc (.cells cs T)).heap[b]?=w.heap[b]?:=fun b hb=>Below.heap_alloc w.drew _ b hb;have hl:dy w D E (w.drew.alloc (.cells cs T)) D (fun m=>if m=n then some (.rw (some (w.heap.size,cap)) (es.length+ys.length)) else E m):=by
  have eI:∀ {m:Nat} {e:bw},E m=some e→e.eB=true→(if m=n then some (.rw (some (w.heap.size,cap)) (es.length+ys.length)) else E m)=some e:=fun {m e} he hfx=>by
   have:m≠n:=fun e=>by rw[e,aq] at he;cases he;cases hfx
   rw[if_neg this];exact he
  refine ⟨fun _ _ h=>h,fun b o v _ ab =>?_,fun m b aL he=>eI he rfl,fun m blk' l he =>?_,fun m b he=>eI he rfl,fun m b he=>eI he rfl,fun b es ck _ hm=>(hheap b (eR hm)).trans hm⟩
  ·rw[World.cell?_of_block (hheap b (World.block_lt_of_cell? w _ ab))];exact ab
  ·by_cases hm:m=n
   ·subst hm;rw[aq] at he;simp only[v6,bw.rw.injEq] at he;exact ⟨_,_,if_pos rfl,by omega,fun e=>by omega⟩
   ·exact ⟨blk',l,by simp only[if_neg hm];exact he,zz2 _,fun _=>rfl⟩
 have hown:=h.bD n;rw[hn] at hown;obtain ⟨blk1,hb1,hb2,_⟩:=hown;refine ⟨h.sz,h.er.mono fun B _ hB=>(hheap B (zy1.1 hB).1).trans hB,fun t=>aR.later hl (h.dK t),h.dn.trans ⟨rfl,rfl,rfl,by simp,fun k hk=>hheap k (h.old hk)⟩,h.cO,fun b o hd'=>by have:=h.cS b o hd';simp;omega,fun m =>?_,?_,fun m e hm =>?_,h.eN,h.cE,h.eV,h.kh hl⟩
 ·simp only[ae.aQ];by_cases hm:m=n
  ·subst hm;simp only[if_true,c6];refine ⟨some (w.heap.size,cap),by simp,fun e he =>?_,?_⟩
   ·rcases zy2.1 he with he | he
    ·exact hb2 e he
    ·exact hysz e he
   ·refine ⟨cs,pre++news,rest,.inl h.dn.size,heap_alloc_new w.drew _,hcs,?_,hsize,by simpa using hlen,hcap,fun o ho=>absurd (h.cS _ o ho) (Nat.lt_irrefl _)⟩;exact aA.later hl _ _ (jl _ _ _ _ hes hys)
  ·simp only[if_neg hm];exact (h.bD m).later hl (by simp only[if_neg hm]) fun e b he hb=>⟨hheap b (h.fp he hb),fun _ ho=>ho⟩
 ·intro m m' e e' b h1 h2 h3 h4;by_cases hm:m=n <;>by_cases hm':m'=n
  ·rw[hm,hm']
  ·simp only[if_pos hm,v6] at h1;simp only[if_neg hm'] at h2;subst h1;simp only[bw.aB,v6] at h3;have:=h.fp h2 h4;omega
  ·simp only[if_neg hm] at h1;simp only[if_pos hm',v6] at h2;subst h2;simp only[bw.aB,v6] at h4;have:=h.fp h1 h3;omega
  ·simp only[if_neg hm] at h1;simp only[if_neg hm'] at h2;exact h.cD m m' e e' b h1 h2 h3 h4
 ·by_cases hmn:m=n
  ·subst hmn;rcases h.dG _ _ hm with k | ⟨e',k,hle⟩
   ·rw[aq] at k;cases k
   ·rw[aq] at k;cases k;exact .inr ⟨_,if_pos rfl,hle.trans (.inr ⟨_,_,_,_,rfl,rfl,by omega,fun e=>by omega⟩)⟩
  ·simp only[if_neg hmn];exact h.dG _ _ hm
theorem aM.XQ(h:aM c A a w D E){n:Nat}{T:TypeId}{sz b cap:Nat}{es ys:List I}{pre news rest:List Value}{cs:Array Value}(hn:A.o n=some (.bF T sz es))(aq:E n=some (.rw (some (b,cap)) es.length))(hb:w.heap[b]?=some (.cells cs T (0,0)))
  (hcs:cs.toList=pre++rest) (hes:aA w D E es pre) (hys:aA w D E ys news) (hysz:∀ e∈ys,e.size=sz) (hne:ys≠[]) (hsize:cs.size=cap*sz) (hlen:es.length+ys.length≤cap) (hcap:cap≤maxLen) (hD:∀ o,D b o→o<pre.length) (hbase:c.eA b) :
  aM c (A.aQ n (.bF T sz (es++ys))) a (w.setRow b (pre++news++rest.drop news.length).toArray) D (fun m=>if m=n then some (.rw (some (b,cap)) (es.length+ys.length)) else E m):=by
 have hlast:0<ys.length:=List.length_pos_iff.2 hne;have hown:=h.bD n;rw[hn] at hown;obtain ⟨blk1,hb1,hb2,_⟩:=hown;have hnl:news.length=ys.length*sz:=by rw[aA.length _ _ hys,I.gF _ hysz]
 have hpl:pre.length=es.length*sz:=by rw[aA.length _ _ hes,I.gF _ hb2]
 have hl:dy w D E (w.setRow b (pre++news++rest.drop news.length).toArray) D (fun m=>if m=n then some (.rw (some (b,cap)) (es.length+ys.length)) else E m):=by
  have eI:∀ {m:Nat} {e:bw},E m=some e→e.eB=true→(if m=n then some (.rw (some (b,cap)) (es.length+ys.length)) else E m)=some e:=fun {m e} he hfx=>by
   have:m≠n:=fun e=>by rw[e,aq] at he;cases he;cases hfx
   rw[if_neg this];exact he
  refine ⟨fun _ _ h=>h,fun b1 o v hd ab =>?_,fun m b aL he=>eI he rfl,fun m blk' l he =>?_,fun m b he=>eI he rfl,fun m b he=>eI he rfl,fun b1 es ck _ hm=>(setRow_other w b b1 _ (fun e=>by rw[e,hb] at hm;cases hm)).trans hm⟩
  ·by_cases hbb:b1=b
   ·subst hbb;have ho:=hD o hd;have h1:=setRow_heap w b1 cs (pre++news++rest.drop news.length).toArray T _ hb;rw[cell_of_row _ b1 o _ T (0,0) h1];rw[cell_of_row _ b1 o _ T (0,0) hb] at ab;have e1:cs[o]?=pre[o]?:=by rw[←zx0,hcs,zy6 ho]
    rw[←ab,e1];simp only[List.getElem?_toArray,zz0];rw[zy6 ho]
   ·rw[uQ _ _ _ _ hbb];exact ab
  ·by_cases hm:m=n
   ·subst hm;rw[aq] at he;simp only[v6,bw.rw.injEq] at he;exact ⟨_,_,if_pos rfl,by omega,fun e=>by omega⟩
   ·exact ⟨blk',l,by simp only[if_neg hm];exact he,zz2 _,fun _=>rfl⟩
 refine ⟨h.sz,h.er.mono fun B _ hB=>(setRow_other w b B _ (fun e=>by rw[e,hb] at hB;cases hB)).trans hB,fun t=>aR.later hl (h.dK t),vQ h.dn hbase _,h.cO,fun b1 o hd=>by have:=h.cS b1 o hd;simpa[World.setRow] using this,fun m =>?_,?_,fun m e hm =>?_,h.eN,h.cE,h.eV,h.kh hl⟩
 ·simp only[ae.aQ];by_cases hm:m=n
  ·subst hm;simp only[if_true,c6];refine ⟨some (b,cap),by simp,fun e he =>?_,?_⟩
   ·rcases zy2.1 he with he | he
    ·exact hb2 e he
    ·exact hysz e he
   ·refine ⟨_,pre++news,rest.drop news.length,hbase,setRow_heap w b cs _ T _ hb,by simp,aA.later hl _ _ (jl _ _ _ _ hes hys),?_,by simpa using hlen,hcap,fun o ho =>?_⟩
    ·have e1:cs.size=pre.length+rest.length:=by rw[←zx6,hcs,Z8]
     have e2:news.length+pre.length≤cs.size:=by
      rw[hsize,hnl,hpl,←Nat.add_mul];exact Nat.mul_le_mul_right _ (by omega)
     simp only[List.size_toArray,Z8,zv1];omega
    ·have:=hD o ho;rw[Z8];omega
  ·simp only[if_neg hm];refine (h.bD m).later hl (by simp only[if_neg hm]) fun e b1 he hb'=>⟨setRow_other w b b1 _ (fun e1=>hm (h.cD m n e _ b he aq (by rw[hb',e1]) rfl)),fun _ ho=>ho⟩
 ·intro m m' e e' b' h1 h2 h3 h4;by_cases hm:m=n <;>by_cases hm':m'=n
  ·rw[hm,hm']
  ·simp only[if_pos hm,v6] at h1;simp only[if_neg hm'] at h2;subst h1;exact absurd (h.cD m' n e' _ b' h2 aq h4 h3) hm'
  ·simp only[if_neg hm] at h1;simp only[if_pos hm',v6] at h2;subst h2;exact absurd (h.cD m n e _ b' h1 aq h3 h4) hm
  ·simp only[if_neg hm] at h1;simp only[if_neg hm'] at h2;exact h.cD m m' e e' b' h1 h2 h3 h4
 ·by_cases hmn:m=n
  ·subst hmn;rcases h.dG _ _ hm with k | ⟨e',k,hle⟩
   ·rw[aq] at k;cases k
   ·rw[aq] at k;cases k;exact .inr ⟨_,if_pos rfl,hle.trans (.inr ⟨_,_,_,_,rfl,rfl,by omega,fun e=>by omega⟩)⟩
  ·simp only[if_neg hmn];exact h.dG _ _ hm
theorem FV(n:Nat):(Builtin.zeroCells #[Value.int .i64 0] n).toList=(List.replicate n (0:Int)).map (Value.int .i64):=by
 simp only[Builtin.zeroCells,List.size_toArray,List.length_singleton,Nat.mul_one,Nat.mod_one,List.map_replicate];apply List.ext_getElem?;intro k;simp[List.getElem?_replicate];by_cases h:k<n
 ·rw[if_pos h,List.getElem?_range h];rfl
 ·rw[if_neg h,List.getElem?_eq_none (by simpa using h)];rfl
theorem Eo{w:World}{D:aH}{E:aN} : ∀ {xs:List Int} {cs:List Value},aA w D E (xs.map (I.int .i64)) cs→cs=xs.map (Value.int .i64)∧∀ x∈xs,IntKind.i64.min≤x∧x≤IntKind.i64.max
 | [],cs,h=>by
  simp only[zy5,aA] at h;subst h;exact ⟨rfl,by simp⟩
 |x::xs,cs,h=>by
  simp only[zz1,aA] at h;obtain ⟨c1,c2,rfl,h1,h2⟩:=h;obtain ⟨rfl,h3⟩:=Eo h2;have h1':c1=[.int .i64 x]∧IntKind.i64.min≤x∧x≤IntKind.i64.max:=h1;obtain ⟨rfl,h4⟩:=h1';refine ⟨rfl,fun y hy =>?_⟩;rcases zy8.1 hy with rfl | hy
  ·exact h4
  ·exact h3 y hy
theorem aM.Bi(h:aM c A a w D E){n:Nat}{T:TypeId}{cap m':Nat}{es ys:List Int}{cs:Array Value}{aB:Option (Nat×Nat)}(hn:A.o n=some (.dW T es))(aq:E n=some (.rw aB es.length))(hr:∀ x∈es++ys,IntKind.i64.min≤x∧x≤IntKind.i64.max)
  (hne:ys≠[]) (hcs:cs.toList=(es++ys++List.replicate m' 0).map (Value.int .i64)) (hlen:es.length+ys.length+m'=cap) (hcap:cap≤maxLen) :
  aM c (A.aQ n (.dW T (es++ys))) a (w.drew.alloc (.cells cs T)) D (fun m=>if m=n then some (.rw (some (w.heap.size,cap)) (es.length+ys.length)) else E m):=by
 have hlast:0<ys.length:=List.length_pos_iff.2 hne;have hheap:∀ b,b<w.heap.size→(w.drew.alloc (.cells cs T)).heap[b]?=w.heap[b]?:=fun b hb=>Below.heap_alloc w.drew _ b hb;have hl:dy w D E (w.drew.alloc (.cells cs T)) D (fun m=>if m=n then some (.rw (some (w.heap.size,cap)) (es.length+ys.length)) else E m):=by
  have eI:∀ {m:Nat} {e:bw},E m=some e→e.eB=true→(if m=n then some (.rw (some (w.heap.size,cap)) (es.length+ys.length)) else E m)=some e:=fun {m e} he hfx=>by
   have:m≠n:=fun e=>by rw[e,aq] at he;cases he;cases hfx
   rw[if_neg this];exact he
  refine ⟨fun _ _ h=>h,fun b o v _ ab =>?_,fun m b aL he=>eI he rfl,fun m blk' l he =>?_,fun m b he=>eI he rfl,fun m b he=>eI he rfl,fun b es ck _ hm=>(hheap b (eR hm)).trans hm⟩
  ·rw[World.cell?_of_block (hheap b (World.block_lt_of_cell? w _ ab))];exact ab
  ·by_cases hm:m=n
   ·subst hm;rw[aq] at he;simp only[v6,bw.rw.injEq] at he;exact ⟨_,_,if_pos rfl,by omega,fun e=>by omega⟩
   ·exact ⟨blk',l,by simp only[if_neg hm];exact he,zz2 _,fun _=>rfl⟩
 refine ⟨h.sz,h.er.mono fun B _ hB=>(hheap B (zy1.1 hB).1).trans hB,fun t=>aR.later hl (h.dK t),h.dn.trans ⟨rfl,rfl,rfl,by simp,fun k hk=>hheap k (h.old hk)⟩,h.cO,fun b o hd'=>by have:=h.cS b o hd';simp;omega,fun m =>?_,?_,fun m e hm =>?_,h.eN,h.cE,h.eV,h.kh hl⟩
 ·simp only[ae.aQ];by_cases hm:m=n
  ·subst hm;simp only[if_true,c6];exact ⟨some (w.heap.size,cap),by simp,hr,cs,m',.inl h.dn.size,heap_alloc_new w.drew _,hcs,by simp[hne],by simp only[Z8];exact hlen,hcap,fun o ho=>absurd (h.cS _ o ho) (Nat.lt_irrefl _)⟩
  ·simp only[if_neg hm];exact (h.bD m).later hl (by simp only[if_neg hm]) fun e b he hb=>⟨hheap b (h.fp he hb),fun _ ho=>ho⟩
 ·intro m m' e e' b h1 h2 h3 h4;by_cases hm:m=n <;>by_cases hm':m'=n
  ·rw[hm,hm']
  ·simp only[if_pos hm,v6] at h1;simp only[if_neg hm'] at h2;subst h1;simp only[bw.aB,v6] at h3;have:=h.fp h2 h4;omega
  ·simp only[if_neg hm] at h1;simp only[if_pos hm',v6] at h2;subst h2;simp only[bw.aB,v6] at h4;have:=h.fp h1 h3;omega
  ·simp only[if_neg hm] at h1;simp only[if_neg hm'] at h2;exact h.cD m m' e e' b h1 h2 h3 h4
 ·by_cases hmn:m=n
  ·subst hmn;rcases h.dG _ _ hm with k | ⟨e',k,hle⟩
   ·rw[aq] at k;cases k
   ·rw[aq] at k;cases k;exact .inr ⟨_,if_pos rfl,hle.trans (.inr ⟨_,_,_,_,rfl,rfl,by omega,fun e=>by omega⟩)⟩
  ·simp only[if_neg hmn];exact h.dG _ _ hm
theorem aM.XR(h:aM c A a w D E){n:Nat}{T:TypeId}{b cap m':Nat}{es ys:List Int}{cs:Array Value}(hn:A.o n=some (.dW T es))(aq:E n=some (.rw (some (b,cap)) es.length))(hb:w.heap[b]?=some (.cells cs T (0,0)))
  (hr:∀ x∈es++ys,IntKind.i64.min≤x∧x≤IntKind.i64.max) (hne:ys≠[]) (hlen:es.length+ys.length+m'=cap) (hcap:cap≤maxLen) (hD:∀ o,¬ D b o) (hbase:c.eA b) :
  aM c (A.aQ n (.dW T (es++ys))) a (w.setRow b ((es++ys++List.replicate m' 0).map (Value.int .i64)).toArray) D (fun m=>if m=n then some (.rw (some (b,cap)) (es.length+ys.length)) else E m):=by
 have hlast:0<ys.length:=List.length_pos_iff.2 hne;have hl:dy w D E (w.setRow b ((es++ys++List.replicate m' 0).map (Value.int .i64)).toArray) D (fun m=>if m=n then some (.rw (some (b,cap)) (es.length+ys.length)) else E m):=by
  have eI:∀ {m:Nat} {e:bw},E m=some e→e.eB=true→(if m=n then some (.rw (some (b,cap)) (es.length+ys.length)) else E m)=some e:=fun {m e} he hfx=>by
   have:m≠n:=fun e=>by rw[e,aq] at he;cases he;cases hfx
   rw[if_neg this];exact he
  refine ⟨fun _ _ h=>h,fun b1 o v hd ab =>?_,fun m b aL he=>eI he rfl,fun m blk' l he =>?_,fun m b he=>eI he rfl,fun m b he=>eI he rfl,fun b1 es ck _ hm=>(setRow_other w b b1 _ (fun e=>by rw[e,hb] at hm;cases hm)).trans hm⟩
  ·by_cases hbb:b1=b
   ·subst hbb;exact absurd hd (hD o)
   ·rw[uQ _ _ _ _ hbb];exact ab
  ·by_cases hm:m=n
   ·subst hm;rw[aq] at he;simp only[v6,bw.rw.injEq] at he;exact ⟨_,_,if_pos rfl,by omega,fun e=>by omega⟩
   ·exact ⟨blk',l,by simp only[if_neg hm];exact he,zz2 _,fun _=>rfl⟩
 refine ⟨h.sz,h.er.mono fun B _ hB=>(setRow_other w b B _ (fun e=>by rw[e,hb] at hB;cases hB)).trans hB,fun t=>aR.later hl (h.dK t),vQ h.dn hbase _,h.cO,fun b1 o hd=>by have:=h.cS b1 o hd;simpa[World.setRow] using this,fun m =>?_,?_,fun m e hm =>?_,h.eN,h.cE,h.eV,h.kh hl⟩
 ·simp only[ae.aQ];by_cases hm:m=n
  ·subst hm;simp only[if_true,c6];exact ⟨some (b,cap),by simp,hr,_,m',hbase,setRow_heap w b cs _ T _ hb,by simp,by simp[hne],by simp only[Z8];exact hlen,hcap,hD⟩
  ·simp only[if_neg hm];refine (h.bD m).later hl (by simp only[if_neg hm]) fun e b1 he hb'=>⟨setRow_other w b b1 _ (fun e1=>hm (h.cD m n e _ b he aq (by rw[hb',e1]) rfl)),fun _ ho=>ho⟩
 ·intro m m' e e' b' h1 h2 h3 h4;by_cases hm:m=n <;>by_cases hm':m'=n
  ·rw[hm,hm']
  ·simp only[if_pos hm,v6] at h1;simp only[if_neg hm'] at h2;subst h1;exact absurd (h.cD m' n e' _ b' h2 aq h4 h3) hm'
  ·simp only[if_neg hm] at h1;simp only[if_pos hm',v6] at h2;subst h2;exact absurd (h.cD m n e _ b' h1 aq h3 h4) hm
  ·simp only[if_neg hm] at h1;simp only[if_neg hm'] at h2;exact h.cD m m' e e' b' h1 h2 h3 h4
 ·by_cases hmn:m=n
  ·subst hmn;rcases h.dG _ _ hm with k | ⟨e',k,hle⟩
   ·rw[aq] at k;cases k
   ·rw[aq] at k;cases k;exact .inr ⟨_,if_pos rfl,hle.trans (.inr ⟨_,_,_,_,rfl,rfl,by omega,fun e=>by omega⟩)⟩
  ·simp only[if_neg hmn];exact h.dG _ _ hm
end
section
variable {c:ct} {A:ae} {o:Oper}
theorem L3{t e:TypeId}{s x:Operand}{s' x':ay}{n k sz:Nat}{es ys:List I}{z:I}(ho:o.op=.call { callee:=.builtin .append,args := #[s,x],argTypes := #[t,t] })(ht:c.P.underlying t=some (.slice e))(hs':aU c.P t s=some s')(hx':aU c.P t x=some x')
  (hz:fm c.P e=some z) (hzs:z.size=c.P.cellsOf e) (hpos:0<c.P.cellsOf e) (hs:ah A s'=.own n k) (hn:A.o n=some (.bF e (c.P.cellsOf e) es)) (hk:k=es.length) (hx:ah A x'=.slice sz ys) (hsz:sz=c.P.cellsOf e) (hne:ys≠[])
  (h63:es.length+ys.length≤maxLen) (hby:(es.length+ys.length)*c.P.bytesOf e≤140737488355328) (hd:∀ k,o.dst=some k→k<c.n) :
  gp c A o ((A.aQ n (.bF e (c.P.cellsOf e) (es++ys))).aP o.dst (.own n (es.length+ys.length))):=by
 intro a w D E hsim;obtain ⟨i,zv,hi,hzv,hzr⟩:=kj hz;have hci:c.P.cellsOf e=i.size:=by simp[Program.cellsOf,hi]
 have hbi:c.P.bytesOf e=i.bytes:=by simp[Program.bytesOf,hi]
 have hzc:zv.cells.size=i.size:=by
  have:=af.length _ _ (hzr w D E);rw[zx6] at this;rw[this,hzs,hci]
 subst hk;have v1:=bn hsim hs';rw[hs] at v1;have v2:=bn hsim hx';rw[hx] at v2;obtain ⟨ad,cp,hxv,hc1,hc2,hc3,hc4⟩:=kU v2;obtain ⟨b2,off2,news,rfl,hr2,hys⟩:=hc3.resolve_left hne;have hobj:=hsim.bD n;rw[hn] at hobj;obtain ⟨aB,aq,hesz,hblk⟩:=hobj;have hnl:news.length=ys.length*i.size:=by rw[aA.length _ _ hys,I.gF _ hc4,hsz,hci]
 have hysz:∀ y∈ys,y.size=c.P.cellsOf e:=fun y hy=>by rw[hc4 y hy,hsz]
 have hnews:∀ j v,news[j]?=some v→w.cell? ((⟨b2,off2,none⟩:Addr).add j)=some v:=fun j v hj=>by
  rw[Addr.add_lit];exact (hr2 j v hj).1
 have h1:=aA.kL _ _ hys;have hsv:match aB with | none=>a.eval s=.slice none 0 0 | some (b,cap)=>a.eval s=.slice (some ⟨b,0,none⟩) es.length cap:=by
  obtain ⟨cs,q1,q2⟩:=v1;simp only[af] at q2;obtain ⟨blk',l,q3,q4,q5,q6⟩:=q2;rw[aq] at q3;simp only[v6,bw.rw.injEq] at q3;obtain ⟨rfl,rfl⟩:=q3;have q7:=q6 rfl;simp only[ba,I.isAgg] at q1;cases aB with
  |none=>simp only at q7 ⊢;rw[q7] at q1;simpa using q1.symm
  |some bc=>simp only at q7 ⊢;rw[q7] at q1;simpa using q1.symm
 have hl0:0<ys.length:=List.length_pos_iff.2 hne;have h63':=h63;simp only[maxLen] at h63';have run:∀ v' w',(Builtin.append_ #[t,t] o.type #[a.eval s,.slice (some ⟨b2,off2,none⟩) ys.length cp]).run c.P w=.ok v' w'→(execOp a.eval o).run c.P w=.ok (.value v') w':=by
  intro v' w' hr;unfold execOp;simp only[ho,resolve,invoke,builtin,Sem.run_bind,Sem.run_pure,Result.andThen_ok,List.map_toArray,zz1,zy5,hxv,hr]
 have put:∀ (w':World) (b cap:Nat) (v':Value),v'=.slice (some ⟨b,0,none⟩) (es.length+ys.length) cap→aM c (A.aQ n (.bF e (c.P.cellsOf e) (es++ys))) a w' D (fun m=>if m=n then some (.rw (some (b,cap)) (es.length+ys.length)) else E m) →
   bE c ((A.aQ n (.bF e (c.P.cellsOf e) (es++ys))).aP o.dst (.own n (es.length+ys.length))) (a.put o.dst v') w':=by
  rintro w' b cap v' rfl hs2;refine ⟨D,_,hs2.aP hd ⟨_,by simp[ba,I.isAgg];rfl,?_⟩⟩;simp only[af,if_true];exact ⟨some (b,cap),es.length+ys.length,rfl,zz2 _,⟨_,_,_,rfl⟩,fun _=>rfl⟩
 cases aB with
 |none =>
  simp only at hblk hsv;subst hblk;have hr:=run_append_nil (P:=c.P) w t o.type e i zv ht hi hzv ⟨b2,off2,none⟩ ys.length cp news hnl hnews hl0 (by simp at h63';omega) (by rw[hbi] at hby;simp at hby;omega);rw[←hsv] at hr;have hge:=grownCap_ge w ys.length 0 e;refine ⟨_,.inl ⟨_,run _ _ hr,put _ w.heap.size (grownCap w ys.length 0 e) _ (by simp) ?_⟩⟩;refine hsim.Bh (pre:=[]) (news:=news) (rest:=(Builtin.zeroCells zv.cells (grownCap w ys.length 0 e-ys.length)).toList) hn aq (by simp[aA]) hys hysz hne (by simp) ?_ (by simpa using hge) (grownCap_le_maxLen w ys.length 0 e (by simpa using h63));simp only[Array.size_append,List.size_toArray,size_zeroCells,hzc,hnl,hci,←Nat.add_mul]
  congr 1
  omega
 |some bc =>
  obtain ⟨b,cap⟩:=bc;simp only at hblk hsv;obtain ⟨cs,pre,rest,k1,k2,k3,k4,k5,k6,k7,k8⟩:=hblk;have hpl:pre.length=es.length*i.size:=by rw[aA.length _ _ k4,I.gF _ hesz,hci]
  by_cases hroom:es.length+ys.length≤cap
  ·have hfit:es.length*i.size+news.length≤cs.size:=by rw[hnl,k5,hci,←Nat.add_mul];exact Nat.mul_le_mul_right _ hroom
   have hr:=run_append_room (P:=c.P) w t o.type e i ht hi b es.length cap cs k2 ⟨b2,off2,none⟩ ys.length cp news hnl hnews h1 hroom hfit;rw[←hsv] at hr;refine ⟨_,.inl ⟨_,run _ _ hr,put _ b cap _ rfl ?_⟩⟩;have e1:cs.toList.take (es.length*i.size)=pre:=by rw[k3,←hpl];exact List.take_left
   have e2:cs.toList.drop (es.length*i.size+news.length)=rest.drop news.length:=by rw[k3,←hpl,←List.drop_drop,List.drop_left]
   rw[e1,e2];exact hsim.XQ hn aq k2 k3 k4 hys hysz hne k5 hroom k7 k8 k1
  ·have holds:∀ j v,pre[j]?=some v→w.cell? ((⟨b,0,none⟩:Addr).add j)=some v:=fun j v hj=>by
    rw[Addr.add_lit,zz5,cell_of_row w b j cs e (0,0) k2,←zx0,k3];have:j<pre.length:=(zz6.1 hj).1;rw[zy6 this];exact hj
   have hr:=run_append_grow (P:=c.P) w t o.type e i zv ht hi hzv ⟨b,0,none⟩ es.length cap pre hpl holds ⟨b2,off2,none⟩ ys.length cp news hnl hnews (by omega) (by omega) (growslice_fits (by omega) (by rw[←hbi];exact hby));rw[←hsv] at hr;have hge:=grownCap_ge w (es.length+ys.length) cap e;refine ⟨_,.inl ⟨_,run _ _ hr,put _ w.heap.size (grownCap w (es.length+ys.length) cap e) _ rfl ?_⟩⟩;refine hsim.Bh (pre:=pre) (news:=news) (rest:=(Builtin.zeroCells zv.cells (grownCap w (es.length+ys.length) cap e-(es.length+ys.length))).toList) hn aq k4 hys hysz hne (by simp) ?_ hge (grownCap_le_maxLen w _ cap e h63);simp only[Array.size_append,List.size_toArray,size_zeroCells,hzc,hnl,hpl,hci,←Nat.add_mul]
   congr 1
   omega
theorem L4{t e:TypeId}{s x:Operand}{s' x':ay}{n k sz:Nat}{es ys:List Int}(ho:o.op=.call { callee:=.builtin .append,args := #[s,x],argTypes := #[t,t] })(ht:c.P.underlying t=some (.slice e))(hs':aU c.P t s=some s')(hx':aU c.P t x=some x')
  (hz:fm c.P e=some (.int .i64 0)) (h1c:c.P.cellsOf e=1) (hs:ah A s'=.own n k) (hn:A.o n=some (.dW e es)) (hk:k=es.length) (hx:ah A x'=.slice sz (ys.map (.int .i64))) (hne:ys≠[])
  (h63:es.length+ys.length≤maxLen) (hby:(es.length+ys.length)*c.P.bytesOf e≤140737488355328) (hd:∀ k,o.dst=some k→k<c.n) :
  gp c A o ((A.aQ n (.dW e (es++ys))).aP o.dst (.own n (es.length+ys.length))):=by
 intro a w D E hsim;obtain ⟨i,zv,hi,hzv,hzr⟩:=kj hz;have hci:c.P.cellsOf e=i.size:=by simp[Program.cellsOf,hi]
 have hi1:i.size=1:=hci.symm.trans h1c;have hbi:c.P.bytesOf e=i.bytes:=by simp[Program.bytesOf,hi]
 have hzv2:zv.cells = #[Value.int .i64 0]:=by
  have:zv.cells.toList=[Value.int .i64 0]:=(hzr w D E).1;exact Array.toList_inj.1 this
 subst hk;have v1:=bn hsim hs';rw[hs] at v1;have v2:=bn hsim hx';rw[hx] at v2;obtain ⟨ad,cp,hxv,hc1,hc2,hc3,hc4⟩:=kU v2;obtain ⟨b2,off2,news,rfl,hr2,hys⟩:=hc3.resolve_left (by simpa using hne);rw[Z9] at hxv;obtain ⟨aB,aq,hesr,hblk⟩:=hsim.xK hn;obtain ⟨hnw,hyr⟩:=Eo hys;have hnl0:news.length=ys.length:=by rw[hnw,Z9]
 have hnl:news.length=ys.length*i.size:=by rw[hi1,Nat.mul_one,hnl0]
 have hrr:∀ x∈es++ys,IntKind.i64.min≤x∧x≤IntKind.i64.max:=fun x hx=>by
  rcases zy2.1 hx with h | h
  ·exact hesr x h
  ·exact hyr x h
 have hnews:∀ j v,news[j]?=some v→w.cell? ((⟨b2,off2,none⟩:Addr).add j)=some v:=fun j v hj=>by
  rw[Addr.add_lit];exact (hr2 j v hj).1
 have h1:=aA.kL _ _ hys;have hsv:match aB with | none=>a.eval s=.slice none 0 0 | some (b,cap)=>a.eval s=.slice (some ⟨b,0,none⟩) es.length cap:=by
  obtain ⟨cs,q1,q2⟩:=v1;simp only[af] at q2;obtain ⟨blk',l,q3,q4,q5,q6⟩:=q2;rw[aq] at q3;simp only[v6,bw.rw.injEq] at q3;obtain ⟨rfl,rfl⟩:=q3;have q7:=q6 rfl;simp only[ba,I.isAgg] at q1;cases aB with
  |none=>simp only at q7 ⊢;rw[q7] at q1;simpa using q1.symm
  |some bc=>simp only at q7 ⊢;rw[q7] at q1;simpa using q1.symm
 have hl0:0<ys.length:=List.length_pos_iff.2 hne;have h63':=h63;simp only[maxLen] at h63';have run:∀ v' w',(Builtin.append_ #[t,t] o.type #[a.eval s,.slice (some ⟨b2,off2,none⟩) ys.length cp]).run c.P w=.ok v' w'→(execOp a.eval o).run c.P w=.ok (.value v') w':=by
  intro v' w' hr;unfold execOp;simp only[ho,resolve,invoke,builtin,Sem.run_bind,Sem.run_pure,Result.andThen_ok,List.map_toArray,zz1,zy5,hxv,hr]
 have put:∀ (w':World) (b cap:Nat) (v':Value),v'=.slice (some ⟨b,0,none⟩) (es.length+ys.length) cap→aM c (A.aQ n (.dW e (es++ys))) a w' D (fun m=>if m=n then some (.rw (some (b,cap)) (es.length+ys.length)) else E m) →
   bE c ((A.aQ n (.dW e (es++ys))).aP o.dst (.own n (es.length+ys.length))) (a.put o.dst v') w':=by
  rintro w' b cap v' rfl hs2;refine ⟨D,_,hs2.aP hd ⟨_,by simp[ba,I.isAgg];rfl,?_⟩⟩;simp only[af,if_true];exact ⟨some (b,cap),es.length+ys.length,rfl,zz2 _,⟨_,_,_,rfl⟩,fun _=>rfl⟩
 cases aB with
 |none =>
  simp only at hblk hsv;subst hblk;have hr:=run_append_nil (P:=c.P) w t o.type e i zv ht hi hzv ⟨b2,off2,none⟩ ys.length cp news hnl hnews hl0 (by simp at h63';omega) (by rw[hbi] at hby;simp at hby;omega);rw[←hsv] at hr;have hge:=grownCap_ge w ys.length 0 e;refine ⟨_,.inl ⟨_,run _ _ hr,put _ w.heap.size (grownCap w ys.length 0 e) _ (by simp) ?_⟩⟩;refine hsim.Bi (m':=grownCap w ys.length 0 e-ys.length) hn aq hrr hne ?_ (by simp;omega) (grownCap_le_maxLen w ys.length 0 e (by simpa using h63));rw[hzv2];simp only[Array.toList_append,FV,zy3,zx5,hnw]
 |some bc =>
  obtain ⟨b,cap⟩:=bc;simp only at hblk hsv;obtain ⟨cs,m,k1,k2,k3,k4,k5,k6,k7⟩:=hblk;have hcz:cs.size=cap:=by rw[←zx6,k3];simp;omega
  by_cases hroom:es.length+ys.length≤cap
  ·have hfit:es.length*i.size+news.length≤cs.size:=by rw[hnl,hi1];omega
   have hr:=run_append_room (P:=c.P) w t o.type e i ht hi b es.length cap cs k2 ⟨b2,off2,none⟩ ys.length cp news hnl hnews h1 hroom hfit;rw[←hsv] at hr;refine ⟨_,.inl ⟨_,run _ _ hr,put _ b cap _ rfl ?_⟩⟩;have e0:cs.toList.take (es.length*i.size)++news++cs.toList.drop (es.length*i.size+news.length)=(es++ys++List.replicate (m-ys.length) 0).map (Value.int .i64):=by
    rw[hi1,Nat.mul_one,hnl0,k3,hnw,←List.map_take,←List.map_drop,List.take_left,←List.drop_drop,List.drop_left];simp only[zx5,List.drop_replicate]
   rw[e0];exact hsim.XR (m':=m-ys.length) hn aq k2 hrr hne (by omega) k6 k7 k1
  ·have hpl:(es.map (Value.int .i64)).length=es.length*i.size:=by rw[hi1];simp
   have holds:∀ j v,(es.map (Value.int .i64))[j]?=some v→w.cell? ((⟨b,0,none⟩:Addr).add j)=some v:=fun j v hj=>by
    rw[Addr.add_lit,zz5,cell_of_row w b j cs e (0,0) k2,←zx0,k3];have:j<(es.map (Value.int .i64)).length:=(zz6.1 hj).1;rw[zx5,zy6 this];exact hj
   have hr:=run_append_grow (P:=c.P) w t o.type e i zv ht hi hzv ⟨b,0,none⟩ es.length cap (es.map (Value.int .i64)) hpl holds ⟨b2,off2,none⟩ ys.length cp news hnl hnews (by omega) (by omega) (growslice_fits (by omega) (by rw[←hbi];exact hby));rw[←hsv] at hr;have hge:=grownCap_ge w (es.length+ys.length) cap e;refine ⟨_,.inl ⟨_,run _ _ hr,put _ w.heap.size (grownCap w (es.length+ys.length) cap e) _ rfl ?_⟩⟩;refine hsim.Bi (m':=grownCap w (es.length+ys.length) cap e-(es.length+ys.length)) hn aq hrr hne ?_ (by omega) (grownCap_le_maxLen w _ cap e h63);rw[hzv2];simp only[Array.toList_append,FV,zx5,hnw]
end
mutual
def I.only(p:Nat→Bool):I→Bool
 | .agg fs | .tuple fs=>I.cI p fs
 | .slice _ es=>I.cI p es
 | .ref x=>x.only p
 | .func _ caps=>I.cI p caps
 | .iface _ v=>v.only p
 | .ptr n _ | .own n _ | .view n _ _ _ _ | .mref n | .c8 n=>p n
 | .da ks vs=>I.cI p ks&&I.cI p vs
 |_=>true
def I.cI(p:Nat→Bool):List I→Bool
 | []=>true
 |x::xs=>x.only p&&I.cI p xs
end
mutual
theorem mq(p:Nat→Bool):∀ x:I,x.bC=true→x.only p=true
 | .agg fs,h=>by simp only[I.bC,I.only] at *;exact nm p fs h
 | .slice _ es,h=>by simp only[I.bC,I.only] at *;exact nm p es h
 | .ref x,h=>by simp only[I.bC,I.only] at *;exact mq p x h
 | .func _ caps,h=>by simp only[I.bC,I.only] at *;exact nm p caps h
 | .iface _ v,h=>by simp only[I.bC,I.only] at *;exact mq p v h
 | .bool _,_ | .int _ _,_ | .ak _,_ | .nilp,_ | .di,_ | .cU,_ | .any,_ | .raw _,_ | .nils _,_ | .c0 _,_=>by simp[I.only]
 | .da ks vs,h=>by simp only[I.bC,I.only,Z7] at *;exact ⟨nm p ks h.1,nm p vs h.2⟩
 | .ptr _ _,h | .own _ _,h | .view _ _ _ _ _,h | .mref _,h | .c8 _,h | .undef,h | .dc,h | .tuple _,h=>by simp[I.bC] at h
theorem nm(p:Nat→Bool):∀ xs:List I,I.cv xs=true→I.cI p xs=true
 | [],_=>rfl
 |x::xs,h=>by
  simp only[I.cv,I.cI,Z7] at *;exact ⟨mq p x h.1,nm p xs h.2⟩
end
mutual
theorem af.dO{w:World}{D:aH}{E E':aN}{p:Nat→Bool}(aq:∀ n,p n=true→E' n=E n):∀ (x:I) (cs:List Value),x.only p=true→af w D E x cs→af w D E' x cs
 | .agg fs,cs,ho,hr=>by simp only[af,I.only] at *;exact aA.dO aq fs cs ho hr
 | .bool b,cs,_,hr=>by simpa only[af] using hr
 | .int k n,cs,_,hr=>by simpa only[af] using hr
 | .ak s,cs,_,hr=>by simpa only[af] using hr
 | .nilp,cs,_,hr=>by simpa only[af] using hr
 | .di,cs,_,hr=>by simpa only[af] using hr
 | .cU,cs,_,hr | .any,cs,_,hr=>by simpa only[af] using hr
 | .raw _,cs,_,hr=>by simpa only[af] using hr
 | .nils _,cs,_,hr=>by simpa only[af] using hr
 | .c0 _,cs,_,hr=>by simpa only[af] using hr
 | .slice sz es,cs,ho,hr=>by
  simp only[af,I.only] at *;obtain ⟨a,cap,h1,h2,h3,h4,h5⟩:=hr;refine ⟨a,cap,h1,h2,h3,?_,h5⟩;rcases h4 with h4 | ⟨b,off,cs',h6,h7,h8⟩
  ·exact .inl h4
  ·exact .inr ⟨b,off,cs',h6,h7,aA.dO aq es cs' ho h8⟩
 | .ref x,cs,ho,hr=>by
  simp only[af,I.only] at *;obtain ⟨b,off,cs',h1,h2,h3⟩:=hr;exact ⟨b,off,cs',h1,h2,af.dO aq x cs' ho h3⟩
 | .func f caps,cs,ho,hr=>by
  simp only[af,I.only] at *;obtain ⟨vs,h1,h2⟩:=hr;exact ⟨vs,h1,ao.dO aq caps vs ho h2⟩
 | .iface t v,cs,ho,hr=>by
  simp only[af,I.only] at *;obtain ⟨u,cs',h1,h2,h3⟩:=hr;exact ⟨u,cs',h1,h2,af.dO aq v cs' ho h3⟩
 | .ptr n p,cs,ho,hr=>by
  simp only[af,I.only] at *;obtain ⟨b,aL,off,h1,h2⟩:=hr;exact ⟨b,aL,off,(aq n ho).trans h1,h2⟩
 | .own n k,cs,ho,hr=>by
  simp only[af,I.only] at *;obtain ⟨aB,l,h1,h2⟩:=hr;exact ⟨aB,l,(aq n ho).trans h1,h2⟩
 | .view n p _ _ _,cs,ho,hr=>by
  simp only[af,I.only] at *;obtain ⟨b,aL,off,l,h1,h2⟩:=hr;exact ⟨b,aL,off,l,(aq n ho).trans h1,h2⟩
 | .mref n,cs,ho,hr=>by
  simp only[af,I.only] at *;obtain ⟨b,h1,h2⟩:=hr;exact ⟨b,(aq n ho).trans h1,h2⟩
 | .c8 n,cs,ho,hr=>by
  simp only[af,I.only] at *;obtain ⟨b,h1,h2⟩:=hr;exact ⟨b,(aq n ho).trans h1,h2⟩
 | .da ks vs,cs,ho,hr=>by
  simp only[af,I.only,Z7] at *;obtain ⟨b,es,ck,h1,h2,h3,h4⟩:=hr;exact ⟨b,es,ck,h1,h2,ao.dO aq ks _ ho.1 h3,ao.dO aq vs _ ho.2 h4⟩
 | .undef,_,_,hr=>by simp only[af] at hr
 | .dc,_,_,hr=>by simp only[af] at hr
 | .tuple _,_,_,hr=>by simp only[af] at hr
theorem aA.dO{w:World}{D:aH}{E E':aN}{p:Nat→Bool}(aq:∀ n,p n=true→E' n=E n):∀ (xs:List I) (cs:List Value),I.cI p xs=true→aA w D E xs cs→aA w D E' xs cs
 | [],cs,_,hr=>by simpa only[aA] using hr
 |x::xs,cs,ho,hr=>by
  simp only[aA,I.cI,Z7] at *;obtain ⟨c1,c2,h1,h2,h3⟩:=hr;exact ⟨c1,c2,h1,af.dO aq x c1 ho.1 h2,aA.dO aq xs c2 ho.2 h3⟩
theorem ao.dO{w:World}{D:aH}{E E':aN}{p:Nat→Bool}(aq:∀ n,p n=true→E' n=E n):∀ (xs:List I) (vs:List Value),I.cI p xs=true→ao w D E xs vs→ao w D E' xs vs
 | [],vs,_,hr=>by simpa only[ao] using hr
 |x::xs,vs,ho,hr=>by
  simp only[ao,I.cI,Z7] at *;obtain ⟨v,rest,cs,h1,h2,h3,h4⟩:=hr;exact ⟨v,rest,cs,h1,h2,af.dO aq x cs ho.1 h3,ao.dO aq xs rest ho.2 h4⟩
end
theorem aR.dO{w:World}{D:aH}{E E':aN}{p:Nat→Bool}(aq:∀ n,p n=true→E' n=E n){x:I}{v:Value}(ho:x.only p=true)(hr:aR w D E x v):aR w D E' x v:=by
 cases x <;>simp only[aR] at * <;>first
  |exact hr
  |(obtain ⟨vs,h1,h2⟩:=hr;exact ⟨vs,h1,ao.dO aq _ _ (by simpa[I.only] using ho) h2⟩)
  |(obtain ⟨cs,h1,h2⟩:=hr;exact ⟨cs,h1,af.dO aq _ _ ho h2⟩)
def aj.only(p:Nat→Bool):aj→Bool
 | .box x=>x.only p
 | .bF _ _ es=>I.cI p es
 | .dm _=>true
 | .dW _ _=>true
 | .cn ks vs | .it ks vs _ _=>I.cI p ks&&I.cI p vs
def bo:List (Nat×Nat)→Nat→Nat
 | [],n=>n
 |(a,b)::r,n=>if n=a then b else bo r n
mutual
def I.aT(ρ:Nat→Nat):I→I
 | .agg fs=>.agg (I.db ρ fs)
 | .tuple fs=>.tuple (I.db ρ fs)
 | .slice sz es=>.slice sz (I.db ρ es)
 | .ref x=>.ref (x.aT ρ)
 | .func f caps=>.func f (I.db ρ caps)
 | .iface t v=>.iface t (v.aT ρ)
 | .ptr n p=>.ptr (ρ n) p
 | .own n k=>.own (ρ n) k
 | .view n p sz lo k=>.view (ρ n) p sz lo k
 | .mref n=>.mref (ρ n)
 | .c8 n=>.c8 (ρ n)
 | .da ks vs=>.da (I.db ρ ks) (I.db ρ vs)
 | .undef=>.undef | .dc=>.dc | .bool b=>.bool b | .int k n=>.int k n | .ak s=>.ak s
 | .nilp=>.nilp | .di=>.di | .cU=>.cU | .any=>.any | .raw u=>.raw u | .nils z=>.nils z | .c0 z=>.c0 z
def I.db(ρ:Nat→Nat):List I→List I
 | []=>[]
 |x::xs=>x.aT ρ::I.db ρ xs
end
def aj.aT(ρ:Nat→Nat):aj→aj
 | .box x=>.box (x.aT ρ)
 | .bF T sz es=>.bF T sz (I.db ρ es)
 | .dm x=>.dm x
 | .dW T xs=>.dW T xs
 | .cn ks vs=>.cn (I.db ρ ks) (I.db ρ vs)
 | .it ks vs left cur=>.it (I.db ρ ks) (I.db ρ vs) left cur
mutual
theorem qL(ρ:Nat→Nat):∀ x:I,(x.aT ρ).size=x.size
 | .agg fs=>by simp only[I.aT,I.size];exact EE ρ fs
 | .undef | .dc | .bool _ | .int _ _ | .ak _ | .nilp | .di | .cU | .any | .raw _ | .nils _ | .c0 _ | .slice _ _ | .tuple _ | .ref _ | .func _ _ | .iface _ _ | .ptr _ _ | .own _ _ | .view _ _ _ _ _ | .mref _ | .c8 _ | .da _ _=>by simp only[I.aT,I.size]
theorem EE(ρ:Nat→Nat):∀ xs:List I,I.sizes (I.db ρ xs)=I.sizes xs
 | []=>rfl
 |x::xs=>by simp only[I.db,I.sizes,qL ρ x,EE ρ xs]
end
mutual
theorem qK(ρ:Nat→Nat):∀ x:I,(x.aT ρ).aL=x.aL
 | .agg fs=>by simp only[I.aT,I.aL,bP.eE.injEq];exact ED ρ fs
 | .undef | .dc | .bool _ | .int _ _ | .ak _ | .nilp | .di | .cU | .any | .raw _ | .nils _ | .c0 _ | .slice _ _ | .tuple _ | .ref _ | .func _ _ | .iface _ _ | .ptr _ _ | .own _ _ | .view _ _ _ _ _ | .mref _ | .c8 _ | .da _ _=>by simp only[I.aT,I.aL]
theorem ED(ρ:Nat→Nat):∀ xs:List I,I.cJ (I.db ρ xs)=I.cJ xs
 | []=>rfl
 |x::xs=>by simp only[I.db,I.cJ,qK ρ x,ED ρ xs]
end
theorem YG(ρ:Nat→Nat)(x:I):(x.aT ρ).isAgg=x.isAgg:=by cases x <;>simp[I.aT,I.isAgg]
theorem qN(ρ:Nat→Nat)(xs:List I):I.db ρ xs=xs.map (I.aT ρ):=by
 induction xs with
 |nil=>rfl
 |cons x xs ih=>simp[I.db,ih]
theorem qM(ρ:Nat→Nat)(xs:List I):(I.db ρ xs).length=xs.length:=by rw[qN];simp
theorem EC(ρ:Nat→Nat)(x:I)(v:Value)(cs:List Value):ba (x.aT ρ) v cs=ba x v cs:=by simp only[ba,YG]
mutual
/-- A value,its names put for others that stand for the same. -/
theorem af.aT{w:World}{D:aH}{E E':aN}{p:Nat→Bool}{ρ:Nat→Nat}(aq:∀ n,p n=true→E' (ρ n)=E n):∀ (x:I) (cs:List Value),x.only p=true→(af w D E' (x.aT ρ) cs↔af w D E x cs)
 | .agg fs,cs,ho=>by simp only[af,I.aT,I.only] at *;exact aA.aT aq fs cs ho
 | .bool b,cs,_ | .int k n,cs,_ | .ak s,cs,_ | .nilp,cs,_ | .di,cs,_ | .cU,cs,_ | .any,cs,_ | .raw _,cs,_ | .nils _,cs,_ | .c0 _,cs,_ | .undef,cs,_ | .dc,cs,_ | .tuple _,cs,_=>by simp only[af,I.aT]
 | .slice sz es,cs,ho=>by
  simp only[af,I.aT,I.only,qM] at *;have e1:(I.db ρ es=[])↔es=[]:=by rw[←List.length_eq_zero_iff,qM,List.length_eq_zero_iff]
  have e2:(∀ e∈I.db ρ es,e.size=sz)↔∀ e∈es,e.size=sz:=by
   rw[qN];constructor
   ·intro h e he;rw[←qL ρ e];exact h _ (zx4.2 ⟨e,he,rfl⟩)
   ·intro h e he;obtain ⟨e',he',rfl⟩:=zx4.1 he;rw[qL];exact h _ he'
  simp only[e1,e2];constructor
  ·rintro ⟨a,cap,h1,h2,h3,h4,h5⟩;refine ⟨a,cap,h1,h2,h3,?_,h5⟩;rcases h4 with h4 | ⟨b,off,cs',h6,h7,h8⟩
   ·exact .inl h4
   ·exact .inr ⟨b,off,cs',h6,h7,(aA.aT aq es cs' ho).1 h8⟩
  ·rintro ⟨a,cap,h1,h2,h3,h4,h5⟩;refine ⟨a,cap,h1,h2,h3,?_,h5⟩;rcases h4 with h4 | ⟨b,off,cs',h6,h7,h8⟩
   ·exact .inl h4
   ·exact .inr ⟨b,off,cs',h6,h7,(aA.aT aq es cs' ho).2 h8⟩
 | .ref x,cs,ho=>by
  simp only[af,I.aT,I.only] at *;constructor
  ·rintro ⟨b,off,cs',h1,h2,h3⟩;exact ⟨b,off,cs',h1,h2,(af.aT aq x cs' ho).1 h3⟩
  ·rintro ⟨b,off,cs',h1,h2,h3⟩;exact ⟨b,off,cs',h1,h2,(af.aT aq x cs' ho).2 h3⟩
 | .func f caps,cs,ho=>by
  simp only[af,I.aT,I.only] at *;constructor
  ·rintro ⟨vs,h1,h2⟩;exact ⟨vs,h1,(ao.aT aq caps vs ho).1 h2⟩
  ·rintro ⟨vs,h1,h2⟩;exact ⟨vs,h1,(ao.aT aq caps vs ho).2 h2⟩
 | .iface t v,cs,ho=>by
  simp only[af,I.aT,I.only,EC] at *;constructor
  ·rintro ⟨u,cs',h1,h2,h3⟩;exact ⟨u,cs',h1,h2,(af.aT aq v cs' ho).1 h3⟩
  ·rintro ⟨u,cs',h1,h2,h3⟩;exact ⟨u,cs',h1,h2,(af.aT aq v cs' ho).2 h3⟩
 | .ptr n p,cs,ho=>by simp only[af,I.aT,I.only] at *;rw[aq n ho]
 | .own n k,cs,ho=>by simp only[af,I.aT,I.only] at *;rw[aq n ho]
 | .view n p _ _ _,cs,ho=>by simp only[af,I.aT,I.only] at *;rw[aq n ho]
 | .mref n,cs,ho=>by simp only[af,I.aT,I.only] at *;rw[aq n ho]
 | .c8 n,cs,ho=>by simp only[af,I.aT,I.only] at *;rw[aq n ho]
 | .da ks vs,cs,ho=>by
  simp only[af,I.aT,I.only,Z7] at *;constructor
  ·rintro ⟨b,es,ck,h1,h2,h3,h4⟩;exact ⟨b,es,ck,h1,h2,(ao.aT aq ks _ ho.1).1 h3,(ao.aT aq vs _ ho.2).1 h4⟩
  ·rintro ⟨b,es,ck,h1,h2,h3,h4⟩;exact ⟨b,es,ck,h1,h2,(ao.aT aq ks _ ho.1).2 h3,(ao.aT aq vs _ ho.2).2 h4⟩
theorem aA.aT{w:World}{D:aH}{E E':aN}{p:Nat→Bool}{ρ:Nat→Nat}(aq:∀ n,p n=true→E' (ρ n)=E n):∀ (xs:List I) (cs:List Value),I.cI p xs=true→(aA w D E' (I.db ρ xs) cs↔aA w D E xs cs)
 | [],cs,_=>by simp only[aA,I.db]
 |x::xs,cs,ho=>by
  simp only[aA,I.db,I.cI,Z7] at *;constructor
  ·rintro ⟨c1,c2,h1,h2,h3⟩;exact ⟨c1,c2,h1,(af.aT aq x c1 ho.1).1 h2,(aA.aT aq xs c2 ho.2).1 h3⟩
  ·rintro ⟨c1,c2,h1,h2,h3⟩;exact ⟨c1,c2,h1,(af.aT aq x c1 ho.1).2 h2,(aA.aT aq xs c2 ho.2).2 h3⟩
theorem ao.aT{w:World}{D:aH}{E E':aN}{p:Nat→Bool}{ρ:Nat→Nat}(aq:∀ n,p n=true→E' (ρ n)=E n):∀ (xs:List I) (vs:List Value),I.cI p xs=true→(ao w D E' (I.db ρ xs) vs↔ao w D E xs vs)
 | [],vs,_=>by simp only[ao,I.db]
 |x::xs,vs,ho=>by
  simp only[ao,I.db,I.cI,Z7,EC] at *;constructor
  ·rintro ⟨v,rest,cs,h1,h2,h3,h4⟩;exact ⟨v,rest,cs,h1,h2,(af.aT aq x cs ho.1).1 h3,(ao.aT aq xs rest ho.2).1 h4⟩
  ·rintro ⟨v,rest,cs,h1,h2,h3,h4⟩;exact ⟨v,rest,cs,h1,h2,(af.aT aq x cs ho.1).2 h3,(ao.aT aq xs rest ho.2).2 h4⟩
end
theorem aR.aT{w:World}{D:aH}{E E':aN}{p:Nat→Bool}{ρ:Nat→Nat}(aq:∀ n,p n=true→E' (ρ n)=E n){x:I}{v:Value}(ho:x.only p=true):aR w D E' (x.aT ρ) v↔aR w D E x v:=by
 cases x <;>first
  |(simp only[aR,I.aT];done)
  |(simp only[aR,I.aT,I.only] at ho ⊢
    constructor
    ·rintro ⟨vs,h1,h2⟩;exact ⟨vs,h1,(ao.aT aq _ _ ho).1 h2⟩
    ·rintro ⟨vs,h1,h2⟩;exact ⟨vs,h1,(ao.aT aq _ _ ho).2 h2⟩)
  |(have key:=fun x cs=>af.aT (w:=w) (D:=D) aq x cs
    refine exists_congr fun cs=>and_congr ?_ ?_
    ·first | exact Iff.rfl | simp only[ba,I.aT,I.isAgg]
    ·first | exact key _ cs ho | (have h:=key _ cs ho;simpa only[I.aT] using h))
mutual
/-- Values that read no memory: but they may name objects. -/
def I.de:I→Bool
 | .agg fs | .tuple fs=>I.jD fs
 | .func _ caps=>I.jD caps
 | .iface _ v=>v.de
 | .slice _ es=>es.isEmpty
 | .ref _ | .da _ _=>false
 |_=>true
def I.jD:List I→Bool
 | []=>true
 |x::xs=>x.de&&I.jD xs
end
def aj.de:aj→Bool
 | .box x=>x.de
 | .bF _ _ es=>I.jD es
 | .dW _ _=>true
 | .dm _=>true
 | .cn ks vs=>I.jD ks&&I.jD vs
 | .it .. =>false
mutual
theorem af.de{w w':World}{D D':aH}{E:aN} : ∀ (x:I) (cs:List Value),x.de=true→af w D E x cs→af w' D' E x cs
 | .agg fs,cs,hf,hr=>by simp only[af,I.de] at *;exact aA.de fs cs hf hr
 | .bool b,cs,_,hr | .int k n,cs,_,hr | .ak s,cs,_,hr | .nilp,cs,_,hr | .di,cs,_,hr | .cU,cs,_,hr | .any,cs,_,hr | .raw _,cs,_,hr | .nils _,cs,_,hr | .c0 _,cs,_,hr
 | .ptr _ _,cs,_,hr | .own _ _,cs,_,hr | .view _ _ _ _ _,cs,_,hr | .mref _,cs,_,hr | .c8 _,cs,_,hr=>by simpa only[af] using hr
 | .func f caps,cs,hf,hr=>by
  simp only[af,I.de] at *;obtain ⟨vs,h1,h2⟩:=hr;exact ⟨vs,h1,ao.de caps vs hf h2⟩
 | .iface t v,cs,hf,hr=>by
  simp only[af,I.de] at *;obtain ⟨u,cs',h1,h2,h3⟩:=hr;exact ⟨u,cs',h1,h2,af.de v cs' hf h3⟩
 | .slice sz es,cs,hf,hr=>by
  simp only[af,I.de,List.isEmpty_iff] at *;subst hf;obtain ⟨a,cap,h1,h2,h3,_,h5⟩:=hr;exact ⟨a,cap,h1,h2,h3,.inl rfl,h5⟩
 | .ref _,_,hf,_ | .da _ _,_,hf,_=>by simp[I.de] at hf
 | .undef,_,_,hr | .dc,_,_,hr | .tuple _,_,_,hr=>by simp only[af] at hr
theorem aA.de{w w':World}{D D':aH}{E:aN} : ∀ (xs:List I) (cs:List Value),I.jD xs=true→aA w D E xs cs→aA w' D' E xs cs
 | [],cs,_,hr=>by simpa only[aA] using hr
 |x::xs,cs,hf,hr=>by
  simp only[aA,I.jD,Z7] at *;obtain ⟨c1,c2,h1,h2,h3⟩:=hr;exact ⟨c1,c2,h1,af.de x c1 hf.1 h2,aA.de xs c2 hf.2 h3⟩
theorem ao.de{w w':World}{D D':aH}{E:aN} : ∀ (xs:List I) (vs:List Value),I.jD xs=true→ao w D E xs vs→ao w' D' E xs vs
 | [],vs,_,hr=>by simpa only[ao] using hr
 |x::xs,vs,hf,hr=>by
  simp only[ao,I.jD,Z7] at *;obtain ⟨v,rest,cs,h1,h2,h3,h4⟩:=hr;exact ⟨v,rest,cs,h1,h2,af.de x cs hf.1 h3,ao.de xs rest hf.2 h4⟩
end
theorem aR.de{w w':World}{D D':aH}{E:aN}{x:I}{v:Value}(hf:x.de=true)(hr:aR w D E x v):aR w' D' E x v:=by
 cases x <;>simp only[aR] at * <;>first
  |exact hr
  |(obtain ⟨vs,h1,h2⟩:=hr;exact ⟨vs,h1,ao.de _ _ (by simpa[I.de] using hf) h2⟩)
  |(obtain ⟨cs,h1,h2⟩:=hr;exact ⟨cs,h1,af.de _ _ hf h2⟩)
def df(ρ:List (Nat×Nat))(os:List (Nat×aj)):List (Nat×aj):=os.map fun q=>(bo ρ q.1,q.2.aT (bo ρ))
def pre(ρ:List (Nat×Nat))(os:List (Nat×aj))(n:Nat):Option Nat:=(os.find? fun q=>bo ρ q.1==n).map (·.1)
theorem vN{os:List (Nat×aj)}{m:Nat} : aC os m=true↔∃ q∈os,q.1=m:=by
 induction os with
 |nil=>simp[aC,aD]
 |cons q os ih =>
  obtain ⟨k,v⟩:=q;simp only[aC,aD] at *;by_cases h:m=k
  ·subst h;simp
  ·simp only[if_neg h,ih,zy8,Prod.exists,exists_and_right,exists_eq_right];constructor
   ·rintro ⟨a,b⟩;exact ⟨a,.inr b⟩
   ·rintro ⟨a,b | b⟩
    ·cases b;exact absurd rfl h
    ·exact ⟨a,b⟩
theorem lG{ρ:List (Nat×Nat)}{os:List (Nat×aj)}{n m:Nat}(h:pre ρ os n=some m):aC os m=true∧bo ρ m=n:=by
 simp only[pre,t7] at h;obtain ⟨q,hq,rfl⟩:=h;exact ⟨vN.2 ⟨q,List.mem_of_find?_eq_some hq,rfl⟩,by simpa using List.find?_some hq⟩
theorem C8{ρ:List (Nat×Nat)}{os:List (Nat×aj)}{n m:Nat}(h:pre ρ os n=none)(hm:aC os m=true):bo ρ m≠n:=by
 simp only[pre,Option.map_eq_none_iff,List.find?_eq_none] at h;obtain ⟨q,hq,rfl⟩:=vN.1 hm;simpa using h q hq
theorem sJ(ρ:List (Nat×Nat))(os os0:List (Nat×aj))(n:Nat):aD (df ρ os++os0) n=match pre ρ os n with
  |some m=>(aD os m).map (aj.aT (bo ρ))
  |none=>aD os0 n:=by
 induction os with
 |nil=>simp[df,pre]
 |cons q os ih =>
  obtain ⟨k,v⟩:=q;simp only[df,zz1,zz8,aD,pre,List.find?_cons] at *;by_cases h:bo ρ k=n
  ·subst h;simp
  ·rw[if_neg (Ne.symm h)];have hb:(bo ρ k==n)=false:=by simpa using h
   rw[hb,ih];simp only;cases hf:os.find? (fun q=>bo ρ q.1==n) with
   |none=>rfl
   |some q =>
    simp only[zz7];have hq:=List.find?_some hf;have hne:q.1≠k:=fun e=>h (by rw[←e];simpa using hq);rw[if_neg hne]
def aq(ρ:List (Nat×Nat))(os:List (Nat×aj))(E:aN):aN:=fun n=>if aC os n then E (bo ρ n) else none
structure eX (ρ:List (Nat×Nat)) (os os0:List (Nat×aj)):Prop where
 bp:∀ m x,aD os m=some x→aD os0 (bo ρ m)=some (x.aT (bo ρ))∧x.only (aC os)=true∧x.eB=true
 inj:∀ m m',aC os m=true→aC os m'=true→bo ρ m=bo ρ m'→m=m'
structure dL (aE:Bool) (ρ:List (Nat×Nat)) (os os0:List (Nat×aj)) (r:I) (os':List (Nat×aj)):Prop where
 bp:∀ m x,aD os' m=some x→x.only (aC os')=true∧x.eB=true∧(aE=true→x.de=true)
 inj:∀ m m',aC os' m=true→aC os' m'=true→bo ρ m=bo ρ m'→m=m'
 old:∀ m,aC os m=true→aC os' m=true
 oR:∀ m,aC os' m=true→aC os m=false→aD os0 (bo ρ m)=none∧bo ρ m<1000000
 wW:r.only (aC os')=true∧(aE=true→r.de=true)
section
variable {c:ct} {a:Act} {w:World} {D:aH} {E:aN} {ts:List (Nat×I)} {os0 os:List (Nat×aj)} {ρ:List (Nat×Nat)}
theorem aM.given(hs:aM c (aw ts os0) a w D E)(hg:eX ρ os os0){m:Nat}(hm:aC os m=true):∃ x e,aD os m=some x∧aq ρ os E m=some e∧E (bo ρ m)=some e∧c6 (fun _=>True) w D (aq ρ os E) m (some x) ∧
  ∀ b,e.aB=some b→c.eA b∧(∃ o,w.heap[b]?=some o∧sX o=true)∧b<w.heap.size∧(e.eB=true→∀ o,¬ D b o):=by
 cases hx:aD os m with
 |none=>simp[aC,hx] at hm
 |some x =>
  obtain ⟨h1,h2,h3⟩:=hg.bp m x hx;have ho:=hs.bD (bo ρ m);simp only[aw] at ho;rw[h1] at ho;have hEm:aq ρ os E m=E (bo ρ m):=by simp only[aq,hm,if_true]
  have hin:∀ n,aC os n=true→E (bo ρ n)=aq ρ os E n:=fun n hn=>by simp only[aq,hn,if_true]
  cases x with
  |bF T sz es =>
   obtain ⟨aB,k1,k2,k3⟩:=ho;rw[qM] at k1;have h2':I.cI (aC os) es=true:=h2;have k2':∀ e∈es,e.size=sz:=fun e he=>by rw[←qL (bo ρ) e];exact k2 _ (by rw[qN];exact zx4.2 ⟨e,he,rfl⟩)
   refine ⟨_,_,rfl,hEm.trans k1,k1,⟨aB,hEm.trans k1,k2',?_⟩,fun b hb =>?_⟩
   ·cases aB with
    |none=>simp only[qN,List.map_eq_nil_iff] at k3;exact k3
    |some bc =>
     obtain ⟨b,cap⟩:=bc;obtain ⟨cs,pr,rest,q1,q2,q3,q4,q5,q6,q7,q8⟩:=k3;rw[qM] at q6;exact ⟨cs,pr,rest,trivial,q2,q3,(aA.aT (p:=aC os) hin es _ h2').1 q4,q5,q6,q7,q8⟩
   ·cases aB with
    |none=>cases hb
    |some bc =>
     obtain ⟨b',cap⟩:=bc;cases hb;obtain ⟨cs,pr,rest,q1,q2,_⟩:=k3;exact ⟨q1,⟨_,q2,rfl⟩,eR q2,fun h=>by cases h⟩
  |box y =>
   obtain ⟨b,cs,T,k1,k2,k3,k4,k5⟩:=ho;rw[qK] at k1;refine ⟨_,_,rfl,hEm.trans k1,k1,⟨b,cs,T,hEm.trans k1,trivial,k3.aL (by rw[qK]),?_,k5⟩,fun b' hb =>?_⟩
   ·exact (af.aT (p:=aC os) hin y _ (by simpa[aj.only] using h2)).1 k4
   ·cases hb;exact ⟨k2,k3.bD,k3.lt,fun _=>k5⟩
  |dm o =>
   obtain ⟨b,k1,k2,k3,k4,k5⟩:=ho;exact ⟨_,_,rfl,hEm.trans k1,k1,⟨b,hEm.trans k1,trivial,k3,k4,k5⟩,fun b' hb=>by cases hb;exact ⟨k2,⟨_,k3,WQ k4⟩,eR k3,fun _=>k5⟩⟩
  |cn ks vs =>
   obtain ⟨b,es,ck,k1,k2,k3,k4,k5,k6,k7⟩:=ho;simp only[aj.only,Z7] at h2;exact ⟨_,_,rfl,hEm.trans k1,k1,⟨b,es,ck,hEm.trans k1,trivial,k3,k4,(ao.aT (p:=aC os) hin ks _ h2.1).1 k5,(ao.aT (p:=aC os) hin vs _ h2.2).1 k6,k7⟩,
    fun b' hb=>by cases hb;exact ⟨k2,⟨_,k3,rfl⟩,eR k3,fun _=>k7⟩⟩
  |it ks vs left cur=>cases h3
  |dW T xs =>
   obtain ⟨aB,k1,k2,k3⟩:=ho;refine ⟨_,_,rfl,hEm.trans k1,k1,⟨aB,hEm.trans k1,k2,?_⟩,fun b hb =>?_⟩
   ·cases aB with
    |none=>exact k3
    |some bc =>
     obtain ⟨b,cap⟩:=bc;obtain ⟨cs,r,q1,q2⟩:=k3;exact ⟨cs,r,trivial,q2⟩
   ·cases aB with
    |none=>cases hb
    |some bc =>
     obtain ⟨b',cap⟩:=bc;cases hb;obtain ⟨cs,r,q1,q2,_⟩:=k3;exact ⟨q1,⟨_,q2,rfl⟩,eR q2,fun h=>by cases h⟩
theorem aM.sg(hs:aM c (aw ts os0) a w D E)(hg:eX ρ os os0){b:Nat}(hb:bU (aq ρ os E) b):∃ m e,aC os m=true∧E (bo ρ m)=some e∧e.aB=some b∧c.eA b∧(∃ o,w.heap[b]?=some o∧sX o=true)∧b<w.heap.size:=by
 obtain ⟨m,e,h1,h2⟩:=hb;by_cases hm:aC os m=true
 ·obtain ⟨x,e',k1,k2,k3,k4,k5⟩:=hs.given hg hm;rw[k2,v6] at h1;subst h1;obtain ⟨q1,q2,q3,_⟩:=k5 b h2;exact ⟨m,_,hm,k3,h2,q1,q2,q3⟩
 ·simp[aq,hm] at h1
theorem aM.BN(hs:aM c (aw ts os0) a w D E)(hg:eX ρ os os0){D1:aH}(hD:∀ b o,D b o→D1 b o)(hown:∀ b o,D1 b o→bU (aq ρ os E) b→D b o):jq (fun _=>True) w D1 (aq ρ os E) (aD os):=by
 refine ⟨fun n =>?_,fun n m e e' b h1 h2 h3 h4 =>?_⟩
 ·cases hx:aD os n with
  |none=>simp[c6,aq,aC,hx]
  |some x =>
   have hm:aC os n=true:=by simp[aC,hx]
   obtain ⟨y,e,k1,k2,k3,k4,k5⟩:=hs.given hg hm;rw[hx,v6] at k1;subst k1;refine k4.later (E':=aq ρ os E) ⟨hD,fun _ _ _ _ h=>h,fun _ _ _ h=>h,fun _ aB l h=>⟨aB,l,h,zz2 _,fun _=>rfl⟩,fun _ _ h=>h,fun _ _ h=>h,fun _ _ _ _ h=>h⟩ rfl fun e' b' he hb'=>⟨rfl,fun o ho =>?_⟩
   exact hown b' o ho ⟨n,e',he,hb'⟩
 ·have hn:aC os n=true:=by
   by_cases h:aC os n=true;· exact h
   ·simp[aq,h] at h1
  have hm:aC os m=true:=by
    by_cases h:aC os m=true;· exact h
    ·simp[aq,h] at h2
  simp only[aq,hn,hm,if_true] at h1 h2;exact hg.inj n m hn hm (hs.cD _ _ e e' b h1 h2 h3 h4)
theorem aM.ln(hs:aM c (aw ts os0) a w D E)(hg:eX ρ os os0){aE:Bool}{D1:aH}(hD:∀ b o,D b o→D1 b o)(hbx:aE=false→∀ b o,D1 b o→D b o){w':World}{D':aH}{E':aN}{v:Value}{r:I}{os':List (Nat×aj)}
  (hb:dL aE ρ os os0 r os') (hr:aR w' D' E' r v) (hh:jq (fun b=>w.heap.size≤b∨bU (aq ρ os E) b) w' D' E' (aD os')) (hk:eH (fun b=>w.heap.size≤b∨bU (aq ρ os E) b) w w')
  (hlive:∀ b o,D' b o→b<w'.heap.size) (hup:∀ b o,D1 b o→D' b o) (hst:gq w D1 w') (hold:∀ b o,D' b o→b<w.heap.size→¬ bU (aq ρ os E) b→D1 b o) (hbox:∀ n e,aq ρ os E n=some e→aC os' n=true→∃ e',E' n=some e'∧e.eD e') :
  ∃ D2 E2,aM c (aw ts (df ρ os'++os0)) a w' D2 E2∧aR w' D2 E2 (r.aT (bo ρ)) v∧∀ m e,aq ρ os E m=some e→aC os' m=true→∃ e',E2 (bo ρ m)=some e'∧e.eD e':=by
 obtain ⟨M1,hM1⟩:∃ M1:Nat→Prop,M1=fun b=>w.heap.size≤b∨bU (aq ρ os E) b:=⟨_,rfl⟩
 rw[←hM1] at hh hk;obtain ⟨D2,hD2⟩:∃ D2:aH,D2=fun b o=>D b o∨(M1 b∧D' b o):=⟨_,rfl⟩
 obtain ⟨E2,hE2⟩:∃ E2:aN,E2=fun n=>match pre ρ os' n with | some m=>E' m | none=>E n:=⟨_,rfl⟩
 have jE:∀ b,M1 b→c.eA b:=fun b hb'=>by
  rw[hM1] at hb';rcases hb' with h | h
  ·exact .inl (Nat.le_trans hs.dn.size h)
  ·obtain ⟨m,e,_,_,_,h3,_⟩:=hs.sg hg h;exact h3
 have upD:∀ b o,D b o→D' b o:=fun b o hd=>hup b o (hD b o hd);have E2m:∀ m,aC os' m=true→E2 (bo ρ m)=E' m:=fun m hm=>by
  rw[hE2];simp only;cases hp:pre ρ os' (bo ρ m) with
  |none=>exact absurd rfl (C8 hp hm)
  |some m' =>
   obtain ⟨h1,h2⟩:=lG hp;rw[hb.inj m' m h1 hm h2]
 have E2o:∀ n,pre ρ os' n=none→E2 n=E n:=fun n hn=>by rw[hE2];simp only[hn]
 -- a name that has a new meaning: one that was handed over,or one that was free
 have cas:∀ n m,pre ρ os' n=some m→(aC os m=true∧∃ e e',E n=some e∧E' m=some e'∧e.eD e')∨(aC os m=false∧E n=none∧c.cu n=none):=fun n m hp=>by
  obtain ⟨h1,h2⟩:=lG hp;cases hm:aC os m with
  |true =>
   obtain ⟨y,e,k1,k2,k3,_⟩:=hs.given hg hm;rw[h2] at k3;obtain ⟨e',q1,q2⟩:=hbox m e k2 h1;exact .inl ⟨rfl,e,e',k3,q1,q2⟩
  |false =>
   obtain ⟨k1,k2⟩:=hb.oR m h1 hm;rw[h2] at k1 k2;have ho:=hs.bD n;simp only[aw,k1] at ho;exact .inr ⟨rfl,ho,hs.jx (.inr k2)⟩
 have hl:dy w D E w' D2 E2:=by
  have qn:∀ n e,E n=some e→∃ e',E2 n=some e'∧e.eD e':=fun n e he=>by
   cases hp:pre ρ os' n with
   |none=>exact ⟨e,by rw[E2o n hp];exact he,.refl e⟩
   |some m =>
    rw[hE2];simp only[hp];rcases cas n m hp with ⟨_,e1,e2,k1,k2,k3⟩ | ⟨_,k1,_⟩
    ·rw[he] at k1;cases k1;exact ⟨e2,k2,k3⟩
    ·rw[he] at k1;cases k1
  have keepf:∀ n e,E n=some e→e.eB=true→E2 n=some e:=fun n e he hf=>by
   obtain ⟨e',k1,k2⟩:=qn n e he;rw[k1,k2.eq hf]
  refine ⟨fun b o h=>by rw[hD2];exact .inl h,fun b o v' hd ab=>hst.cell b o v' (hD b o hd) ab,fun n b aL he=>keepf n _ he rfl,fun n aB l he =>?_,fun n b he=>keepf n _ he rfl,fun n b he=>keepf n _ he rfl,fun b es ck hd hm=>hst.iR b es ck (hD b 0 hd) hm⟩;obtain ⟨e',k1,k2⟩:=qn n _ he;rcases k2 with rfl | ⟨_,_,blk',l',e,rfl,k3,k4⟩
  ·exact ⟨aB,l,k1,zz2 _,fun _=>rfl⟩
  ·cases e;exact ⟨blk',l',k1,k3,k4⟩
 -- blocks of names that were not handed over
 have other:∀ n e b,pre ρ os' n=none→E n=some e→e.aB=some b→¬ M1 b:=fun n e b hp he hb' hm=>by
  rw[hM1] at hm;rcases hm with h | h
  ·exact absurd (hs.fp he hb') (by omega)
  ·obtain ⟨m,e',h1,h2,h3,_⟩:=hs.sg hg h;have:=hs.cD n (bo ρ m) e _ b he h2 hb' h3;exact C8 hp (hb.old m h1) this.symm
 have toD2:∀ {x:I} {cs:List Value},(aE=true→x.de=true)→af w' D' E2 x cs→af w' D2 E2 x cs:=fun {x cs} hx h=>by
  cases hbb:aE with
  |true=>exact af.de x cs (hx hbb) h
  |false =>
   refine af.later (E:=E2) ⟨fun b o hd =>?_,fun _ _ _ _ h=>h,fun _ _ _ h=>h,fun _ aB l h=>⟨aB,l,h,zz2 _,fun _=>rfl⟩,fun _ _ h=>h,fun _ _ h=>h,fun _ _ _ _ h=>h⟩ x cs h;rw[hD2];by_cases hm:M1 b
   ·exact .inr ⟨hm,hd⟩
   ·rw[hM1] at hm;exact .inl (hbx hbb b o (hold b o hd (Nat.lt_of_not_le fun h=>hm (.inl h)) fun h=>hm (.inr h)))
 have toD2c:∀ {xs:List I} {cs:List Value},I.cI (aC os') xs=true→(aE=true→I.jD xs=true)→aA w' D' E' xs cs→aA w' D2 E2 (I.db (bo ρ) xs) cs:=fun {xs cs} ho hx h=>by
  cases hbb:aE with
  |true=>exact (aA.aT (w:=w') (D:=D2) (p:=aC os') (ρ:=bo ρ) (E:=E') (E':=E2) (fun n hn=>E2m n hn) xs cs ho).2 (aA.de xs cs (hx hbb) h)
  |false =>
   have h2:=(aA.aT (w:=w') (D:=D') (p:=aC os') (ρ:=bo ρ) (E:=E') (E':=E2) (fun n hn=>E2m n hn) xs cs ho).2 h;refine aA.later (E:=E2) ⟨fun b o hd =>?_,fun _ _ _ _ h=>h,fun _ _ _ h=>h,fun _ aB l h=>⟨aB,l,h,zz2 _,fun _=>rfl⟩,fun _ _ h=>h,fun _ _ h=>h,fun _ _ _ _ h=>h⟩ _ cs h2;rw[hD2];by_cases hm:M1 b
   ·exact .inr ⟨hm,hd⟩
   ·rw[hM1] at hm;exact .inl (hbx hbb b o (hold b o hd (Nat.lt_of_not_le fun h=>hm (.inl h)) fun h=>hm (.inr h)))
 have toD2s:∀ {xs:List I} {cs:List Value},I.cI (aC os') xs=true→(aE=true→I.jD xs=true)→ao w' D' E' xs cs→ao w' D2 E2 (I.db (bo ρ) xs) cs:=fun {xs cs} ho hx h=>by
  cases hbb:aE with
  |true=>exact (ao.aT (w:=w') (D:=D2) (p:=aC os') (ρ:=bo ρ) (E:=E') (E':=E2) (fun n hn=>E2m n hn) xs cs ho).2 (ao.de xs cs (hx hbb) h)
  |false =>
   have h2:=(ao.aT (w:=w') (D:=D') (p:=aC os') (ρ:=bo ρ) (E:=E') (E':=E2) (fun n hn=>E2m n hn) xs cs ho).2 h;refine ao.later (E:=E2) ⟨fun b o hd =>?_,fun _ _ _ _ h=>h,fun _ _ _ h=>h,fun _ aB l h=>⟨aB,l,h,zz2 _,fun _=>rfl⟩,fun _ _ h=>h,fun _ _ h=>h,fun _ _ _ _ h=>h⟩ _ cs h2;rw[hD2];by_cases hm:M1 b
   ·exact .inr ⟨hm,hd⟩
   ·rw[hM1] at hm;exact .inl (hbx hbb b o (hold b o hd (Nat.lt_of_not_le fun h=>hm (.inl h)) fun h=>hm (.inr h)))
 refine ⟨D2,E2,⟨hs.sz,hs.er.mono fun B _ hB =>?_,fun t=>aR.later hl (hs.dK t),hs.dn.trans ⟨hk.os,hk.tape,hk.output,hk.size,fun k hk'=>hk.block k fun h=>hk' (jE k h)⟩,fun b o hd hm =>?_,fun b o hd =>?_,fun n =>?_,?_,fun n e hn =>?_,hs.eN,
  fun b o hd=>hl.cO b o (hs.cE b o hd),hs.eV,hs.kh hl⟩,?_,fun m e k1 k3=>by rw[E2m m k3];exact hbox m e k1 k3⟩
 ·refine (hk.block B fun hm =>?_).trans hB;rw[hM1] at hm;rcases hm with h | h
  ·exact absurd (zy1.1 hB).1 (by omega)
  ·obtain ⟨m,e,_,_,_,_,⟨o,h4,h5⟩,_⟩:=hs.sg hg h;rw[hB] at h4;cases h4;cases h5
 ·rw[hD2] at hd;rcases hd with hd | ⟨h1,_⟩
  ·exact hs.cO b o hd hm
  ·exact absurd (jE b h1) hm
 ·rw[hD2] at hd;rcases hd with hd | ⟨_,h1⟩
  ·exact zw9 (hs.cS b o hd) hk.size
  ·exact hlive b o h1
 ·simp only[aw,sJ];cases hp:pre ρ os' n with
  |none =>
   simp only;refine (hs.bD n).later hl (E2o n hp) fun e b he hb'=>⟨hk.block b (other n e b hp he hb'),fun o ho =>?_⟩
   rw[hD2] at ho;rcases ho with ho | ⟨h1,_⟩
   ·exact ho
   ·exact absurd h1 (other n e b hp he hb')
  |some m =>
   simp only;obtain ⟨h1,h2⟩:=lG hp;cases hx:aD os' m with
   |none=>simp[aC,hx] at h1
   |some x =>
    obtain ⟨k1,kf,k2⟩:=hb.bp m x hx;have ho:=hh.bD m;rw[hx] at ho;have noD:∀ b,(∀ o,¬ D' b o)→∀ o,¬ D2 b o:=fun b hno o ho=>by
     rw[hD2] at ho;rcases ho with ho | ⟨_,ho⟩
     ·exact hno o (upD b o ho)
     ·exact hno o ho
    cases x with
    |bF T sz es =>
     obtain ⟨aB,q1,q2,q3⟩:=ho;simp only[zz7,aj.aT,c6,qM];refine ⟨aB,by rw[←h2,E2m m h1];exact q1,fun e he =>?_,?_⟩
     ·rw[qN] at he;obtain ⟨e',he',rfl⟩:=zx4.1 he;rw[qL];exact q2 e' he'
     ·cases aB with
      |none=>simp only at q3 ⊢;rw[q3];rfl
      |some bc =>
       obtain ⟨b,cap⟩:=bc;obtain ⟨cs,pr,rest,g1,g2,g3,g4,g5,g6,g7,g8⟩:=q3;refine ⟨cs,pr,rest,jE b g1,g2,g3,toD2c (by simpa[aj.only] using k1) (fun h=>by simpa[aj.de] using k2 h) g4,g5,g6,g7,fun o ho =>?_⟩;rw[hD2] at ho;rcases ho with ho | ⟨_,ho⟩
       ·exact g8 o (upD b o ho)
       ·exact g8 o ho
    |dW T xs =>
     obtain ⟨aB,q1,q2,q3⟩:=ho;simp only[zz7,aj.aT,c6];refine ⟨aB,by rw[←h2,E2m m h1];exact q1,q2,?_⟩;cases aB with
     |none=>exact q3
     |some bc =>
      obtain ⟨b,cap⟩:=bc;obtain ⟨cs,r,g1,g2,g3,g4,g5,g6,g7⟩:=q3;exact ⟨cs,r,jE b g1,g2,g3,g4,g5,g6,noD b g7⟩
    |dm x =>
     obtain ⟨b,q1,q2,q3,q4,q5⟩:=ho;simp only[zz7,aj.aT,c6];exact ⟨b,by rw[←h2,E2m m h1];exact q1,jE b q2,q3,q4,noD b q5⟩
    |it ks vs left cur=>cases kf
    |cn ks vs =>
     obtain ⟨b,es,ck,q1,q2,q3,q4,q5,q6,q7⟩:=ho;simp only[zz7,aj.aT,c6];simp only[aj.only,Z7] at k1;simp only[aj.de,Z7] at k2;exact ⟨b,es,ck,by rw[←h2,E2m m h1];exact q1,jE b q2,q3,q4,toD2s k1.1 (fun h=>(k2 h).1) q5,toD2s k1.2 (fun h=>(k2 h).2) q6,noD b q7⟩
    |box y =>
     obtain ⟨b,cs,T,q1,q2,q3,q4,q5⟩:=ho;simp only[zz7,aj.aT,c6];refine ⟨b,cs,T,by rw[qK,←h2,E2m m h1];exact q1,jE b q2,q3.aL (by rw[qK]),?_,noD b q5⟩;have h3:=(af.aT (w:=w') (D:=D') (p:=aC os') (ρ:=bo ρ) (E:=E') (E':=E2) (fun n hn=>E2m n hn) y cs.toList (by simpa[aj.only] using k1)).2 q4;cases hbb:aE with
     |true =>
      have h4:af w' D2 E' y cs.toList:=af.de y _ (k2 hbb) q4;exact (af.aT (w:=w') (D:=D2) (p:=aC os') (ρ:=bo ρ) (E:=E') (E':=E2) (fun n hn=>E2m n hn) y cs.toList (by simpa[aj.only] using k1)).2 h4
     |false=>exact toD2 (fun h=>by rw[hbb] at h;cases h) h3
 ·intro n m e e' b h1 h2 h3 h4;have blk':∀ n m e,pre ρ os' n=some m→E2 n=some e→e.aB=some b→M1 b∧E' m=some e:=fun n m e hp he hb'=>by
   obtain ⟨k1,k2⟩:=lG hp;rw[←k2,E2m m k1] at he;cases hx:aD os' m with
   |none=>simp[aC,hx] at k1
   |some x =>
    obtain ⟨_,kf,_⟩:=hb.bp m x hx;have ho:=hh.bD m;rw[hx] at ho;cases x with
    |bF T sz es =>
     obtain ⟨aB,q1,q2,q3⟩:=ho;rw[q1,v6] at he;subst he;cases aB with
     |none=>cases hb'
     |some bc =>
      obtain ⟨b',cap⟩:=bc;cases hb';obtain ⟨cs,pr,rest,g1,_⟩:=q3;exact ⟨g1,q1⟩
    |it ks vs left cur=>cases kf
    |dW T xs =>
     obtain ⟨aB,q1,q2,q3⟩:=ho;rw[q1,v6] at he;subst he;cases aB with
     |none=>cases hb'
     |some bc =>
      obtain ⟨b',cap⟩:=bc;cases hb';obtain ⟨cs,r,g1,_⟩:=q3;exact ⟨g1,q1⟩
    |cn ks vs =>
     obtain ⟨b',es,ck,q1,q2,_⟩:=ho;rw[q1,v6] at he;subst he;cases hb';exact ⟨q2,q1⟩
    |dm x =>
     obtain ⟨b',q1,q2,_⟩:=ho;rw[q1,v6] at he;subst he;cases hb';exact ⟨q2,q1⟩
    |box y =>
     obtain ⟨b',cs,T,q1,q2,_⟩:=ho;rw[q1,v6] at he;subst he;cases hb';exact ⟨q2,q1⟩
  cases hn:pre ρ os' n with
  |none =>
   have g1:E n=some e:=by rw[←E2o n hn];exact h1
   cases hm:pre ρ os' m with
   |none=>exact hs.cD n m e e' b g1 (by rw[←E2o m hm];exact h2) h3 h4
   |some m'=>exact absurd (blk' m m' e' hm h2 h4).1 (other n e b hn g1 h3)
  |some n' =>
   have g1:=blk' n n' e hn h1 h3;cases hm:pre ρ os' m with
   |none=>exact absurd g1.1 (other m e' b hm (by rw[←E2o m hm];exact h2) h4)
   |some m' =>
    have g2:=blk' m m' e' hm h2 h4;have:=hh.cD n' m' e e' b g1.2 g2.2 h3 h4;rw[←(lG hn).2,←(lG hm).2,this]
 ·cases hp:pre ρ os' n with
  |none=>rw[E2o n hp];exact hs.dG n e hn
  |some m =>
   rcases cas n m hp with ⟨_,e1,e2,k1,k2,k3⟩ | ⟨_,_,k1⟩
   ·rcases hs.dG n e hn with h | ⟨e3,h,h'⟩
    ·rw[h] at k1;cases k1
    ·rw[k1,v6] at h;subst h
     right
     rw[hE2];simp only[hp];exact ⟨e2,k2,h'.trans k3⟩
   ·rw[hn] at k1;cases k1
 ·have h3:=(aR.aT (w:=w') (p:=aC os') (ρ:=bo ρ) (E:=E') (E':=E2) (D:=D') (fun n hn=>E2m n hn) (v:=v) hb.wW.1).2 hr;cases hbb:aE with
  |true=>exact (aR.aT (w:=w') (p:=aC os') (ρ:=bo ρ) (E:=E') (E':=E2) (D:=D2) (fun n hn=>E2m n hn) (v:=v) hb.wW.1).2 (aR.de (hb.wW.2 hbb) hr)
  |false =>
   refine aR.later (E:=E2) ⟨fun b o hd =>?_,fun _ _ _ _ h=>h,fun _ _ _ h=>h,fun _ aB l h=>⟨aB,l,h,zz2 _,fun _=>rfl⟩,fun _ _ h=>h,fun _ _ h=>h,fun _ _ _ _ h=>h⟩ h3;rw[hD2];by_cases hm:M1 b
   ·exact .inr ⟨hm,hd⟩
   ·rw[hM1] at hm;exact .inl (hbx hbb b o (hold b o hd (Nat.lt_of_not_le fun h=>hm (.inl h)) fun h=>hm (.inr h)))
end
theorem ua(z:Array Value):∀ n:Nat,(Builtin.zeroCells z n).toList=(List.replicate n z.toList).flatten
 |0=>by simp[Builtin.zeroCells]
 |n+1=>by
  rw[List.replicate_succ,List.flatten_cons,←ua z n];apply List.ext_getElem?;intro i;by_cases hz:z.size=0
  ·have hz':z = #[]:=Array.eq_empty_of_size_eq_zero hz;subst hz';simp[Builtin.zeroCells]
  have hpos:0<z.size:=Nat.pos_of_ne_zero hz;by_cases hi:i<z.toList.length
  ·rw[zy6 hi];have hi':i<z.size:=by simpa using hi
   have h1:i<(n+1)*z.size:=by rw[Nat.succ_mul];omega
   simp only[Builtin.zeroCells,Array.toList_map,Array.toList_range,zx3,List.getElem?_range h1,zz7,Nat.mod_eq_of_lt hi'];simp[hi']
  ·rw[zw3 (by omega)];have hi':z.size≤i:=by simpa using hi
   simp only[Builtin.zeroCells,Array.toList_map,Array.toList_range,zx3,zx6];by_cases h2:i<(n+1)*z.size
   ·have h3:i-z.size<n*z.size:=by rw[Nat.succ_mul] at h2;omega
    rw[List.getElem?_range h2,List.getElem?_range h3];simp only[zz7];rw[←Nat.mod_eq_sub_mod hi']
   ·have h3:¬ i-z.size<n*z.size:=by rw[Nat.succ_mul] at h2;omega
    rw[List.getElem?_eq_none (by simpa using h2),List.getElem?_eq_none (by simpa using h3)]
theorem qH{w:World}{D:aH}{E:aN}{z:I}{cs:List Value}(h:af w D E z cs):∀ n:Nat,aA w D E (List.replicate n z) (List.replicate n cs).flatten
 |0=>by simp[aA]
 |n+1=>by
  simp only[List.replicate_succ,List.flatten_cons,aA];exact ⟨cs,_,rfl,h,qH h n⟩
section
variable {c:ct} {A:ae} {a:Act} {w:World} {D:aH} {E:aN}
theorem aM.view(h:aM c A a w D E){n:Nat}{p:List Nat}{sz lo k:Nat}{v:Value}{fs:List I}(ab:aR w D E (.view n p sz lo k) v)(hx:bT A (.ptr n p)=some (.agg fs)) :
  ∃ y b cs T off c1 c2 c3,A.o n=some (.box y)∧E n=some (.aE b y.aL)∧eh w b cs T y.aL∧y.at p=some (.agg fs)∧y.aL.off p=some off∧cs.toList=c1++c2++c3∧c1.length=off∧aA w D E fs c2 ∧
   af w D E y cs.toList∧(∀ f∈fs,f.size=sz)∧lo+k≤fs.length∧fs.length≤maxLen∧v=.slice (some ⟨b,off+lo*sz,none⟩) k (fs.length-lo):=by
 obtain ⟨z,b',cs',T,off',c1,c2,c3,k1,k2,_,k3,k4,k5,k6,k7,k8,k9,_⟩:=h.at hx;obtain ⟨vs,g1,g2⟩:=ab;simp only[af] at g2;obtain ⟨b,aL,off,l,h1,h2,h3,h4,h5,h6,h7⟩:=g2;rw[k2] at h1;simp only[v6,bw.aE.injEq] at h1;obtain ⟨rfl,rfl⟩:=h1;rw[k5,v6] at h2;subst h2;rw[lS p z _ k4] at h3;simp only[I.aL,v6,bP.eE.injEq] at h3;subst h3;rw[I.cL,Z9] at h4 h5 h6;refine ⟨z,b',cs',T,off',c1,c2,c3,k1,k2,k3,k4,k5,k6,k7,by simpa only[af] using k8,k9,Fc h7,h6,h5,?_⟩;simpa[ba,I.isAgg,h4] using g1.symm
theorem aM.lV(h:aM c A a w D E){sz:Nat}{x:I}{v:Value}{ys:List I}(ab:aR w D E x v)(hs:c7 A sz x=some ys) :
  ∃ ad cp news,v=.slice ad ys.length cp∧ys.length≤cp∧cp≤maxLen∧aA w D E ys news∧(∀ y∈ys,y.size=sz)∧(ys≠[]→∃ b o,ad=some ⟨b,o,none⟩∧∀ j u,news[j]?=some u→w.cell? ⟨b,o+j,none⟩=some u):=by
 cases x <;>simp only[c7] at hs <;>try (cases hs;done)
 case nils z =>
  simp only[v6] at hs;subst hs;obtain ⟨cs,q1,q2⟩:=ab;simp only[af] at q2;exact ⟨none,0,[],by simpa[ba,I.isAgg,q2] using q1.symm,by simp,by simp[maxLen],by simp[aA],by simp,fun h=>absurd rfl h⟩
 case c0 z =>
  simp only[v6] at hs;subst hs;obtain ⟨cs,q1,q2⟩:=ab;simp only[af] at q2;obtain ⟨ad,q2⟩:=q2;exact ⟨ad,0,[],by simpa[ba,I.isAgg,q2] using q1.symm,by simp,by simp[maxLen],by simp[aA],by simp,fun h=>absurd rfl h⟩
 case slice z es =>
  split at hs
  ·rename_i hz;simp only[v6] at hs;subst hs hz;obtain ⟨ad,cap,e1,e2,e3,e4,e5⟩:=kU ab;rcases e4 with rfl | ⟨b,off,cs,rfl,q1,q2⟩
   ·exact ⟨ad,cap,[],e1,e2,e3,by simp[aA],by simp,fun h=>absurd rfl h⟩
   ·exact ⟨_,cap,cs,e1,e2,e3,q2,e5,fun _=>⟨b,off,rfl,fun j u hj=>(q1 j u hj).1⟩⟩
  ·cases hs
 case own n l =>
  split at hs
  ·rename_i T z es hn;split at hs
   ·rename_i hz;obtain ⟨hz1,rfl⟩:=hz;simp only[v6] at hs;subst hs;obtain ⟨aB,k1,k2,k3⟩:=h.bF hn;obtain ⟨cs,q1,q2⟩:=ab;simp only[af] at q2;obtain ⟨blk',l',g1,g2,_,g4⟩:=q2;rw[k1] at g1;simp only[v6,bw.rw.injEq] at g1;obtain ⟨rfl,rfl⟩:=g1
    replace g4:=g4 hz1
    cases aB with
    |none =>
     simp only at k3 g4;subst k3;have hv':v=.slice none 0 0:=by rw[g4] at q1;simpa[ba,I.isAgg] using q1.symm
     exact ⟨none,0,[],hv',by simp,by simp[maxLen],by simp[aA],by simp,fun h=>absurd rfl h⟩
    |some bc =>
     obtain ⟨b,cap⟩:=bc;simp only at g4;obtain ⟨cs',pre,rest,k4,k5,k6,k7,k8,k9,k10,k11⟩:=k3;refine ⟨some ⟨b,0,none⟩,cap,pre,by rw[←hz1];simpa[ba,I.isAgg,g4] using q1.symm,k9,k10,k7,k2,fun _=>⟨b,0,rfl,fun j u hj =>?_⟩⟩;have:=(tr (D:=fun _ _=>True) (c1:=[]) (c2:=pre) (c3:=rest) k5 (by simpa using k6) (fun _ _=>trivial)) j u hj;simpa using this.1
   ·cases hs
  ·cases hs
 case view n p z lo k =>
  split at hs
  ·rename_i fs hx;split at hs
   ·rename_i hk;obtain ⟨hk,rfl⟩:=hk;simp only[v6] at hs;subst hs;obtain ⟨y,b,cs,T,off,c1,c2,c3,k1,k2,k3,k4,k5,k6,k7,k8,k9,k10,k11,k12,rfl⟩:=h.view ab hx;obtain ⟨d1,d2,d3,rfl,q1,q2,q3⟩:=tp k8 k10 lo k hk;have hlen:((fs.drop lo).take k).length=k:=by rw[zz4,zv1];omega
    refine ⟨some ⟨b,off+lo*z,none⟩,fs.length-lo,d2,by rw[hlen],by rw[hlen];omega,by omega,q2,fun y hy=>k10 y (List.mem_of_mem_drop (zw5 hy)),fun _=>⟨b,_,rfl,fun j u hj =>?_⟩⟩;have:=(tq (D:=fun _ _=>True) (c1:=c1++d1) (c2:=d2) (c3:=d3++c3) k3 (by rw[k6];simp) (fun _ _=>trivial)) j u hj;rw[Z8,k7,q1] at this;exact this.1
   ·cases hs
  ·cases hs
theorem aM.iG(h:aM c A a w D E){n:Nat}{p:List Nat}{sz j:Nat}{y:I}{fs ys:List I}{b off:Nat}{cs:Array Value}{T:TypeId}{c1 c2 c3 ds:List Value}(hn:A.o n=some (.box y))(aq:E n=some (.aE b y.aL))(hb:eh w b cs T y.aL)
  (hat:y.at p=some (.agg fs)) (hoff:y.aL.off p=some off) (hcs:cs.toList=c1++c2++c3) (hc1:c1.length=off) (hfs:aA w D E fs c2) (hy:af w D E y cs.toList) (hsz:∀ f∈fs,f.size=sz) (hys:aA w D E ys ds) (hj:j+ys.length≤fs.length)
  (hsh:I.cJ ys=I.cJ ((fs.drop j).take ys.length)) (P:Program) :
  ∃ w',(storeCells ⟨b,off+j*sz,none⟩ ds 0).run P w=.ok () w'∧aM c (A.aQ n (.box (y.dI p (.agg (fs.take j++(ys++fs.drop (j+ys.length))))))) a w' D E:=by
 obtain ⟨d1,d2,d3,rfl,q1,q2,q3⟩:=tp hfs hsz j ys.length hj;have hd1:aA w D E (fs.take j) d1:=by
  have e1:fs=fs.take j++fs.drop j:=(zx1 j fs).symm;rw[e1] at hfs;obtain ⟨e1,e2,he,k1,k2⟩:=tn _ _ _ hfs;have hl:e1.length=d1.length:=by
   rw[aA.length _ _ k1,I.gF _ (fun x hx=>hsz x (zw5 hx)),q1,zz4];congr 1;omega
  have:e1=d1:=by
   have:=congrArg (List.take d1.length) he;rw[List.take_left,←hl,List.take_left] at this;exact this.symm
  rw[←this];exact k1
 have hlen:ds.length=d2.length:=by rw[aA.length _ _ hys,aA.length _ _ q2,←I.lT,←I.lT,hsh]
 have hds:af w D E (.agg (fs.take j++(ys++fs.drop (j+ys.length)))) (d1++(ds++d3)):=by
  simp only[af];refine jl _ _ _ _ hd1 (jl _ _ _ _ hys ?_);rw[List.drop_drop] at q3;exact q3
 have hshape:(I.agg (fs.take j++(ys++fs.drop (j+ys.length)))).aL=(I.agg fs).aL:=by
  simp only[I.aL,bP.eE.injEq,I.cL,zx5];rw[←I.cL ys,hsh,I.cL,←zx5,←zx5]
  congr 1
  rw[←List.drop_drop,zx1,zx1]
 obtain ⟨off',g1,g2,g3,g4⟩:=tl p y _ _ _ _ hy hat hds hshape;rw[hoff,v6] at g1;subst g1;have hst:=tE P b (off+j*sz) T ds 0 cs w hb (by
  have:cs.size=cs.toList.length:=by simp
  rw[this,hcs];simp only[Z8];omega) (aA.kL _ _ hys)
 simp only[Nat.add_zero] at hst;refine ⟨_,hst,?_⟩;refine h.xj hn aq g4 ?_;have e:cs.toList.take (off+j*sz)++ds++cs.toList.drop (off+j*sz+ds.length)=cs.toList.take off++(d1++(ds++d3))++cs.toList.drop (off+(d1++(ds++d3)).length):=by
  rw[hcs];have t1:(c1++(d1++(d2++d3))++c3).take (off+j*sz)=c1++d1:=by
   rw[←hc1,←q1,zz0,List.take_length_add_append,zz0,List.take_left]
  have t2:(c1++(d1++(d2++d3))++c3).drop (off+j*sz+ds.length)=d3++c3:=by
   rw[←hc1,←q1,hlen,zz0,Nat.add_assoc,List.drop_length_add_append,zz0,List.drop_length_add_append,zz0,List.drop_left]
  have t3:(c1++(d1++(d2++d3))++c3).take off=c1:=by rw[←hc1,zz0,List.take_left]
  have t4:(c1++(d1++(d2++d3))++c3).drop (off+(d1++(ds++d3)).length)=c3:=by
   have:(d1++(ds++d3)).length=(d1++(d2++d3)).length:=by simp[hlen]
   rw[this,←hc1,zz0,List.drop_length_add_append,List.drop_left]
  rw[t1,t2,t3,t4];simp
 rw[e];simpa using g3
end
end Go.Abs
