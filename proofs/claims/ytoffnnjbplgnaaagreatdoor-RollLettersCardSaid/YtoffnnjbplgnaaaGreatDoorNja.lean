/-
  A part of the proof that the law RollLetters returns true for every input; five variables of Go's library start as the text lays them (the card ties them); conditions: none beyond the statement's own. (part 1 of 7)
-/
import Derived.WalkKit
import Derived.Orders
import Derived.Still
import Derived.RangeFuncSeq
import Derived.RangeFuncLeaves
import Derived.RangeFuncOwn
import Derived.Great.FillDense
import Derived.Great.BuildSlice
import Derived.Laws.CopyRow
import Derived.ChangeKeysEq
import Derived.Laws.AppendOwn
set_option linter.unusedSimpArgs false
set_option linter.unusedVariables false
set_option maxHeartbeats 16000000
set_option maxRecDepth 100000
namespace Go
theorem y6:type_of% @And.intro:=@And.intro
theorem v6:type_of% @Option.some.injEq:=@Option.some.injEq
theorem t7:type_of% @Nat.le_of_ble_eq_true:=@Nat.le_of_ble_eq_true
theorem t8:type_of% @Option.map_eq_some_iff:=@Option.map_eq_some_iff
theorem zz0:type_of% @Bool.and_eq_true:=@Bool.and_eq_true
theorem zz1:type_of% @List.length_append:=@List.length_append
theorem zz2:type_of% @List.getD_eq_getElem?_getD:=@List.getD_eq_getElem?_getD
theorem zz3:type_of% @List.length_map:=@List.length_map
theorem zz4:type_of% @Nat.zero_add:=@Nat.zero_add
theorem zz5:type_of% @List.getElem?_eq_getElem:=@List.getElem?_eq_getElem
theorem zz6:type_of% @List.length_take:=@List.length_take
theorem zz7:type_of% @List.append_assoc:=@List.append_assoc
theorem zz8:type_of% @List.cons_append:=@List.cons_append
theorem zz9:type_of% @List.map_cons:=@List.map_cons
theorem zy0:type_of% @Bool.false_eq_true:=@Bool.false_eq_true
theorem zy1:type_of% @Nat.le_refl:=@Nat.le_refl
theorem zy2:type_of% @Int.eq_ofNat_of_zero_le:=@Int.eq_ofNat_of_zero_le
theorem zy3:type_of% @List.nil_append:=@List.nil_append
theorem zy4:type_of% @List.getElem?_eq_some_iff:=@List.getElem?_eq_some_iff
theorem zy5:type_of% @Option.map_some:=@Option.map_some
theorem zy6:type_of% @List.mem_append:=@List.mem_append
theorem zy7:type_of% @List.mem_singleton:=@List.mem_singleton
theorem zy8:type_of% @Array.getElem?_eq_some_iff:=@Array.getElem?_eq_some_iff
theorem zy9:type_of% @List.map_nil:=@List.map_nil
theorem zx0:type_of% @List.getElem?_append_left:=@List.getElem?_append_left
theorem zx1:type_of% @List.all_eq_true:=@List.all_eq_true
theorem zx2:type_of% @List.append_nil:=@List.append_nil
theorem zx3:type_of% @Option.isSome_iff_exists:=@Option.isSome_iff_exists
theorem zx4:type_of% @List.mem_map:=@List.mem_map
theorem zx5:type_of% @List.length_cons:=@List.length_cons
theorem zx6:type_of% @List.cons.injEq:=@List.cons.injEq
theorem zx7:type_of% @List.mem_cons:=@List.mem_cons
theorem zx8:type_of% @List.getElem?_map:=@List.getElem?_map
theorem zx9:type_of% @List.mem_of_mem_take:=@List.mem_of_mem_take
theorem zw0:type_of% @Array.getElem?_toList:=@Array.getElem?_toList
theorem zw1:type_of% @List.take_append_drop:=@List.take_append_drop
theorem zw2:type_of% @Option.map_none:=@Option.map_none
theorem zw3:type_of% @List.map_append:=@List.map_append
theorem zw4:type_of% @List.take_append_of_le_length:=@List.take_append_of_le_length
theorem zw5:type_of% @Array.length_toList:=@Array.length_toList
theorem zw6:type_of% @List.getD_cons_zero:=@List.getD_cons_zero
theorem zw7:type_of% @List.getD_cons_succ:=@List.getD_cons_succ
theorem zw8:type_of% @Int.toNat_natCast:=@Int.toNat_natCast
theorem zw9:type_of% @List.mem_cons_self:=@List.mem_cons_self
theorem zv0:type_of% @List.eq_nil_of_length_eq_zero:=@List.eq_nil_of_length_eq_zero
theorem zv1:type_of% @List.length_nil:=@List.length_nil
theorem zv2:type_of% @List.length_pos_iff:=@List.length_pos_iff
theorem zv3:type_of% @List.length_drop:=@List.length_drop
theorem zv4:type_of% @List.getElem_mem:=@List.getElem_mem
theorem zv5:type_of% @List.take_length:=@List.take_length
theorem zv6:type_of% @Nat.zero_le:=@Nat.zero_le
theorem zv7:type_of% @List.getElem?_append_right:=@List.getElem?_append_right
theorem zv8:type_of% @List.take_of_length_le:=@List.take_of_length_le
theorem zv9:type_of% @List.drop_eq_nil_of_le:=@List.drop_eq_nil_of_le
theorem zu0:type_of% @List.take_succ_eq_append_getElem:=@List.take_succ_eq_append_getElem
theorem zu1:type_of% @Option.bind_eq_some_iff:=@Option.bind_eq_some_iff
theorem zu2:type_of% @Array.getElem?_eq_getElem:=@Array.getElem?_eq_getElem
theorem zu3:type_of% @List.drop_eq_getElem_cons:=@List.drop_eq_getElem_cons
theorem zu4:type_of% @Option.bind_some:=@Option.bind_some
theorem zu5:type_of% @Nat.lt_of_lt_of_le:=@Nat.lt_of_lt_of_le
theorem zu6:type_of% @Bool.true_and:=@Bool.true_and
theorem zu7:type_of% @List.mem_cons_of_mem:=@List.mem_cons_of_mem
theorem zu8:type_of% @List.take_left:=@List.take_left
end Go
namespace Go.Abs
open Go
inductive I where
 |undef | dv
 |bool (b:Bool)
 |int (k:IntKind) (n:Int)
 |ak (s:ByteArray)
 |nilp | dO | dh
 |any
 |raw (v:Value)
 |nils (sz:Nat)
 |c0 (sz:Nat)
 |slice (sz:Nat) (es:List I)
 |agg (fs:List I)
 |tuple (fs:List I)
 |ref (c:I)
 |func (f:FuncId) (caps:List I)
 |iface (t:TypeId) (v:I)
 |ptr (n:Nat) (p:List Nat)
 |own (n:Nat) (k:Nat)
 |view (n:Nat) (p:List Nat) (sz lo k:Nat)
 |mref (n:Nat)
 |dx (n:Nat)
 |dA (ks vs:List I)
 deriving Inhabited
inductive cg where
 |one
 |dP (l:List cg)
 deriving Inhabited
mutual
def cg.size:cg→Nat
 | .one=>1
 | .dP l=>cg.sizes l
def cg.sizes:List cg→Nat
 | []=>0
 |s::l=>s.size+cg.sizes l
end
mutual
def I.aN:I→cg
 | .agg fs=>.dP (I.cB fs)
 |_=>.one
def I.cB:List I→List cg
 | []=>[]
 |f::fs=>f.aN::I.cB fs
end
mutual
def I.size:I→Nat
 | .agg fs=>I.sizes fs
 |_=>1
def I.sizes:List I→Nat
 | []=>0
 |f::fs=>f.size+I.sizes fs
end
def I.isAgg:I→Bool
 | .agg _=>true
 |_=>false
def cg.off:cg→List Nat→Option Nat
 |_,[]=>some 0
 | .one,_::_=>none
 | .dP l,i::p=>match l[i]? with
  |some s=>(s.off p).map (cg.sizes (l.take i) + ·)
  |none=>none
def cg.part:cg→List Nat→Option cg
 |s,[]=>some s
 | .one,_::_=>none
 | .dP l,i::p=>match l[i]? with
  |some s=>s.part p
  |none=>none
def I.at:I→List Nat→Option I
 |c,[]=>some c
 | .agg fs,i::p=>match fs[i]? with
  |some f=>f.at p
  |none=>none
 |_,_::_=>none
def I.dR:I→List Nat→I→I
 |_,[],v=>v
 | .agg fs,i::p,v=>match fs[i]? with
  |some f=>.agg (fs.set i (f.dR p v))
  |none=>.agg fs
 |c,_::_,_=>c
inductive bL where
 |aG (b:Nat) (aN:cg)
 |rw (aL:Option (Nat×Nat)) (len:Nat)
 |op (b:Nat)
 |cI (b:Nat)
 |it (b:Nat)
def bL.fm:bL→Bool
 | .rw _ _=>false
 |_=>true
def bL.eE(e e':bL):Prop:=e'=e∨∃ aL l blk' l',e=.rw aL l∧e'=.rw blk' l'∧l≤l'∧(l'=l→blk'=aL)
theorem bL.eE.refl(e:bL):e.eE e:=.inl rfl
theorem bL.eE.eq{e e':bL}(h:e.eE e')(hf:e.fm=true):e'=e:=by
 rcases h with h | ⟨aL,l,blk',l',rfl,_⟩
 ·exact h
 ·cases hf
theorem bL.eE.trans{a b c:bL}(h:a.eE b)(k:b.eE c):a.eE c:=by
 rcases h with rfl | ⟨aL,l,blk',l',rfl,rfl,h1,h2⟩
 ·exact k
 ·rcases k with rfl | ⟨_,_,blk2,l2,e,rfl,h3,h4⟩
  ·exact .inr ⟨aL,l,blk',l',rfl,rfl,h1,h2⟩
  ·cases e;exact .inr ⟨aL,l,blk2,l2,rfl,rfl,by omega,fun e=>by rw[h4 (by omega),h2 (by omega)]⟩
abbrev aO:=Nat→Nat→Prop
abbrev aU:=Nat→Option bL
def reads(w:World)(D:aO)(b off:Nat)(cs:List Value):Prop :=
 ∀ j v,cs[j]?=some v→w.cell? ⟨b,off+j,none⟩=some v∧D b (off+j)
def pW(es:Array MapEntry)(clock:Nat):Prop:=(∀ x∈es.toList,x.born<clock)∧(es.toList.map (·.born)).Nodup
def pt(w:World)(D:aO)(b:Nat)(es:Array MapEntry)(clock:Nat):Prop:=w.heap[b]?=some (.map es clock)∧D b 0∧pW es clock
def bm(e:I)(v:Value)(cs:List Value):Prop:=if e.isAgg then v=.agg cs.toArray else cs=[v]
def kj(f:Nat)(vs:List Value):Value:=if f<1000000 then .func (.func f) #[] vs.toArray else .func (.func (f-1000000)) vs.toArray #[]
theorem oq{f:Nat}(h:f<1000000)(vs:List Value):kj f vs=.func (.func f) #[] vs.toArray:=by simp only[kj,if_pos h]
theorem sD(f:Nat)(vs:List Value):kj (f+1000000) vs=.func (.func f) vs.toArray #[]:=by
 simp only[kj,if_neg (show ¬ f+1000000<1000000 by omega),Nat.add_sub_cancel]
theorem SG{f:Nat}{vs vs':List Value}(h:kj f vs=kj f vs'):vs=vs':=by
 rcases Nat.lt_or_ge f 1000000 with hf | hf
 ·rw[oq hf,oq hf] at h;simpa using h
 ·obtain ⟨g,rfl⟩:∃ g,f=g+1000000:=⟨f-1000000,by omega⟩
  rw[sD,sD] at h;simpa using h
theorem EB(f:Nat)(vs:List Value):(kj f vs).oneCell'=true:=by
 simp only[kj];split <;>simp[Value.oneCell']
mutual
/-- These cells hold this value. -/
def ai(w:World)(D:aO)(E:aU):I→List Value→Prop
 | .agg fs,cs=>aK w D E fs cs
 | .bool b,cs=>cs=[.bool b]
 | .int k n,cs=>cs=[.int k n]∧k.min≤n∧n≤k.max
 | .ak s,cs=>cs=[.string s]∧s.size≤maxLen
 | .nilp,cs=>cs=[.pointer none]
 | .dO,cs=>cs=[.nilFunc]
 | .dh,cs=>cs=[.nilIface]
 | .any,cs=>∃ v:Value,cs=[v]∧v.oneCell'=true
 | .raw u,cs=>cs=[u]∧u.oneCell'=true
 | .nils _,cs=>cs=[.slice none 0 0]
 | .c0 _,cs=>∃ a,cs=[.slice a 0 0]
 | .slice sz es,cs=>∃ a cap,cs=[.slice a es.length cap]∧es.length≤cap∧cap≤maxLen ∧
   (es=[]∨∃ b off cs',a=some ⟨b,off,none⟩∧reads w D b off cs'∧aK w D E es cs')∧∀ e∈es,e.size=sz
 | .ref c,cs=>∃ b off cs',cs=[.pointer (some ⟨b,off,none⟩)]∧reads w D b off cs'∧ai w D E c cs'
 | .func f caps,cs=>∃ vs:List Value,cs=[kj f vs]∧aD w D E caps vs
 | .iface t v,cs=>∃ u cs',cs=[.iface t u]∧bm v u cs'∧ai w D E v cs'
 | .ptr n p,cs=>∃ b aN off,E n=some (.aG b aN)∧aN.off p=some off∧cs=[.pointer (some ⟨b,off,none⟩)]
 | .own n k,cs=>∃ aL l,E n=some (.rw aL l)∧k≤l∧(∃ a m c,cs=[.slice a m c]) ∧
   (k=l→match aL with | none=>cs=[.slice none 0 0] | some (b,cap)=>cs=[.slice (some ⟨b,0,none⟩) k cap])
 | .view n p sz lo k,cs=>∃ b aN off l,E n=some (.aG b aN)∧aN.off p=some off∧aN.part p=some (.dP l)∧cs=[.slice (some ⟨b,off+lo*sz,none⟩) k (l.length-lo)]∧l.length≤maxLen∧lo+k≤l.length∧∀ s∈l,s.size=sz
 | .mref n,cs=>∃ b,E n=some (.cI b)∧cs=[.map (some b)]
 | .dx n,cs=>∃ b,E n=some (.it b)∧cs=[.pointer (some ⟨b,0,none⟩)]
 | .dA ks vs,cs=>∃ b es clock,cs=[.map (some b)]∧pt w D b es clock∧aD w D E ks (es.toList.map (·.key))∧aD w D E vs (es.toList.map (·.val))
 | .undef,_ | .dv,_ | .tuple _,_=>False
def aK(w:World)(D:aO)(E:aU):List I→List Value→Prop
 | [],cs=>cs=[]
 |e::es,cs=>∃ c1 c2,cs=c1++c2∧ai w D E e c1∧aK w D E es c2
def aD(w:World)(D:aO)(E:aU):List I→List Value→Prop
 | [],vs=>vs=[]
 |e::es,vs=>∃ v rest cs,vs=v::rest∧bm e v cs∧ai w D E e cs∧aD w D E es rest
end
def aV(w:World)(D:aO)(E:aU)(x:I)(v:Value):Prop :=
 match x with
 | .undef=>v=undef
 | .dv=>True
 | .tuple fs=>∃ vs:List Value,v=.tuple vs.toArray∧aD w D E fs vs
 |x=>∃ cs,bm x v cs∧ai w D E x cs
structure ej (w:World) (D:aO) (E:aU) (w':World) (D':aO) (E':aU):Prop where
 df:∀ b o,D b o→D' b o
 cell:∀ b o v,D b o→w.cell? ⟨b,o,none⟩=some v→w'.cell? ⟨b,o,none⟩=some v
 aG:∀ n b aN,E n=some (.aG b aN)→E' n=some (.aG b aN)
 rw:∀ n aL l,E n=some (.rw aL l)→∃ blk' l',E' n=some (.rw blk' l')∧l≤l'∧(l'=l→blk'=aL)
 cI:∀ n b,E n=some (.cI b)→E' n=some (.cI b)
 it:∀ n b,E n=some (.it b)→E' n=some (.it b)
 iF:∀ b es ck,D b 0→w.heap[b]?=some (.map es ck)→w'.heap[b]?=some (.map es ck)
structure iu (w:World) (D:aO) (w':World):Prop where
 cell:∀ b o v,D b o→w.cell? ⟨b,o,none⟩=some v→w'.cell? ⟨b,o,none⟩=some v
 iF:∀ b es ck,D b 0→w.heap[b]?=some (.map es ck)→w'.heap[b]?=some (.map es ck)
theorem iu.refl(w:World)(D:aO):iu w D w:=⟨fun _ _ _ _ h=>h,fun _ _ _ _ h=>h⟩
theorem iu.trans{w w' w'':World}{D D':aO}(h:iu w D w')(hD:∀ b o,D b o→D' b o)(k:iu w' D' w''):iu w D w'' :=
 ⟨fun b o v hd ae=>k.cell b o v (hD b o hd) (h.cell b o v hd ae),fun b es ck hd hm=>k.iF b es ck (hD b 0 hd) (h.iF b es ck hd hm)⟩
theorem ej.gq{w w':World}{D D':aO}{E E':aU}(h:ej w D E w' D' E'):iu w D w':=⟨h.cell,h.iF⟩
theorem pt.later{w w':World}{D D':aO}{E E':aU}(h:ej w D E w' D' E'){b:Nat}{es:Array MapEntry}{clock:Nat}(hr:pt w D b es clock):pt w' D' b es clock :=
 ⟨h.iF _ _ _ hr.2.1 hr.1,h.df _ _ hr.2.1,hr.2.2⟩
theorem reads.later{w w':World}{D D':aO}{E E':aU}(h:ej w D E w' D' E'){b off:Nat}{cs:List Value}(hr:reads w D b off cs):reads w' D' b off cs :=
 fun j v hj=>⟨h.cell _ _ _ (hr j v hj).2 (hr j v hj).1,h.df _ _ (hr j v hj).2⟩
mutual
theorem ai.later{w w':World}{D D':aO}{E E':aU}(h:ej w D E w' D' E'):∀ (x:I) (cs:List Value),ai w D E x cs→ai w' D' E' x cs
 | .agg fs,cs,hr=>by simp only[ai] at *;exact aK.later h fs cs hr
 | .bool b,cs,hr=>by simpa only[ai] using hr
 | .int k n,cs,hr=>by simpa only[ai] using hr
 | .ak s,cs,hr=>by simpa only[ai] using hr
 | .nilp,cs,hr=>by simpa only[ai] using hr
 | .dO,cs,hr=>by simpa only[ai] using hr
 | .dh,cs,hr | .any,cs,hr=>by simpa only[ai] using hr
 | .raw _,cs,hr=>by simpa only[ai] using hr
 | .nils _,cs,hr=>by simpa only[ai] using hr
 | .c0 _,cs,hr=>by simpa only[ai] using hr
 | .slice sz es,cs,hr=>by
  simp only[ai] at *;obtain ⟨a,cap,h1,h2,h3,h4,h5⟩:=hr;refine ⟨a,cap,h1,h2,h3,?_,h5⟩;rcases h4 with h4 | ⟨b,off,cs',h6,h7,h8⟩
  ·exact .inl h4
  ·exact .inr ⟨b,off,cs',h6,h7.later h,aK.later h es cs' h8⟩
 | .ref c,cs,hr=>by
  simp only[ai] at *;obtain ⟨b,off,cs',h1,h2,h3⟩:=hr;exact ⟨b,off,cs',h1,h2.later h,ai.later h c cs' h3⟩
 | .func f caps,cs,hr=>by
  simp only[ai] at *;obtain ⟨vs,h1,h2⟩:=hr;exact ⟨vs,h1,aD.later h caps vs h2⟩
 | .iface t v,cs,hr=>by
  simp only[ai] at *;obtain ⟨u,cs',h1,h2,h3⟩:=hr;exact ⟨u,cs',h1,h2,ai.later h v cs' h3⟩
 | .ptr n p,cs,hr=>by
  simp only[ai] at *;obtain ⟨b,aN,off,h1,h2,h3⟩:=hr;exact ⟨b,aN,off,h.aG _ _ _ h1,h2,h3⟩
 | .own n k,cs,hr=>by
  simp only[ai] at *;obtain ⟨aL,l,h1,h2,h3,h4⟩:=hr;obtain ⟨blk',l',h5,h6,h7⟩:=h.rw _ _ _ h1;refine ⟨blk',l',h5,Nat.le_trans h2 h6,h3,fun e =>?_⟩;have e1:l'=l:=by omega
  rw[h7 e1];exact h4 (by omega)
 | .view n p _ _ _,cs,hr=>by
  simp only[ai] at *;obtain ⟨b,aN,off,l,h1,h2⟩:=hr;exact ⟨b,aN,off,l,h.aG _ _ _ h1,h2⟩
 | .mref n,cs,hr=>by
  simp only[ai] at *;obtain ⟨b,h1,h2⟩:=hr;exact ⟨b,h.cI _ _ h1,h2⟩
 | .dx n,cs,hr=>by
  simp only[ai] at *;obtain ⟨b,h1,h2⟩:=hr;exact ⟨b,h.it _ _ h1,h2⟩
 | .dA ks vs,cs,hr=>by
  simp only[ai] at *;obtain ⟨b,es,clock,h1,h2,h3,h4⟩:=hr;exact ⟨b,es,clock,h1,h2.later h,aD.later h ks _ h3,aD.later h vs _ h4⟩
 | .undef,_,hr=>by simp only[ai] at hr
 | .dv,_,hr=>by simp only[ai] at hr
 | .tuple _,_,hr=>by simp only[ai] at hr
theorem aK.later{w w':World}{D D':aO}{E E':aU}(h:ej w D E w' D' E'):∀ (xs:List I) (cs:List Value),aK w D E xs cs→aK w' D' E' xs cs
 | [],cs,hr=>by simpa only[aK] using hr
 |x::xs,cs,hr=>by
  simp only[aK] at *;obtain ⟨c1,c2,h1,h2,h3⟩:=hr;exact ⟨c1,c2,h1,ai.later h x c1 h2,aK.later h xs c2 h3⟩
theorem aD.later{w w':World}{D D':aO}{E E':aU}(h:ej w D E w' D' E'):∀ (xs:List I) (vs:List Value),aD w D E xs vs→aD w' D' E' xs vs
 | [],vs,hr=>by simpa only[aD] using hr
 |x::xs,vs,hr=>by
  simp only[aD] at *;obtain ⟨v,rest,cs,h1,h2,h3,h4⟩:=hr;exact ⟨v,rest,cs,h1,h2,ai.later h x cs h3,aD.later h xs rest h4⟩
end
theorem aV.later{w w':World}{D D':aO}{E E':aU}(h:ej w D E w' D' E'){x:I}{v:Value}(hr:aV w D E x v):aV w' D' E' x v:=by
 cases x <;>simp only[aV] at * <;>first
  |exact hr
  |(obtain ⟨vs,h1,h2⟩:=hr;exact ⟨vs,h1,aD.later h _ _ h2⟩)
  |(obtain ⟨cs,h1,h2⟩:=hr;exact ⟨cs,h1,ai.later h _ _ h2⟩)
mutual
theorem I.jN:∀ x:I,x.aN.size=x.size
 | .agg fs=>by simp only[I.aN,I.size,cg.size];exact I.nO fs
 | .undef | .dv | .bool _ | .int _ _ | .ak _ | .nilp | .dO | .dh | .any | .raw _ | .nils _ | .c0 _ | .slice _ _ | .tuple _ | .ref _ | .func _ _ | .iface _ _ | .ptr _ _ | .own _ _ | .view _ _ _ _ _ | .mref _ | .dx _ | .dA _ _=>by simp only[I.aN,I.size,cg.size]
theorem I.nO:∀ xs:List I,cg.sizes (I.cB xs)=I.sizes xs
 | []=>by simp only[I.cB,I.sizes,cg.sizes]
 |x::xs=>by simp only[I.cB,I.sizes,cg.sizes];rw[I.jN x,I.nO xs]
end
mutual
theorem ai.length{w:World}{D:aO}{E:aU} : ∀ (x:I) (cs:List Value),ai w D E x cs→cs.length=x.size
 | .agg fs,cs,hr=>by simp only[ai,I.size] at *;exact aK.length fs cs hr
 | .bool b,cs,hr=>by simp only[ai] at hr;simp[hr,I.size]
 | .int k n,cs,hr=>by simp only[ai] at hr;simp[hr.1,I.size]
 | .ak s,cs,hr=>by simp only[ai] at hr;simp[hr.1,I.size]
 | .nilp,cs,hr=>by simp only[ai] at hr;simp[hr,I.size]
 | .dO,cs,hr=>by simp only[ai] at hr;simp[hr,I.size]
 | .dh,cs,hr=>by simp only[ai] at hr;simp[hr,I.size]
 | .any,cs,hr=>by simp only[ai] at hr;obtain ⟨v,rfl,_⟩:=hr;simp[I.size]
 | .raw u,cs,hr=>by simp only[ai] at hr;simp[hr.1,I.size]
 | .nils _,cs,hr=>by simp only[ai] at hr;simp[hr,I.size]
 | .c0 _,cs,hr=>by simp only[ai] at hr;obtain ⟨a,rfl⟩:=hr;simp[I.size]
 | .slice sz es,cs,hr=>by simp only[ai] at hr;obtain ⟨a,cap,rfl,_⟩:=hr;simp[I.size]
 | .ref c,cs,hr=>by simp only[ai] at hr;obtain ⟨b,off,cs',rfl,_⟩:=hr;simp[I.size]
 | .func f caps,cs,hr=>by simp only[ai] at hr;obtain ⟨vs,rfl,_⟩:=hr;simp[I.size]
 | .iface t v,cs,hr=>by simp only[ai] at hr;obtain ⟨u,cs',rfl,_⟩:=hr;simp[I.size]
 | .ptr n p,cs,hr=>by simp only[ai] at hr;obtain ⟨b,aN,off,_,_,rfl⟩:=hr;simp[I.size]
 | .own n k,cs,hr=>by simp only[ai] at hr;obtain ⟨aL,l,_,_,⟨a,m,c,rfl⟩,_⟩:=hr;simp[I.size]
 | .view n p _ _ _,cs,hr=>by simp only[ai] at hr;obtain ⟨b,aN,off,l,_,_,_,rfl,_⟩:=hr;simp[I.size]
 | .mref n,cs,hr=>by simp only[ai] at hr;obtain ⟨b,_,rfl⟩:=hr;simp[I.size]
 | .dx n,cs,hr=>by simp only[ai] at hr;obtain ⟨b,_,rfl⟩:=hr;simp[I.size]
 | .dA ks vs,cs,hr=>by simp only[ai] at hr;obtain ⟨b,es,ck,rfl,_⟩:=hr;simp[I.size]
 | .undef,_,hr=>by simp only[ai] at hr
 | .dv,_,hr=>by simp only[ai] at hr
 | .tuple _,_,hr=>by simp only[ai] at hr
theorem aK.length{w:World}{D:aO}{E:aU} : ∀ (xs:List I) (cs:List Value),aK w D E xs cs→cs.length=I.sizes xs
 | [],cs,hr=>by simp only[aK] at hr;simp[hr,I.sizes]
 |x::xs,cs,hr=>by
  simp only[aK] at hr;obtain ⟨c1,c2,rfl,h1,h2⟩:=hr;simp only[zz1,I.sizes,ai.length x c1 h1,aK.length xs c2 h2]
end
mutual
theorem ai.mD{w:World}{D:aO}{E:aU} : ∀ (x:I) (cs:List Value),ai w D E x cs→∀ v∈cs,v.oneCell'=true
 | .agg fs,cs,hr=>by simp only[ai] at hr;exact aK.mD fs cs hr
 | .bool b,cs,hr=>by simp only[ai] at hr;simp[hr,Value.oneCell']
 | .int k n,cs,hr=>by simp only[ai] at hr;simp[hr.1,Value.oneCell']
 | .ak s,cs,hr=>by simp only[ai] at hr;simp[hr.1,Value.oneCell']
 | .nilp,cs,hr=>by simp only[ai] at hr;simp[hr,Value.oneCell']
 | .dO,cs,hr=>by simp only[ai] at hr;simp[hr,Value.oneCell']
 | .dh,cs,hr=>by simp only[ai] at hr;simp[hr,Value.oneCell']
 | .any,cs,hr=>by simp only[ai] at hr;obtain ⟨v,rfl,h⟩:=hr;simpa using h
 | .raw u,cs,hr=>by simp only[ai] at hr;simpa[hr.1] using hr.2
 | .nils _,cs,hr=>by simp only[ai] at hr;simp[hr,Value.oneCell']
 | .c0 _,cs,hr=>by simp only[ai] at hr;obtain ⟨a,rfl⟩:=hr;simp[Value.oneCell']
 | .slice sz es,cs,hr=>by simp only[ai] at hr;obtain ⟨a,cap,rfl,_⟩:=hr;simp[Value.oneCell']
 | .ref c,cs,hr=>by simp only[ai] at hr;obtain ⟨b,off,cs',rfl,_⟩:=hr;simp[Value.oneCell']
 | .func f caps,cs,hr=>by simp only[ai] at hr;obtain ⟨vs,rfl,_⟩:=hr;simp only[kj];split <;>simp[Value.oneCell']
 | .iface t v,cs,hr=>by simp only[ai] at hr;obtain ⟨u,cs',rfl,_⟩:=hr;simp[Value.oneCell']
 | .ptr n p,cs,hr=>by simp only[ai] at hr;obtain ⟨b,aN,off,_,_,rfl⟩:=hr;simp[Value.oneCell']
 | .own n k,cs,hr=>by simp only[ai] at hr;obtain ⟨aL,l,_,_,⟨a,m,c,rfl⟩,_⟩:=hr;simp[Value.oneCell']
 | .view n p _ _ _,cs,hr=>by simp only[ai] at hr;obtain ⟨b,aN,off,l,_,_,_,rfl,_⟩:=hr;simp[Value.oneCell']
 | .mref n,cs,hr=>by simp only[ai] at hr;obtain ⟨b,_,rfl⟩:=hr;simp[Value.oneCell']
 | .dx n,cs,hr=>by simp only[ai] at hr;obtain ⟨b,_,rfl⟩:=hr;simp[Value.oneCell']
 | .dA ks vs,cs,hr=>by simp only[ai] at hr;obtain ⟨b,es,ck,rfl,_⟩:=hr;simp[Value.oneCell']
 | .undef,_,hr=>by simp only[ai] at hr
 | .dv,_,hr=>by simp only[ai] at hr
 | .tuple _,_,hr=>by simp only[ai] at hr
theorem aK.mD{w:World}{D:aO}{E:aU} : ∀ (xs:List I) (cs:List Value),aK w D E xs cs→∀ v∈cs,v.oneCell'=true
 | [],cs,hr=>by simp only[aK] at hr;simp[hr]
 |x::xs,cs,hr=>by
  simp only[aK] at hr;obtain ⟨c1,c2,rfl,h1,h2⟩:=hr;intro v ae;rcases zy6.1 ae with h | h
  ·exact ai.mD x c1 h1 v h
  ·exact aK.mD xs c2 h2 v h
end
theorem bm.cells{x:I}{v:Value}{cs:List Value}{w:World}{D:aO}{E:aU}(h:bm x v cs)(hr:ai w D E x cs):v.cells.toList=cs:=by
 unfold bm at h;split at h
 ·rw[h];simp[Value.cells]
 ·subst h;have:=ai.mD x _ hr v (by simp);cases v <;>simp[Value.cells,Value.oneCell'] at *
theorem nC{w:World}{D:aO}{E:aU} : ∀ (xs:List I) (cs:List Value) (i:Nat) (x:I),aK w D E xs cs→xs[i]?=some x →
  ∃ c1 c2 c3,cs=c1++c2++c3∧c1.length=I.sizes (xs.take i)∧aK w D E (xs.take i) c1∧ai w D E x c2∧aK w D E (xs.drop (i+1)) c3
 | [],_,i,x,_,h=>by simp at h
 |y::ys,cs,0,x,hr,h=>by
  simp only[List.getElem?_cons_zero,v6] at h;subst h;simp only[aK] at hr;obtain ⟨c1,c2,rfl,h1,h2⟩:=hr;exact ⟨[],c1,c2,by simp,by simp[I.sizes],by simp[aK],h1,by simpa using h2⟩
 |y::ys,cs,i+1,x,hr,h=>by
  simp only[List.getElem?_cons_succ] at h;simp only[aK] at hr;obtain ⟨c0,c',rfl,h1,h2⟩:=hr;obtain ⟨c1,c2,c3,rfl,h3,h4,h5,h6⟩:=nC ys c' i x h2 h;refine ⟨c0++c1,c2,c3,by simp,?_,?_,h5,by simpa using h6⟩
  ·simp only[zz1,List.take_succ_cons,I.sizes,h3,ai.length y c0 h1]
  ·simp only[List.take_succ_cons,aK];exact ⟨c0,c1,rfl,h1,h4⟩
theorem kv{w:World}{D:aO}{E:aU} : ∀ (xs ys:List I) (cs ds:List Value),aK w D E xs cs→aK w D E ys ds→aK w D E (xs++ys) (cs++ds)
 | [],ys,cs,ds,h,k=>by simp only[aK] at h;subst h;simpa using k
 |x::xs,ys,cs,ds,h,k=>by
  simp only[aK,zz8] at *;obtain ⟨c1,c2,rfl,h1,h2⟩:=h;exact ⟨c1,c2++ds,by simp,h1,kv xs ys c2 ds h2 k⟩
theorem I.iJ{sz:Nat} : ∀ (xs:List I),(∀ x∈xs,x.size=sz)→I.sizes xs=xs.length*sz
 | [],_=>by simp[I.sizes]
 |x::xs,h=>by
  simp only[I.sizes,zx5];rw[h x (by simp),I.iJ xs (fun y hy=>h y (by simp[hy])),Nat.add_mul];omega
theorem I.c7:∀ xs:List I,I.cB xs=xs.map I.aN
 | []=>by simp[I.cB]
 |x::xs=>by simp[I.cB,I.c7 xs]
theorem zW{w:World}{D:aO}{E:aU} : ∀ (p:List Nat) (c x:I) (cs:List Value),ai w D E c cs→c.at p=some x →
  ∃ off c1 c2 c3,c.aN.off p=some off∧cs=c1++c2++c3∧c1.length=off∧ai w D E x c2
 | [],c,x,cs,hr,h=>by
  simp only[I.at,v6] at h;subst h;exact ⟨0,[],cs,[],by cases c.aN <;>simp[cg.off],by simp,rfl,hr⟩
 |i::p,.agg fs,x,cs,hr,h=>by
  simp only[I.at] at h;simp only[ai] at hr;cases hf:fs[i]? with
  |none=>simp[hf] at h
  |some f =>
   simp only[hf] at h;obtain ⟨c1,c2,c3,rfl,h1,_,h3,_⟩:=nC fs cs i f hr hf;obtain ⟨off,d1,d2,d3,h4,rfl,h6,h7⟩:=zW p f x c2 h3 h;refine ⟨I.sizes (fs.take i)+off,c1++d1,d2,d3++c3,?_,by simp,by simp[h1,h6],h7⟩;simp only[I.aN,cg.off,I.c7,zx8,hf,zy5,h4];rw[←List.map_take,←I.c7,I.nO]
 |_::_,.undef,_,_,_,h | _::_,.dv,_,_,_,h | _::_,.bool _,_,_,_,h | _::_,.int _ _,_,_,_,h | _::_,.ak _,_,_,_,h | _::_,.nilp,_,_,_,h
 |_::_,.dO,_,_,_,h | _::_,.dh,_,_,_,h | _::_,.any,_,_,_,h | _::_,.raw _,_,_,_,h | _::_,.nils _,_,_,_,h | _::_,.c0 _,_,_,_,h | _::_,.slice _ _,_,_,_,h | _::_,.tuple _,_,_,_,h
 |_::_,.ref _,_,_,_,h | _::_,.func _ _,_,_,_,h | _::_,.iface _ _,_,_,_,h | _::_,.ptr _ _,_,_,_,h | _::_,.own _ _,_,_,_,h | _::_,.view _ _ _ _ _,_,_,_,h | _::_,.mref _,_,_,_,h | _::_,.dx _,_,_,_,h | _::_,.dA _ _,_,_,_,h=>by simp[I.at] at h
theorem wj{w:World}{D:aO}{E:aU} : ∀ (p:List Nat) (c x y:I) (cs ds:List Value),ai w D E c cs→c.at p=some x→ai w D E y ds→y.aN=x.aN →
  ∃ off,c.aN.off p=some off∧off+ds.length≤cs.length∧ai w D E (c.dR p y) (cs.take off++ds++cs.drop (off+ds.length))∧(c.dR p y).aN=c.aN
 | [],c,x,y,cs,ds,hr,h,hy,hs=>by
  simp only[I.at,v6] at h;subst h;have hl:ds.length=cs.length:=by rw[ai.length _ _ hy,ai.length _ _ hr,←I.jN,←I.jN,hs]
  refine ⟨0,by cases c.aN <;>simp[cg.off],by omega,?_,by simpa[I.dR] using hs⟩;simpa[I.dR,hl] using hy
 |i::p,.agg fs,x,y,cs,ds,hr,h,hy,hs=>by
  simp only[I.at] at h;simp only[ai] at hr;cases hf:fs[i]? with
  |none=>simp[hf] at h
  |some f =>
   simp only[hf] at h;obtain ⟨c1,c2,c3,rfl,h1,h2,h3,h3'⟩:=nC fs cs i f hr hf;obtain ⟨off,h4,h5,h6,h7⟩:=wj p f x y c2 ds h3 h hy hs;have hi:i<fs.length:=(zy4.1 hf).1;have hfi:fs[i]=f:=(zy4.1 hf).2;refine ⟨I.sizes (fs.take i)+off,?_,?_,?_,?_⟩
   ·simp only[I.aN,cg.off,I.c7,zx8,hf,zy5,h4];rw[←List.map_take,←I.c7,I.nO]
   ·simp only[zz1,h1];omega
   ·simp only[I.dR,hf,ai];have e1:fs.set i (f.dR p y)=fs.take i++f.dR p y::fs.drop (i+1):=by rw[List.set_eq_take_append_cons_drop];simp[hi]
    rw[e1];have e2:(c1++c2++c3).take (I.sizes (fs.take i)+off)++ds++(c1++c2++c3).drop (I.sizes (fs.take i)+off+ds.length)=c1++((c2.take off++ds++c2.drop (off+ds.length))++c3):=by
     rw[←h1,zz7 c1 c2 c3,List.take_length_add_append,Nat.add_assoc,List.drop_length_add_append,zw4 (by omega),List.drop_append_of_le_length (by omega)];simp
    rw[e2];refine kv _ _ _ _ h2 ?_;simp only[aK];exact ⟨_,_,rfl,h6,h3'⟩
   ·simp only[I.dR,hf,I.aN,I.c7,List.map_set,h7,cg.dP.injEq];apply List.ext_getElem?;intro k;rw[List.getElem?_set];split
    ·rename_i hk;subst hk;simp[hi,hfi]
    ·rfl
 |_::_,.undef,_,_,_,_,_,h,_,_ | _::_,.dv,_,_,_,_,_,h,_,_ | _::_,.bool _,_,_,_,_,_,h,_,_ | _::_,.int _ _,_,_,_,_,_,h,_,_ | _::_,.ak _,_,_,_,_,_,h,_,_ | _::_,.nilp,_,_,_,_,_,h,_,_
 |_::_,.dO,_,_,_,_,_,h,_,_ | _::_,.dh,_,_,_,_,_,h,_,_ | _::_,.any,_,_,_,_,_,h,_,_ | _::_,.raw _,_,_,_,_,_,h,_,_ | _::_,.nils _,_,_,_,_,_,h,_,_ | _::_,.c0 _,_,_,_,_,_,h,_,_ | _::_,.slice _ _,_,_,_,_,_,h,_,_ | _::_,.tuple _,_,_,_,_,_,h,_,_
 |_::_,.ref _,_,_,_,_,_,h,_,_ | _::_,.func _ _,_,_,_,_,_,h,_,_ | _::_,.iface _ _,_,_,_,_,_,h,_,_ | _::_,.ptr _ _,_,_,_,_,_,h,_,_ | _::_,.own _ _,_,_,_,_,_,h,_,_ | _::_,.view _ _ _ _ _,_,_,_,_,_,h,_,_ | _::_,.mref _,_,_,_,_,_,h,_,_ | _::_,.dx _,_,_,_,_,_,h,_,_ | _::_,.dA _ _,_,_,_,_,_,h,_,_=>by simp[I.at] at h
theorem nN:∀ (p:List Nat) (c x:I),c.at p=some x→c.aN.part p=some x.aN
 | [],c,x,h=>by simp only[I.at,v6] at h;subst h;cases c.aN <;>rfl
 |i::p,.agg fs,x,h=>by
  simp only[I.at] at h;cases hf:fs[i]? with
  |none=>simp[hf] at h
  |some f =>
   simp only[hf] at h;simp only[I.aN,cg.part,I.c7,zx8,hf,zy5];exact nN p f x h
 |_::_,.undef,_,h | _::_,.dv,_,h | _::_,.bool _,_,h | _::_,.int _ _,_,h | _::_,.ak _,_,h | _::_,.nilp,_,h
 |_::_,.dO,_,h | _::_,.dh,_,h | _::_,.any,_,h | _::_,.raw _,_,h | _::_,.nils _,_,h | _::_,.c0 _,_,h | _::_,.slice _ _,_,h | _::_,.tuple _,_,h
 |_::_,.ref _,_,h | _::_,.func _ _,_,h | _::_,.iface _ _,_,h | _::_,.ptr _ _,_,h | _::_,.own _ _,_,h | _::_,.view _ _ _ _ _,_,h | _::_,.mref _,_,h | _::_,.dx _,_,h | _::_,.dA _ _,_,h=>by simp[I.at] at h
end Go.Abs
namespace Go.Abs
open Go Go.RowKit
inductive al where
 |box (c:I)
 |b6 (T:TypeId) (sz:Nat) (es:List I)
 |dU (o:Obj)
 |cI (ks vs:List I)
 |it (ks vs:List I) (left:List Nat) (cur:Option Nat)
 |eN (T:TypeId) (xs:List Int)
 deriving Inhabited
def al.fm:al→Bool
 | .it _ _ _ _=>false
 |_=>true
structure af where
 t:Nat→I
 o:Nat→Option al
def af.put(A:af)(d:Nat)(v:I):af:=⟨fun k=>if k=d then v else A.t k,A.o⟩
def af.aR(A:af)(d:Option Nat)(v:I):af:=match d with | some d=>A.put d v | none=>A
def af.aM(A:af)(n:Nat)(x:al):af:=⟨A.t,fun k=>if k=n then some x else A.o k⟩
def cE:List (Nat×I)→Nat→I
 | [],_=>.dv
 |(k,v)::r,t=>if t=k then v else cE r t
def aq:List (Nat×al)→Nat→Option al
 | [],_=>none
 |(k,v)::r,t=>if t=k then some v else aq r t
def aC(ts:List (Nat×I))(os:List (Nat×al)):af:=⟨cE ts,aq os⟩
def ay(os:List (Nat×al))(n:Nat):Bool:=(aq os n).isSome
abbrev cv:=I→List (Nat×al)→Prop
structure cP where
 P:Program
 dF:World
 bI:aO
 n:Nat
 own:Nat→Prop
 cq:aU
 Y:Value→List I→List (Nat×al)→cv→Prop
 tw:Option Nat
 er:Option (List Deferred):=none
def fS:Value→List I→List (Nat×al)→cv→Prop:=fun _ _ _ _=>False
def cP.bo(c:cP):Fence:=match c.tw with
 |none=>Fence.wide
 |some l=>Fence.wide.inRound l
def cP.fk(c:cP)(b:Nat):Prop:=c.dF.heap.size≤b∨c.own b
structure ft (M:Nat→Prop) (w w':World):Prop where
 os:w'.os=w.os
 tape:w'.tape=w.tape
 output:w'.output=w.output
 size:w.heap.size≤w'.heap.size
 block:∀ k,¬ M k→w'.heap[k]?=w.heap[k]?
theorem ft.refl(M:Nat→Prop)(w:World):ft M w w:=⟨rfl,rfl,rfl,zy1 _,fun _ _=>rfl⟩
theorem ft.trans{M:Nat→Prop}{a b c:World}(h:ft M a b)(k:ft M b c):ft M a c :=
 ⟨k.os.trans h.os,k.tape.trans h.tape,k.output.trans h.output,Nat.le_trans h.size k.size,fun i hi=>(k.block i hi).trans (h.block i hi)⟩
theorem ft.grow{M:Nat→Prop}{w w':World}{B:Nat}(h:Below B w w')(hB:∀ k,B≤k→M k):ft M w w' :=
 ⟨h.os,h.tape,h.output,h.size,fun k hk=>h.block k (Nat.lt_of_not_le fun hle=>hk (hB k hle))⟩
theorem ft.LB{M:Nat→Prop}{w w':World}{B:Nat}(h:ft M w w')(hB:∀ k,k<B→¬ M k):Below B w w' :=
 ⟨h.os,h.tape,h.output,h.size,fun k hk=>h.block k (hB k hk)⟩
def bL.aL:bL→Option Nat
 | .aG b _=>some b
 | .rw (some (b,_)) _=>some b
 | .rw none _=>none
 | .op b=>some b
 | .cI b=>some b
 | .it b=>some b
def bL.gf:bL→Bool
 | .op _ | .cI _ | .it _=>true
 |_=>false
def qJ:Obj→Bool
 | .loop _=>true
 |_=>false
def vQ:Obj→Bool
 | .deferred _=>false
 |_=>true
theorem aeC{o:Obj}(h:qJ o=true):vQ o=true:=by cases o <;>first | rfl | cases h
def po(es:Array MapEntry)(seen:Array Nat):List Nat:=(List.range es.size).filter fun i=>match es[i]? with
 |some e => !seen.contains e.born
 |none=>false
def cg.Fy:cg→Bool
 | .one=>true
 | .dP _=>false
def cg.flat:cg→Bool
 | .one=>false
 | .dP l=>l.all cg.Fy
def ff(w:World)(b:Nat)(cs:Array Value)(T:TypeId)(s:cg):Prop:=∃ fz:Nat×Nat,w.heap[b]?=some (.cells cs T fz)∧(fz=(0,0)∨(fz.1=cs.size∧s.flat=true))
section
variable {w w':World} {b:Nat} {cs cs':Array Value} {T:TypeId} {s:cg}
theorem ff.Gr(h:w.heap[b]?=some (.cells cs T (0,0))):ff w b cs T s:=⟨_,h,.inl rfl⟩
theorem ff.lt(h:ff w b cs T s):b<w.heap.size:=by obtain ⟨_,h,_⟩:=h;exact (zy8.1 h).1
theorem ff.afm(h:ff w b cs T s)(k:w'.heap[b]?=w.heap[b]?):ff w' b cs T s:=by obtain ⟨fz,h,hf⟩:=h;exact ⟨fz,k.trans h,hf⟩
theorem ff.Gl(h:ff w b cs T s){q:Option (List Deferred)}(k:w.heap[b]?=some (.deferred q)):False:=by obtain ⟨_,h,_⟩:=h;rw[h] at k;cases k
theorem ff.bG(h:ff w b cs T s):∃ o,w.heap[b]?=some o∧vQ o=true:=by obtain ⟨_,h,_⟩:=h;exact ⟨_,h,rfl⟩
theorem ff.setRow(h:ff w b cs T s)(hs:cs'.size=cs.size):ff (w.setRow b cs') b cs' T s:=by
 obtain ⟨fz,h,hf⟩:=h;exact ⟨fz,setRow_heap w b cs cs' T _ h,hf.imp id fun k=>⟨k.1.trans hs.symm,k.2⟩⟩
theorem ff.aN{s':cg}(h:ff w b cs T s)(e:s'=s):ff w b cs T s':=e▸h
theorem ff.SI(h:ff w b cs T s){o:Nat}(ho:o<cs.size):w.frozen? ⟨b,o,none⟩=false:=by
 obtain ⟨⟨z1,z2⟩,h,hf⟩:=h;cases hq:w.frozen? ⟨b,o,none⟩ with
 |false=>rfl
 |true =>
  simp only[World.frozen?,h,zz0,decide_eq_true_eq] at hq;rcases hf with hf | hf
  ·simp only[Prod.mk.injEq] at hf;omega
  ·have:=hf.1;simp only at this;omega
theorem ff.plain(h:ff w b cs T s)(hs:s.flat=false):w.heap[b]?=some (.cells cs T (0,0)):=by
 obtain ⟨fz,h,hf | hf⟩:=h
 ·rw[←hf];exact h
 ·rw[hs] at hf;cases hf.2
end
def dc(M:Nat→Prop)(w:World)(D:aO)(E:aU)(n:Nat):Option al→Prop
 |none=>E n=none
 |some (.box x)=>∃ b cs T,E n=some (.aG b x.aN)∧M b∧ff w b cs T x.aN∧ai w D E x cs.toList∧∀ o,¬ D b o
 |some (.b6 T sz es)=>∃ aL,E n=some (.rw aL es.length)∧(∀ e∈es,e.size=sz)∧match aL with
  |none=>es=[]
  |some (b,cap)=>∃ cs pre rest,M b∧w.heap[b]?=some (.cells cs T (0,0))∧cs.toList=pre++rest∧aK w D E es pre ∧
    cs.size=cap*sz∧es.length≤cap∧cap≤maxLen∧∀ o,D b o→o<pre.length
 |some (.dU x)=>∃ b,E n=some (.op b)∧M b∧w.heap[b]?=some x∧qJ x=true∧∀ o,¬ D b o
 |some (.cI ks vs)=>∃ b es clock,E n=some (.cI b)∧M b∧w.heap[b]?=some (.map es clock)∧pW es clock∧aD w D E ks (es.toList.map (·.key))∧aD w D E vs (es.toList.map (·.val))∧∀ o,¬ D b o
 |some (.it ks vs left cur)=>∃ r b es clock since seen last,E n=some (.it r)∧M r∧w.heap[r]?=some (.mapIter (some b) since seen last)∧pt w D b es clock∧aD w D E ks (es.toList.map (·.key))∧aD w D E vs (es.toList.map (·.val)) ∧
   (∀ x∈es.toList,x.born<since)∧(since≤last∧since≤clock)∧left=po es seen∧(∀ i,cur=some i→∃ e,es[i]?=some e∧seen.back?=some e.born∧last=clock)∧∀ o,¬ D r o
 |some (.eN T xs)=>∃ aL,E n=some (.rw aL xs.length)∧(∀ x∈xs,IntKind.i64.min≤x∧x≤IntKind.i64.max)∧match aL with
  |none=>xs=[]
  |some (b,cap)=>∃ cs m,M b∧w.heap[b]?=some (.cells cs T (0,0))∧cs.toList=(xs++List.replicate m 0).map (Value.int .i64)∧xs≠[]∧xs.length+m=cap∧cap≤maxLen∧∀ o,¬ D b o
def cu(E:aU)(b:Nat):Prop:=∃ n e,E n=some e∧e.aL=some b
structure kG (M:Nat→Prop) (w:World) (D:aO) (E:aU) (o:Nat→Option al):Prop where
 bG:∀ n,dc M w D E n (o n)
 cV:∀ n m e e' b,E n=some e→E m=some e'→e.aL=some b→e'.aL=some b→n=m
def oW(run:Array Value→World→(Ending→World→Prop)→Prop)(since:World→aO→aU→Prop)(args:List I)(os:List (Nat×al))(post:cv):Prop :=
 ∀ (w:World) (D:aO) (E:aU) (vs:List Value),since w D E→(∀ b o,D b o→b<w.heap.size)→kG (fun _=>True) w D E (aq os)→aD w D E args vs →
  run vs.toArray w fun e w'=>∃ v D' E' r os',e=.returned v∧post r os'∧aV w' D' E' r v∧kG (fun b=>w.heap.size≤b∨cu E b) w' D' E' (aq os') ∧
   ft (fun b=>w.heap.size≤b∨cu E b) w w'∧(∀ b o,D b o→D' b o)∧(∀ b o,D' b o→b<w'.heap.size)∧(∀ b o,D' b o→b<w.heap.size→¬ cu E b→D b o) ∧
   (∀ n e,E n=some e→ay os' n=true→∃ e',E' n=some e'∧e.eE e')∧iu w D w'
def vu : String := "internal/strconv.uint64pow10"
def FG:Array Value:=(((List.range 20).map fun i=>((10^i:Nat):Int)).map fun z=>Value.int .u64 z).toArray
inductive xg where
 |wc | int | qB
def vv:xg→Array Value→Prop
 | .wc,v=>v=FG
 | .int,v=>∃ m:Int,v = #[.int .i64 m]
 | .qB,v=>∃ t p,v = #[.iface t p]
def pn : List (String × xg) := [(vu, .wc), ("internal/bytealg.MaxLen", .int), ("strconv.ErrSyntax", .qB), ("strconv.ErrRange", .qB)]
def fw(P:Program)(w:World)(own:Nat→Prop):Prop :=
 ∀ q∈pn,∀ g,P.globalNamed q.1=some g→¬ own g∧∃ v,w.var? P q.1=some v∧vv q.2 v
theorem fw.vA{P:Program}{w:World}{own own':Nat→Prop}(h:fw P w own)(ho:∀ b,own' b→own b):fw P w own':=fun q hq g hg=>⟨fun k=>(h q hq g hg).1 (ho g k),(h q hq g hg).2⟩
theorem fw.FE{P:Program}{w w':World}{own own' M:Nat→Prop}(h:fw P w own)(hk:ft M w w')(hM:∀ b,M b→w.heap.size≤b∨own b)(ho:∀ b,own' b→M b):fw P w' own':=fun q hq g hg=>by
 obtain ⟨h1,v,h2,ae⟩:=h q hq g hg;have h3:=h2;unfold World.var? at h2;rw[hg] at h2;simp only[zu4] at h2;have hlt:g<w.heap.size:=by
  rcases Nat.lt_or_ge g w.heap.size with h | h
  ·exact h
  ·rw[Array.getElem?_eq_none h] at h2;cases h2
 have hn:¬ M g:=fun hm=>by
  rcases hM g hm with h | h
  ·omega
  ·exact h1 h
 refine ⟨fun k=>hn (ho g k),v,?_,ae⟩;unfold World.var?;rw[hg];simp only[zu4];rw[hk.block g hn];exact h2
theorem fw.u7{P:Program}{w:World}{own:Nat→Prop}(h:fw P w own){n:String}{k:xg}(hm:(n,k)∈pn){g:Nat}(hg:P.globalNamed n=some g):∃ v,w.var? P n=some v∧vv k v:=(h _ hm g hg).2
structure By (c:cP) (w:World) (D:aO) (E:aU):Prop where
 dX:ft c.fk c.dF w
 cR:∀ b o,c.bI b o→D b o
 df:∀ b o,D b o→¬ c.fk b→c.bI b o
 ev:∀ n e,c.cq n=some e→E n=none∨∃ e',E n=some e'∧e.eE e'
 gq:iu c.dF c.bI w
 sT:fw c.P w (cu E)
def uh(P:Program)(v:Value)(vs:Array Value)(w:World)(R:Ending→World→Prop):Prop :=
 ∃ l,v=.func (.yield l) #[] #[]∧YieldAt Fence.wide 9 P l vs w R
def qj(c:cP):Prop:=fw c.P c.dF c.own∧∀ v args os post,c.Y v args os post→oW (uh c.P v) (By c) args os post
def oY(er:Option (List Deferred))(dF:World)(ds:List Deferred)(w:World):Prop:=match er with
 |none=>∃ Bs:List Nat,ds=Bs.map (fun B => { target:=.collected B,args := #[] })∧Bs.Nodup∧∀ B∈Bs,dF.heap.size≤B∧w.heap[B]?=some (.deferred (some []))
 |some l=>ds=l
theorem oY.mono{er:Option (List Deferred)}{dF w w':World}{ds:List Deferred}(h:oY er dF ds w)(hk:∀ B,dF.heap.size≤B→w.heap[B]?=some (.deferred (some []))→w'.heap[B]?=some (.deferred (some []))):oY er dF ds w':=by
 cases er with
 |none =>
  obtain ⟨Bs,h1,h2,h3⟩:=h;exact ⟨Bs,h1,h2,fun B hB=>⟨(h3 B hB).1,hk B (h3 B hB).1 (h3 B hB).2⟩⟩
 |some l=>exact h
theorem oY.grow{er:Option (List Deferred)}{dF w w':World}{ds:List Deferred}(h:oY er dF ds w)(hk:Below w.heap.size w w'):oY er dF ds w' :=
 h.mono fun B _ hB=>(hk.block B (zy8.1 hB).1).trans hB
structure aT (c:cP) (A:af) (a:Act) (w:World) (D:aO) (E:aU):Prop where
 sz:a.tmps.size=c.n
 fg:oY c.er c.dF a.defers w
 eG:∀ t,aV w D E (A.t t) (a.tmps.getD t undef)
 dX:ft c.fk c.dF w
 df:∀ b o,D b o→¬ c.fk b→c.bI b o
 dy:∀ b o,D b o→b<w.heap.size
 bG:∀ n,dc c.fk w D E n (A.o n)
 cV:∀ n m e e' b,E n=some e→E m=some e'→e.aL=some b→e'.aL=some b→n=m
 ev:∀ n e,c.cq n=some e→E n=none∨∃ e',E n=some e'∧e.eE e'
 fu:∀ n,c.cq n≠none→c.n≤n∧1000000≤n
 cR:∀ b o,c.bI b o→D b o
 fO:qj c
 gq:iu c.dF c.bI w
def bP(c:cP)(A:af)(a:Act)(w:World):Prop:=∃ D E,aT c A a w D E
section
variable {c:cP} {A:af} {a:Act} {w:World} {D:aO} {E:aU}
theorem aT.lV(h:aT c A a w D E){w':World}{D':aO}{E':aU}(hl:ej w D E w' D' E'):iu c.dF c.bI w':=h.gq.trans h.cR hl.gq
theorem aT.yq(h:aT c A a w D E){n:Nat}{e:bL}(hn:c.cq n=some e)(hf:e.fm=true):E n=none∨E n=some e:=by
 rcases h.ev n e hn with k | ⟨e',k,hle⟩
 ·exact .inl k
 ·rw[hle.eq hf] at k;exact .inr k
theorem tf{M:Nat→Prop}{n:Nat}{x:al}(h:dc M w D E n (some x)):E n≠none:=by
 cases x with
 |box x=>obtain ⟨b,cs,T,h1,_⟩:=h;rw[h1];simp
 |b6 T sz es=>obtain ⟨aL,h1,_⟩:=h;rw[h1];simp
 |dU o=>obtain ⟨b,h1,_⟩:=h;rw[h1];simp
 |cI ks vs=>obtain ⟨b,es,ck,h1,_⟩:=h;rw[h1];simp
 |it ks vs left=>obtain ⟨r,b,es,ck,eM,se,la,h1,_⟩:=h;rw[h1];simp
 |eN T xs=>obtain ⟨aL,h1,_⟩:=h;rw[h1];simp
theorem fG{w:World}{b:Nat}{o:Obj}(h:w.heap[b]?=some o):b<w.heap.size:=(zy8.1 h).1
theorem aT.gl(h:aT c A a w D E){n:Nat}{e:bL}{b:Nat}(he:E n=some e)(hb:e.aL=some b):b<w.heap.size:=by
 have:=h.bG n;unfold dc at this;split at this
 ·simp[this] at he
 ·obtain ⟨b',cs,T,h1,h2,h3,_⟩:=this;rw[h1,v6] at he;subst he;simp only[bL.aL,v6] at hb;subst hb;exact h3.lt
 ·obtain ⟨aL,h1,h2,h3⟩:=this;rw[h1,v6] at he;subst he;split at h3
  ·simp[bL.aL] at hb
  ·obtain ⟨cs,pre,rest,h4,h5,_⟩:=h3;simp only[bL.aL,v6] at hb;subst hb;exact fG h5
 ·obtain ⟨b',h1,h2,h3,_⟩:=this;rw[h1,v6] at he;subst he;simp only[bL.aL,v6] at hb;subst hb;exact fG h3
 ·obtain ⟨b',es,ck,h1,h2,h3,_⟩:=this;rw[h1,v6] at he;subst he;simp only[bL.aL,v6] at hb;subst hb;exact fG h3
 ·obtain ⟨r,b',es,ck,eM,se,la,h1,h2,h3,_⟩:=this;rw[h1,v6] at he;subst he;simp only[bL.aL,v6] at hb;subst hb;exact fG h3
 ·obtain ⟨aL,h1,h2,h3⟩:=this;rw[h1,v6] at he;subst he;split at h3
  ·simp[bL.aL] at hb
  ·obtain ⟨cs,m,h4,h5,_⟩:=h3;simp only[bL.aL,v6] at hb;subst hb;exact fG h5
theorem aT.zJ(h:aT c A a w D E){n b:Nat}{e:bL}(he:E n=some e)(ho:e.gf=true)(hb:e.aL=some b):∀ o,¬ D b o:=by
 have:=h.bG n;unfold dc at this;split at this
 ·rw[this] at he;cases he
 ·obtain ⟨b',cs,T,h1,_⟩:=this;rw[h1] at he;cases he;cases ho
 ·obtain ⟨aL,h1,_⟩:=this;rw[h1] at he;cases he;cases ho
 ·obtain ⟨b',h1,_,_,_,h5⟩:=this;rw[h1] at he;cases he;cases hb;exact h5
 ·obtain ⟨b',es,ck,h1,_,_,_,_,_,h5⟩:=this;rw[h1] at he;cases he;cases hb;exact h5
 ·obtain ⟨r,b',es,ck,eM,se,la,h1,_,_,_,_,_,_,_,_,_,h5⟩:=this;rw[h1] at he;cases he;cases hb;exact h5
 ·obtain ⟨aL,h1,_⟩:=this;rw[h1] at he;cases he;cases ho
theorem dc.later{M:Nat→Prop}{w':World}{D':aO}{E':aU}{n:Nat}{x:Option al}(h:dc M w D E n x)(hl:ej w D E w' D' E')(aE:E' n=E n)
  (hheap:∀ e b,E n=some e→e.aL=some b→w'.heap[b]?=w.heap[b]?∧∀ o,D' b o→D b o):dc M w' D' E' n x:=by
 unfold dc at *;split
 ·rw[aE];exact h
 ·obtain ⟨b,cs,T,h1,h2,h3,h4,h5⟩:=h;obtain ⟨k1,k2⟩:=hheap _ b h1 rfl;exact ⟨b,cs,T,aE.trans h1,h2,h3.afm k1,ai.later hl _ _ h4,fun o ho=>h5 o (k2 o ho)⟩
 ·obtain ⟨aL,h1,h2,h3⟩:=h;refine ⟨aL,aE.trans h1,h2,?_⟩;split
  ·exact h3
  ·rename_i b cap;obtain ⟨cs,pre,rest,h4,h5,h6,h7,h8,h9,h10,h11⟩:=h3;obtain ⟨k1,k2⟩:=hheap _ b h1 rfl;exact ⟨cs,pre,rest,h4,k1.trans h5,h6,aK.later hl _ _ h7,h8,h9,h10,fun o ho=>h11 o (k2 o ho)⟩
 ·obtain ⟨b,h1,h2,h3,h4,h5⟩:=h;obtain ⟨k1,k2⟩:=hheap _ b h1 rfl;exact ⟨b,aE.trans h1,h2,k1.trans h3,h4,fun o ho=>h5 o (k2 o ho)⟩
 ·obtain ⟨b,es,ck,h1,h2,h3,h4,h5,h6,h7⟩:=h;obtain ⟨k1,k2⟩:=hheap _ b h1 rfl;exact ⟨b,es,ck,aE.trans h1,h2,k1.trans h3,h4,aD.later hl _ _ h5,aD.later hl _ _ h6,fun o ho=>h7 o (k2 o ho)⟩
 ·obtain ⟨r,b,es,ck,eM,se,la,h1,h2,h3,h4,h5,h6,h7,h8,h9,h9',h10⟩:=h;obtain ⟨k1,k2⟩:=hheap _ r h1 rfl;exact ⟨r,b,es,ck,eM,se,la,aE.trans h1,h2,k1.trans h3,h4.later hl,aD.later hl _ _ h5,aD.later hl _ _ h6,h7,h8,h9,h9',fun o ho=>h10 o (k2 o ho)⟩
 ·obtain ⟨aL,h1,h2,h3⟩:=h;refine ⟨aL,aE.trans h1,h2,?_⟩;split
  ·exact h3
  ·rename_i b cap;obtain ⟨cs,m,h4,h5,h6,h7,h8,h9,h10⟩:=h3;obtain ⟨k1,k2⟩:=hheap _ b h1 rfl;exact ⟨cs,m,h4,k1.trans h5,h6,h7,h8,h9,fun o ho=>h10 o (k2 o ho)⟩
theorem ej.grow{w':World}{D':aO}(hb:Below w.heap.size w w')(hD:∀ b o,D b o→D' b o):ej w D E w' D' E:=by
 refine ⟨hD,fun b o v _ ae =>?_,fun _ _ _ h=>h,fun _ aL l h=>⟨aL,l,h,zy1 _,fun _=>rfl⟩,fun _ _ h=>h,fun _ _ h=>h,fun b es ck _ hm=>(hb.block b (fG hm)).trans hm⟩;rw[hb.cell (World.block_lt_of_cell? w _ ae)];exact ae
theorem aT.Fa(h:aT c A a w D E){w':World}(hb:Below w.heap.size w w'):ft c.fk w w':=ft.grow hb fun k hk=>.inl (Nat.le_trans h.dX.size hk)
theorem aT.old(h:aT c A a w D E){b:Nat}(hm:¬ c.fk b):b<w.heap.size :=
 zu5 (Nat.lt_of_not_le fun hle=>hm (.inl hle)) h.dX.size
theorem aT.lC(h:aT c A a w D E){d:Nat}(hd:d<c.n∨d<1000000):c.cq d=none:=by
 cases hh:c.cq d with
 |none=>rfl
 |some e=>have:=h.fu d (by rw[hh];simp);omega
theorem aT.grow(h:aT c A a w D E){w':World}{D':aO}(hb:Below w.heap.size w w')(hD:∀ b o,D b o→D' b o)
  (hold:∀ b o,D' b o→b<w.heap.size→D b o) (hlive:∀ b o,D' b o→b<w'.heap.size):aT c A a w' D' E:=by
 have hl:ej w D E w' D' E:=ej.grow hb hD;refine ⟨h.sz,h.fg.grow hb,fun t=>aV.later hl (h.eG t),h.dX.trans (h.Fa hb),fun b o hd hm=>h.df b o (hold b o hd (h.old hm)) hm,hlive,
  fun n=>(h.bG n).later hl rfl (fun e b he hb'=>⟨hb.block b (h.gl he hb'),fun o ho=>hold b o ho (h.gl he hb')⟩),h.cV,h.ev,h.fu,fun b o hd=>hD b o (h.cR b o hd),h.fO,h.lV hl⟩
theorem aT.JS(h:aT c A a w D E){D':aO}(hD:∀ b o,D b o→D' b o)
  (hold:∀ b o,D' b o→¬ c.fk b→c.bI b o) (hlive:∀ b o,D' b o→b<w.heap.size)
  (hbox:∀ n x b,A.o n=some (.box x)→E n=some (.aG b x.aN)→∀ o,¬ D' b o)
  (hrow:∀ n T sz es b cap,A.o n=some (.b6 T sz es)→E n=some (.rw (some (b,cap)) es.length)→∀ o,D' b o→o<es.length*sz)
  (hui:∀ n T xs b cap,A.o n=some (.eN T xs)→E n=some (.rw (some (b,cap)) xs.length)→∀ o,¬ D' b o)
  (hopq:∀ n e b,E n=some e→e.gf=true→e.aL=some b→∀ o,¬ D' b o):aT c A a w D' E:=by
 have hl:ej w D E w D' E:=⟨hD,fun _ _ _ _ h=>h,fun _ _ _ h=>h,fun _ aL l h=>⟨aL,l,h,zy1 _,fun _=>rfl⟩,fun _ _ h=>h,fun _ _ h=>h,fun _ _ _ _ h=>h⟩
 refine ⟨h.sz,h.fg,fun t=>aV.later hl (h.eG t),h.dX,hold,hlive,fun n =>?_,h.cV,h.ev,h.fu,fun b o hd=>hD b o (h.cR b o hd),h.fO,h.gq⟩;have ho:=h.bG n;cases hx:A.o n with
 |none=>rw[hx] at ho;exact ho
 |some x =>
  cases x with
  |box x =>
   rw[hx] at ho;obtain ⟨b,cs,T,h1,h2,h3,h4,h5⟩:=ho;exact ⟨b,cs,T,h1,h2,h3,ai.later hl _ _ h4,hbox n x b hx h1⟩
  |b6 T sz es =>
   rw[hx] at ho;obtain ⟨aL,h1,h2,h3⟩:=ho;refine ⟨aL,h1,h2,?_⟩;cases aL with
   |none=>exact h3
   |some bc =>
    obtain ⟨b,cap⟩:=bc;obtain ⟨cs,pre,rest,h4,h5,h6,h7,h8,h9,h10,h11⟩:=h3;refine ⟨cs,pre,rest,h4,h5,h6,aK.later hl _ _ h7,h8,h9,h10,fun o hd =>?_⟩;rw[aK.length _ _ h7,I.iJ _ h2];exact hrow n T sz es b cap hx h1 o hd
  |dU x =>
   rw[hx] at ho;obtain ⟨b,h1,h2,h3,h4,h5⟩:=ho;exact ⟨b,h1,h2,h3,h4,hopq n _ b h1 rfl rfl⟩
  |cI ks vs =>
   rw[hx] at ho;obtain ⟨b,es,ck,h1,h2,h3,h4,h5,h6,h7⟩:=ho;exact ⟨b,es,ck,h1,h2,h3,h4,aD.later hl _ _ h5,aD.later hl _ _ h6,hopq n _ b h1 rfl rfl⟩
  |it ks vs left cur =>
   rw[hx] at ho;obtain ⟨r,b,es,ck,eM,se,la,h1,h2,h3,h4,h5,h6,h7,h8,h9,h9',h10⟩:=ho;exact ⟨r,b,es,ck,eM,se,la,h1,h2,h3,h4.later hl,aD.later hl _ _ h5,aD.later hl _ _ h6,h7,h8,h9,h9',hopq n _ r h1 rfl rfl⟩
  |eN T xs =>
   rw[hx] at ho;obtain ⟨aL,h1,h2,h3⟩:=ho;refine ⟨aL,h1,h2,?_⟩;cases aL with
   |none=>exact h3
   |some bc =>
    obtain ⟨b,cap⟩:=bc;obtain ⟨cs,m,h4,h5,h6,h7,h8,h9,h10⟩:=h3;exact ⟨cs,m,h4,h5,h6,h7,h8,h9,hui n T xs b cap hx h1⟩
theorem acs(a:Act)(d:Nat)(v:Value)(t:Nat)(hd:d<a.tmps.size):(a.put (some d) v).tmps.getD t undef=if t=d then v else a.tmps.getD t undef:=by
 simp only[Act.put,Array.getD_eq_getD_getElem?,Array.getElem?_setIfInBounds];by_cases h:t=d
 ·subst h;simp[hd]
 ·simp[h,Ne.symm h]
theorem aT.put(h:aT c A a w D E){d:Nat}{x:I}{v:Value}(hd:d<c.n)(ae:aV w D E x v):aT c (A.put d x) (a.put (some d) v) w D E:=by
 refine ⟨by simp[Act.put,h.sz],by exact h.fg,fun t =>?_,h.dX,h.df,h.dy,h.bG,h.cV,h.ev,h.fu,h.cR,h.fO,h.gq⟩;rw[acs a d v t (by rw[h.sz];exact hd)];simp only[af.put];split
 ·exact ae
 ·exact h.eG t
theorem aT.aR(h:aT c A a w D E){d:Option Nat}{x:I}{v:Value}(hd:∀ k,d=some k→k<c.n)(ae:aV w D E x v):aT c (A.aR d x) (a.put d v) w D E:=by
 cases d with
 |none=>exact h
 |some d=>exact h.put (hd d rfl) ae
theorem kL(w:World)(o:Obj):Below w.heap.size w (w.alloc o):=(Below.refl _ _).alloc (zy1 _) o
theorem I3{w:World}{D:aO}{E:aU} : ∀ {xs:List I} {vs:List Value},aD w D E xs vs→vs.length=xs.length
 | [],vs,h=>by simp only[aD] at h;subst h;rfl
 |x::xs,vs,h=>by
  simp only[aD] at h;obtain ⟨v,rest,cs,rfl,_,_,h3⟩:=h;simp[I3 h3]
theorem aT.te(h:aT c A a w D E){d:Nat}{x:al}{o':Obj}{e:bL}(hdn:d<c.n∨d<1000000)(hd:A.o d=none)(heb:e.aL=some w.heap.size)
  (hx:ej w D E (w.alloc o') D (fun n=>if n=d then some e else E n)→(∀ o,¬ D w.heap.size o)→dc c.fk (w.alloc o') D (fun n=>if n=d then some e else E n) d (some x)) :
  aT c (A.aM d x) a (w.alloc o') D (fun n=>if n=d then some e else E n):=by
 have hEd:E d=none:=by have:=h.bG d;rw[hd] at this;exact this
 have hne:∀ {n:Nat} {e:bL},E n=some e→n≠d:=fun he e'=>by rw[e',hEd] at he;cases he
 have hl:ej w D E (w.alloc o') D (fun n=>if n=d then some e else E n):=by
  refine ⟨fun _ _ h=>h,fun b o v _ ae =>?_,fun n b aN he =>?_,fun n aL l he =>?_,fun n b he =>?_,fun n b he =>?_,fun b es ck _ hm=>(Below.heap_alloc w _ b (fG hm)).trans hm⟩
  ·rw[World.cell?_alloc_lt _ _ _ (World.block_lt_of_cell? w _ ae)];exact ae
  ·simp only[if_neg (hne he)];exact he
  ·exact ⟨aL,l,by simp only[if_neg (hne he)];exact he,zy1 _,fun _=>rfl⟩
  ·simp only[if_neg (hne he)];exact he
  ·simp only[if_neg (hne he)];exact he
 refine ⟨h.sz,h.fg.grow (kL w _),fun t=>aV.later hl (h.eG t),h.dX.trans (h.Fa (kL w _)),h.df,fun b o hd'=>by have:=h.dy b o hd';simp;omega,fun n =>?_,?_,fun n e' hn =>?_,h.fu,h.cR,h.fO,h.lV hl⟩
 ·simp only[af.aM];by_cases hn:n=d
  ·subst hn;simp only[if_true];exact hx hl fun o ho=>Nat.lt_irrefl _ (h.dy _ o ho)
  ·simp only[if_neg hn];exact (h.bG n).later hl (by simp only[if_neg hn]) fun e b he hb=>⟨Below.heap_alloc w _ b (h.gl he hb),fun _ ho=>ho⟩
 ·intro n m e1 e2 b h1 h2 h3 h4;by_cases hn:n=d <;>by_cases hm:m=d
  ·rw[hn,hm]
  ·simp only[if_pos hn,v6] at h1;simp only[if_neg hm] at h2;subst h1;rw[heb] at h3;cases h3;have:=h.gl h2 h4;omega
  ·simp only[if_neg hn] at h1;simp only[if_pos hm,v6] at h2;subst h2;rw[heb] at h4;cases h4;have:=h.gl h1 h3;omega
  ·simp only[if_neg hn] at h1;simp only[if_neg hm] at h2;exact h.cV n m e1 e2 b h1 h2 h3 h4
 ·have hnd:n≠d:=fun e=>by rw[e,h.lC hdn] at hn;cases hn
  simp only[if_neg hnd];exact h.ev n e' hn
theorem aT.tc(h:aT c A a w D E){d:Nat}{x:I}{cs:Array Value}{T:TypeId}(hdn:d<c.n∨d<1000000)(hd:A.o d=none)(hx:ai w D E x cs.toList) :
  aT c (A.aM d (.box x)) a (w.alloc (.cells cs T)) D (fun n=>if n=d then some (.aG w.heap.size x.aN) else E n) :=
 h.te hdn hd rfl fun hl hno=>⟨w.heap.size,cs,T,by simp,.inl h.dX.size,.Gr (heap_alloc_new w _),ai.later hl _ _ hx,hno⟩
theorem aT.aew(h:aT c A a w D E){d:Nat}(hdn:d<c.n∨d<1000000)(hd:A.o d=none) :
  aT c (A.aM d (.cI [] [])) a (w.alloc (.map #[] 0)) D (fun n=>if n=d then some (.cI w.heap.size) else E n) :=
 h.te hdn hd rfl fun _ hno=>⟨w.heap.size,#[],0,by simp,.inl h.dX.size,heap_alloc_new w _,⟨by simp,by simp⟩,by simp[aD],by simp[aD],hno⟩
theorem aT.aev(h:aT c A a w D E){d b clock:Nat}{ks vs:List I}{es:Array MapEntry}(hdn:d<c.n∨d<1000000)(hd:A.o d=none)(hm:pt w D b es clock)(hk:aD w D E ks (es.toList.map (·.key)))(ae:aD w D E vs (es.toList.map (·.val))) :
  aT c (A.aM d (.it ks vs (List.range ks.length) none)) a (w.alloc (.mapIter (some b) clock #[] clock)) D (fun n=>if n=d then some (.it w.heap.size) else E n) :=
 h.te hdn hd rfl fun hl hno=>⟨w.heap.size,b,es,clock,clock,#[],clock,by simp,.inl h.dX.size,heap_alloc_new w _,hm.later hl,aD.later hl _ _ hk,aD.later hl _ _ ae,hm.2.2.1,⟨zy1 _,zy1 _⟩,by
  have e:ks.length=es.size:=by have:=I3 hk;simpa using this.symm
  rw[e];unfold po;exact (List.filter_eq_self.2 fun i hi=>by
   have hi':i<es.size:=by simpa using hi
   simp[zu2 hi']).symm,(fun i hi=>by cases hi),hno⟩
theorem xK(w:World)(g:Nat)(cs:Array Value)(p:Addr)(h:p.block≠g):(w.setRow g cs).cell? p=w.cell? p :=
 World.cell?_of_block (setRow_other w g p.block cs h)
theorem y5{M:Nat→Prop}{dF w:World}(h:ft M dF w){g:Nat}(hg:M g)(cs:Array Value):ft M dF (w.setRow g cs) :=
 h.trans ⟨rfl,rfl,rfl,by simp[World.setRow],fun k hk=>setRow_other w g k cs (fun e=>hk (e▸hg))⟩
theorem aT.Ao(h:aT c A a w D E){n b:Nat}{x y:I}{cs':Array Value}(hn:A.o n=some (.box x))(aE:E n=some (.aG b x.aN))(hs:y.aN=x.aN)(hy:ai w D E y cs'.toList) :
  aT c (A.aM n (.box y)) a (w.setRow b cs') D E:=by
 have ho:=h.bG n;rw[hn] at ho;obtain ⟨b',cs,T,h1,h2,h3,h4,h5⟩:=ho;rw[aE] at h1;simp only[v6,bL.aG.injEq,and_true] at h1;subst h1;have hl:ej w D E (w.setRow b cs') D E:=by
  refine ⟨fun _ _ h=>h,fun b1 o v hd ae =>?_,fun _ _ _ h=>h,fun _ aL l h=>⟨aL,l,h,zy1 _,fun _=>rfl⟩,fun _ _ h=>h,fun _ _ h=>h,fun b1 es ck hd hm=>(setRow_other w b b1 _ (fun e=>h5 0 (by rw[←e];exact hd))).trans hm⟩;rw[xK _ _ _ _ (fun e=>h5 o (by rw[←e];exact hd))];exact ae
 refine ⟨h.sz,h.fg.mono fun B _ hB=>(setRow_other w b B cs' (fun e=>h3.Gl (by rw[←e];exact hB))).trans hB,fun t=>aV.later hl (h.eG t),y5 h.dX h2 _,h.df,fun b1 o hd=>by have:=h.dy b1 o hd;simpa[World.setRow] using this,fun m =>?_,h.cV,h.ev,h.fu,h.cR,h.fO,h.lV hl⟩;simp only[af.aM];by_cases hm:m=n
 ·subst hm;simp only[if_true,dc];exact ⟨b,cs',T,by rw[hs];exact aE,h2,ff.aN (h3.setRow (by have a1:=ai.length _ _ hy;have a2:=ai.length _ _ h4;rw[←I.jN,hs,I.jN,←a2] at a1;simpa using a1)) hs,ai.later hl _ _ hy,h5⟩
 ·simp only[if_neg hm];refine (h.bG m).later hl rfl fun e b1 he hb=>⟨setRow_other w b b1 cs' (fun e1=>hm (h.cV m n e _ b he aE (by rw[hb,e1]) rfl)),fun _ ho=>ho⟩
theorem xL{w:World}{B:Nat}{o o':Obj}(h:w.heap[B]?=some o)(ho:o.isCells=false){b off:Nat}{v:Value}(ae:w.cell? ⟨b,off,none⟩=some v):(w.putObj B o').cell? ⟨b,off,none⟩=some v:=by
 have hne:b≠B:=fun e=>by
  obtain ⟨o2,h2,h3⟩:=cells_of_cell ae;simp only at h2;rw[e,h] at h2;cases h2;rw[ho] at h3;cases h3
 rw[World.cell?_of_block (w:=w) (World.putObj_heap_other hne)];exact ae
theorem aT.Aq(h:aT c A a w D E){n b:Nat}{e:bL}{x:al}{o0 o':Obj}(aE:E n=some e)(ho:e.gf=true)(hb:e.aL=some b)(hw:w.heap[b]?=some o0)(hnc:o0.isCells=false)(hnd:∀ q,o0≠.deferred q)(hmine:c.fk b)
  (hx:ej w D E (w.putObj b o') D E→(w.putObj b o').heap[b]?=some o'→(∀ o,¬ D b o)→dc c.fk (w.putObj b o') D E n (some x)):aT c (A.aM n x) a (w.putObj b o') D E:=by
 have hno:=h.zJ aE ho hb;have hlt:b<w.heap.size:=fG hw;have hl:ej w D E (w.putObj b o') D E:=⟨fun _ _ h=>h,fun b1 o1 v _ ae=>xL hw hnc ae,fun _ _ _ h=>h,fun _ aL l h=>⟨aL,l,h,zy1 _,fun _=>rfl⟩,fun _ _ h=>h,fun _ _ h=>h,
  fun b1 es ck hd hm=>(World.putObj_heap_other (fun e1=>hno 0 (by rw[←e1];exact hd))).trans hm⟩
 refine ⟨h.sz,h.fg.mono fun B _ hB=>(World.putObj_heap_other (fun e1=>by rw[e1,hw] at hB;exact hnd _ (Option.some.inj hB))).trans hB,fun t=>aV.later hl (h.eG t),h.dX.trans ⟨rfl,rfl,rfl,by simp,fun k hk=>World.putObj_heap_other (fun e1=>hk (e1▸hmine))⟩,h.df,
  fun b1 o1 hd=>by have:=h.dy b1 o1 hd;simpa using this,fun m =>?_,h.cV,h.ev,h.fu,h.cR,h.fO,h.lV hl⟩
 simp only[af.aM];by_cases hm:m=n
 ·subst hm;simp only[if_true];exact hx hl (World.putObj_heap_same hlt) hno
 ·simp only[if_neg hm];exact (h.bG m).later hl rfl fun e' b1 he hb'=>⟨World.putObj_heap_other (fun e1=>hm (h.cV m n e' _ b1 he aE hb' (by rw[e1];exact hb))),fun _ ho=>ho⟩
end
inductive aJ where
 |t (n:Nat)
 |c (x:I)
 deriving Inhabited
inductive cK where
 |i (k:IntKind)
 |b
 |s
 |aS (l:List cK)
 |sc (n:Nat) (e:cK)
 deriving Inhabited
mutual
def cK.size:cK→Nat
 | .i _ | .b | .s=>1
 | .aS l=>cK.sizes l
 | .sc n e=>n*e.size
def cK.sizes:List cK→Nat
 | []=>0
 |t::ts=>t.size+cK.sizes ts
end
inductive xi where
 |eM
 |ss (lo hi:Bool)
 |px (neg:Bool)
 |min2
 |oA (T:TypeId)
 |mG
 deriving Inhabited,DecidableEq
inductive bH where
 |mv (x:aJ)
 |pick (c a b:aJ)
 |bin (op:BinOp) (x y:aJ)
 |eqv (ty:cK) (neg:Bool) (x y:aJ)
 |nilS (neg:Bool) (x:aJ)
 |conv (k:IntKind) (x:aJ)
 |un (op:UnOp) (x:aJ)
 |ld (s:Option Nat) (x:aJ)
 |fa (f off:Nat) (x:aJ)
 |fl (f off:Nat) (s:Option Nat) (x:aJ)
 |ia (n esz:Nat) (x i:aJ)
 |is (esz:Nat) (x i:aJ)
 |ix (n esz:Nat) (s:Option Nat) (x i:aJ)
 |len (x:aJ)
 |lenT (x:aJ)
 |va (n esz:Nat) (x:aJ)
 |sl (esz:Nat) (x:aJ) (lo hi mx:Option aJ)
 |bld (zs:List I) (parts:List (Nat×aJ))
 |bs (T esz:Nat) (parts:List aJ)
 |ext (x:aJ) (i:Nat)
 |mk (f:FuncId) (caps:List aJ)
 |alloc (z:I)
 |box (x:aJ)
 |aS (s:Option Nat) (x v:aJ)
 |eB (e:TypeId) (esz bytes:Nat) (z:I) (s x:aJ)
 |ln (e:TypeId) (esz bytes:Nat) (z:I) (s n:aJ)
 |cap (x:aJ)
 |bs0 (esz:Nat)
 |kh (esz:Nat) (z:I) (x:aJ)
 |iz (esz:Nat) (x y:aJ)
 |call (f:FuncId) (args:List aJ)
 |fF (x:aJ) (args:List aJ)
 |jf (f:FuncId) (args:List aJ)
 |nilC (x:aJ)
 |ptrE (neg:Bool) (x y:aJ)
 |max2 (x y:aJ)
 |prim (p:xi) (xs:List aJ)
 |b2s (x:aJ)
 |fC (x:aJ)
 |kX (e:TypeId) (bytes:Nat) (z:I) (n:aJ)
 |mA
 |nu (e:TypeId) (sz:Nat)
 |lk (ty:cK) (z:I) (ok:Bool) (m k:aJ)
 |lK (ty:cK) (m k v:aJ)
 |nt (ty:cK) (m k:aJ)
 |lS (x:aJ)
 |lL (x:aJ)
 |ent (x:aJ)
 deriving Inhabited
def uB(sz:Nat):Value→Option I
 | .bool b=>some (.bool b)
 | .int k n=>if k.min≤n∧n≤k.max then some (.int k n) else none
 | .string s=>if s.size≤1000000 then some (.ak s) else none
 | .pointer none=>some .nilp
 | .slice none 0 0=>some (.nils sz)
 | .nilFunc=>some .dO
 | .nilIface=>some .dh
 | .map none=>some (.raw (.map none))
 |_=>none
theorem Mb{sz:Nat}{v:Value}{x:I}(h:uB sz v=some x)(w:World)(D:aO)(E:aU):aV w D E x v:=by
 unfold uB at h;split at h
 case h_2 =>
  split at h
  ·rename_i hh;simp only[v6] at h;subst h;exact ⟨_,by simp[bm,I.isAgg];rfl,by simp only[ai,true_and];exact hh⟩
  ·simp at h
 case h_3 =>
  split at h
  ·rename_i hh;simp only[v6] at h;subst h;exact ⟨_,by simp[bm,I.isAgg];rfl,by simp only[ai,true_and];unfold maxLen;omega⟩
  ·simp at h
 case h_9=>simp at h
 all_goals
  simp only[v6] at h;subst h;exact ⟨_,by simp[bm,I.isAgg];rfl,by simp[ai,Value.oneCell']⟩
def Se(P:Program)(t:TypeId):Nat:=match P.underlying t with | some (.slice e)=>P.cellsOf e | _=>0
def ba(P:Program)(t:TypeId):Operand→Option aJ
 | .tmp n=>some (.t n)
 | .const v=>(uB (Se P t) v).map .c
 | .func f=>if f<1000000 then some (.c (.func f [])) else none
 | .global _=>none
def aj(A:af):aJ→I
 | .t n=>A.t n
 | .c x=>x
section
variable {c:cP} {A:af} {a:Act} {w:World} {D:aO} {E:aU}
theorem bz(h:aT c A a w D E){P:Program}{t:TypeId}{x:Operand}{y:aJ}(hc:ba P t x=some y):aV w D E (aj A y) (a.eval x):=by
 cases x with
 |tmp n=>simp only[ba,v6] at hc;subst hc;exact h.eG n
 |const v =>
  simp only[ba,t8] at hc;obtain ⟨z,hz,rfl⟩:=hc;exact Mb hz w D E
 |global g=>simp[ba] at hc
 |func f =>
  simp only[ba] at hc;split at hc
  case isFalse=>cases hc
  rename_i hf;simp only[v6] at hc;subst hc;exact ⟨[.func (.func f) #[] #[]],by simp[bm,I.isAgg,aj,Act.eval],by simp only[ai,aj,aD];exact ⟨[],by rw[oq hf],rfl⟩⟩
theorem mJ{b:Bool}{v:Value}(h:aV w D E (.bool b) v):v=.bool b:=by
 obtain ⟨cs,h1,h2⟩:=h;simp only[ai] at h2;simp[bm,I.isAgg,h2] at h1;exact h1.symm
theorem ef{k:IntKind}{n:Int}{v:Value}(h:aV w D E (.int k n) v):v=.int k n∧k.min≤n∧n≤k.max:=by
 obtain ⟨cs,h1,h2⟩:=h;simp only[ai] at h2;simp[bm,I.isAgg,h2.1] at h1;exact ⟨h1.symm,h2.2⟩
theorem il{s:ByteArray}{v:Value}(h:aV w D E (.ak s) v):v=.string s∧s.size≤maxLen:=by
 obtain ⟨cs,h1,h2⟩:=h;simp only[ai] at h2;simp[bm,I.isAgg,h2.1] at h1;exact ⟨h1.symm,h2.2⟩
theorem Gg{x:I}{v:Value}(hx:x.isAgg=false)(h:ai w D E x [v]):aV w D E x v:=by
 cases x <;>simp only[ai] at h <;>first | (simp[I.isAgg] at hx;done) | exact ⟨[v],by simp[bm,I.isAgg],by simpa only[ai] using h⟩
theorem j7{fs:List I}{v:Value}(h:aV w D E (.agg fs) v):∃ cs:List Value,v=.agg cs.toArray∧aK w D E fs cs:=by
 obtain ⟨cs,h1,h2⟩:=h;simp only[ai] at h2;exact ⟨cs,by simpa[bm,I.isAgg] using h1,h2⟩
theorem Ge{fs:List I}{cs:List Value}(h:aK w D E fs cs):aV w D E (.agg fs) (.agg cs.toArray):=⟨cs,by simp[bm,I.isAgg],by simpa only[ai] using h⟩
theorem mz(b:Bool):aV w D E (.bool b) (.bool b):=⟨[.bool b],by simp[bm,I.isAgg],by simp[ai]⟩
theorem jG{k:IntKind}{n:Int}(h:k.min≤n∧n≤k.max):aV w D E (.int k n) (.int k n):=⟨[.int k n],by simp[bm,I.isAgg],by simp only[ai,true_and];exact h⟩
theorem mK{n:Nat}{p:List Nat}{v:Value}(h:aV w D E (.ptr n p) v):∃ b aN off,E n=some (.aG b aN)∧aN.off p=some off∧v=.pointer (some ⟨b,off,none⟩):=by
 obtain ⟨cs,h1,h2⟩:=h;simp only[ai] at h2;obtain ⟨b,aN,off,h3,h4,h5⟩:=h2;exact ⟨b,aN,off,h3,h4,by simpa[bm,I.isAgg,h5] using h1.symm⟩
theorem rB{x:I}{v:Value}(h:aV w D E (.ref x) v):∃ b off cs,v=.pointer (some ⟨b,off,none⟩)∧reads w D b off cs∧ai w D E x cs:=by
 obtain ⟨cs,h1,h2⟩:=h;simp only[ai] at h2;obtain ⟨b,off,cs',h3,h4,h5⟩:=h2;exact ⟨b,off,cs',by simpa[bm,I.isAgg,h3] using h1.symm,h4,h5⟩
theorem vJ{x:I}{b off:Nat}{cs:List Value}(h1:reads w D b off cs)(h2:ai w D E x cs):aV w D E (.ref x) (.pointer (some ⟨b,off,none⟩)) :=
 ⟨_,by simp[bm,I.isAgg];rfl,by simp only[ai];exact ⟨b,off,cs,rfl,h1,h2⟩⟩
theorem mL{sz:Nat}{es:List I}{v:Value}(h:aV w D E (.slice sz es) v):∃ ad cap,v=.slice ad es.length cap∧es.length≤cap∧cap≤maxLen ∧
  (es=[]∨∃ b off cs,ad=some ⟨b,off,none⟩∧reads w D b off cs∧aK w D E es cs)∧∀ e∈es,e.size=sz:=by
 obtain ⟨cs,h1,h2⟩:=h;simp only[ai] at h2;obtain ⟨ad,cap,h3,h4⟩:=h2;exact ⟨ad,cap,by simpa[bm,I.isAgg,h3] using h1.symm,h4⟩
theorem vK{sz:Nat}{es:List I}{ad:Option Addr}{n cap:Nat}(hn:n=es.length)(h1:n≤cap)(h2:cap≤maxLen)
  (h3:es=[]∨∃ b off cs,ad=some ⟨b,off,none⟩∧reads w D b off cs∧aK w D E es cs) (h4:∀ e∈es,e.size=sz):aV w D E (.slice sz es) (.slice ad n cap):=by
 subst hn;exact ⟨_,by simp[bm,I.isAgg];rfl,by simp only[ai];exact ⟨ad,cap,rfl,h1,h2,h3,h4⟩⟩
end
def b8(op:BinOp)(x y:I):Option I :=
 match x,y with
 | .int k a,.int k' b =>
  match op with
  | .shl=>if 0≤b then some (.int k (k.wrap (a*2^(min b.toNat k.bits)))) else none
  | .shr=>if 0≤b then some (.int k (a.fdiv (2^(min b.toNat k.bits)))) else none
  |op=>if k=k' then
   match op with
   | .add=>some (.int k (k.wrap (a+b)))
   | .sub=>some (.int k (k.wrap (a-b)))
   | .mul=>some (.int k (k.wrap (a*b)))
   | .quo=>if b=0 then none else some (.int k (k.wrap (a.tdiv b)))
   | .rem=>if b=0 then none else some (.int k (a.tmod b))
   | .and=>some (.int k (k.wrap ((BitVec.ofInt k.bits a &&& BitVec.ofInt k.bits b).toNat:Int)))
   | .or=>some (.int k (k.wrap ((BitVec.ofInt k.bits a ||| BitVec.ofInt k.bits b).toNat:Int)))
   | .xor=>some (.int k (k.wrap ((BitVec.ofInt k.bits a ^^^ BitVec.ofInt k.bits b).toNat:Int)))
   | .andNot=>some (.int k (k.wrap ((BitVec.ofInt k.bits a &&& ~~~ BitVec.ofInt k.bits b).toNat:Int)))
   | .eql=>some (.bool (a==b))
   | .neq=>some (.bool (a != b))
   | .lss=>some (.bool (decide (a<b)))
   | .leq=>some (.bool (decide (a≤b)))
   | .gtr=>some (.bool (decide (a>b)))
   | .geq=>some (.bool (decide (a≥b)))
   |_=>none
   else none
 | .ak s,.ak t =>
  match op with
  | .eql=>some (.bool (s.toList==t.toList))
  | .neq=>some (.bool (!(s.toList==t.toList)))
  | .lss=>some (.bool (Op.bytesLess s.toList t.toList))
  | .leq=>some (.bool (Op.bytesLess s.toList t.toList||s.toList==t.toList))
  | .gtr=>some (.bool (!(Op.bytesLess s.toList t.toList||s.toList==t.toList)))
  | .geq=>some (.bool (!(Op.bytesLess s.toList t.toList)))
  | .add=>if s.size+t.size≤9223372036854775807 then some (.ak (s++t)) else none
  |_=>none
 |_,_=>none
theorem rR(k:IntKind)(n:Int):k.min≤k.wrap n∧k.wrap n≤k.max:=by
 cases k <;>simp only[IntKind.min,IntKind.max,IntKind.wrap,IntKind.bits,IntKind.signed] <;>simp <;>(try split) <;>omega
theorem ahy(a b:Int):(0≤a→0≤a.tmod b∧a.tmod b≤a)∧(a<0→a≤a.tmod b∧a.tmod b≤0):=by
 have key:∀ n:Nat,0≤(n:Int).tmod b∧(n:Int).tmod b≤n:=by
  intro n;cases b with
  |ofNat m=>show 0≤((n%m:Nat):Int)∧((n%m:Nat):Int)≤n;have:=Nat.mod_le n m;omega
  |negSucc m=>show 0≤((n%(m+1):Nat):Int)∧((n%(m+1):Nat):Int)≤n;have:=Nat.mod_le n (m+1);omega
 refine ⟨fun h =>?_,fun h =>?_⟩
 ·obtain ⟨n,rfl⟩:=zy2 h;exact key n
 ·obtain ⟨n,hn⟩:=zy2 (show 0≤-a by omega);have:=key n;rw[←hn,Int.neg_tmod] at this;omega
theorem ahz(k:IntKind)(a b:Int)(h:k.min≤a∧a≤k.max):k.min≤a.tmod b∧a.tmod b≤k.max:=by
 have h0:k.min≤0∧0≤k.max:=by cases k <;>simp[IntKind.min,IntKind.max,IntKind.bits,IntKind.signed]
 have:=ahy a b;omega
theorem St(a:Int)(m:Int)(hm:0<m):(0≤a→0≤a.fdiv m∧a.fdiv m≤a)∧(a<0→a≤a.fdiv m∧a.fdiv m≤0):=by
 rw[Int.fdiv_eq_ediv_of_nonneg _ (by omega)];have h1:=Int.mul_ediv_add_emod a m;have h2:=Int.emod_nonneg a (show m≠0 by omega);refine ⟨fun h=>⟨Int.ediv_nonneg h (by omega),Int.ediv_le_self _ h⟩,fun h=>⟨?_,?_⟩⟩
 ·rw[Int.le_ediv_iff_mul_le hm];have:a*m≤a*1:=Int.mul_le_mul_of_nonpos_left (by omega) (by omega);omega
 ·have:=Int.ediv_neg_of_neg_of_pos h hm;omega
theorem Su(k:IntKind)(a:Int)(n:Nat)(h:k.min≤a∧a≤k.max):k.min≤a.fdiv (2^n)∧a.fdiv (2^n)≤k.max:=by
 have h0:k.min≤0∧0≤k.max:=by cases k <;>simp[IntKind.min,IntKind.max,IntKind.bits,IntKind.signed]
 have:=St a (2^n) (Int.pow_pos (by omega));omega
def ct(A:af):I→Option I
 | .ref x=>some x
 | .ptr n p=>match A.o n with
  |some (.box x)=>x.at p
  |_=>none
 |_=>none
mutual
def I.bF:I→Bool
 | .agg fs=>I.cG fs
 | .slice _ es=>I.cG es
 | .ref x=>x.bF
 | .func _ caps=>I.cG caps
 | .iface _ v=>v.bF
 | .dA ks vs=>I.cG ks&&I.cG vs
 | .ptr _ _ | .own _ _ | .view _ _ _ _ _ | .mref _ | .dx _ | .undef | .dv | .tuple _=>false
 | .bool _ | .int _ _ | .ak _ | .nilp | .dO | .dh | .any | .raw _ | .nils _ | .c0 _=>true
def I.cG:List I→Bool
 | []=>true
 |x::xs=>x.bF&&I.cG xs
end
def jm(f:I→Option I):List I→Option (List I)
 | []=>some []
 |x::xs=>match f x,jm f xs with
  |some y,some ys=>some (y::ys)
  |_,_=>none
def iA(A:af):Nat→I→Option I
 |0,_=>none
 |k+1,x=>if x.bF then some x else match x with
  | .agg fs=>(jm (iA A k) fs).map .agg
  | .func f caps=>if f<1000000 then (jm (iA A k) caps).map (.func f) else some .any
  | .ptr n p=>match ct A (.ptr n p) with
   |some y=>(iA A k y).map .ref
   |none=>none
  | .view n p sz lo l=>match ct A (.ptr n p) with
   |some (.agg fs)=>if I.cG ((fs.drop lo).take l)=true then some (.slice sz ((fs.drop lo).take l)) else none
   |_=>none
  | .mref n=>match A.o n with
   |some (.cI ks vs)=>if I.cG ks=true then (jm (iA A k) vs).map (.dA ks) else none
   |_=>none
  | .own n l=>match A.o n with
   |some (.b6 _ sz es)=>if l=es.length∧I.cG es=true then some (.slice sz es) else none
   |_=>none
  |_=>none
mutual
/-- The value for others to hold: pointers to the frame's own variables and rows become what they hold. -/
def bh(aG:Bool)(A:af):I→Option I
 | .ptr n p=>if aG then (match ct A (.ptr n p) with | some x=>if x.bF then some (.ref x) else (iA A 9 x).map .ref | none=>none) else none
 | .own n k=>match A.o n with
  |some (.b6 _ sz es)=>if k=es.length∧I.cG es=true then some (.slice sz es) else none
  |_=>none
 | .view n p sz lo k=>if aG then (match ct A (.ptr n p) with
  |some (.agg fs)=>if I.cG ((fs.drop lo).take k)=true then some (.slice sz ((fs.drop lo).take k)) else none
  |_=>none) else none
 | .mref n=>if aG then (match A.o n with
  |some (.cI ks vs)=>if I.cG ks=true then (jm (iA A 9) vs).map (.dA ks) else none
  |_=>none) else none
 | .dx _=>none
 | .dA ks vs=>if I.cG ks&&I.cG vs then some (.dA ks vs) else none
 | .nils sz=>some (.slice sz [])
 | .c0 sz=>some (.slice sz [])
 | .func f caps=>if f<1000000 then (bO aG A caps).map (.func f) else some .any
 | .agg fs=>(bO aG A fs).map .agg
 | .tuple _=>none
 | .undef=>none
 | .dv=>none
 | .bool b=>some (.bool b)
 | .int k n=>some (.int k n)
 | .ak s=>some (.ak s)
 | .nilp=>some .nilp
 | .dO=>some .dO
 | .dh=>some .dh
 | .any=>some .any
 | .raw u=>some (.raw u)
 | .slice sz es=>if I.cG es then some (.slice sz es) else none
 | .ref x=>if x.bF then some (.ref x) else none
 | .iface t v=>if v.bF then some (.iface t v) else none
def bO(aG:Bool)(A:af):List I→Option (List I)
 | []=>some []
 |x::xs=>match bh aG A x,bO aG A xs with
  |some y,some ys=>some (y::ys)
  |_,_=>none
end
def bS(s:Option Nat)(x:I):Bool:=match s with
 |none => !x.isAgg
 |some n=>x.isAgg&&x.size==n
def I.cm:I→Bool
 | .undef | .dv | .tuple _=>false
 |_=>true
def gL(n esz:Nat)(fs:List I):Bool:=fs.length==n&&fs.all fun f=>f.size==esz
def fi(zs:List I):List (Nat×I)→Option (List I)
 | []=>some zs
 |(i,v)::rest=>match zs[i]? with
  |some z=>if v.cm=true∧v.size=z.size then fi (zs.set i v) rest else none
  |none=>none
def jj(x:Option I)(d:Int):Option Int:=match x with
 |none=>some d
 |some (.int _ n)=>some n
 |_=>none
def jO(sz:Nat)(es:List I)(lo hi mx:Option I):Option I :=
 match jj hi es.length with
 |none=>none
 |some h=>match jj mx es.length with
  |none=>none
  |some m=>match jj lo 0 with
   |none=>none
   |some l=>if 0≤l∧l≤h∧h≤m∧m≤es.length then
     (if mx.isSome∧m=l then some (.c0 sz) else some (.slice sz ((es.take h.toNat).drop l.toNat))) else none
def ka(n:Nat)(p:List Nat)(sz lo k total:Nat)(lo' hi' mx':Option I):Option I :=
 match jj hi' k with
 |none=>none
 |some h=>match jj lo' 0 with
  |none=>none
  |some l=>match mx' with
   |none=>if 0≤l∧l≤h∧h≤((total-lo:Nat):Int) then (if l=((total-lo:Nat):Int) then some (.c0 sz) else some (.view n p sz (lo+l.toNat) (h.toNat-l.toNat))) else none
   |some (.int _ m)=>if 0≤l∧l≤h∧h≤m∧m≤((total-lo:Nat):Int) then some .dv else none
   |_=>none
def jT(a b:Option Bool):Option Bool:=match a,b with
 |some x,some y=>some (x&&y)
 |_,_=>none
mutual
/-- '==',part by part. -/
def cA:cK→I→I→Option Bool
 | .i k,x,y=>match x,y with
  | .int k1 a,.int k2 b=>if k1=k∧k2=k then some (a==b) else none
  |_,_=>none
 | .b,x,y=>match x,y with
  | .bool a,.bool b=>some (a==b)
  |_,_=>none
 | .s,x,y=>match x,y with
  | .ak a,.ak b=>some (a.toList==b.toList)
  |_,_=>none
 | .aS l,x,y=>match x,y with
  | .agg fs,.agg gs=>iS l fs gs
  |_,_=>none
 | .sc n e,x,y=>match x,y with
  | .agg fs,.agg gs=>if fs.length=n∧gs.length=n then (fs.zip gs).foldr (fun p acc=>jT (cA e p.1 p.2) acc) (some true) else none
  |_,_=>none
def iS:List cK→List I→List I→Option Bool
 | [],fs,gs=>match fs,gs with
  | [],[]=>some true
  |_,_=>none
 |t::ts,fs,gs=>match fs,gs with
  |f::fs,g::gs=>jT (cA t f g) (iS ts fs gs)
  |_,_=>none
end
def qw(k:IntKind)(n:Int):Int:=k.wrap ((BitVec.ofInt k.bits (if k.signed then -1 else k.max) ^^^ BitVec.ofInt k.bits n).toNat:Int)
def jC(ty:cK)(k:I):List I→Nat→Option (Option Nat)
 | [],_=>some none
 |x::xs,i=>match cA ty k x with
  |some true=>some (some i)
  |some false=>jC ty k xs (i+1)
  |none=>none
def ib(A:af):I→Option (List I×List I)
 | .dA ks vs=>some (ks,vs)
 | .mref n=>match A.o n with
  |some (.cI ks vs)=>some (ks,vs)
  |_=>none
 | .raw (.map none)=>some ([],[])
 |_=>none
def sZ(ty:cK)(z k:I)(ks vs:List I):Option (I×Bool) :=
 if (cA ty k k).isSome then (match jC ty k ks 0 with
  |some (some i)=>(vs[i]?).map fun v=>(v,true)
  |some none=>some (z,false)
  |none=>none) else none
def jF:I→Option Bool
 | .nilp=>some true
 | .ptr _ _=>some false
 | .ref _=>some false
 |_=>none
def s9(ty:cK)(k v:I)(ks vs:List I):Option (List I×List I) :=
 if (cA ty k k).isSome=true∧k.cm=true∧v.cm=true then (match jC ty k ks 0 with
  |some (some i)=>some (ks,vs.set i v)
  |some none=>some (ks++[k],vs++[v])
  |none=>none) else none
def zi(ty:cK)(k:I)(ks vs:List I):Option (List I×List I) :=
 if (cA ty k k).isSome=true then (match jC ty k ks 0 with
  |some (some i)=>some (ks.eraseIdx i,vs.eraseIdx i)
  |some none=>some (ks,vs)
  |none=>none) else none
def pw:I→Option I
 | .ptr n p=>some (.ptr n p)
 | .ref x=>some (.ref x)
 |_=>none
def ta:I→I→Option I
 | .int k a,.int k2 b=>if k=k2 then some (.int k (if b>a then b else a)) else none
 |_,_=>none
def oI(neg:Bool):Option Bool→Option Bool→Option I
 |some a,some b=>if a||b then some (.bool (if neg then !(a&&b) else (a&&b))) else none
 |_,_=>none
def sY(ok:Bool):Option (I×Bool)→Option I
 |some (v,b)=>some (if ok then .tuple [v,.bool b] else v)
 |none=>none
def sX(ty:cK)(z:I)(ok:Bool)(k:I):Option (List I×List I)→Option I
 |some (ks,vs)=>sY ok (sZ ty z k ks vs)
 |none=>none
def uQ(ks vs:List I):Option Nat→Option I
 |some i=>match ks[i]?,vs[i]? with
  |some k,some v=>some (.tuple [k,v])
  |_,_=>none
 |none=>none
def o9:List I→Option (List UInt8)
 | []=>some []
 |x::xs=>match x,o9 xs with
  | .int .u8 n,some l=>some (UInt8.ofNat n.toNat::l)
  |_,_=>none
def du(A:af)(sz:Nat):I→Option (List I)
 | .slice z es=>if z=sz then some es else none
 | .nils _=>some []
 | .c0 _=>some []
 | .own n l=>match A.o n with
  |some (.b6 _ z es)=>if l=es.length∧z=sz then some es else none
  |_=>none
 | .view n p z lo k=>match ct A (.ptr n p) with
  |some (.agg fs)=>if lo+k≤fs.length∧z=sz then some ((fs.drop lo).take k) else none
  |_=>none
 |_=>none
def fq:xi→List I→Option I
 | .eM,[.ak s,.int _ i]=>if 0≤i then (s.data.toList[i.toNat]?).map fun b=>.int .u8 b.toNat else none
 | .ss false true,[.ak s,.int _ h]=>if 0≤h∧h≤s.size then some (.ak (s.extract 0 h.toNat)) else none
 | .ss true false,[.ak s,.int _ l]=>if 0≤l∧l≤s.size then some (.ak (s.extract l.toNat s.size)) else none
 | .ss true true,[.ak s,.int _ l,.int _ h]=>if 0≤l∧l≤h∧h≤s.size then some (.ak (s.extract l.toNat h.toNat)) else none
 | .px neg,[.dh]=>some (.bool (!neg))
 | .px neg,[.iface _ _]=>some (.bool neg)
 | .min2,[.int k a,.int k2 b]=>if k=k2 then some (.int k (if b<a then b else a)) else none
 | .oA T,[x]=>if x.bF=true∧x.cm=true then some (.iface T x) else none
 |_,_=>none
def mX:Option (List I)→Option I
 |some es=>(o9 es).map fun l=>.ak ⟨l.toArray⟩
 |none=>none
def lU(A:af)(sz:Nat):I→Option (List I)
 | .ak s=>if sz=1 then some (s.data.toList.map fun b=>.int .u8 b.toNat) else none
 |x=>du A sz x
def nK:I→Option (List I)
 | .ak s=>some (s.data.toList.map fun b=>.int .u8 b.toNat)
 |_=>none
def bf(A:af):bH→Option I
 | .mv x=>some (aj A x)
 | .pick c a b=>match aj A c with | .bool t=>some (if t then aj A a else aj A b) | _=>none
 | .bin op x y=>b8 op (aj A x) (aj A y)
 | .eqv ty neg x y=>(cA ty (aj A x) (aj A y)).map fun b=>.bool (if neg then !b else b)
 | .nilS neg x=>match aj A x with
  | .nils _=>some (.bool (!neg))
  | .slice _ es=>if es.isEmpty then none else some (.bool neg)
  | .view _ _ _ _ _=>some (.bool neg)
  |_=>none
 | .conv k x=>match aj A x with | .int _ n=>some (.int k (k.wrap n)) | _=>none
 | .un op x=>match op,aj A x with
  | .not,.bool b=>some (.bool !b)
  | .neg,.int k n=>some (.int k (k.wrap (0-n)))
  | .xor,.int k n=>some (.int k (qw k n))
  |_,_=>none
 | .ld s x=>match ct A (aj A x) with | some v=>if bS s v then some v else none | none=>none
 | .fa f off x=>match aj A x with
  | .ref (.agg fs)=>match fs[f]? with | some v=>if I.sizes (fs.take f)=off then some (.ref v) else none | none=>none
  | .ptr n p=>match ct A (.ptr n p) with | some (.agg fs)=>if f<fs.length∧I.sizes (fs.take f)=off then some (.ptr n (p++[f])) else none | _=>none
  |_=>none
 | .fl f off s x=>match aj A x with
  | .agg fs=>match fs[f]? with | some v=>if I.sizes (fs.take f)=off∧bS s v=true then some v else none | none=>none
  |_=>none
 | .ia n esz x i=>match aj A i with
  | .int _ k=>if 0≤k∧k<n then (match aj A x with
   | .ref (.agg fs)=>if gL n esz fs then (fs[k.toNat]?).map .ref else none
   | .ptr m p=>match ct A (.ptr m p) with | some (.agg fs)=>if gL n esz fs then some (.ptr m (p++[k.toNat])) else none | _=>none
   |_=>none) else none
  |_=>none
 | .is esz x i=>match aj A i with
  | .int _ k=>match aj A x with
   | .slice sz es=>if sz=esz∧0≤k∧k<es.length then (es[k.toNat]?).map .ref else none
   | .own m l=>match A.o m with | some (.b6 _ sz es)=>if l=es.length∧sz=esz∧0≤k∧k<es.length then (es[k.toNat]?).map .ref else none | _=>none
   | .view m p sz lo l=>match ct A (.ptr m p) with | some (.agg _)=>if sz=esz∧0≤k∧k<l then some (.ptr m (p++[lo+k.toNat])) else none | _=>none
   |_=>none
  |_=>none
 | .ix n esz s x i=>match aj A i with
  | .int _ k=>if 0≤k∧k<n then (match aj A x with
   | .agg fs=>if gL n esz fs then (match fs[k.toNat]? with | some v=>if bS s v then some v else none | none=>none) else none
   |_=>none) else none
  |_=>none
 | .len x=>match aj A x with
  | .slice _ es=>some (.int .i64 es.length)
  | .nils _ | .c0 _=>some (.int .i64 0)
  | .own m l=>match A.o m with | some (.b6 _ _ es)=>if l=es.length then some (.int .i64 es.length) else none | _=>none
  | .view _ _ _ _ k=>some (.int .i64 k)
  |_=>none
 | .cap x=>match aj A x with
  | .nils _ | .c0 _=>some (.int .i64 ((0:Nat):Int))
  | .view n p _ lo _=>match ct A (.ptr n p) with | some (.agg fs)=>some (.int .i64 ((fs.length-lo:Nat):Int)) | _=>none
  |_=>none
 | .bs0 esz=>some (.c0 esz)
 | .lenT x=>match aj A x with
  | .ak s=>some (.int .i64 s.size)
  |_=>none
 | .va n esz x=>match aj A x with
  | .ptr m p=>match ct A (.ptr m p) with | some (.agg fs)=>if gL n esz fs=true∧n≤maxLen∧n≠0 then some (.view m p esz 0 n) else none | _=>none
  | .ref (.agg fs)=>if gL n esz fs=true∧n≤maxLen∧n≠0 then some (.slice esz fs) else none
  |_=>none
 | .sl esz x lo hi mx=>match aj A x with
  | .slice sz es=>if sz=esz then jO sz es (lo.map (aj A)) (hi.map (aj A)) (mx.map (aj A)) else none
  | .nils sz=>if sz=esz then jO sz [] (lo.map (aj A)) (hi.map (aj A)) (mx.map (aj A)) else none
  | .c0 sz=>if sz=esz then jO sz [] (lo.map (aj A)) (hi.map (aj A)) (mx.map (aj A)) else none
  | .view n p sz l0 k=>match ct A (.ptr n p) with | some (.agg fs)=>if sz=esz then ka n p sz l0 k fs.length (lo.map (aj A)) (hi.map (aj A)) (mx.map (aj A)) else none | _=>none
  |_=>none
 | .bld zs parts=>(fi zs (parts.map fun p=>(p.1,aj A p.2))).map .agg
 | .nilC x=>pw (aj A x)
 | .max2 x y=>ta (aj A x) (aj A y)
 | .prim p xs=>fq p (xs.map (aj A))
 | .b2s x=>mX (du A 1 (aj A x))
 | .ptrE neg x y=>oI neg (jF (aj A x)) (jF (aj A y))
 | .lk ty z ok m k=>sX ty z ok (aj A k) (ib A (aj A m))
 | .ent x=>match aj A x with
  | .dx n=>match A.o n with
   |some (.it ks vs _ cur)=>uQ ks vs cur
   |_=>none
  |_=>none
 | .bs _ esz parts=>match bO false A (parts.map (aj A)) with
  |some es=>if (es.all fun e=>e.size==esz)∧I.cG es then some (.slice esz es) else none
  |none=>none
 | .ext x i=>match aj A x with | .tuple fs=>fs[i]? | _=>none
 | .mk f caps=>if ((caps.map (aj A)).all fun y=>y.cm)=true then some (.func f (caps.map (aj A))) else none
 |_=>none
mutual
theorem ai.fX{w:World}{D D':aO}{E E':aU}(hD:∀ b o,D b o→D' b o):∀ (x:I) (cs:List Value),x.bF=true→ai w D E x cs→ai w D' E' x cs
 | .agg fs,cs,hc,hr=>by simp only[ai,I.bF] at *;exact aK.fX hD fs cs hc hr
 | .bool b,cs,_,hr=>by simpa only[ai] using hr
 | .int k n,cs,_,hr=>by simpa only[ai] using hr
 | .ak s,cs,_,hr=>by simpa only[ai] using hr
 | .nilp,cs,_,hr=>by simpa only[ai] using hr
 | .dO,cs,_,hr=>by simpa only[ai] using hr
 | .dh,cs,_,hr | .any,cs,_,hr=>by simpa only[ai] using hr
 | .raw _,cs,_,hr=>by simpa only[ai] using hr
 | .nils _,cs,_,hr=>by simpa only[ai] using hr
 | .c0 _,cs,_,hr=>by simpa only[ai] using hr
 | .slice sz es,cs,hc,hr=>by
  simp only[ai,I.bF] at *;obtain ⟨a,cap,h1,h2,h3,h4,h5⟩:=hr;refine ⟨a,cap,h1,h2,h3,?_,h5⟩;rcases h4 with h4 | ⟨b,off,cs',h6,h7,h8⟩
  ·exact .inl h4
  ·exact .inr ⟨b,off,cs',h6,fun j v hj=>⟨(h7 j v hj).1,hD _ _ (h7 j v hj).2⟩,aK.fX hD es cs' hc h8⟩
 | .ref x,cs,hc,hr=>by
  simp only[ai,I.bF] at *;obtain ⟨b,off,cs',h1,h2,h3⟩:=hr;exact ⟨b,off,cs',h1,fun j v hj=>⟨(h2 j v hj).1,hD _ _ (h2 j v hj).2⟩,ai.fX hD x cs' hc h3⟩
 | .func f caps,cs,hc,hr=>by
  simp only[ai,I.bF] at *;obtain ⟨vs,h1,h2⟩:=hr;exact ⟨vs,h1,aD.fX hD caps vs hc h2⟩
 | .iface t v,cs,hc,hr=>by
  simp only[ai,I.bF] at *;obtain ⟨u,cs',h1,h2,h3⟩:=hr;exact ⟨u,cs',h1,h2,ai.fX hD v cs' hc h3⟩
 | .ptr n p,_,hc,_=>by simp[I.bF] at hc
 | .own n k,_,hc,_=>by simp[I.bF] at hc
 | .view n p _ _ _,_,hc,_=>by simp[I.bF] at hc
 | .mref n,_,hc,_=>by simp[I.bF] at hc
 | .dx n,_,hc,_=>by simp[I.bF] at hc
 | .dA ks vs,cs,hc,hr=>by
  simp only[ai,I.bF,zz0] at *;obtain ⟨b,es,ck,h1,h2,h3,h4⟩:=hr;exact ⟨b,es,ck,h1,⟨h2.1,hD _ _ h2.2.1,h2.2.2⟩,aD.fX hD ks _ hc.1 h3,aD.fX hD vs _ hc.2 h4⟩
 | .undef,_,hc,_=>by simp[I.bF] at hc
 | .dv,_,hc,_=>by simp[I.bF] at hc
 | .tuple _,_,hc,_=>by simp[I.bF] at hc
theorem aK.fX{w:World}{D D':aO}{E E':aU}(hD:∀ b o,D b o→D' b o):∀ (xs:List I) (cs:List Value),I.cG xs=true→aK w D E xs cs→aK w D' E' xs cs
 | [],cs,_,hr=>by simpa only[aK] using hr
 |x::xs,cs,hc,hr=>by
  simp only[aK,I.cG,zz0] at *;obtain ⟨c1,c2,h1,h2,h3⟩:=hr;exact ⟨c1,c2,h1,ai.fX hD x c1 hc.1 h2,aK.fX hD xs c2 hc.2 h3⟩
theorem aD.fX{w:World}{D D':aO}{E E':aU}(hD:∀ b o,D b o→D' b o):∀ (xs:List I) (vs:List Value),I.cG xs=true→aD w D E xs vs→aD w D' E' xs vs
 | [],vs,_,hr=>by simpa only[aD] using hr
 |x::xs,vs,hc,hr=>by
  simp only[aD,I.cG,zz0] at *;obtain ⟨v,rest,cs,h1,h2,h3,h4⟩:=hr;exact ⟨v,rest,cs,h1,h2,ai.fX hD x cs hc.1 h3,aD.fX hD xs rest hc.2 h4⟩
end
theorem wu{w:World}{D:aO}{b:Nat}{cs:Array Value}{T:TypeId}{fz:Nat×Nat}(hb:w.heap[b]?=some (.cells cs T fz)){c1 c2 c3:List Value}(hc:cs.toList=c1++c2++c3)
  (hD:∀ o,o<c1.length+c2.length→D b o):reads w D b c1.length c2:=by
 intro j v hj;have hjl:j<c2.length:=(zy4.1 hj).1;refine ⟨?_,hD _ (by omega)⟩;have e:cs[c1.length+j]?=some v:=by
  rw[←zw0,hc,zz7,zv7 (by omega),Nat.add_sub_cancel_left,zx0 (by omega)];exact hj
 simp[World.cell?,hb,e]
theorem wE(P:Program)(g o:Nat)(t:TypeId){s:cg} : ∀ (vs:List Value) (i:Nat) (cur:Array Value) (w:World),ff w g cur t s→o+i+vs.length≤cur.size→(∀ v∈vs,v.oneCell'=true) →
  (storeCells ⟨g,o,none⟩ vs i).run P w=.ok () (w.setRow g (cur.toList.take (o+i)++vs++cur.toList.drop (o+i+vs.length)).toArray)
 | [],i,cur,w,hg,_,_=>by
  obtain ⟨fz,hg,_⟩:=hg;simp only[storeCells,zx2,zv1,Nat.add_zero,zw1,Array.toArray_toList];rw[setRow_self w g cur t fz hg];rfl
 |v::rest,i,cur,w,hg,hl,h1=>by
  have hi:o+i<cur.size:=by simp at hl;omega
  have hg2:=hg.setRow (cs':=cur.setIfInBounds (o+i) v) (by simp);have hfro:=hg.SI hi;obtain ⟨fz,hg,_⟩:=hg;have hadd:(⟨g,o,none⟩:Addr).add i=⟨g,o+i,none⟩:=by unfold Addr.add;split <;>simp_all
  have hcell:w.cell? ⟨g,o+i,none⟩=some cur[o+i]:=by simp[World.cell?,hg,hi]
  have hst:(store ((⟨g,o,none⟩:Addr).add i) v).run P w=.ok () (w.setRow g (cur.setIfInBounds (o+i) v)):=by
   rw[hadd,run_store P w _ v _ (h1 v (by simp)),hcell];simp[hfro,setCell_eq_setRow w g (o+i) cur t fz v hg]
  have ih:=wE P g o t rest (i+1) (cur.setIfInBounds (o+i) v) (w.setRow g (cur.setIfInBounds (o+i) v)) hg2 (by simp at hl ⊢;omega) (fun x hx=>h1 x (by simp[hx]));simp only[storeCells,Sem.run_bind,hst,Result.andThen_ok,ih,setRow_setRow]
  congr 3
  have e:=list_seg_step cur.toList (o+i) v rest (by simp at hl ⊢;omega);simpa[Array.toList_setIfInBounds,Nat.add_assoc] using e
theorem wq{w:World}{D:aO}{b:Nat}{cs:Array Value}{T:TypeId}{s:cg}(hb:ff w b cs T s){c1 c2 c3:List Value}(hc:cs.toList=c1++c2++c3)
  (hD:∀ o,o<c1.length+c2.length→D b o):reads w D b c1.length c2:=by
 obtain ⟨_,hb,_⟩:=hb;exact wu hb hc hD
section
variable {c:cP} {A:af} {a:Act} {w:World} {D:aO} {E:aU}
theorem aT.box(h:aT c A a w D E){n:Nat}{x:I}(hn:A.o n=some (.box x)) :
  ∃ b cs T,E n=some (.aG b x.aN)∧c.fk b∧ff w b cs T x.aN∧ai w D E x cs.toList∧∀ o,¬ D b o:=by
 have:=h.bG n;rw[hn] at this;exact this
theorem aT.b6(h:aT c A a w D E){n sz:Nat}{T:TypeId}{es:List I}(hn:A.o n=some (.b6 T sz es)) :
  ∃ aL,E n=some (.rw aL es.length)∧(∀ e∈es,e.size=sz)∧match aL with
  |none=>es=[]
  |some (b,cap)=>∃ cs pre rest,c.fk b∧w.heap[b]?=some (.cells cs T (0,0))∧cs.toList=pre++rest∧aK w D E es pre ∧
    cs.size=cap*sz∧es.length≤cap∧cap≤maxLen∧∀ o,D b o→o<pre.length:=by
 have:=h.bG n;rw[hn] at this;exact this
theorem aT.AP(h:aT c A a w D E){n:Nat}{T:TypeId}{xs:List Int}(hn:A.o n=some (.eN T xs)) :
  ∃ aL,E n=some (.rw aL xs.length)∧(∀ x∈xs,IntKind.i64.min≤x∧x≤IntKind.i64.max)∧match aL with
  |none=>xs=[]
  |some (b,cap)=>∃ cs m,c.fk b∧w.heap[b]?=some (.cells cs T (0,0))∧cs.toList=(xs++List.replicate m 0).map (Value.int .i64)∧xs≠[]∧xs.length+m=cap∧cap≤maxLen∧∀ o,¬ D b o:=by
 have:=h.bG n;rw[hn] at this;exact this
theorem aT.map(h:aT c A a w D E){n:Nat}{ks vs:List I}(hn:A.o n=some (.cI ks vs)) :
  ∃ b es clock,E n=some (.cI b)∧c.fk b∧w.heap[b]?=some (.map es clock)∧pW es clock∧aD w D E ks (es.toList.map (·.key))∧aD w D E vs (es.toList.map (·.val))∧∀ o,¬ D b o:=by
 have:=h.bG n;rw[hn] at this;exact this
theorem aT.at(h:aT c A a w D E){n:Nat}{p:List Nat}{x:I}(hx:ct A (.ptr n p)=some x) :
  ∃ y b cs T off c1 c2 c3,A.o n=some (.box y)∧E n=some (.aG b y.aN)∧c.fk b∧ff w b cs T y.aN∧y.at p=some x∧y.aN.off p=some off ∧
   cs.toList=c1++c2++c3∧c1.length=off∧ai w D E x c2∧ai w D E y cs.toList∧∀ o,¬ D b o:=by
 simp only[ct] at hx;split at hx
 ·rename_i y hn;obtain ⟨b,cs,T,h1,h2,h3,h4,h5⟩:=h.box hn;obtain ⟨off,c1,c2,c3,h6,h7,h8,h9⟩:=zW p y x _ h4 hx;exact ⟨y,b,cs,T,off,c1,c2,c3,hn,h1,h2,h3,hx,h6,h7,h8,h9,h4,h5⟩
 ·cases hx
theorem aT.BT(h:aT c A a w D E){x y:I}{v:Value}(ae:aV w D E x v)(hx:ct A x=some y) :
  ∃ b off cs,v=.pointer (some ⟨b,off,none⟩)∧(∀ j u,cs[j]?=some u→w.cell? ⟨b,off+j,none⟩=some u)∧ai w D E y cs:=by
 cases x with
 |ref z =>
  simp only[ct,v6] at hx;subst hx;obtain ⟨b,off,cs,h1,h2,h3⟩:=rB ae;exact ⟨b,off,cs,h1,fun j u hj=>(h2 j u hj).1,h3⟩
 |ptr n p =>
  obtain ⟨b,aN,off,h1,h2,h3⟩:=mK ae;obtain ⟨z,b',cs,T,off',c1,c2,c3,k1,k2,_,k3,_,k5,k6,k7,k8,_,_⟩:=h.at hx;rw[k2] at h1;simp only[v6,bL.aG.injEq] at h1;obtain ⟨rfl,rfl⟩:=h1;rw[k5,v6] at h2;subst h2;refine ⟨b',off',c2,h3,fun j u hj =>?_,k8⟩;have:=wq (D:=fun _ _=>True) k3 k6 (fun _ _=>trivial);rw[k7] at this;exact (this j u hj).1
 |_=>simp[ct] at hx
theorem wm{w:World}{D:aO}{E:aU} : ∀ (xs ys:List I) (cs:List Value),aK w D E (xs++ys) cs→∃ c1 c2,cs=c1++c2∧aK w D E xs c1∧aK w D E ys c2
 | [],ys,cs,hr=>⟨[],cs,rfl,by simp[aK],hr⟩
 |x::xs,ys,cs,hr=>by
  simp only[zz8,aK] at hr;obtain ⟨d1,d2,rfl,k1,k2⟩:=hr;obtain ⟨e1,e2,rfl,k3,k4⟩:=wm xs ys d2 k2;exact ⟨d1++e1,e2,by simp,by simp only[aK];exact ⟨d1,e1,rfl,k1,k3⟩,k4⟩
theorem Ji{fs:List I}{sz:Nat}(h:∀ s∈I.cB fs,s.size=sz):∀ f∈fs,f.size=sz:=by
 intro f hf;rw[←I.jN];exact h _ (by rw[I.c7];exact zx4.2 ⟨f,hf,rfl⟩)
theorem wo{w:World}{D:aO}{E:aU}{fs:List I}{cs:List Value}{sz:Nat}(hr:aK w D E fs cs)(hev:∀ f∈fs,f.size=sz)(lo k:Nat)(h:lo+k≤fs.length) :
  ∃ d1 d2 d3,cs=d1++(d2++d3)∧d1.length=lo*sz∧aK w D E ((fs.drop lo).take k) d2∧aK w D E ((fs.drop lo).drop k) d3:=by
 have e1:fs=fs.take lo++((fs.drop lo).take k++(fs.drop lo).drop k):=by rw[zw1,zw1]
 rw[e1] at hr;obtain ⟨d1,d',rfl,q1,q2⟩:=wm _ _ _ hr;obtain ⟨d2,d3,rfl,q3,q4⟩:=wm _ _ _ q2;refine ⟨d1,d2,d3,rfl,?_,q3,q4⟩;rw[aK.length _ _ q1,I.iJ _ (fun x hx=>hev x (zx9 hx)),zz6]
 congr 1
 omega
structure jh (aG:Bool) (A:af) (D:aO) (E:aU) (D':aO):Prop where
 df:∀ b o,D b o→D' b o
 b6:∀ n T sz es b cap,A.o n=some (.b6 T sz es)→E n=some (.rw (some (b,cap)) es.length)→∀ o,o<es.length*sz→D' b o
 box:aG=true→∀ n x b aN,A.o n=some (.box x)→E n=some (.aG b aN)→∀ o,o<x.size→D' b o
 map:aG=true→∀ n ks vs b,A.o n=some (.cI ks vs)→E n=some (.cI b)→D' b 0
def en(A A':af):Prop:=∀ n x,A.o n=some x→A'.o n=some x
theorem jU{A A':af}(hu:en A A'){x v:I}(h:ct A x=some v):ct A' x=some v:=by
 cases x <;>simp only[ct] at h ⊢ <;>try exact h
 rename_i n p;cases ho:A.o n with
 |none=>rw[ho] at h;cases h
 |some y=>rw[ho] at h;rw[hu n y ho];exact h
theorem DP{A0 A:af}(hu:en A0 A){n:Nat}{p:List Nat}{x z:I}(h:ct A0 (.ptr n p)=some x)(hz:A.o n=some (.box z)):A0.o n=some (.box z):=by
 simp only[ct] at h;split at h
 ·rename_i y hy;have:=hu n _ hy;rw[hz] at this;rw[hy,←this]
 ·cases h
theorem aT.IK(h:aT c A a w D E){A0:af}(hu:en A0 A){D':aO}(hw:jh true A0 D E D'){n:Nat}{p:List Nat}{x:I}{cs:List Value}(hx:ct A0 (.ptr n p)=some x)(hr:ai w D E (.ptr n p) cs) :
  ∃ b off c2,cs=[.pointer (some ⟨b,off,none⟩)]∧reads w D' b off c2∧ai w D E x c2:=by
 obtain ⟨z,b',cs',T,off',c1,c2,c3,k1,k2,_,k3,k4,k5,k6,k7,k8,k9,_⟩:=h.at (jU hu hx);have k1:=DP hu hx k1;simp only[ai] at hr;obtain ⟨b,aN,off,h1,h2,h3⟩:=hr;rw[k2] at h1;simp only[v6,bL.aG.injEq] at h1;obtain ⟨rfl,rfl⟩:=h1;rw[k5,v6] at h2;subst h2;have hsz:=ai.length z _ k9;rw[k6] at hsz;simp only[zz1] at hsz;refine ⟨b',off',c2,h3,?_,k8⟩;rw[←k7];exact wq k3 k6 (fun o ho=>hw.box rfl n z b' _ k1 k2 o (by omega))
theorem aT.jO(h:aT c A a w D E){A0:af}(hu:en A0 A){D':aO}{E':aU}(hw:jh true A0 D E D'){n:Nat}{p:List Nat}{sz lo k:Nat}{fs:List I}{cs:List Value}(hx:ct A0 (.ptr n p)=some (.agg fs))(hr:ai w D E (.view n p sz lo k) cs)
  (hcl:I.cG ((fs.drop lo).take k)=true):ai w D' E' (.slice sz ((fs.drop lo).take k)) cs:=by
 obtain ⟨z,b',cs',T,off',c1,c2,c3,k1,k2,_,k3,k4,k5,k6,k7,k8,k9,_⟩:=h.at (jU hu hx);have k1:=DP hu hx k1;simp only[ai] at hr k8 ⊢;obtain ⟨b,aN,off,l,h1,h2,h3,h4,h5,h6,h7⟩:=hr;rw[k2] at h1;simp only[v6,bL.aG.injEq] at h1;obtain ⟨rfl,rfl⟩:=h1;rw[k5,v6] at h2;subst h2;rw[nN p z _ k4] at h3;simp only[I.aN,v6,cg.dP.injEq] at h3;subst h3;have hsz:=ai.length z _ k9;rw[k6] at hsz;rw[I.c7,zz3] at h4 h5 h6;have hev:=Ji h7;obtain ⟨d1,d2,d3,rfl,q1,q2,q3⟩:=wo k8 hev lo k h6;simp only[zz1] at hsz;have hlen:((fs.drop lo).take k).length=k:=by rw[zz6,zv3];omega
 refine ⟨some ⟨b',off'+lo*sz,none⟩,fs.length-lo,by rw[hlen];exact h4,by rw[hlen];omega,by omega,.inr ⟨b',off'+lo*sz,d2,rfl,?_,aK.fX hw.df _ d2 hcl q2⟩,?_⟩
 ·have:=wq (D:=D') (c1:=c1++d1) (c2:=d2) (c3:=d3++c3) k3 (by rw[k6];simp) (fun o ho=>hw.box rfl n z b' _ k1 k2 o (by rw[zz1] at ho;omega));rw[zz1,k7,q1] at this;exact this
 ·intro e he;exact hev e (List.mem_of_mem_drop (zx9 he))
theorem aT.IV(h:aT c A a w D E){aG:Bool}{A0:af}(hu:en A0 A){D':aO}{E':aU}(hw:jh aG A0 D E D'){n k T sz:Nat}{es:List I}{cs:List Value}(hn:A0.o n=some (.b6 T sz es))(hcl:I.cG es=true)(hk:k=es.length)(hr:ai w D E (.own n k) cs):ai w D' E' (.slice sz es) cs:=by
 subst hk;simp only[ai] at hr;obtain ⟨aL,l,h1,h2,_,h4⟩:=hr;obtain ⟨blk',k1,k2,k3⟩:=h.b6 (hu n _ hn);rw[k1] at h1;simp only[v6,bL.rw.injEq] at h1;obtain ⟨rfl,rfl⟩:=h1;have h4:=h4 rfl;cases blk' with
 |none =>
  simp only at k3 h4;subst k3;simp only[ai];exact ⟨none,0,by simpa using h4,by simp,by simp[maxLen],by simp,by simp⟩
 |some bc =>
  obtain ⟨b,cap⟩:=bc;simp only at h4;obtain ⟨cs',pre,rest,k4,k5,k6,k7,k8,k9,k10,k11⟩:=k3;simp only[ai];refine ⟨some ⟨b,0,none⟩,cap,h4,k9,k10,.inr ⟨b,0,pre,rfl,?_,aK.fX hw.df es pre hcl k7⟩,k2⟩;have hp:pre.length=es.length*sz:=by rw[aK.length _ _ k7,I.iJ _ k2]
  have:=wu (D:=D') (c1:=[]) k5 (by simpa using k6) (fun o ho=>hw.b6 n T sz es b cap hn k1 o (by simp at ho;omega));simpa using this
theorem F8{w:World}{D D':aO}{E E':aU}{f:I→Option I}(hf:∀ x y cs,ai w D E x cs→f x=some y→ai w D' E' y cs):∀ (xs ys:List I) (cs:List Value),aK w D E xs cs→jm f xs=some ys→aK w D' E' ys cs
 | [],ys,cs,hr,h=>by simp only[jm,v6] at h;subst h;simpa only[aK] using hr
 |x::xs,ys,cs,hr,h=>by
  simp only[jm] at h;split at h
  ·rename_i y ys' h1 h2;simp only[v6] at h;subst h;simp only[aK] at *;obtain ⟨c1,c2,e,k1,k2⟩:=hr;exact ⟨c1,c2,e,hf x y c1 k1 h1,F8 hf xs ys' c2 k2 h2⟩
  ·cases h
theorem vG{w:World}{D D':aO}{E E':aU}{f:I→Option I}(hf:∀ x y cs,ai w D E x cs→f x=some y→ai w D' E' y cs)(hp:∀ x y,f x=some y→y.isAgg=x.isAgg):∀ (xs ys:List I) (vs:List Value),aD w D E xs vs→jm f xs=some ys→aD w D' E' ys vs
 | [],ys,cs,hr,h=>by simp only[jm,v6] at h;subst h;simpa only[aD] using hr
 |x::xs,ys,cs,hr,h=>by
  simp only[jm] at h;split at h
  ·rename_i y ys' h1 h2;simp only[v6] at h;subst h;simp only[aD] at *;obtain ⟨v,rest,c1,e,k1,k2,k3⟩:=hr;refine ⟨v,rest,c1,e,?_,hf x y c1 k2 h1,vG hf hp xs ys' rest k3 h2⟩;unfold bm at *;rw[hp x y h1];exact k1
  ·cases h
theorem ym{A0:af} : ∀ {k:Nat} {x y:I},iA A0 k x=some y→y.isAgg=x.isAgg
 |0,_,_,h=>by simp[iA] at h
 |k+1,x,y,h=>by
  simp only[iA] at h;split at h
  ·simp only[v6] at h;rw[h]
  ·cases x <;>simp only[] at h <;>first
    |(cases h;done)
    |(split at h <;>first | (simp only[t8] at h;obtain ⟨z,_,rfl⟩:=h;rfl) | (simp only[v6] at h;subst h;rfl);done)
    |(simp only[t8] at h;obtain ⟨z,_,rfl⟩:=h;rfl)
    |((repeat' split at h) <;>first | (cases h;done) | (simp only[v6] at h;subst h;rfl) | (simp only[t8] at h;obtain ⟨z,_,rfl⟩:=h;rfl))
theorem yn(h:aT c A a w D E){A0:af}(hu:en A0 A){D':aO}{E':aU}(hw:jh true A0 D E D'):∀ (k:Nat) (x y:I) (cs:List Value),ai w D E x cs→iA A0 k x=some y→ai w D' E' y cs
 |0,_,_,_,_,hf=>by simp[iA] at hf
 |k+1,x,y,cs,hr,hf=>by
  have ih:=yn h hu (E':=E') hw k;simp only[iA] at hf;split at hf
  ·rename_i hcl;simp only[v6] at hf;subst hf;exact ai.fX hw.df x cs hcl hr
  ·rename_i hcl;cases x <;>simp only[] at hf <;>try (cases hf;done)
   case agg fs =>
    simp only[t8] at hf;obtain ⟨ys,hy,rfl⟩:=hf;simp only[ai] at *;exact F8 ih fs ys cs hr hy
   case func f caps =>
    split at hf
    case isFalse =>
     simp only[v6] at hf;subst hf;simp only[ai] at *;obtain ⟨vs,h1,h2⟩:=hr;exact ⟨_,h1,EB f vs⟩
    simp only[t8] at hf;obtain ⟨ys,hy,rfl⟩:=hf;simp only[ai] at *;obtain ⟨vs,h1,h2⟩:=hr;exact ⟨vs,h1,vG ih (fun x y hxy=>ym hxy) caps ys vs h2 hy⟩
   case ptr n p =>
    split at hf
    case h_2=>cases hf
    rename_i z hz;simp only[t8] at hf;obtain ⟨y',hy,rfl⟩:=hf;obtain ⟨b,off,c2,k1,k2,k3⟩:=h.IK hu hw hz hr;simp only[ai];exact ⟨b,off,c2,k1,k2,ih z y' c2 k3 hy⟩
   case view n p sz lo l =>
    split at hf
    case h_2=>cases hf
    rename_i fs hx;split at hf
    case isFalse=>cases hf
    rename_i hc;simp only[v6] at hf;subst hf;exact h.jO hu hw hx hr hc
   case mref n =>
    split at hf
    case h_2=>cases hf
    rename_i ks vs hn;split at hf
    case isFalse=>cases hf
    rename_i hc;simp only[t8] at hf;obtain ⟨ys,hy,rfl⟩:=hf;simp only[ai] at hr ⊢;obtain ⟨b,h1,h2⟩:=hr;obtain ⟨b',es,ck,k1,k2,k3,k4,k5,k6,k7⟩:=h.map (hu n _ hn);rw[k1] at h1;cases h1;exact ⟨b,es,ck,h2,⟨k3,hw.map rfl n ks vs b hn k1,k4⟩,aD.fX hw.df ks _ hc k5,vG ih (fun x y hxy=>ym hxy) vs ys _ k6 hy⟩
   case own n l =>
    split at hf
    case h_2=>cases hf
    rename_i T sz es hn;split at hf
    case isFalse=>cases hf
    rename_i hk;simp only[v6] at hf;subst hf;exact h.IV hu hw hn hk.2 hk.1 hr
mutual
theorem Em(h:aT c A a w D E){aG:Bool}{A0:af}(hu:en A0 A){D':aO}{E':aU}(hw:jh aG A0 D E D'):∀ (x y:I) (cs:List Value),ai w D E x cs→bh aG A0 x=some y→ai w D' E' y cs
 | .ptr n p,y,cs,hr,hf=>by
  simp only[bh] at hf;split at hf
  case isFalse=>cases hf
  rename_i hbx;subst hbx;split at hf
  case h_2=>cases hf
  rename_i x hx;obtain ⟨b,off,c2,k1,k2,k3⟩:=h.IK hu hw hx hr;split at hf
  ·rename_i hcl;simp only[v6] at hf;subst hf;simp only[ai];exact ⟨b,off,c2,k1,k2,ai.fX hw.df x c2 hcl k3⟩
  ·simp only[t8] at hf;obtain ⟨y',hy,rfl⟩:=hf;simp only[ai];exact ⟨b,off,c2,k1,k2,yn h hu hw 9 x y' c2 k3 hy⟩
 | .mref n,y,cs,hr,hf=>by
  simp only[bh] at hf;split at hf
  case isFalse=>cases hf
  rename_i hbx;subst hbx;split at hf
  case h_2=>cases hf
  rename_i ks vs hn;split at hf
  case isFalse=>cases hf
  rename_i hc;simp only[t8] at hf;obtain ⟨ys,hy,rfl⟩:=hf;simp only[ai] at hr ⊢;obtain ⟨b,h1,h2⟩:=hr;obtain ⟨b',es,ck,k1,k2,k3,k4,k5,k6,k7⟩:=h.map (hu n _ hn);rw[k1] at h1;cases h1;exact ⟨b,es,ck,h2,⟨k3,hw.map rfl n ks vs b hn k1,k4⟩,aD.fX hw.df ks _ hc k5,vG (yn h hu hw 9) (fun x y hxy=>ym hxy) vs ys _ k6 hy⟩
 | .dx _,_,_,_,hf=>by simp[bh] at hf
 | .dA ks vs,y,cs,hr,hf=>by
  simp only[bh] at hf;split at hf
  ·rename_i hc;simp only[v6] at hf;subst hf;exact ai.fX hw.df _ cs (by simpa[I.bF] using hc) hr
  ·cases hf
 | .own n k,y,cs,hr,hf=>by
  simp only[bh] at hf;split at hf
  case h_2=>cases hf
  rename_i T sz es hn;split at hf
  case isFalse=>cases hf
  rename_i hk;simp only[v6] at hf;subst hf;exact h.IV hu hw hn hk.2 hk.1 hr
 | .view n p sz lo k,y,cs,hr,hf=>by
  simp only[bh] at hf;split at hf
  case isFalse=>cases hf
  rename_i hbx;subst hbx;split at hf
  case h_2=>cases hf
  rename_i fs hx;split at hf
  case isFalse=>cases hf
  rename_i hcl;simp only[v6] at hf;subst hf;exact h.jO hu hw hx hr hcl
 | .nils sz,y,cs,hr,hf=>by
  simp only[bh,v6] at hf;subst hf;simp only[ai] at *;exact ⟨none,0,by simpa using hr,by simp,by simp[maxLen],by simp,by simp⟩
 | .c0 sz,y,cs,hr,hf=>by
  simp only[bh,v6] at hf;subst hf;simp only[ai] at *;obtain ⟨ad,hr⟩:=hr;exact ⟨ad,0,by simpa using hr,by simp,by simp[maxLen],by simp,by simp⟩
 | .func f caps,y,cs,hr,hf=>by
  simp only[bh] at hf;split at hf
  case isFalse =>
   simp only[v6] at hf;subst hf;simp only[ai] at *;obtain ⟨vs,h1,h2⟩:=hr;exact ⟨_,h1,EB f vs⟩
  simp only[t8] at hf;obtain ⟨ys,hy,rfl⟩:=hf;simp only[ai] at *;obtain ⟨vs,h1,h2⟩:=hr;exact ⟨vs,h1,ni h hu hw caps ys vs h2 hy⟩
 | .agg fs,y,cs,hr,hf=>by
  simp only[bh,t8] at hf;obtain ⟨ys,hy,rfl⟩:=hf;simp only[ai] at *;exact En h hu hw fs ys cs hr hy
 | .tuple _,_,_,_,hf=>by simp[bh] at hf
 | .undef,_,_,_,hf=>by simp[bh] at hf
 | .dv,_,_,_,hf=>by simp[bh] at hf
 | .bool b,y,cs,hr,hf=>by simp only[bh,v6] at hf;subst hf;simpa only[ai] using hr
 | .int k n,y,cs,hr,hf=>by simp only[bh,v6] at hf;subst hf;simpa only[ai] using hr
 | .ak s,y,cs,hr,hf=>by simp only[bh,v6] at hf;subst hf;simpa only[ai] using hr
 | .nilp,y,cs,hr,hf=>by simp only[bh,v6] at hf;subst hf;simpa only[ai] using hr
 | .dO,y,cs,hr,hf=>by simp only[bh,v6] at hf;subst hf;simpa only[ai] using hr
 | .dh,y,cs,hr,hf | .any,y,cs,hr,hf=>by simp only[bh,v6] at hf;subst hf;simpa only[ai] using hr
 | .raw _,y,cs,hr,hf=>by simp only[bh,v6] at hf;subst hf;simpa only[ai] using hr
 | .slice sz es,y,cs,hr,hf=>by
  simp only[bh] at hf;split at hf
  ·rename_i hc;simp only[v6] at hf;subst hf;exact ai.fX hw.df _ cs (by simpa[I.bF] using hc) hr
  ·cases hf
 | .ref x,y,cs,hr,hf=>by
  simp only[bh] at hf;split at hf
  ·rename_i hc;simp only[v6] at hf;subst hf;exact ai.fX hw.df _ cs (by simpa[I.bF] using hc) hr
  ·cases hf
 | .iface t v,y,cs,hr,hf=>by
  simp only[bh] at hf;split at hf
  ·rename_i hc;simp only[v6] at hf;subst hf;exact ai.fX hw.df _ cs (by simpa[I.bF] using hc) hr
  ·cases hf
theorem En(h:aT c A a w D E){aG:Bool}{A0:af}(hu:en A0 A){D':aO}{E':aU}(hw:jh aG A0 D E D'):∀ (xs ys:List I) (cs:List Value),aK w D E xs cs→bO aG A0 xs=some ys→aK w D' E' ys cs
 | [],ys,cs,hr,hf=>by simp only[bO,v6] at hf;subst hf;simpa only[aK] using hr
 |x::xs,ys,cs,hr,hf=>by
  simp only[bO] at hf;split at hf
  ·rename_i y ys' h1 h2;simp only[v6] at hf;subst hf;simp only[aK] at *;obtain ⟨c1,c2,e,k1,k2⟩:=hr;exact ⟨c1,c2,e,Em h hu hw x y c1 k1 h1,En h hu hw xs ys' c2 k2 h2⟩
  ·cases hf
theorem ni(h:aT c A a w D E){aG:Bool}{A0:af}(hu:en A0 A){D':aO}{E':aU}(hw:jh aG A0 D E D'):∀ (xs ys:List I) (vs:List Value),aD w D E xs vs→bO aG A0 xs=some ys→aD w D' E' ys vs
 | [],ys,cs,hr,hf=>by simp only[bO,v6] at hf;subst hf;simpa only[aD] using hr
 |x::xs,ys,cs,hr,hf=>by
  simp only[bO] at hf;split at hf
  ·rename_i y ys' h1 h2;simp only[v6] at hf;subst hf;simp only[aD] at *;obtain ⟨v,rest,c1,e,k1,k2,k3⟩:=hr;refine ⟨v,rest,c1,e,?_,Em h hu hw x y c1 k2 h1,ni h hu hw xs ys' rest k3 h2⟩;have:y.isAgg=x.isAgg:=by
    cases x <;>simp only[bh] at h1 <;>first
     |(simp at h1;done)
     |(simp only[v6] at h1;subst h1;rfl)
     |(simp only[t8] at h1;obtain ⟨z,_,rfl⟩:=h1;rfl)
     |((repeat' split at h1) <;>first | (simp at h1;done) | (simp only[v6] at h1;subst h1;rfl) | (simp only[t8] at h1;obtain ⟨z,_,rfl⟩:=h1;rfl))
   unfold bm at *;rw[this];exact k1
  ·cases hf
end
end
def fZ(P:Program)(t:TypeId):Option (Option Nat):=match P.underlying t with
 |some (.struct _) | some (.array _ _)=>some (some (P.cellsOf t))
 |some _=>some none
 |none=>none
def AV(P:Program):Nat→TypeId→Option I
 |0,_=>none
 |d+1,t=>match P.underlying t with
  |some .bool=>some (.bool false)
  |some (.int k)=>some (.int k 0)
  |some .string=>some (.ak ByteArray.empty)
  |some (.pointer _)=>some .nilp
  |some (.slice e)=>some (.nils (P.cellsOf e))
  |some (.func _ _ _)=>some .dO
  |some (.interface _)=>some .dh
  |some (.map _ _)=>some (.raw (.map none))
  |some (.struct fs)=>(fs.toList.mapM fun f=>AV P d f.type).map .agg
  |some (.array n e)=>(AV P d e).map fun z=>.agg (List.replicate n z)
  |_=>none
def mf:I→Value→Bool
 | .bool b,.bool b'=>b==b'
 | .int k n,.int k' n'=>k==k'&&n==n'&&decide (k.min≤n∧n≤k.max)
 | .ak s,.string t=>s.size==0&&t.size==0
 | .nilp,.pointer none=>true
 | .nils _,.slice none 0 0=>true
 | .dO,.nilFunc=>true
 | .dh,.nilIface=>true
 | .raw (.map none),.map none=>true
 |_,_=>false
mutual
def nV:I→List Value→Option (List Value)
 | .agg fs,cs=>tV fs cs
 | .bool b,v::cs=>if mf (.bool b) v then some cs else none
 | .int k n,v::cs=>if mf (.int k n) v then some cs else none
 | .ak s,v::cs=>if mf (.ak s) v then some cs else none
 | .nilp,v::cs=>if mf .nilp v then some cs else none
 | .nils z,v::cs=>if mf (.nils z) v then some cs else none
 | .dO,v::cs=>if mf .dO v then some cs else none
 | .dh,v::cs=>if mf .dh v then some cs else none
 | .raw u,v::cs=>if mf (.raw u) v then some cs else none
 |_,_=>none
def tV:List I→List Value→Option (List Value)
 | [],cs=>some cs
 |x::xs,cs=>match nV x cs with
  |some r=>tV xs r
  |none=>none
end
theorem ByteArray.Sd{s t:ByteArray}(hs:s.size=0)(ht:t.size=0):s=t:=by
 cases s with | mk a=>cases t with | mk b =>
 have ha:a = #[]:=Array.eq_empty_of_size_eq_zero hs;have hb:b = #[]:=Array.eq_empty_of_size_eq_zero ht;rw[ha,hb]
theorem Pc{x:I}{v:Value}(h:mf x v=true)(w:World)(D:aO)(E:aU):ai w D E x [v]:=by
 unfold mf at h;split at h
 case h_9=>cases h
 case h_1=>simp only[beq_iff_eq] at h;subst h;simp[ai]
 case h_2 =>
  simp only[zz0,beq_iff_eq,decide_eq_true_eq] at h;obtain ⟨⟨rfl,rfl⟩,h⟩:=h;simp only[ai,true_and];exact h
 case h_3 =>
  simp only[zz0,beq_iff_eq] at h;have e:=ByteArray.Sd h.1 h.2;subst e;simp only[ai,true_and];rw[h.1];exact zv6 _
 all_goals simp[ai,Value.oneCell']
mutual
theorem JV:∀ (x:I) (cs r:List Value),nV x cs=some r→∃ c1,cs=c1++r∧∀ w D E,ai w D E x c1
 | .agg fs,cs,r,h=>by
  simp only[nV] at h;obtain ⟨c1,h1,h2⟩:=JW fs cs r h;exact ⟨c1,h1,fun w D E=>by simp only[ai];exact h2 w D E⟩
 | .bool b,v::cs,r,h | .int k n,v::cs,r,h | .ak s,v::cs,r,h | .nilp,v::cs,r,h | .nils z,v::cs,r,h | .dO,v::cs,r,h | .dh,v::cs,r,h | .raw u,v::cs,r,h=>by
  simp only[nV] at h;split at h
  ·rename_i hh;simp only[v6] at h;subst h;exact ⟨[v],rfl,fun w D E=>Pc hh w D E⟩
  ·cases h
 | .bool b,[],r,h | .int k n,[],r,h | .ak s,[],r,h | .nilp,[],r,h | .nils z,[],r,h | .dO,[],r,h | .dh,[],r,h | .raw _,[],r,h=>by simp[nV] at h
 | .any,_,_,h | .undef,_,_,h | .dv,_,_,h | .c0 _,_,_,h | .slice _ _,_,_,h | .tuple _,_,_,h | .ref _,_,_,h | .func _ _,_,_,h | .iface _ _,_,_,h | .ptr _ _,_,_,h | .own _ _,_,_,h | .view _ _ _ _ _,_,_,h | .mref _,_,_,h | .dx _,_,_,h | .dA _ _,_,_,h=>by simp[nV] at h
theorem JW:∀ (xs:List I) (cs r:List Value),tV xs cs=some r→∃ c1,cs=c1++r∧∀ w D E,aK w D E xs c1
 | [],cs,r,h=>by
  simp only[tV,v6] at h;exact ⟨[],by simp[h],fun w D E=>by simp[aK]⟩
 |x::xs,cs,r,h=>by
  simp only[tV] at h;split at h
  ·rename_i r' hx;obtain ⟨c1,h1,h2⟩:=JV x cs r' hx;obtain ⟨c2,h3,h4⟩:=JW xs r' r h;exact ⟨c1++c2,by rw[h1,h3,zz7],fun w D E=>by simp only[aK];exact ⟨c1,c2,rfl,h2 w D E,h4 w D E⟩⟩
  ·cases h
end
def gi(P:Program)(t:TypeId):Option I :=
 match (P.info? t).bind (·.zero),AV P 12 t with
 |some z,some x=>match nV x z.cells.toList with
  |some []=>some x
  |_=>none
 |_,_=>none
theorem lY{P:Program}{t:TypeId}{x:I}(h:gi P t=some x):∃ i z,P.info? t=some i∧i.zero=some z∧∀ w D E,ai w D E x z.cells.toList:=by
 unfold gi at h;split at h
 ·rename_i z x' hz hx;split at h
  ·rename_i hk;simp only[v6] at h;subst h;obtain ⟨i,hi,hz'⟩:=zu1.1 hz;obtain ⟨c1,h1,h2⟩:=JV _ _ _ hk;rw[zx2] at h1;exact ⟨i,z,hi,hz',fun w D E=>by rw[h1];exact h2 w D E⟩
  ·cases h
 ·cases h
def mH:Nat→List I→List (Nat×Nat)
 |_,[]=>[]
 |k,x::xs=>(k,x.size)::mH (k+x.size) xs
theorem G2:∀ (xs:List I) (k i:Nat),(mH k xs)[i]?=(xs[i]?).map fun x=>(k+I.sizes (xs.take i),x.size)
 | [],k,i=>by simp[mH]
 |x::xs,k,0=>by simp[mH,I.sizes]
 |x::xs,k,i+1=>by
  simp only[mH,List.getElem?_cons_succ,G2 xs,List.take_succ_cons,I.sizes];cases xs[i]? <;>simp;omega
def eV (P : Program) (f : FuncId) : Bool := Nat.blt f 1000000 && (P.funcs[f]?).any fun fn => fn.name != "runtime.NumGoroutine" && fn.body.isSome
def me(P:Program)(ps:List (Nat×Operand)):Option (List (Nat×aJ)):=ps.mapM fun p=>(ba P 0 p.2).map fun x=>(p.1,x)
def jA(P:Program):Option Operand→Option (Option aJ)
 |none=>some none
 |some x=>(ba P 0 x).map some
def lr(P:Program):List Operand→List TypeId→Option (List aJ)
 | [],_=>some []
 |x::xs,ts=>match ba P (ts.headD 0) x,lr P xs ts.tail with
  |some y,some ys=>some (y::ys)
  |_,_=>none
def re(P:Program):Nat→List Field→Bool
 |_,[]=>true
 |k,f::fs=>f.offset==k&&re P (k+P.cellsOf f.type) fs
def hE(P:Program):Nat→TypeId→Option cK
 |0,_=>none
 |d+1,t=>match P.underlying t with
  |some (.int k)=>some (.i k)
  |some .bool=>some .b
  |some .string=>some .s
  | some (.struct fs) => if P.stoodInHeld t = false ∧ (fs.toList.all fun f => f.name != "_") = true ∧ re P 0 fs.toList = true then
    (fs.toList.mapM fun (f:Field)=>match hE P d f.type with
     |some ty=>if ty.size=P.cellsOf f.type then some ty else none
     |none=>none).map .aS else none
  |some (.array n e)=>match hE P d e with
   |some ty=>if ty.size=P.cellsOf e∧(P.info? e).isSome=true then some (.sc n ty) else none
   |none=>none
  |_=>none
def sP:Option TypeDesc→Bool
 |some (.int _)=>true
 |_=>false
def yW:cK→Bool
 | .i _=>true
 |_=>false
def kR(P:Program)(t:TypeId):Option cK:=match P.underlying t with
 |some (.int k)=>some (.i k)
 |some (.struct fs)=>match hE P 12 t with
  |some (.aS l)=>if l.all yW=true∧(fs.all fun f=>sP (P.underlying f.type))=true then some (.aS l) else none
  |_=>none
 |_=>none
def w6(P:Program)(t:TypeId)(z:I):Bool:=match (P.info? t).bind (·.zero) with
 |some (.agg _)=>z.isAgg
 |some _ => !z.isAgg
 |none=>false
def w8:Operand→Operand→Option Nat
 | .const (.int _ l),.const (.int _ c)=>if l=0∧0≤c∧c≤1000000 then some c.toNat else none
 |_,_=>none
theorem ahX{x y:Operand}{m:Nat}(h:w8 x y=some m):m≤1000000∧∃ k k',x=.const (.int k 0)∧y=.const (.int k' (m:Int)):=by
 unfold w8 at h;split at h
 ·rename_i k l k' c;split at h
  ·rename_i hc;simp only[v6] at h;subst h;refine ⟨by omega,k,k',by rw[hc.1],?_⟩;rw[show ((c.toNat:Nat):Int)=c by omega]
  ·cases h
 ·cases h
def Am:Operand→Operand→Bool
 | .tmp a,.tmp b=>a==b
 |_,_=>false
theorem agU{x y:Operand}(h:Am x y=true):y=x:=by
 unfold Am at h;split at h
 ·simp only[beq_iff_eq] at h;rw[h]
 ·cases h
def adt:Option TypeDesc→Bool
 |some .string=>true
 |_=>false
def DE:Option TypeDesc→Bool
 |some (.interface _)=>false
 |some _=>true
 |none=>false
def cU(P:Program)(o:Oper):Option bH :=
 match o.op with
 | .move x | .assign x=>(ba P o.type x).map .mv
 | .pick c a b=>match ba P 0 c,ba P o.type a,ba P o.type b with
  |some c,some a,some b=>some (.pick c a b)
  |_,_,_=>none
 | .binOp op t x y _=>match P.underlying t,ba P 0 x,ba P 0 y with
  |some (.int _),some x,some y | some .string,some x,some y=>some (.bin op x y)
  |some (.slice _),some x,some y=>match y with
   | .c (.nils _)=>if op=.eql∨op=.neq then some (.nilS (op==.neq) x) else none
   |_=>none
  |some (.pointer _),some x,some y=>if op=.eql∨op=.neq then some (.ptrE (op==.neq) x y) else none
  |some (.interface _),some x,some y=>match y with
   | .c .dh=>if op=.eql∨op=.neq then some (.prim (.px (op==.neq)) [x]) else none
   |_=>none
  |some _,some x,some y=>if (op=.eql∨op=.neq)∧P.eqGuardType P.depth t=false then (hE P 12 t).map fun ty=>.eqv ty (op==.neq) x y else none
  |_,_,_=>none
 | .unOp op _ x=>(ba P 0 x).map (.un op)
 | .nilCheck x=>(ba P 0 x).map .nilC
 | .makeMap _ none=>some .mA
 | .lookup t m k ok=>match P.underlying t,ba P 0 m,ba P 0 k with
  |some (.map kt et),some m,some k=>match kR P kt,gi P et with
   |some ty,some z=>if w6 P et z=true then some (.lk ty z ok m k) else none
   |_,_=>none
  |_,_,_=>none
 | .mapUpdate t m k v | .insert t m k v=>match P.underlying t,ba P 0 m,ba P 0 k with
  |some (.map kt et),some m,some k=>match kR P kt,ba P et v with
   |some ty,some v=>some (.lK ty m k v)
   |_,_=>none
  |_,_,_=>none
 | .makeSlice t l l'=>match P.underlying t,ba P 0 l with
  |some (.slice e),some n=>match gi P e with
   |some z=>if Am l l'=true∧z.size=1∧P.cellsOf e=1 then some (.kX e (P.bytesOf e) z n) else
    match w8 l l' with
    |some m=>if m*P.bytesOf e≤281474976710656 then some (.nu e (P.cellsOf e)) else none
    |none=>none
   |none=>none
  |_,_=>none
 | .range t x=>match P.underlying t with
  |some (.map _ _)=>(ba P 0 x).map .lS
  |_=>none
 | .next x false=>(ba P 0 x).map .lL
 | .entry x=>(ba P 0 x).map .ent
 | .convert nR dst x=>match P.underlying nR,P.underlying dst,ba P 0 x with
  |some (.int _),some (.int k),some x=>some (.conv k x)
  |some (.slice e),some .string,some x=>match P.underlying e with
   |some (.int .u8)=>some (.b2s x)
   |_=>none
  |some .string,some (.slice e),some x=>match P.underlying e with
   |some (.int .u8)=>some (.fC x)
   |_=>none
  |_,_,_=>none
 | .load t x=>match fZ P t,ba P 0 x with
  |some s,some x=>some (.ld s x)
  |_,_=>none
 | .fieldAddr t x f=>match P.underlying t,ba P 0 x with
  |some (.struct fs),some x=>match fs[f]? with
   |some fd=>if P.cellsOf fd.type=0 then none else some (.fa f fd.offset x)
   |none=>none
  |_,_=>none
 | .field t x f=>match P.underlying t,ba P 0 x with
  |some (.struct fs),some x=>match fs[f]? with
   |some fd=>(fZ P fd.type).map fun s=>.fl f fd.offset s x
   |none=>none
  |_,_=>none
 | .indexAddr t x i=>match P.underlying t,ba P 0 x,ba P 0 i with
  |some (.array n e),some x,some i=>if (P.info? e).isSome then some (.ia n (P.cellsOf e) x i) else none
  |some (.slice e),some x,some i=>if (P.info? e).isSome then some (.is (P.cellsOf e) x i) else none
  |_,_,_=>none
 | .index t x i=>match P.underlying t,ba P 0 x,ba P 0 i with
  |some (.array n e),some x,some i=>(fZ P e).map fun s=>.ix n (P.cellsOf e) s x i
  |some .string,some x,some i=>some (.prim .eM [x,i])
  |_,_,_=>none
 | .slice t x lo hi mx=>match P.underlying t,ba P 0 x with
  |some (.array n e),some x=>match lo,hi,mx with
   |none,none,none=>if (P.info? e).isSome then some (.va n (P.cellsOf e) x) else none
   |_,_,_=>none
  |some (.slice e),some x=>match jA P lo,jA P hi,jA P mx with
   |some lo,some hi,some mx=>if (mx.isSome=true→hi.isSome=true)∧(P.info? e).isSome=true then some (.sl (P.cellsOf e) x lo hi mx) else none
   |_,_,_=>none
  |some .string,some x=>match lo,hi,mx with
   |none,some hi,none=>(ba P 0 hi).map fun hi=>.prim (.ss false true) [x,hi]
   |some lo,none,none=>(ba P 0 lo).map fun lo=>.prim (.ss true false) [x,lo]
   |some lo,some hi,none=>match ba P 0 lo,ba P 0 hi with
    |some lo,some hi=>some (.prim (.ss true true) [x,lo,hi])
    |_,_=>none
   |_,_,_=>none
  |_,_=>none
 | .build t parts=>match gi P t,me P parts.toList with
  |some (.agg zs),some ps=>match P.underlying t with
   |some (.struct fs)=>if (fs.toList.map fun f=>(f.offset,P.cellsOf f.type))=mH 0 zs∧(fs.all fun f=>(P.info? f.type).isSome)=true then some (.bld zs ps) else none
   |some (.array n e)=>if zs.length=n∧(zs.all fun z=>z.size==P.cellsOf e)=true∧(P.info? e).isSome=true then some (.bld zs ps) else none
   |_=>none
  |_,_=>none
 | .buildSlice t len parts=>match P.underlying t with
  |some (.slice e)=>match me P parts.toList with
   |some ps=>if len=0∧parts = #[]∧(P.info? e).isSome=true then some (.bs0 (P.cellsOf e)) else if ps.map (·.1)=List.range len∧0<P.cellsOf e∧0<len∧len*P.cellsOf e≤16777216∧((P.info? e).bind (·.zero)).isSome=true then some (.bs e (P.cellsOf e) (ps.map (·.2))) else none
   |none=>none
  |_=>none
 | .extract x i=>(ba P 0 x).map fun x=>.ext x i
 | .makeFunc (.func f) first caps=>if f<1000000 then (if first.isEmpty then (lr P caps.toList []).map (.mk f) else if caps.isEmpty then (lr P first.toList []).map (.mk (f+1000000)) else none) else none
 | .alloc t=>(gi P t).map .alloc
 | .box t x=>(ba P t x).map .box
 | .store t x v=>match fZ P t,ba P 0 x,ba P t v with
  |some s,some x,some v=>if s.isSome=true∨P.cellsOf t=1 then some (.aS s x v) else none
  |_,_,_=>none
 | .call { callee:=.value (.func f),args,argTypes } =>if eV P f then (lr P args.toList argTypes.toList).map (.call f) else (lr P args.toList argTypes.toList).map (.jf f)
 | .call { callee:=.value x,args,argTypes } =>match ba P 0 x,lr P args.toList argTypes.toList with
  |some x,some args=>some (.fF x args)
  |_,_=>none
 | .call { callee:=.builtin .len,args,argTypes } =>match args.toList,argTypes.toList with
  | [x],[t]=>match P.underlying t with
   |some (.slice _)=>(ba P t x).map .len
   |some .string=>(ba P t x).map .lenT
   |_=>none
  |_,_=>none
 | .call { callee:=.builtin .append,args,argTypes } =>match args.toList,argTypes.toList with
  | [s,x],[t,t']=>match P.underlying t,ba P t s,ba P t' x with
   |some (.slice e),some s,some x=>if t=t'∧0<P.cellsOf e∧(gi P e).map I.size=some (P.cellsOf e) then (gi P e).map fun z=>.eB e (P.cellsOf e) (P.bytesOf e) z s x else
    if sP (P.underlying t')=true∧0<P.cellsOf e∧(gi P e).map I.size=some (P.cellsOf e) then (gi P e).map fun z=>.ln e (P.cellsOf e) (P.bytesOf e) z s x else none
   |_,_,_=>none
  |_,_=>none
 | .call { callee:=.builtin .cap,args,argTypes } =>match args.toList,argTypes.toList with
  | [x],[t]=>match P.underlying t with
   |some (.slice _)=>(ba P t x).map .cap
   |_=>none
  |_,_=>none
 | .call { callee:=.builtin .clear,args,argTypes } =>match args.toList,argTypes.toList with
  | [x],[t]=>match P.underlying t,ba P t x with
   |some (.slice e),some x=>(gi P e).map fun z=>.kh (P.cellsOf e) z x
   |_,_=>none
  |_,_=>none
 | .call { callee:=.builtin .copy,args,argTypes } =>match args.toList,argTypes.toList with
  | [x,y],[t,t']=>match P.underlying t,ba P t x,ba P t' y with
   |some (.slice e),some x,some y=>if (t=t'∨adt (P.underlying t')=true)∧(P.info? e).isSome=true then some (.iz (P.cellsOf e) x y) else none
   |_,_,_=>none
  |_,_=>none
 | .call { callee:=.builtin .delete,args,argTypes } =>match args.toList,argTypes.toList with
  | [m,k],[t,_]=>match P.underlying t,ba P 0 m,ba P 0 k with
   |some (.map kt _),some m,some k=>(kR P kt).map fun ty=>.nt ty m k
   |_,_,_=>none
  |_,_=>none
 | .call { callee:=.builtin .max,args,.. } =>match args.toList with
  | [x,y]=>match ba P 0 x,ba P 0 y with
   |some x,some y=>some (.max2 x y)
   |_,_=>none
  |_=>none
 | .call { callee:=.builtin .min,args,.. } =>match args.toList with
  | [x,y]=>match ba P 0 x,ba P 0 y with
   |some x,some y=>some (.prim .min2 [x,y])
   |_,_=>none
  |_=>none
 | .makeInterface t x=>if DE (P.underlying t)=true then (ba P t x).map fun x=>.prim (.oA t) [x] else none
 | .panic x=>(ba P 0 x).map fun x=>.prim .mG [x]
 |_=>none
def c8(c:cP)(A:af)(o:Oper)(x:I):Prop :=
 ∀ a w D E,aT c A a w D E→∃ v w' D',(execOp a.eval o).run c.P w=.ok (.value v) w'∧aT c A a w' D' E∧aV w' D' E x v
section
variable {c:cP} {A:af} {o:Oper} {x:I}
theorem c8.same(h:∀ a w D E,aT c A a w D E→∃ v,(execOp a.eval o).run c.P w=.ok (.value v) w∧aV w D E x v):c8 c A o x :=
 fun a w D E hs=>let ⟨v,h1,h2⟩:=h a w D E hs;⟨v,w,D,h1,hs,h2⟩
theorem E8{y:Operand}{z:aJ}(ho:o.op=.move y∨o.op=.assign y)(hz:ba c.P o.type y=some z):c8 c A o (aj A z) :=
 .same fun a w D E hs=>⟨a.eval y,by rcases ho with ho | ho <;>simp[execOp,ho],bz hs hz⟩
theorem acV{q y z:Operand}{q' y' z':aJ}{t:Bool}(ho:o.op=.pick q y z)(hq:ba c.P 0 q=some q')(hy:ba c.P o.type y=some y')(hz:ba c.P o.type z=some z')
  (ht:aj A q'=.bool t):c8 c A o (if t then aj A y' else aj A z') :=
 .same fun a w D E hs=>by
  have h1:=bz hs hq;rw[ht] at h1;have h2:=mJ h1;refine ⟨if t then a.eval y else a.eval z,by cases t <;>simp[execOp,ho,h2,asBool],?_⟩;cases t
  ·exact bz hs hz
  ·exact bz hs hy
theorem Ac{P:Program}{w:World}(op:BinOp)(t:TypeId)(x y:Operand){u v:Value}(hu:u.oneCell'=true)(hn:u≠.nilIface):(eqGuard op t x y u v).run P w=.ok () w:=by
 cases op <;>cases u <;>simp[Value.oneCell'] at hu <;>first | (exact absurd rfl hn) | (cases v <;>simp[eqGuard])
theorem KT{op:BinOp}{x y z:I}(h:b8 op x y=some z){P:Program}{t:TypeId}{w:World}{D:aO}{E:aU}{u v:Value}(hx:aV w D E x u)(hy:aV w D E y v)(xo yo:Operand) :
  ∃ r,(do eqGuard op t xo yo u v;binOp op t u v:Sem Value).run P w=.ok r w∧aV w D E z r:=by
 unfold b8 at h;split at h
 ·rename_i k a k' b;obtain ⟨rfl,ha⟩:=ef hx;obtain ⟨rfl,hb⟩:=ef hy;have hg:∀ op,(eqGuard op t xo yo (.int k a) (.int k' b)).run P w=.ok () w:=fun op=>Ac op t xo yo rfl (by simp);simp only[Sem.run_bind,hg,Result.andThen_ok];split at h
  ·split at h
   ·rename_i hb0;simp only[v6] at h;subst h;have:¬ b<0:=by omega
    exact ⟨_,by simp[binOp,Op.shift,this],jG (rR _ _)⟩
   ·cases h
  ·split at h
   ·rename_i hb0;simp only[v6] at h;subst h;have:¬ b<0:=by omega
    exact ⟨_,by simp[binOp,Op.shift,this],jG (Su _ _ _ ha)⟩
   ·cases h
  ·rename_i op h1 h2;split at h
   ·rename_i hk;subst hk;split at h <;>first
     |(simp at h;done)
     |(simp only[v6] at h;subst h;exact ⟨_,by simp[binOp,Op.intArith,Op.intBits,Op.intCmp],jG (rR _ _)⟩)
     |(simp only[v6] at h;subst h;exact ⟨_,by simp[binOp,Op.intCmp],mz _⟩)
     |(split at h
       ·cases h
       ·rename_i hb0;simp only[v6] at h;subst h
        first
         |exact ⟨_,by simp[binOp,Op.intDiv,hb0],jG (rR _ _)⟩
         |exact ⟨_,by simp[binOp,Op.intDiv,hb0],jG (ahz _ _ _ ha)⟩)
   ·cases h
 ·rename_i s s';obtain ⟨rfl,hs1⟩:=il hx;obtain ⟨rfl,hs2⟩:=il hy;have hg:∀ op,(eqGuard op t xo yo (.string s) (.string s')).run P w=.ok () w:=fun op=>Ac op t xo yo rfl (by simp);simp only[Sem.run_bind,hg,Result.andThen_ok];split at h <;>first
   |(simp at h;done)
   |(simp only[v6] at h;subst h;exact ⟨_,by simp[binOp,Op.stringOp],mz _⟩)
   |(split at h
     ·rename_i hl;simp only[v6] at h;subst h;have hl':¬ (((s.size+s'.size:Nat):Int)>IntKind.i64.max):=by
       have e:IntKind.i64.max=9223372036854775807:=by simp[IntKind.max,IntKind.bits,IntKind.signed]
       rw[e];omega
      refine ⟨.string (s++s'),by simp only[binOp,Op.stringOp,if_neg hl',Sem.run_pure],?_⟩;exact ⟨_,by simp[bm,I.isAgg];rfl,by simp only[ai,true_and];rw[ByteArray.size_append];unfold maxLen;omega⟩
     ·cases h)
 ·cases h
theorem E6{op:BinOp}{t yt:TypeId}{y z:Operand}{y' z':aJ}(ho:o.op=.binOp op t y z yt)(hy:ba c.P 0 y=some y')(hz:ba c.P 0 z=some z')(h:b8 op (aj A y') (aj A z')=some x):c8 c A o x :=
 .same fun a w D E hs=>by
  obtain ⟨r,h1,h2⟩:=KT h (P:=c.P) (t:=t) (bz hs hy) (bz hs hz) y z;exact ⟨r,by simp only[execOp,ho,Sem.run_bind] at *;rw[h1];rfl,h2⟩
theorem acU{t:TypeId}{y:Operand}{y':aJ}{b:Bool}(ho:o.op=.unOp .not t y)(hy:ba c.P 0 y=some y')(h:aj A y'=.bool b):c8 c A o (.bool !b) :=
 .same fun a w D E hs=>by
  have h1:=bz hs hy;rw[h] at h1;exact ⟨.bool !b,by simp[execOp,ho,mJ h1,Op.unary],mz _⟩
theorem acS{t:TypeId}{y:Operand}{y':aJ}{k:IntKind}{n:Int}(ho:o.op=.unOp .neg t y)(hy:ba c.P 0 y=some y')(h:aj A y'=.int k n):c8 c A o (.int k (k.wrap (0-n))) :=
 .same fun a w D E hs=>by
  have h1:=bz hs hy;rw[h] at h1;exact ⟨.int k (k.wrap (0-n)),by simp[execOp,ho,(ef h1).1,Op.unary,Op.intArith],jG (rR _ _)⟩
theorem acy{t:TypeId}{y:Operand}{y':aJ}{k:IntKind}{n:Int}(ho:o.op=.unOp .xor t y)(hy:ba c.P 0 y=some y')(h:aj A y'=.int k n):c8 c A o (.int k (qw k n)) :=
 .same fun a w D E hs=>by
  have h1:=bz hs hy;rw[h] at h1;exact ⟨.int k (qw k n),by simp[execOp,ho,(ef h1).1,Op.unary,Op.intBits,qw],jG (rR _ _)⟩
theorem acx{nR dst:TypeId}{y:Operand}{y':aJ}{k k0 k1:IntKind}{n:Int}(ho:o.op=.convert nR dst y)(h1:c.P.underlying nR=some (.int k0))(h2:c.P.underlying dst=some (.int k))
  (hy:ba c.P 0 y=some y') (h:aj A y'=.int k1 n):c8 c A o (.int k (k.wrap n)) :=
 .same fun a w D E hs=>by
  have h3:=bz hs hy;rw[h] at h3;exact ⟨.int k (k.wrap n),by simp[execOp,ho,(ef h3).1,convert,run_underlying h1,run_underlying h2,Conv.intToInt],jG (rR _ _)⟩
theorem acB{y:Operand}{y':aJ}{i:Nat}{fs:List I}(ho:o.op=.extract y i)(hy:ba c.P 0 y=some y')(h:aj A y'=.tuple fs)(hi:fs[i]?=some x):c8 c A o x :=
 .same fun a w D E hs=>by
  have h3:=bz hs hy;rw[h] at h3;obtain ⟨vs,h4,h5⟩:=h3;have:∀ (fs:List I) (vs:List Value) (i:Nat),aD w D E fs vs→fs[i]?=some x→∃ v,vs[i]?=some v∧aV w D E x v:=by
   intro fs
   induction fs with
   |nil=>intro vs i _ hi;simp at hi
   |cons f fs ih =>
    intro vs i hr hi;simp only[aD] at hr;obtain ⟨v,rest,cs,rfl,k1,k2,k3⟩:=hr;cases i with
    |zero =>
     simp only[List.getElem?_cons_zero,v6] at hi ⊢;subst hi;refine ⟨v,rfl,?_⟩;cases f <;>simp only[aV] <;>first | (simp only[ai] at k2;done) | exact ⟨cs,k1,k2⟩
    |succ i=>simpa using ih rest i k3 (by simpa using hi)
  obtain ⟨v,h6,h7⟩:=this fs vs i h5 hi;exact ⟨v,by simp[execOp,ho,h4,Instr.extract,h6],h7⟩
theorem gD{w:World}{D:aO}{E:aU}{x:I}{v:Value}{cs:List Value}(h1:bm x v cs)(h2:ai w D E x cs):aV w D E x v:=by
 cases x <;>simp only[aV] <;>first | (simp only[ai] at h2;done) | exact ⟨cs,h1,h2⟩
theorem IY{P:Program}{w:World}{t:TypeId}{s:Option Nat}(h:fZ P t=some s):(isAgg t).run P w=.ok s.isSome w:=by
 unfold fZ at h;unfold isAgg;cases hu:P.underlying t with
 |none=>simp[hu] at h
 |some d =>
  rw[Sem.run_bind,run_underlying hu w];cases d <;>simp_all <;>(subst h;rfl)
theorem za{P:Program}{t:TypeId}{n:Nat}(h:fZ P t=some (some n)):n=P.cellsOf t:=by
 unfold fZ at h;split at h <;>simp_all
theorem yV{P:Program}{t:TypeId}{d:TypeDesc}(h:P.underlying t=some d):∃ i,P.info? t=some i:=by
 unfold Program.underlying at h;cases hi:P.info? t with
 |none=>simp[hi] at h
 |some i=>exact ⟨i,rfl⟩
theorem jb{P:Program}{w:World}{t:TypeId}{i:TypeInfo}(h:P.info? t=some i):(sizeOf t).run P w=.ok (P.cellsOf t) w:=by
 simp[sizeOf,typeInfo,h,Program.cellsOf]
theorem vx{P:Program}{t:TypeId}{s:Option Nat}(h:fZ P t=some s):∃ i,P.info? t=some i:=by
 unfold fZ at h;split at h
 ·rename_i fs hu;exact yV hu
 ·rename_i n e hu;exact yV hu
 ·rename_i d _ _ hu;exact yV hu
 ·cases h
theorem n9(b off j:Nat):(⟨b,off,none⟩:Addr).add j=⟨b,off+j,none⟩:=by unfold Addr.add;split <;>simp_all
theorem IZ{P:Program}{w:World}{D:aO}{E:aU}{t:TypeId}{s:Option Nat}{b off:Nat}{cs:List Value}{y:I}(hk:fZ P t=some s)(hok:bS s y=true)
  (hcs:∀ j u,cs[j]?=some u→w.cell? ⟨b,off+j,none⟩=some u) (hy:ai w D E y cs):∃ v,(loadVar t ⟨b,off,none⟩).run P w=.ok v w∧aV w D E y v:=by
 have hag:=IY (w:=w) hk;cases s with
 |none =>
  simp only[bS,Bool.not_eq_true'] at hok;have hl:=ai.length _ _ hy;have hsz:y.size=1:=by cases y <;>simp_all[I.isAgg,I.size]
  rw[hsz] at hl
  match cs,hl with
  | [v],_ =>
   have:=hcs 0 v rfl;rw[Nat.add_zero] at this;refine ⟨v,?_,Gg hok hy⟩;simp only[loadVar,Sem.run_bind,hag,Result.andThen_ok,Option.isSome_none,zy0,if_false,run_load,this]
 |some n =>
  simp only[bS,zz0,beq_iff_eq] at hok;obtain ⟨hag',hsz⟩:=hok;have hn:=za hk;obtain ⟨i,hi⟩:=vx hk;have hl:=ai.length _ _ hy;refine ⟨.agg cs.toArray,?_,gD (by simp[bm,hag']) hy⟩;have hlc:=run_loadCells_list (P:=P) w ⟨b,off,none⟩ cs (fun j u hj=>by rw[n9];exact hcs j u hj);rw[hl,hsz,hn] at hlc;simp only[loadVar,Sem.run_bind,hag,Result.andThen_ok,Option.isSome_some,if_true,jb hi,hlc,Sem.run_pure]
theorem acL{t:TypeId}{y:Operand}{y':aJ}{s:Option Nat}(ho:o.op=.load t y)(hk:fZ c.P t=some s)(hy:ba c.P 0 y=some y')(h:ct A (aj A y')=some x)(hok:bS s x=true):c8 c A o x :=
 .same fun a w D E hs=>by
  obtain ⟨b,off,cs,h1,h2,h3⟩:=hs.BT (bz hs hy) h;obtain ⟨v,h4,h5⟩:=IZ hk hok h2 h3;exact ⟨v,by simp[execOp,ho,Instr.loadAt,h1,Instr.sureAddr,h4],h5⟩
theorem wv{w:World}{D:aO}{b off:Nat}{c1 c2 c3:List Value}(h:reads w D b off (c1++c2++c3)):reads w D b (off+c1.length) c2:=by
 intro j v hj;have hjl:j<c2.length:=(zy4.1 hj).1;have:=h (c1.length+j) v (by rw[zz7,zv7 (by omega),Nat.add_sub_cancel_left,zx0 (by omega)];exact hj)
 rwa [←Nat.add_assoc] at this
theorem cg.vY:∀ (p:List Nat) (s:cg) (o i:Nat) (l:List cg),s.off p=some o→s.part p=some (.dP l)→i<l.length→s.off (p++[i])=some (o+cg.sizes (l.take i))
 | [],s,o,i,l,h1,h2,h3=>by
  simp only[cg.part,v6] at h2;subst h2;simp only[cg.off,v6] at h1;subst h1;simp[cg.off,zz5 h3]
 |k::p,.one,o,i,l,h1,h2,h3=>by simp[cg.part] at h2
 |k::p,.dP m,o,i,l,h1,h2,h3=>by
  simp only[cg.off,cg.part,zz8] at *;cases hk:m[k]? with
  |none=>simp[hk] at h2
  |some s =>
   simp only[hk] at h1 h2 ⊢;simp only[t8] at h1;obtain ⟨o',h4,rfl⟩:=h1;rw[cg.vY p s o' i l h4 h2 h3];simp[Nat.add_assoc]
theorem pT{esz:Nat} : ∀ (fs:List I) (k:Nat),(∀ f∈fs,f.size=esz)→k≤fs.length→I.sizes (fs.take k)=k*esz:=by
 intro fs k h hk;rw[I.iJ _ (fun x hx=>h x (zx9 hx))];simp[Nat.min_eq_left hk]
theorem sx{n esz:Nat}{fs:List I}(h:gL n esz fs=true):fs.length=n∧∀ f∈fs,f.size=esz:=by
 simp only[gL,zz0,beq_iff_eq,zx1] at h;exact h
theorem IW{P:Program}{w:World}{t:TypeId}{f b off:Nat}{fs:Array Field}{fd:Field}(hu:P.underlying t=some (.struct fs))(hf:fs[f]?=some fd)(hz:¬ P.cellsOf fd.type=0) :
  (Instr.fieldAt t (.pointer (some ⟨b,off,none⟩)) f).run P w=.ok (.pointer (some ⟨b,off+fd.offset,none⟩)) w:=by
 have hi:∃ i,P.info? fd.type=some i:=by
  cases h:P.info? fd.type with
  |none=>simp[Program.cellsOf,h] at hz
  |some i=>exact ⟨i,rfl⟩
 obtain ⟨i,hi⟩:=hi;simp only[Instr.fieldAt,Sem.run_bind,run_underlying hu,Result.andThen_ok,hf,Instr.sureAddr,Sem.run_pure,fieldPlace,jb hi,Sem.run_ite,if_neg hz,n9]
theorem acD{t:TypeId}{y:Operand}{y':aJ}{f:Nat}{fs:Array Field}{fd:Field}{gs:List I}(ho:o.op=.fieldAddr t y f)(hu:c.P.underlying t=some (.struct fs))(hf:fs[f]?=some fd)(hz:¬ c.P.cellsOf fd.type=0)
  (hy:ba c.P 0 y=some y') (h:aj A y'=.ref (.agg gs)) (hx:gs[f]?=some x) (hoff:I.sizes (gs.take f)=fd.offset):c8 c A o (.ref x) :=
 .same fun a w D E hs=>by
  have h1:=bz hs hy;rw[h] at h1;obtain ⟨b,off,cs,h2,h3,h4⟩:=rB h1;simp only[ai] at h4;obtain ⟨c1,c2,c3,rfl,k1,_,k2,_⟩:=nC gs cs f x h4 hx;refine ⟨_,by simp only[execOp,ho,h2,Sem.run_bind,IW hu hf hz];rfl,vJ (cs:=c2) ?_ k2⟩;rw[←hoff,←k1];exact wv h3
theorem acC{t:TypeId}{y:Operand}{y':aJ}{f n:Nat}{p:List Nat}{fs:Array Field}{fd:Field}{gs:List I}(ho:o.op=.fieldAddr t y f)(hu:c.P.underlying t=some (.struct fs))(hf:fs[f]?=some fd)(hz:¬ c.P.cellsOf fd.type=0)
  (hy:ba c.P 0 y=some y') (h:aj A y'=.ptr n p) (hd:ct A (.ptr n p)=some (.agg gs)) (hl:f<gs.length) (hoff:I.sizes (gs.take f)=fd.offset):c8 c A o (.ptr n (p++[f])) :=
 .same fun a w D E hs=>by
  have h1:=bz hs hy;rw[h] at h1;obtain ⟨b,aN,off,h2,h3,h4⟩:=mK h1;obtain ⟨z,b',cs,T,off',c1,c2,c3,k1,k2,_,k3,k4,k5,k6,k7,k8,k9,_⟩:=hs.at hd;rw[k2] at h2;simp only[v6,bL.aG.injEq] at h2;obtain ⟨rfl,rfl⟩:=h2;refine ⟨_,by simp only[execOp,ho,h4,Sem.run_bind,IW hu hf hz];rfl,?_⟩;refine ⟨_,by simp[bm,I.isAgg];rfl,?_⟩;simp only[ai];refine ⟨b',z.aN,off+fd.offset,k2,?_,rfl⟩;rw[cg.vY p z.aN off f _ h3 (nN p z _ k4) (by rw[I.c7];simpa using hl),I.c7,←List.map_take,←I.c7,I.nO,hoff]
theorem IX{P:Program}{w:World}{t e:TypeId}{n b off:Nat}{kk:IntKind}{k:Int}{i:TypeInfo}(hu:P.underlying t=some (.array n e))(hi:P.info? e=some i)(hk:0≤k∧k<n) :
  (Instr.indexAt t (.pointer (some ⟨b,off,none⟩)) (.int kk k)).run P w=.ok (.pointer (some ⟨b,off+k.toNat*P.cellsOf e,none⟩)) w:=by
 simp[Instr.indexAt,asIntOf,run_underlying hu,Instr.sureAddr,hk,jb hi,n9]
theorem Ad{P:Program}{w:World}{t e:TypeId}{n b off cap:Nat}{kk:IntKind}{k:Int}{i:TypeInfo}(hu:P.underlying t=some (.slice e))(hi:P.info? e=some i)(hk:0≤k∧k<n) :
  (Instr.indexAt t (.slice (some ⟨b,off,none⟩) n cap) (.int kk k)).run P w=.ok (.pointer (some ⟨b,off+k.toNat*P.cellsOf e,none⟩)) w:=by
 simp[Instr.indexAt,asIntOf,run_underlying hu,hk,jb hi,n9]
theorem acG{t e:TypeId}{y z:Operand}{y' z':aJ}{n:Nat}{i:TypeInfo}{gs:List I}{kk:IntKind}{k:Int}(ho:o.op=.indexAddr t y z)(hu:c.P.underlying t=some (.array n e))(hi:c.P.info? e=some i)
  (hy:ba c.P 0 y=some y') (hz:ba c.P 0 z=some z') (h:aj A y'=.ref (.agg gs)) (h':aj A z'=.int kk k) (hk:0≤k∧k<n) (hev:gL n (c.P.cellsOf e) gs=true) (hx:gs[k.toNat]?=some x):c8 c A o (.ref x) :=
 .same fun a w D E hs=>by
  have h1:=bz hs hy;rw[h] at h1;have h1':=bz hs hz;rw[h'] at h1';obtain ⟨b,off,cs,h2,h3,h4⟩:=rB h1;simp only[ai] at h4;obtain ⟨c1,c2,c3,rfl,k1,_,k2,_⟩:=nC gs cs k.toNat x h4 hx;obtain ⟨e1,e2⟩:=sx hev;have hl:k.toNat<gs.length:=(zy4.1 hx).1;refine ⟨_,by simp only[execOp,ho,h2,(ef h1').1,Sem.run_bind,IX hu hi hk];rfl,vJ (cs:=c2) ?_ k2⟩;rw[←pT gs k.toNat e2 (by omega),←k1];exact wv h3
theorem acF{t e:TypeId}{y z:Operand}{y' z':aJ}{n m:Nat}{p:List Nat}{i:TypeInfo}{gs:List I}{kk:IntKind}{k:Int}(ho:o.op=.indexAddr t y z)(hu:c.P.underlying t=some (.array n e))(hi:c.P.info? e=some i)
  (hy:ba c.P 0 y=some y') (hz:ba c.P 0 z=some z') (h:aj A y'=.ptr m p) (h':aj A z'=.int kk k) (hk:0≤k∧k<n) (hd:ct A (.ptr m p)=some (.agg gs)) (hev:gL n (c.P.cellsOf e) gs=true):c8 c A o (.ptr m (p++[k.toNat])) :=
 .same fun a w D E hs=>by
  have h1:=bz hs hy;rw[h] at h1;have h1':=bz hs hz;rw[h'] at h1';obtain ⟨b,aN,off,h2,h3,h4⟩:=mK h1;obtain ⟨zz,b',cs,T,off',c1,c2,c3,k1,k2,_,k3,k4,k5,k6,k7,k8,k9,_⟩:=hs.at hd;rw[k2] at h2;simp only[v6,bL.aG.injEq] at h2;obtain ⟨rfl,rfl⟩:=h2;obtain ⟨e1,e2⟩:=sx hev;have hl:k.toNat<gs.length:=by omega
  refine ⟨_,by simp only[execOp,ho,h4,(ef h1').1,Sem.run_bind,IX hu hi hk];rfl,?_⟩;refine ⟨_,by simp[bm,I.isAgg];rfl,?_⟩;simp only[ai];refine ⟨b',zz.aN,off+k.toNat*c.P.cellsOf e,k2,?_,rfl⟩;rw[cg.vY p zz.aN off k.toNat _ h3 (nN p zz _ k4) (by rw[I.c7];simpa using hl),I.c7,←List.map_take,←I.c7,I.nO,pT gs _ e2 (by omega)]
theorem ya{w:World}{D:aO}{E:aU}{b off sz k:Nat}{cs:List Value}{es:List I}{x:I}(h1:reads w D b off cs)(h2:aK w D E es cs)(h3:∀ e∈es,e.size=sz)(hx:es[k]?=some x) :
  ∃ c2,reads w D b (off+k*sz) c2∧ai w D E x c2:=by
 obtain ⟨c1,c2,c3,rfl,k1,_,k2,_⟩:=nC es cs k x h2 hx;have hl:k<es.length:=(zy4.1 hx).1;refine ⟨c2,?_,k2⟩;rw[←pT es k h3 (by omega),←k1];exact wv h1
theorem acH{t e:TypeId}{y z:Operand}{y' z':aJ}{i:TypeInfo}{es:List I}{kk:IntKind}{k:Int}(ho:o.op=.indexAddr t y z)(hu:c.P.underlying t=some (.slice e))(hi:c.P.info? e=some i)
  (hy:ba c.P 0 y=some y') (hz:ba c.P 0 z=some z') (h:aj A y'=.slice (c.P.cellsOf e) es) (h':aj A z'=.int kk k) (hk:0≤k∧k<es.length) (hx:es[k.toNat]?=some x):c8 c A o (.ref x) :=
 .same fun a w D E hs=>by
  have h1:=bz hs hy;rw[h] at h1;have h1':=bz hs hz;rw[h'] at h1';obtain ⟨ad,cap,rfl',h2,h3,h4,h5⟩:=mL h1;rcases h4 with h4 | ⟨b,off,cs,rfl,h6,h7⟩
  ·subst h4;simp at hx
  obtain ⟨c2,k1,k2⟩:=ya h6 h7 h5 hx;exact ⟨_,by simp only[execOp,ho,rfl',(ef h1').1,Sem.run_bind,Ad hu hi hk];rfl,vJ k1 k2⟩
theorem aT.ag6{a:Act}{w:World}{D:aO}{E:aU}(h:aT c A a w D E){n sz b cap:Nat}{T:TypeId}{es:List I}(hn:A.o n=some (.b6 T sz es))(aE:E n=some (.rw (some (b,cap)) es.length)) :
  aT c A a w (fun b' o=>D b' o∨(b'=b∧o<es.length*sz)) E:=by
 have hrow:=h.b6 hn;obtain ⟨aL,k1,k2,k3⟩:=hrow;rw[aE] at k1;simp only[v6,bL.rw.injEq,and_true] at k1;subst k1;obtain ⟨cs,pre,rest,k4,k5,k6,k7,k8,k9,k10,k11⟩:=k3;refine h.JS (fun _ _ hd=>.inl hd) ?_ ?_ ?_ ?_ ?_ ?_
 ·rintro b' o (hd | ⟨rfl,_⟩) hlt
  ·exact h.df _ _ hd hlt
  ·exact absurd k4 hlt
 ·rintro b' o (hd | ⟨rfl,_⟩)
  ·exact h.dy _ _ hd
  ·exact fG k5
 ·rintro m x b' hm hEm o (hd | ⟨rfl,_⟩)
  ·obtain ⟨b2,cs2,T2,q1,q2,q3,q4,q5⟩:=h.box hm;rw[q1] at hEm;simp only[v6,bL.aG.injEq,and_true] at hEm;subst hEm;exact q5 o hd
  ·have:=h.cV m n _ _ b' hEm aE rfl rfl;subst this;rw[hm] at hn;cases hn
 ·rintro m T' sz' es' b' cap' hm hEm o (hd | ⟨rfl,ho⟩)
  ·obtain ⟨aL,q1,q2,q3⟩:=h.b6 hm;rw[hEm] at q1;simp only[v6,bL.rw.injEq,and_true] at q1;subst q1;obtain ⟨cs',pre',rest',q4,q5,q6,q7,q8,q9,q10,q11⟩:=q3;have:=q11 o hd
   rwa [aK.length _ _ q7,I.iJ _ q2] at this
  ·have:=h.cV m n _ _ b' hEm aE rfl rfl;subst this;rw[hm] at hn;simp only[v6,al.b6.injEq] at hn;obtain ⟨rfl,rfl,rfl⟩:=hn;exact ho
 ·rintro m T' xs b' cap' hm hEm o (hd | ⟨rfl,ho⟩)
  ·obtain ⟨aL,q1,_,q3⟩:=h.AP hm;rw[hEm] at q1;simp only[v6,bL.rw.injEq,and_true] at q1;subst q1;obtain ⟨_,_,_,_,_,_,_,_,q4⟩:=q3;exact q4 o hd
  ·have:=h.cV m n _ _ b' hEm aE rfl rfl;subst this;rw[hm] at hn;cases hn
 ·rintro m e' b' hE' hoth hblk o (hd | ⟨rfl,_⟩)
  ·exact h.zJ hE' hoth hblk o hd
  ·have:=h.cV m n _ _ b' hE' aE hblk rfl;subst this;rw[hE'] at aE;cases aE;cases hoth
theorem aT.own{a:Act}{w:World}{D:aO}{E:aU}(h:aT c A a w D E){n sz:Nat}{T:TypeId}{es:List I}{v:Value}(hn:A.o n=some (.b6 T sz es))(ae:aV w D E (.own n es.length) v) :
  (es=[]∧E n=some (.rw none 0)∧v=.slice none 0 0) ∨
  ∃ b cap cs pre rest,E n=some (.rw (some (b,cap)) es.length)∧v=.slice (some ⟨b,0,none⟩) es.length cap∧c.fk b∧w.heap[b]?=some (.cells cs T (0,0))∧cs.toList=pre++rest ∧
   aK w D E es pre∧cs.size=cap*sz∧es.length≤cap∧cap≤maxLen∧(∀ o,D b o→o<pre.length):=by
 obtain ⟨cs0,h1,h2⟩:=ae;simp only[ai] at h2;obtain ⟨aL,l,h3,h4,_,h5⟩:=h2;obtain ⟨blk',k1,k2,k3⟩:=h.b6 hn;rw[k1] at h3;simp only[v6,bL.rw.injEq] at h3;obtain ⟨rfl,rfl⟩:=h3;have h5:=h5 rfl;cases blk' with
 |none =>
  simp only at k3 h5;subst k3;exact .inl ⟨rfl,k1,by simpa[bm,I.isAgg,h5] using h1.symm⟩
 |some bc =>
  obtain ⟨b,cap⟩:=bc;simp only at h5;obtain ⟨cs,pre,rest,k4,k5,k6,k7,k8,k9,k10,k11⟩:=k3;exact .inr ⟨b,cap,cs,pre,rest,k1,by simpa[bm,I.isAgg,h5] using h1.symm,k4,k5,k6,k7,k8,k9,k10,k11⟩
theorem acI{t e:TypeId}{y z:Operand}{y' z':aJ}{i:TypeInfo}{es:List I}{n:Nat}{kk:IntKind}{k:Int}(ho:o.op=.indexAddr t y z)(hu:c.P.underlying t=some (.slice e))(hi:c.P.info? e=some i)
  (hy:ba c.P 0 y=some y') (hz:ba c.P 0 z=some z') (h:aj A y'=.own n es.length) {T:TypeId} (hn:A.o n=some (.b6 T (c.P.cellsOf e) es)) (h':aj A z'=.int kk k) (hk:0≤k∧k<es.length) (hx:es[k.toNat]?=some x):c8 c A o (.ref x):=by
 intro a w D E hs;have h1:=bz hs hy;rw[h] at h1;have h1':=bz hs hz;rw[h'] at h1';rcases hs.own hn h1 with ⟨rfl,_⟩ | ⟨b,cap,cs,pre,rest,k1,k2,k3,k4,k5,k6,k7,k8,k9,k10⟩
 ·simp at hx
 ·have hs':=hs.ag6 hn k1;obtain ⟨aL,q1,q2,_⟩:=hs.b6 hn;have hpl:pre.length=es.length*c.P.cellsOf e:=by rw[aK.length _ _ k6,I.iJ _ q2]
  have hr:reads w (fun b' o=>D b' o∨(b'=b∧o<es.length*c.P.cellsOf e)) b 0 pre:=by
   have:=wu (D:=fun b' o=>D b' o∨(b'=b∧o<es.length*c.P.cellsOf e)) (c1:=[]) k4 (by simpa using k5) (fun o ho=>.inr ⟨rfl,by simp at ho;omega⟩);simpa using this
  have hrc:aK w (fun b' o=>D b' o∨(b'=b∧o<es.length*c.P.cellsOf e)) E es pre :=
   aK.later ⟨fun _ _ hd=>.inl hd,fun _ _ _ _ h=>h,fun _ _ _ h=>h,fun _ aL l h=>⟨aL,l,h,zy1 _,fun _=>rfl⟩,fun _ _ h=>h,fun _ _ h=>h,fun _ _ _ _ h=>h⟩ es pre k6
  obtain ⟨c2,q3,q4⟩:=ya hr hrc q2 hx;exact ⟨_,w,_,by simp only[execOp,ho,k2,(ef h1').1,Sem.run_bind,Ad hu hi hk];rfl,hs',vJ q3 q4⟩
end
section
variable {c:cP} {A:af} {o:Oper} {x:I}
theorem pP{P:Program}{w:World}{D:aO}{E:aU}{t:TypeId}{s:Option Nat}{c1 c2 c3:List Value}{y:I}(hk:fZ P t=some s)(hok:bS s y=true)(hy:ai w D E y c2) :
  ∃ v,(part t (c1++c2++c3).toArray c1.length).run P w=.ok v w∧aV w D E y v:=by
 have hag:=IY (w:=w) hk;have hl:=ai.length _ _ hy;cases s with
 |none =>
  simp only[bS,Bool.not_eq_true'] at hok;have hsz:y.size=1:=by cases y <;>simp_all[I.isAgg,I.size]
  rw[hsz] at hl
  match c2,hl with
  | [v],_ =>
   refine ⟨v,?_,Gg hok hy⟩;simp[part,hag]
 |some n =>
  simp only[bS,zz0,beq_iff_eq] at hok;obtain ⟨hag',hsz⟩:=hok;have hn:=za hk;obtain ⟨i,hi⟩:=vx hk;refine ⟨.agg c2.toArray,?_,gD (by simp[bm,hag']) hy⟩;have e:((c1++c2++c3).toArray.extract c1.length (c1.length+P.cellsOf t))=c2.toArray:=by
   have:P.cellsOf t=c2.length:=by rw[hl,hsz,hn]
   rw[this];simp
  simp only[part,Sem.run_bind,hag,Result.andThen_ok,Option.isSome_some,if_true,jb hi,e,Sem.run_pure]
theorem acE{t:TypeId}{y:Operand}{y':aJ}{f:Nat}{s:Option Nat}{fs:Array Field}{fd:Field}{gs:List I}(ho:o.op=.field t y f)(hu:c.P.underlying t=some (.struct fs))(hf:fs[f]?=some fd)(hk:fZ c.P fd.type=some s)
  (hy:ba c.P 0 y=some y') (h:aj A y'=.agg gs) (hx:gs[f]?=some x) (hoff:I.sizes (gs.take f)=fd.offset) (hok:bS s x=true):c8 c A o x :=
 .same fun a w D E hs=>by
  have h1:=bz hs hy;rw[h] at h1;obtain ⟨cs,h2,h4⟩:=j7 h1;obtain ⟨c1,c2,c3,rfl,k1,_,k2,_⟩:=nC gs cs f x h4 hx;obtain ⟨v,k3,k4⟩:=pP (c1:=c1) (c3:=c3) hk hok k2;rw[k1,hoff] at k3;exact ⟨v,by simp only[execOp,ho,h2,Instr.field,Sem.run_bind,run_underlying hu,Result.andThen_ok,hf,asAgg,Sem.run_pure,k3],k4⟩
theorem acK{t e:TypeId}{y z:Operand}{y' z':aJ}{n:Nat}{s:Option Nat}{gs:List I}{kk:IntKind}{k:Int}(ho:o.op=.index t y z)(hu:c.P.underlying t=some (.array n e))(hk:fZ c.P e=some s)
  (hy:ba c.P 0 y=some y') (hz:ba c.P 0 z=some z') (h:aj A y'=.agg gs) (h':aj A z'=.int kk k) (hb:0≤k∧k<n) (hev:gL n (c.P.cellsOf e) gs=true) (hx:gs[k.toNat]?=some x) (hok:bS s x=true):c8 c A o x :=
 .same fun a w D E hs=>by
  have h1:=bz hs hy;rw[h] at h1;have h1':=bz hs hz;rw[h'] at h1';obtain ⟨cs,h2,h4⟩:=j7 h1;obtain ⟨c1,c2,c3,rfl,k1,_,k2,_⟩:=nC gs cs k.toNat x h4 hx;obtain ⟨v,k3,k4⟩:=pP (c1:=c1) (c3:=c3) hk hok k2;obtain ⟨e1,e2⟩:=sx hev;obtain ⟨i,hi⟩:=vx hk;have hl:k.toNat<gs.length:=(zy4.1 hx).1;rw[k1,pT gs k.toNat e2 (by omega)] at k3;exact ⟨v,by simp only[execOp,ho,h2,(ef h1').1,Instr.index,Sem.run_bind,asIntOf,run_underlying hu,Result.andThen_ok,Sem.run_ite,if_pos hb,jb hi,Sem.run_pure,k3],k4⟩
theorem zh{n:Nat}(h:n≤maxLen):IntKind.i64.min≤(n:Int)∧(n:Int)≤IntKind.i64.max:=by
 simp only[IntKind.min,IntKind.max,IntKind.bits,IntKind.signed];unfold maxLen at h;simp;omega
theorem qG{ty:TypeId}{y:Operand}{y':aJ}{n:Nat}{d:TypeDesc}(ho:o.op=.call { callee:=.builtin .len,args := #[y],argTypes := #[ty] })(hu:c.P.underlying ty=some d)(hd:(∃ e,d=.slice e)∨d=.string)
  (hy:ba c.P ty y=some y') (h:∀ a w D E,aT c A a w D E→∀ v,aV w D E (aj A y') v→n≤maxLen∧((∃ e,d=.slice e)→∃ ad cap,v=.slice ad n cap)∧(d=.string→∃ s,v=.string s∧s.size=n)):c8 c A o (.int .i64 n) :=
 .same fun a w D E hs=>by
  obtain ⟨h0,h1,h2⟩:=h a w D E hs _ (bz hs hy);refine ⟨.int .i64 n,?_,jG (zh h0)⟩;rcases hd with ⟨e,rfl⟩ | rfl
  ·obtain ⟨ad,cap,ae⟩:=h1 ⟨e,rfl⟩;simp[execOp,ho,resolve,invoke,builtin,Builtin.len_,run_underlying hu,ae,goInt]
  ·obtain ⟨s,ae,hs⟩:=h2 rfl;simp[execOp,ho,resolve,invoke,builtin,Builtin.len_,run_underlying hu,ae,goInt,hs]
theorem ac3{t e:TypeId}{y:Operand}{y':aJ}{n:Nat}{i:TypeInfo}{gs:List I}(ho:o.op=.slice t y none none none)(hu:c.P.underlying t=some (.array n e))(hi:c.P.info? e=some i)
  (hy:ba c.P 0 y=some y') (h:aj A y'=.ref (.agg gs)) (hev:gL n (c.P.cellsOf e) gs=true) (hn:n≤maxLen):c8 c A o (.slice (c.P.cellsOf e) gs) :=
 .same fun a w D E hs=>by
  have h1:=bz hs hy;rw[h] at h1;obtain ⟨b,off,cs,h2,h3,h4⟩:=rB h1;simp only[ai] at h4;obtain ⟨e1,e2⟩:=sx hev;by_cases h0:n=0
  ·exact ⟨.slice (some ⟨b,off,none⟩) 0 0,by simp[execOp,ho,h2,Instr.sliceAt,run_underlying hu,Instr.sureAddr,Instr.sliceBounds,jb hi,h0],vK (by omega) (by omega) (by simp[maxLen]) (.inl (zv0 (by omega))) e2⟩
  ·exact ⟨.slice (some ⟨b,off,none⟩) n n,by simp[execOp,ho,h2,Instr.sliceAt,run_underlying hu,Instr.sureAddr,Instr.sliceBounds,jb hi,n9],vK e1.symm (zy1 _) hn (.inr ⟨b,off,cs,rfl,h3,h4⟩) e2⟩
theorem ac2{t e:TypeId}{y:Operand}{y':aJ}{n m:Nat}{p:List Nat}{i:TypeInfo}{gs:List I}(ho:o.op=.slice t y none none none)(hu:c.P.underlying t=some (.array n e))(hi:c.P.info? e=some i)
  (hy:ba c.P 0 y=some y') (h:aj A y'=.ptr m p) (hd:ct A (.ptr m p)=some (.agg gs)) (hev:gL n (c.P.cellsOf e) gs=true) (hn:n≤maxLen) (hn0:n≠0):c8 c A o (.view m p (c.P.cellsOf e) 0 n) :=
 .same fun a w D E hs=>by
  have h1:=bz hs hy;rw[h] at h1;obtain ⟨b,aN,off,h2,h3,h4⟩:=mK h1;obtain ⟨zz,b',cs,T,off',c1,c2,c3,k1,k2,_,k3,k4,k5,k6,k7,k8,k9,_⟩:=hs.at hd;rw[k2] at h2;simp only[v6,bL.aG.injEq] at h2;obtain ⟨rfl,rfl⟩:=h2;obtain ⟨e1,e2⟩:=sx hev;refine ⟨.slice (some ⟨b',off,none⟩) n n,by simp[execOp,ho,h4,Instr.sliceAt,run_underlying hu,Instr.sureAddr,Instr.sliceBounds,jb hi,n9],?_⟩;refine ⟨_,by simp[bm,I.isAgg];rfl,?_⟩;simp only[ai];refine ⟨b',zz.aN,off,I.cB gs,k2,h3,nN p zz _ k4,?_,?_,?_,?_⟩
  ·rw[I.c7,zz3,e1];simp
  ·rw[I.c7,zz3,e1];exact hn
  ·rw[I.c7,zz3,e1];omega
  ·rw[I.c7];intro s hs';obtain ⟨f,hf,rfl⟩:=zx4.1 hs';rw[I.jN];exact e2 f hf
theorem age{w:World}{D:aO}{E:aU}{b off sz:Nat}{cs:List Value}{es:List I}(h1:reads w D b off cs)(h2:aK w D E es cs)(h3:∀ e∈es,e.size=sz)(l h:Nat)(hl:l≤h)(hh:h≤es.length) :
  ∃ c2,reads w D b (off+l*sz) c2∧aK w D E ((es.take h).drop l) c2:=by
 have hspl:∀ (xs ys:List I) (cs:List Value),aK w D E (xs++ys) cs→∃ c1 c2,cs=c1++c2∧aK w D E xs c1∧aK w D E ys c2:=by
  intro xs
  induction xs with
  |nil=>intro ys cs hr;exact ⟨[],cs,rfl,by simp[aK],hr⟩
  |cons x xs ih =>
   intro ys cs hr;simp only[zz8,aK] at hr;obtain ⟨d1,d2,rfl,k1,k2⟩:=hr;obtain ⟨e1,e2,rfl,k3,k4⟩:=ih ys d2 k2;exact ⟨d1++e1,e2,by simp,by simp only[aK];exact ⟨d1,e1,rfl,k1,k3⟩,k4⟩
 have e1:es=es.take l++((es.take h).drop l++es.drop h):=by
  rw[←zz7]
  conv=>lhs;rw[←zw1 h es]
  congr 1
  rw[←List.aht l h es hl]
 rw[e1] at h2;obtain ⟨c1,c',rfl,k1,k2⟩:=hspl _ _ _ h2;obtain ⟨c2,c3,rfl,k3,k4⟩:=hspl _ _ _ k2;refine ⟨c2,?_,k3⟩;rw[←pT es l h3 (by omega),←aK.length _ _ k1];rw[←zz7] at h1;exact wv h1
 where
 List.aht {α:Type} (l h:Nat) (es:List α) (hl:l≤h):es.take h=es.take l++(es.take h).drop l:=by
  conv=>lhs;rw[←zw1 l (es.take h)]
  rw[List.take_take,Nat.min_eq_left hl]
def jo(w:World)(D:aO)(E:aU)(x:Option I)(v:Option Value):Prop:=match x,v with
 |none,none=>True
 |some x,some v=>aV w D E x v
 |_,_=>False
theorem L3{x:I}{d n:Int}(h:jj (some x) d=some n):∃ k,x=.int k n:=by
 cases x <;>simp[jj] at h
 subst h;exact ⟨_,rfl⟩
theorem tk{w:World}{D:aO}{E:aU}{x:Option I}{v:Option Value}{d n:Int}(h:jo w D E x v)(hb:jj x d=some n) :
  (x=none∧v=none∧d=n)∨(x.isSome=true∧∃ k,v=some (.int k n)):=by
 cases x with
 |none =>
  cases v with
  |some _=>simp[jo] at h
  |none=>simp only[jj,v6] at hb;exact .inl ⟨rfl,rfl,hb⟩
 |some x =>
  cases v with
  |none=>simp[jo] at h
  |some v =>
   obtain ⟨k,rfl⟩:=L3 hb;simp only[jo] at h;exact .inr ⟨rfl,k,by rw[(ef h).1]⟩
theorem Ae{P:Program}{w:World}{D:aO}{E:aU}{t e:TypeId}{i:TypeInfo}{sz:Nat}{es:List I}{lo hi mx:Option I}{vlo vhi vmx:Option Value}{x:I}{ad:Option Addr}{cap:Nat}
  (hu:P.underlying t=some (.slice e)) (hi':P.info? e=some i) (hsz:sz=P.cellsOf e) (hmh:mx.isSome=true→hi.isSome=true)
  (h1:jo w D E lo vlo) (h2:jo w D E hi vhi) (h3:jo w D E mx vmx) (hx:jO sz es lo hi mx=some x)
  (hcap:es.length≤cap) (hcm:cap≤maxLen) (hes:es=[]∨∃ b off cs,ad=some ⟨b,off,none⟩∧reads w D b off cs∧aK w D E es cs) (hall:∀ e∈es,e.size=sz) :
  ∃ v,(Instr.sliceAt t (.slice ad es.length cap) vlo vhi vmx).run P w=.ok v w∧aV w D E x v:=by
 unfold jO at hx;split at hx
 ·cases hx
 rename_i h hh;split at hx
 ·cases hx
 rename_i m hm;split at hx
 ·cases hx
 rename_i l hl;split at hx
 case isFalse=>cases hx
 rename_i hb;obtain ⟨b1,b2,b3,b4⟩:=hb;have sb:∀ (k:IntKind) (n:Int) (y:Nat) (code:BoundsCode),0≤n→n≤y→(Instr.sliceBound (.int k n) y code).run P w=.ok n.toNat w:=fun k n y code g1 g2=>by
  simp[Instr.sliceBound,asIntOf,g1,g2]
 -- the bounds that the program finds
 have key:∃ m':Nat,es.length≤cap∧m'≤cap∧h.toNat≤m'∧(mx.isSome=true→m'=m.toNat)∧(mx=none→m'=cap) ∧
   (Instr.sliceBounds true es.length cap vlo vhi vmx).run P w=.ok (l.toNat,h.toNat,m') w:=by
  have c1:=tk h1 hl;have c2:=tk h2 hh;have c3:=tk h3 hm;clear h1 h2 h3;rcases c3 with ⟨rfl,rfl,hm3⟩ | ⟨s3,k3,rfl⟩
  ·refine ⟨cap,hcap,zy1 _,by omega,fun e=>(by cases e),fun _=>rfl,?_⟩;rcases c2 with ⟨rfl,rfl,hm2⟩ | ⟨s2,k2,rfl⟩ <;>rcases c1 with ⟨rfl,rfl,hm1⟩ | ⟨s1,k1,rfl⟩
   ·subst hm1 hm2;simp[Instr.sliceBounds]
   ·subst hm2;simp[Instr.sliceBounds,sb k1 l es.length _ b1 (by omega)]
   ·subst hm1;simp[Instr.sliceBounds,sb k2 h cap _ (by omega) (by omega)]
   ·simp[Instr.sliceBounds,sb k2 h cap _ (by omega) (by omega),sb k1 l h.toNat _ b1 (by omega)]
  ·refine ⟨m.toNat,hcap,by omega,by omega,fun _=>rfl,fun e=>(by rw[e] at s3;cases s3),?_⟩;rcases c2 with ⟨rfl,rfl,hm2⟩ | ⟨s2,k2,rfl⟩
   ·simp[s3] at hmh
   ·rcases c1 with ⟨rfl,rfl,hm1⟩ | ⟨s1,k1,rfl⟩
    ·subst hm1;simp[Instr.sliceBounds,sb k3 m cap _ (by omega) (by omega),sb k2 h m.toNat _ (by omega) (by omega)]
    ·simp[Instr.sliceBounds,sb k3 m cap _ (by omega) (by omega),sb k2 h m.toNat _ (by omega) (by omega),sb k1 l h.toNat _ b1 (by omega)]
 obtain ⟨m',g1,g2,g3,g4,g5,hsb⟩:=key;have hrun:(Instr.sliceAt t (.slice ad es.length cap) vlo vhi vmx).run P w =
   .ok (.slice (if m'=l.toNat then ad else ad.map (·.add (l.toNat*P.cellsOf e))) (h.toNat-l.toNat) (m'-l.toNat)) w:=by
  simp only[Instr.sliceAt,Instr.slice,Sem.run_bind,run_underlying hu,Result.andThen_ok,hsb,jb hi',Sem.run_pure]
 refine ⟨_,hrun,?_⟩;split at hx
 ·rename_i hc;simp only[v6] at hx;subst hx;have e1:m'=l.toNat:=by rw[g4 hc.1,hc.2]
  have e2:h.toNat-l.toNat=0:=by omega
  rw[if_pos e1,e2,e1,Nat.sub_self];exact ⟨_,by simp[bm,I.isAgg];rfl,by simp only[ai];exact ⟨ad,rfl⟩⟩
 ·simp only[v6] at hx;subst hx;have hlen:((es.take h.toNat).drop l.toNat).length=h.toNat-l.toNat:=by simp;omega
  refine vK hlen.symm (by omega) (by omega) ?_ (fun y hy=>hall y (zx9 (List.mem_of_mem_drop hy)));by_cases hz:h.toNat=l.toNat
  ·left;exact zv0 (by omega)
  ·right
   rw[if_neg (by omega)];rcases hes with rfl | ⟨b,off,cs,rfl,q1,q2⟩
   ·simp at b4 g3;omega
   ·obtain ⟨c2,q3,q4⟩:=age q1 q2 hall l.toNat h.toNat (by omega) (by omega);exact ⟨b,off+l.toNat*sz,c2,by simp[n9,hsz],q3,q4⟩
theorem yQ{t e:TypeId}{y:Operand}{y':aJ}{lo hi mx:Option Operand}{lo' hi' mx':Option aJ}{i:TypeInfo}{es:List I}(ho:o.op=.slice t y lo hi mx)(hu:c.P.underlying t=some (.slice e))(hi0:c.P.info? e=some i)
  (hy:ba c.P 0 y=some y') (h1:jA c.P lo=some lo') (h2:jA c.P hi=some hi') (h3:jA c.P mx=some mx') (hmh:mx'.isSome=true→hi'.isSome=true)
  (h:aj A y'=.slice (c.P.cellsOf e) es∨(aj A y'=.nils (c.P.cellsOf e)∧es=[])∨(aj A y'=.c0 (c.P.cellsOf e)∧es=[])) (hx:jO (c.P.cellsOf e) es (lo'.map (aj A)) (hi'.map (aj A)) (mx'.map (aj A))=some x):c8 c A o x :=
 .same fun a w D E hs=>by
  have opt:∀ {q:Option Operand} {q':Option aJ},jA c.P q=some q'→jo w D E (q'.map (aj A)) (q.map a.eval):=by
   intro q q' hq;cases q with
   |none=>simp only[jA,v6] at hq;subst hq;simp[jo]
   |some z =>
    simp only[jA,t8] at hq;obtain ⟨z',hz,rfl⟩:=hq;simpa[jo] using bz hs hz
  have h0:=bz hs hy;have hmh':(mx'.map (aj A)).isSome=true→(hi'.map (aj A)).isSome=true:=by simpa using hmh
  rcases h with h | ⟨h,rfl⟩ | ⟨h,rfl⟩
  ·rw[h] at h0;obtain ⟨ad,cap,e1,e2,e3,e4,e5⟩:=mL h0;obtain ⟨v,k1,k2⟩:=Ae hu hi0 rfl hmh' (opt h1) (opt h2) (opt h3) hx e2 e3 e4 e5;exact ⟨v,by simp only[execOp,ho,e1,Sem.run_bind,k1];rfl,k2⟩
  ·rw[h] at h0;obtain ⟨cs,q1,q2⟩:=h0;simp only[ai] at q2;have e1:a.eval y=.slice none ([]:List I).length 0:=by simpa[bm,I.isAgg,q2] using q1.symm
   obtain ⟨v,k1,k2⟩:=Ae (ad:=none) (cap:=0) hu hi0 rfl hmh' (opt h1) (opt h2) (opt h3) hx (by simp) (by simp[maxLen]) (.inl rfl) (by simp);exact ⟨v,by simp only[execOp,ho,e1,Sem.run_bind,k1];rfl,k2⟩
  ·rw[h] at h0;obtain ⟨cs,q1,q2⟩:=h0;simp only[ai] at q2;obtain ⟨ad,q2⟩:=q2;have e1:a.eval y=.slice ad ([]:List I).length 0:=by simpa[bm,I.isAgg,q2] using q1.symm
   obtain ⟨v,k1,k2⟩:=Ae (ad:=ad) (cap:=0) hu hi0 rfl hmh' (opt h1) (opt h2) (opt h3) hx (by simp) (by simp[maxLen]) (.inl rfl) (by simp);exact ⟨v,by simp only[execOp,ho,e1,Sem.run_bind,k1];rfl,k2⟩
end
inductive fe {α β:Type} (R:α→β→Prop):List α→List β→Prop where
 |nil:fe R [] []
 |cons {x:α} {y:β} {xs:List α} {ys:List β} : R x y→fe R xs ys→fe R (x::xs) (y::ys)
section
variable {c:cP} {A:af} {o:Oper} {x:I}
theorem agd{w:World}{D:aO}{E:aU}{xs:List I}{cs ds:List Value}{i:Nat}{x y:I}(h:aK w D E xs cs)(hx:xs[i]?=some x)(hy:ai w D E y ds)(hs:y.size=x.size) :
  I.sizes (xs.take i)+ds.length≤cs.length∧aK w D E (xs.set i y) (cs.take (I.sizes (xs.take i))++ds++cs.drop (I.sizes (xs.take i)+ds.length)):=by
 obtain ⟨c1,c2,c3,rfl,h1,h2,h3,h4⟩:=nC xs cs i x h hx;have hi:i<xs.length:=(zy4.1 hx).1;have hl:ds.length=c2.length:=by rw[ai.length _ _ hy,ai.length _ _ h3,hs]
 refine ⟨by simp only[zz1,h1];omega,?_⟩;have e1:xs.set i y=xs.take i++y::xs.drop (i+1):=by rw[List.set_eq_take_append_cons_drop];simp[hi]
 have e2:(c1++c2++c3).take (I.sizes (xs.take i))++ds++(c1++c2++c3).drop (I.sizes (xs.take i)+ds.length)=c1++(ds++c3):=by
  rw[←h1,hl,zz7 c1 c2 c3,zu8,List.drop_length_add_append,List.drop_left,zz7]
 rw[e1,e2];refine kv _ _ _ _ h2 ?_;simp only[aK];exact ⟨ds,c3,rfl,hy,h4⟩
theorem SH(off:Nat)(l:List Value)(cs:Array Value)(h:off+l.length≤cs.size) :
  ((l.zipIdx 0).foldl (fun cs (x:Value×Nat)=>cs.setIfInBounds (off+x.2) x.1) cs).toList=cs.toList.take off++l++cs.toList.drop (off+l.length):=by
 obtain ⟨h1,h2⟩:=Great.foldl_set off l 0 cs;apply List.ext_getElem?;intro k;rw[zw0,h2 k];simp only[Nat.add_zero,zz7];by_cases hk:k<off
 ·rw[if_neg (by omega),zx0 (by simp;omega)];simp[hk]
 ·rw[zv7 (by simp;omega)];simp only[zz6,zw5,Nat.min_eq_left (show off≤cs.size by omega)];by_cases hk2:k<off+l.length
  ·rw[if_pos ⟨by omega,by omega,by omega⟩,zx0 (by omega)]
  ·rw[if_neg (by omega),zv7 (by omega)];simp only[List.getElem?_drop,zw0]
   congr 1
   omega
theorem yl{w:World}{D:aO}{E:aU}(pl:Nat→Option (Nat×Nat)):∀ (ps:List (Nat×I)) (vs:List (Nat×Value)) (zs zs':List I) (cells:Array Value),
  (∀ i z,zs[i]?=some z→pl i=some (I.sizes (zs.take i),z.size))→aK w D E zs cells.toList→fi zs ps=some zs' →
  fe (fun (p:Nat×I) (v:Nat×Value)=>p.1=v.1∧aV w D E p.2 v.2) ps vs →
  ∃ cells',Instr.fill pl cells vs=some cells'∧aK w D E zs' cells'.toList
 | [],vs,zs,zs',cells,hp,hr,hs,hf=>by
  cases hf;simp only[fi,v6] at hs;subst hs;exact ⟨cells,rfl,hr⟩
 |(i,y)::ps,vs,zs,zs',cells,hp,hr,hs,hf=>by
  cases hf with
  |cons h1 h2 =>
   rename_i v vs;obtain ⟨j,u⟩:=v;simp only at h1;obtain ⟨rfl,ae⟩:=h1;simp only[fi] at hs;split at hs
   ·rename_i z hz;split at hs
    ·rename_i hsz;obtain ⟨hval,hsz⟩:=hsz;obtain ⟨ds,k1,k2⟩:∃ ds,bm y u ds∧ai w D E y ds:=by
      cases y <;>simp[I.cm] at hval <;>exact ae
     have hcells:=k1.cells k2;have hds:u.cells.size=z.size:=by rw[←zw5,hcells,ai.length _ _ k2,hsz]
     obtain ⟨k3,k4⟩:=agd hr hz k2 hsz;have hcl:cells.toList.length=cells.size:=zw5;have hl:ds.length=u.cells.size:=by rw[←hcells,zw5]
     have hp':∀ k z',(zs.set i y)[k]?=some z'→pl k=some (I.sizes ((zs.set i y).take k),z'.size):=by
      intro k z' hk;have hil:i<zs.length:=(zy4.1 hz).1;have hsizes:∀ k,I.sizes ((zs.set i y).take k)=I.sizes (zs.take k):=by
       intro k;have gen:∀ (zs:List I) (i k:Nat) (z:I),zs[i]?=some z→z.size=y.size→I.sizes ((zs.set i y).take k)=I.sizes (zs.take k):=by
        intro zs
        induction zs with
        |nil=>intro i k z hz _;simp at hz
        |cons q qs ih =>
         intro i k z hz he;cases k with
         |zero=>simp
         |succ k =>
          cases i with
          |zero =>
           simp only[List.getElem?_cons_zero,v6] at hz;subst hz;simp[I.sizes,he]
          |succ i =>
           simp only[List.set_cons_succ,List.take_succ_cons,I.sizes,ih i k z (by simpa using hz) he]
       exact gen zs i k z hz hsz.symm
      rw[hsizes];rw[List.getElem?_set] at hk;split at hk
      ·rename_i hik;subst hik;simp only[v6] at hk;subst hk;rw[hp i z hz,hsz]
      ·exact hp k z' hk
     have hfold:=SH (I.sizes (zs.take i)) u.cells.toList cells (by rw[hcells];omega);rw[hcells] at hfold;obtain ⟨cells',k5,k6⟩:=yl pl ps vs (zs.set i y) zs' ((u.cells.toList.zipIdx 0).foldl (fun cs (x:Value×Nat)=>cs.setIfInBounds (I.sizes (zs.take i)+x.2) x.1) cells) hp'
      (by rw[hcells,hfold];exact k4) hs h2
     refine ⟨cells',?_,k6⟩;unfold Instr.fill;simp only[hp i z hz];rw[if_neg (by simp[hds];omega)];rw[←k5]
     congr 1
     rw[←Array.foldl_toList,Array.toList_zipIdx]
    ·cases hs
   ·cases hs
theorem GY{a:Act}{w:World}{D:aO}{E:aU}(hs:aT c A a w D E){P:Program} : ∀ (ps:List (Nat×Operand)) (qs:List (Nat×aJ)),me P ps=some qs →
  fe (fun (p:Nat×I) (v:Nat×Value)=>p.1=v.1∧aV w D E p.2 v.2) (qs.map fun p=>(p.1,aj A p.2)) (ps.map fun p=>(p.1,a.eval p.2))
 | [],qs,h=>by simp[me] at h;subst h;exact .nil
 |(i,x)::ps,qs,h=>by
  simp only[me,List.mapM_cons,Option.bind_eq_bind,Option.pure_def,zu1,t8,v6] at h;obtain ⟨_,⟨y,hy,rfl⟩,qs',hq,rfl⟩:=h;exact .cons ⟨rfl,bz hs hy⟩ (GY hs ps qs' hq)
theorem E7{t:TypeId}{parts:Array (Nat×Operand)}{ps:List (Nat×aJ)}{zs zs':List I}(ho:o.op=.build t parts)(hz:gi c.P t=some (.agg zs))(hp:me c.P parts.toList=some ps)
  (hpl:(∃ fs,c.P.underlying t=some (.struct fs)∧(fs.toList.map fun f=>(f.offset,c.P.cellsOf f.type))=mH 0 zs∧(fs.all fun f=>(c.P.info? f.type).isSome)=true) ∨
   (∃ n e,c.P.underlying t=some (.array n e)∧zs.length=n∧(zs.all fun z=>z.size==c.P.cellsOf e)=true∧(c.P.info? e).isSome=true))
  (h:fi zs (ps.map fun p=>(p.1,aj A p.2))=some zs'):c8 c A o (.agg zs') :=
 .same fun a w D E hs=>by
  obtain ⟨i,z,hi,hzv,hzr⟩:=lY hz;have hzr:=hzr w D E;simp only[ai] at hzr;have hparts:=GY hs parts.toList ps hp;have hmap:(parts.map fun (q:Nat×Operand)=>(q.1,a.eval q.2)).toList=parts.toList.map fun p=>(p.1,a.eval p.2):=by simp
  rcases hpl with ⟨fs,hu,hoffs,hinfo⟩ | ⟨n,e,hu,hn,hev,hinfo⟩
  ·have hpl:∀ i z,zs[i]?=some z→(mH 0 zs)[i]?=some (I.sizes (zs.take i),z.size):=by
    intro i z hiz;rw[G2,hiz];simp
   obtain ⟨cells',k1,k2⟩:=yl ((mH 0 zs)[·]?) _ _ zs zs' z.cells hpl hzr h hparts;have hm:fs.toList.mapM (fun f=>(c.P.info? f.type).map fun i=>(f.offset,i.size))=some (mH 0 zs):=by
    rw[←hoffs];have hall:∀ f∈fs.toList,(c.P.info? f.type).isSome=true:=fun f hf=>by
     have:=(Array.all_eq_true_iff_forall_mem.1 hinfo) f (by simpa using hf);exact this
    revert hall;generalize fs.toList=l;intro hall
    induction l with
    |nil=>rfl
    |cons f l ih =>
     obtain ⟨j,hj⟩:=zx3.1 (hall f (by simp));simp only[List.mapM_cons,Option.bind_eq_bind,hj,zy5,zu4,ih (fun g hg=>hall g (by simp[hg])),Option.pure_def,zz9,Program.cellsOf,Option.getD_some]
   have hb:c.P.built t (parts.map fun (q:Nat×Operand)=>(q.1,a.eval q.2)).toList=some cells':=by
    unfold Program.built;simp only[hi,hu,hzv,hm];rw[hmap,←k1]
    congr 1
    funext k
    simp
   exact ⟨.agg cells',by simp only[execOp,ho,Sem.run_bind,run_build w t _ _ hb];rfl,by have:=Ge k2;simpa using this⟩
  ·obtain ⟨ie,hie⟩:=zx3.1 hinfo;have hev':∀ z∈zs,z.size=ie.size:=fun z hz=>by
    have:=zx1.1 hev z hz;simpa[Program.cellsOf,hie] using this
   have hpl:∀ i z,zs[i]?=some z→(fun i=>some (i*ie.size,ie.size)) i=some (I.sizes (zs.take i),z.size):=by
    intro i z hiz;have hl:i<zs.length:=(zy4.1 hiz).1;rw[pT zs i hev' (by omega),hev' z (List.mem_of_getElem? hiz)]
   obtain ⟨cells',k1,k2⟩:=yl (fun i=>some (i*ie.size,ie.size)) _ _ zs zs' z.cells hpl hzr h hparts;have hb:c.P.built t (parts.map fun (q:Nat×Operand)=>(q.1,a.eval q.2)).toList=some cells':=by
    unfold Program.built;simp only[hi,hu,hzv,hie];rw[hmap,←k1]
   exact ⟨.agg cells',by simp only[execOp,ho,Sem.run_bind,run_build w t _ _ hb];rfl,by have:=Ge k2;simpa using this⟩
theorem ma{a:Act}{w:World}{D:aO}{E:aU}(hs:aT c A a w D E){P:Program} : ∀ (xs:List Operand) (ts:List TypeId) (ys:List aJ),lr P xs ts=some ys →
  fe (aV w D E) (ys.map (aj A)) (xs.map a.eval)
 | [],_,ys,h=>by simp[lr] at h;subst h;exact .nil
 |x::xs,ts,ys,h=>by
  simp only[lr] at h;split at h
  ·rename_i y ys' h1 h2;simp only[v6] at h;subst h;exact .cons (bz hs h1) (ma hs xs _ ys' h2)
  ·cases h
theorem mM{w:World}{D:aO}{E:aU} : ∀ (xs:List I) (vs:List Value),fe (aV w D E) xs vs→(∀ x∈xs,x.cm=true)→aD w D E xs vs
 | [],vs,h,_=>by cases h;simp[aD]
 |x::xs,vs,h,ae=>by
  cases h with
  |cons h1 h2 =>
   rename_i v vs;have hx:=ae x (by simp);obtain ⟨cs,k1,k2⟩:∃ cs,bm x v cs∧ai w D E x cs:=by
    cases x <;>simp[I.cm] at hx <;>exact h1
   simp only[aD];exact ⟨v,vs,cs,rfl,k1,k2,mM xs vs h2 (fun y hy=>ae y (by simp[hy]))⟩
theorem sC{aG:Bool}{B:af} : ∀ {xs ys:List I},bO aG B xs=some ys→∀ x∈xs,x.cm=true
 | [],ys,_,x,hx=>by simp at hx
 |y::xs,ys,h,x,hx=>by
  simp only[bO] at h;split at h
  ·rename_i z zs h1 h2;rcases zx7.1 hx with rfl | hx
   ·cases x <;>simp_all[bh,I.cm]
   ·exact sC h2 x hx
  ·cases h
theorem acN{f:FuncId}(hf:f<1000000){caps:Array Operand}{ys:List aJ}(ho:o.op=.makeFunc (.func f) #[] caps)(hc:lr c.P caps.toList []=some ys)(ae:∀ y∈ys,(aj A y).cm=true):c8 c A o (.func f (ys.map (aj A))) :=
 .same fun a w D E hs=>by
  have h:=mM _ _ (ma hs caps.toList [] ys hc) (by simpa using ae);have e:caps.map a.eval=(caps.toList.map a.eval).toArray:=by apply Array.ext';simp
  refine ⟨.func (.func f) #[] (caps.toList.map a.eval).toArray,by simp[execOp,ho,Instr.makeFunc,e],⟨_,by simp[bm,I.isAgg];rfl,?_⟩⟩;simp only[ai];exact ⟨_,by rw[oq hf],h⟩
theorem acP{f:FuncId}{first:Array Operand}{ys:List aJ}(ho:o.op=.makeFunc (.func f) first #[])(hc:lr c.P first.toList []=some ys)(ae:∀ y∈ys,(aj A y).cm=true):c8 c A o (.func (f+1000000) (ys.map (aj A))) :=
 .same fun a w D E hs=>by
  have h:=mM _ _ (ma hs first.toList [] ys hc) (by simpa using ae);have e:first.map a.eval=(first.toList.map a.eval).toArray:=by apply Array.ext';simp
  refine ⟨.func (.func f) (first.toList.map a.eval).toArray #[],by simp[execOp,ho,Instr.makeFunc,e],⟨_,by simp[bm,I.isAgg];rfl,?_⟩⟩;simp only[ai];exact ⟨_,by rw[sD],h⟩
theorem I2{w:World}{D:aO}{E:aU} : ∀ (xs:List I) (vs:List Value),aD w D E xs vs→aK w D E xs (vs.flatMap fun v=>v.cells.toList)∧vs.length=xs.length∧∀ (sz:Nat),(∀ x∈xs,x.size=sz)→∀ v∈vs,v.cells.size=sz
 | [],vs,h=>by simp only[aD] at h;subst h;simp[aK]
 |x::xs,vs,h=>by
  simp only[aD] at h;obtain ⟨v,rest,cs,rfl,h1,h2,h3⟩:=h;obtain ⟨k1,k2,k3⟩:=I2 xs rest h3;have hc:=h1.cells h2;refine ⟨?_,by simp[k2],fun sz hsz u hu =>?_⟩
  ·simp only[List.flatMap_cons,aK];exact ⟨_,_,rfl,by rw[hc];exact h2,k1⟩
  ·rcases zx7.1 hu with rfl | hu
   ·rw[←zw5,hc,ai.length _ _ h2,hsz x (by simp)]
   ·exact k3 sz (fun y hy=>hsz y (by simp[hy])) u hu
def pO(A:af)(D:aO)(E:aU):aO:=fun b o=>D b o∨∃ n T sz es cap,A.o n=some (.b6 T sz es)∧E n=some (.rw (some (b,cap)) es.length)∧o<es.length*sz
theorem aT.pS{a:Act}{w:World}{D:aO}{E:aU}(h:aT c A a w D E):aT c A a w (pO A D E) E∧jh false A D E (pO A D E):=by
 have hblk:∀ {n T sz es b cap},A.o n=some (.b6 T sz es)→E n=some (.rw (some (b,cap)) es.length)→c.fk b∧b<w.heap.size:=by
  intro n T sz es b cap hn aE;obtain ⟨aL,k1,k2,k3⟩:=h.b6 hn;rw[aE] at k1;simp only[v6,bL.rw.injEq,and_true] at k1;subst k1;obtain ⟨cs,pre,rest,k4,k5,_⟩:=k3;exact ⟨k4,fG k5⟩
 refine ⟨h.JS (fun _ _ hd=>.inl hd) ?_ ?_ ?_ ?_ ?_ ?_,⟨fun _ _ hd=>.inl hd,fun n T sz es b cap hn aE o ho=>.inr ⟨n,T,sz,es,cap,hn,aE,ho⟩,(fun hb=>by cases hb),fun hb=>by cases hb⟩⟩
 ·rintro b o (hd | ⟨n,T,sz,es,cap,hn,aE,ho⟩) hlt
  ·exact h.df _ _ hd hlt
  ·exact absurd (hblk hn aE).1 hlt
 ·rintro b o (hd | ⟨n,T,sz,es,cap,hn,aE,ho⟩)
  ·exact h.dy _ _ hd
  ·exact (hblk hn aE).2
 ·rintro m x b hm hEm o (hd | ⟨n,T,sz,es,cap,hn,aE,ho⟩)
  ·obtain ⟨b2,cs2,T2,q1,q2,q3,q4,q5⟩:=h.box hm;rw[q1] at hEm;simp only[v6,bL.aG.injEq,and_true] at hEm;subst hEm;exact q5 o hd
  ·have:=h.cV m n _ _ b hEm aE rfl rfl;subst this;rw[hm] at hn;cases hn
 ·rintro m T' sz' es' b cap' hm hEm o (hd | ⟨n,T,sz,es,cap,hn,aE,ho⟩)
  ·obtain ⟨aL,q1,q2,q3⟩:=h.b6 hm;rw[hEm] at q1;simp only[v6,bL.rw.injEq,and_true] at q1;subst q1;obtain ⟨cs',pre',rest',q4,q5,q6,q7,q8,q9,q10,q11⟩:=q3;have:=q11 o hd
   rwa [aK.length _ _ q7,I.iJ _ q2] at this
  ·have:=h.cV m n _ _ b hEm aE rfl rfl;subst this;rw[hm] at hn;simp only[v6,al.b6.injEq] at hn;obtain ⟨rfl,rfl,rfl⟩:=hn;exact ho
 ·rintro m T' xs b cap' hm hEm o (hd | ⟨n,T,sz,es,cap,hn,aE,ho⟩)
  ·obtain ⟨aL,q1,_,q3⟩:=h.AP hm;rw[hEm] at q1;simp only[v6,bL.rw.injEq,and_true] at q1;subst q1;obtain ⟨_,_,_,_,_,_,_,_,q4⟩:=q3;exact q4 o hd
  ·have:=h.cV m n _ _ b hEm aE rfl rfl;subst this;rw[hm] at hn;cases hn
 ·rintro m e' b hE' hoth hblk o (hd | ⟨n,T,sz,es,cap,hn,aE,ho⟩)
  ·exact h.zJ hE' hoth hblk o hd
  ·have:=h.cV m n _ _ b hE' aE hblk rfl;subst this;rw[hE'] at aE;cases aE;cases hoth
theorem GZ{a:Act}{w:World}{D:aO}{E:aU}(hs:aT c A a w D E){P:Program} : ∀ (ps:List (Nat×Operand)) (qs:List (Nat×aJ)),me P ps=some qs →
  fe (aV w D E) ((qs.map (·.2)).map (aj A)) (ps.map fun p=>a.eval p.2)∧qs.map (·.1)=ps.map (·.1)
 | [],qs,h=>by simp[me] at h;subst h;exact ⟨.nil,rfl⟩
 |(i,x)::ps,qs,h=>by
  simp only[me,List.mapM_cons,Option.bind_eq_bind,Option.pure_def,zu1,t8,v6] at h;obtain ⟨_,⟨y,hy,rfl⟩,qs',hq,rfl⟩:=h;obtain ⟨h1,h2⟩:=GZ hs ps qs' hq;exact ⟨.cons (bz hs hy) h1,by simp[h2]⟩
theorem aT.newRow{a:Act}{w:World}{D:aO}{E:aU}(h:aT c A a w D E)(o:Obj):aT c A a (w.alloc o) (fun b k=>D b k∨b=w.heap.size) E:=by
 refine h.grow (kL w o) (fun _ _ hd=>.inl hd) ?_ ?_
 ·rintro b k (hd | rfl) hlt
  ·exact hd
  ·omega
 ·rintro b k (hd | rfl)
  ·have:=h.dy _ _ hd;simp;omega
  ·simp
theorem ahZ{α:Type}(ps:List (Nat×α))(h:ps.map (·.1)=List.range ps.length):ps=((ps.map (·.2)).zipIdx 0).map fun x=>(x.2,x.1):=by
 apply List.ext_getElem?;intro k;rw[zx8,List.getElem?_zipIdx,zx8];cases hk:ps[k]? with
 |none=>simp
 |some p =>
  have hl:k<ps.length:=(zy4.1 hk).1;have:=congrArg (·[k]?) h;simp only[zx8,hk,zy5,List.getElem?_range hl,v6] at this;simp[←this]
theorem acv{t e:TypeId}{len:Nat}{parts:Array (Nat×Operand)}{ps:List (Nat×aJ)}{es:List I}(ho:o.op=.buildSlice t len parts)(hu:c.P.underlying t=some (.slice e))(hp:me c.P parts.toList=some ps)
  (hr:ps.map (·.1)=List.range len) (h0:0<c.P.cellsOf e) (hlen:0<len) (hsm:len*c.P.cellsOf e≤16777216) (hz:((c.P.info? e).bind (·.zero)).isSome=true)
  (hes:bO false A ((ps.map (·.2)).map (aj A))=some es) (hev:∀ x∈es,x.size=c.P.cellsOf e) (hcl:I.cG es=true):c8 c A o (.slice (c.P.cellsOf e) es):=by
 intro a w D E hs;obtain ⟨hfor,hidx⟩:=GZ hs parts.toList ps hp;obtain ⟨hs1,hw⟩:=hs.pS;have hrv:=ni (E':=E) hs (fun _ _ h=>h) hw _ es _ (mM _ _ hfor (sC hes)) hes;obtain ⟨k1,k2,k3⟩:=I2 es _ hrv;have k3:=k3 _ hev;have hl:parts.toList.length=len:=by
  have:=congrArg List.length hidx;rw[hr] at this;simpa using this.symm
 have hesl:es.length=len:=by rw[←k2];simp[hl]
 obtain ⟨z,hz⟩:=zx3.1 hz;obtain ⟨ie,hie,hzz⟩:=zu1.1 hz;have hsz:ie.size=c.P.cellsOf e:=by simp[Program.cellsOf,hie]
 -- the literal's cells
 have hfill:Instr.fill (fun i=>some (i*ie.size,ie.size)) ((Array.range (len*ie.size)).map (z.cells[· % z.cells.size]!)) (parts.map fun (q:Nat×Operand)=>(q.1,a.eval q.2)).toList =
   some ((parts.toList.map fun p=>a.eval p.2).flatMap fun v=>v.cells.toList).toArray:=by
  have hpz:(parts.map fun (q:Nat×Operand)=>(q.1,a.eval q.2)).toList=((parts.toList.map fun p=>a.eval p.2).zipIdx 0).map fun x=>(x.2,x.1):=by
   have:=ahZ (parts.toList.map fun (q:Nat×Operand)=>(q.1,a.eval q.2)) (by simp only[List.map_map,zz3];rw[hl,←hr,hidx];rfl);rw[Array.toList_map,this,List.map_map];rfl
  rw[hpz,hsz];exact Great.fill_whole h0 _ _ (fun v ae=>k3 v ae) (by simp[hl])
 have hrun:=run_buildSlice (P:=c.P) w t e len (parts.map fun (q:Nat×Operand)=>(q.1,a.eval q.2)) _ ie z hu hie hzz (by rw[hsz];omega) (by rw[hsz];exact Nat.ne_of_gt (Nat.mul_pos hlen h0)) hfill;generalize hcells:((parts.toList.map fun p=>a.eval p.2).flatMap fun v=>v.cells.toList)=cells at *;have hs2:=hs1.newRow (.cells cells.toArray e);refine ⟨_,_,_,by simp only[execOp,ho,Sem.run_bind];rw[hrun];rfl,hs2,vK hesl.symm (zy1 _) ?_ (.inr ⟨w.heap.size,0,cells,rfl,?_,?_⟩) hev⟩
 ·unfold maxLen;have:len≤len*c.P.cellsOf e:=Nat.le_mul_of_pos_right _ h0;omega
 ·intro j v hj;refine ⟨?_,.inr rfl⟩;rw[zz4];have:=World.cell?_alloc_new w cells.toArray e j;rw[this];simpa using hj
 ·refine aK.later ?_ es cells k1;exact ej.grow (kL w _) (fun _ _ hd=>.inl hd)
end
mutual
theorem qA:∀ (ty:cK) (x y:I) (r:Bool),cA ty x y=some r→x.size=ty.size∧y.size=ty.size
 | .i k,x,y,r,h=>by
  simp only[cA] at h;split at h
  ·simp[I.size,cK.size]
  ·cases h
 | .b,x,y,r,h=>by
  simp only[cA] at h;split at h
  ·simp[I.size,cK.size]
  ·cases h
 | .s,x,y,r,h=>by
  simp only[cA] at h;split at h
  ·simp[I.size,cK.size]
  ·cases h
 | .aS l,x,y,r,h=>by
  simp only[cA] at h;split at h
  ·simp only[I.size,cK.size];exact D7 l _ _ r h
  ·cases h
 | .sc n e,x,y,r,h=>by
  simp only[cA] at h;split at h
  ·rename_i fs gs;split at h
   ·rename_i hl;simp only[I.size,cK.size];have:∀ (fs gs:List I) (r:Bool),fs.length=gs.length→(fs.zip gs).foldr (fun p acc=>jT (cA e p.1 p.2) acc) (some true)=some r→I.sizes fs=fs.length*e.size∧I.sizes gs=fs.length*e.size:=by
     intro fs
     induction fs with
     |nil=>intro gs r hl _;cases gs with | nil=>simp[I.sizes] | cons _ _=>simp at hl
     |cons f fs ih =>
      intro gs r hl h;cases gs with
      |nil=>simp at hl
      |cons g gs =>
       simp only[List.zip_cons_cons,List.foldr_cons] at h;unfold jT at h;split at h
       ·rename_i a b h1 h2;obtain ⟨k1,k2⟩:=ih gs b (by simpa using hl) h2;obtain ⟨k3,k4⟩:=qA e f g a h1;simp only[I.sizes,zx5,k1,k2,k3,k4,Nat.add_mul,Nat.one_mul];omega
       ·cases h
    obtain ⟨k1,k2⟩:=this fs gs r (by omega) h;rw[k1,k2,hl.1];exact ⟨rfl,rfl⟩
   ·cases h
  ·cases h
theorem D7:∀ (l:List cK) (xs ys:List I) (r:Bool),iS l xs ys=some r→I.sizes xs=cK.sizes l∧I.sizes ys=cK.sizes l
 | [],xs,ys,r,h=>by
  simp only[iS] at h;split at h
  ·simp[I.sizes,cK.sizes]
  ·cases h
 |t::ts,xs,ys,r,h=>by
  simp only[iS] at h;split at h
  ·rename_i f fs g gs;unfold jT at h;split at h
   ·rename_i a b h1 h2;obtain ⟨k1,k2⟩:=qA t f g a h1;obtain ⟨k3,k4⟩:=D7 ts fs gs b h2;simp only[I.sizes,cK.sizes,k1,k2,k3,k4];exact ⟨trivial,trivial⟩
   ·cases h
  ·cases h
end
section
variable {P:Program} {w:World} {D:aO} {E:aU}
theorem xZ{d:Nat}{t:TypeId}{ty:cK}(h:hE P d t=some ty)(hs:ty.size=P.cellsOf t){x y:I}{r:Bool}(hr:cA ty x y=some r):∃ s,fZ P t=some s∧bS s x=true∧bS s y=true:=by
 have hsz:=qA ty x y r hr;cases d with
 |zero=>simp[hE] at h
 |succ d =>
  simp only[hE] at h;split at h
  ·rename_i k hu;simp only[v6] at h;subst h;simp only[cA] at hr;split at hr
   ·exact ⟨none,by simp[fZ,hu],by simp[bS,I.isAgg],by simp[bS,I.isAgg]⟩
   ·cases hr
  ·rename_i hu;simp only[v6] at h;subst h;simp only[cA] at hr;split at hr
   ·exact ⟨none,by simp[fZ,hu],by simp[bS,I.isAgg],by simp[bS,I.isAgg]⟩
   ·cases hr
  ·rename_i hu;simp only[v6] at h;subst h;simp only[cA] at hr;split at hr
   ·exact ⟨none,by simp[fZ,hu],by simp[bS,I.isAgg],by simp[bS,I.isAgg]⟩
   ·cases hr
  ·rename_i fs hu;split at h
   ·simp only[t8] at h;obtain ⟨l,_,rfl⟩:=h;simp only[cA] at hr;split at hr
    ·exact ⟨some (P.cellsOf t),by simp[fZ,hu],by simp[bS,I.isAgg,hsz.1,hs],by simp[bS,I.isAgg,hsz.2,hs]⟩
    ·cases hr
   ·cases h
  ·rename_i n e hu;split at h
   ·split at h
    ·simp only[v6] at h;subst h;simp only[cA] at hr;split at hr
     ·exact ⟨some (P.cellsOf t),by simp[fZ,hu],by simp[bS,I.isAgg,hsz.1,hs],by simp[bS,I.isAgg,hsz.2,hs]⟩
     ·cases hr
    ·cases h
   ·cases h
  ·cases h
theorem D9{k:Nat}{g:Field→Option cK}(hg:∀ (f:Field) (ty:cK),g f=some ty→ty.size=P.cellsOf f.type∧∃ d,hE P d f.type=some ty ∧
   ∀ (x y:I) (u v:Value) (r:Bool),aV w D E x u→aV w D E y v→cA ty x y=some r→(Op.equalIn k f.type u v).run P w=.ok r w) :
  ∀ (fs : List Field) (l : List cK) (xs ys : List I) (r : Bool) (c1 c2 d1 d2 : List Value), fs.mapM g = some l → (∀ f ∈ fs, f.name ≠ "_") → re P c1.length fs = true → c1.length = d1.length →
   aK w D E xs c2→aK w D E ys d2→iS l xs ys=some r→(Op.eqFields k (c1++c2).toArray (d1++d2).toArray fs).run P w=.ok r w
 | [],l,xs,ys,r,c1,c2,d1,d2,hm,_,_,_,_,_,h=>by
  simp at hm;subst hm;simp only[iS] at h;split at h
  ·simp only[v6] at h;subst h;simp[Op.eqFields]
  ·cases h
 |f::fs,l,xs,ys,r,c1,c2,d1,d2,hm,hn,ho,hl,hx,hy,h=>by
  simp only[List.mapM_cons,Option.bind_eq_bind,Option.pure_def,zu1,v6] at hm;obtain ⟨ty,hty,tys,htys,rfl⟩:=hm;simp only[iS] at h;split at h
  case h_2=>cases h
  rename_i x xs y ys;unfold jT at h;split at h
  case h_2=>cases h
  rename_i ra rb h1 h2;simp only[v6] at h;subst h;simp only[aK] at hx hy;obtain ⟨e1,e2,rfl,k1,k2⟩:=hx;obtain ⟨f1,f2,rfl,k3,k4⟩:=hy;obtain ⟨hsz,dd,hd,heq⟩:=hg f ty hty;obtain ⟨s,q1,q2,q3⟩:=xZ hd hsz h1;obtain ⟨u,p1,p2⟩:=pP (c1:=c1) (c3:=e2) q1 q2 k1;obtain ⟨v,p3,p4⟩:=pP (c1:=d1) (c3:=f2) q1 q3 k3;simp only[re,zz0,beq_iff_eq] at ho;have hsx:=qA ty x y ra h1;have hle:e1.length=P.cellsOf f.type:=by rw[ai.length _ _ k1,hsx.1,hsz]
  have hlf:f1.length=P.cellsOf f.type:=by rw[ai.length _ _ k3,hsx.2,hsz]
  have ih:=D9 hg fs tys xs ys rb (c1++e1) e2 (d1++f1) f2 htys (fun g hg=>hn g (by simp[hg])) (by simp only[zz1,hle];exact ho.2) (by simp[hl,hle,hlf]) k2 k4 h2;rw[zz7] at p1 p3;rw[zz7,zz7] at ih;rw[←ho.1] at p1;rw[←hl,←ho.1] at p3;simp only[Op.eqFields,hn f (by simp),ne_eq,not_false_eq_true,if_true,Sem.run_bind,p1,Result.andThen_ok,p3,heq x y u v ra p2 p4 h1];cases ra
  ·simp
  ·simpa using ih
theorem Ea{d:Nat}{e:TypeId}{ty:cK}{dd:Nat}(hty:hE P dd e=some ty)(hsz:ty.size=P.cellsOf e)
  (heq:∀ (x y:I) (u v:Value) (r:Bool),aV w D E x u→aV w D E y v→cA ty x y=some r→(Op.equalIn d e u v).run P w=.ok r w) :
  ∀ (m k:Nat) (xs ys:List I) (c1 c2 d1 d2:List Value) (r:Bool),xs.length=m→ys.length=m→c1.length=k*P.cellsOf e→d1.length=k*P.cellsOf e→aK w D E xs c2→aK w D E ys d2 →
   (xs.zip ys).foldr (fun p acc=>jT (cA ty p.1 p.2) acc) (some true)=some r→(Op.eqItems d e (P.cellsOf e) (c1++c2).toArray (d1++d2).toArray (List.range' k m)).run P w=.ok r w
 |0,k,xs,ys,c1,c2,d1,d2,r,hx,hy,_,_,_,_,h=>by
  have e1:=zv0 hx;subst e1;simp only[List.zip_nil_left,List.foldr_nil,v6] at h;subst h;simp[Op.eqItems]
 |m+1,k,xs,ys,c1,c2,d1,d2,r,hx,hy,hc,hd,hrx,hry,h=>by
  cases xs with
  |nil=>simp at hx
  |cons x xs =>
  cases ys with
  |nil=>simp at hy
  |cons y ys =>
  simp only[List.zip_cons_cons,List.foldr_cons] at h;unfold jT at h;split at h
  case h_2=>cases h
  rename_i ra rb h1 h2;simp only[v6] at h;subst h;simp only[aK] at hrx hry;obtain ⟨e1,e2,rfl,k1,k2⟩:=hrx;obtain ⟨f1,f2,rfl,k3,k4⟩:=hry;obtain ⟨s,q1,q2,q3⟩:=xZ hty hsz h1;obtain ⟨u,p1,p2⟩:=pP (c1:=c1) (c3:=e2) q1 q2 k1;obtain ⟨v,p3,p4⟩:=pP (c1:=d1) (c3:=f2) q1 q3 k3;have hsx:=qA ty x y ra h1;have hle:e1.length=P.cellsOf e:=by rw[ai.length _ _ k1,hsx.1,hsz]
  have hlf:f1.length=P.cellsOf e:=by rw[ai.length _ _ k3,hsx.2,hsz]
  have ih:=Ea hty hsz heq m (k+1) xs ys (c1++e1) e2 (d1++f1) f2 rb (by simpa using hx) (by simpa using hy) (by simp only[zz1,hle,hc,Nat.add_mul,Nat.one_mul]) (by simp only[zz1,hlf,hd,Nat.add_mul,Nat.one_mul]) k2 k4 h2;rw[zz7] at p1 p3;rw[zz7,zz7] at ih;rw[hc] at p1;rw[hd] at p3;simp only[List.range'_succ,Op.eqItems,Sem.run_bind,p1,Result.andThen_ok,p3,heq x y u v ra p2 p4 h1];cases ra
  ·simp
  ·simpa using ih
theorem uR:∀ (d:Nat) (t:TypeId) (ty:cK),hE P d t=some ty→∀ (x y:I) (u v:Value) (r:Bool),aV w D E x u→aV w D E y v→cA ty x y=some r→∀ dep,d≤dep→(Op.equalIn dep t u v).run P w=.ok r w
 |0,t,ty,h,_,_,_,_,_,_,_,_,_,_=>by simp[hE] at h
 |d+1,t,ty,h,x,y,u,v,r,hx,hy,hr,dep,hdep=>by
  obtain ⟨k,rfl⟩:∃ k,dep=k+1:=⟨dep-1,by omega⟩
  simp only[hE] at h;split at h
  ·rename_i kk hu;simp only[v6] at h;subst h;simp only[cA] at hr;split at hr
   ·split at hr
    ·simp only[v6] at hr;subst hr;rw[(ef hx).1,(ef hy).1];rename_i hk;rw[hk.1,hk.2];exact run_equalIn_int w k t kk kk _ _ hu
    ·cases hr
   ·cases hr
  ·rename_i hu;simp only[v6] at h;subst h;simp only[cA] at hr;split at hr
   ·simp only[v6] at hr;subst hr;rw[mJ hx,mJ hy];exact run_equalIn_bool' w k t _ _ hu
   ·cases hr
  ·rename_i hu;simp only[v6] at h;subst h;simp only[cA] at hr;split at hr
   ·simp only[v6] at hr;subst hr;rw[(il hx).1,(il hy).1];exact run_equalIn_string w k t _ _ hu
   ·cases hr
  ·rename_i fs hu;split at h
   ·rename_i hc;simp only[t8] at h;obtain ⟨l,hl,rfl⟩:=h;simp only[cA] at hr;split at hr
    ·obtain ⟨cs,rfl,h1⟩:=j7 hx;obtain ⟨ds,rfl,h2⟩:=j7 hy;have hf:P.fieldsOf t=fs:=by simp[Program.fieldsOf,hu]
     rw[run_equalIn_struct w k t _ _ (by rw[hf];exact hu) hc.1,hf];refine D9 (g:=fun f=>match hE P d f.type with | some ty=>if ty.size=P.cellsOf f.type then some ty else none | none=>none) (fun f ty hg =>?_) fs.toList l _ _ r [] cs [] ds hl (fun f hf =>?_) hc.2.2 rfl h1 h2 hr
     ·split at hg
      ·rename_i ty' hty;split at hg
       ·rename_i hs;simp only[v6] at hg;subst hg;exact ⟨hs,d,hty,fun x y u v r hx hy hr=>uR d f.type _ hty x y u v r hx hy hr k (by omega)⟩
       ·cases hg
      ·cases hg
     ·have:=zx1.1 hc.2.1 f hf;simpa using this
    ·cases hr
   ·cases h
  ·rename_i n e hu;split at h
   ·rename_i ty' hty;split at h
    ·rename_i hc;simp only[v6] at h;subst h;simp only[cA] at hr;split at hr
     ·split at hr
      ·rename_i hl;obtain ⟨cs,rfl,h1⟩:=j7 hx;obtain ⟨ds,rfl,h2⟩:=j7 hy;obtain ⟨i,hi⟩:=zx3.1 hc.2;rw[run_equalIn_array w k _ _ hu hi,List.range_eq_range'];exact Ea hty hc.1 (fun x y u v r hx hy hr=>uR d e _ hty x y u v r hx hy hr k (by omega)) n 0 _ _ [] cs [] ds r hl.1 hl.2 (by simp) (by simp) h1 h2 hr
      ·cases hr
     ·cases hr
    ·cases h
   ·cases h
  ·cases h
end
section
variable {c:cP} {A:af} {o:Oper} {x:I}
theorem agN{P:Program}{w:World}{D:aO}{E:aU}(op:BinOp)(t:TypeId)(x y:Operand){a b:I}{ty:cK}{r:Bool}{u v:Value}(hr:cA ty a b=some r)(hx:aV w D E a u)(hm:P.eqGuardType P.depth t=false) :
  (eqGuard op t x y u v).run P w=.ok () w:=by
 have:u.oneCell'=true∧u≠.nilIface∨∃ cs,u=.agg cs:=by
  cases ty <;>simp only[cA] at hr <;>split at hr <;>first
   |(cases hr;done)
   |(left;rw[(ef hx).1];exact ⟨rfl,by simp⟩)
   |(left;rw[mJ hx];exact ⟨rfl,by simp⟩)
   |(left;rw[(il hx).1];exact ⟨rfl,by simp⟩)
   |(right;obtain ⟨cs,h,_⟩:=j7 hx;exact ⟨_,h⟩)
 rcases this with ⟨h1,h2⟩ | ⟨cs,rfl⟩
 ·exact Ac op t x y h1 h2
 ·cases op <;>cases v <;>simp[eqGuard,run_program,hm]
theorem LC{P:Program}{w:World}{D:aO}{E:aU}{neg:Bool}{t:TypeId}{a b:I}{ty:cK}{r:Bool}{u v:Value}(hr:cA ty a b=some r)(hx:aV w D E a u)(hy:aV w D E b v){dt:Nat}(hdt:dt≤10000)(hty:hE P dt t=some ty) :
  (binOp (if neg then .neq else .eql) t u v).run P w=.ok (.bool (if neg then !r else r)) w:=by
 have he:=uR (w:=w) (D:=D) (E:=E) dt t ty hty a b u v r hx hy hr 10000 hdt;cases ty <;>simp only[cA] at hr <;>split at hr <;>first | (cases hr;done) | skip
 ·rw[(ef hx).1,(ef hy).1] at *;split at hr
  ·rename_i hk;simp only[v6] at hr;subst hr;rw[hk.1,hk.2];cases neg <;>simp[binOp,Op.intCmp,bne]
  ·cases hr
 ·have e1:=mJ hx;have e2:=mJ hy;subst e1 e2;cases neg <;>simp only[binOp,if_true,zy0,if_false] <;>simp[Op.equal,Op.maxDepth,he]
 ·rw[(il hx).1,(il hy).1] at *;simp only[v6] at hr;subst hr;cases neg <;>simp[binOp,Op.stringOp]
 ·obtain ⟨cs,rfl,_⟩:=j7 hx;obtain ⟨ds,rfl,_⟩:=j7 hy;cases neg <;>simp only[if_true,zy0,if_false]
  ·rw[run_eql_struct,he];rfl
  ·rw[run_neq_struct,he];rfl
 ·obtain ⟨cs,rfl,_⟩:=j7 hx;obtain ⟨ds,rfl,_⟩:=j7 hy;cases neg <;>simp only[if_true,zy0,if_false]
  ·rw[run_eql_struct,he];rfl
  ·rw[run_neq_struct,he];rfl
theorem acA{neg:Bool}{t yt:TypeId}{y z:Operand}{y' z':aJ}{ty:cK}{r:Bool}(ho:o.op=.binOp (if neg then .neq else .eql) t y z yt)(hy:ba c.P 0 y=some y')(hz:ba c.P 0 z=some z')(hg:c.P.eqGuardType c.P.depth t=false)
  (hty:hE c.P 12 t=some ty) (h:cA ty (aj A y') (aj A z')=some r):c8 c A o (.bool (if neg then !r else r)) :=
 .same fun a w D E hs=>by
  have h1:=bz hs hy;have h2:=bz hs hz;refine ⟨_,?_,mz _⟩;simp only[execOp,ho,Sem.run_bind,agN _ t y z h h1 hg,Result.andThen_ok,LC h h1 h2 (dt:=12) (by omega) hty];rfl
theorem yP{neg:Bool}{t yt e:TypeId}{y z:Operand}{y':aJ}{sz:Nat}{r:Bool}(ho:o.op=.binOp (if neg then .neq else .eql) t y z yt)(hu:c.P.underlying t=some (.slice e))(hy:ba c.P 0 y=some y')(hz:ba c.P 0 z=some (.c (.nils sz)))
  (h:(∃ s,aj A y'=.nils s∧r=true)∨(∃ s es,aj A y'=.slice s es∧es≠[]∧r=false)∨(∃ n p s lo k,aj A y'=.view n p s lo k∧r=false)):c8 c A o (.bool (if neg then !r else r)) :=
 .same fun a w D E hs=>by
  have h1:=bz hs hy;have h2:aV w D E (.nils sz) (a.eval z):=bz hs hz;have ae:a.eval z=.slice none 0 0:=by
   obtain ⟨cs,q1,q2⟩:=h2;simp only[ai] at q2;simpa[bm,I.isAgg,q2] using q1.symm
  have hu':(∃ ad n cp,a.eval y=.slice ad n cp∧r=ad.isNone):=by
   rcases h with ⟨s,h,rfl⟩ | ⟨s,es,h,hne,rfl⟩ | ⟨n,p,s,lo,k,h,rfl⟩
   ·rw[h] at h1;obtain ⟨cs,q1,q2⟩:=h1;simp only[ai] at q2;exact ⟨none,0,0,by simpa[bm,I.isAgg,q2] using q1.symm,rfl⟩
   ·rw[h] at h1;obtain ⟨ad,cap,e1,_,_,e4,_⟩:=mL h1;rcases e4 with e4 | ⟨b,off,cs,rfl,_,_⟩
    ·exact absurd e4 hne
    ·exact ⟨_,_,_,e1,rfl⟩
   ·rw[h] at h1;obtain ⟨cs,q1,q2⟩:=h1;simp only[ai] at q2;obtain ⟨b,aN,off,l,_,_,_,q2,_⟩:=q2;exact ⟨_,_,_,by simpa[bm,I.isAgg,q2] using q1.symm,rfl⟩
  obtain ⟨ad,n,cp,hyv,rfl⟩:=hu';have he:∀ d,(Op.equalIn (d+1) t (.slice ad n cp) (.slice none 0 0)).run c.P w=.ok ad.isNone w:=fun d=>by
   cases ad <;>simp[Op.equalIn,run_underlying hu]
  refine ⟨.bool (if neg then !ad.isNone else ad.isNone),?_,mz _⟩;cases neg <;>simp only[execOp,ho,hyv,ae,if_true,zy0,if_false,Sem.run_bind,eqGuard] <;>simp[binOp,Op.equal,Op.maxDepth,he]
end
def iq(c:cP)(A:af)(o:Oper)(B:af):Prop :=
 ∀ a w D E,aT c A a w D E→∃ w',((∃ v,(execOp a.eval o).run c.P w=.ok (.value v) w'∧bP c B (a.put o.dst v) w')∨((execOp a.eval o).run c.P w=.ok .skip w'∧bP c B (a.put o.dst undef) w'))
section
variable {c:cP} {A:af} {o:Oper} {x:I}
theorem c8.does(h:c8 c A o x)(hd:∀ k,o.dst=some k→k<c.n):iq c A o (A.aR o.dst x):=by
 intro a w D E hs;obtain ⟨v,w',D',h1,h2,h3⟩:=h a w D E hs;exact ⟨w',.inl ⟨v,h1,D',E,h2.aR hd h3⟩⟩
theorem RG{t:TypeId}{z:I}{d:Nat}(ho:o.op=.alloc t)(hz:gi c.P t=some z)(hd:o.dst=some d)(hn:d<c.n)(hf:A.o d=none):iq c A o ((A.aM d (.box z)).put d (.ptr d [])):=by
 intro a w D E hs;obtain ⟨i,zv,hi,hzv,hzr⟩:=lY hz;have h1:=hs.tc (T:=t) (.inl hn) hf (hzr w D E);have h2:=h1.put (x:=.ptr d []) (v:=.pointer (some ⟨w.heap.size,0,none⟩)) hn ⟨_,by simp[bm,I.isAgg];rfl,by
  simp only[ai,if_true];exact ⟨w.heap.size,z.aN,0,rfl,by cases z.aN <;>simp[cg.off],rfl⟩⟩
 exact ⟨w.alloc (.cells zv.cells t),.inl ⟨.pointer (some ⟨w.heap.size,0,none⟩),by simp[execOp,ho,Instr.alloc,zeroValue,typeInfo,hi,hzv,newVar,newRow],D,_,by rw[hd];exact h2⟩⟩
theorem RM{t:TypeId}{y:Operand}{y':aJ}{d:Nat}(ho:o.op=.box t y)(hy:ba c.P t y=some y')(ae:(aj A y').cm=true)(hd:o.dst=some d)(hn:d<c.n)(hf:A.o d=none) :
  iq c A o ((A.aM d (.box (aj A y'))).put d (.ptr d [])):=by
 intro a w D E hs;obtain ⟨cs,k1,k2⟩:∃ cs,bm (aj A y') (a.eval y) cs∧ai w D E (aj A y') cs:=by
  have h:=bz hs hy;generalize aj A y'=z at *;cases z <;>simp[I.cm] at ae <;>exact h
 have hc:=k1.cells k2;rw[←hc] at k2;have h1:=hs.tc (T:=t) (.inl hn) hf k2;have h2:=h1.put (x:=.ptr d []) (v:=.pointer (some ⟨w.heap.size,0,none⟩)) hn ⟨_,by simp[bm,I.isAgg];rfl,by
  simp only[ai,if_true];exact ⟨w.heap.size,(aj A y').aN,0,rfl,by cases (aj A y').aN <;>simp[cg.off],rfl⟩⟩
 exact ⟨w.alloc (.cells (a.eval y).cells t),.inl ⟨.pointer (some ⟨w.heap.size,0,none⟩),by simp[execOp,ho,Instr.box,newVar,newRow],D,_,by rw[hd];exact h2⟩⟩
theorem RW{t:TypeId}{y z:Operand}{y' z':aJ}{s:Option Nat}{n:Nat}{p:List Nat}{b old:I}(ho:o.op=.store t y z)(hk:fZ c.P t=some s)(hk1:s.isSome=true∨c.P.cellsOf t=1)(hy:ba c.P 0 y=some y')(hz:ba c.P t z=some z')
  (hp:aj A y'=.ptr n p) (hb:A.o n=some (.box b)) (hat:b.at p=some old) (ae:(aj A z').cm=true) (hok:bS s (aj A z')=true) (hsh:(aj A z').aN=old.aN) (hd:o.dst=none) :
  iq c A o (A.aM n (.box (b.dR p (aj A z')))):=by
 intro a w D E hs;have h1:=bz hs hy;rw[hp] at h1;obtain ⟨bb,aN,off,h2,h3,h4⟩:=mK h1;obtain ⟨b',cs,T,k1,k2,k3,k4,k5⟩:=hs.box hb;rw[k1] at h2;simp only[v6,bL.aG.injEq] at h2;obtain ⟨rfl,rfl⟩:=h2;obtain ⟨ds,q1,q2⟩:∃ ds,bm (aj A z') (a.eval z) ds∧ai w D E (aj A z') ds:=by
  have h:=bz hs hz;generalize aj A z'=zz at *;cases zz <;>simp[I.cm] at ae <;>exact h
 have hc:=q1.cells q2;obtain ⟨off',p1,p2,p3,p4⟩:=wj p b old _ _ ds k4 hat q2 hsh;rw[h3,v6] at p1;subst p1;have hl:=ai.length _ _ q2;obtain ⟨i,hi⟩:=vx hk;have hsz:ds.length=c.P.cellsOf t:=by
  cases s with
  |none =>
   simp only[bS,Bool.not_eq_true'] at hok;have:(aj A z').size=1:=by generalize aj A z'=zz at *;cases zz <;>simp_all[I.isAgg,I.size]
   rw[hl,this];rcases hk1 with h | h
   ·cases h
   ·exact h.symm
  |some m =>
   simp only[bS,zz0,beq_iff_eq] at hok;rw[hl,hok.2,za hk]
 have hcs:(a.eval z).cells.size=ds.length:=by rw[←hc,zw5]
 have hrun:=wE c.P b' off T ds 0 cs w k3 (by rw[zw5] at p2;omega) (ai.mD _ _ q2);simp only[Nat.add_zero] at hrun;have hs2:=hs.Ao (y:=b.dR p (aj A z')) (cs':=(cs.toList.take off++ds++cs.toList.drop (off+ds.length)).toArray) hb k1 p4 (by simpa using p3);refine ⟨w.setRow b' (cs.toList.take off++ds++cs.toList.drop (off+ds.length)).toArray,.inr ⟨?_,D,E,?_⟩⟩
 ·have e:(a.eval z).cells.toList=ds:=hc;have hg:¬ (a.eval z).cells.size≠c.P.cellsOf t:=by rw[hcs,hsz];simp
  simp only[execOp,ho,h4,Instr.storeAt,Instr.sureAddr,storeVar,Sem.run_bind,Sem.run_pure,Result.andThen_ok,jb hi,Sem.run_ite,if_neg hg,e,hrun]
 ·rw[hd];exact hs2
end
section
variable {c:cP} {A:af} {a:Act} {w:World} {D:aO} {E:aU}
theorem aT.ED(h:aT c A a w D E){n:Nat}{T:TypeId}{sz cap:Nat}{es ys:List I}{pre news rest:List Value}{cs:Array Value}{aL:Option (Nat×Nat)}(hn:A.o n=some (.b6 T sz es))(aE:E n=some (.rw aL es.length))(hes:aK w D E es pre)
  (hys:aK w D E ys news) (hysz:∀ e∈ys,e.size=sz) (hne:ys≠[]) (hcs:cs.toList=(pre++news)++rest) (hsize:cs.size=cap*sz) (hlen:es.length+ys.length≤cap) (hcap:cap≤maxLen) :
  aT c (A.aM n (.b6 T sz (es++ys))) a (w.drew.alloc (.cells cs T)) D (fun m=>if m=n then some (.rw (some (w.heap.size,cap)) (es.length+ys.length)) else E m):=by
 have hlast:0<ys.length:=zv2.2 hne;have hheap:∀ b,b<w.heap.size→(w.drew.alloc (.cells cs T)).heap[b]?=w.heap[b]?:=fun b hb=>Below.heap_alloc w.drew _ b hb;have hl:ej w D E (w.drew.alloc (.cells cs T)) D (fun m=>if m=n then some (.rw (some (w.heap.size,cap)) (es.length+ys.length)) else E m):=by
  have gf:∀ {m:Nat} {e:bL},E m=some e→e.fm=true→(if m=n then some (.rw (some (w.heap.size,cap)) (es.length+ys.length)) else E m)=some e:=fun {m e} he hfx=>by
   have:m≠n:=fun e=>by rw[e,aE] at he;cases he;cases hfx
   rw[if_neg this];exact he
  refine ⟨fun _ _ h=>h,fun b o v _ ae =>?_,fun m b aN he=>gf he rfl,fun m blk' l he =>?_,fun m b he=>gf he rfl,fun m b he=>gf he rfl,fun b es ck _ hm=>(hheap b (fG hm)).trans hm⟩
  ·rw[World.cell?_of_block (hheap b (World.block_lt_of_cell? w _ ae))];exact ae
  ·by_cases hm:m=n
   ·subst hm;rw[aE] at he;simp only[v6,bL.rw.injEq] at he;exact ⟨_,_,if_pos rfl,by omega,fun e=>by omega⟩
   ·exact ⟨blk',l,by simp only[if_neg hm];exact he,zy1 _,fun _=>rfl⟩
 have hown:=h.bG n;rw[hn] at hown;obtain ⟨blk1,hb1,hb2,_⟩:=hown;refine ⟨h.sz,h.fg.mono fun B _ hB=>(hheap B (zy8.1 hB).1).trans hB,fun t=>aV.later hl (h.eG t),h.dX.trans ⟨rfl,rfl,rfl,by simp,fun k hk=>hheap k (h.old hk)⟩,h.df,fun b o hd'=>by have:=h.dy b o hd';simp;omega,fun m =>?_,?_,fun m e hm =>?_,h.fu,h.cR,h.fO,h.lV hl⟩
 ·simp only[af.aM];by_cases hm:m=n
  ·subst hm;simp only[if_true,dc];refine ⟨some (w.heap.size,cap),by simp,fun e he =>?_,?_⟩
   ·rcases zy6.1 he with he | he
    ·exact hb2 e he
    ·exact hysz e he
   ·refine ⟨cs,pre++news,rest,.inl h.dX.size,heap_alloc_new w.drew _,hcs,?_,hsize,by simpa using hlen,hcap,fun o ho=>absurd (h.dy _ o ho) (Nat.lt_irrefl _)⟩;exact aK.later hl _ _ (kv _ _ _ _ hes hys)
  ·simp only[if_neg hm];exact (h.bG m).later hl (by simp only[if_neg hm]) fun e b he hb=>⟨hheap b (h.gl he hb),fun _ ho=>ho⟩
 ·intro m m' e e' b h1 h2 h3 h4;by_cases hm:m=n <;>by_cases hm':m'=n
  ·rw[hm,hm']
  ·simp only[if_pos hm,v6] at h1;simp only[if_neg hm'] at h2;subst h1;simp only[bL.aL,v6] at h3;have:=h.gl h2 h4;omega
  ·simp only[if_neg hm] at h1;simp only[if_pos hm',v6] at h2;subst h2;simp only[bL.aL,v6] at h4;have:=h.gl h1 h3;omega
  ·simp only[if_neg hm] at h1;simp only[if_neg hm'] at h2;exact h.cV m m' e e' b h1 h2 h3 h4
 ·by_cases hmn:m=n
  ·subst hmn;rcases h.ev _ _ hm with k | ⟨e',k,hle⟩
   ·rw[aE] at k;cases k
   ·rw[aE] at k;cases k;exact .inr ⟨_,if_pos rfl,hle.trans (.inr ⟨_,_,_,_,rfl,rfl,by omega,fun e=>by omega⟩)⟩
  ·simp only[if_neg hmn];exact h.ev _ _ hm
theorem aT.afx(h:aT c A a w D E){n:Nat}{T:TypeId}{sz b cap:Nat}{es ys:List I}{pre news rest:List Value}{cs:Array Value}(hn:A.o n=some (.b6 T sz es))(aE:E n=some (.rw (some (b,cap)) es.length))(hb:w.heap[b]?=some (.cells cs T (0,0)))
  (hcs:cs.toList=pre++rest) (hes:aK w D E es pre) (hys:aK w D E ys news) (hysz:∀ e∈ys,e.size=sz) (hne:ys≠[]) (hsize:cs.size=cap*sz) (hlen:es.length+ys.length≤cap) (hcap:cap≤maxLen) (hD:∀ o,D b o→o<pre.length) (hbase:c.fk b) :
  aT c (A.aM n (.b6 T sz (es++ys))) a (w.setRow b (pre++news++rest.drop news.length).toArray) D (fun m=>if m=n then some (.rw (some (b,cap)) (es.length+ys.length)) else E m):=by
 have hlast:0<ys.length:=zv2.2 hne;have hown:=h.bG n;rw[hn] at hown;obtain ⟨blk1,hb1,hb2,_⟩:=hown;have hnl:news.length=ys.length*sz:=by rw[aK.length _ _ hys,I.iJ _ hysz]
 have hpl:pre.length=es.length*sz:=by rw[aK.length _ _ hes,I.iJ _ hb2]
 have hl:ej w D E (w.setRow b (pre++news++rest.drop news.length).toArray) D (fun m=>if m=n then some (.rw (some (b,cap)) (es.length+ys.length)) else E m):=by
  have gf:∀ {m:Nat} {e:bL},E m=some e→e.fm=true→(if m=n then some (.rw (some (b,cap)) (es.length+ys.length)) else E m)=some e:=fun {m e} he hfx=>by
   have:m≠n:=fun e=>by rw[e,aE] at he;cases he;cases hfx
   rw[if_neg this];exact he
  refine ⟨fun _ _ h=>h,fun b1 o v hd ae =>?_,fun m b aN he=>gf he rfl,fun m blk' l he =>?_,fun m b he=>gf he rfl,fun m b he=>gf he rfl,fun b1 es ck _ hm=>(setRow_other w b b1 _ (fun e=>by rw[e,hb] at hm;cases hm)).trans hm⟩
  ·by_cases hbb:b1=b
   ·subst hbb;have ho:=hD o hd;have h1:=setRow_heap w b1 cs (pre++news++rest.drop news.length).toArray T _ hb;rw[cell_of_row _ b1 o _ T (0,0) h1];rw[cell_of_row _ b1 o _ T (0,0) hb] at ae;have e1:cs[o]?=pre[o]?:=by rw[←zw0,hcs,zx0 ho]
    rw[←ae,e1];simp only[List.getElem?_toArray,zz7];rw[zx0 ho]
   ·rw[xK _ _ _ _ hbb];exact ae
  ·by_cases hm:m=n
   ·subst hm;rw[aE] at he;simp only[v6,bL.rw.injEq] at he;exact ⟨_,_,if_pos rfl,by omega,fun e=>by omega⟩
   ·exact ⟨blk',l,by simp only[if_neg hm];exact he,zy1 _,fun _=>rfl⟩
 refine ⟨h.sz,h.fg.mono fun B _ hB=>(setRow_other w b B _ (fun e=>by rw[e,hb] at hB;cases hB)).trans hB,fun t=>aV.later hl (h.eG t),y5 h.dX hbase _,h.df,fun b1 o hd=>by have:=h.dy b1 o hd;simpa[World.setRow] using this,fun m =>?_,?_,fun m e hm =>?_,h.fu,h.cR,h.fO,h.lV hl⟩
 ·simp only[af.aM];by_cases hm:m=n
  ·subst hm;simp only[if_true,dc];refine ⟨some (b,cap),by simp,fun e he =>?_,?_⟩
   ·rcases zy6.1 he with he | he
    ·exact hb2 e he
    ·exact hysz e he
   ·refine ⟨_,pre++news,rest.drop news.length,hbase,setRow_heap w b cs _ T _ hb,by simp,aK.later hl _ _ (kv _ _ _ _ hes hys),?_,by simpa using hlen,hcap,fun o ho =>?_⟩
    ·have e1:cs.size=pre.length+rest.length:=by rw[←zw5,hcs,zz1]
     have e2:news.length+pre.length≤cs.size:=by
      rw[hsize,hnl,hpl,←Nat.add_mul];exact Nat.mul_le_mul_right _ (by omega)
     simp only[List.size_toArray,zz1,zv3];omega
    ·have:=hD o ho;rw[zz1];omega
  ·simp only[if_neg hm];refine (h.bG m).later hl (by simp only[if_neg hm]) fun e b1 he hb'=>⟨setRow_other w b b1 _ (fun e1=>hm (h.cV m n e _ b he aE (by rw[hb',e1]) rfl)),fun _ ho=>ho⟩
 ·intro m m' e e' b' h1 h2 h3 h4;by_cases hm:m=n <;>by_cases hm':m'=n
  ·rw[hm,hm']
  ·simp only[if_pos hm,v6] at h1;simp only[if_neg hm'] at h2;subst h1;exact absurd (h.cV m' n e' _ b' h2 aE h4 h3) hm'
  ·simp only[if_neg hm] at h1;simp only[if_pos hm',v6] at h2;subst h2;exact absurd (h.cV m n e _ b' h1 aE h3 h4) hm
  ·simp only[if_neg hm] at h1;simp only[if_neg hm'] at h2;exact h.cV m m' e e' b' h1 h2 h3 h4
 ·by_cases hmn:m=n
  ·subst hmn;rcases h.ev _ _ hm with k | ⟨e',k,hle⟩
   ·rw[aE] at k;cases k
   ·rw[aE] at k;cases k;exact .inr ⟨_,if_pos rfl,hle.trans (.inr ⟨_,_,_,_,rfl,rfl,by omega,fun e=>by omega⟩)⟩
  ·simp only[if_neg hmn];exact h.ev _ _ hm
theorem JX(n:Nat):(Builtin.zeroCells #[Value.int .i64 0] n).toList=(List.replicate n (0:Int)).map (Value.int .i64):=by
 simp only[Builtin.zeroCells,List.size_toArray,List.length_singleton,Nat.mul_one,Nat.mod_one,List.map_replicate];apply List.ext_getElem?;intro k;simp[List.getElem?_replicate];by_cases h:k<n
 ·rw[if_pos h,List.getElem?_range h];rfl
 ·rw[if_neg h,List.getElem?_eq_none (by simpa using h)];rfl
theorem IA{w:World}{D:aO}{E:aU} : ∀ {xs:List Int} {cs:List Value},aK w D E (xs.map (I.int .i64)) cs→cs=xs.map (Value.int .i64)∧∀ x∈xs,IntKind.i64.min≤x∧x≤IntKind.i64.max
 | [],cs,h=>by
  simp only[zy9,aK] at h;subst h;exact ⟨rfl,by simp⟩
 |x::xs,cs,h=>by
  simp only[zz9,aK] at h;obtain ⟨c1,c2,rfl,h1,h2⟩:=h;obtain ⟨rfl,h3⟩:=IA h2;have h1':c1=[.int .i64 x]∧IntKind.i64.min≤x∧x≤IntKind.i64.max:=h1;obtain ⟨rfl,h4⟩:=h1';refine ⟨rfl,fun y hy =>?_⟩;rcases zx7.1 hy with rfl | hy
  ·exact h4
  ·exact h3 y hy
theorem aT.EE(h:aT c A a w D E){n:Nat}{T:TypeId}{cap m':Nat}{es ys:List Int}{cs:Array Value}{aL:Option (Nat×Nat)}(hn:A.o n=some (.eN T es))(aE:E n=some (.rw aL es.length))(hr:∀ x∈es++ys,IntKind.i64.min≤x∧x≤IntKind.i64.max)
  (hne:ys≠[]) (hcs:cs.toList=(es++ys++List.replicate m' 0).map (Value.int .i64)) (hlen:es.length+ys.length+m'=cap) (hcap:cap≤maxLen) :
  aT c (A.aM n (.eN T (es++ys))) a (w.drew.alloc (.cells cs T)) D (fun m=>if m=n then some (.rw (some (w.heap.size,cap)) (es.length+ys.length)) else E m):=by
 have hlast:0<ys.length:=zv2.2 hne;have hheap:∀ b,b<w.heap.size→(w.drew.alloc (.cells cs T)).heap[b]?=w.heap[b]?:=fun b hb=>Below.heap_alloc w.drew _ b hb;have hl:ej w D E (w.drew.alloc (.cells cs T)) D (fun m=>if m=n then some (.rw (some (w.heap.size,cap)) (es.length+ys.length)) else E m):=by
  have gf:∀ {m:Nat} {e:bL},E m=some e→e.fm=true→(if m=n then some (.rw (some (w.heap.size,cap)) (es.length+ys.length)) else E m)=some e:=fun {m e} he hfx=>by
   have:m≠n:=fun e=>by rw[e,aE] at he;cases he;cases hfx
   rw[if_neg this];exact he
  refine ⟨fun _ _ h=>h,fun b o v _ ae =>?_,fun m b aN he=>gf he rfl,fun m blk' l he =>?_,fun m b he=>gf he rfl,fun m b he=>gf he rfl,fun b es ck _ hm=>(hheap b (fG hm)).trans hm⟩
  ·rw[World.cell?_of_block (hheap b (World.block_lt_of_cell? w _ ae))];exact ae
  ·by_cases hm:m=n
   ·subst hm;rw[aE] at he;simp only[v6,bL.rw.injEq] at he;exact ⟨_,_,if_pos rfl,by omega,fun e=>by omega⟩
   ·exact ⟨blk',l,by simp only[if_neg hm];exact he,zy1 _,fun _=>rfl⟩
 refine ⟨h.sz,h.fg.mono fun B _ hB=>(hheap B (zy8.1 hB).1).trans hB,fun t=>aV.later hl (h.eG t),h.dX.trans ⟨rfl,rfl,rfl,by simp,fun k hk=>hheap k (h.old hk)⟩,h.df,fun b o hd'=>by have:=h.dy b o hd';simp;omega,fun m =>?_,?_,fun m e hm =>?_,h.fu,h.cR,h.fO,h.lV hl⟩
 ·simp only[af.aM];by_cases hm:m=n
  ·subst hm;simp only[if_true,dc];exact ⟨some (w.heap.size,cap),by simp,hr,cs,m',.inl h.dX.size,heap_alloc_new w.drew _,hcs,by simp[hne],by simp only[zz1];exact hlen,hcap,fun o ho=>absurd (h.dy _ o ho) (Nat.lt_irrefl _)⟩
  ·simp only[if_neg hm];exact (h.bG m).later hl (by simp only[if_neg hm]) fun e b he hb=>⟨hheap b (h.gl he hb),fun _ ho=>ho⟩
 ·intro m m' e e' b h1 h2 h3 h4;by_cases hm:m=n <;>by_cases hm':m'=n
  ·rw[hm,hm']
  ·simp only[if_pos hm,v6] at h1;simp only[if_neg hm'] at h2;subst h1;simp only[bL.aL,v6] at h3;have:=h.gl h2 h4;omega
  ·simp only[if_neg hm] at h1;simp only[if_pos hm',v6] at h2;subst h2;simp only[bL.aL,v6] at h4;have:=h.gl h1 h3;omega
  ·simp only[if_neg hm] at h1;simp only[if_neg hm'] at h2;exact h.cV m m' e e' b h1 h2 h3 h4
 ·by_cases hmn:m=n
  ·subst hmn;rcases h.ev _ _ hm with k | ⟨e',k,hle⟩
   ·rw[aE] at k;cases k
   ·rw[aE] at k;cases k;exact .inr ⟨_,if_pos rfl,hle.trans (.inr ⟨_,_,_,_,rfl,rfl,by omega,fun e=>by omega⟩)⟩
  ·simp only[if_neg hmn];exact h.ev _ _ hm
theorem aT.afy(h:aT c A a w D E){n:Nat}{T:TypeId}{b cap m':Nat}{es ys:List Int}{cs:Array Value}(hn:A.o n=some (.eN T es))(aE:E n=some (.rw (some (b,cap)) es.length))(hb:w.heap[b]?=some (.cells cs T (0,0)))
  (hr:∀ x∈es++ys,IntKind.i64.min≤x∧x≤IntKind.i64.max) (hne:ys≠[]) (hlen:es.length+ys.length+m'=cap) (hcap:cap≤maxLen) (hD:∀ o,¬ D b o) (hbase:c.fk b) :
  aT c (A.aM n (.eN T (es++ys))) a (w.setRow b ((es++ys++List.replicate m' 0).map (Value.int .i64)).toArray) D (fun m=>if m=n then some (.rw (some (b,cap)) (es.length+ys.length)) else E m):=by
 have hlast:0<ys.length:=zv2.2 hne;have hl:ej w D E (w.setRow b ((es++ys++List.replicate m' 0).map (Value.int .i64)).toArray) D (fun m=>if m=n then some (.rw (some (b,cap)) (es.length+ys.length)) else E m):=by
  have gf:∀ {m:Nat} {e:bL},E m=some e→e.fm=true→(if m=n then some (.rw (some (b,cap)) (es.length+ys.length)) else E m)=some e:=fun {m e} he hfx=>by
   have:m≠n:=fun e=>by rw[e,aE] at he;cases he;cases hfx
   rw[if_neg this];exact he
  refine ⟨fun _ _ h=>h,fun b1 o v hd ae =>?_,fun m b aN he=>gf he rfl,fun m blk' l he =>?_,fun m b he=>gf he rfl,fun m b he=>gf he rfl,fun b1 es ck _ hm=>(setRow_other w b b1 _ (fun e=>by rw[e,hb] at hm;cases hm)).trans hm⟩
  ·by_cases hbb:b1=b
   ·subst hbb;exact absurd hd (hD o)
   ·rw[xK _ _ _ _ hbb];exact ae
  ·by_cases hm:m=n
   ·subst hm;rw[aE] at he;simp only[v6,bL.rw.injEq] at he;exact ⟨_,_,if_pos rfl,by omega,fun e=>by omega⟩
   ·exact ⟨blk',l,by simp only[if_neg hm];exact he,zy1 _,fun _=>rfl⟩
 refine ⟨h.sz,h.fg.mono fun B _ hB=>(setRow_other w b B _ (fun e=>by rw[e,hb] at hB;cases hB)).trans hB,fun t=>aV.later hl (h.eG t),y5 h.dX hbase _,h.df,fun b1 o hd=>by have:=h.dy b1 o hd;simpa[World.setRow] using this,fun m =>?_,?_,fun m e hm =>?_,h.fu,h.cR,h.fO,h.lV hl⟩
 ·simp only[af.aM];by_cases hm:m=n
  ·subst hm;simp only[if_true,dc];exact ⟨some (b,cap),by simp,hr,_,m',hbase,setRow_heap w b cs _ T _ hb,by simp,by simp[hne],by simp only[zz1];exact hlen,hcap,hD⟩
  ·simp only[if_neg hm];refine (h.bG m).later hl (by simp only[if_neg hm]) fun e b1 he hb'=>⟨setRow_other w b b1 _ (fun e1=>hm (h.cV m n e _ b he aE (by rw[hb',e1]) rfl)),fun _ ho=>ho⟩
 ·intro m m' e e' b' h1 h2 h3 h4;by_cases hm:m=n <;>by_cases hm':m'=n
  ·rw[hm,hm']
  ·simp only[if_pos hm,v6] at h1;simp only[if_neg hm'] at h2;subst h1;exact absurd (h.cV m' n e' _ b' h2 aE h4 h3) hm'
  ·simp only[if_neg hm] at h1;simp only[if_pos hm',v6] at h2;subst h2;exact absurd (h.cV m n e _ b' h1 aE h3 h4) hm
  ·simp only[if_neg hm] at h1;simp only[if_neg hm'] at h2;exact h.cV m m' e e' b' h1 h2 h3 h4
 ·by_cases hmn:m=n
  ·subst hmn;rcases h.ev _ _ hm with k | ⟨e',k,hle⟩
   ·rw[aE] at k;cases k
   ·rw[aE] at k;cases k;exact .inr ⟨_,if_pos rfl,hle.trans (.inr ⟨_,_,_,_,rfl,rfl,by omega,fun e=>by omega⟩)⟩
  ·simp only[if_neg hmn];exact h.ev _ _ hm
end
section
variable {c:cP} {A:af} {o:Oper}
theorem RH{t e:TypeId}{s x:Operand}{s' x':aJ}{n k sz:Nat}{es ys:List I}{z:I}(ho:o.op=.call { callee:=.builtin .append,args := #[s,x],argTypes := #[t,t] })(ht:c.P.underlying t=some (.slice e))(hs':ba c.P t s=some s')(hx':ba c.P t x=some x')
  (hz:gi c.P e=some z) (hzs:z.size=c.P.cellsOf e) (hpos:0<c.P.cellsOf e) (hs:aj A s'=.own n k) (hn:A.o n=some (.b6 e (c.P.cellsOf e) es)) (hk:k=es.length) (hx:aj A x'=.slice sz ys) (hsz:sz=c.P.cellsOf e) (hne:ys≠[])
  (h63:es.length+ys.length≤maxLen) (hby:(es.length+ys.length)*c.P.bytesOf e≤140737488355328) (hd:∀ k,o.dst=some k→k<c.n) :
  iq c A o ((A.aM n (.b6 e (c.P.cellsOf e) (es++ys))).aR o.dst (.own n (es.length+ys.length))):=by
 intro a w D E hsim;obtain ⟨i,zv,hi,hzv,hzr⟩:=lY hz;have hci:c.P.cellsOf e=i.size:=by simp[Program.cellsOf,hi]
 have hbi:c.P.bytesOf e=i.bytes:=by simp[Program.bytesOf,hi]
 have hzc:zv.cells.size=i.size:=by
  have:=ai.length _ _ (hzr w D E);rw[zw5] at this;rw[this,hzs,hci]
 subst hk;have v1:=bz hsim hs';rw[hs] at v1;have v2:=bz hsim hx';rw[hx] at v2;obtain ⟨ad,cp,hxv,hc1,hc2,hc3,hc4⟩:=mL v2;obtain ⟨b2,off2,news,rfl,hr2,hys⟩:=hc3.resolve_left hne;have hobj:=hsim.bG n;rw[hn] at hobj;obtain ⟨aL,aE,hesz,hblk⟩:=hobj;have hnl:news.length=ys.length*i.size:=by rw[aK.length _ _ hys,I.iJ _ hc4,hsz,hci]
 have hysz:∀ y∈ys,y.size=c.P.cellsOf e:=fun y hy=>by rw[hc4 y hy,hsz]
 have hnews:∀ j v,news[j]?=some v→w.cell? ((⟨b2,off2,none⟩:Addr).add j)=some v:=fun j v hj=>by
  rw[Addr.add_lit];exact (hr2 j v hj).1
 have h1:=aK.mD _ _ hys;have hsv:match aL with | none=>a.eval s=.slice none 0 0 | some (b,cap)=>a.eval s=.slice (some ⟨b,0,none⟩) es.length cap:=by
  obtain ⟨cs,q1,q2⟩:=v1;simp only[ai] at q2;obtain ⟨blk',l,q3,q4,q5,q6⟩:=q2;rw[aE] at q3;simp only[v6,bL.rw.injEq] at q3;obtain ⟨rfl,rfl⟩:=q3;have q7:=q6 rfl;simp only[bm,I.isAgg] at q1;cases aL with
  |none=>simp only at q7 ⊢;rw[q7] at q1;simpa using q1.symm
  |some bc=>simp only at q7 ⊢;rw[q7] at q1;simpa using q1.symm
 have hl0:0<ys.length:=zv2.2 hne;have h63':=h63;simp only[maxLen] at h63';have run:∀ v' w',(Builtin.append_ #[t,t] o.type #[a.eval s,.slice (some ⟨b2,off2,none⟩) ys.length cp]).run c.P w=.ok v' w'→(execOp a.eval o).run c.P w=.ok (.value v') w':=by
  intro v' w' hr;unfold execOp;simp only[ho,resolve,invoke,builtin,Sem.run_bind,Sem.run_pure,Result.andThen_ok,List.map_toArray,zz9,zy9,hxv,hr]
 have put:∀ (w':World) (b cap:Nat) (v':Value),v'=.slice (some ⟨b,0,none⟩) (es.length+ys.length) cap→aT c (A.aM n (.b6 e (c.P.cellsOf e) (es++ys))) a w' D (fun m=>if m=n then some (.rw (some (b,cap)) (es.length+ys.length)) else E m) →
   bP c ((A.aM n (.b6 e (c.P.cellsOf e) (es++ys))).aR o.dst (.own n (es.length+ys.length))) (a.put o.dst v') w':=by
  rintro w' b cap v' rfl hs2;refine ⟨D,_,hs2.aR hd ⟨_,by simp[bm,I.isAgg];rfl,?_⟩⟩;simp only[ai,if_true];exact ⟨some (b,cap),es.length+ys.length,rfl,zy1 _,⟨_,_,_,rfl⟩,fun _=>rfl⟩
 cases aL with
 |none =>
  simp only at hblk hsv;subst hblk;have hr:=run_append_nil (P:=c.P) w t o.type e i zv ht hi hzv ⟨b2,off2,none⟩ ys.length cp news hnl hnews hl0 (by simp at h63';omega) (by rw[hbi] at hby;simp at hby;omega);rw[←hsv] at hr;have hge:=grownCap_ge w ys.length 0 e;refine ⟨_,.inl ⟨_,run _ _ hr,put _ w.heap.size (grownCap w ys.length 0 e) _ (by simp) ?_⟩⟩;refine hsim.ED (pre:=[]) (news:=news) (rest:=(Builtin.zeroCells zv.cells (grownCap w ys.length 0 e-ys.length)).toList) hn aE (by simp[aK]) hys hysz hne (by simp) ?_ (by simpa using hge) (grownCap_le_maxLen w ys.length 0 e (by simpa using h63));simp only[Array.size_append,List.size_toArray,size_zeroCells,hzc,hnl,hci,←Nat.add_mul]
  congr 1
  omega
 |some bc =>
  obtain ⟨b,cap⟩:=bc;simp only at hblk hsv;obtain ⟨cs,pre,rest,k1,k2,k3,k4,k5,k6,k7,k8⟩:=hblk;have hpl:pre.length=es.length*i.size:=by rw[aK.length _ _ k4,I.iJ _ hesz,hci]
  by_cases hroom:es.length+ys.length≤cap
  ·have hfit:es.length*i.size+news.length≤cs.size:=by rw[hnl,k5,hci,←Nat.add_mul];exact Nat.mul_le_mul_right _ hroom
   have hr:=run_append_room (P:=c.P) w t o.type e i ht hi b es.length cap cs k2 ⟨b2,off2,none⟩ ys.length cp news hnl hnews h1 hroom hfit;rw[←hsv] at hr;refine ⟨_,.inl ⟨_,run _ _ hr,put _ b cap _ rfl ?_⟩⟩;have e1:cs.toList.take (es.length*i.size)=pre:=by rw[k3,←hpl];exact zu8
   have e2:cs.toList.drop (es.length*i.size+news.length)=rest.drop news.length:=by rw[k3,←hpl,←List.drop_drop,List.drop_left]
   rw[e1,e2];exact hsim.afx hn aE k2 k3 k4 hys hysz hne k5 hroom k7 k8 k1
  ·have holds:∀ j v,pre[j]?=some v→w.cell? ((⟨b,0,none⟩:Addr).add j)=some v:=fun j v hj=>by
    rw[Addr.add_lit,zz4,cell_of_row w b j cs e (0,0) k2,←zw0,k3];have:j<pre.length:=(zy4.1 hj).1;rw[zx0 this];exact hj
   have hr:=run_append_grow (P:=c.P) w t o.type e i zv ht hi hzv ⟨b,0,none⟩ es.length cap pre hpl holds ⟨b2,off2,none⟩ ys.length cp news hnl hnews (by omega) (by omega) (growslice_fits (by omega) (by rw[←hbi];exact hby));rw[←hsv] at hr;have hge:=grownCap_ge w (es.length+ys.length) cap e;refine ⟨_,.inl ⟨_,run _ _ hr,put _ w.heap.size (grownCap w (es.length+ys.length) cap e) _ rfl ?_⟩⟩;refine hsim.ED (pre:=pre) (news:=news) (rest:=(Builtin.zeroCells zv.cells (grownCap w (es.length+ys.length) cap e-(es.length+ys.length))).toList) hn aE k4 hys hysz hne (by simp) ?_ hge (grownCap_le_maxLen w _ cap e h63);simp only[Array.size_append,List.size_toArray,size_zeroCells,hzc,hnl,hpl,hci,←Nat.add_mul]
   congr 1
   omega
theorem RI{t e:TypeId}{s x:Operand}{s' x':aJ}{n k sz:Nat}{es ys:List Int}(ho:o.op=.call { callee:=.builtin .append,args := #[s,x],argTypes := #[t,t] })(ht:c.P.underlying t=some (.slice e))(hs':ba c.P t s=some s')(hx':ba c.P t x=some x')
  (hz:gi c.P e=some (.int .i64 0)) (h1c:c.P.cellsOf e=1) (hs:aj A s'=.own n k) (hn:A.o n=some (.eN e es)) (hk:k=es.length) (hx:aj A x'=.slice sz (ys.map (.int .i64))) (hne:ys≠[])
  (h63:es.length+ys.length≤maxLen) (hby:(es.length+ys.length)*c.P.bytesOf e≤140737488355328) (hd:∀ k,o.dst=some k→k<c.n) :
  iq c A o ((A.aM n (.eN e (es++ys))).aR o.dst (.own n (es.length+ys.length))):=by
 intro a w D E hsim;obtain ⟨i,zv,hi,hzv,hzr⟩:=lY hz;have hci:c.P.cellsOf e=i.size:=by simp[Program.cellsOf,hi]
 have hi1:i.size=1:=hci.symm.trans h1c;have hbi:c.P.bytesOf e=i.bytes:=by simp[Program.bytesOf,hi]
 have hzv2:zv.cells = #[Value.int .i64 0]:=by
  have:zv.cells.toList=[Value.int .i64 0]:=(hzr w D E).1;exact Array.toList_inj.1 this
 subst hk;have v1:=bz hsim hs';rw[hs] at v1;have v2:=bz hsim hx';rw[hx] at v2;obtain ⟨ad,cp,hxv,hc1,hc2,hc3,hc4⟩:=mL v2;obtain ⟨b2,off2,news,rfl,hr2,hys⟩:=hc3.resolve_left (by simpa using hne);rw[zz3] at hxv;obtain ⟨aL,aE,hesr,hblk⟩:=hsim.AP hn;obtain ⟨hnw,hyr⟩:=IA hys;have hnl0:news.length=ys.length:=by rw[hnw,zz3]
 have hnl:news.length=ys.length*i.size:=by rw[hi1,Nat.mul_one,hnl0]
 have hrr:∀ x∈es++ys,IntKind.i64.min≤x∧x≤IntKind.i64.max:=fun x hx=>by
  rcases zy6.1 hx with h | h
  ·exact hesr x h
  ·exact hyr x h
 have hnews:∀ j v,news[j]?=some v→w.cell? ((⟨b2,off2,none⟩:Addr).add j)=some v:=fun j v hj=>by
  rw[Addr.add_lit];exact (hr2 j v hj).1
 have h1:=aK.mD _ _ hys;have hsv:match aL with | none=>a.eval s=.slice none 0 0 | some (b,cap)=>a.eval s=.slice (some ⟨b,0,none⟩) es.length cap:=by
  obtain ⟨cs,q1,q2⟩:=v1;simp only[ai] at q2;obtain ⟨blk',l,q3,q4,q5,q6⟩:=q2;rw[aE] at q3;simp only[v6,bL.rw.injEq] at q3;obtain ⟨rfl,rfl⟩:=q3;have q7:=q6 rfl;simp only[bm,I.isAgg] at q1;cases aL with
  |none=>simp only at q7 ⊢;rw[q7] at q1;simpa using q1.symm
  |some bc=>simp only at q7 ⊢;rw[q7] at q1;simpa using q1.symm
 have hl0:0<ys.length:=zv2.2 hne;have h63':=h63;simp only[maxLen] at h63';have run:∀ v' w',(Builtin.append_ #[t,t] o.type #[a.eval s,.slice (some ⟨b2,off2,none⟩) ys.length cp]).run c.P w=.ok v' w'→(execOp a.eval o).run c.P w=.ok (.value v') w':=by
  intro v' w' hr;unfold execOp;simp only[ho,resolve,invoke,builtin,Sem.run_bind,Sem.run_pure,Result.andThen_ok,List.map_toArray,zz9,zy9,hxv,hr]
 have put:∀ (w':World) (b cap:Nat) (v':Value),v'=.slice (some ⟨b,0,none⟩) (es.length+ys.length) cap→aT c (A.aM n (.eN e (es++ys))) a w' D (fun m=>if m=n then some (.rw (some (b,cap)) (es.length+ys.length)) else E m) →
   bP c ((A.aM n (.eN e (es++ys))).aR o.dst (.own n (es.length+ys.length))) (a.put o.dst v') w':=by
  rintro w' b cap v' rfl hs2;refine ⟨D,_,hs2.aR hd ⟨_,by simp[bm,I.isAgg];rfl,?_⟩⟩;simp only[ai,if_true];exact ⟨some (b,cap),es.length+ys.length,rfl,zy1 _,⟨_,_,_,rfl⟩,fun _=>rfl⟩
 cases aL with
 |none =>
  simp only at hblk hsv;subst hblk;have hr:=run_append_nil (P:=c.P) w t o.type e i zv ht hi hzv ⟨b2,off2,none⟩ ys.length cp news hnl hnews hl0 (by simp at h63';omega) (by rw[hbi] at hby;simp at hby;omega);rw[←hsv] at hr;have hge:=grownCap_ge w ys.length 0 e;refine ⟨_,.inl ⟨_,run _ _ hr,put _ w.heap.size (grownCap w ys.length 0 e) _ (by simp) ?_⟩⟩;refine hsim.EE (m':=grownCap w ys.length 0 e-ys.length) hn aE hrr hne ?_ (by simp;omega) (grownCap_le_maxLen w ys.length 0 e (by simpa using h63));rw[hzv2];simp only[Array.toList_append,JX,zy3,zw3,hnw]
 |some bc =>
  obtain ⟨b,cap⟩:=bc;simp only at hblk hsv;obtain ⟨cs,m,k1,k2,k3,k4,k5,k6,k7⟩:=hblk;have hcz:cs.size=cap:=by rw[←zw5,k3];simp;omega
  by_cases hroom:es.length+ys.length≤cap
  ·have hfit:es.length*i.size+news.length≤cs.size:=by rw[hnl,hi1];omega
   have hr:=run_append_room (P:=c.P) w t o.type e i ht hi b es.length cap cs k2 ⟨b2,off2,none⟩ ys.length cp news hnl hnews h1 hroom hfit;rw[←hsv] at hr;refine ⟨_,.inl ⟨_,run _ _ hr,put _ b cap _ rfl ?_⟩⟩;have e0:cs.toList.take (es.length*i.size)++news++cs.toList.drop (es.length*i.size+news.length)=(es++ys++List.replicate (m-ys.length) 0).map (Value.int .i64):=by
    rw[hi1,Nat.mul_one,hnl0,k3,hnw,←List.map_take,←List.map_drop,zu8,←List.drop_drop,List.drop_left];simp only[zw3,List.drop_replicate]
   rw[e0];exact hsim.afy (m':=m-ys.length) hn aE k2 hrr hne (by omega) k6 k7 k1
  ·have hpl:(es.map (Value.int .i64)).length=es.length*i.size:=by rw[hi1];simp
   have holds:∀ j v,(es.map (Value.int .i64))[j]?=some v→w.cell? ((⟨b,0,none⟩:Addr).add j)=some v:=fun j v hj=>by
    rw[Addr.add_lit,zz4,cell_of_row w b j cs e (0,0) k2,←zw0,k3];have:j<(es.map (Value.int .i64)).length:=(zy4.1 hj).1;rw[zw3,zx0 this];exact hj
   have hr:=run_append_grow (P:=c.P) w t o.type e i zv ht hi hzv ⟨b,0,none⟩ es.length cap (es.map (Value.int .i64)) hpl holds ⟨b2,off2,none⟩ ys.length cp news hnl hnews (by omega) (by omega) (growslice_fits (by omega) (by rw[←hbi];exact hby));rw[←hsv] at hr;have hge:=grownCap_ge w (es.length+ys.length) cap e;refine ⟨_,.inl ⟨_,run _ _ hr,put _ w.heap.size (grownCap w (es.length+ys.length) cap e) _ rfl ?_⟩⟩;refine hsim.EE (m':=grownCap w (es.length+ys.length) cap e-(es.length+ys.length)) hn aE hrr hne ?_ (by omega) (grownCap_le_maxLen w _ cap e h63);rw[hzv2];simp only[Array.toList_append,JX,zw3,hnw]
end
mutual
def I.only(p:Nat→Bool):I→Bool
 | .agg fs | .tuple fs=>I.bY p fs
 | .slice _ es=>I.bY p es
 | .ref x=>x.only p
 | .func _ caps=>I.bY p caps
 | .iface _ v=>v.only p
 | .ptr n _ | .own n _ | .view n _ _ _ _ | .mref n | .dx n=>p n
 | .dA ks vs=>I.bY p ks&&I.bY p vs
 |_=>true
def I.bY(p:Nat→Bool):List I→Bool
 | []=>true
 |x::xs=>x.only p&&I.bY p xs
end
mutual
theorem nz(p:Nat→Bool):∀ x:I,x.bF=true→x.only p=true
 | .agg fs,h=>by simp only[I.bF,I.only] at *;exact mF p fs h
 | .slice _ es,h=>by simp only[I.bF,I.only] at *;exact mF p es h
 | .ref x,h=>by simp only[I.bF,I.only] at *;exact nz p x h
 | .func _ caps,h=>by simp only[I.bF,I.only] at *;exact mF p caps h
 | .iface _ v,h=>by simp only[I.bF,I.only] at *;exact nz p v h
 | .bool _,_ | .int _ _,_ | .ak _,_ | .nilp,_ | .dO,_ | .dh,_ | .any,_ | .raw _,_ | .nils _,_ | .c0 _,_=>by simp[I.only]
 | .dA ks vs,h=>by simp only[I.bF,I.only,zz0] at *;exact ⟨mF p ks h.1,mF p vs h.2⟩
 | .ptr _ _,h | .own _ _,h | .view _ _ _ _ _,h | .mref _,h | .dx _,h | .undef,h | .dv,h | .tuple _,h=>by simp[I.bF] at h
theorem mF(p:Nat→Bool):∀ xs:List I,I.cG xs=true→I.bY p xs=true
 | [],_=>rfl
 |x::xs,h=>by
  simp only[I.cG,I.bY,zz0] at *;exact ⟨nz p x h.1,mF p xs h.2⟩
end
mutual
theorem ai.eF{w:World}{D:aO}{E E':aU}{p:Nat→Bool}(aE:∀ n,p n=true→E' n=E n):∀ (x:I) (cs:List Value),x.only p=true→ai w D E x cs→ai w D E' x cs
 | .agg fs,cs,ho,hr=>by simp only[ai,I.only] at *;exact aK.eF aE fs cs ho hr
 | .bool b,cs,_,hr=>by simpa only[ai] using hr
 | .int k n,cs,_,hr=>by simpa only[ai] using hr
 | .ak s,cs,_,hr=>by simpa only[ai] using hr
 | .nilp,cs,_,hr=>by simpa only[ai] using hr
 | .dO,cs,_,hr=>by simpa only[ai] using hr
 | .dh,cs,_,hr | .any,cs,_,hr=>by simpa only[ai] using hr
 | .raw _,cs,_,hr=>by simpa only[ai] using hr
 | .nils _,cs,_,hr=>by simpa only[ai] using hr
 | .c0 _,cs,_,hr=>by simpa only[ai] using hr
 | .slice sz es,cs,ho,hr=>by
  simp only[ai,I.only] at *;obtain ⟨a,cap,h1,h2,h3,h4,h5⟩:=hr;refine ⟨a,cap,h1,h2,h3,?_,h5⟩;rcases h4 with h4 | ⟨b,off,cs',h6,h7,h8⟩
  ·exact .inl h4
  ·exact .inr ⟨b,off,cs',h6,h7,aK.eF aE es cs' ho h8⟩
 | .ref x,cs,ho,hr=>by
  simp only[ai,I.only] at *;obtain ⟨b,off,cs',h1,h2,h3⟩:=hr;exact ⟨b,off,cs',h1,h2,ai.eF aE x cs' ho h3⟩
 | .func f caps,cs,ho,hr=>by
  simp only[ai,I.only] at *;obtain ⟨vs,h1,h2⟩:=hr;exact ⟨vs,h1,aD.eF aE caps vs ho h2⟩
 | .iface t v,cs,ho,hr=>by
  simp only[ai,I.only] at *;obtain ⟨u,cs',h1,h2,h3⟩:=hr;exact ⟨u,cs',h1,h2,ai.eF aE v cs' ho h3⟩
 | .ptr n p,cs,ho,hr=>by
  simp only[ai,I.only] at *;obtain ⟨b,aN,off,h1,h2⟩:=hr;exact ⟨b,aN,off,(aE n ho).trans h1,h2⟩
 | .own n k,cs,ho,hr=>by
  simp only[ai,I.only] at *;obtain ⟨aL,l,h1,h2⟩:=hr;exact ⟨aL,l,(aE n ho).trans h1,h2⟩
 | .view n p _ _ _,cs,ho,hr=>by
  simp only[ai,I.only] at *;obtain ⟨b,aN,off,l,h1,h2⟩:=hr;exact ⟨b,aN,off,l,(aE n ho).trans h1,h2⟩
 | .mref n,cs,ho,hr=>by
  simp only[ai,I.only] at *;obtain ⟨b,h1,h2⟩:=hr;exact ⟨b,(aE n ho).trans h1,h2⟩
 | .dx n,cs,ho,hr=>by
  simp only[ai,I.only] at *;obtain ⟨b,h1,h2⟩:=hr;exact ⟨b,(aE n ho).trans h1,h2⟩
 | .dA ks vs,cs,ho,hr=>by
  simp only[ai,I.only,zz0] at *;obtain ⟨b,es,ck,h1,h2,h3,h4⟩:=hr;exact ⟨b,es,ck,h1,h2,aD.eF aE ks _ ho.1 h3,aD.eF aE vs _ ho.2 h4⟩
 | .undef,_,_,hr=>by simp only[ai] at hr
 | .dv,_,_,hr=>by simp only[ai] at hr
 | .tuple _,_,_,hr=>by simp only[ai] at hr
theorem aK.eF{w:World}{D:aO}{E E':aU}{p:Nat→Bool}(aE:∀ n,p n=true→E' n=E n):∀ (xs:List I) (cs:List Value),I.bY p xs=true→aK w D E xs cs→aK w D E' xs cs
 | [],cs,_,hr=>by simpa only[aK] using hr
 |x::xs,cs,ho,hr=>by
  simp only[aK,I.bY,zz0] at *;obtain ⟨c1,c2,h1,h2,h3⟩:=hr;exact ⟨c1,c2,h1,ai.eF aE x c1 ho.1 h2,aK.eF aE xs c2 ho.2 h3⟩
theorem aD.eF{w:World}{D:aO}{E E':aU}{p:Nat→Bool}(aE:∀ n,p n=true→E' n=E n):∀ (xs:List I) (vs:List Value),I.bY p xs=true→aD w D E xs vs→aD w D E' xs vs
 | [],vs,_,hr=>by simpa only[aD] using hr
 |x::xs,vs,ho,hr=>by
  simp only[aD,I.bY,zz0] at *;obtain ⟨v,rest,cs,h1,h2,h3,h4⟩:=hr;exact ⟨v,rest,cs,h1,h2,ai.eF aE x cs ho.1 h3,aD.eF aE xs rest ho.2 h4⟩
end
theorem aV.eF{w:World}{D:aO}{E E':aU}{p:Nat→Bool}(aE:∀ n,p n=true→E' n=E n){x:I}{v:Value}(ho:x.only p=true)(hr:aV w D E x v):aV w D E' x v:=by
 cases x <;>simp only[aV] at * <;>first
  |exact hr
  |(obtain ⟨vs,h1,h2⟩:=hr;exact ⟨vs,h1,aD.eF aE _ _ (by simpa[I.only] using ho) h2⟩)
  |(obtain ⟨cs,h1,h2⟩:=hr;exact ⟨cs,h1,ai.eF aE _ _ ho h2⟩)
def al.only(p:Nat→Bool):al→Bool
 | .box x=>x.only p
 | .b6 _ _ es=>I.bY p es
 | .dU _=>true
 | .eN _ _=>true
 | .cI ks vs | .it ks vs _ _=>I.bY p ks&&I.bY p vs
def bp:List (Nat×Nat)→Nat→Nat
 | [],n=>n
 |(a,b)::r,n=>if n=a then b else bp r n
mutual
def I.aQ(ρ:Nat→Nat):I→I
 | .agg fs=>.agg (I.dq ρ fs)
 | .tuple fs=>.tuple (I.dq ρ fs)
 | .slice sz es=>.slice sz (I.dq ρ es)
 | .ref x=>.ref (x.aQ ρ)
 | .func f caps=>.func f (I.dq ρ caps)
 | .iface t v=>.iface t (v.aQ ρ)
 | .ptr n p=>.ptr (ρ n) p
 | .own n k=>.own (ρ n) k
 | .view n p sz lo k=>.view (ρ n) p sz lo k
 | .mref n=>.mref (ρ n)
 | .dx n=>.dx (ρ n)
 | .dA ks vs=>.dA (I.dq ρ ks) (I.dq ρ vs)
 | .undef=>.undef | .dv=>.dv | .bool b=>.bool b | .int k n=>.int k n | .ak s=>.ak s
 | .nilp=>.nilp | .dO=>.dO | .dh=>.dh | .any=>.any | .raw u=>.raw u | .nils z=>.nils z | .c0 z=>.c0 z
def I.dq(ρ:Nat→Nat):List I→List I
 | []=>[]
 |x::xs=>x.aQ ρ::I.dq ρ xs
end
def al.aQ(ρ:Nat→Nat):al→al
 | .box x=>.box (x.aQ ρ)
 | .b6 T sz es=>.b6 T sz (I.dq ρ es)
 | .dU x=>.dU x
 | .eN T xs=>.eN T xs
 | .cI ks vs=>.cI (I.dq ρ ks) (I.dq ρ vs)
 | .it ks vs left cur=>.it (I.dq ρ ks) (I.dq ρ vs) left cur
mutual
theorem rr(ρ:Nat→Nat):∀ x:I,(x.aQ ρ).size=x.size
 | .agg fs=>by simp only[I.aQ,I.size];exact IP ρ fs
 | .undef | .dv | .bool _ | .int _ _ | .ak _ | .nilp | .dO | .dh | .any | .raw _ | .nils _ | .c0 _ | .slice _ _ | .tuple _ | .ref _ | .func _ _ | .iface _ _ | .ptr _ _ | .own _ _ | .view _ _ _ _ _ | .mref _ | .dx _ | .dA _ _=>by simp only[I.aQ,I.size]
theorem IP(ρ:Nat→Nat):∀ xs:List I,I.sizes (I.dq ρ xs)=I.sizes xs
 | []=>rfl
 |x::xs=>by simp only[I.dq,I.sizes,rr ρ x,IP ρ xs]
end
mutual
theorem pH(ρ:Nat→Nat):∀ x:I,(x.aQ ρ).aN=x.aN
 | .agg fs=>by simp only[I.aQ,I.aN,cg.dP.injEq];exact IN ρ fs
 | .undef | .dv | .bool _ | .int _ _ | .ak _ | .nilp | .dO | .dh | .any | .raw _ | .nils _ | .c0 _ | .slice _ _ | .tuple _ | .ref _ | .func _ _ | .iface _ _ | .ptr _ _ | .own _ _ | .view _ _ _ _ _ | .mref _ | .dx _ | .dA _ _=>by simp only[I.aQ,I.aN]
theorem IN(ρ:Nat→Nat):∀ xs:List I,I.cB (I.dq ρ xs)=I.cB xs
 | []=>rfl
 |x::xs=>by simp only[I.dq,I.cB,pH ρ x,IN ρ xs]
end
theorem ags(ρ:Nat→Nat)(x:I):(x.aQ ρ).isAgg=x.isAgg:=by cases x <;>simp[I.aQ,I.isAgg]
theorem ru(ρ:Nat→Nat)(xs:List I):I.dq ρ xs=xs.map (I.aQ ρ):=by
 induction xs with
 |nil=>rfl
 |cons x xs ih=>simp[I.dq,ih]
theorem pJ(ρ:Nat→Nat)(xs:List I):(I.dq ρ xs).length=xs.length:=by rw[ru];simp
theorem IM(ρ:Nat→Nat)(x:I)(v:Value)(cs:List Value):bm (x.aQ ρ) v cs=bm x v cs:=by simp only[bm,ags]
mutual
/-- A value,its names put for others that stand for the same. -/
theorem ai.aQ{w:World}{D:aO}{E E':aU}{p:Nat→Bool}{ρ:Nat→Nat}(aE:∀ n,p n=true→E' (ρ n)=E n):∀ (x:I) (cs:List Value),x.only p=true→(ai w D E' (x.aQ ρ) cs↔ai w D E x cs)
 | .agg fs,cs,ho=>by simp only[ai,I.aQ,I.only] at *;exact aK.aQ aE fs cs ho
 | .bool b,cs,_ | .int k n,cs,_ | .ak s,cs,_ | .nilp,cs,_ | .dO,cs,_ | .dh,cs,_ | .any,cs,_ | .raw _,cs,_ | .nils _,cs,_ | .c0 _,cs,_ | .undef,cs,_ | .dv,cs,_ | .tuple _,cs,_=>by simp only[ai,I.aQ]
 | .slice sz es,cs,ho=>by
  simp only[ai,I.aQ,I.only,pJ] at *;have e1:(I.dq ρ es=[])↔es=[]:=by rw[←List.length_eq_zero_iff,pJ,List.length_eq_zero_iff]
  have e2:(∀ e∈I.dq ρ es,e.size=sz)↔∀ e∈es,e.size=sz:=by
   rw[ru];constructor
   ·intro h e he;rw[←rr ρ e];exact h _ (zx4.2 ⟨e,he,rfl⟩)
   ·intro h e he;obtain ⟨e',he',rfl⟩:=zx4.1 he;rw[rr];exact h _ he'
  simp only[e1,e2];constructor
  ·rintro ⟨a,cap,h1,h2,h3,h4,h5⟩;refine ⟨a,cap,h1,h2,h3,?_,h5⟩;rcases h4 with h4 | ⟨b,off,cs',h6,h7,h8⟩
   ·exact .inl h4
   ·exact .inr ⟨b,off,cs',h6,h7,(aK.aQ aE es cs' ho).1 h8⟩
  ·rintro ⟨a,cap,h1,h2,h3,h4,h5⟩;refine ⟨a,cap,h1,h2,h3,?_,h5⟩;rcases h4 with h4 | ⟨b,off,cs',h6,h7,h8⟩
   ·exact .inl h4
   ·exact .inr ⟨b,off,cs',h6,h7,(aK.aQ aE es cs' ho).2 h8⟩
 | .ref x,cs,ho=>by
  simp only[ai,I.aQ,I.only] at *;constructor
  ·rintro ⟨b,off,cs',h1,h2,h3⟩;exact ⟨b,off,cs',h1,h2,(ai.aQ aE x cs' ho).1 h3⟩
  ·rintro ⟨b,off,cs',h1,h2,h3⟩;exact ⟨b,off,cs',h1,h2,(ai.aQ aE x cs' ho).2 h3⟩
 | .func f caps,cs,ho=>by
  simp only[ai,I.aQ,I.only] at *;constructor
  ·rintro ⟨vs,h1,h2⟩;exact ⟨vs,h1,(aD.aQ aE caps vs ho).1 h2⟩
  ·rintro ⟨vs,h1,h2⟩;exact ⟨vs,h1,(aD.aQ aE caps vs ho).2 h2⟩
 | .iface t v,cs,ho=>by
  simp only[ai,I.aQ,I.only,IM] at *;constructor
  ·rintro ⟨u,cs',h1,h2,h3⟩;exact ⟨u,cs',h1,h2,(ai.aQ aE v cs' ho).1 h3⟩
  ·rintro ⟨u,cs',h1,h2,h3⟩;exact ⟨u,cs',h1,h2,(ai.aQ aE v cs' ho).2 h3⟩
 | .ptr n p,cs,ho=>by simp only[ai,I.aQ,I.only] at *;rw[aE n ho]
 | .own n k,cs,ho=>by simp only[ai,I.aQ,I.only] at *;rw[aE n ho]
 | .view n p _ _ _,cs,ho=>by simp only[ai,I.aQ,I.only] at *;rw[aE n ho]
 | .mref n,cs,ho=>by simp only[ai,I.aQ,I.only] at *;rw[aE n ho]
 | .dx n,cs,ho=>by simp only[ai,I.aQ,I.only] at *;rw[aE n ho]
 | .dA ks vs,cs,ho=>by
  simp only[ai,I.aQ,I.only,zz0] at *;constructor
  ·rintro ⟨b,es,ck,h1,h2,h3,h4⟩;exact ⟨b,es,ck,h1,h2,(aD.aQ aE ks _ ho.1).1 h3,(aD.aQ aE vs _ ho.2).1 h4⟩
  ·rintro ⟨b,es,ck,h1,h2,h3,h4⟩;exact ⟨b,es,ck,h1,h2,(aD.aQ aE ks _ ho.1).2 h3,(aD.aQ aE vs _ ho.2).2 h4⟩
theorem aK.aQ{w:World}{D:aO}{E E':aU}{p:Nat→Bool}{ρ:Nat→Nat}(aE:∀ n,p n=true→E' (ρ n)=E n):∀ (xs:List I) (cs:List Value),I.bY p xs=true→(aK w D E' (I.dq ρ xs) cs↔aK w D E xs cs)
 | [],cs,_=>by simp only[aK,I.dq]
 |x::xs,cs,ho=>by
  simp only[aK,I.dq,I.bY,zz0] at *;constructor
  ·rintro ⟨c1,c2,h1,h2,h3⟩;exact ⟨c1,c2,h1,(ai.aQ aE x c1 ho.1).1 h2,(aK.aQ aE xs c2 ho.2).1 h3⟩
  ·rintro ⟨c1,c2,h1,h2,h3⟩;exact ⟨c1,c2,h1,(ai.aQ aE x c1 ho.1).2 h2,(aK.aQ aE xs c2 ho.2).2 h3⟩
theorem aD.aQ{w:World}{D:aO}{E E':aU}{p:Nat→Bool}{ρ:Nat→Nat}(aE:∀ n,p n=true→E' (ρ n)=E n):∀ (xs:List I) (vs:List Value),I.bY p xs=true→(aD w D E' (I.dq ρ xs) vs↔aD w D E xs vs)
 | [],vs,_=>by simp only[aD,I.dq]
 |x::xs,vs,ho=>by
  simp only[aD,I.dq,I.bY,zz0,IM] at *;constructor
  ·rintro ⟨v,rest,cs,h1,h2,h3,h4⟩;exact ⟨v,rest,cs,h1,h2,(ai.aQ aE x cs ho.1).1 h3,(aD.aQ aE xs rest ho.2).1 h4⟩
  ·rintro ⟨v,rest,cs,h1,h2,h3,h4⟩;exact ⟨v,rest,cs,h1,h2,(ai.aQ aE x cs ho.1).2 h3,(aD.aQ aE xs rest ho.2).2 h4⟩
end
theorem aV.aQ{w:World}{D:aO}{E E':aU}{p:Nat→Bool}{ρ:Nat→Nat}(aE:∀ n,p n=true→E' (ρ n)=E n){x:I}{v:Value}(ho:x.only p=true):aV w D E' (x.aQ ρ) v↔aV w D E x v:=by
 cases x <;>first
  |(simp only[aV,I.aQ];done)
  |(simp only[aV,I.aQ,I.only] at ho ⊢
    constructor
    ·rintro ⟨vs,h1,h2⟩;exact ⟨vs,h1,(aD.aQ aE _ _ ho).1 h2⟩
    ·rintro ⟨vs,h1,h2⟩;exact ⟨vs,h1,(aD.aQ aE _ _ ho).2 h2⟩)
  |(have key:=fun x cs=>ai.aQ (w:=w) (D:=D) aE x cs
    refine exists_congr fun cs=>and_congr ?_ ?_
    ·first | exact Iff.rfl | simp only[bm,I.aQ,I.isAgg]
    ·first | exact key _ cs ho | (have h:=key _ cs ho;simpa only[I.aQ] using h))
mutual
/-- Values that read no memory: but they may name objects. -/
def I.dI:I→Bool
 | .agg fs | .tuple fs=>I.kU fs
 | .func _ caps=>I.kU caps
 | .iface _ v=>v.dI
 | .slice _ es=>es.isEmpty
 | .ref _ | .dA _ _=>false
 |_=>true
def I.kU:List I→Bool
 | []=>true
 |x::xs=>x.dI&&I.kU xs
end
def al.dI:al→Bool
 | .box x=>x.dI
 | .b6 _ _ es=>I.kU es
 | .eN _ _=>true
 | .dU _=>true
 | .cI ks vs=>I.kU ks&&I.kU vs
 | .it .. =>false
mutual
theorem ai.dI{w w':World}{D D':aO}{E:aU} : ∀ (x:I) (cs:List Value),x.dI=true→ai w D E x cs→ai w' D' E x cs
 | .agg fs,cs,hf,hr=>by simp only[ai,I.dI] at *;exact aK.dI fs cs hf hr
 | .bool b,cs,_,hr | .int k n,cs,_,hr | .ak s,cs,_,hr | .nilp,cs,_,hr | .dO,cs,_,hr | .dh,cs,_,hr | .any,cs,_,hr | .raw _,cs,_,hr | .nils _,cs,_,hr | .c0 _,cs,_,hr
 | .ptr _ _,cs,_,hr | .own _ _,cs,_,hr | .view _ _ _ _ _,cs,_,hr | .mref _,cs,_,hr | .dx _,cs,_,hr=>by simpa only[ai] using hr
 | .func f caps,cs,hf,hr=>by
  simp only[ai,I.dI] at *;obtain ⟨vs,h1,h2⟩:=hr;exact ⟨vs,h1,aD.dI caps vs hf h2⟩
 | .iface t v,cs,hf,hr=>by
  simp only[ai,I.dI] at *;obtain ⟨u,cs',h1,h2,h3⟩:=hr;exact ⟨u,cs',h1,h2,ai.dI v cs' hf h3⟩
 | .slice sz es,cs,hf,hr=>by
  simp only[ai,I.dI,List.isEmpty_iff] at *;subst hf;obtain ⟨a,cap,h1,h2,h3,_,h5⟩:=hr;exact ⟨a,cap,h1,h2,h3,.inl rfl,h5⟩
 | .ref _,_,hf,_ | .dA _ _,_,hf,_=>by simp[I.dI] at hf
 | .undef,_,_,hr | .dv,_,_,hr | .tuple _,_,_,hr=>by simp only[ai] at hr
theorem aK.dI{w w':World}{D D':aO}{E:aU} : ∀ (xs:List I) (cs:List Value),I.kU xs=true→aK w D E xs cs→aK w' D' E xs cs
 | [],cs,_,hr=>by simpa only[aK] using hr
 |x::xs,cs,hf,hr=>by
  simp only[aK,I.kU,zz0] at *;obtain ⟨c1,c2,h1,h2,h3⟩:=hr;exact ⟨c1,c2,h1,ai.dI x c1 hf.1 h2,aK.dI xs c2 hf.2 h3⟩
theorem aD.dI{w w':World}{D D':aO}{E:aU} : ∀ (xs:List I) (vs:List Value),I.kU xs=true→aD w D E xs vs→aD w' D' E xs vs
 | [],vs,_,hr=>by simpa only[aD] using hr
 |x::xs,vs,hf,hr=>by
  simp only[aD,I.kU,zz0] at *;obtain ⟨v,rest,cs,h1,h2,h3,h4⟩:=hr;exact ⟨v,rest,cs,h1,h2,ai.dI x cs hf.1 h3,aD.dI xs rest hf.2 h4⟩
end
theorem aV.dI{w w':World}{D D':aO}{E:aU}{x:I}{v:Value}(hf:x.dI=true)(hr:aV w D E x v):aV w' D' E x v:=by
 cases x <;>simp only[aV] at * <;>first
  |exact hr
  |(obtain ⟨vs,h1,h2⟩:=hr;exact ⟨vs,h1,aD.dI _ _ (by simpa[I.dI] using hf) h2⟩)
  |(obtain ⟨cs,h1,h2⟩:=hr;exact ⟨cs,h1,ai.dI _ _ hf h2⟩)
def dp(ρ:List (Nat×Nat))(os:List (Nat×al)):List (Nat×al):=os.map fun q=>(bp ρ q.1,q.2.aQ (bp ρ))
def pre(ρ:List (Nat×Nat))(os:List (Nat×al))(n:Nat):Option Nat:=(os.find? fun q=>bp ρ q.1==n).map (·.1)
theorem yX{os:List (Nat×al)}{m:Nat} : ay os m=true↔∃ q∈os,q.1=m:=by
 induction os with
 |nil=>simp[ay,aq]
 |cons q os ih =>
  obtain ⟨k,v⟩:=q;simp only[ay,aq] at *;by_cases h:m=k
  ·subst h;simp
  ·simp only[if_neg h,ih,zx7,Prod.exists,exists_and_right,exists_eq_right];constructor
   ·rintro ⟨a,b⟩;exact ⟨a,.inr b⟩
   ·rintro ⟨a,b | b⟩
    ·cases b;exact absurd rfl h
    ·exact ⟨a,b⟩
theorem j6{ρ:List (Nat×Nat)}{os:List (Nat×al)}{n m:Nat}(h:pre ρ os n=some m):ay os m=true∧bp ρ m=n:=by
 simp only[pre,t8] at h;obtain ⟨q,hq,rfl⟩:=h;exact ⟨yX.2 ⟨q,List.mem_of_find?_eq_some hq,rfl⟩,by simpa using List.find?_some hq⟩
theorem zP{ρ:List (Nat×Nat)}{os:List (Nat×al)}{n m:Nat}(h:pre ρ os n=none)(hm:ay os m=true):bp ρ m≠n:=by
 simp only[pre,Option.map_eq_none_iff,List.find?_eq_none] at h;obtain ⟨q,hq,rfl⟩:=yX.1 hm;simpa using h q hq
theorem s7(ρ:List (Nat×Nat))(os os0:List (Nat×al))(n:Nat):aq (dp ρ os++os0) n=match pre ρ os n with
  |some m=>(aq os m).map (al.aQ (bp ρ))
  |none=>aq os0 n:=by
 induction os with
 |nil=>simp[dp,pre]
 |cons q os ih =>
  obtain ⟨k,v⟩:=q;simp only[dp,zz9,zz8,aq,pre,List.find?_cons] at *;by_cases h:bp ρ k=n
  ·subst h;simp
  ·rw[if_neg (Ne.symm h)];have hb:(bp ρ k==n)=false:=by simpa using h
   rw[hb,ih];simp only;cases hf:os.find? (fun q=>bp ρ q.1==n) with
   |none=>rfl
   |some q =>
    simp only[zy5];have hq:=List.find?_some hf;have hne:q.1≠k:=fun e=>h (by rw[←e];simpa using hq);rw[if_neg hne]
def aE(ρ:List (Nat×Nat))(os:List (Nat×al))(E:aU):aU:=fun n=>if ay os n then E (bp ρ n) else none
structure fj (ρ:List (Nat×Nat)) (os os0:List (Nat×al)):Prop where
 bw:∀ m x,aq os m=some x→aq os0 (bp ρ m)=some (x.aQ (bp ρ))∧x.only (ay os)=true∧x.fm=true
 inj:∀ m m',ay os m=true→ay os m'=true→bp ρ m=bp ρ m'→m=m'
structure dG (aG:Bool) (ρ:List (Nat×Nat)) (os os0:List (Nat×al)) (r:I) (os':List (Nat×al)):Prop where
 bw:∀ m x,aq os' m=some x→x.only (ay os')=true∧x.fm=true∧(aG=true→x.dI=true)
 inj:∀ m m',ay os' m=true→ay os' m'=true→bp ρ m=bp ρ m'→m=m'
 old:∀ m,ay os m=true→ay os' m=true
 qU:∀ m,ay os' m=true→ay os m=false→aq os0 (bp ρ m)=none∧bp ρ m<1000000
 zZ:r.only (ay os')=true∧(aG=true→r.dI=true)
section
variable {c:cP} {a:Act} {w:World} {D:aO} {E:aU} {ts:List (Nat×I)} {os0 os:List (Nat×al)} {ρ:List (Nat×Nat)}
theorem aT.given(hs:aT c (aC ts os0) a w D E)(hg:fj ρ os os0){m:Nat}(hm:ay os m=true):∃ x e,aq os m=some x∧aE ρ os E m=some e∧E (bp ρ m)=some e∧dc (fun _=>True) w D (aE ρ os E) m (some x) ∧
  ∀ b,e.aL=some b→c.fk b∧(∃ o,w.heap[b]?=some o∧vQ o=true)∧b<w.heap.size∧(e.fm=true→∀ o,¬ D b o):=by
 cases hx:aq os m with
 |none=>simp[ay,hx] at hm
 |some x =>
  obtain ⟨h1,h2,h3⟩:=hg.bw m x hx;have ho:=hs.bG (bp ρ m);simp only[aC] at ho;rw[h1] at ho;have hEm:aE ρ os E m=E (bp ρ m):=by simp only[aE,hm,if_true]
  have hin:∀ n,ay os n=true→E (bp ρ n)=aE ρ os E n:=fun n hn=>by simp only[aE,hn,if_true]
  cases x with
  |b6 T sz es =>
   obtain ⟨aL,k1,k2,k3⟩:=ho;rw[pJ] at k1;have h2':I.bY (ay os) es=true:=h2;have k2':∀ e∈es,e.size=sz:=fun e he=>by rw[←rr (bp ρ) e];exact k2 _ (by rw[ru];exact zx4.2 ⟨e,he,rfl⟩)
   refine ⟨_,_,rfl,hEm.trans k1,k1,⟨aL,hEm.trans k1,k2',?_⟩,fun b hb =>?_⟩
   ·cases aL with
    |none=>simp only[ru,List.map_eq_nil_iff] at k3;exact k3
    |some bc =>
     obtain ⟨b,cap⟩:=bc;obtain ⟨cs,pr,rest,q1,q2,q3,q4,q5,q6,q7,q8⟩:=k3;rw[pJ] at q6;exact ⟨cs,pr,rest,trivial,q2,q3,(aK.aQ (p:=ay os) hin es _ h2').1 q4,q5,q6,q7,q8⟩
   ·cases aL with
    |none=>cases hb
    |some bc =>
     obtain ⟨b',cap⟩:=bc;cases hb;obtain ⟨cs,pr,rest,q1,q2,_⟩:=k3;exact ⟨q1,⟨_,q2,rfl⟩,fG q2,fun h=>by cases h⟩
  |box y =>
   obtain ⟨b,cs,T,k1,k2,k3,k4,k5⟩:=ho;rw[pH] at k1;refine ⟨_,_,rfl,hEm.trans k1,k1,⟨b,cs,T,hEm.trans k1,trivial,k3.aN (by rw[pH]),?_,k5⟩,fun b' hb =>?_⟩
   ·exact (ai.aQ (p:=ay os) hin y _ (by simpa[al.only] using h2)).1 k4
   ·cases hb;exact ⟨k2,k3.bG,k3.lt,fun _=>k5⟩
  |dU o =>
   obtain ⟨b,k1,k2,k3,k4,k5⟩:=ho;exact ⟨_,_,rfl,hEm.trans k1,k1,⟨b,hEm.trans k1,trivial,k3,k4,k5⟩,fun b' hb=>by cases hb;exact ⟨k2,⟨_,k3,aeC k4⟩,fG k3,fun _=>k5⟩⟩
  |cI ks vs =>
   obtain ⟨b,es,ck,k1,k2,k3,k4,k5,k6,k7⟩:=ho;simp only[al.only,zz0] at h2;exact ⟨_,_,rfl,hEm.trans k1,k1,⟨b,es,ck,hEm.trans k1,trivial,k3,k4,(aD.aQ (p:=ay os) hin ks _ h2.1).1 k5,(aD.aQ (p:=ay os) hin vs _ h2.2).1 k6,k7⟩,
    fun b' hb=>by cases hb;exact ⟨k2,⟨_,k3,rfl⟩,fG k3,fun _=>k7⟩⟩
  |it ks vs left cur=>cases h3
  |eN T xs =>
   obtain ⟨aL,k1,k2,k3⟩:=ho;refine ⟨_,_,rfl,hEm.trans k1,k1,⟨aL,hEm.trans k1,k2,?_⟩,fun b hb =>?_⟩
   ·cases aL with
    |none=>exact k3
    |some bc =>
     obtain ⟨b,cap⟩:=bc;obtain ⟨cs,r,q1,q2⟩:=k3;exact ⟨cs,r,trivial,q2⟩
   ·cases aL with
    |none=>cases hb
    |some bc =>
     obtain ⟨b',cap⟩:=bc;cases hb;obtain ⟨cs,r,q1,q2,_⟩:=k3;exact ⟨q1,⟨_,q2,rfl⟩,fG q2,fun h=>by cases h⟩
theorem aT.vb(hs:aT c (aC ts os0) a w D E)(hg:fj ρ os os0){b:Nat}(hb:cu (aE ρ os E) b):∃ m e,ay os m=true∧E (bp ρ m)=some e∧e.aL=some b∧c.fk b∧(∃ o,w.heap[b]?=some o∧vQ o=true)∧b<w.heap.size:=by
 obtain ⟨m,e,h1,h2⟩:=hb;by_cases hm:ay os m=true
 ·obtain ⟨x,e',k1,k2,k3,k4,k5⟩:=hs.given hg hm;rw[k2,v6] at h1;subst h1;obtain ⟨q1,q2,q3,_⟩:=k5 b h2;exact ⟨m,_,hm,k3,h2,q1,q2,q3⟩
 ·simp[aE,hm] at h1
theorem aT.Fj(hs:aT c (aC ts os0) a w D E)(hg:fj ρ os os0){D1:aO}(hD:∀ b o,D b o→D1 b o)(hown:∀ b o,D1 b o→cu (aE ρ os E) b→D b o):kG (fun _=>True) w D1 (aE ρ os E) (aq os):=by
 refine ⟨fun n =>?_,fun n m e e' b h1 h2 h3 h4 =>?_⟩
 ·cases hx:aq os n with
  |none=>simp[dc,aE,ay,hx]
  |some x =>
   have hm:ay os n=true:=by simp[ay,hx]
   obtain ⟨y,e,k1,k2,k3,k4,k5⟩:=hs.given hg hm;rw[hx,v6] at k1;subst k1;refine k4.later (E':=aE ρ os E) ⟨hD,fun _ _ _ _ h=>h,fun _ _ _ h=>h,fun _ aL l h=>⟨aL,l,h,zy1 _,fun _=>rfl⟩,fun _ _ h=>h,fun _ _ h=>h,fun _ _ _ _ h=>h⟩ rfl fun e' b' he hb'=>⟨rfl,fun o ho =>?_⟩
   exact hown b' o ho ⟨n,e',he,hb'⟩
 ·have hn:ay os n=true:=by
   by_cases h:ay os n=true;· exact h
   ·simp[aE,h] at h1
  have hm:ay os m=true:=by
    by_cases h:ay os m=true;· exact h
    ·simp[aE,h] at h2
  simp only[aE,hn,hm,if_true] at h1 h2;exact hg.inj n m hn hm (hs.cV _ _ e e' b h1 h2 h3 h4)
theorem aT.mY(hs:aT c (aC ts os0) a w D E)(hg:fj ρ os os0){aG:Bool}{D1:aO}(hD:∀ b o,D b o→D1 b o)(hbx:aG=false→∀ b o,D1 b o→D b o){w':World}{D':aO}{E':aU}{v:Value}{r:I}{os':List (Nat×al)}
  (hb:dG aG ρ os os0 r os') (hr:aV w' D' E' r v) (hh:kG (fun b=>w.heap.size≤b∨cu (aE ρ os E) b) w' D' E' (aq os')) (hk:ft (fun b=>w.heap.size≤b∨cu (aE ρ os E) b) w w')
  (hlive:∀ b o,D' b o→b<w'.heap.size) (hup:∀ b o,D1 b o→D' b o) (hst:iu w D1 w') (hold:∀ b o,D' b o→b<w.heap.size→¬ cu (aE ρ os E) b→D1 b o) (hbox:∀ n e,aE ρ os E n=some e→ay os' n=true→∃ e',E' n=some e'∧e.eE e') :
  ∃ D2 E2,aT c (aC ts (dp ρ os'++os0)) a w' D2 E2∧aV w' D2 E2 (r.aQ (bp ρ)) v∧∀ m e,aE ρ os E m=some e→ay os' m=true→∃ e',E2 (bp ρ m)=some e'∧e.eE e':=by
 obtain ⟨M1,hM1⟩:∃ M1:Nat→Prop,M1=fun b=>w.heap.size≤b∨cu (aE ρ os E) b:=⟨_,rfl⟩
 rw[←hM1] at hh hk;obtain ⟨D2,hD2⟩:∃ D2:aO,D2=fun b o=>D b o∨(M1 b∧D' b o):=⟨_,rfl⟩
 obtain ⟨E2,hE2⟩:∃ E2:aU,E2=fun n=>match pre ρ os' n with | some m=>E' m | none=>E n:=⟨_,rfl⟩
 have kW:∀ b,M1 b→c.fk b:=fun b hb'=>by
  rw[hM1] at hb';rcases hb' with h | h
  ·exact .inl (Nat.le_trans hs.dX.size h)
  ·obtain ⟨m,e,_,_,_,h3,_⟩:=hs.vb hg h;exact h3
 have upD:∀ b o,D b o→D' b o:=fun b o hd=>hup b o (hD b o hd);have E2m:∀ m,ay os' m=true→E2 (bp ρ m)=E' m:=fun m hm=>by
  rw[hE2];simp only;cases hp:pre ρ os' (bp ρ m) with
  |none=>exact absurd rfl (zP hp hm)
  |some m' =>
   obtain ⟨h1,h2⟩:=j6 hp;rw[hb.inj m' m h1 hm h2]
 have E2o:∀ n,pre ρ os' n=none→E2 n=E n:=fun n hn=>by rw[hE2];simp only[hn]
 -- a name that has a new meaning: one that was handed over,or one that was free
 have cas:∀ n m,pre ρ os' n=some m→(ay os m=true∧∃ e e',E n=some e∧E' m=some e'∧e.eE e')∨(ay os m=false∧E n=none∧c.cq n=none):=fun n m hp=>by
  obtain ⟨h1,h2⟩:=j6 hp;cases hm:ay os m with
  |true =>
   obtain ⟨y,e,k1,k2,k3,_⟩:=hs.given hg hm;rw[h2] at k3;obtain ⟨e',q1,q2⟩:=hbox m e k2 h1;exact .inl ⟨rfl,e,e',k3,q1,q2⟩
  |false =>
   obtain ⟨k1,k2⟩:=hb.qU m h1 hm;rw[h2] at k1 k2;have ho:=hs.bG n;simp only[aC,k1] at ho;exact .inr ⟨rfl,ho,hs.lC (.inr k2)⟩
 have hl:ej w D E w' D2 E2:=by
  have sS:∀ n e,E n=some e→∃ e',E2 n=some e'∧e.eE e':=fun n e he=>by
   cases hp:pre ρ os' n with
   |none=>exact ⟨e,by rw[E2o n hp];exact he,.refl e⟩
   |some m =>
    rw[hE2];simp only[hp];rcases cas n m hp with ⟨_,e1,e2,k1,k2,k3⟩ | ⟨_,k1,_⟩
    ·rw[he] at k1;cases k1;exact ⟨e2,k2,k3⟩
    ·rw[he] at k1;cases k1
  have keepf:∀ n e,E n=some e→e.fm=true→E2 n=some e:=fun n e he hf=>by
   obtain ⟨e',k1,k2⟩:=sS n e he;rw[k1,k2.eq hf]
  refine ⟨fun b o h=>by rw[hD2];exact .inl h,fun b o v' hd ae=>hst.cell b o v' (hD b o hd) ae,fun n b aN he=>keepf n _ he rfl,fun n aL l he =>?_,fun n b he=>keepf n _ he rfl,fun n b he=>keepf n _ he rfl,fun b es ck hd hm=>hst.iF b es ck (hD b 0 hd) hm⟩;obtain ⟨e',k1,k2⟩:=sS n _ he;rcases k2 with rfl | ⟨_,_,blk',l',e,rfl,k3,k4⟩
  ·exact ⟨aL,l,k1,zy1 _,fun _=>rfl⟩
  ·cases e;exact ⟨blk',l',k1,k3,k4⟩
 -- blocks of names that were not handed over
 have other:∀ n e b,pre ρ os' n=none→E n=some e→e.aL=some b→¬ M1 b:=fun n e b hp he hb' hm=>by
  rw[hM1] at hm;rcases hm with h | h
  ·exact absurd (hs.gl he hb') (by omega)
  ·obtain ⟨m,e',h1,h2,h3,_⟩:=hs.vb hg h;have:=hs.cV n (bp ρ m) e _ b he h2 hb' h3;exact zP hp (hb.old m h1) this.symm
 have toD2:∀ {x:I} {cs:List Value},(aG=true→x.dI=true)→ai w' D' E2 x cs→ai w' D2 E2 x cs:=fun {x cs} hx h=>by
  cases hbb:aG with
  |true=>exact ai.dI x cs (hx hbb) h
  |false =>
   refine ai.later (E:=E2) ⟨fun b o hd =>?_,fun _ _ _ _ h=>h,fun _ _ _ h=>h,fun _ aL l h=>⟨aL,l,h,zy1 _,fun _=>rfl⟩,fun _ _ h=>h,fun _ _ h=>h,fun _ _ _ _ h=>h⟩ x cs h;rw[hD2];by_cases hm:M1 b
   ·exact .inr ⟨hm,hd⟩
   ·rw[hM1] at hm;exact .inl (hbx hbb b o (hold b o hd (Nat.lt_of_not_le fun h=>hm (.inl h)) fun h=>hm (.inr h)))
 have toD2c:∀ {xs:List I} {cs:List Value},I.bY (ay os') xs=true→(aG=true→I.kU xs=true)→aK w' D' E' xs cs→aK w' D2 E2 (I.dq (bp ρ) xs) cs:=fun {xs cs} ho hx h=>by
  cases hbb:aG with
  |true=>exact (aK.aQ (w:=w') (D:=D2) (p:=ay os') (ρ:=bp ρ) (E:=E') (E':=E2) (fun n hn=>E2m n hn) xs cs ho).2 (aK.dI xs cs (hx hbb) h)
  |false =>
   have h2:=(aK.aQ (w:=w') (D:=D') (p:=ay os') (ρ:=bp ρ) (E:=E') (E':=E2) (fun n hn=>E2m n hn) xs cs ho).2 h;refine aK.later (E:=E2) ⟨fun b o hd =>?_,fun _ _ _ _ h=>h,fun _ _ _ h=>h,fun _ aL l h=>⟨aL,l,h,zy1 _,fun _=>rfl⟩,fun _ _ h=>h,fun _ _ h=>h,fun _ _ _ _ h=>h⟩ _ cs h2;rw[hD2];by_cases hm:M1 b
   ·exact .inr ⟨hm,hd⟩
   ·rw[hM1] at hm;exact .inl (hbx hbb b o (hold b o hd (Nat.lt_of_not_le fun h=>hm (.inl h)) fun h=>hm (.inr h)))
 have toD2s:∀ {xs:List I} {cs:List Value},I.bY (ay os') xs=true→(aG=true→I.kU xs=true)→aD w' D' E' xs cs→aD w' D2 E2 (I.dq (bp ρ) xs) cs:=fun {xs cs} ho hx h=>by
  cases hbb:aG with
  |true=>exact (aD.aQ (w:=w') (D:=D2) (p:=ay os') (ρ:=bp ρ) (E:=E') (E':=E2) (fun n hn=>E2m n hn) xs cs ho).2 (aD.dI xs cs (hx hbb) h)
  |false =>
   have h2:=(aD.aQ (w:=w') (D:=D') (p:=ay os') (ρ:=bp ρ) (E:=E') (E':=E2) (fun n hn=>E2m n hn) xs cs ho).2 h;refine aD.later (E:=E2) ⟨fun b o hd =>?_,fun _ _ _ _ h=>h,fun _ _ _ h=>h,fun _ aL l h=>⟨aL,l,h,zy1 _,fun _=>rfl⟩,fun _ _ h=>h,fun _ _ h=>h,fun _ _ _ _ h=>h⟩ _ cs h2;rw[hD2];by_cases hm:M1 b
   ·exact .inr ⟨hm,hd⟩
   ·rw[hM1] at hm;exact .inl (hbx hbb b o (hold b o hd (Nat.lt_of_not_le fun h=>hm (.inl h)) fun h=>hm (.inr h)))
 refine ⟨D2,E2,⟨hs.sz,hs.fg.mono fun B _ hB =>?_,fun t=>aV.later hl (hs.eG t),hs.dX.trans ⟨hk.os,hk.tape,hk.output,hk.size,fun k hk'=>hk.block k fun h=>hk' (kW k h)⟩,fun b o hd hm =>?_,fun b o hd =>?_,fun n =>?_,?_,fun n e hn =>?_,hs.fu,
  fun b o hd=>hl.df b o (hs.cR b o hd),hs.fO,hs.lV hl⟩,?_,fun m e k1 k3=>by rw[E2m m k3];exact hbox m e k1 k3⟩
 ·refine (hk.block B fun hm =>?_).trans hB;rw[hM1] at hm;rcases hm with h | h
  ·exact absurd (zy8.1 hB).1 (by omega)
  ·obtain ⟨m,e,_,_,_,_,⟨o,h4,h5⟩,_⟩:=hs.vb hg h;rw[hB] at h4;cases h4;cases h5
 ·rw[hD2] at hd;rcases hd with hd | ⟨h1,_⟩
  ·exact hs.df b o hd hm
  ·exact absurd (kW b h1) hm
 ·rw[hD2] at hd;rcases hd with hd | ⟨_,h1⟩
  ·exact zu5 (hs.dy b o hd) hk.size
  ·exact hlive b o h1
 ·simp only[aC,s7];cases hp:pre ρ os' n with
  |none =>
   simp only;refine (hs.bG n).later hl (E2o n hp) fun e b he hb'=>⟨hk.block b (other n e b hp he hb'),fun o ho =>?_⟩
   rw[hD2] at ho;rcases ho with ho | ⟨h1,_⟩
   ·exact ho
   ·exact absurd h1 (other n e b hp he hb')
  |some m =>
   simp only;obtain ⟨h1,h2⟩:=j6 hp;cases hx:aq os' m with
   |none=>simp[ay,hx] at h1
   |some x =>
    obtain ⟨k1,kf,k2⟩:=hb.bw m x hx;have ho:=hh.bG m;rw[hx] at ho;have noD:∀ b,(∀ o,¬ D' b o)→∀ o,¬ D2 b o:=fun b hno o ho=>by
     rw[hD2] at ho;rcases ho with ho | ⟨_,ho⟩
     ·exact hno o (upD b o ho)
     ·exact hno o ho
    cases x with
    |b6 T sz es =>
     obtain ⟨aL,q1,q2,q3⟩:=ho;simp only[zy5,al.aQ,dc,pJ];refine ⟨aL,by rw[←h2,E2m m h1];exact q1,fun e he =>?_,?_⟩
     ·rw[ru] at he;obtain ⟨e',he',rfl⟩:=zx4.1 he;rw[rr];exact q2 e' he'
     ·cases aL with
      |none=>simp only at q3 ⊢;rw[q3];rfl
      |some bc =>
       obtain ⟨b,cap⟩:=bc;obtain ⟨cs,pr,rest,g1,g2,g3,g4,g5,g6,g7,g8⟩:=q3;refine ⟨cs,pr,rest,kW b g1,g2,g3,toD2c (by simpa[al.only] using k1) (fun h=>by simpa[al.dI] using k2 h) g4,g5,g6,g7,fun o ho =>?_⟩;rw[hD2] at ho;rcases ho with ho | ⟨_,ho⟩
       ·exact g8 o (upD b o ho)
       ·exact g8 o ho
    |eN T xs =>
     obtain ⟨aL,q1,q2,q3⟩:=ho;simp only[zy5,al.aQ,dc];refine ⟨aL,by rw[←h2,E2m m h1];exact q1,q2,?_⟩;cases aL with
     |none=>exact q3
     |some bc =>
      obtain ⟨b,cap⟩:=bc;obtain ⟨cs,r,g1,g2,g3,g4,g5,g6,g7⟩:=q3;exact ⟨cs,r,kW b g1,g2,g3,g4,g5,g6,noD b g7⟩
    |dU x =>
     obtain ⟨b,q1,q2,q3,q4,q5⟩:=ho;simp only[zy5,al.aQ,dc];exact ⟨b,by rw[←h2,E2m m h1];exact q1,kW b q2,q3,q4,noD b q5⟩
    |it ks vs left cur=>cases kf
    |cI ks vs =>
     obtain ⟨b,es,ck,q1,q2,q3,q4,q5,q6,q7⟩:=ho;simp only[zy5,al.aQ,dc];simp only[al.only,zz0] at k1;simp only[al.dI,zz0] at k2;exact ⟨b,es,ck,by rw[←h2,E2m m h1];exact q1,kW b q2,q3,q4,toD2s k1.1 (fun h=>(k2 h).1) q5,toD2s k1.2 (fun h=>(k2 h).2) q6,noD b q7⟩
    |box y =>
     obtain ⟨b,cs,T,q1,q2,q3,q4,q5⟩:=ho;simp only[zy5,al.aQ,dc];refine ⟨b,cs,T,by rw[pH,←h2,E2m m h1];exact q1,kW b q2,q3.aN (by rw[pH]),?_,noD b q5⟩;have h3:=(ai.aQ (w:=w') (D:=D') (p:=ay os') (ρ:=bp ρ) (E:=E') (E':=E2) (fun n hn=>E2m n hn) y cs.toList (by simpa[al.only] using k1)).2 q4;cases hbb:aG with
     |true =>
      have h4:ai w' D2 E' y cs.toList:=ai.dI y _ (k2 hbb) q4;exact (ai.aQ (w:=w') (D:=D2) (p:=ay os') (ρ:=bp ρ) (E:=E') (E':=E2) (fun n hn=>E2m n hn) y cs.toList (by simpa[al.only] using k1)).2 h4
     |false=>exact toD2 (fun h=>by rw[hbb] at h;cases h) h3
 ·intro n m e e' b h1 h2 h3 h4;have blk':∀ n m e,pre ρ os' n=some m→E2 n=some e→e.aL=some b→M1 b∧E' m=some e:=fun n m e hp he hb'=>by
   obtain ⟨k1,k2⟩:=j6 hp;rw[←k2,E2m m k1] at he;cases hx:aq os' m with
   |none=>simp[ay,hx] at k1
   |some x =>
    obtain ⟨_,kf,_⟩:=hb.bw m x hx;have ho:=hh.bG m;rw[hx] at ho;cases x with
    |b6 T sz es =>
     obtain ⟨aL,q1,q2,q3⟩:=ho;rw[q1,v6] at he;subst he;cases aL with
     |none=>cases hb'
     |some bc =>
      obtain ⟨b',cap⟩:=bc;cases hb';obtain ⟨cs,pr,rest,g1,_⟩:=q3;exact ⟨g1,q1⟩
    |it ks vs left cur=>cases kf
    |eN T xs =>
     obtain ⟨aL,q1,q2,q3⟩:=ho;rw[q1,v6] at he;subst he;cases aL with
     |none=>cases hb'
     |some bc =>
      obtain ⟨b',cap⟩:=bc;cases hb';obtain ⟨cs,r,g1,_⟩:=q3;exact ⟨g1,q1⟩
    |cI ks vs =>
     obtain ⟨b',es,ck,q1,q2,_⟩:=ho;rw[q1,v6] at he;subst he;cases hb';exact ⟨q2,q1⟩
    |dU x =>
     obtain ⟨b',q1,q2,_⟩:=ho;rw[q1,v6] at he;subst he;cases hb';exact ⟨q2,q1⟩
    |box y =>
     obtain ⟨b',cs,T,q1,q2,_⟩:=ho;rw[q1,v6] at he;subst he;cases hb';exact ⟨q2,q1⟩
  cases hn:pre ρ os' n with
  |none =>
   have g1:E n=some e:=by rw[←E2o n hn];exact h1
   cases hm:pre ρ os' m with
   |none=>exact hs.cV n m e e' b g1 (by rw[←E2o m hm];exact h2) h3 h4
   |some m'=>exact absurd (blk' m m' e' hm h2 h4).1 (other n e b hn g1 h3)
  |some n' =>
   have g1:=blk' n n' e hn h1 h3;cases hm:pre ρ os' m with
   |none=>exact absurd g1.1 (other m e' b hm (by rw[←E2o m hm];exact h2) h4)
   |some m' =>
    have g2:=blk' m m' e' hm h2 h4;have:=hh.cV n' m' e e' b g1.2 g2.2 h3 h4;rw[←(j6 hn).2,←(j6 hm).2,this]
 ·cases hp:pre ρ os' n with
  |none=>rw[E2o n hp];exact hs.ev n e hn
  |some m =>
   rcases cas n m hp with ⟨_,e1,e2,k1,k2,k3⟩ | ⟨_,_,k1⟩
   ·rcases hs.ev n e hn with h | ⟨e3,h,h'⟩
    ·rw[h] at k1;cases k1
    ·rw[k1,v6] at h;subst h
     right
     rw[hE2];simp only[hp];exact ⟨e2,k2,h'.trans k3⟩
   ·rw[hn] at k1;cases k1
 ·have h3:=(aV.aQ (w:=w') (p:=ay os') (ρ:=bp ρ) (E:=E') (E':=E2) (D:=D') (fun n hn=>E2m n hn) (v:=v) hb.zZ.1).2 hr;cases hbb:aG with
  |true=>exact (aV.aQ (w:=w') (p:=ay os') (ρ:=bp ρ) (E:=E') (E':=E2) (D:=D2) (fun n hn=>E2m n hn) (v:=v) hb.zZ.1).2 (aV.dI (hb.zZ.2 hbb) hr)
  |false =>
   refine aV.later (E:=E2) ⟨fun b o hd =>?_,fun _ _ _ _ h=>h,fun _ _ _ h=>h,fun _ aL l h=>⟨aL,l,h,zy1 _,fun _=>rfl⟩,fun _ _ h=>h,fun _ _ h=>h,fun _ _ _ _ h=>h⟩ h3;rw[hD2];by_cases hm:M1 b
   ·exact .inr ⟨hm,hd⟩
   ·rw[hM1] at hm;exact .inl (hbx hbb b o (hold b o hd (Nat.lt_of_not_le fun h=>hm (.inl h)) fun h=>hm (.inr h)))
end
theorem w7(z:Array Value):∀ n:Nat,(Builtin.zeroCells z n).toList=(List.replicate n z.toList).flatten
 |0=>by simp[Builtin.zeroCells]
 |n+1=>by
  rw[List.replicate_succ,List.flatten_cons,←w7 z n];apply List.ext_getElem?;intro i;by_cases hz:z.size=0
  ·have hz':z = #[]:=Array.eq_empty_of_size_eq_zero hz;subst hz';simp[Builtin.zeroCells]
  have hpos:0<z.size:=Nat.pos_of_ne_zero hz;by_cases hi:i<z.toList.length
  ·rw[zx0 hi];have hi':i<z.size:=by simpa using hi
   have h1:i<(n+1)*z.size:=by rw[Nat.succ_mul];omega
   simp only[Builtin.zeroCells,Array.toList_map,Array.toList_range,zx8,List.getElem?_range h1,zy5,Nat.mod_eq_of_lt hi'];simp[hi']
  ·rw[zv7 (by omega)];have hi':z.size≤i:=by simpa using hi
   simp only[Builtin.zeroCells,Array.toList_map,Array.toList_range,zx8,zw5];by_cases h2:i<(n+1)*z.size
   ·have h3:i-z.size<n*z.size:=by rw[Nat.succ_mul] at h2;omega
    rw[List.getElem?_range h2,List.getElem?_range h3];simp only[zy5];rw[←Nat.mod_eq_sub_mod hi']
   ·have h3:¬ i-z.size<n*z.size:=by rw[Nat.succ_mul] at h2;omega
    rw[List.getElem?_eq_none (by simpa using h2),List.getElem?_eq_none (by simpa using h3)]
theorem tq{w:World}{D:aO}{E:aU}{z:I}{cs:List Value}(h:ai w D E z cs):∀ n:Nat,aK w D E (List.replicate n z) (List.replicate n cs).flatten
 |0=>by simp[aK]
 |n+1=>by
  simp only[List.replicate_succ,List.flatten_cons,aK];exact ⟨cs,_,rfl,h,tq h n⟩
section
variable {c:cP} {A:af} {a:Act} {w:World} {D:aO} {E:aU}
theorem aT.view(h:aT c A a w D E){n:Nat}{p:List Nat}{sz lo k:Nat}{v:Value}{fs:List I}(ae:aV w D E (.view n p sz lo k) v)(hx:ct A (.ptr n p)=some (.agg fs)) :
  ∃ y b cs T off c1 c2 c3,A.o n=some (.box y)∧E n=some (.aG b y.aN)∧ff w b cs T y.aN∧y.at p=some (.agg fs)∧y.aN.off p=some off∧cs.toList=c1++c2++c3∧c1.length=off∧aK w D E fs c2 ∧
   ai w D E y cs.toList∧(∀ f∈fs,f.size=sz)∧lo+k≤fs.length∧fs.length≤maxLen∧v=.slice (some ⟨b,off+lo*sz,none⟩) k (fs.length-lo):=by
 obtain ⟨z,b',cs',T,off',c1,c2,c3,k1,k2,_,k3,k4,k5,k6,k7,k8,k9,_⟩:=h.at hx;obtain ⟨vs,g1,g2⟩:=ae;simp only[ai] at g2;obtain ⟨b,aN,off,l,h1,h2,h3,h4,h5,h6,h7⟩:=g2;rw[k2] at h1;simp only[v6,bL.aG.injEq] at h1;obtain ⟨rfl,rfl⟩:=h1;rw[k5,v6] at h2;subst h2;rw[nN p z _ k4] at h3;simp only[I.aN,v6,cg.dP.injEq] at h3;subst h3;rw[I.c7,zz3] at h4 h5 h6;refine ⟨z,b',cs',T,off',c1,c2,c3,k1,k2,k3,k4,k5,k6,k7,by simpa only[ai] using k8,k9,Ji h7,h6,h5,?_⟩;simpa[bm,I.isAgg,h4] using g1.symm
theorem aT.nR(h:aT c A a w D E){sz:Nat}{x:I}{v:Value}{ys:List I}(ae:aV w D E x v)(hs:du A sz x=some ys) :
  ∃ ad cp news,v=.slice ad ys.length cp∧ys.length≤cp∧cp≤maxLen∧aK w D E ys news∧(∀ y∈ys,y.size=sz)∧(ys≠[]→∃ b o,ad=some ⟨b,o,none⟩∧∀ j u,news[j]?=some u→w.cell? ⟨b,o+j,none⟩=some u):=by
 cases x <;>simp only[du] at hs <;>try (cases hs;done)
 case nils z =>
  simp only[v6] at hs;subst hs;obtain ⟨cs,q1,q2⟩:=ae;simp only[ai] at q2;exact ⟨none,0,[],by simpa[bm,I.isAgg,q2] using q1.symm,by simp,by simp[maxLen],by simp[aK],by simp,fun h=>absurd rfl h⟩
 case c0 z =>
  simp only[v6] at hs;subst hs;obtain ⟨cs,q1,q2⟩:=ae;simp only[ai] at q2;obtain ⟨ad,q2⟩:=q2;exact ⟨ad,0,[],by simpa[bm,I.isAgg,q2] using q1.symm,by simp,by simp[maxLen],by simp[aK],by simp,fun h=>absurd rfl h⟩
 case slice z es =>
  split at hs
  ·rename_i hz;simp only[v6] at hs;subst hs hz;obtain ⟨ad,cap,e1,e2,e3,e4,e5⟩:=mL ae;rcases e4 with rfl | ⟨b,off,cs,rfl,q1,q2⟩
   ·exact ⟨ad,cap,[],e1,e2,e3,by simp[aK],by simp,fun h=>absurd rfl h⟩
   ·exact ⟨_,cap,cs,e1,e2,e3,q2,e5,fun _=>⟨b,off,rfl,fun j u hj=>(q1 j u hj).1⟩⟩
  ·cases hs
 case own n l =>
  split at hs
  ·rename_i T z es hn;split at hs
   ·rename_i hz;obtain ⟨hz1,rfl⟩:=hz;simp only[v6] at hs;subst hs;obtain ⟨aL,k1,k2,k3⟩:=h.b6 hn;obtain ⟨cs,q1,q2⟩:=ae;simp only[ai] at q2;obtain ⟨blk',l',g1,g2,_,g4⟩:=q2;rw[k1] at g1;simp only[v6,bL.rw.injEq] at g1;obtain ⟨rfl,rfl⟩:=g1
    replace g4:=g4 hz1
    cases aL with
    |none =>
     simp only at k3 g4;subst k3;have hv':v=.slice none 0 0:=by rw[g4] at q1;simpa[bm,I.isAgg] using q1.symm
     exact ⟨none,0,[],hv',by simp,by simp[maxLen],by simp[aK],by simp,fun h=>absurd rfl h⟩
    |some bc =>
     obtain ⟨b,cap⟩:=bc;simp only at g4;obtain ⟨cs',pre,rest,k4,k5,k6,k7,k8,k9,k10,k11⟩:=k3;refine ⟨some ⟨b,0,none⟩,cap,pre,by rw[←hz1];simpa[bm,I.isAgg,g4] using q1.symm,k9,k10,k7,k2,fun _=>⟨b,0,rfl,fun j u hj =>?_⟩⟩;have:=(wu (D:=fun _ _=>True) (c1:=[]) (c2:=pre) (c3:=rest) k5 (by simpa using k6) (fun _ _=>trivial)) j u hj;simpa using this.1
   ·cases hs
  ·cases hs
 case view n p z lo k =>
  split at hs
  ·rename_i fs hx;split at hs
   ·rename_i hk;obtain ⟨hk,rfl⟩:=hk;simp only[v6] at hs;subst hs;obtain ⟨y,b,cs,T,off,c1,c2,c3,k1,k2,k3,k4,k5,k6,k7,k8,k9,k10,k11,k12,rfl⟩:=h.view ae hx;obtain ⟨d1,d2,d3,rfl,q1,q2,q3⟩:=wo k8 k10 lo k hk;have hlen:((fs.drop lo).take k).length=k:=by rw[zz6,zv3];omega
    refine ⟨some ⟨b,off+lo*z,none⟩,fs.length-lo,d2,by rw[hlen],by rw[hlen];omega,by omega,q2,fun y hy=>k10 y (List.mem_of_mem_drop (zx9 hy)),fun _=>⟨b,_,rfl,fun j u hj =>?_⟩⟩;have:=(wq (D:=fun _ _=>True) (c1:=c1++d1) (c2:=d2) (c3:=d3++c3) k3 (by rw[k6];simp) (fun _ _=>trivial)) j u hj;rw[zz1,k7,q1] at this;exact this.1
   ·cases hs
  ·cases hs
theorem aT.jd(h:aT c A a w D E){n:Nat}{p:List Nat}{sz j:Nat}{y:I}{fs ys:List I}{b off:Nat}{cs:Array Value}{T:TypeId}{c1 c2 c3 ds:List Value}(hn:A.o n=some (.box y))(aE:E n=some (.aG b y.aN))(hb:ff w b cs T y.aN)
  (hat:y.at p=some (.agg fs)) (hoff:y.aN.off p=some off) (hcs:cs.toList=c1++c2++c3) (hc1:c1.length=off) (hfs:aK w D E fs c2) (hy:ai w D E y cs.toList) (hsz:∀ f∈fs,f.size=sz) (hys:aK w D E ys ds) (hj:j+ys.length≤fs.length)
  (hsh:I.cB ys=I.cB ((fs.drop j).take ys.length)) (P:Program) :
  ∃ w',(storeCells ⟨b,off+j*sz,none⟩ ds 0).run P w=.ok () w'∧aT c (A.aM n (.box (y.dR p (.agg (fs.take j++(ys++fs.drop (j+ys.length))))))) a w' D E:=by
 obtain ⟨d1,d2,d3,rfl,q1,q2,q3⟩:=wo hfs hsz j ys.length hj;have hd1:aK w D E (fs.take j) d1:=by
  have e1:fs=fs.take j++fs.drop j:=(zw1 j fs).symm;rw[e1] at hfs;obtain ⟨e1,e2,he,k1,k2⟩:=wm _ _ _ hfs;have hl:e1.length=d1.length:=by
   rw[aK.length _ _ k1,I.iJ _ (fun x hx=>hsz x (zx9 hx)),q1,zz6];congr 1;omega
  have:e1=d1:=by
   have:=congrArg (List.take d1.length) he;rw[zu8,←hl,zu8] at this;exact this.symm
  rw[←this];exact k1
 have hlen:ds.length=d2.length:=by rw[aK.length _ _ hys,aK.length _ _ q2,←I.nO,←I.nO,hsh]
 have hds:ai w D E (.agg (fs.take j++(ys++fs.drop (j+ys.length)))) (d1++(ds++d3)):=by
  simp only[ai];refine kv _ _ _ _ hd1 (kv _ _ _ _ hys ?_);rw[List.drop_drop] at q3;exact q3
 have hshape:(I.agg (fs.take j++(ys++fs.drop (j+ys.length)))).aN=(I.agg fs).aN:=by
  simp only[I.aN,cg.dP.injEq,I.c7,zw3];rw[←I.c7 ys,hsh,I.c7,←zw3,←zw3]
  congr 1
  rw[←List.drop_drop,zw1,zw1]
 obtain ⟨off',g1,g2,g3,g4⟩:=wj p y _ _ _ _ hy hat hds hshape;rw[hoff,v6] at g1;subst g1;have hst:=wE P b (off+j*sz) T ds 0 cs w hb (by
  have:cs.size=cs.toList.length:=by simp
  rw[this,hcs];simp only[zz1];omega) (aK.mD _ _ hys)
 simp only[Nat.add_zero] at hst;refine ⟨_,hst,?_⟩;refine h.Ao hn aE g4 ?_;have e:cs.toList.take (off+j*sz)++ds++cs.toList.drop (off+j*sz+ds.length)=cs.toList.take off++(d1++(ds++d3))++cs.toList.drop (off+(d1++(ds++d3)).length):=by
  rw[hcs];have t1:(c1++(d1++(d2++d3))++c3).take (off+j*sz)=c1++d1:=by
   rw[←hc1,←q1,zz7,List.take_length_add_append,zz7,zu8]
  have t2:(c1++(d1++(d2++d3))++c3).drop (off+j*sz+ds.length)=d3++c3:=by
   rw[←hc1,←q1,hlen,zz7,Nat.add_assoc,List.drop_length_add_append,zz7,List.drop_length_add_append,zz7,List.drop_left]
  have t3:(c1++(d1++(d2++d3))++c3).take off=c1:=by rw[←hc1,zz7,zu8]
  have t4:(c1++(d1++(d2++d3))++c3).drop (off+(d1++(ds++d3)).length)=c3:=by
   have:(d1++(ds++d3)).length=(d1++(d2++d3)).length:=by simp[hlen]
   rw[this,←hc1,zz7,List.drop_length_add_append,List.drop_left]
  rw[t1,t2,t3,t4];simp
 rw[e];simpa using g3
end
end Go.Abs
