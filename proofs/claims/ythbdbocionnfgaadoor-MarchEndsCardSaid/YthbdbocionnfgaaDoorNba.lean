/-
  A part of the proof that the law MarchEnds returns true for every input; three tables of Go's library start as the text lays them (the card ties them); conditions: none beyond the statement's own. (part 1 of 7)
-/
import Derived.WalkKit
import Derived.Orders
import Derived.Still
import Derived.RangeFuncSeq
import Derived.RangeFuncLeaves
import Derived.RangeFuncOwn
import Derived.Great.FillDense
import Derived.Great.BuildSlice
import Derived.ChangeKeysEq
import Derived.Laws.AppendOwn
import Derived.Lib.AppendZerosOnto
set_option linter.unusedSimpArgs false
set_option linter.unusedVariables false
set_option maxHeartbeats 16000000
set_option maxRecDepth 100000
namespace Go
theorem y6:type_of% @And.intro:=@And.intro
theorem u8:type_of% @Option.some.injEq:=@Option.some.injEq
theorem t7:type_of% @Nat.le_of_ble_eq_true:=@Nat.le_of_ble_eq_true
theorem zz0:type_of% @Option.map_eq_some_iff:=@Option.map_eq_some_iff
theorem zz1:type_of% @Bool.and_eq_true:=@Bool.and_eq_true
theorem zz2:type_of% @List.getD_eq_getElem?_getD:=@List.getD_eq_getElem?_getD
theorem zz3:type_of% @List.cons_append:=@List.cons_append
theorem zz4:type_of% @Nat.zero_add:=@Nat.zero_add
theorem zz5:type_of% @Bool.false_eq_true:=@Bool.false_eq_true
theorem zz6:type_of% @List.length_append:=@List.length_append
theorem zz7:type_of% @List.map_cons:=@List.map_cons
theorem zz8:type_of% @List.length_map:=@List.length_map
theorem zz9:type_of% @Nat.le_refl:=@Nat.le_refl
theorem zy0:type_of% @List.getElem?_eq_some_iff:=@List.getElem?_eq_some_iff
theorem zy1:type_of% @List.append_nil:=@List.append_nil
theorem zy2:type_of% @List.mem_singleton:=@List.mem_singleton
theorem zy3:type_of% @List.take_succ_eq_append_getElem:=@List.take_succ_eq_append_getElem
theorem zy4:type_of% @List.append_assoc:=@List.append_assoc
theorem zy5:type_of% @List.nil_append:=@List.nil_append
theorem zy6:type_of% @Option.map_some:=@Option.map_some
theorem zy7:type_of% @List.mem_map:=@List.mem_map
theorem zy8:type_of% @List.mem_append:=@List.mem_append
theorem zy9:type_of% @List.mem_range:=@List.mem_range
theorem zx0:type_of% @List.getElem?_append_left:=@List.getElem?_append_left
theorem zx1:type_of% @Array.getElem?_eq_some_iff:=@Array.getElem?_eq_some_iff
theorem zx2:type_of% @List.map_append:=@List.map_append
theorem zx3:type_of% @List.getElem?_eq_getElem:=@List.getElem?_eq_getElem
theorem zx4:type_of% @Option.isSome_iff_exists:=@Option.isSome_iff_exists
theorem zx5:type_of% @List.mem_filter:=@List.mem_filter
theorem zx6:type_of% @List.all_eq_true:=@List.all_eq_true
theorem zx7:type_of% @List.getElem?_map:=@List.getElem?_map
theorem zx8:type_of% @List.map_nil:=@List.map_nil
theorem zx9:type_of% @List.length_take:=@List.length_take
theorem zw0:type_of% @List.filter_cons:=@List.filter_cons
theorem zw1:type_of% @List.getD_cons_zero:=@List.getD_cons_zero
theorem zw2:type_of% @List.getD_cons_succ:=@List.getD_cons_succ
theorem zw3:type_of% @List.take_succ_cons:=@List.take_succ_cons
theorem zw4:type_of% @Array.length_toList:=@Array.length_toList
theorem zw5:type_of% @Nat.zero_le:=@Nat.zero_le
theorem zw6:type_of% @Array.getElem?_toList:=@Array.getElem?_toList
theorem zw7:type_of% @List.mem_cons:=@List.mem_cons
theorem zw8:type_of% @List.length_cons:=@List.length_cons
theorem zw9:type_of% @List.getElem_mem:=@List.getElem_mem
theorem zv0:type_of% @List.mem_of_mem_erase:=@List.mem_of_mem_erase
theorem zv1:type_of% @List.getElem?_append_right:=@List.getElem?_append_right
theorem zv2:type_of% @Bool.true_eq_false:=@Bool.true_eq_false
theorem zv3:type_of% @List.take_length:=@List.take_length
theorem zv4:type_of% @List.countP_eq_length_filter:=@List.countP_eq_length_filter
theorem zv5:type_of% @Option.bind_eq_some_iff:=@Option.bind_eq_some_iff
theorem zv6:type_of% @List.cons.injEq:=@List.cons.injEq
theorem zv7:type_of% @List.mem_append_left:=@List.mem_append_left
theorem zv8:type_of% @List.nodup_append:=@List.nodup_append
theorem zv9:type_of% @Nat.le_trans:=@Nat.le_trans
end Go
namespace Go.Abs
open Go
inductive I where
 |undef | dx
 |bool (b:Bool)
 |int (k:IntKind) (n:Int)
 |bT (s:ByteArray)
 |nilp | dE | ed
 |any
 |raw (v:Value)
 |nils (sz:Nat)
 |c0 (sz:Nat)
 |slice (sz:Nat) (es:List I)
 |agg (fs:List I)
 |tuple (fs:List I)
 |ref (c:I)
 |func (f:FuncId) (caps:List I)
 |iface (t:TypeId) (v:I)
 |ptr (n:Nat) (p:List Nat)
 |own (n:Nat) (k:Nat)
 |view (n:Nat) (p:List Nat) (sz lo k:Nat)
 |mref (n:Nat)
 |dv (n:Nat)
 |dp (ks vs:List I)
 deriving Inhabited
inductive cW where
 |one
 |eS (l:List cW)
 deriving Inhabited
mutual
def cW.size:cW→Nat
 | .one=>1
 | .eS l=>cW.sizes l
def cW.sizes:List cW→Nat
 | []=>0
 |s::l=>s.size+cW.sizes l
end
mutual
def I.bh:I→cW
 | .agg fs=>.eS (I.cZ fs)
 |_=>.one
def I.cZ:List I→List cW
 | []=>[]
 |f::fs=>f.bh::I.cZ fs
end
mutual
def I.size:I→Nat
 | .agg fs=>I.sizes fs
 |_=>1
def I.sizes:List I→Nat
 | []=>0
 |f::fs=>f.size+I.sizes fs
end
def I.isAgg:I→Bool
 | .agg _=>true
 |_=>false
def cW.off:cW→List Nat→Option Nat
 |_,[]=>some 0
 | .one,_::_=>none
 | .eS l,i::p=>match l[i]? with
  |some s=>(s.off p).map (cW.sizes (l.take i) + ·)
  |none=>none
def cW.part:cW→List Nat→Option cW
 |s,[]=>some s
 | .one,_::_=>none
 | .eS l,i::p=>match l[i]? with
  |some s=>s.part p
  |none=>none
def I.at:I→List Nat→Option I
 |c,[]=>some c
 | .agg fs,i::p=>match fs[i]? with
  |some f=>f.at p
  |none=>none
 |_,_::_=>none
def I.eF:I→List Nat→I→I
 |_,[],v=>v
 | .agg fs,i::p,v=>match fs[i]? with
  |some f=>.agg (fs.set i (f.eF p v))
  |none=>.agg fs
 |c,_::_,_=>c
inductive bO where
 |aR (b:Nat) (bh:cW)
 |rw (aP:Option (Nat×Nat)) (len:Nat)
 |op (b:Nat)
 |bE (b:Nat)
 |it (b:Nat)
def bO.en:bO→Bool
 | .rw _ _=>false
 |_=>true
def bO.le(e e':bO):Prop:=e'=e∨∃ aP l blk' l',e=.rw aP l∧e'=.rw blk' l'∧l≤l'∧(l'=l→blk'=aP)
theorem bO.le.refl(e:bO):e.le e:=.inl rfl
theorem bO.le.eq{e e':bO}(h:e.le e')(hf:e.en=true):e'=e:=by
 rcases h with h | ⟨aP,l,blk',l',rfl,_⟩
 ·exact h
 ·cases hf
theorem bO.le.trans{a b c:bO}(h:a.le b)(k:b.le c):a.le c:=by
 rcases h with rfl | ⟨aP,l,blk',l',rfl,rfl,U,ab⟩
 ·exact k
 ·rcases k with rfl | ⟨_,_,blk2,l2,e,rfl,af,ar⟩
  ·exact .inr ⟨aP,l,blk',l',rfl,rfl,U,ab⟩
  ·cases e;exact .inr ⟨aP,l,blk2,l2,rfl,rfl,by omega,fun e=>by rw[ar (by omega),ab (by omega)]⟩
abbrev aX:=Nat→Nat→Prop
abbrev bj:=Nat→Option bO
def reads(w:World)(D:aX)(b off:Nat)(cs:List Value):Prop :=
 ∀ j v,cs[j]?=some v→w.cell? ⟨b,off+j,none⟩=some v∧D b (off+j)
def qt(es:Array MapEntry)(clock:Nat):Prop:=(∀ x∈es.toList,x.born<clock)∧(es.toList.map (·.born)).Nodup
def pR(w:World)(D:aX)(b:Nat)(es:Array MapEntry)(clock:Nat):Prop:=w.heap[b]?=some (.map es clock)∧D b 0∧qt es clock
def bI(e:I)(v:Value)(cs:List Value):Prop:=if e.isAgg then v=.agg cs.toArray else cs=[v]
def kp(f:Nat)(vs:List Value):Value:=if f<1000000 then .func (.func f) #[] vs.toArray else .func (.func (f-1000000)) vs.toArray #[]
theorem oC{f:Nat}(h:f<1000000)(vs:List Value):kp f vs=.func (.func f) #[] vs.toArray:=by simp only[kp,if_pos h]
theorem sH(f:Nat)(vs:List Value):kp (f+1000000) vs=.func (.func f) vs.toArray #[]:=by
 simp only[kp,if_neg (show ¬ f+1000000<1000000 by omega),Nat.add_sub_cancel]
theorem PF{f:Nat}{vs vs':List Value}(h:kp f vs=kp f vs'):vs=vs':=by
 rcases Nat.lt_or_ge f 1000000 with hf | hf
 ·rw[oC hf,oC hf] at h;simpa using h
 ·obtain ⟨g,rfl⟩:∃ g,f=g+1000000:=⟨f-1000000,by omega⟩
  rw[sH,sH] at h;simpa using h
theorem Dq(f:Nat)(vs:List Value):(kp f vs).oneCell'=true:=by
 simp only[kp];split <;>simp[Value.oneCell']
mutual
/-- These cells hold this value. -/
def ao(w:World)(D:aX)(E:bj):I→List Value→Prop
 | .agg fs,cs=>aU w D E fs cs
 | .bool b,cs=>cs=[.bool b]
 | .int k n,cs=>cs=[.int k n]∧k.min≤n∧n≤k.max
 | .bT s,cs=>cs=[.string s]∧s.size≤maxLen
 | .nilp,cs=>cs=[.pointer none]
 | .dE,cs=>cs=[.nilFunc]
 | .ed,cs=>cs=[.nilIface]
 | .any,cs=>∃ v:Value,cs=[v]∧v.oneCell'=true
 | .raw u,cs=>cs=[u]∧u.oneCell'=true
 | .nils _,cs=>cs=[.slice none 0 0]
 | .c0 _,cs=>∃ a,cs=[.slice a 0 0]
 | .slice sz es,cs=>∃ a cap,cs=[.slice a es.length cap]∧es.length≤cap∧cap≤maxLen ∧
   (es=[]∨∃ b off cs',a=some ⟨b,off,none⟩∧reads w D b off cs'∧aU w D E es cs')∧∀ e∈es,e.size=sz
 | .ref c,cs=>∃ b off cs',cs=[.pointer (some ⟨b,off,none⟩)]∧reads w D b off cs'∧ao w D E c cs'
 | .func f caps,cs=>∃ vs:List Value,cs=[kp f vs]∧aO w D E caps vs
 | .iface t v,cs=>∃ u cs',cs=[.iface t u]∧bI v u cs'∧ao w D E v cs'
 | .ptr n p,cs=>∃ b bh off,E n=some (.aR b bh)∧bh.off p=some off∧cs=[.pointer (some ⟨b,off,none⟩)]
 | .own n k,cs=>∃ aP l,E n=some (.rw aP l)∧k≤l∧(∃ a m c,cs=[.slice a m c]) ∧
   (k=l→match aP with | none=>cs=[.slice none 0 0] | some (b,cap)=>cs=[.slice (some ⟨b,0,none⟩) k cap])
 | .view n p sz lo k,cs=>∃ b bh off l,E n=some (.aR b bh)∧bh.off p=some off∧bh.part p=some (.eS l)∧cs=[.slice (some ⟨b,off+lo*sz,none⟩) k (l.length-lo)]∧l.length≤maxLen∧lo+k≤l.length∧∀ s∈l,s.size=sz
 | .mref n,cs=>∃ b,E n=some (.bE b)∧cs=[.map (some b)]
 | .dv n,cs=>∃ b,E n=some (.it b)∧cs=[.pointer (some ⟨b,0,none⟩)]
 | .dp ks vs,cs=>∃ b es clock,cs=[.map (some b)]∧pR w D b es clock∧aO w D E ks (es.toList.map (·.key))∧aO w D E vs (es.toList.map (·.val))
 | .undef,_ | .dx,_ | .tuple _,_=>False
def aU(w:World)(D:aX)(E:bj):List I→List Value→Prop
 | [],cs=>cs=[]
 |e::es,cs=>∃ c1 c2,cs=c1++c2∧ao w D E e c1∧aU w D E es c2
def aO(w:World)(D:aX)(E:bj):List I→List Value→Prop
 | [],vs=>vs=[]
 |e::es,vs=>∃ v rest cs,vs=v::rest∧bI e v cs∧ao w D E e cs∧aO w D E es rest
end
def bl(w:World)(D:aX)(E:bj)(x:I)(v:Value):Prop :=
 match x with
 | .undef=>v=undef
 | .dx=>True
 | .tuple fs=>∃ vs:List Value,v=.tuple vs.toArray∧aO w D E fs vs
 |x=>∃ cs,bI x v cs∧ao w D E x cs
structure ec (w:World) (D:aX) (E:bj) (w':World) (D':aX) (E':bj):Prop where
 c6:∀ b o,D b o→D' b o
 cell:∀ b o v,D b o→w.cell? ⟨b,o,none⟩=some v→w'.cell? ⟨b,o,none⟩=some v
 aR:∀ n b bh,E n=some (.aR b bh)→E' n=some (.aR b bh)
 rw:∀ n aP l,E n=some (.rw aP l)→∃ blk' l',E' n=some (.rw blk' l')∧l≤l'∧(l'=l→blk'=aP)
 bE:∀ n b,E n=some (.bE b)→E' n=some (.bE b)
 it:∀ n b,E n=some (.it b)→E' n=some (.it b)
 j0:∀ b es ck,D b 0→w.heap[b]?=some (.map es ck)→w'.heap[b]?=some (.map es ck)
structure iE (w:World) (D:aX) (w':World):Prop where
 cell:∀ b o v,D b o→w.cell? ⟨b,o,none⟩=some v→w'.cell? ⟨b,o,none⟩=some v
 j0:∀ b es ck,D b 0→w.heap[b]?=some (.map es ck)→w'.heap[b]?=some (.map es ck)
theorem iE.refl(w:World)(D:aX):iE w D w:=⟨fun _ _ _ _ h=>h,fun _ _ _ _ h=>h⟩
theorem iE.trans{w w' w'':World}{D D':aX}(h:iE w D w')(hD:∀ b o,D b o→D' b o)(k:iE w' D' w''):iE w D w'' :=
 ⟨fun b o v ah hv=>k.cell b o v (hD b o ah) (h.cell b o v ah hv),fun b es ck ah hm=>k.j0 b es ck (hD b 0 ah) (h.j0 b es ck ah hm)⟩
theorem ec.fA{w w':World}{D D':aX}{E E':bj}(h:ec w D E w' D' E'):iE w D w':=⟨h.cell,h.j0⟩
theorem pR.later{w w':World}{D D':aX}{E E':bj}(h:ec w D E w' D' E'){b:Nat}{es:Array MapEntry}{clock:Nat}(hr:pR w D b es clock):pR w' D' b es clock :=
 ⟨h.j0 _ _ _ hr.2.1 hr.1,h.c6 _ _ hr.2.1,hr.2.2⟩
theorem reads.later{w w':World}{D D':aX}{E E':bj}(h:ec w D E w' D' E'){b off:Nat}{cs:List Value}(hr:reads w D b off cs):reads w' D' b off cs :=
 fun j v hj=>⟨h.cell _ _ _ (hr j v hj).2 (hr j v hj).1,h.c6 _ _ (hr j v hj).2⟩
mutual
theorem ao.later{w w':World}{D D':aX}{E E':bj}(h:ec w D E w' D' E'):∀ (x:I) (cs:List Value),ao w D E x cs→ao w' D' E' x cs
 | .agg fs,cs,hr=>by simp only[ao] at *;exact aU.later h fs cs hr
 | .bool b,cs,hr=>by simpa only[ao] using hr
 | .int k n,cs,hr=>by simpa only[ao] using hr
 | .bT s,cs,hr=>by simpa only[ao] using hr
 | .nilp,cs,hr=>by simpa only[ao] using hr
 | .dE,cs,hr=>by simpa only[ao] using hr
 | .ed,cs,hr | .any,cs,hr=>by simpa only[ao] using hr
 | .raw _,cs,hr=>by simpa only[ao] using hr
 | .nils _,cs,hr=>by simpa only[ao] using hr
 | .c0 _,cs,hr=>by simpa only[ao] using hr
 | .slice sz es,cs,hr=>by
  simp only[ao] at *;obtain ⟨a,cap,U,ab,af,ar,h5⟩:=hr;refine ⟨a,cap,U,ab,af,?_,h5⟩;rcases ar with ar | ⟨b,off,cs',h6,h7,h8⟩
  ·exact .inl ar
  ·exact .inr ⟨b,off,cs',h6,h7.later h,aU.later h es cs' h8⟩
 | .ref c,cs,hr=>by
  simp only[ao] at *;obtain ⟨b,off,cs',U,ab,af⟩:=hr;exact ⟨b,off,cs',U,ab.later h,ao.later h c cs' af⟩
 | .func f caps,cs,hr=>by
  simp only[ao] at *;obtain ⟨vs,U,ab⟩:=hr;exact ⟨vs,U,aO.later h caps vs ab⟩
 | .iface t v,cs,hr=>by
  simp only[ao] at *;obtain ⟨u,cs',U,ab,af⟩:=hr;exact ⟨u,cs',U,ab,ao.later h v cs' af⟩
 | .ptr n p,cs,hr=>by
  simp only[ao] at *;obtain ⟨b,bh,off,U,ab,af⟩:=hr;exact ⟨b,bh,off,h.aR _ _ _ U,ab,af⟩
 | .own n k,cs,hr=>by
  simp only[ao] at *;obtain ⟨aP,l,U,ab,af,ar⟩:=hr;obtain ⟨blk',l',h5,h6,h7⟩:=h.rw _ _ _ U;refine ⟨blk',l',h5,zv9 ab h6,af,fun e =>?_⟩;have e1:l'=l:=by omega
  rw[h7 e1];exact ar (by omega)
 | .view n p _ _ _,cs,hr=>by
  simp only[ao] at *;obtain ⟨b,bh,off,l,U,ab⟩:=hr;exact ⟨b,bh,off,l,h.aR _ _ _ U,ab⟩
 | .mref n,cs,hr=>by
  simp only[ao] at *;obtain ⟨b,U,ab⟩:=hr;exact ⟨b,h.bE _ _ U,ab⟩
 | .dv n,cs,hr=>by
  simp only[ao] at *;obtain ⟨b,U,ab⟩:=hr;exact ⟨b,h.it _ _ U,ab⟩
 | .dp ks vs,cs,hr=>by
  simp only[ao] at *;obtain ⟨b,es,clock,U,ab,af,ar⟩:=hr;exact ⟨b,es,clock,U,ab.later h,aO.later h ks _ af,aO.later h vs _ ar⟩
 | .undef,_,hr=>by simp only[ao] at hr
 | .dx,_,hr=>by simp only[ao] at hr
 | .tuple _,_,hr=>by simp only[ao] at hr
theorem aU.later{w w':World}{D D':aX}{E E':bj}(h:ec w D E w' D' E'):∀ (xs:List I) (cs:List Value),aU w D E xs cs→aU w' D' E' xs cs
 | [],cs,hr=>by simpa only[aU] using hr
 |x::xs,cs,hr=>by
  simp only[aU] at *;obtain ⟨c1,c2,U,ab,af⟩:=hr;exact ⟨c1,c2,U,ao.later h x c1 ab,aU.later h xs c2 af⟩
theorem aO.later{w w':World}{D D':aX}{E E':bj}(h:ec w D E w' D' E'):∀ (xs:List I) (vs:List Value),aO w D E xs vs→aO w' D' E' xs vs
 | [],vs,hr=>by simpa only[aO] using hr
 |x::xs,vs,hr=>by
  simp only[aO] at *;obtain ⟨v,rest,cs,U,ab,af,ar⟩:=hr;exact ⟨v,rest,cs,U,ab,ao.later h x cs af,aO.later h xs rest ar⟩
end
theorem bl.later{w w':World}{D D':aX}{E E':bj}(h:ec w D E w' D' E'){x:I}{v:Value}(hr:bl w D E x v):bl w' D' E' x v:=by
 cases x <;>simp only[bl] at * <;>first
  |exact hr
  |(obtain ⟨vs,U,ab⟩:=hr;exact ⟨vs,U,aO.later h _ _ ab⟩)
  |(obtain ⟨cs,U,ab⟩:=hr;exact ⟨cs,U,ao.later h _ _ ab⟩)
mutual
theorem I.mJ:∀ x:I,x.bh.size=x.size
 | .agg fs=>by simp only[I.bh,I.size,cW.size];exact I.nW fs
 | .undef | .dx | .bool _ | .int _ _ | .bT _ | .nilp | .dE | .ed | .any | .raw _ | .nils _ | .c0 _ | .slice _ _ | .tuple _ | .ref _ | .func _ _ | .iface _ _ | .ptr _ _ | .own _ _ | .view _ _ _ _ _ | .mref _ | .dv _ | .dp _ _=>by simp only[I.bh,I.size,cW.size]
theorem I.nW:∀ xs:List I,cW.sizes (I.cZ xs)=I.sizes xs
 | []=>by simp only[I.cZ,I.sizes,cW.sizes]
 |x::xs=>by simp only[I.cZ,I.sizes,cW.sizes];rw[I.mJ x,I.nW xs]
end
mutual
theorem ao.length{w:World}{D:aX}{E:bj} : ∀ (x:I) (cs:List Value),ao w D E x cs→cs.length=x.size
 | .agg fs,cs,hr=>by simp only[ao,I.size] at *;exact aU.length fs cs hr
 | .bool b,cs,hr=>by simp only[ao] at hr;simp[hr,I.size]
 | .int k n,cs,hr=>by simp only[ao] at hr;simp[hr.1,I.size]
 | .bT s,cs,hr=>by simp only[ao] at hr;simp[hr.1,I.size]
 | .nilp,cs,hr=>by simp only[ao] at hr;simp[hr,I.size]
 | .dE,cs,hr=>by simp only[ao] at hr;simp[hr,I.size]
 | .ed,cs,hr=>by simp only[ao] at hr;simp[hr,I.size]
 | .any,cs,hr=>by simp only[ao] at hr;obtain ⟨v,rfl,_⟩:=hr;simp[I.size]
 | .raw u,cs,hr=>by simp only[ao] at hr;simp[hr.1,I.size]
 | .nils _,cs,hr=>by simp only[ao] at hr;simp[hr,I.size]
 | .c0 _,cs,hr=>by simp only[ao] at hr;obtain ⟨a,rfl⟩:=hr;simp[I.size]
 | .slice sz es,cs,hr=>by simp only[ao] at hr;obtain ⟨a,cap,rfl,_⟩:=hr;simp[I.size]
 | .ref c,cs,hr=>by simp only[ao] at hr;obtain ⟨b,off,cs',rfl,_⟩:=hr;simp[I.size]
 | .func f caps,cs,hr=>by simp only[ao] at hr;obtain ⟨vs,rfl,_⟩:=hr;simp[I.size]
 | .iface t v,cs,hr=>by simp only[ao] at hr;obtain ⟨u,cs',rfl,_⟩:=hr;simp[I.size]
 | .ptr n p,cs,hr=>by simp only[ao] at hr;obtain ⟨b,bh,off,_,_,rfl⟩:=hr;simp[I.size]
 | .own n k,cs,hr=>by simp only[ao] at hr;obtain ⟨aP,l,_,_,⟨a,m,c,rfl⟩,_⟩:=hr;simp[I.size]
 | .view n p _ _ _,cs,hr=>by simp only[ao] at hr;obtain ⟨b,bh,off,l,_,_,_,rfl,_⟩:=hr;simp[I.size]
 | .mref n,cs,hr=>by simp only[ao] at hr;obtain ⟨b,_,rfl⟩:=hr;simp[I.size]
 | .dv n,cs,hr=>by simp only[ao] at hr;obtain ⟨b,_,rfl⟩:=hr;simp[I.size]
 | .dp ks vs,cs,hr=>by simp only[ao] at hr;obtain ⟨b,es,ck,rfl,_⟩:=hr;simp[I.size]
 | .undef,_,hr=>by simp only[ao] at hr
 | .dx,_,hr=>by simp only[ao] at hr
 | .tuple _,_,hr=>by simp only[ao] at hr
theorem aU.length{w:World}{D:aX}{E:bj} : ∀ (xs:List I) (cs:List Value),aU w D E xs cs→cs.length=I.sizes xs
 | [],cs,hr=>by simp only[aU] at hr;simp[hr,I.sizes]
 |x::xs,cs,hr=>by
  simp only[aU] at hr;obtain ⟨c1,c2,rfl,U,ab⟩:=hr;simp only[zz6,I.sizes,ao.length x c1 U,aU.length xs c2 ab]
end
mutual
theorem ao.nz{w:World}{D:aX}{E:bj} : ∀ (x:I) (cs:List Value),ao w D E x cs→∀ v∈cs,v.oneCell'=true
 | .agg fs,cs,hr=>by simp only[ao] at hr;exact aU.nz fs cs hr
 | .bool b,cs,hr=>by simp only[ao] at hr;simp[hr,Value.oneCell']
 | .int k n,cs,hr=>by simp only[ao] at hr;simp[hr.1,Value.oneCell']
 | .bT s,cs,hr=>by simp only[ao] at hr;simp[hr.1,Value.oneCell']
 | .nilp,cs,hr=>by simp only[ao] at hr;simp[hr,Value.oneCell']
 | .dE,cs,hr=>by simp only[ao] at hr;simp[hr,Value.oneCell']
 | .ed,cs,hr=>by simp only[ao] at hr;simp[hr,Value.oneCell']
 | .any,cs,hr=>by simp only[ao] at hr;obtain ⟨v,rfl,h⟩:=hr;simpa using h
 | .raw u,cs,hr=>by simp only[ao] at hr;simpa[hr.1] using hr.2
 | .nils _,cs,hr=>by simp only[ao] at hr;simp[hr,Value.oneCell']
 | .c0 _,cs,hr=>by simp only[ao] at hr;obtain ⟨a,rfl⟩:=hr;simp[Value.oneCell']
 | .slice sz es,cs,hr=>by simp only[ao] at hr;obtain ⟨a,cap,rfl,_⟩:=hr;simp[Value.oneCell']
 | .ref c,cs,hr=>by simp only[ao] at hr;obtain ⟨b,off,cs',rfl,_⟩:=hr;simp[Value.oneCell']
 | .func f caps,cs,hr=>by simp only[ao] at hr;obtain ⟨vs,rfl,_⟩:=hr;simp only[kp];split <;>simp[Value.oneCell']
 | .iface t v,cs,hr=>by simp only[ao] at hr;obtain ⟨u,cs',rfl,_⟩:=hr;simp[Value.oneCell']
 | .ptr n p,cs,hr=>by simp only[ao] at hr;obtain ⟨b,bh,off,_,_,rfl⟩:=hr;simp[Value.oneCell']
 | .own n k,cs,hr=>by simp only[ao] at hr;obtain ⟨aP,l,_,_,⟨a,m,c,rfl⟩,_⟩:=hr;simp[Value.oneCell']
 | .view n p _ _ _,cs,hr=>by simp only[ao] at hr;obtain ⟨b,bh,off,l,_,_,_,rfl,_⟩:=hr;simp[Value.oneCell']
 | .mref n,cs,hr=>by simp only[ao] at hr;obtain ⟨b,_,rfl⟩:=hr;simp[Value.oneCell']
 | .dv n,cs,hr=>by simp only[ao] at hr;obtain ⟨b,_,rfl⟩:=hr;simp[Value.oneCell']
 | .dp ks vs,cs,hr=>by simp only[ao] at hr;obtain ⟨b,es,ck,rfl,_⟩:=hr;simp[Value.oneCell']
 | .undef,_,hr=>by simp only[ao] at hr
 | .dx,_,hr=>by simp only[ao] at hr
 | .tuple _,_,hr=>by simp only[ao] at hr
theorem aU.nz{w:World}{D:aX}{E:bj} : ∀ (xs:List I) (cs:List Value),aU w D E xs cs→∀ v∈cs,v.oneCell'=true
 | [],cs,hr=>by simp only[aU] at hr;simp[hr]
 |x::xs,cs,hr=>by
  simp only[aU] at hr;obtain ⟨c1,c2,rfl,U,ab⟩:=hr;intro v hv;rcases zy8.1 hv with h | h
  ·exact ao.nz x c1 U v h
  ·exact aU.nz xs c2 ab v h
end
theorem bI.cells{x:I}{v:Value}{cs:List Value}{w:World}{D:aX}{E:bj}(h:bI x v cs)(hr:ao w D E x cs):v.cells.toList=cs:=by
 unfold bI at h;split at h
 ·rw[h];simp[Value.cells]
 ·subst h;have:=ao.nz x _ hr v (by simp);cases v <;>simp[Value.cells,Value.oneCell'] at *
theorem nF{w:World}{D:aX}{E:bj} : ∀ (xs:List I) (cs:List Value) (i:Nat) (x:I),aU w D E xs cs→xs[i]?=some x →
  ∃ c1 c2 c3,cs=c1++c2++c3∧c1.length=I.sizes (xs.take i)∧aU w D E (xs.take i) c1∧ao w D E x c2∧aU w D E (xs.drop (i+1)) c3
 | [],_,i,x,_,h=>by simp at h
 |y::ys,cs,0,x,hr,h=>by
  simp only[List.getElem?_cons_zero,u8] at h;subst h;simp only[aU] at hr;obtain ⟨c1,c2,rfl,U,ab⟩:=hr;exact ⟨[],c1,c2,by simp,by simp[I.sizes],by simp[aU],U,by simpa using ab⟩
 |y::ys,cs,i+1,x,hr,h=>by
  simp only[List.getElem?_cons_succ] at h;simp only[aU] at hr;obtain ⟨c0,c',rfl,U,ab⟩:=hr;obtain ⟨c1,c2,c3,rfl,af,ar,h5,h6⟩:=nF ys c' i x ab h;refine ⟨c0++c1,c2,c3,by simp,?_,?_,h5,by simpa using h6⟩
  ·simp only[zz6,zw3,I.sizes,af,ao.length y c0 U]
  ·simp only[zw3,aU];exact ⟨c0,c1,rfl,U,ar⟩
theorem lu{w:World}{D:aX}{E:bj} : ∀ (xs ys:List I) (cs ds:List Value),aU w D E xs cs→aU w D E ys ds→aU w D E (xs++ys) (cs++ds)
 | [],ys,cs,ds,h,k=>by simp only[aU] at h;subst h;simpa using k
 |x::xs,ys,cs,ds,h,k=>by
  simp only[aU,zz3] at *;obtain ⟨c1,c2,rfl,U,ab⟩:=h;exact ⟨c1,c2++ds,by simp,U,lu xs ys c2 ds ab k⟩
theorem I.jq{sz:Nat} : ∀ (xs:List I),(∀ x∈xs,x.size=sz)→I.sizes xs=xs.length*sz
 | [],_=>by simp[I.sizes]
 |x::xs,h=>by
  simp only[I.sizes,zw8];rw[h x (by simp),I.jq xs (fun y hy=>h y (by simp[hy])),Nat.add_mul];omega
theorem I.dA:∀ xs:List I,I.cZ xs=xs.map I.bh
 | []=>by simp[I.cZ]
 |x::xs=>by simp[I.cZ,I.dA xs]
theorem zA{w:World}{D:aX}{E:bj} : ∀ (p:List Nat) (c x:I) (cs:List Value),ao w D E c cs→c.at p=some x →
  ∃ off c1 c2 c3,c.bh.off p=some off∧cs=c1++c2++c3∧c1.length=off∧ao w D E x c2
 | [],c,x,cs,hr,h=>by
  simp only[I.at,u8] at h;subst h;exact ⟨0,[],cs,[],by cases c.bh <;>simp[cW.off],by simp,rfl,hr⟩
 |i::p,.agg fs,x,cs,hr,h=>by
  simp only[I.at] at h;simp only[ao] at hr;cases hf:fs[i]? with
  |none=>simp[hf] at h
  |some f =>
   simp only[hf] at h;obtain ⟨c1,c2,c3,rfl,U,_,af,_⟩:=nF fs cs i f hr hf;obtain ⟨off,d1,d2,d3,ar,rfl,h6,h7⟩:=zA p f x c2 af h;refine ⟨I.sizes (fs.take i)+off,c1++d1,d2,d3++c3,?_,by simp,by simp[U,h6],h7⟩;simp only[I.bh,cW.off,I.dA,zx7,hf,zy6,ar];rw[←List.map_take,←I.dA,I.nW]
 |_::_,.undef,_,_,_,h | _::_,.dx,_,_,_,h | _::_,.bool _,_,_,_,h | _::_,.int _ _,_,_,_,h | _::_,.bT _,_,_,_,h | _::_,.nilp,_,_,_,h
 |_::_,.dE,_,_,_,h | _::_,.ed,_,_,_,h | _::_,.any,_,_,_,h | _::_,.raw _,_,_,_,h | _::_,.nils _,_,_,_,h | _::_,.c0 _,_,_,_,h | _::_,.slice _ _,_,_,_,h | _::_,.tuple _,_,_,_,h
 |_::_,.ref _,_,_,_,h | _::_,.func _ _,_,_,_,h | _::_,.iface _ _,_,_,_,h | _::_,.ptr _ _,_,_,_,h | _::_,.own _ _,_,_,_,h | _::_,.view _ _ _ _ _,_,_,_,h | _::_,.mref _,_,_,_,h | _::_,.dv _,_,_,_,h | _::_,.dp _ _,_,_,_,h=>by simp[I.at] at h
theorem vZ{w:World}{D:aX}{E:bj} : ∀ (p:List Nat) (c x y:I) (cs ds:List Value),ao w D E c cs→c.at p=some x→ao w D E y ds→y.bh=x.bh →
  ∃ off,c.bh.off p=some off∧off+ds.length≤cs.length∧ao w D E (c.eF p y) (cs.take off++ds++cs.drop (off+ds.length))∧(c.eF p y).bh=c.bh
 | [],c,x,y,cs,ds,hr,h,hy,hs=>by
  simp only[I.at,u8] at h;subst h;have hl:ds.length=cs.length:=by rw[ao.length _ _ hy,ao.length _ _ hr,←I.mJ,←I.mJ,hs]
  refine ⟨0,by cases c.bh <;>simp[cW.off],by omega,?_,by simpa[I.eF] using hs⟩;simpa[I.eF,hl] using hy
 |i::p,.agg fs,x,y,cs,ds,hr,h,hy,hs=>by
  simp only[I.at] at h;simp only[ao] at hr;cases hf:fs[i]? with
  |none=>simp[hf] at h
  |some f =>
   simp only[hf] at h;obtain ⟨c1,c2,c3,rfl,U,ab,af,h3'⟩:=nF fs cs i f hr hf;obtain ⟨off,ar,h5,h6,h7⟩:=vZ p f x y c2 ds af h hy hs;have hi:i<fs.length:=(zy0.1 hf).1;have hfi:fs[i]=f:=(zy0.1 hf).2;refine ⟨I.sizes (fs.take i)+off,?_,?_,?_,?_⟩
   ·simp only[I.bh,cW.off,I.dA,zx7,hf,zy6,ar];rw[←List.map_take,←I.dA,I.nW]
   ·simp only[zz6,U];omega
   ·simp only[I.eF,hf,ao];have e1:fs.set i (f.eF p y)=fs.take i++f.eF p y::fs.drop (i+1):=by rw[List.set_eq_take_append_cons_drop];simp[hi]
    rw[e1];have e2:(c1++c2++c3).take (I.sizes (fs.take i)+off)++ds++(c1++c2++c3).drop (I.sizes (fs.take i)+off+ds.length)=c1++((c2.take off++ds++c2.drop (off+ds.length))++c3):=by
     rw[←U,zy4 c1 c2 c3,List.take_length_add_append,Nat.add_assoc,List.drop_length_add_append,List.take_append_of_le_length (by omega),List.drop_append_of_le_length (by omega)];simp
    rw[e2];refine lu _ _ _ _ ab ?_;simp only[aU];exact ⟨_,_,rfl,h6,h3'⟩
   ·simp only[I.eF,hf,I.bh,I.dA,List.map_set,h7,cW.eS.injEq];apply List.ext_getElem?;intro k;rw[List.getElem?_set];split
    ·rename_i hk;subst hk;simp[hi,hfi]
    ·rfl
 |_::_,.undef,_,_,_,_,_,h,_,_ | _::_,.dx,_,_,_,_,_,h,_,_ | _::_,.bool _,_,_,_,_,_,h,_,_ | _::_,.int _ _,_,_,_,_,_,h,_,_ | _::_,.bT _,_,_,_,_,_,h,_,_ | _::_,.nilp,_,_,_,_,_,h,_,_
 |_::_,.dE,_,_,_,_,_,h,_,_ | _::_,.ed,_,_,_,_,_,h,_,_ | _::_,.any,_,_,_,_,_,h,_,_ | _::_,.raw _,_,_,_,_,_,h,_,_ | _::_,.nils _,_,_,_,_,_,h,_,_ | _::_,.c0 _,_,_,_,_,_,h,_,_ | _::_,.slice _ _,_,_,_,_,_,h,_,_ | _::_,.tuple _,_,_,_,_,_,h,_,_
 |_::_,.ref _,_,_,_,_,_,h,_,_ | _::_,.func _ _,_,_,_,_,_,h,_,_ | _::_,.iface _ _,_,_,_,_,_,h,_,_ | _::_,.ptr _ _,_,_,_,_,_,h,_,_ | _::_,.own _ _,_,_,_,_,_,h,_,_ | _::_,.view _ _ _ _ _,_,_,_,_,_,h,_,_ | _::_,.mref _,_,_,_,_,_,h,_,_ | _::_,.dv _,_,_,_,_,_,h,_,_ | _::_,.dp _ _,_,_,_,_,_,h,_,_=>by simp[I.at] at h
theorem nV:∀ (p:List Nat) (c x:I),c.at p=some x→c.bh.part p=some x.bh
 | [],c,x,h=>by simp only[I.at,u8] at h;subst h;cases c.bh <;>rfl
 |i::p,.agg fs,x,h=>by
  simp only[I.at] at h;cases hf:fs[i]? with
  |none=>simp[hf] at h
  |some f =>
   simp only[hf] at h;simp only[I.bh,cW.part,I.dA,zx7,hf,zy6];exact nV p f x h
 |_::_,.undef,_,h | _::_,.dx,_,h | _::_,.bool _,_,h | _::_,.int _ _,_,h | _::_,.bT _,_,h | _::_,.nilp,_,h
 |_::_,.dE,_,h | _::_,.ed,_,h | _::_,.any,_,h | _::_,.raw _,_,h | _::_,.nils _,_,h | _::_,.c0 _,_,h | _::_,.slice _ _,_,h | _::_,.tuple _,_,h
 |_::_,.ref _,_,h | _::_,.func _ _,_,h | _::_,.iface _ _,_,h | _::_,.ptr _ _,_,h | _::_,.own _ _,_,h | _::_,.view _ _ _ _ _,_,h | _::_,.mref _,_,h | _::_,.dv _,_,h | _::_,.dp _ _,_,h=>by simp[I.at] at h
end Go.Abs
namespace Go.Abs
open Go Go.RowKit
inductive ak where
 |box (c:I)
 |bW (T:TypeId) (sz:Nat) (es:List I)
 |dI (o:Obj)
 |bE (ks vs:List I)
 |it (ks vs:List I) (left:List Nat) (cur:Option Nat)
 |dJ (T:TypeId) (xs:List Int)
 deriving Inhabited
def ak.en:ak→Bool
 | .it _ _ _ _=>false
 |_=>true
structure ai where
 t:Nat→I
 o:Nat→Option ak
def ai.put(A:ai)(d:Nat)(v:I):ai:=⟨fun k=>if k=d then v else A.t k,A.o⟩
def ai.a8(A:ai)(d:Option Nat)(v:I):ai:=match d with | some d=>A.put d v | none=>A
def ai.aZ(A:ai)(n:Nat)(x:ak):ai:=⟨A.t,fun k=>if k=n then some x else A.o k⟩
def bC:List (Nat×I)→Nat→I
 | [],_=>.dx
 |(k,v)::r,t=>if t=k then v else bC r t
def aj:List (Nat×ak)→Nat→Option ak
 | [],_=>none
 |(k,v)::r,t=>if t=k then some v else aj r t
def au(ts:List (Nat×I))(os:List (Nat×ak)):ai:=⟨bC ts,aj os⟩
def av(os:List (Nat×ak))(n:Nat):Bool:=(aj os n).isSome
abbrev cE:=I→List (Nat×ak)→Prop
structure c4 where
 P:Program
 eX:World
 D0:aX
 n:Nat
 own:Nat→Prop
 E0:bj
 Y:Value→List I→List (Nat×ak)→cE→Prop
 ly:Option Nat
 fO:Option (List Deferred):=none
def dq:Value→List I→List (Nat×ak)→cE→Prop:=fun _ _ _ _=>False
def c4.aY(c:c4):Fence:=match c.ly with
 |none=>Fence.wide
 |some l=>Fence.wide.inRound l
def c4.fo(c:c4)(b:Nat):Prop:=c.eX.heap.size≤b∨c.own b
structure fm (M:Nat→Prop) (w w':World):Prop where
 os:w'.os=w.os
 tape:w'.tape=w.tape
 output:w'.output=w.output
 size:w.heap.size≤w'.heap.size
 block:∀ k,¬ M k→w'.heap[k]?=w.heap[k]?
theorem fm.refl(M:Nat→Prop)(w:World):fm M w w:=⟨rfl,rfl,rfl,zz9 _,fun _ _=>rfl⟩
theorem fm.trans{M:Nat→Prop}{a b c:World}(h:fm M a b)(k:fm M b c):fm M a c :=
 ⟨k.os.trans h.os,k.tape.trans h.tape,k.output.trans h.output,zv9 h.size k.size,fun i hi=>(k.block i hi).trans (h.block i hi)⟩
theorem fm.grow{M:Nat→Prop}{w w':World}{B:Nat}(h:Below B w w')(hB:∀ k,B≤k→M k):fm M w w' :=
 ⟨h.os,h.tape,h.output,h.size,fun k hk=>h.block k (Nat.lt_of_not_le fun hle=>hk (hB k hle))⟩
theorem fm.Kf{M:Nat→Prop}{w w':World}{B:Nat}(h:fm M w w')(hB:∀ k,k<B→¬ M k):Below B w w' :=
 ⟨h.os,h.tape,h.output,h.size,fun k hk=>h.block k (hB k hk)⟩
def bO.aP:bO→Option Nat
 | .aR b _=>some b
 | .rw (some (b,_)) _=>some b
 | .rw none _=>none
 | .op b=>some b
 | .bE b=>some b
 | .it b=>some b
def bO.eV:bO→Bool
 | .op _ | .bE _ | .it _=>true
 |_=>false
def rp:Obj→Bool
 | .loop _=>true
 |_=>false
def y5:Obj→Bool
 | .deferred _=>false
 |_=>true
theorem ZI{o:Obj}(h:rp o=true):y5 o=true:=by cases o <;>first | rfl | cases h
def pO(es:Array MapEntry)(bK:Array Nat):List Nat:=(List.range es.size).filter fun i=>match es[i]? with
 |some e => !bK.contains e.born
 |none=>false
def cS(M:Nat→Prop)(w:World)(D:aX)(E:bj)(n:Nat):Option ak→Prop
 |none=>E n=none
 |some (.box x)=>∃ b cs T,E n=some (.aR b x.bh)∧M b∧w.heap[b]?=some (.cells cs T (0,0))∧ao w D E x cs.toList∧∀ o,¬ D b o
 |some (.bW T sz es)=>∃ aP,E n=some (.rw aP es.length)∧(∀ e∈es,e.size=sz)∧match aP with
  |none=>es=[]
  |some (b,cap)=>∃ cs pre rest,M b∧w.heap[b]?=some (.cells cs T (0,0))∧cs.toList=pre++rest∧aU w D E es pre ∧
    cs.size=cap*sz∧es.length≤cap∧cap≤maxLen∧∀ o,D b o→o<pre.length
 |some (.dI x)=>∃ b,E n=some (.op b)∧M b∧w.heap[b]?=some x∧rp x=true∧∀ o,¬ D b o
 |some (.bE ks vs)=>∃ b es clock,E n=some (.bE b)∧M b∧w.heap[b]?=some (.map es clock)∧qt es clock∧aO w D E ks (es.toList.map (·.key))∧aO w D E vs (es.toList.map (·.val))∧∀ o,¬ D b o
 |some (.it ks vs left cur)=>∃ r b es clock since bK last,E n=some (.it r)∧M r∧w.heap[r]?=some (.mapIter (some b) since bK last)∧pR w D b es clock∧aO w D E ks (es.toList.map (·.key))∧aO w D E vs (es.toList.map (·.val)) ∧
   (∀ x∈es.toList,x.born<since)∧(since≤last∧since≤clock)∧left=pO es bK∧(∀ i,cur=some i→∃ e,es[i]?=some e∧bK.back?=some e.born∧last=clock)∧∀ o,¬ D r o
 |some (.dJ T xs)=>∃ aP,E n=some (.rw aP xs.length)∧(∀ x∈xs,IntKind.i64.min≤x∧x≤IntKind.i64.max)∧match aP with
  |none=>xs=[]
  |some (b,cap)=>∃ cs m,M b∧w.heap[b]?=some (.cells cs T (0,0))∧cs.toList=(xs++List.replicate m 0).map (Value.int .i64)∧xs≠[]∧xs.length+m=cap∧cap≤maxLen∧∀ o,¬ D b o
def cI(E:bj)(b:Nat):Prop:=∃ n e,E n=some e∧e.aP=some b
structure kO (M:Nat→Prop) (w:World) (D:aX) (E:bj) (o:Nat→Option ak):Prop where
 bP:∀ n,cS M w D E n (o n)
 cQ:∀ n m e e' b,E n=some e→E m=some e'→e.aP=some b→e'.aP=some b→n=m
def pk(run:Array Value→World→(Ending→World→Prop)→Prop)(since:World→aX→bj→Prop)(args:List I)(os:List (Nat×ak))(post:cE):Prop :=
 ∀ (w:World) (D:aX) (E:bj) (vs:List Value),since w D E→(∀ b o,D b o→b<w.heap.size)→kO (fun _=>True) w D E (aj os)→aO w D E args vs →
  run vs.toArray w fun e w'=>∃ v D' E' r os',e=.returned v∧post r os'∧bl w' D' E' r v∧kO (fun b=>w.heap.size≤b∨cI E b) w' D' E' (aj os') ∧
   fm (fun b=>w.heap.size≤b∨cI E b) w w'∧(∀ b o,D b o→D' b o)∧(∀ b o,D' b o→b<w'.heap.size)∧(∀ b o,D' b o→b<w.heap.size→¬ cI E b→D b o) ∧
   (∀ n e,E n=some e→av os' n=true→∃ e',E' n=some e'∧e.le e')∧iE w D w'
def yB : String := "internal/strconv.uint64pow10"
def YV:Array Value:=(((List.range 20).map fun i=>((10^i:Nat):Int)).map fun z=>Value.int .u64 z).toArray
def iD(P:Program)(w:World)(own:Nat→Prop):Prop :=
 ∀ g,P.globalNamed yB=some g→¬ own g∧w.var? P yB=some YV
theorem iD.vq{P:Program}{w:World}{own own':Nat→Prop}(h:iD P w own)(ho:∀ b,own' b→own b):iD P w own':=fun g hg=>⟨fun k=>(h g hg).1 (ho g k),(h g hg).2⟩
theorem iD.YN{P:Program}{w w':World}{own own' M:Nat→Prop}(h:iD P w own)(hk:fm M w w')(hM:∀ b,M b→w.heap.size≤b∨own b)(ho:∀ b,own' b→M b):iD P w' own':=fun g hg=>by
 obtain ⟨U,ab⟩:=h g hg;have af:=ab;unfold World.var? at ab ⊢;rw[hg] at ab ⊢;simp only[Option.bind_some] at ab ⊢;have hlt:g<w.heap.size:=by
  rcases Nat.lt_or_ge g w.heap.size with h | h
  ·exact h
  ·rw[Array.getElem?_eq_none h] at ab;cases ab
 have hn:¬ M g:=fun hm=>by
  rcases hM g hm with h | h
  ·omega
  ·exact U h
 refine ⟨fun k=>hn (ho g k),?_⟩;rw[hk.block g hn];exact ab
structure AH (c:c4) (w:World) (D:aX) (E:bj):Prop where
 dK:fm c.fo c.eX w
 cT:∀ b o,c.D0 b o→D b o
 c6:∀ b o,D b o→¬ c.fo b→c.D0 b o
 dR:∀ n e,c.E0 n=some e→E n=none∨∃ e',E n=some e'∧e.le e'
 fA:iE c.eX c.D0 w
 s7:iD c.P w (cI E)
def uB(P:Program)(v:Value)(vs:Array Value)(w:World)(R:Ending→World→Prop):Prop :=
 ∃ l,v=.func (.yield l) #[] #[]∧YieldAt Fence.wide 9 P l vs w R
def qI(c:c4):Prop:=iD c.P c.eX c.own∧∀ v args os post,c.Y v args os post→pk (uB c.P v) (AH c) args os post
def pn(fO:Option (List Deferred))(eX:World)(ds:List Deferred)(w:World):Prop:=match fO with
 |none=>∃ Bs:List Nat,ds=Bs.map (fun B => { target:=.collected B,args := #[] })∧Bs.Nodup∧∀ B∈Bs,eX.heap.size≤B∧w.heap[B]?=some (.deferred (some []))
 |some l=>ds=l
theorem pn.mono{fO:Option (List Deferred)}{eX w w':World}{ds:List Deferred}(h:pn fO eX ds w)(hk:∀ B,eX.heap.size≤B→w.heap[B]?=some (.deferred (some []))→w'.heap[B]?=some (.deferred (some []))):pn fO eX ds w':=by
 cases fO with
 |none =>
  obtain ⟨Bs,U,ab,af⟩:=h;exact ⟨Bs,U,ab,fun B hB=>⟨(af B hB).1,hk B (af B hB).1 (af B hB).2⟩⟩
 |some l=>exact h
theorem pn.grow{fO:Option (List Deferred)}{eX w w':World}{ds:List Deferred}(h:pn fO eX ds w)(hk:Below w.heap.size w w'):pn fO eX ds w' :=
 h.mono fun B _ hB=>(hk.block B (zx1.1 hB).1).trans hB
structure bg (c:c4) (A:ai) (a:Act) (w:World) (D:aX) (E:bj):Prop where
 sz:a.tmps.size=c.n
 eC:pn c.fO c.eX a.defers w
 dO:∀ t,bl w D E (A.t t) (a.tmps.getD t undef)
 dK:fm c.fo c.eX w
 c6:∀ b o,D b o→¬ c.fo b→c.D0 b o
 aK:∀ b o,D b o→b<w.heap.size
 bP:∀ n,cS c.fo w D E n (A.o n)
 cQ:∀ n m e e' b,E n=some e→E m=some e'→e.aP=some b→e'.aP=some b→n=m
 dR:∀ n e,c.E0 n=some e→E n=none∨∃ e',E n=some e'∧e.le e'
 eL:∀ n,c.E0 n≠none→c.n≤n∧1000000≤n
 cT:∀ b o,c.D0 b o→D b o
 eY:qI c
 fA:iE c.eX c.D0 w
def cd(c:c4)(A:ai)(a:Act)(w:World):Prop:=∃ D E,bg c A a w D E
section
variable {c:c4} {A:ai} {a:Act} {w:World} {D:aX} {E:bj}
theorem bg.l3(h:bg c A a w D E){w':World}{D':aX}{E':bj}(hl:ec w D E w' D' E'):iE c.eX c.D0 w':=h.fA.trans h.cT hl.fA
theorem bg.x3(h:bg c A a w D E){n:Nat}{e:bO}(hn:c.E0 n=some e)(hf:e.en=true):E n=none∨E n=some e:=by
 rcases h.dR n e hn with k | ⟨e',k,hle⟩
 ·exact .inl k
 ·rw[hle.eq hf] at k;exact .inr k
theorem vF{M:Nat→Prop}{n:Nat}{x:ak}(h:cS M w D E n (some x)):E n≠none:=by
 cases x with
 |box x=>obtain ⟨b,cs,T,U,_⟩:=h;rw[U];simp
 |bW T sz es=>obtain ⟨aP,U,_⟩:=h;rw[U];simp
 |dI o=>obtain ⟨b,U,_⟩:=h;rw[U];simp
 |bE ks vs=>obtain ⟨b,es,ck,U,_⟩:=h;rw[U];simp
 |it ks vs left=>obtain ⟨r,b,es,ck,si,se,la,U,_⟩:=h;rw[U];simp
 |dJ T xs=>obtain ⟨aP,U,_⟩:=h;rw[U];simp
theorem gu{w:World}{b:Nat}{o:Obj}(h:w.heap[b]?=some o):b<w.heap.size:=(zx1.1 h).1
theorem bg.gN(h:bg c A a w D E){n:Nat}{e:bO}{b:Nat}(he:E n=some e)(hb:e.aP=some b):b<w.heap.size:=by
 have:=h.bP n;unfold cS at this;split at this
 ·simp[this] at he
 ·obtain ⟨b',cs,T,U,ab,af,_⟩:=this;rw[U,u8] at he;subst he;simp only[bO.aP,u8] at hb;subst hb;exact gu af
 ·obtain ⟨aP,U,ab,af⟩:=this;rw[U,u8] at he;subst he;split at af
  ·simp[bO.aP] at hb
  ·obtain ⟨cs,pre,rest,ar,h5,_⟩:=af;simp only[bO.aP,u8] at hb;subst hb;exact gu h5
 ·obtain ⟨b',U,ab,af,_⟩:=this;rw[U,u8] at he;subst he;simp only[bO.aP,u8] at hb;subst hb;exact gu af
 ·obtain ⟨b',es,ck,U,ab,af,_⟩:=this;rw[U,u8] at he;subst he;simp only[bO.aP,u8] at hb;subst hb;exact gu af
 ·obtain ⟨r,b',es,ck,si,se,la,U,ab,af,_⟩:=this;rw[U,u8] at he;subst he;simp only[bO.aP,u8] at hb;subst hb;exact gu af
 ·obtain ⟨aP,U,ab,af⟩:=this;rw[U,u8] at he;subst he;split at af
  ·simp[bO.aP] at hb
  ·obtain ⟨cs,m,ar,h5,_⟩:=af;simp only[bO.aP,u8] at hb;subst hb;exact gu h5
theorem bg.zi(h:bg c A a w D E){n b:Nat}{e:bO}(he:E n=some e)(ho:e.eV=true)(hb:e.aP=some b):∀ o,¬ D b o:=by
 have:=h.bP n;unfold cS at this;split at this
 ·rw[this] at he;cases he
 ·obtain ⟨b',cs,T,U,_⟩:=this;rw[U] at he;cases he;cases ho
 ·obtain ⟨aP,U,_⟩:=this;rw[U] at he;cases he;cases ho
 ·obtain ⟨b',U,_,_,_,h5⟩:=this;rw[U] at he;cases he;cases hb;exact h5
 ·obtain ⟨b',es,ck,U,_,_,_,_,_,h5⟩:=this;rw[U] at he;cases he;cases hb;exact h5
 ·obtain ⟨r,b',es,ck,si,se,la,U,_,_,_,_,_,_,_,_,_,h5⟩:=this;rw[U] at he;cases he;cases hb;exact h5
 ·obtain ⟨aP,U,_⟩:=this;rw[U] at he;cases he;cases ho
theorem cS.later{M:Nat→Prop}{w':World}{D':aX}{E':bj}{n:Nat}{x:Option ak}(h:cS M w D E n x)(hl:ec w D E w' D' E')(ay:E' n=E n)
  (hheap:∀ e b,E n=some e→e.aP=some b→w'.heap[b]?=w.heap[b]?∧∀ o,D' b o→D b o):cS M w' D' E' n x:=by
 unfold cS at *;split
 ·rw[ay];exact h
 ·obtain ⟨b,cs,T,U,ab,af,ar,h5⟩:=h;obtain ⟨k1,k2⟩:=hheap _ b U rfl;exact ⟨b,cs,T,ay.trans U,ab,k1.trans af,ao.later hl _ _ ar,fun o ho=>h5 o (k2 o ho)⟩
 ·obtain ⟨aP,U,ab,af⟩:=h;refine ⟨aP,ay.trans U,ab,?_⟩;split
  ·exact af
  ·rename_i b cap;obtain ⟨cs,pre,rest,ar,h5,h6,h7,h8,h9,h10,h11⟩:=af;obtain ⟨k1,k2⟩:=hheap _ b U rfl;exact ⟨cs,pre,rest,ar,k1.trans h5,h6,aU.later hl _ _ h7,h8,h9,h10,fun o ho=>h11 o (k2 o ho)⟩
 ·obtain ⟨b,U,ab,af,ar,h5⟩:=h;obtain ⟨k1,k2⟩:=hheap _ b U rfl;exact ⟨b,ay.trans U,ab,k1.trans af,ar,fun o ho=>h5 o (k2 o ho)⟩
 ·obtain ⟨b,es,ck,U,ab,af,ar,h5,h6,h7⟩:=h;obtain ⟨k1,k2⟩:=hheap _ b U rfl;exact ⟨b,es,ck,ay.trans U,ab,k1.trans af,ar,aO.later hl _ _ h5,aO.later hl _ _ h6,fun o ho=>h7 o (k2 o ho)⟩
 ·obtain ⟨r,b,es,ck,si,se,la,U,ab,af,ar,h5,h6,h7,h8,h9,h9',h10⟩:=h;obtain ⟨k1,k2⟩:=hheap _ r U rfl;exact ⟨r,b,es,ck,si,se,la,ay.trans U,ab,k1.trans af,ar.later hl,aO.later hl _ _ h5,aO.later hl _ _ h6,h7,h8,h9,h9',fun o ho=>h10 o (k2 o ho)⟩
 ·obtain ⟨aP,U,ab,af⟩:=h;refine ⟨aP,ay.trans U,ab,?_⟩;split
  ·exact af
  ·rename_i b cap;obtain ⟨cs,m,ar,h5,h6,h7,h8,h9,h10⟩:=af;obtain ⟨k1,k2⟩:=hheap _ b U rfl;exact ⟨cs,m,ar,k1.trans h5,h6,h7,h8,h9,fun o ho=>h10 o (k2 o ho)⟩
theorem ec.grow{w':World}{D':aX}(hb:Below w.heap.size w w')(hD:∀ b o,D b o→D' b o):ec w D E w' D' E:=by
 refine ⟨hD,fun b o v _ hv =>?_,fun _ _ _ h=>h,fun _ aP l h=>⟨aP,l,h,zz9 _,fun _=>rfl⟩,fun _ _ h=>h,fun _ _ h=>h,fun b es ck _ hm=>(hb.block b (gu hm)).trans hm⟩;rw[hb.cell (World.block_lt_of_cell? w _ hv)];exact hv
theorem bg.Eo(h:bg c A a w D E){w':World}(hb:Below w.heap.size w w'):fm c.fo w w':=fm.grow hb fun k hk=>.inl (zv9 h.dK.size hk)
theorem bg.old(h:bg c A a w D E){b:Nat}(hm:¬ c.fo b):b<w.heap.size :=
 Nat.lt_of_lt_of_le (Nat.lt_of_not_le fun hle=>hm (.inl hle)) h.dK.size
theorem bg.lK(h:bg c A a w D E){d:Nat}(ah:d<c.n∨d<1000000):c.E0 d=none:=by
 cases hh:c.E0 d with
 |none=>rfl
 |some e=>have:=h.eL d (by rw[hh];simp);omega
theorem bg.grow(h:bg c A a w D E){w':World}{D':aX}(hb:Below w.heap.size w w')(hD:∀ b o,D b o→D' b o)
  (hold:∀ b o,D' b o→b<w.heap.size→D b o) (hlive:∀ b o,D' b o→b<w'.heap.size):bg c A a w' D' E:=by
 have hl:ec w D E w' D' E:=ec.grow hb hD;refine ⟨h.sz,h.eC.grow hb,fun t=>bl.later hl (h.dO t),h.dK.trans (h.Eo hb),fun b o ah hm=>h.c6 b o (hold b o ah (h.old hm)) hm,hlive,
  fun n=>(h.bP n).later hl rfl (fun e b he hb'=>⟨hb.block b (h.gN he hb'),fun o ho=>hold b o ho (h.gN he hb')⟩),h.cQ,h.dR,h.eL,fun b o ah=>hD b o (h.cT b o ah),h.eY,h.l3 hl⟩
theorem bg.Ij(h:bg c A a w D E){D':aX}(hD:∀ b o,D b o→D' b o)
  (hold:∀ b o,D' b o→¬ c.fo b→c.D0 b o) (hlive:∀ b o,D' b o→b<w.heap.size)
  (hbox:∀ n x b,A.o n=some (.box x)→E n=some (.aR b x.bh)→∀ o,¬ D' b o)
  (hrow:∀ n T sz es b cap,A.o n=some (.bW T sz es)→E n=some (.rw (some (b,cap)) es.length)→∀ o,D' b o→o<es.length*sz)
  (hui:∀ n T xs b cap,A.o n=some (.dJ T xs)→E n=some (.rw (some (b,cap)) xs.length)→∀ o,¬ D' b o)
  (hopq:∀ n e b,E n=some e→e.eV=true→e.aP=some b→∀ o,¬ D' b o):bg c A a w D' E:=by
 have hl:ec w D E w D' E:=⟨hD,fun _ _ _ _ h=>h,fun _ _ _ h=>h,fun _ aP l h=>⟨aP,l,h,zz9 _,fun _=>rfl⟩,fun _ _ h=>h,fun _ _ h=>h,fun _ _ _ _ h=>h⟩
 refine ⟨h.sz,h.eC,fun t=>bl.later hl (h.dO t),h.dK,hold,hlive,fun n =>?_,h.cQ,h.dR,h.eL,fun b o ah=>hD b o (h.cT b o ah),h.eY,h.fA⟩;have ho:=h.bP n;cases hx:A.o n with
 |none=>rw[hx] at ho;exact ho
 |some x =>
  cases x with
  |box x =>
   rw[hx] at ho;obtain ⟨b,cs,T,U,ab,af,ar,h5⟩:=ho;exact ⟨b,cs,T,U,ab,af,ao.later hl _ _ ar,hbox n x b hx U⟩
  |bW T sz es =>
   rw[hx] at ho;obtain ⟨aP,U,ab,af⟩:=ho;refine ⟨aP,U,ab,?_⟩;cases aP with
   |none=>exact af
   |some bc =>
    obtain ⟨b,cap⟩:=bc;obtain ⟨cs,pre,rest,ar,h5,h6,h7,h8,h9,h10,h11⟩:=af;refine ⟨cs,pre,rest,ar,h5,h6,aU.later hl _ _ h7,h8,h9,h10,fun o ah =>?_⟩;rw[aU.length _ _ h7,I.jq _ ab];exact hrow n T sz es b cap hx U o ah
  |dI x =>
   rw[hx] at ho;obtain ⟨b,U,ab,af,ar,h5⟩:=ho;exact ⟨b,U,ab,af,ar,hopq n _ b U rfl rfl⟩
  |bE ks vs =>
   rw[hx] at ho;obtain ⟨b,es,ck,U,ab,af,ar,h5,h6,h7⟩:=ho;exact ⟨b,es,ck,U,ab,af,ar,aO.later hl _ _ h5,aO.later hl _ _ h6,hopq n _ b U rfl rfl⟩
  |it ks vs left cur =>
   rw[hx] at ho;obtain ⟨r,b,es,ck,si,se,la,U,ab,af,ar,h5,h6,h7,h8,h9,h9',h10⟩:=ho;exact ⟨r,b,es,ck,si,se,la,U,ab,af,ar.later hl,aO.later hl _ _ h5,aO.later hl _ _ h6,h7,h8,h9,h9',hopq n _ r U rfl rfl⟩
  |dJ T xs =>
   rw[hx] at ho;obtain ⟨aP,U,ab,af⟩:=ho;refine ⟨aP,U,ab,?_⟩;cases aP with
   |none=>exact af
   |some bc =>
    obtain ⟨b,cap⟩:=bc;obtain ⟨cs,m,ar,h5,h6,h7,h8,h9,h10⟩:=af;exact ⟨cs,m,ar,h5,h6,h7,h8,h9,hui n T xs b cap hx U⟩
theorem XV(a:Act)(d:Nat)(v:Value)(t:Nat)(ah:d<a.tmps.size):(a.put (some d) v).tmps.getD t undef=if t=d then v else a.tmps.getD t undef:=by
 simp only[Act.put,Array.getD_eq_getD_getElem?,Array.getElem?_setIfInBounds];by_cases h:t=d
 ·subst h;simp[ah]
 ·simp[h,Ne.symm h]
theorem bg.put(h:bg c A a w D E){d:Nat}{x:I}{v:Value}(ah:d<c.n)(hv:bl w D E x v):bg c (A.put d x) (a.put (some d) v) w D E:=by
 refine ⟨by simp[Act.put,h.sz],by exact h.eC,fun t =>?_,h.dK,h.c6,h.aK,h.bP,h.cQ,h.dR,h.eL,h.cT,h.eY,h.fA⟩;rw[XV a d v t (by rw[h.sz];exact ah)];simp only[ai.put];split
 ·exact hv
 ·exact h.dO t
theorem bg.a8(h:bg c A a w D E){d:Option Nat}{x:I}{v:Value}(ah:∀ k,d=some k→k<c.n)(hv:bl w D E x v):bg c (A.a8 d x) (a.put d v) w D E:=by
 cases d with
 |none=>exact h
 |some d=>exact h.put (ah d rfl) hv
theorem sf(w:World)(o:Obj):Below w.heap.size w (w.alloc o):=(Below.refl _ _).alloc (zz9 _) o
theorem HM{w:World}{D:aX}{E:bj} : ∀ {xs:List I} {vs:List Value},aO w D E xs vs→vs.length=xs.length
 | [],vs,h=>by simp only[aO] at h;subst h;rfl
 |x::xs,vs,h=>by
  simp only[aO] at h;obtain ⟨v,rest,cs,rfl,_,_,af⟩:=h;simp[HM af]
theorem bg.yY(h:bg c A a w D E){d:Nat}{x:ak}{o':Obj}{e:bO}(hdn:d<c.n∨d<1000000)(ah:A.o d=none)(heb:e.aP=some w.heap.size)
  (hx:ec w D E (w.alloc o') D (fun n=>if n=d then some e else E n)→(∀ o,¬ D w.heap.size o)→cS c.fo (w.alloc o') D (fun n=>if n=d then some e else E n) d (some x)) :
  bg c (A.aZ d x) a (w.alloc o') D (fun n=>if n=d then some e else E n):=by
 have hEd:E d=none:=by have:=h.bP d;rw[ah] at this;exact this
 have hne:∀ {n:Nat} {e:bO},E n=some e→n≠d:=fun he e'=>by rw[e',hEd] at he;cases he
 have hl:ec w D E (w.alloc o') D (fun n=>if n=d then some e else E n):=by
  refine ⟨fun _ _ h=>h,fun b o v _ hv =>?_,fun n b bh he =>?_,fun n aP l he =>?_,fun n b he =>?_,fun n b he =>?_,fun b es ck _ hm=>(Below.heap_alloc w _ b (gu hm)).trans hm⟩
  ·rw[World.cell?_alloc_lt _ _ _ (World.block_lt_of_cell? w _ hv)];exact hv
  ·simp only[if_neg (hne he)];exact he
  ·exact ⟨aP,l,by simp only[if_neg (hne he)];exact he,zz9 _,fun _=>rfl⟩
  ·simp only[if_neg (hne he)];exact he
  ·simp only[if_neg (hne he)];exact he
 refine ⟨h.sz,h.eC.grow (sf w _),fun t=>bl.later hl (h.dO t),h.dK.trans (h.Eo (sf w _)),h.c6,fun b o hd'=>by have:=h.aK b o hd';simp;omega,fun n =>?_,?_,fun n e' hn =>?_,h.eL,h.cT,h.eY,h.l3 hl⟩
 ·simp only[ai.aZ];by_cases hn:n=d
  ·subst hn;simp only[if_true];exact hx hl fun o ho=>Nat.lt_irrefl _ (h.aK _ o ho)
  ·simp only[if_neg hn];exact (h.bP n).later hl (by simp only[if_neg hn]) fun e b he hb=>⟨Below.heap_alloc w _ b (h.gN he hb),fun _ ho=>ho⟩
 ·intro n m e1 e2 b U ab af ar;by_cases hn:n=d <;>by_cases hm:m=d
  ·rw[hn,hm]
  ·simp only[if_pos hn,u8] at U;simp only[if_neg hm] at ab;subst U;rw[heb] at af;cases af;have:=h.gN ab ar;omega
  ·simp only[if_neg hn] at U;simp only[if_pos hm,u8] at ab;subst ab;rw[heb] at ar;cases ar;have:=h.gN U af;omega
  ·simp only[if_neg hn] at U;simp only[if_neg hm] at ab;exact h.cQ n m e1 e2 b U ab af ar
 ·have hnd:n≠d:=fun e=>by rw[e,h.lK hdn] at hn;cases hn
  simp only[if_neg hnd];exact h.dR n e' hn
theorem bg.th(h:bg c A a w D E){d:Nat}{x:I}{cs:Array Value}{T:TypeId}(hdn:d<c.n∨d<1000000)(ah:A.o d=none)(hx:ao w D E x cs.toList) :
  bg c (A.aZ d (.box x)) a (w.alloc (.cells cs T)) D (fun n=>if n=d then some (.aR w.heap.size x.bh) else E n) :=
 h.yY hdn ah rfl fun hl hno=>⟨w.heap.size,cs,T,by simp,.inl h.dK.size,heap_alloc_new w _,ao.later hl _ _ hx,hno⟩
theorem bg.Zz(h:bg c A a w D E){d:Nat}(hdn:d<c.n∨d<1000000)(ah:A.o d=none) :
  bg c (A.aZ d (.bE [] [])) a (w.alloc (.map #[] 0)) D (fun n=>if n=d then some (.bE w.heap.size) else E n) :=
 h.yY hdn ah rfl fun _ hno=>⟨w.heap.size,#[],0,by simp,.inl h.dK.size,heap_alloc_new w _,⟨by simp,by simp⟩,by simp[aO],by simp[aO],hno⟩
theorem bg.Zy(h:bg c A a w D E){d b clock:Nat}{ks vs:List I}{es:Array MapEntry}(hdn:d<c.n∨d<1000000)(ah:A.o d=none)(hm:pR w D b es clock)(hk:aO w D E ks (es.toList.map (·.key)))(hv:aO w D E vs (es.toList.map (·.val))) :
  bg c (A.aZ d (.it ks vs (List.range ks.length) none)) a (w.alloc (.mapIter (some b) clock #[] clock)) D (fun n=>if n=d then some (.it w.heap.size) else E n) :=
 h.yY hdn ah rfl fun hl hno=>⟨w.heap.size,b,es,clock,clock,#[],clock,by simp,.inl h.dK.size,heap_alloc_new w _,hm.later hl,aO.later hl _ _ hk,aO.later hl _ _ hv,hm.2.2.1,⟨zz9 _,zz9 _⟩,by
  have e:ks.length=es.size:=by have:=HM hk;simpa using this.symm
  rw[e];unfold pO;exact (List.filter_eq_self.2 fun i hi=>by
   have hi':i<es.size:=by simpa using hi
   simp[Array.getElem?_eq_getElem hi']).symm,(fun i hi=>by cases hi),hno⟩
theorem xu(w:World)(g:Nat)(cs:Array Value)(p:Addr)(h:p.block≠g):(w.setRow g cs).cell? p=w.cell? p :=
 World.cell?_of_block (setRow_other w g p.block cs h)
theorem yx{M:Nat→Prop}{eX w:World}(h:fm M eX w){g:Nat}(hg:M g)(cs:Array Value):fm M eX (w.setRow g cs) :=
 h.trans ⟨rfl,rfl,rfl,by simp[World.setRow],fun k hk=>setRow_other w g k cs (fun e=>hk (e▸hg))⟩
theorem bg.zU(h:bg c A a w D E){n b:Nat}{x y:I}{cs':Array Value}(hn:A.o n=some (.box x))(ay:E n=some (.aR b x.bh))(hs:y.bh=x.bh)(hy:ao w D E y cs'.toList) :
  bg c (A.aZ n (.box y)) a (w.setRow b cs') D E:=by
 have ho:=h.bP n;rw[hn] at ho;obtain ⟨b',cs,T,U,ab,af,ar,h5⟩:=ho;rw[ay] at U;simp only[u8,bO.aR.injEq,and_true] at U;subst U;have hl:ec w D E (w.setRow b cs') D E:=by
  refine ⟨fun _ _ h=>h,fun b1 o v ah hv =>?_,fun _ _ _ h=>h,fun _ aP l h=>⟨aP,l,h,zz9 _,fun _=>rfl⟩,fun _ _ h=>h,fun _ _ h=>h,fun b1 es ck ah hm=>(setRow_other w b b1 _ (fun e=>h5 0 (by rw[←e];exact ah))).trans hm⟩;rw[xu _ _ _ _ (fun e=>h5 o (by rw[←e];exact ah))];exact hv
 refine ⟨h.sz,h.eC.mono fun B _ hB=>(setRow_other w b B cs' (fun e=>by rw[e,af] at hB;cases hB)).trans hB,fun t=>bl.later hl (h.dO t),yx h.dK ab _,h.c6,fun b1 o ah=>by have:=h.aK b1 o ah;simpa[World.setRow] using this,fun m =>?_,h.cQ,h.dR,h.eL,h.cT,h.eY,h.l3 hl⟩;simp only[ai.aZ];by_cases hm:m=n
 ·subst hm;simp only[if_true,cS];exact ⟨b,cs',T,by rw[hs];exact ay,ab,setRow_heap w b cs cs' T _ af,ao.later hl _ _ hy,h5⟩
 ·simp only[if_neg hm];refine (h.bP m).later hl rfl fun e b1 he hb=>⟨setRow_other w b b1 cs' (fun e1=>hm (h.cQ m n e _ b he ay (by rw[hb,e1]) rfl)),fun _ ho=>ho⟩
theorem xv{w:World}{B:Nat}{o o':Obj}(h:w.heap[B]?=some o)(ho:o.isCells=false){b off:Nat}{v:Value}(hv:w.cell? ⟨b,off,none⟩=some v):(w.putObj B o').cell? ⟨b,off,none⟩=some v:=by
 have hne:b≠B:=fun e=>by
  obtain ⟨o2,ab,af⟩:=cells_of_cell hv;simp only at ab;rw[e,h] at ab;cases ab;rw[ho] at af;cases af
 rw[World.cell?_of_block (w:=w) (World.putObj_heap_other hne)];exact hv
theorem bg.zX(h:bg c A a w D E){n b:Nat}{e:bO}{x:ak}{o0 o':Obj}(ay:E n=some e)(ho:e.eV=true)(hb:e.aP=some b)(hw:w.heap[b]?=some o0)(hnc:o0.isCells=false)(hnd:∀ q,o0≠.deferred q)(hmine:c.fo b)
  (hx:ec w D E (w.putObj b o') D E→(w.putObj b o').heap[b]?=some o'→(∀ o,¬ D b o)→cS c.fo (w.putObj b o') D E n (some x)):bg c (A.aZ n x) a (w.putObj b o') D E:=by
 have hno:=h.zi ay ho hb;have hlt:b<w.heap.size:=gu hw;have hl:ec w D E (w.putObj b o') D E:=⟨fun _ _ h=>h,fun b1 o1 v _ hv=>xv hw hnc hv,fun _ _ _ h=>h,fun _ aP l h=>⟨aP,l,h,zz9 _,fun _=>rfl⟩,fun _ _ h=>h,fun _ _ h=>h,
  fun b1 es ck ah hm=>(World.putObj_heap_other (fun e1=>hno 0 (by rw[←e1];exact ah))).trans hm⟩
 refine ⟨h.sz,h.eC.mono fun B _ hB=>(World.putObj_heap_other (fun e1=>by rw[e1,hw] at hB;exact hnd _ (Option.some.inj hB))).trans hB,fun t=>bl.later hl (h.dO t),h.dK.trans ⟨rfl,rfl,rfl,by simp,fun k hk=>World.putObj_heap_other (fun e1=>hk (e1▸hmine))⟩,h.c6,
  fun b1 o1 ah=>by have:=h.aK b1 o1 ah;simpa using this,fun m =>?_,h.cQ,h.dR,h.eL,h.cT,h.eY,h.l3 hl⟩
 simp only[ai.aZ];by_cases hm:m=n
 ·subst hm;simp only[if_true];exact hx hl (World.putObj_heap_same hlt) hno
 ·simp only[if_neg hm];exact (h.bP m).later hl rfl fun e' b1 he hb'=>⟨World.putObj_heap_other (fun e1=>hm (h.cQ m n e' _ b1 he ay hb' (by rw[e1];exact hb))),fun _ ho=>ho⟩
end
inductive aV where
 |t (n:Nat)
 |c (x:I)
 deriving Inhabited
inductive cH where
 |i (k:IntKind)
 |b
 |s
 |bm (l:List cH)
 |sd (n:Nat) (e:cH)
 deriving Inhabited
mutual
def cH.size:cH→Nat
 | .i _ | .b | .s=>1
 | .bm l=>cH.sizes l
 | .sd n e=>n*e.size
def cH.sizes:List cH→Nat
 | []=>0
 |t::ts=>t.size+cH.sizes ts
end
inductive bU where
 |mv (x:aV)
 |pick (c a b:aV)
 |bin (op:BinOp) (x y:aV)
 |eqv (ty:cH) (neg:Bool) (x y:aV)
 |nilS (neg:Bool) (x:aV)
 |conv (k:IntKind) (x:aV)
 |un (op:UnOp) (x:aV)
 |ld (s:Option Nat) (x:aV)
 |fa (f off:Nat) (x:aV)
 |fl (f off:Nat) (s:Option Nat) (x:aV)
 |ia (n esz:Nat) (x i:aV)
 |is (esz:Nat) (x i:aV)
 |ix (n esz:Nat) (s:Option Nat) (x i:aV)
 |len (x:aV)
 |lenT (x:aV)
 |va (n esz:Nat) (x:aV)
 |sl (esz:Nat) (x:aV) (lo hi mx:Option aV)
 |bld (zs:List I) (parts:List (Nat×aV))
 |bs (T esz:Nat) (parts:List aV)
 |ext (x:aV) (i:Nat)
 |mk (f:FuncId) (caps:List aV)
 |alloc (z:I)
 |box (x:aV)
 |bm (s:Option Nat) (x v:aV)
 |dy (e:TypeId) (esz bytes:Nat) (z:I) (s x:aV)
 |mZ (e:TypeId) (esz bytes:Nat) (z:I) (s n:aV)
 |cap (x:aV)
 |bs0 (esz:Nat)
 |kh (esz:Nat) (z:I) (x:aV)
 |ml (esz:Nat) (x y:aV)
 |call (f:FuncId) (args:List aV)
 |fQ (x:aV) (args:List aV)
 |lD (f:FuncId) (args:List aV)
 |nilC (x:aV)
 |ptrE (neg:Bool) (x y:aV)
 |max2 (x y:aV)
 |lM (e:TypeId) (bytes:Nat) (z:I) (n:aV)
 |jB
 |lk (ty:cH) (z:I) (ok:Bool) (m k:aV)
 |fg (ty:cH) (m k v:aV)
 |jA (ty:cH) (m k:aV)
 |kG (x:aV)
 |jh (x:aV)
 |ent (x:aV)
 deriving Inhabited
def xr(sz:Nat):Value→Option I
 | .bool b=>some (.bool b)
 | .int k n=>if k.min≤n∧n≤k.max then some (.int k n) else none
 | .string s=>if s.size≤1000000 then some (.bT s) else none
 | .pointer none=>some .nilp
 | .slice none 0 0=>some (.nils sz)
 | .nilFunc=>some .dE
 | .nilIface=>some .ed
 | .map none=>some (.raw (.map none))
 |_=>none
theorem KL{sz:Nat}{v:Value}{x:I}(h:xr sz v=some x)(w:World)(D:aX)(E:bj):bl w D E x v:=by
 unfold xr at h;split at h
 case h_2 =>
  split at h
  ·rename_i hh;simp only[u8] at h;subst h;exact ⟨_,by simp[bI,I.isAgg];rfl,by simp only[ao,true_and];exact hh⟩
  ·simp at h
 case h_3 =>
  split at h
  ·rename_i hh;simp only[u8] at h;subst h;exact ⟨_,by simp[bI,I.isAgg];rfl,by simp only[ao,true_and];unfold maxLen;omega⟩
  ·simp at h
 case h_9=>simp at h
 all_goals
  simp only[u8] at h;subst h;exact ⟨_,by simp[bI,I.isAgg];rfl,by simp[ao,Value.oneCell']⟩
def O3(P:Program)(t:TypeId):Nat:=match P.underlying t with | some (.slice e)=>P.cellsOf e | _=>0
def bF(P:Program)(t:TypeId):Operand→Option aV
 | .tmp n=>some (.t n)
 | .const v=>(xr (O3 P t) v).map .c
 | .func f=>if f<1000000 then some (.c (.func f [])) else none
 | .global _=>none
def al(A:ai):aV→I
 | .t n=>A.t n
 | .c x=>x
section
variable {c:c4} {A:ai} {a:Act} {w:World} {D:aX} {E:bj}
theorem b5(h:bg c A a w D E){P:Program}{t:TypeId}{x:Operand}{y:aV}(hc:bF P t x=some y):bl w D E (al A y) (a.eval x):=by
 cases x with
 |tmp n=>simp only[bF,u8] at hc;subst hc;exact h.dO n
 |const v =>
  simp only[bF,zz0] at hc;obtain ⟨z,hz,rfl⟩:=hc;exact KL hz w D E
 |global g=>simp[bF] at hc
 |func f =>
  simp only[bF] at hc;split at hc
  case isFalse=>cases hc
  rename_i hf;simp only[u8] at hc;subst hc;exact ⟨[.func (.func f) #[] #[]],by simp[bI,I.isAgg,al,Act.eval],by simp only[ao,al,aO];exact ⟨[],by rw[oC hf],rfl⟩⟩
theorem lU{b:Bool}{v:Value}(h:bl w D E (.bool b) v):v=.bool b:=by
 obtain ⟨cs,U,ab⟩:=h;simp only[ao] at ab;simp[bI,I.isAgg,ab] at U;exact U.symm
theorem fh{k:IntKind}{n:Int}{v:Value}(h:bl w D E (.int k n) v):v=.int k n∧k.min≤n∧n≤k.max:=by
 obtain ⟨cs,U,ab⟩:=h;simp only[ao] at ab;simp[bI,I.isAgg,ab.1] at U;exact ⟨U.symm,ab.2⟩
theorem oW{s:ByteArray}{v:Value}(h:bl w D E (.bT s) v):v=.string s∧s.size≤maxLen:=by
 obtain ⟨cs,U,ab⟩:=h;simp only[ao] at ab;simp[bI,I.isAgg,ab.1] at U;exact ⟨U.symm,ab.2⟩
theorem Fq{x:I}{v:Value}(hx:x.isAgg=false)(h:ao w D E x [v]):bl w D E x v:=by
 cases x <;>simp only[ao] at h <;>first | (simp[I.isAgg] at hx;done) | exact ⟨[v],by simp[bI,I.isAgg],by simpa only[ao] using h⟩
theorem j5{fs:List I}{v:Value}(h:bl w D E (.agg fs) v):∃ cs:List Value,v=.agg cs.toArray∧aU w D E fs cs:=by
 obtain ⟨cs,U,ab⟩:=h;simp only[ao] at ab;exact ⟨cs,by simpa[bI,I.isAgg] using U,ab⟩
theorem Fp{fs:List I}{cs:List Value}(h:aU w D E fs cs):bl w D E (.agg fs) (.agg cs.toArray):=⟨cs,by simp[bI,I.isAgg],by simpa only[ao] using h⟩
theorem pQ(b:Bool):bl w D E (.bool b) (.bool b):=⟨[.bool b],by simp[bI,I.isAgg],by simp[ao]⟩
theorem lb{k:IntKind}{n:Int}(h:k.min≤n∧n≤k.max):bl w D E (.int k n) (.int k n):=⟨[.int k n],by simp[bI,I.isAgg],by simp only[ao,true_and];exact h⟩
theorem mG{n:Nat}{p:List Nat}{v:Value}(h:bl w D E (.ptr n p) v):∃ b bh off,E n=some (.aR b bh)∧bh.off p=some off∧v=.pointer (some ⟨b,off,none⟩):=by
 obtain ⟨cs,U,ab⟩:=h;simp only[ao] at ab;obtain ⟨b,bh,off,af,ar,h5⟩:=ab;exact ⟨b,bh,off,af,ar,by simpa[bI,I.isAgg,h5] using U.symm⟩
theorem rQ{x:I}{v:Value}(h:bl w D E (.ref x) v):∃ b off cs,v=.pointer (some ⟨b,off,none⟩)∧reads w D b off cs∧ao w D E x cs:=by
 obtain ⟨cs,U,ab⟩:=h;simp only[ao] at ab;obtain ⟨b,off,cs',af,ar,h5⟩:=ab;exact ⟨b,off,cs',by simpa[bI,I.isAgg,af] using U.symm,ar,h5⟩
theorem vA{x:I}{b off:Nat}{cs:List Value}(U:reads w D b off cs)(ab:ao w D E x cs):bl w D E (.ref x) (.pointer (some ⟨b,off,none⟩)) :=
 ⟨_,by simp[bI,I.isAgg];rfl,by simp only[ao];exact ⟨b,off,cs,rfl,U,ab⟩⟩
theorem oV{sz:Nat}{es:List I}{v:Value}(h:bl w D E (.slice sz es) v):∃ ad cap,v=.slice ad es.length cap∧es.length≤cap∧cap≤maxLen ∧
  (es=[]∨∃ b off cs,ad=some ⟨b,off,none⟩∧reads w D b off cs∧aU w D E es cs)∧∀ e∈es,e.size=sz:=by
 obtain ⟨cs,U,ab⟩:=h;simp only[ao] at ab;obtain ⟨ad,cap,af,ar⟩:=ab;exact ⟨ad,cap,by simpa[bI,I.isAgg,af] using U.symm,ar⟩
theorem vB{sz:Nat}{es:List I}{ad:Option Addr}{n cap:Nat}(hn:n=es.length)(U:n≤cap)(ab:cap≤maxLen)
  (af:es=[]∨∃ b off cs,ad=some ⟨b,off,none⟩∧reads w D b off cs∧aU w D E es cs) (ar:∀ e∈es,e.size=sz):bl w D E (.slice sz es) (.slice ad n cap):=by
 subst hn;exact ⟨_,by simp[bI,I.isAgg];rfl,by simp only[ao];exact ⟨ad,cap,rfl,U,ab,af,ar⟩⟩
end
def cF(op:BinOp)(x y:I):Option I :=
 match x,y with
 | .int k a,.int k' b =>
  match op with
  | .shl=>if 0≤b then some (.int k (k.wrap (a*2^(min b.toNat k.bits)))) else none
  | .shr=>if 0≤b then some (.int k (a.fdiv (2^(min b.toNat k.bits)))) else none
  |op=>if k=k' then
   match op with
   | .add=>some (.int k (k.wrap (a+b)))
   | .sub=>some (.int k (k.wrap (a-b)))
   | .mul=>some (.int k (k.wrap (a*b)))
   | .quo=>if b=0 then none else some (.int k (k.wrap (a.tdiv b)))
   | .rem=>if b=0 then none else some (.int k (a.tmod b))
   | .and=>some (.int k (k.wrap ((BitVec.ofInt k.bits a &&& BitVec.ofInt k.bits b).toNat:Int)))
   | .or=>some (.int k (k.wrap ((BitVec.ofInt k.bits a ||| BitVec.ofInt k.bits b).toNat:Int)))
   | .xor=>some (.int k (k.wrap ((BitVec.ofInt k.bits a ^^^ BitVec.ofInt k.bits b).toNat:Int)))
   | .andNot=>some (.int k (k.wrap ((BitVec.ofInt k.bits a &&& ~~~ BitVec.ofInt k.bits b).toNat:Int)))
   | .eql=>some (.bool (a==b))
   | .neq=>some (.bool (a != b))
   | .lss=>some (.bool (decide (a<b)))
   | .leq=>some (.bool (decide (a≤b)))
   | .gtr=>some (.bool (decide (a>b)))
   | .geq=>some (.bool (decide (a≥b)))
   |_=>none
   else none
 | .bT s,.bT t =>
  match op with
  | .eql=>some (.bool (s.toList==t.toList))
  | .neq=>some (.bool (!(s.toList==t.toList)))
  | .lss=>some (.bool (Op.bytesLess s.toList t.toList))
  | .leq=>some (.bool (Op.bytesLess s.toList t.toList||s.toList==t.toList))
  | .gtr=>some (.bool (!(Op.bytesLess s.toList t.toList||s.toList==t.toList)))
  | .geq=>some (.bool (!(Op.bytesLess s.toList t.toList)))
  | .add=>if s.size+t.size≤9223372036854775807 then some (.bT (s++t)) else none
  |_=>none
 |_,_=>none
theorem rX(k:IntKind)(n:Int):k.min≤k.wrap n∧k.wrap n≤k.max:=by
 cases k <;>simp only[IntKind.min,IntKind.max,IntKind.wrap,IntKind.bits,IntKind.signed] <;>simp <;>(try split) <;>omega
theorem acs(a b:Int):(0≤a→0≤a.tmod b∧a.tmod b≤a)∧(a<0→a≤a.tmod b∧a.tmod b≤0):=by
 have key:∀ n:Nat,0≤(n:Int).tmod b∧(n:Int).tmod b≤n:=by
  intro n;cases b with
  |ofNat m=>show 0≤((n%m:Nat):Int)∧((n%m:Nat):Int)≤n;have:=Nat.mod_le n m;omega
  |negSucc m=>show 0≤((n%(m+1):Nat):Int)∧((n%(m+1):Nat):Int)≤n;have:=Nat.mod_le n (m+1);omega
 refine ⟨fun h =>?_,fun h =>?_⟩
 ·obtain ⟨n,rfl⟩:=Int.eq_ofNat_of_zero_le h;exact key n
 ·obtain ⟨n,hn⟩:=Int.eq_ofNat_of_zero_le (show 0≤-a by omega);have:=key n;rw[←hn,Int.neg_tmod] at this;omega
theorem acu(k:IntKind)(a b:Int)(h:k.min≤a∧a≤k.max):k.min≤a.tmod b∧a.tmod b≤k.max:=by
 have bf:k.min≤0∧0≤k.max:=by cases k <;>simp[IntKind.min,IntKind.max,IntKind.bits,IntKind.signed]
 have:=acs a b;omega
theorem Pn(a:Int)(m:Int)(hm:0<m):(0≤a→0≤a.fdiv m∧a.fdiv m≤a)∧(a<0→a≤a.fdiv m∧a.fdiv m≤0):=by
 rw[Int.fdiv_eq_ediv_of_nonneg _ (by omega)];have U:=Int.mul_ediv_add_emod a m;have ab:=Int.emod_nonneg a (show m≠0 by omega);refine ⟨fun h=>⟨Int.ediv_nonneg h (by omega),Int.ediv_le_self _ h⟩,fun h=>⟨?_,?_⟩⟩
 ·rw[Int.le_ediv_iff_mul_le hm];have:a*m≤a*1:=Int.mul_le_mul_of_nonpos_left (by omega) (by omega);omega
 ·have:=Int.ediv_neg_of_neg_of_pos h hm;omega
theorem Po(k:IntKind)(a:Int)(n:Nat)(h:k.min≤a∧a≤k.max):k.min≤a.fdiv (2^n)∧a.fdiv (2^n)≤k.max:=by
 have bf:k.min≤0∧0≤k.max:=by cases k <;>simp[IntKind.min,IntKind.max,IntKind.bits,IntKind.signed]
 have:=Pn a (2^n) (Int.pow_pos (by omega));omega
def cM(A:ai):I→Option I
 | .ref x=>some x
 | .ptr n p=>match A.o n with
  |some (.box x)=>x.at p
  |_=>none
 |_=>none
mutual
def I.bG:I→Bool
 | .agg fs=>I.cq fs
 | .slice _ es=>I.cq es
 | .ref x=>x.bG
 | .func _ caps=>I.cq caps
 | .iface _ v=>v.bG
 | .dp ks vs=>I.cq ks&&I.cq vs
 | .ptr _ _ | .own _ _ | .view _ _ _ _ _ | .mref _ | .dv _ | .undef | .dx | .tuple _=>false
 | .bool _ | .int _ _ | .bT _ | .nilp | .dE | .ed | .any | .raw _ | .nils _ | .c0 _=>true
def I.cq:List I→Bool
 | []=>true
 |x::xs=>x.bG&&I.cq xs
end
def gC(f:I→Option I):List I→Option (List I)
 | []=>some []
 |x::xs=>match f x,gC f xs with
  |some y,some ys=>some (y::ys)
  |_,_=>none
def c7(A:ai):Nat→I→Option I
 |0,_=>none
 |k+1,x=>if x.bG then some x else match x with
  | .agg fs=>(gC (c7 A k) fs).map .agg
  | .func f caps=>if f<1000000 then (gC (c7 A k) caps).map (.func f) else some .any
  | .ptr n p=>match cM A (.ptr n p) with
   |some y=>(c7 A k y).map .ref
   |none=>none
  | .view n p sz lo l=>match cM A (.ptr n p) with
   |some (.agg fs)=>if I.cq ((fs.drop lo).take l)=true then some (.slice sz ((fs.drop lo).take l)) else none
   |_=>none
  | .mref n=>match A.o n with
   |some (.bE ks vs)=>if I.cq ks=true then (gC (c7 A k) vs).map (.dp ks) else none
   |_=>none
  | .own n l=>match A.o n with
   |some (.bW _ sz es)=>if l=es.length∧I.cq es=true then some (.slice sz es) else none
   |_=>none
  |_=>none
mutual
/-- The value for others to hold: pointers to the frame's own variables and rows become what they hold. -/
def br(aR:Bool)(A:ai):I→Option I
 | .ptr n p=>if aR then (match cM A (.ptr n p) with | some x=>if x.bG then some (.ref x) else (c7 A 9 x).map .ref | none=>none) else none
 | .own n k=>match A.o n with
  |some (.bW _ sz es)=>if k=es.length∧I.cq es=true then some (.slice sz es) else none
  |_=>none
 | .view n p sz lo k=>if aR then (match cM A (.ptr n p) with
  |some (.agg fs)=>if I.cq ((fs.drop lo).take k)=true then some (.slice sz ((fs.drop lo).take k)) else none
  |_=>none) else none
 | .mref n=>if aR then (match A.o n with
  |some (.bE ks vs)=>if I.cq ks=true then (gC (c7 A 9) vs).map (.dp ks) else none
  |_=>none) else none
 | .dv _=>none
 | .dp ks vs=>if I.cq ks&&I.cq vs then some (.dp ks vs) else none
 | .nils sz=>some (.slice sz [])
 | .c0 sz=>some (.slice sz [])
 | .func f caps=>if f<1000000 then (bZ aR A caps).map (.func f) else some .any
 | .agg fs=>(bZ aR A fs).map .agg
 | .tuple _=>none
 | .undef=>none
 | .dx=>none
 | .bool b=>some (.bool b)
 | .int k n=>some (.int k n)
 | .bT s=>some (.bT s)
 | .nilp=>some .nilp
 | .dE=>some .dE
 | .ed=>some .ed
 | .any=>some .any
 | .raw u=>some (.raw u)
 | .slice sz es=>if I.cq es then some (.slice sz es) else none
 | .ref x=>if x.bG then some (.ref x) else none
 | .iface t v=>if v.bG then some (.iface t v) else none
def bZ(aR:Bool)(A:ai):List I→Option (List I)
 | []=>some []
 |x::xs=>match br aR A x,bZ aR A xs with
  |some y,some ys=>some (y::ys)
  |_,_=>none
end
def cn(s:Option Nat)(x:I):Bool:=match s with
 |none => !x.isAgg
 |some n=>x.isAgg&&x.size==n
def I.bV:I→Bool
 | .undef | .dx | .tuple _=>false
 |_=>true
def jV(n esz:Nat)(fs:List I):Bool:=fs.length==n&&fs.all fun f=>f.size==esz
def ef(zs:List I):List (Nat×I)→Option (List I)
 | []=>some zs
 |(i,v)::rest=>match zs[i]? with
  |some z=>if v.bV=true∧v.size=z.size then ef (zs.set i v) rest else none
  |none=>none
def kc(x:Option I)(d:Int):Option Int:=match x with
 |none=>some d
 |some (.int _ n)=>some n
 |_=>none
def j6(sz:Nat)(es:List I)(lo hi mx:Option I):Option I :=
 match kc hi es.length with
 |none=>none
 |some h=>match kc mx es.length with
  |none=>none
  |some m=>match kc lo 0 with
   |none=>none
   |some l=>if 0≤l∧l≤h∧h≤m∧m≤es.length then
     (if mx.isSome∧m=l then some (.c0 sz) else some (.slice sz ((es.take h.toNat).drop l.toNat))) else none
def mK(n:Nat)(p:List Nat)(sz lo k total:Nat)(lo' hi' mx':Option I):Option I :=
 match kc hi' k with
 |none=>none
 |some h=>match kc lo' 0 with
  |none=>none
  |some l=>match mx' with
   |none=>if 0≤l∧l≤h∧h≤((total-lo:Nat):Int) then (if l=((total-lo:Nat):Int) then some (.c0 sz) else some (.view n p sz (lo+l.toNat) (h.toNat-l.toNat))) else none
   |some (.int _ m)=>if 0≤l∧l≤h∧h≤m∧m≤((total-lo:Nat):Int) then some .dx else none
   |_=>none
def kb(a b:Option Bool):Option Bool:=match a,b with
 |some x,some y=>some (x&&y)
 |_,_=>none
mutual
/-- '==',part by part. -/
def cm:cH→I→I→Option Bool
 | .i k,x,y=>match x,y with
  | .int k1 a,.int k2 b=>if k1=k∧k2=k then some (a==b) else none
  |_,_=>none
 | .b,x,y=>match x,y with
  | .bool a,.bool b=>some (a==b)
  |_,_=>none
 | .s,x,y=>match x,y with
  | .bT a,.bT b=>some (a.toList==b.toList)
  |_,_=>none
 | .bm l,x,y=>match x,y with
  | .agg fs,.agg gs=>jb l fs gs
  |_,_=>none
 | .sd n e,x,y=>match x,y with
  | .agg fs,.agg gs=>if fs.length=n∧gs.length=n then (fs.zip gs).foldr (fun p acc=>kb (cm e p.1 p.2) acc) (some true) else none
  |_,_=>none
def jb:List cH→List I→List I→Option Bool
 | [],fs,gs=>match fs,gs with
  | [],[]=>some true
  |_,_=>none
 |t::ts,fs,gs=>match fs,gs with
  |f::fs,g::gs=>kb (cm t f g) (jb ts fs gs)
  |_,_=>none
end
def qW(k:IntKind)(n:Int):Int:=k.wrap ((BitVec.ofInt k.bits (if k.signed then -1 else k.max) ^^^ BitVec.ofInt k.bits n).toNat:Int)
def eK(ty:cH)(k:I):List I→Nat→Option (Option Nat)
 | [],_=>some none
 |x::xs,i=>match cm ty k x with
  |some true=>some (some i)
  |some false=>eK ty k xs (i+1)
  |none=>none
def gS(A:ai):I→Option (List I×List I)
 | .dp ks vs=>some (ks,vs)
 | .mref n=>match A.o n with
  |some (.bE ks vs)=>some (ks,vs)
  |_=>none
 | .raw (.map none)=>some ([],[])
 |_=>none
def fL(ty:cH)(z k:I)(ks vs:List I):Option (I×Bool) :=
 if (cm ty k k).isSome then (match eK ty k ks 0 with
  |some (some i)=>(vs[i]?).map fun v=>(v,true)
  |some none=>some (z,false)
  |none=>none) else none
def jy:I→Option Bool
 | .nilp=>some true
 | .ptr _ _=>some false
 | .ref _=>some false
 |_=>none
def fV(ty:cH)(k v:I)(ks vs:List I):Option (List I×List I) :=
 if (cm ty k k).isSome=true∧k.bV=true∧v.bV=true then (match eK ty k ks 0 with
  |some (some i)=>some (ks,vs.set i v)
  |some none=>some (ks++[k],vs++[v])
  |none=>none) else none
def nu(ty:cH)(k:I)(ks vs:List I):Option (List I×List I) :=
 if (cm ty k k).isSome=true then (match eK ty k ks 0 with
  |some (some i)=>some (ks.eraseIdx i,vs.eraseIdx i)
  |some none=>some (ks,vs)
  |none=>none) else none
def nv:I→Option I
 | .ptr n p=>some (.ptr n p)
 | .ref x=>some (.ref x)
 |_=>none
def tg:I→I→Option I
 | .int k a,.int k2 b=>if k=k2 then some (.int k (if b>a then b else a)) else none
 |_,_=>none
def oO(neg:Bool):Option Bool→Option Bool→Option I
 |some a,some b=>if a||b then some (.bool (if neg then !(a&&b) else (a&&b))) else none
 |_,_=>none
def s9(ok:Bool):Option (I×Bool)→Option I
 |some (v,b)=>some (if ok then .tuple [v,.bool b] else v)
 |none=>none
def s8(ty:cH)(z:I)(ok:Bool)(k:I):Option (List I×List I)→Option I
 |some (ks,vs)=>s9 ok (fL ty z k ks vs)
 |none=>none
def oz(ks vs:List I):Option Nat→Option I
 |some i=>match ks[i]?,vs[i]? with
  |some k,some v=>some (.tuple [k,v])
  |_,_=>none
 |none=>none
def bu(A:ai):bU→Option I
 | .mv x=>some (al A x)
 | .pick c a b=>match al A c with | .bool t=>some (if t then al A a else al A b) | _=>none
 | .bin op x y=>cF op (al A x) (al A y)
 | .eqv ty neg x y=>(cm ty (al A x) (al A y)).map fun b=>.bool (if neg then !b else b)
 | .nilS neg x=>match al A x with
  | .nils _=>some (.bool (!neg))
  | .slice _ es=>if es.isEmpty then none else some (.bool neg)
  | .view _ _ _ _ _=>some (.bool neg)
  |_=>none
 | .conv k x=>match al A x with | .int _ n=>some (.int k (k.wrap n)) | _=>none
 | .un op x=>match op,al A x with
  | .not,.bool b=>some (.bool !b)
  | .neg,.int k n=>some (.int k (k.wrap (0-n)))
  | .xor,.int k n=>some (.int k (qW k n))
  |_,_=>none
 | .ld s x=>match cM A (al A x) with | some v=>if cn s v then some v else none | none=>none
 | .fa f off x=>match al A x with
  | .ref (.agg fs)=>match fs[f]? with | some v=>if I.sizes (fs.take f)=off then some (.ref v) else none | none=>none
  | .ptr n p=>match cM A (.ptr n p) with | some (.agg fs)=>if f<fs.length∧I.sizes (fs.take f)=off then some (.ptr n (p++[f])) else none | _=>none
  |_=>none
 | .fl f off s x=>match al A x with
  | .agg fs=>match fs[f]? with | some v=>if I.sizes (fs.take f)=off∧cn s v=true then some v else none | none=>none
  |_=>none
 | .ia n esz x i=>match al A i with
  | .int _ k=>if 0≤k∧k<n then (match al A x with
   | .ref (.agg fs)=>if jV n esz fs then (fs[k.toNat]?).map .ref else none
   | .ptr m p=>match cM A (.ptr m p) with | some (.agg fs)=>if jV n esz fs then some (.ptr m (p++[k.toNat])) else none | _=>none
   |_=>none) else none
  |_=>none
 | .is esz x i=>match al A i with
  | .int _ k=>match al A x with
   | .slice sz es=>if sz=esz∧0≤k∧k<es.length then (es[k.toNat]?).map .ref else none
   | .own m l=>match A.o m with | some (.bW _ sz es)=>if l=es.length∧sz=esz∧0≤k∧k<es.length then (es[k.toNat]?).map .ref else none | _=>none
   | .view m p sz lo l=>match cM A (.ptr m p) with | some (.agg _)=>if sz=esz∧0≤k∧k<l then some (.ptr m (p++[lo+k.toNat])) else none | _=>none
   |_=>none
  |_=>none
 | .ix n esz s x i=>match al A i with
  | .int _ k=>if 0≤k∧k<n then (match al A x with
   | .agg fs=>if jV n esz fs then (match fs[k.toNat]? with | some v=>if cn s v then some v else none | none=>none) else none
   |_=>none) else none
  |_=>none
 | .len x=>match al A x with
  | .slice _ es=>some (.int .i64 es.length)
  | .nils _ | .c0 _=>some (.int .i64 0)
  | .own m l=>match A.o m with | some (.bW _ _ es)=>if l=es.length then some (.int .i64 es.length) else none | _=>none
  | .view _ _ _ _ k=>some (.int .i64 k)
  |_=>none
 | .cap x=>match al A x with
  | .nils _ | .c0 _=>some (.int .i64 ((0:Nat):Int))
  | .view n p _ lo _=>match cM A (.ptr n p) with | some (.agg fs)=>some (.int .i64 ((fs.length-lo:Nat):Int)) | _=>none
  |_=>none
 | .bs0 esz=>some (.c0 esz)
 | .lenT x=>match al A x with
  | .bT s=>some (.int .i64 s.size)
  |_=>none
 | .va n esz x=>match al A x with
  | .ptr m p=>match cM A (.ptr m p) with | some (.agg fs)=>if jV n esz fs=true∧n≤maxLen∧n≠0 then some (.view m p esz 0 n) else none | _=>none
  | .ref (.agg fs)=>if jV n esz fs=true∧n≤maxLen∧n≠0 then some (.slice esz fs) else none
  |_=>none
 | .sl esz x lo hi mx=>match al A x with
  | .slice sz es=>if sz=esz then j6 sz es (lo.map (al A)) (hi.map (al A)) (mx.map (al A)) else none
  | .nils sz=>if sz=esz then j6 sz [] (lo.map (al A)) (hi.map (al A)) (mx.map (al A)) else none
  | .c0 sz=>if sz=esz then j6 sz [] (lo.map (al A)) (hi.map (al A)) (mx.map (al A)) else none
  | .view n p sz l0 k=>match cM A (.ptr n p) with | some (.agg fs)=>if sz=esz then mK n p sz l0 k fs.length (lo.map (al A)) (hi.map (al A)) (mx.map (al A)) else none | _=>none
  |_=>none
 | .bld zs parts=>(ef zs (parts.map fun p=>(p.1,al A p.2))).map .agg
 | .nilC x=>nv (al A x)
 | .max2 x y=>tg (al A x) (al A y)
 | .ptrE neg x y=>oO neg (jy (al A x)) (jy (al A y))
 | .lk ty z ok m k=>s8 ty z ok (al A k) (gS A (al A m))
 | .ent x=>match al A x with
  | .dv n=>match A.o n with
   |some (.it ks vs _ cur)=>oz ks vs cur
   |_=>none
  |_=>none
 | .bs _ esz parts=>match bZ false A (parts.map (al A)) with
  |some es=>if (es.all fun e=>e.size==esz)∧I.cq es then some (.slice esz es) else none
  |none=>none
 | .ext x i=>match al A x with | .tuple fs=>fs[i]? | _=>none
 | .mk f caps=>if ((caps.map (al A)).all fun y=>y.bV)=true then some (.func f (caps.map (al A))) else none
 |_=>none
mutual
theorem ao.gy{w:World}{D D':aX}{E E':bj}(hD:∀ b o,D b o→D' b o):∀ (x:I) (cs:List Value),x.bG=true→ao w D E x cs→ao w D' E' x cs
 | .agg fs,cs,hc,hr=>by simp only[ao,I.bG] at *;exact aU.gy hD fs cs hc hr
 | .bool b,cs,_,hr=>by simpa only[ao] using hr
 | .int k n,cs,_,hr=>by simpa only[ao] using hr
 | .bT s,cs,_,hr=>by simpa only[ao] using hr
 | .nilp,cs,_,hr=>by simpa only[ao] using hr
 | .dE,cs,_,hr=>by simpa only[ao] using hr
 | .ed,cs,_,hr | .any,cs,_,hr=>by simpa only[ao] using hr
 | .raw _,cs,_,hr=>by simpa only[ao] using hr
 | .nils _,cs,_,hr=>by simpa only[ao] using hr
 | .c0 _,cs,_,hr=>by simpa only[ao] using hr
 | .slice sz es,cs,hc,hr=>by
  simp only[ao,I.bG] at *;obtain ⟨a,cap,U,ab,af,ar,h5⟩:=hr;refine ⟨a,cap,U,ab,af,?_,h5⟩;rcases ar with ar | ⟨b,off,cs',h6,h7,h8⟩
  ·exact .inl ar
  ·exact .inr ⟨b,off,cs',h6,fun j v hj=>⟨(h7 j v hj).1,hD _ _ (h7 j v hj).2⟩,aU.gy hD es cs' hc h8⟩
 | .ref x,cs,hc,hr=>by
  simp only[ao,I.bG] at *;obtain ⟨b,off,cs',U,ab,af⟩:=hr;exact ⟨b,off,cs',U,fun j v hj=>⟨(ab j v hj).1,hD _ _ (ab j v hj).2⟩,ao.gy hD x cs' hc af⟩
 | .func f caps,cs,hc,hr=>by
  simp only[ao,I.bG] at *;obtain ⟨vs,U,ab⟩:=hr;exact ⟨vs,U,aO.gy hD caps vs hc ab⟩
 | .iface t v,cs,hc,hr=>by
  simp only[ao,I.bG] at *;obtain ⟨u,cs',U,ab,af⟩:=hr;exact ⟨u,cs',U,ab,ao.gy hD v cs' hc af⟩
 | .ptr n p,_,hc,_=>by simp[I.bG] at hc
 | .own n k,_,hc,_=>by simp[I.bG] at hc
 | .view n p _ _ _,_,hc,_=>by simp[I.bG] at hc
 | .mref n,_,hc,_=>by simp[I.bG] at hc
 | .dv n,_,hc,_=>by simp[I.bG] at hc
 | .dp ks vs,cs,hc,hr=>by
  simp only[ao,I.bG,zz1] at *;obtain ⟨b,es,ck,U,ab,af,ar⟩:=hr;exact ⟨b,es,ck,U,⟨ab.1,hD _ _ ab.2.1,ab.2.2⟩,aO.gy hD ks _ hc.1 af,aO.gy hD vs _ hc.2 ar⟩
 | .undef,_,hc,_=>by simp[I.bG] at hc
 | .dx,_,hc,_=>by simp[I.bG] at hc
 | .tuple _,_,hc,_=>by simp[I.bG] at hc
theorem aU.gy{w:World}{D D':aX}{E E':bj}(hD:∀ b o,D b o→D' b o):∀ (xs:List I) (cs:List Value),I.cq xs=true→aU w D E xs cs→aU w D' E' xs cs
 | [],cs,_,hr=>by simpa only[aU] using hr
 |x::xs,cs,hc,hr=>by
  simp only[aU,I.cq,zz1] at *;obtain ⟨c1,c2,U,ab,af⟩:=hr;exact ⟨c1,c2,U,ao.gy hD x c1 hc.1 ab,aU.gy hD xs c2 hc.2 af⟩
theorem aO.gy{w:World}{D D':aX}{E E':bj}(hD:∀ b o,D b o→D' b o):∀ (xs:List I) (vs:List Value),I.cq xs=true→aO w D E xs vs→aO w D' E' xs vs
 | [],vs,_,hr=>by simpa only[aO] using hr
 |x::xs,vs,hc,hr=>by
  simp only[aO,I.cq,zz1] at *;obtain ⟨v,rest,cs,U,ab,af,ar⟩:=hr;exact ⟨v,rest,cs,U,ab,ao.gy hD x cs hc.1 af,aO.gy hD xs rest hc.2 ar⟩
end
theorem p8{w:World}{D:aX}{b:Nat}{cs:Array Value}{T:TypeId}{fz:Nat×Nat}(hb:w.heap[b]?=some (.cells cs T fz)){c1 c2 c3:List Value}(hc:cs.toList=c1++c2++c3)
  (hD:∀ o,o<c1.length+c2.length→D b o):reads w D b c1.length c2:=by
 intro j v hj;have hjl:j<c2.length:=(zy0.1 hj).1;refine ⟨?_,hD _ (by omega)⟩;have e:cs[c1.length+j]?=some v:=by
  rw[←zw6,hc,zy4,zv1 (by omega),Nat.add_sub_cancel_left,zx0 (by omega)];exact hj
 simp[World.cell?,hb,e]
section
variable {c:c4} {A:ai} {a:Act} {w:World} {D:aX} {E:bj}
theorem bg.box(h:bg c A a w D E){n:Nat}{x:I}(hn:A.o n=some (.box x)) :
  ∃ b cs T,E n=some (.aR b x.bh)∧c.fo b∧w.heap[b]?=some (.cells cs T (0,0))∧ao w D E x cs.toList∧∀ o,¬ D b o:=by
 have:=h.bP n;rw[hn] at this;exact this
theorem bg.bW(h:bg c A a w D E){n sz:Nat}{T:TypeId}{es:List I}(hn:A.o n=some (.bW T sz es)) :
  ∃ aP,E n=some (.rw aP es.length)∧(∀ e∈es,e.size=sz)∧match aP with
  |none=>es=[]
  |some (b,cap)=>∃ cs pre rest,c.fo b∧w.heap[b]?=some (.cells cs T (0,0))∧cs.toList=pre++rest∧aU w D E es pre ∧
    cs.size=cap*sz∧es.length≤cap∧cap≤maxLen∧∀ o,D b o→o<pre.length:=by
 have:=h.bP n;rw[hn] at this;exact this
theorem bg.ud(h:bg c A a w D E){n:Nat}{T:TypeId}{xs:List Int}(hn:A.o n=some (.dJ T xs)) :
  ∃ aP,E n=some (.rw aP xs.length)∧(∀ x∈xs,IntKind.i64.min≤x∧x≤IntKind.i64.max)∧match aP with
  |none=>xs=[]
  |some (b,cap)=>∃ cs m,c.fo b∧w.heap[b]?=some (.cells cs T (0,0))∧cs.toList=(xs++List.replicate m 0).map (Value.int .i64)∧xs≠[]∧xs.length+m=cap∧cap≤maxLen∧∀ o,¬ D b o:=by
 have:=h.bP n;rw[hn] at this;exact this
theorem bg.map(h:bg c A a w D E){n:Nat}{ks vs:List I}(hn:A.o n=some (.bE ks vs)) :
  ∃ b es clock,E n=some (.bE b)∧c.fo b∧w.heap[b]?=some (.map es clock)∧qt es clock∧aO w D E ks (es.toList.map (·.key))∧aO w D E vs (es.toList.map (·.val))∧∀ o,¬ D b o:=by
 have:=h.bP n;rw[hn] at this;exact this
theorem bg.at(h:bg c A a w D E){n:Nat}{p:List Nat}{x:I}(hx:cM A (.ptr n p)=some x) :
  ∃ y b cs T off c1 c2 c3,A.o n=some (.box y)∧E n=some (.aR b y.bh)∧c.fo b∧w.heap[b]?=some (.cells cs T (0,0))∧y.at p=some x∧y.bh.off p=some off ∧
   cs.toList=c1++c2++c3∧c1.length=off∧ao w D E x c2∧ao w D E y cs.toList∧∀ o,¬ D b o:=by
 simp only[cM] at hx;split at hx
 ·rename_i y hn;obtain ⟨b,cs,T,U,ab,af,ar,h5⟩:=h.box hn;obtain ⟨off,c1,c2,c3,h6,h7,h8,h9⟩:=zA p y x _ ar hx;exact ⟨y,b,cs,T,off,c1,c2,c3,hn,U,ab,af,hx,h6,h7,h8,h9,ar,h5⟩
 ·cases hx
theorem bg.A2(h:bg c A a w D E){x y:I}{v:Value}(hv:bl w D E x v)(hx:cM A x=some y) :
  ∃ b off cs,v=.pointer (some ⟨b,off,none⟩)∧(∀ j u,cs[j]?=some u→w.cell? ⟨b,off+j,none⟩=some u)∧ao w D E y cs:=by
 cases x with
 |ref z =>
  simp only[cM,u8] at hx;subst hx;obtain ⟨b,off,cs,U,ab,af⟩:=rQ hv;exact ⟨b,off,cs,U,fun j u hj=>(ab j u hj).1,af⟩
 |ptr n p =>
  obtain ⟨b,bh,off,U,ab,af⟩:=mG hv;obtain ⟨z,b',cs,T,off',c1,c2,c3,k1,k2,_,k3,_,k5,k6,k7,k8,_,_⟩:=h.at hx;rw[k2] at U;simp only[u8,bO.aR.injEq] at U;obtain ⟨rfl,rfl⟩:=U;rw[k5,u8] at ab;subst ab;refine ⟨b',off',c2,af,fun j u hj =>?_,k8⟩;have:=p8 (D:=fun _ _=>True) k3 k6 (fun _ _=>trivial);rw[k7] at this;exact (this j u hj).1
 |_=>simp[cM] at hx
theorem v8{w:World}{D:aX}{E:bj} : ∀ (xs ys:List I) (cs:List Value),aU w D E (xs++ys) cs→∃ c1 c2,cs=c1++c2∧aU w D E xs c1∧aU w D E ys c2
 | [],ys,cs,hr=>⟨[],cs,rfl,by simp[aU],hr⟩
 |x::xs,ys,cs,hr=>by
  simp only[zz3,aU] at hr;obtain ⟨d1,d2,rfl,k1,k2⟩:=hr;obtain ⟨e1,e2,rfl,k3,k4⟩:=v8 xs ys d2 k2;exact ⟨d1++e1,e2,by simp,by simp only[aU];exact ⟨d1,e1,rfl,k1,k3⟩,k4⟩
theorem HQ{fs:List I}{sz:Nat}(h:∀ s∈I.cZ fs,s.size=sz):∀ f∈fs,f.size=sz:=by
 intro f hf;rw[←I.mJ];exact h _ (by rw[I.dA];exact zy7.2 ⟨f,hf,rfl⟩)
theorem wa{w:World}{D:aX}{E:bj}{fs:List I}{cs:List Value}{sz:Nat}(hr:aU w D E fs cs)(hev:∀ f∈fs,f.size=sz)(lo k:Nat)(h:lo+k≤fs.length) :
  ∃ d1 d2 d3,cs=d1++(d2++d3)∧d1.length=lo*sz∧aU w D E ((fs.drop lo).take k) d2∧aU w D E ((fs.drop lo).drop k) d3:=by
 have e1:fs=fs.take lo++((fs.drop lo).take k++(fs.drop lo).drop k):=by rw[List.take_append_drop,List.take_append_drop]
 rw[e1] at hr;obtain ⟨d1,d',rfl,q1,q2⟩:=v8 _ _ _ hr;obtain ⟨d2,d3,rfl,q3,q4⟩:=v8 _ _ _ q2;refine ⟨d1,d2,d3,rfl,?_,q3,q4⟩;rw[aU.length _ _ q1,I.jq _ (fun x hx=>hev x (List.mem_of_mem_take hx)),zx9]
 congr 1
 omega
structure iZ (aR:Bool) (A:ai) (D:aX) (E:bj) (D':aX):Prop where
 c6:∀ b o,D b o→D' b o
 bW:∀ n T sz es b cap,A.o n=some (.bW T sz es)→E n=some (.rw (some (b,cap)) es.length)→∀ o,o<es.length*sz→D' b o
 box:aR=true→∀ n x b bh,A.o n=some (.box x)→E n=some (.aR b bh)→∀ o,o<x.size→D' b o
 map:aR=true→∀ n ks vs b,A.o n=some (.bE ks vs)→E n=some (.bE b)→D' b 0
def eA(A A':ai):Prop:=∀ n x,A.o n=some x→A'.o n=some x
theorem ki{A A':ai}(hu:eA A A'){x v:I}(h:cM A x=some v):cM A' x=some v:=by
 cases x <;>simp only[cM] at h ⊢ <;>try exact h
 rename_i n p;cases ho:A.o n with
 |none=>rw[ho] at h;cases h
 |some y=>rw[ho] at h;rw[hu n y ho];exact h
theorem CO{A0 A:ai}(hu:eA A0 A){n:Nat}{p:List Nat}{x z:I}(h:cM A0 (.ptr n p)=some x)(hz:A.o n=some (.box z)):A0.o n=some (.box z):=by
 simp only[cM] at h;split at h
 ·rename_i y hy;have:=hu n _ hy;rw[hz] at this;rw[hy,←this]
 ·cases h
theorem bg.Hj(h:bg c A a w D E){A0:ai}(hu:eA A0 A){D':aX}(hw:iZ true A0 D E D'){n:Nat}{p:List Nat}{x:I}{cs:List Value}(hx:cM A0 (.ptr n p)=some x)(hr:ao w D E (.ptr n p) cs) :
  ∃ b off c2,cs=[.pointer (some ⟨b,off,none⟩)]∧reads w D' b off c2∧ao w D E x c2:=by
 obtain ⟨z,b',cs',T,off',c1,c2,c3,k1,k2,_,k3,k4,k5,k6,k7,k8,k9,_⟩:=h.at (ki hu hx);have k1:=CO hu hx k1;simp only[ao] at hr;obtain ⟨b,bh,off,U,ab,af⟩:=hr;rw[k2] at U;simp only[u8,bO.aR.injEq] at U;obtain ⟨rfl,rfl⟩:=U;rw[k5,u8] at ab;subst ab;have hsz:=ao.length z _ k9;rw[k6] at hsz;simp only[zz6] at hsz;refine ⟨b',off',c2,af,?_,k8⟩;rw[←k7];exact p8 k3 k6 (fun o ho=>hw.box rfl n z b' _ k1 k2 o (by omega))
theorem bg.j6(h:bg c A a w D E){A0:ai}(hu:eA A0 A){D':aX}{E':bj}(hw:iZ true A0 D E D'){n:Nat}{p:List Nat}{sz lo k:Nat}{fs:List I}{cs:List Value}(hx:cM A0 (.ptr n p)=some (.agg fs))(hr:ao w D E (.view n p sz lo k) cs)
  (hcl:I.cq ((fs.drop lo).take k)=true):ao w D' E' (.slice sz ((fs.drop lo).take k)) cs:=by
 obtain ⟨z,b',cs',T,off',c1,c2,c3,k1,k2,_,k3,k4,k5,k6,k7,k8,k9,_⟩:=h.at (ki hu hx);have k1:=CO hu hx k1;simp only[ao] at hr k8 ⊢;obtain ⟨b,bh,off,l,U,ab,af,ar,h5,h6,h7⟩:=hr;rw[k2] at U;simp only[u8,bO.aR.injEq] at U;obtain ⟨rfl,rfl⟩:=U;rw[k5,u8] at ab;subst ab;rw[nV p z _ k4] at af;simp only[I.bh,u8,cW.eS.injEq] at af;subst af;have hsz:=ao.length z _ k9;rw[k6] at hsz;rw[I.dA,zz8] at ar h5 h6;have hev:=HQ h7;obtain ⟨d1,d2,d3,rfl,q1,q2,q3⟩:=wa k8 hev lo k h6;simp only[zz6] at hsz;have hlen:((fs.drop lo).take k).length=k:=by rw[zx9,List.length_drop];omega
 refine ⟨some ⟨b',off'+lo*sz,none⟩,fs.length-lo,by rw[hlen];exact ar,by rw[hlen];omega,by omega,.inr ⟨b',off'+lo*sz,d2,rfl,?_,aU.gy hw.c6 _ d2 hcl q2⟩,?_⟩
 ·have:=p8 (D:=D') (c1:=c1++d1) (c2:=d2) (c3:=d3++c3) k3 (by rw[k6];simp) (fun o ho=>hw.box rfl n z b' _ k1 k2 o (by rw[zz6] at ho;omega));rw[zz6,k7,q1] at this;exact this
 ·intro e he;exact hev e (List.mem_of_mem_drop (List.mem_of_mem_take he))
theorem bg.HC(h:bg c A a w D E){aR:Bool}{A0:ai}(hu:eA A0 A){D':aX}{E':bj}(hw:iZ aR A0 D E D'){n k T sz:Nat}{es:List I}{cs:List Value}(hn:A0.o n=some (.bW T sz es))(hcl:I.cq es=true)(hk:k=es.length)(hr:ao w D E (.own n k) cs):ao w D' E' (.slice sz es) cs:=by
 subst hk;simp only[ao] at hr;obtain ⟨aP,l,U,ab,_,ar⟩:=hr;obtain ⟨blk',k1,k2,k3⟩:=h.bW (hu n _ hn);rw[k1] at U;simp only[u8,bO.rw.injEq] at U;obtain ⟨rfl,rfl⟩:=U;have ar:=ar rfl;cases blk' with
 |none =>
  simp only at k3 ar;subst k3;simp only[ao];exact ⟨none,0,by simpa using ar,by simp,by simp[maxLen],by simp,by simp⟩
 |some bc =>
  obtain ⟨b,cap⟩:=bc;simp only at ar;obtain ⟨cs',pre,rest,k4,k5,k6,k7,k8,k9,k10,k11⟩:=k3;simp only[ao];refine ⟨some ⟨b,0,none⟩,cap,ar,k9,k10,.inr ⟨b,0,pre,rfl,?_,aU.gy hw.c6 es pre hcl k7⟩,k2⟩;have hp:pre.length=es.length*sz:=by rw[aU.length _ _ k7,I.jq _ k2]
  have:=p8 (D:=D') (c1:=[]) k5 (by simpa using k6) (fun o ho=>hw.bW n T sz es b cap hn k1 o (by simp at ho;omega));simpa using this
theorem Fg{w:World}{D D':aX}{E E':bj}{f:I→Option I}(hf:∀ x y cs,ao w D E x cs→f x=some y→ao w D' E' y cs):∀ (xs ys:List I) (cs:List Value),aU w D E xs cs→gC f xs=some ys→aU w D' E' ys cs
 | [],ys,cs,hr,h=>by simp only[gC,u8] at h;subst h;simpa only[aU] using hr
 |x::xs,ys,cs,hr,h=>by
  simp only[gC] at h;split at h
  ·rename_i y ys' U ab;simp only[u8] at h;subst h;simp only[aU] at *;obtain ⟨c1,c2,e,k1,k2⟩:=hr;exact ⟨c1,c2,e,hf x y c1 k1 U,Fg hf xs ys' c2 k2 ab⟩
  ·cases h
theorem vx{w:World}{D D':aX}{E E':bj}{f:I→Option I}(hf:∀ x y cs,ao w D E x cs→f x=some y→ao w D' E' y cs)(hp:∀ x y,f x=some y→y.isAgg=x.isAgg):∀ (xs ys:List I) (vs:List Value),aO w D E xs vs→gC f xs=some ys→aO w D' E' ys vs
 | [],ys,cs,hr,h=>by simp only[gC,u8] at h;subst h;simpa only[aO] using hr
 |x::xs,ys,cs,hr,h=>by
  simp only[gC] at h;split at h
  ·rename_i y ys' U ab;simp only[u8] at h;subst h;simp only[aO] at *;obtain ⟨v,rest,c1,e,k1,k2,k3⟩:=hr;refine ⟨v,rest,c1,e,?_,hf x y c1 k2 U,vx hf hp xs ys' rest k3 ab⟩;unfold bI at *;rw[hp x y U];exact k1
  ·cases h
theorem xY{A0:ai} : ∀ {k:Nat} {x y:I},c7 A0 k x=some y→y.isAgg=x.isAgg
 |0,_,_,h=>by simp[c7] at h
 |k+1,x,y,h=>by
  simp only[c7] at h;split at h
  ·simp only[u8] at h;rw[h]
  ·cases x <;>simp only[] at h <;>first
    |(cases h;done)
    |(split at h <;>first | (simp only[zz0] at h;obtain ⟨z,_,rfl⟩:=h;rfl) | (simp only[u8] at h;subst h;rfl);done)
    |(simp only[zz0] at h;obtain ⟨z,_,rfl⟩:=h;rfl)
    |((repeat' split at h) <;>first | (cases h;done) | (simp only[u8] at h;subst h;rfl) | (simp only[zz0] at h;obtain ⟨z,_,rfl⟩:=h;rfl))
theorem xZ(h:bg c A a w D E){A0:ai}(hu:eA A0 A){D':aX}{E':bj}(hw:iZ true A0 D E D'):∀ (k:Nat) (x y:I) (cs:List Value),ao w D E x cs→c7 A0 k x=some y→ao w D' E' y cs
 |0,_,_,_,_,hf=>by simp[c7] at hf
 |k+1,x,y,cs,hr,hf=>by
  have ih:=xZ h hu (E':=E') hw k;simp only[c7] at hf;split at hf
  ·rename_i hcl;simp only[u8] at hf;subst hf;exact ao.gy hw.c6 x cs hcl hr
  ·rename_i hcl;cases x <;>simp only[] at hf <;>try (cases hf;done)
   case agg fs =>
    simp only[zz0] at hf;obtain ⟨ys,hy,rfl⟩:=hf;simp only[ao] at *;exact Fg ih fs ys cs hr hy
   case func f caps =>
    split at hf
    case isFalse =>
     simp only[u8] at hf;subst hf;simp only[ao] at *;obtain ⟨vs,U,ab⟩:=hr;exact ⟨_,U,Dq f vs⟩
    simp only[zz0] at hf;obtain ⟨ys,hy,rfl⟩:=hf;simp only[ao] at *;obtain ⟨vs,U,ab⟩:=hr;exact ⟨vs,U,vx ih (fun x y hxy=>xY hxy) caps ys vs ab hy⟩
   case ptr n p =>
    split at hf
    case h_2=>cases hf
    rename_i z hz;simp only[zz0] at hf;obtain ⟨y',hy,rfl⟩:=hf;obtain ⟨b,off,c2,k1,k2,k3⟩:=h.Hj hu hw hz hr;simp only[ao];exact ⟨b,off,c2,k1,k2,ih z y' c2 k3 hy⟩
   case view n p sz lo l =>
    split at hf
    case h_2=>cases hf
    rename_i fs hx;split at hf
    case isFalse=>cases hf
    rename_i hc;simp only[u8] at hf;subst hf;exact h.j6 hu hw hx hr hc
   case mref n =>
    split at hf
    case h_2=>cases hf
    rename_i ks vs hn;split at hf
    case isFalse=>cases hf
    rename_i hc;simp only[zz0] at hf;obtain ⟨ys,hy,rfl⟩:=hf;simp only[ao] at hr ⊢;obtain ⟨b,U,ab⟩:=hr;obtain ⟨b',es,ck,k1,k2,k3,k4,k5,k6,k7⟩:=h.map (hu n _ hn);rw[k1] at U;cases U;exact ⟨b,es,ck,ab,⟨k3,hw.map rfl n ks vs b hn k1,k4⟩,aO.gy hw.c6 ks _ hc k5,vx ih (fun x y hxy=>xY hxy) vs ys _ k6 hy⟩
   case own n l =>
    split at hf
    case h_2=>cases hf
    rename_i T sz es hn;split at hf
    case isFalse=>cases hf
    rename_i hk;simp only[u8] at hf;subst hf;exact h.HC hu hw hn hk.2 hk.1 hr
mutual
theorem Df(h:bg c A a w D E){aR:Bool}{A0:ai}(hu:eA A0 A){D':aX}{E':bj}(hw:iZ aR A0 D E D'):∀ (x y:I) (cs:List Value),ao w D E x cs→br aR A0 x=some y→ao w D' E' y cs
 | .ptr n p,y,cs,hr,hf=>by
  simp only[br] at hf;split at hf
  case isFalse=>cases hf
  rename_i hbx;subst hbx;split at hf
  case h_2=>cases hf
  rename_i x hx;obtain ⟨b,off,c2,k1,k2,k3⟩:=h.Hj hu hw hx hr;split at hf
  ·rename_i hcl;simp only[u8] at hf;subst hf;simp only[ao];exact ⟨b,off,c2,k1,k2,ao.gy hw.c6 x c2 hcl k3⟩
  ·simp only[zz0] at hf;obtain ⟨y',hy,rfl⟩:=hf;simp only[ao];exact ⟨b,off,c2,k1,k2,xZ h hu hw 9 x y' c2 k3 hy⟩
 | .mref n,y,cs,hr,hf=>by
  simp only[br] at hf;split at hf
  case isFalse=>cases hf
  rename_i hbx;subst hbx;split at hf
  case h_2=>cases hf
  rename_i ks vs hn;split at hf
  case isFalse=>cases hf
  rename_i hc;simp only[zz0] at hf;obtain ⟨ys,hy,rfl⟩:=hf;simp only[ao] at hr ⊢;obtain ⟨b,U,ab⟩:=hr;obtain ⟨b',es,ck,k1,k2,k3,k4,k5,k6,k7⟩:=h.map (hu n _ hn);rw[k1] at U;cases U;exact ⟨b,es,ck,ab,⟨k3,hw.map rfl n ks vs b hn k1,k4⟩,aO.gy hw.c6 ks _ hc k5,vx (xZ h hu hw 9) (fun x y hxy=>xY hxy) vs ys _ k6 hy⟩
 | .dv _,_,_,_,hf=>by simp[br] at hf
 | .dp ks vs,y,cs,hr,hf=>by
  simp only[br] at hf;split at hf
  ·rename_i hc;simp only[u8] at hf;subst hf;exact ao.gy hw.c6 _ cs (by simpa[I.bG] using hc) hr
  ·cases hf
 | .own n k,y,cs,hr,hf=>by
  simp only[br] at hf;split at hf
  case h_2=>cases hf
  rename_i T sz es hn;split at hf
  case isFalse=>cases hf
  rename_i hk;simp only[u8] at hf;subst hf;exact h.HC hu hw hn hk.2 hk.1 hr
 | .view n p sz lo k,y,cs,hr,hf=>by
  simp only[br] at hf;split at hf
  case isFalse=>cases hf
  rename_i hbx;subst hbx;split at hf
  case h_2=>cases hf
  rename_i fs hx;split at hf
  case isFalse=>cases hf
  rename_i hcl;simp only[u8] at hf;subst hf;exact h.j6 hu hw hx hr hcl
 | .nils sz,y,cs,hr,hf=>by
  simp only[br,u8] at hf;subst hf;simp only[ao] at *;exact ⟨none,0,by simpa using hr,by simp,by simp[maxLen],by simp,by simp⟩
 | .c0 sz,y,cs,hr,hf=>by
  simp only[br,u8] at hf;subst hf;simp only[ao] at *;obtain ⟨ad,hr⟩:=hr;exact ⟨ad,0,by simpa using hr,by simp,by simp[maxLen],by simp,by simp⟩
 | .func f caps,y,cs,hr,hf=>by
  simp only[br] at hf;split at hf
  case isFalse =>
   simp only[u8] at hf;subst hf;simp only[ao] at *;obtain ⟨vs,U,ab⟩:=hr;exact ⟨_,U,Dq f vs⟩
  simp only[zz0] at hf;obtain ⟨ys,hy,rfl⟩:=hf;simp only[ao] at *;obtain ⟨vs,U,ab⟩:=hr;exact ⟨vs,U,nj h hu hw caps ys vs ab hy⟩
 | .agg fs,y,cs,hr,hf=>by
  simp only[br,zz0] at hf;obtain ⟨ys,hy,rfl⟩:=hf;simp only[ao] at *;exact Dg h hu hw fs ys cs hr hy
 | .tuple _,_,_,_,hf=>by simp[br] at hf
 | .undef,_,_,_,hf=>by simp[br] at hf
 | .dx,_,_,_,hf=>by simp[br] at hf
 | .bool b,y,cs,hr,hf=>by simp only[br,u8] at hf;subst hf;simpa only[ao] using hr
 | .int k n,y,cs,hr,hf=>by simp only[br,u8] at hf;subst hf;simpa only[ao] using hr
 | .bT s,y,cs,hr,hf=>by simp only[br,u8] at hf;subst hf;simpa only[ao] using hr
 | .nilp,y,cs,hr,hf=>by simp only[br,u8] at hf;subst hf;simpa only[ao] using hr
 | .dE,y,cs,hr,hf=>by simp only[br,u8] at hf;subst hf;simpa only[ao] using hr
 | .ed,y,cs,hr,hf | .any,y,cs,hr,hf=>by simp only[br,u8] at hf;subst hf;simpa only[ao] using hr
 | .raw _,y,cs,hr,hf=>by simp only[br,u8] at hf;subst hf;simpa only[ao] using hr
 | .slice sz es,y,cs,hr,hf=>by
  simp only[br] at hf;split at hf
  ·rename_i hc;simp only[u8] at hf;subst hf;exact ao.gy hw.c6 _ cs (by simpa[I.bG] using hc) hr
  ·cases hf
 | .ref x,y,cs,hr,hf=>by
  simp only[br] at hf;split at hf
  ·rename_i hc;simp only[u8] at hf;subst hf;exact ao.gy hw.c6 _ cs (by simpa[I.bG] using hc) hr
  ·cases hf
 | .iface t v,y,cs,hr,hf=>by
  simp only[br] at hf;split at hf
  ·rename_i hc;simp only[u8] at hf;subst hf;exact ao.gy hw.c6 _ cs (by simpa[I.bG] using hc) hr
  ·cases hf
theorem Dg(h:bg c A a w D E){aR:Bool}{A0:ai}(hu:eA A0 A){D':aX}{E':bj}(hw:iZ aR A0 D E D'):∀ (xs ys:List I) (cs:List Value),aU w D E xs cs→bZ aR A0 xs=some ys→aU w D' E' ys cs
 | [],ys,cs,hr,hf=>by simp only[bZ,u8] at hf;subst hf;simpa only[aU] using hr
 |x::xs,ys,cs,hr,hf=>by
  simp only[bZ] at hf;split at hf
  ·rename_i y ys' U ab;simp only[u8] at hf;subst hf;simp only[aU] at *;obtain ⟨c1,c2,e,k1,k2⟩:=hr;exact ⟨c1,c2,e,Df h hu hw x y c1 k1 U,Dg h hu hw xs ys' c2 k2 ab⟩
  ·cases hf
theorem nj(h:bg c A a w D E){aR:Bool}{A0:ai}(hu:eA A0 A){D':aX}{E':bj}(hw:iZ aR A0 D E D'):∀ (xs ys:List I) (vs:List Value),aO w D E xs vs→bZ aR A0 xs=some ys→aO w D' E' ys vs
 | [],ys,cs,hr,hf=>by simp only[bZ,u8] at hf;subst hf;simpa only[aO] using hr
 |x::xs,ys,cs,hr,hf=>by
  simp only[bZ] at hf;split at hf
  ·rename_i y ys' U ab;simp only[u8] at hf;subst hf;simp only[aO] at *;obtain ⟨v,rest,c1,e,k1,k2,k3⟩:=hr;refine ⟨v,rest,c1,e,?_,Df h hu hw x y c1 k2 U,nj h hu hw xs ys' rest k3 ab⟩;have:y.isAgg=x.isAgg:=by
    cases x <;>simp only[br] at U <;>first
     |(simp at U;done)
     |(simp only[u8] at U;subst U;rfl)
     |(simp only[zz0] at U;obtain ⟨z,_,rfl⟩:=U;rfl)
     |((repeat' split at U) <;>first | (simp at U;done) | (simp only[u8] at U;subst U;rfl) | (simp only[zz0] at U;obtain ⟨z,_,rfl⟩:=U;rfl))
   unfold bI at *;rw[this];exact k1
  ·cases hf
end
end
def gB(P:Program)(t:TypeId):Option (Option Nat):=match P.underlying t with
 |some (.struct _) | some (.array _ _)=>some (some (P.cellsOf t))
 |some _=>some none
 |none=>none
def Ai(P:Program):Nat→TypeId→Option I
 |0,_=>none
 |d+1,t=>match P.underlying t with
  |some .bool=>some (.bool false)
  |some (.int k)=>some (.int k 0)
  |some .string=>some (.bT ByteArray.empty)
  |some (.pointer _)=>some .nilp
  |some (.slice e)=>some (.nils (P.cellsOf e))
  |some (.func _ _ _)=>some .dE
  |some (.interface _)=>some .ed
  |some (.map _ _)=>some (.raw (.map none))
  |some (.struct fs)=>(fs.toList.mapM fun f=>Ai P d f.type).map .agg
  |some (.array n e)=>(Ai P d e).map fun z=>.agg (List.replicate n z)
  |_=>none
def mh:I→Value→Bool
 | .bool b,.bool b'=>b==b'
 | .int k n,.int k' n'=>k==k'&&n==n'&&decide (k.min≤n∧n≤k.max)
 | .bT s,.string t=>s.size==0&&t.size==0
 | .nilp,.pointer none=>true
 | .nils _,.slice none 0 0=>true
 | .dE,.nilFunc=>true
 | .ed,.nilIface=>true
 | .raw (.map none),.map none=>true
 |_,_=>false
mutual
def n8:I→List Value→Option (List Value)
 | .agg fs,cs=>uj fs cs
 | .bool b,v::cs=>if mh (.bool b) v then some cs else none
 | .int k n,v::cs=>if mh (.int k n) v then some cs else none
 | .bT s,v::cs=>if mh (.bT s) v then some cs else none
 | .nilp,v::cs=>if mh .nilp v then some cs else none
 | .nils z,v::cs=>if mh (.nils z) v then some cs else none
 | .dE,v::cs=>if mh .dE v then some cs else none
 | .ed,v::cs=>if mh .ed v then some cs else none
 | .raw u,v::cs=>if mh (.raw u) v then some cs else none
 |_,_=>none
def uj:List I→List Value→Option (List Value)
 | [],cs=>some cs
 |x::xs,cs=>match n8 x cs with
  |some r=>uj xs r
  |none=>none
end
theorem ByteArray.O2{s t:ByteArray}(hs:s.size=0)(ht:t.size=0):s=t:=by
 cases s with | mk a=>cases t with | mk b =>
 have ha:a = #[]:=Array.eq_empty_of_size_eq_zero hs;have hb:b = #[]:=Array.eq_empty_of_size_eq_zero ht;rw[ha,hb]
theorem Mv{x:I}{v:Value}(h:mh x v=true)(w:World)(D:aX)(E:bj):ao w D E x [v]:=by
 unfold mh at h;split at h
 case h_9=>cases h
 case h_1=>simp only[beq_iff_eq] at h;subst h;simp[ao]
 case h_2 =>
  simp only[zz1,beq_iff_eq,decide_eq_true_eq] at h;obtain ⟨⟨rfl,rfl⟩,h⟩:=h;simp only[ao,true_and];exact h
 case h_3 =>
  simp only[zz1,beq_iff_eq] at h;have e:=ByteArray.O2 h.1 h.2;subst e;simp only[ao,true_and];rw[h.1];exact zw5 _
 all_goals simp[ao,Value.oneCell']
mutual
theorem Im:∀ (x:I) (cs r:List Value),n8 x cs=some r→∃ c1,cs=c1++r∧∀ w D E,ao w D E x c1
 | .agg fs,cs,r,h=>by
  simp only[n8] at h;obtain ⟨c1,U,ab⟩:=Io fs cs r h;exact ⟨c1,U,fun w D E=>by simp only[ao];exact ab w D E⟩
 | .bool b,v::cs,r,h | .int k n,v::cs,r,h | .bT s,v::cs,r,h | .nilp,v::cs,r,h | .nils z,v::cs,r,h | .dE,v::cs,r,h | .ed,v::cs,r,h | .raw u,v::cs,r,h=>by
  simp only[n8] at h;split at h
  ·rename_i hh;simp only[u8] at h;subst h;exact ⟨[v],rfl,fun w D E=>Mv hh w D E⟩
  ·cases h
 | .bool b,[],r,h | .int k n,[],r,h | .bT s,[],r,h | .nilp,[],r,h | .nils z,[],r,h | .dE,[],r,h | .ed,[],r,h | .raw _,[],r,h=>by simp[n8] at h
 | .any,_,_,h | .undef,_,_,h | .dx,_,_,h | .c0 _,_,_,h | .slice _ _,_,_,h | .tuple _,_,_,h | .ref _,_,_,h | .func _ _,_,_,h | .iface _ _,_,_,h | .ptr _ _,_,_,h | .own _ _,_,_,h | .view _ _ _ _ _,_,_,h | .mref _,_,_,h | .dv _,_,_,h | .dp _ _,_,_,h=>by simp[n8] at h
theorem Io:∀ (xs:List I) (cs r:List Value),uj xs cs=some r→∃ c1,cs=c1++r∧∀ w D E,aU w D E xs c1
 | [],cs,r,h=>by
  simp only[uj,u8] at h;exact ⟨[],by simp[h],fun w D E=>by simp[aU]⟩
 |x::xs,cs,r,h=>by
  simp only[uj] at h;split at h
  ·rename_i r' hx;obtain ⟨c1,U,ab⟩:=Im x cs r' hx;obtain ⟨c2,af,ar⟩:=Io xs r' r h;exact ⟨c1++c2,by rw[U,af,zy4],fun w D E=>by simp only[aU];exact ⟨c1,c2,rfl,ab w D E,ar w D E⟩⟩
  ·cases h
end
def gY(P:Program)(t:TypeId):Option I :=
 match (P.info? t).bind (·.zero),Ai P 12 t with
 |some z,some x=>match n8 x z.cells.toList with
  |some []=>some x
  |_=>none
 |_,_=>none
theorem mT{P:Program}{t:TypeId}{x:I}(h:gY P t=some x):∃ i z,P.info? t=some i∧i.zero=some z∧∀ w D E,ao w D E x z.cells.toList:=by
 unfold gY at h;split at h
 ·rename_i z x' hz hx;split at h
  ·rename_i hk;simp only[u8] at h;subst h;obtain ⟨i,hi,hz'⟩:=zv5.1 hz;obtain ⟨c1,U,ab⟩:=Im _ _ _ hk;rw[zy1] at U;exact ⟨i,z,hi,hz',fun w D E=>by rw[U];exact ab w D E⟩
  ·cases h
 ·cases h
def mB:Nat→List I→List (Nat×Nat)
 |_,[]=>[]
 |k,x::xs=>(k,x.size)::mB (k+x.size) xs
theorem FZ:∀ (xs:List I) (k i:Nat),(mB k xs)[i]?=(xs[i]?).map fun x=>(k+I.sizes (xs.take i),x.size)
 | [],k,i=>by simp[mB]
 |x::xs,k,0=>by simp[mB,I.sizes]
 |x::xs,k,i+1=>by
  simp only[mB,List.getElem?_cons_succ,FZ xs,zw3,I.sizes];cases xs[i]? <;>simp;omega
def fq (P : Program) (f : FuncId) : Bool := Nat.blt f 1000000 && (P.funcs[f]?).any fun fn => fn.name != "runtime.NumGoroutine" && fn.body.isSome
def mf(P:Program)(ps:List (Nat×Operand)):Option (List (Nat×aV)):=ps.mapM fun p=>(bF P 0 p.2).map fun x=>(p.1,x)
def jt(P:Program):Option Operand→Option (Option aV)
 |none=>some none
 |some x=>(bF P 0 x).map some
def lG(P:Program):List Operand→List TypeId→Option (List aV)
 | [],_=>some []
 |x::xs,ts=>match bF P (ts.headD 0) x,lG P xs ts.tail with
  |some y,some ys=>some (y::ys)
  |_,_=>none
def rJ(P:Program):Nat→List Field→Bool
 |_,[]=>true
 |k,f::fs=>f.offset==k&&rJ P (k+P.cellsOf f.type) fs
def iu(P:Program):Nat→TypeId→Option cH
 |0,_=>none
 |d+1,t=>match P.underlying t with
  |some (.int k)=>some (.i k)
  |some .bool=>some .b
  |some .string=>some .s
  | some (.struct fs) => if P.stoodInHeld t = false ∧ (fs.toList.all fun f => f.name != "_") = true ∧ rJ P 0 fs.toList = true then
    (fs.toList.mapM fun (f:Field)=>match iu P d f.type with
     |some ty=>if ty.size=P.cellsOf f.type then some ty else none
     |none=>none).map .bm else none
  |some (.array n e)=>match iu P d e with
   |some ty=>if ty.size=P.cellsOf e∧(P.info? e).isSome=true then some (.sd n ty) else none
   |none=>none
  |_=>none
def sU:Option TypeDesc→Bool
 |some (.int _)=>true
 |_=>false
def yp:cH→Bool
 | .i _=>true
 |_=>false
def kX(P:Program)(t:TypeId):Option cH:=match P.underlying t with
 |some (.int k)=>some (.i k)
 |some (.struct fs)=>match iu P 12 t with
  |some (.bm l)=>if l.all yp=true∧(fs.all fun f=>sU (P.underlying f.type))=true then some (.bm l) else none
  |_=>none
 |_=>none
def wK(P:Program)(t:TypeId)(z:I):Bool:=match (P.info? t).bind (·.zero) with
 |some (.agg _)=>z.isAgg
 |some _ => !z.isAgg
 |none=>false
def zS:Operand→Operand→Bool
 | .tmp a,.tmp b=>a==b
 |_,_=>false
theorem abH{x y:Operand}(h:zS x y=true):y=x:=by
 unfold zS at h;split at h
 ·simp only[beq_iff_eq] at h;rw[h]
 ·cases h
def dm(P:Program)(o:Oper):Option bU :=
 match o.op with
 | .move x | .assign x=>(bF P o.type x).map .mv
 | .pick c a b=>match bF P 0 c,bF P o.type a,bF P o.type b with
  |some c,some a,some b=>some (.pick c a b)
  |_,_,_=>none
 | .binOp op t x y _=>match P.underlying t,bF P 0 x,bF P 0 y with
  |some (.int _),some x,some y | some .string,some x,some y=>some (.bin op x y)
  |some (.slice _),some x,some y=>match y with
   | .c (.nils _)=>if op=.eql∨op=.neq then some (.nilS (op==.neq) x) else none
   |_=>none
  |some (.pointer _),some x,some y=>if op=.eql∨op=.neq then some (.ptrE (op==.neq) x y) else none
  |some _,some x,some y=>if (op=.eql∨op=.neq)∧P.eqGuardType P.depth t=false then (iu P 12 t).map fun ty=>.eqv ty (op==.neq) x y else none
  |_,_,_=>none
 | .unOp op _ x=>(bF P 0 x).map (.un op)
 | .nilCheck x=>(bF P 0 x).map .nilC
 | .makeMap _ none=>some .jB
 | .lookup t m k ok=>match P.underlying t,bF P 0 m,bF P 0 k with
  |some (.map kt et),some m,some k=>match kX P kt,gY P et with
   |some ty,some z=>if wK P et z=true then some (.lk ty z ok m k) else none
   |_,_=>none
  |_,_,_=>none
 | .mapUpdate t m k v | .insert t m k v=>match P.underlying t,bF P 0 m,bF P 0 k with
  |some (.map kt et),some m,some k=>match kX P kt,bF P et v with
   |some ty,some v=>some (.fg ty m k v)
   |_,_=>none
  |_,_,_=>none
 | .makeSlice t l l'=>match P.underlying t,bF P 0 l with
  |some (.slice e),some n=>match gY P e with
   |some z=>if zS l l'=true∧z.size=1∧P.cellsOf e=1 then some (.lM e (P.bytesOf e) z n) else none
   |none=>none
  |_,_=>none
 | .range t x=>match P.underlying t with
  |some (.map _ _)=>(bF P 0 x).map .kG
  |_=>none
 | .next x false=>(bF P 0 x).map .jh
 | .entry x=>(bF P 0 x).map .ent
 | .convert oY dst x=>match P.underlying oY,P.underlying dst,bF P 0 x with
  |some (.int _),some (.int k),some x=>some (.conv k x)
  |_,_,_=>none
 | .load t x=>match gB P t,bF P 0 x with
  |some s,some x=>some (.ld s x)
  |_,_=>none
 | .fieldAddr t x f=>match P.underlying t,bF P 0 x with
  |some (.struct fs),some x=>match fs[f]? with
   |some fd=>if P.cellsOf fd.type=0 then none else some (.fa f fd.offset x)
   |none=>none
  |_,_=>none
 | .field t x f=>match P.underlying t,bF P 0 x with
  |some (.struct fs),some x=>match fs[f]? with
   |some fd=>(gB P fd.type).map fun s=>.fl f fd.offset s x
   |none=>none
  |_,_=>none
 | .indexAddr t x i=>match P.underlying t,bF P 0 x,bF P 0 i with
  |some (.array n e),some x,some i=>if (P.info? e).isSome then some (.ia n (P.cellsOf e) x i) else none
  |some (.slice e),some x,some i=>if (P.info? e).isSome then some (.is (P.cellsOf e) x i) else none
  |_,_,_=>none
 | .index t x i=>match P.underlying t,bF P 0 x,bF P 0 i with
  |some (.array n e),some x,some i=>(gB P e).map fun s=>.ix n (P.cellsOf e) s x i
  |_,_,_=>none
 | .slice t x lo hi mx=>match P.underlying t,bF P 0 x with
  |some (.array n e),some x=>match lo,hi,mx with
   |none,none,none=>if (P.info? e).isSome then some (.va n (P.cellsOf e) x) else none
   |_,_,_=>none
  |some (.slice e),some x=>match jt P lo,jt P hi,jt P mx with
   |some lo,some hi,some mx=>if (mx.isSome=true→hi.isSome=true)∧(P.info? e).isSome=true then some (.sl (P.cellsOf e) x lo hi mx) else none
   |_,_,_=>none
  |_,_=>none
 | .build t parts=>match gY P t,mf P parts.toList with
  |some (.agg zs),some ps=>match P.underlying t with
   |some (.struct fs)=>if (fs.toList.map fun f=>(f.offset,P.cellsOf f.type))=mB 0 zs∧(fs.all fun f=>(P.info? f.type).isSome)=true then some (.bld zs ps) else none
   |some (.array n e)=>if zs.length=n∧(zs.all fun z=>z.size==P.cellsOf e)=true∧(P.info? e).isSome=true then some (.bld zs ps) else none
   |_=>none
  |_,_=>none
 | .buildSlice t len parts=>match P.underlying t with
  |some (.slice e)=>match mf P parts.toList with
   |some ps=>if len=0∧parts = #[]∧(P.info? e).isSome=true then some (.bs0 (P.cellsOf e)) else if ps.map (·.1)=List.range len∧0<P.cellsOf e∧0<len∧len*P.cellsOf e≤16777216∧((P.info? e).bind (·.zero)).isSome=true then some (.bs e (P.cellsOf e) (ps.map (·.2))) else none
   |none=>none
  |_=>none
 | .extract x i=>(bF P 0 x).map fun x=>.ext x i
 | .makeFunc (.func f) first caps=>if f<1000000 then (if first.isEmpty then (lG P caps.toList []).map (.mk f) else if caps.isEmpty then (lG P first.toList []).map (.mk (f+1000000)) else none) else none
 | .alloc t=>(gY P t).map .alloc
 | .box t x=>(bF P t x).map .box
 | .store t x v=>match gB P t,bF P 0 x,bF P t v with
  |some s,some x,some v=>if s.isSome=true∨P.cellsOf t=1 then some (.bm s x v) else none
  |_,_,_=>none
 | .call { callee:=.value (.func f),args,argTypes } =>if fq P f then (lG P args.toList argTypes.toList).map (.call f) else (lG P args.toList argTypes.toList).map (.lD f)
 | .call { callee:=.value x,args,argTypes } =>match bF P 0 x,lG P args.toList argTypes.toList with
  |some x,some args=>some (.fQ x args)
  |_,_=>none
 | .call { callee:=.builtin .len,args,argTypes } =>match args.toList,argTypes.toList with
  | [x],[t]=>match P.underlying t with
   |some (.slice _)=>(bF P t x).map .len
   |some .string=>(bF P t x).map .lenT
   |_=>none
  |_,_=>none
 | .call { callee:=.builtin .append,args,argTypes } =>match args.toList,argTypes.toList with
  | [s,x],[t,t']=>match P.underlying t,bF P t s,bF P t' x with
   |some (.slice e),some s,some x=>if t=t'∧0<P.cellsOf e∧(gY P e).map I.size=some (P.cellsOf e) then (gY P e).map fun z=>.dy e (P.cellsOf e) (P.bytesOf e) z s x else
    if sU (P.underlying t')=true∧0<P.cellsOf e∧(gY P e).map I.size=some (P.cellsOf e) then (gY P e).map fun z=>.mZ e (P.cellsOf e) (P.bytesOf e) z s x else none
   |_,_,_=>none
  |_,_=>none
 | .call { callee:=.builtin .cap,args,argTypes } =>match args.toList,argTypes.toList with
  | [x],[t]=>match P.underlying t with
   |some (.slice _)=>(bF P t x).map .cap
   |_=>none
  |_,_=>none
 | .call { callee:=.builtin .clear,args,argTypes } =>match args.toList,argTypes.toList with
  | [x],[t]=>match P.underlying t,bF P t x with
   |some (.slice e),some x=>(gY P e).map fun z=>.kh (P.cellsOf e) z x
   |_,_=>none
  |_,_=>none
 | .call { callee:=.builtin .copy,args,argTypes } =>match args.toList,argTypes.toList with
  | [x,y],[t,t']=>match P.underlying t,bF P t x,bF P t' y with
   |some (.slice e),some x,some y=>if t=t'∧(P.info? e).isSome=true then some (.ml (P.cellsOf e) x y) else none
   |_,_,_=>none
  |_,_=>none
 | .call { callee:=.builtin .delete,args,argTypes } =>match args.toList,argTypes.toList with
  | [m,k],[t,_]=>match P.underlying t,bF P 0 m,bF P 0 k with
   |some (.map kt _),some m,some k=>(kX P kt).map fun ty=>.jA ty m k
   |_,_,_=>none
  |_,_=>none
 | .call { callee:=.builtin .max,args,.. } =>match args.toList with
  | [x,y]=>match bF P 0 x,bF P 0 y with
   |some x,some y=>some (.max2 x y)
   |_,_=>none
  |_=>none
 |_=>none
def dP(c:c4)(A:ai)(o:Oper)(x:I):Prop :=
 ∀ a w D E,bg c A a w D E→∃ v w' D',(execOp a.eval o).run c.P w=.ok (.value v) w'∧bg c A a w' D' E∧bl w' D' E x v
section
variable {c:c4} {A:ai} {o:Oper} {x:I}
theorem dP.same(h:∀ a w D E,bg c A a w D E→∃ v,(execOp a.eval o).run c.P w=.ok (.value v) w∧bl w D E x v):dP c A o x :=
 fun a w D E hs=>let ⟨v,U,ab⟩:=h a w D E hs;⟨v,w,D,U,hs,ab⟩
theorem Ei{y:Operand}{z:aV}(ho:o.op=.move y∨o.op=.assign y)(hz:bF c.P o.type y=some z):dP c A o (al A z) :=
 .same fun a w D E hs=>⟨a.eval y,by rcases ho with ho | ho <;>simp[execOp,ho],b5 hs hz⟩
theorem Yl{q y z:Operand}{q' y' z':aV}{t:Bool}(ho:o.op=.pick q y z)(hq:bF c.P 0 q=some q')(hy:bF c.P o.type y=some y')(hz:bF c.P o.type z=some z')
  (ht:al A q'=.bool t):dP c A o (if t then al A y' else al A z') :=
 .same fun a w D E hs=>by
  have U:=b5 hs hq;rw[ht] at U;have ab:=lU U;refine ⟨if t then a.eval y else a.eval z,by cases t <;>simp[execOp,ho,ab,asBool],?_⟩;cases t
  ·exact b5 hs hz
  ·exact b5 hs hy
theorem zL{P:Program}{w:World}(op:BinOp)(t:TypeId)(x y:Operand){u v:Value}(hu:u.oneCell'=true)(hn:u≠.nilIface):(eqGuard op t x y u v).run P w=.ok () w:=by
 cases op <;>cases u <;>simp[Value.oneCell'] at hu <;>first | (exact absurd rfl hn) | (cases v <;>simp[eqGuard])
theorem JE{op:BinOp}{x y z:I}(h:cF op x y=some z){P:Program}{t:TypeId}{w:World}{D:aX}{E:bj}{u v:Value}(hx:bl w D E x u)(hy:bl w D E y v)(xo yo:Operand) :
  ∃ r,(do eqGuard op t xo yo u v;binOp op t u v:Sem Value).run P w=.ok r w∧bl w D E z r:=by
 unfold cF at h;split at h
 ·rename_i k a k' b;obtain ⟨rfl,ha⟩:=fh hx;obtain ⟨rfl,hb⟩:=fh hy;have hg:∀ op,(eqGuard op t xo yo (.int k a) (.int k' b)).run P w=.ok () w:=fun op=>zL op t xo yo rfl (by simp);simp only[Sem.run_bind,hg,Result.andThen_ok];split at h
  ·split at h
   ·rename_i hb0;simp only[u8] at h;subst h;have:¬ b<0:=by omega
    exact ⟨_,by simp[binOp,Op.shift,this],lb (rX _ _)⟩
   ·cases h
  ·split at h
   ·rename_i hb0;simp only[u8] at h;subst h;have:¬ b<0:=by omega
    exact ⟨_,by simp[binOp,Op.shift,this],lb (Po _ _ _ ha)⟩
   ·cases h
  ·rename_i op U ab;split at h
   ·rename_i hk;subst hk;split at h <;>first
     |(simp at h;done)
     |(simp only[u8] at h;subst h;exact ⟨_,by simp[binOp,Op.intArith,Op.intBits,Op.intCmp],lb (rX _ _)⟩)
     |(simp only[u8] at h;subst h;exact ⟨_,by simp[binOp,Op.intCmp],pQ _⟩)
     |(split at h
       ·cases h
       ·rename_i hb0;simp only[u8] at h;subst h
        first
         |exact ⟨_,by simp[binOp,Op.intDiv,hb0],lb (rX _ _)⟩
         |exact ⟨_,by simp[binOp,Op.intDiv,hb0],lb (acu _ _ _ ha)⟩)
   ·cases h
 ·rename_i s s';obtain ⟨rfl,hs1⟩:=oW hx;obtain ⟨rfl,hs2⟩:=oW hy;have hg:∀ op,(eqGuard op t xo yo (.string s) (.string s')).run P w=.ok () w:=fun op=>zL op t xo yo rfl (by simp);simp only[Sem.run_bind,hg,Result.andThen_ok];split at h <;>first
   |(simp at h;done)
   |(simp only[u8] at h;subst h;exact ⟨_,by simp[binOp,Op.stringOp],pQ _⟩)
   |(split at h
     ·rename_i hl;simp only[u8] at h;subst h;have hl':¬ (((s.size+s'.size:Nat):Int)>IntKind.i64.max):=by
       have e:IntKind.i64.max=9223372036854775807:=by simp[IntKind.max,IntKind.bits,IntKind.signed]
       rw[e];omega
      refine ⟨.string (s++s'),by simp only[binOp,Op.stringOp,if_neg hl',Sem.run_pure],?_⟩;exact ⟨_,by simp[bI,I.isAgg];rfl,by simp only[ao,true_and];rw[ByteArray.size_append];unfold maxLen;omega⟩
     ·cases h)
 ·cases h
theorem Ef{op:BinOp}{t yt:TypeId}{y z:Operand}{y' z':aV}(ho:o.op=.binOp op t y z yt)(hy:bF c.P 0 y=some y')(hz:bF c.P 0 z=some z')(h:cF op (al A y') (al A z')=some x):dP c A o x :=
 .same fun a w D E hs=>by
  obtain ⟨r,U,ab⟩:=JE h (P:=c.P) (t:=t) (b5 hs hy) (b5 hs hz) y z;exact ⟨r,by simp only[execOp,ho,Sem.run_bind] at *;rw[U];rfl,ab⟩
theorem Yk{t:TypeId}{y:Operand}{y':aV}{b:Bool}(ho:o.op=.unOp .not t y)(hy:bF c.P 0 y=some y')(h:al A y'=.bool b):dP c A o (.bool !b) :=
 .same fun a w D E hs=>by
  have U:=b5 hs hy;rw[h] at U;exact ⟨.bool !b,by simp[execOp,ho,lU U,Op.unary],pQ _⟩
theorem Yj{t:TypeId}{y:Operand}{y':aV}{k:IntKind}{n:Int}(ho:o.op=.unOp .neg t y)(hy:bF c.P 0 y=some y')(h:al A y'=.int k n):dP c A o (.int k (k.wrap (0-n))) :=
 .same fun a w D E hs=>by
  have U:=b5 hs hy;rw[h] at U;exact ⟨.int k (k.wrap (0-n)),by simp[execOp,ho,(fh U).1,Op.unary,Op.intArith],lb (rX _ _)⟩
theorem X1{t:TypeId}{y:Operand}{y':aV}{k:IntKind}{n:Int}(ho:o.op=.unOp .xor t y)(hy:bF c.P 0 y=some y')(h:al A y'=.int k n):dP c A o (.int k (qW k n)) :=
 .same fun a w D E hs=>by
  have U:=b5 hs hy;rw[h] at U;exact ⟨.int k (qW k n),by simp[execOp,ho,(fh U).1,Op.unary,Op.intBits,qW],lb (rX _ _)⟩
theorem X0{oY dst:TypeId}{y:Operand}{y':aV}{k k0 k1:IntKind}{n:Int}(ho:o.op=.convert oY dst y)(U:c.P.underlying oY=some (.int k0))(ab:c.P.underlying dst=some (.int k))
  (hy:bF c.P 0 y=some y') (h:al A y'=.int k1 n):dP c A o (.int k (k.wrap n)) :=
 .same fun a w D E hs=>by
  have af:=b5 hs hy;rw[h] at af;exact ⟨.int k (k.wrap n),by simp[execOp,ho,(fh af).1,convert,run_underlying U,run_underlying ab,Conv.intToInt],lb (rX _ _)⟩
theorem X4{y:Operand}{y':aV}{i:Nat}{fs:List I}(ho:o.op=.extract y i)(hy:bF c.P 0 y=some y')(h:al A y'=.tuple fs)(hi:fs[i]?=some x):dP c A o x :=
 .same fun a w D E hs=>by
  have af:=b5 hs hy;rw[h] at af;obtain ⟨vs,ar,h5⟩:=af;have:∀ (fs:List I) (vs:List Value) (i:Nat),aO w D E fs vs→fs[i]?=some x→∃ v,vs[i]?=some v∧bl w D E x v:=by
   intro fs
   induction fs with
   |nil=>intro vs i _ hi;simp at hi
   |cons f fs ih =>
    intro vs i hr hi;simp only[aO] at hr;obtain ⟨v,rest,cs,rfl,k1,k2,k3⟩:=hr;cases i with
    |zero =>
     simp only[List.getElem?_cons_zero,u8] at hi ⊢;subst hi;refine ⟨v,rfl,?_⟩;cases f <;>simp only[bl] <;>first | (simp only[ao] at k2;done) | exact ⟨cs,k1,k2⟩
    |succ i=>simpa using ih rest i k3 (by simpa using hi)
  obtain ⟨v,h6,h7⟩:=this fs vs i h5 hi;exact ⟨v,by simp[execOp,ho,ar,Instr.extract,h6],h7⟩
theorem ku{w:World}{D:aX}{E:bj}{x:I}{v:Value}{cs:List Value}(U:bI x v cs)(ab:ao w D E x cs):bl w D E x v:=by
 cases x <;>simp only[bl] <;>first | (simp only[ao] at ab;done) | exact ⟨cs,U,ab⟩
theorem HI{P:Program}{w:World}{t:TypeId}{s:Option Nat}(h:gB P t=some s):(isAgg t).run P w=.ok s.isSome w:=by
 unfold gB at h;unfold isAgg;cases hu:P.underlying t with
 |none=>simp[hu] at h
 |some d =>
  rw[Sem.run_bind,run_underlying hu w];cases d <;>simp_all <;>(subst h;rfl)
theorem yC{P:Program}{t:TypeId}{n:Nat}(h:gB P t=some (some n)):n=P.cellsOf t:=by
 unfold gB at h;split at h <;>simp_all
theorem yn{P:Program}{t:TypeId}{d:TypeDesc}(h:P.underlying t=some d):∃ i,P.info? t=some i:=by
 unfold Program.underlying at h;cases hi:P.info? t with
 |none=>simp[hi] at h
 |some i=>exact ⟨i,rfl⟩
theorem jJ{P:Program}{w:World}{t:TypeId}{i:TypeInfo}(h:P.info? t=some i):(sizeOf t).run P w=.ok (P.cellsOf t) w:=by
 simp[sizeOf,typeInfo,h,Program.cellsOf]
theorem vn{P:Program}{t:TypeId}{s:Option Nat}(h:gB P t=some s):∃ i,P.info? t=some i:=by
 unfold gB at h;split at h
 ·rename_i fs hu;exact yn hu
 ·rename_i n e hu;exact yn hu
 ·rename_i d _ _ hu;exact yn hu
 ·cases h
theorem oi(b off j:Nat):(⟨b,off,none⟩:Addr).add j=⟨b,off+j,none⟩:=by unfold Addr.add;split <;>simp_all
theorem HJ{P:Program}{w:World}{D:aX}{E:bj}{t:TypeId}{s:Option Nat}{b off:Nat}{cs:List Value}{y:I}(hk:gB P t=some s)(hok:cn s y=true)
  (hcs:∀ j u,cs[j]?=some u→w.cell? ⟨b,off+j,none⟩=some u) (hy:ao w D E y cs):∃ v,(loadVar t ⟨b,off,none⟩).run P w=.ok v w∧bl w D E y v:=by
 have hag:=HI (w:=w) hk;cases s with
 |none =>
  simp only[cn,Bool.not_eq_true'] at hok;have hl:=ao.length _ _ hy;have hsz:y.size=1:=by cases y <;>simp_all[I.isAgg,I.size]
  rw[hsz] at hl
  match cs,hl with
  | [v],_ =>
   have:=hcs 0 v rfl;rw[Nat.add_zero] at this;refine ⟨v,?_,Fq hok hy⟩;simp only[loadVar,Sem.run_bind,hag,Result.andThen_ok,Option.isSome_none,zz5,if_false,run_load,this]
 |some n =>
  simp only[cn,zz1,beq_iff_eq] at hok;obtain ⟨hag',hsz⟩:=hok;have hn:=yC hk;obtain ⟨i,hi⟩:=vn hk;have hl:=ao.length _ _ hy;refine ⟨.agg cs.toArray,?_,ku (by simp[bI,hag']) hy⟩;have hlc:=run_loadCells_list (P:=P) w ⟨b,off,none⟩ cs (fun j u hj=>by rw[oi];exact hcs j u hj);rw[hl,hsz,hn] at hlc;simp only[loadVar,Sem.run_bind,hag,Result.andThen_ok,Option.isSome_some,if_true,jJ hi,hlc,Sem.run_pure]
theorem Ye{t:TypeId}{y:Operand}{y':aV}{s:Option Nat}(ho:o.op=.load t y)(hk:gB c.P t=some s)(hy:bF c.P 0 y=some y')(h:cM A (al A y')=some x)(hok:cn s x=true):dP c A o x :=
 .same fun a w D E hs=>by
  obtain ⟨b,off,cs,U,ab,af⟩:=hs.A2 (b5 hs hy) h;obtain ⟨v,ar,h5⟩:=HJ hk hok ab af;exact ⟨v,by simp[execOp,ho,Instr.loadAt,U,Instr.sureAddr,ar],h5⟩
theorem wc{w:World}{D:aX}{b off:Nat}{c1 c2 c3:List Value}(h:reads w D b off (c1++c2++c3)):reads w D b (off+c1.length) c2:=by
 intro j v hj;have hjl:j<c2.length:=(zy0.1 hj).1;have:=h (c1.length+j) v (by rw[zy4,zv1 (by omega),Nat.add_sub_cancel_left,zx0 (by omega)];exact hj)
 rwa [←Nat.add_assoc] at this
theorem cW.vH:∀ (p:List Nat) (s:cW) (o i:Nat) (l:List cW),s.off p=some o→s.part p=some (.eS l)→i<l.length→s.off (p++[i])=some (o+cW.sizes (l.take i))
 | [],s,o,i,l,U,ab,af=>by
  simp only[cW.part,u8] at ab;subst ab;simp only[cW.off,u8] at U;subst U;simp[cW.off,zx3 af]
 |k::p,.one,o,i,l,U,ab,af=>by simp[cW.part] at ab
 |k::p,.eS m,o,i,l,U,ab,af=>by
  simp only[cW.off,cW.part,zz3] at *;cases hk:m[k]? with
  |none=>simp[hk] at ab
  |some s =>
   simp only[hk] at U ab ⊢;simp only[zz0] at U;obtain ⟨o',ar,rfl⟩:=U;rw[cW.vH p s o' i l ar ab af];simp[Nat.add_assoc]
theorem qn{esz:Nat} : ∀ (fs:List I) (k:Nat),(∀ f∈fs,f.size=esz)→k≤fs.length→I.sizes (fs.take k)=k*esz:=by
 intro fs k h hk;rw[I.jq _ (fun x hx=>h x (List.mem_of_mem_take hx))];simp[Nat.min_eq_left hk]
theorem sw{n esz:Nat}{fs:List I}(h:jV n esz fs=true):fs.length=n∧∀ f∈fs,f.size=esz:=by
 simp only[jV,zz1,beq_iff_eq,zx6] at h;exact h
theorem HF{P:Program}{w:World}{t:TypeId}{f b off:Nat}{fs:Array Field}{fd:Field}(hu:P.underlying t=some (.struct fs))(hf:fs[f]?=some fd)(hz:¬ P.cellsOf fd.type=0) :
  (Instr.fieldAt t (.pointer (some ⟨b,off,none⟩)) f).run P w=.ok (.pointer (some ⟨b,off+fd.offset,none⟩)) w:=by
 have hi:∃ i,P.info? fd.type=some i:=by
  cases h:P.info? fd.type with
  |none=>simp[Program.cellsOf,h] at hz
  |some i=>exact ⟨i,rfl⟩
 obtain ⟨i,hi⟩:=hi;simp only[Instr.fieldAt,Sem.run_bind,run_underlying hu,Result.andThen_ok,hf,Instr.sureAddr,Sem.run_pure,fieldPlace,jJ hi,Sem.run_ite,if_neg hz,oi]
theorem X6{t:TypeId}{y:Operand}{y':aV}{f:Nat}{fs:Array Field}{fd:Field}{gs:List I}(ho:o.op=.fieldAddr t y f)(hu:c.P.underlying t=some (.struct fs))(hf:fs[f]?=some fd)(hz:¬ c.P.cellsOf fd.type=0)
  (hy:bF c.P 0 y=some y') (h:al A y'=.ref (.agg gs)) (hx:gs[f]?=some x) (hoff:I.sizes (gs.take f)=fd.offset):dP c A o (.ref x) :=
 .same fun a w D E hs=>by
  have U:=b5 hs hy;rw[h] at U;obtain ⟨b,off,cs,ab,af,ar⟩:=rQ U;simp only[ao] at ar;obtain ⟨c1,c2,c3,rfl,k1,_,k2,_⟩:=nF gs cs f x ar hx;refine ⟨_,by simp only[execOp,ho,ab,Sem.run_bind,HF hu hf hz];rfl,vA (cs:=c2) ?_ k2⟩;rw[←hoff,←k1];exact wc af
theorem X5{t:TypeId}{y:Operand}{y':aV}{f n:Nat}{p:List Nat}{fs:Array Field}{fd:Field}{gs:List I}(ho:o.op=.fieldAddr t y f)(hu:c.P.underlying t=some (.struct fs))(hf:fs[f]?=some fd)(hz:¬ c.P.cellsOf fd.type=0)
  (hy:bF c.P 0 y=some y') (h:al A y'=.ptr n p) (ah:cM A (.ptr n p)=some (.agg gs)) (hl:f<gs.length) (hoff:I.sizes (gs.take f)=fd.offset):dP c A o (.ptr n (p++[f])) :=
 .same fun a w D E hs=>by
  have U:=b5 hs hy;rw[h] at U;obtain ⟨b,bh,off,ab,af,ar⟩:=mG U;obtain ⟨z,b',cs,T,off',c1,c2,c3,k1,k2,_,k3,k4,k5,k6,k7,k8,k9,_⟩:=hs.at ah;rw[k2] at ab;simp only[u8,bO.aR.injEq] at ab;obtain ⟨rfl,rfl⟩:=ab;refine ⟨_,by simp only[execOp,ho,ar,Sem.run_bind,HF hu hf hz];rfl,?_⟩;refine ⟨_,by simp[bI,I.isAgg];rfl,?_⟩;simp only[ao];refine ⟨b',z.bh,off+fd.offset,k2,?_,rfl⟩;rw[cW.vH p z.bh off f _ af (nV p z _ k4) (by rw[I.dA];simpa using hl),I.dA,←List.map_take,←I.dA,I.nW,hoff]
theorem HG{P:Program}{w:World}{t e:TypeId}{n b off:Nat}{kk:IntKind}{k:Int}{i:TypeInfo}(hu:P.underlying t=some (.array n e))(hi:P.info? e=some i)(hk:0≤k∧k<n) :
  (Instr.indexAt t (.pointer (some ⟨b,off,none⟩)) (.int kk k)).run P w=.ok (.pointer (some ⟨b,off+k.toNat*P.cellsOf e,none⟩)) w:=by
 simp[Instr.indexAt,asIntOf,run_underlying hu,Instr.sureAddr,hk,jJ hi,oi]
theorem zM{P:Program}{w:World}{t e:TypeId}{n b off cap:Nat}{kk:IntKind}{k:Int}{i:TypeInfo}(hu:P.underlying t=some (.slice e))(hi:P.info? e=some i)(hk:0≤k∧k<n) :
  (Instr.indexAt t (.slice (some ⟨b,off,none⟩) n cap) (.int kk k)).run P w=.ok (.pointer (some ⟨b,off+k.toNat*P.cellsOf e,none⟩)) w:=by
 simp[Instr.indexAt,asIntOf,run_underlying hu,hk,jJ hi,oi]
theorem X9{t e:TypeId}{y z:Operand}{y' z':aV}{n:Nat}{i:TypeInfo}{gs:List I}{kk:IntKind}{k:Int}(ho:o.op=.indexAddr t y z)(hu:c.P.underlying t=some (.array n e))(hi:c.P.info? e=some i)
  (hy:bF c.P 0 y=some y') (hz:bF c.P 0 z=some z') (h:al A y'=.ref (.agg gs)) (h':al A z'=.int kk k) (hk:0≤k∧k<n) (hev:jV n (c.P.cellsOf e) gs=true) (hx:gs[k.toNat]?=some x):dP c A o (.ref x) :=
 .same fun a w D E hs=>by
  have U:=b5 hs hy;rw[h] at U;have h1':=b5 hs hz;rw[h'] at h1';obtain ⟨b,off,cs,ab,af,ar⟩:=rQ U;simp only[ao] at ar;obtain ⟨c1,c2,c3,rfl,k1,_,k2,_⟩:=nF gs cs k.toNat x ar hx;obtain ⟨e1,e2⟩:=sw hev;have hl:k.toNat<gs.length:=(zy0.1 hx).1;refine ⟨_,by simp only[execOp,ho,ab,(fh h1').1,Sem.run_bind,HG hu hi hk];rfl,vA (cs:=c2) ?_ k2⟩;rw[←qn gs k.toNat e2 (by omega),←k1];exact wc af
theorem X8{t e:TypeId}{y z:Operand}{y' z':aV}{n m:Nat}{p:List Nat}{i:TypeInfo}{gs:List I}{kk:IntKind}{k:Int}(ho:o.op=.indexAddr t y z)(hu:c.P.underlying t=some (.array n e))(hi:c.P.info? e=some i)
  (hy:bF c.P 0 y=some y') (hz:bF c.P 0 z=some z') (h:al A y'=.ptr m p) (h':al A z'=.int kk k) (hk:0≤k∧k<n) (ah:cM A (.ptr m p)=some (.agg gs)) (hev:jV n (c.P.cellsOf e) gs=true):dP c A o (.ptr m (p++[k.toNat])) :=
 .same fun a w D E hs=>by
  have U:=b5 hs hy;rw[h] at U;have h1':=b5 hs hz;rw[h'] at h1';obtain ⟨b,bh,off,ab,af,ar⟩:=mG U;obtain ⟨zz,b',cs,T,off',c1,c2,c3,k1,k2,_,k3,k4,k5,k6,k7,k8,k9,_⟩:=hs.at ah;rw[k2] at ab;simp only[u8,bO.aR.injEq] at ab;obtain ⟨rfl,rfl⟩:=ab;obtain ⟨e1,e2⟩:=sw hev;have hl:k.toNat<gs.length:=by omega
  refine ⟨_,by simp only[execOp,ho,ar,(fh h1').1,Sem.run_bind,HG hu hi hk];rfl,?_⟩;refine ⟨_,by simp[bI,I.isAgg];rfl,?_⟩;simp only[ao];refine ⟨b',zz.bh,off+k.toNat*c.P.cellsOf e,k2,?_,rfl⟩;rw[cW.vH p zz.bh off k.toNat _ af (nV p zz _ k4) (by rw[I.dA];simpa using hl),I.dA,←List.map_take,←I.dA,I.nW,qn gs _ e2 (by omega)]
theorem CU{w:World}{D:aX}{E:bj}{b off sz k:Nat}{cs:List Value}{es:List I}{x:I}(U:reads w D b off cs)(ab:aU w D E es cs)(af:∀ e∈es,e.size=sz)(hx:es[k]?=some x) :
  ∃ c2,reads w D b (off+k*sz) c2∧ao w D E x c2:=by
 obtain ⟨c1,c2,c3,rfl,k1,_,k2,_⟩:=nF es cs k x ab hx;have hl:k<es.length:=(zy0.1 hx).1;refine ⟨c2,?_,k2⟩;rw[←qn es k af (by omega),←k1];exact wc U
theorem Ya{t e:TypeId}{y z:Operand}{y' z':aV}{i:TypeInfo}{es:List I}{kk:IntKind}{k:Int}(ho:o.op=.indexAddr t y z)(hu:c.P.underlying t=some (.slice e))(hi:c.P.info? e=some i)
  (hy:bF c.P 0 y=some y') (hz:bF c.P 0 z=some z') (h:al A y'=.slice (c.P.cellsOf e) es) (h':al A z'=.int kk k) (hk:0≤k∧k<es.length) (hx:es[k.toNat]?=some x):dP c A o (.ref x) :=
 .same fun a w D E hs=>by
  have U:=b5 hs hy;rw[h] at U;have h1':=b5 hs hz;rw[h'] at h1';obtain ⟨ad,cap,rfl',ab,af,ar,h5⟩:=oV U;rcases ar with ar | ⟨b,off,cs,rfl,h6,h7⟩
  ·subst ar;simp at hx
  obtain ⟨c2,k1,k2⟩:=CU h6 h7 h5 hx;exact ⟨_,by simp only[execOp,ho,rfl',(fh h1').1,Sem.run_bind,zM hu hi hk];rfl,vA k1 k2⟩
theorem bg.abO{a:Act}{w:World}{D:aX}{E:bj}(h:bg c A a w D E){n sz b cap:Nat}{T:TypeId}{es:List I}(hn:A.o n=some (.bW T sz es))(ay:E n=some (.rw (some (b,cap)) es.length)) :
  bg c A a w (fun b' o=>D b' o∨(b'=b∧o<es.length*sz)) E:=by
 have hrow:=h.bW hn;obtain ⟨aP,k1,k2,k3⟩:=hrow;rw[ay] at k1;simp only[u8,bO.rw.injEq,and_true] at k1;subst k1;obtain ⟨cs,pre,rest,k4,k5,k6,k7,k8,k9,k10,k11⟩:=k3;refine h.Ij (fun _ _ ah=>.inl ah) ?_ ?_ ?_ ?_ ?_ ?_
 ·rintro b' o (ah | ⟨rfl,_⟩) hlt
  ·exact h.c6 _ _ ah hlt
  ·exact absurd k4 hlt
 ·rintro b' o (ah | ⟨rfl,_⟩)
  ·exact h.aK _ _ ah
  ·exact gu k5
 ·rintro m x b' hm hEm o (ah | ⟨rfl,_⟩)
  ·obtain ⟨b2,cs2,uA,q1,q2,q3,q4,q5⟩:=h.box hm;rw[q1] at hEm;simp only[u8,bO.aR.injEq,and_true] at hEm;subst hEm;exact q5 o ah
  ·have:=h.cQ m n _ _ b' hEm ay rfl rfl;subst this;rw[hm] at hn;cases hn
 ·rintro m T' sz' es' b' cap' hm hEm o (ah | ⟨rfl,ho⟩)
  ·obtain ⟨aP,q1,q2,q3⟩:=h.bW hm;rw[hEm] at q1;simp only[u8,bO.rw.injEq,and_true] at q1;subst q1;obtain ⟨cs',pre',rest',q4,q5,q6,q7,q8,q9,q10,q11⟩:=q3;have:=q11 o ah
   rwa [aU.length _ _ q7,I.jq _ q2] at this
  ·have:=h.cQ m n _ _ b' hEm ay rfl rfl;subst this;rw[hm] at hn;simp only[u8,ak.bW.injEq] at hn;obtain ⟨rfl,rfl,rfl⟩:=hn;exact ho
 ·rintro m T' xs b' cap' hm hEm o (ah | ⟨rfl,ho⟩)
  ·obtain ⟨aP,q1,_,q3⟩:=h.ud hm;rw[hEm] at q1;simp only[u8,bO.rw.injEq,and_true] at q1;subst q1;obtain ⟨_,_,_,_,_,_,_,_,q4⟩:=q3;exact q4 o ah
  ·have:=h.cQ m n _ _ b' hEm ay rfl rfl;subst this;rw[hm] at hn;cases hn
 ·rintro m e' b' hE' hoth hblk o (ah | ⟨rfl,_⟩)
  ·exact h.zi hE' hoth hblk o ah
  ·have:=h.cQ m n _ _ b' hE' ay hblk rfl;subst this;rw[hE'] at ay;cases ay;cases hoth
theorem bg.own{a:Act}{w:World}{D:aX}{E:bj}(h:bg c A a w D E){n sz:Nat}{T:TypeId}{es:List I}{v:Value}(hn:A.o n=some (.bW T sz es))(hv:bl w D E (.own n es.length) v) :
  (es=[]∧E n=some (.rw none 0)∧v=.slice none 0 0) ∨
  ∃ b cap cs pre rest,E n=some (.rw (some (b,cap)) es.length)∧v=.slice (some ⟨b,0,none⟩) es.length cap∧c.fo b∧w.heap[b]?=some (.cells cs T (0,0))∧cs.toList=pre++rest ∧
   aU w D E es pre∧cs.size=cap*sz∧es.length≤cap∧cap≤maxLen∧(∀ o,D b o→o<pre.length):=by
 obtain ⟨cs0,U,ab⟩:=hv;simp only[ao] at ab;obtain ⟨aP,l,af,ar,_,h5⟩:=ab;obtain ⟨blk',k1,k2,k3⟩:=h.bW hn;rw[k1] at af;simp only[u8,bO.rw.injEq] at af;obtain ⟨rfl,rfl⟩:=af;have h5:=h5 rfl;cases blk' with
 |none =>
  simp only at k3 h5;subst k3;exact .inl ⟨rfl,k1,by simpa[bI,I.isAgg,h5] using U.symm⟩
 |some bc =>
  obtain ⟨b,cap⟩:=bc;simp only at h5;obtain ⟨cs,pre,rest,k4,k5,k6,k7,k8,k9,k10,k11⟩:=k3;exact .inr ⟨b,cap,cs,pre,rest,k1,by simpa[bI,I.isAgg,h5] using U.symm,k4,k5,k6,k7,k8,k9,k10,k11⟩
theorem Yb{t e:TypeId}{y z:Operand}{y' z':aV}{i:TypeInfo}{es:List I}{n:Nat}{kk:IntKind}{k:Int}(ho:o.op=.indexAddr t y z)(hu:c.P.underlying t=some (.slice e))(hi:c.P.info? e=some i)
  (hy:bF c.P 0 y=some y') (hz:bF c.P 0 z=some z') (h:al A y'=.own n es.length) {T:TypeId} (hn:A.o n=some (.bW T (c.P.cellsOf e) es)) (h':al A z'=.int kk k) (hk:0≤k∧k<es.length) (hx:es[k.toNat]?=some x):dP c A o (.ref x):=by
 intro a w D E hs;have U:=b5 hs hy;rw[h] at U;have h1':=b5 hs hz;rw[h'] at h1';rcases hs.own hn U with ⟨rfl,_⟩ | ⟨b,cap,cs,pre,rest,k1,k2,k3,k4,k5,k6,k7,k8,k9,k10⟩
 ·simp at hx
 ·have hs':=hs.abO hn k1;obtain ⟨aP,q1,q2,_⟩:=hs.bW hn;have hpl:pre.length=es.length*c.P.cellsOf e:=by rw[aU.length _ _ k6,I.jq _ q2]
  have hr:reads w (fun b' o=>D b' o∨(b'=b∧o<es.length*c.P.cellsOf e)) b 0 pre:=by
   have:=p8 (D:=fun b' o=>D b' o∨(b'=b∧o<es.length*c.P.cellsOf e)) (c1:=[]) k4 (by simpa using k5) (fun o ho=>.inr ⟨rfl,by simp at ho;omega⟩);simpa using this
  have hrc:aU w (fun b' o=>D b' o∨(b'=b∧o<es.length*c.P.cellsOf e)) E es pre :=
   aU.later ⟨fun _ _ ah=>.inl ah,fun _ _ _ _ h=>h,fun _ _ _ h=>h,fun _ aP l h=>⟨aP,l,h,zz9 _,fun _=>rfl⟩,fun _ _ h=>h,fun _ _ h=>h,fun _ _ _ _ h=>h⟩ es pre k6
  obtain ⟨c2,q3,q4⟩:=CU hr hrc q2 hx;exact ⟨_,w,_,by simp only[execOp,ho,k2,(fh h1').1,Sem.run_bind,zM hu hi hk];rfl,hs',vA q3 q4⟩
end
section
variable {c:c4} {A:ai} {o:Oper} {x:I}
theorem ql{P:Program}{w:World}{D:aX}{E:bj}{t:TypeId}{s:Option Nat}{c1 c2 c3:List Value}{y:I}(hk:gB P t=some s)(hok:cn s y=true)(hy:ao w D E y c2) :
  ∃ v,(part t (c1++c2++c3).toArray c1.length).run P w=.ok v w∧bl w D E y v:=by
 have hag:=HI (w:=w) hk;have hl:=ao.length _ _ hy;cases s with
 |none =>
  simp only[cn,Bool.not_eq_true'] at hok;have hsz:y.size=1:=by cases y <;>simp_all[I.isAgg,I.size]
  rw[hsz] at hl
  match c2,hl with
  | [v],_ =>
   refine ⟨v,?_,Fq hok hy⟩;simp[part,hag]
 |some n =>
  simp only[cn,zz1,beq_iff_eq] at hok;obtain ⟨hag',hsz⟩:=hok;have hn:=yC hk;obtain ⟨i,hi⟩:=vn hk;refine ⟨.agg c2.toArray,?_,ku (by simp[bI,hag']) hy⟩;have e:((c1++c2++c3).toArray.extract c1.length (c1.length+P.cellsOf t))=c2.toArray:=by
   have:P.cellsOf t=c2.length:=by rw[hl,hsz,hn]
   rw[this];simp
  simp only[part,Sem.run_bind,hag,Result.andThen_ok,Option.isSome_some,if_true,jJ hi,e,Sem.run_pure]
theorem X7{t:TypeId}{y:Operand}{y':aV}{f:Nat}{s:Option Nat}{fs:Array Field}{fd:Field}{gs:List I}(ho:o.op=.field t y f)(hu:c.P.underlying t=some (.struct fs))(hf:fs[f]?=some fd)(hk:gB c.P fd.type=some s)
  (hy:bF c.P 0 y=some y') (h:al A y'=.agg gs) (hx:gs[f]?=some x) (hoff:I.sizes (gs.take f)=fd.offset) (hok:cn s x=true):dP c A o x :=
 .same fun a w D E hs=>by
  have U:=b5 hs hy;rw[h] at U;obtain ⟨cs,ab,ar⟩:=j5 U;obtain ⟨c1,c2,c3,rfl,k1,_,k2,_⟩:=nF gs cs f x ar hx;obtain ⟨v,k3,k4⟩:=ql (c1:=c1) (c3:=c3) hk hok k2;rw[k1,hoff] at k3;exact ⟨v,by simp only[execOp,ho,ab,Instr.field,Sem.run_bind,run_underlying hu,Result.andThen_ok,hf,asAgg,Sem.run_pure,k3],k4⟩
theorem Yd{t e:TypeId}{y z:Operand}{y' z':aV}{n:Nat}{s:Option Nat}{gs:List I}{kk:IntKind}{k:Int}(ho:o.op=.index t y z)(hu:c.P.underlying t=some (.array n e))(hk:gB c.P e=some s)
  (hy:bF c.P 0 y=some y') (hz:bF c.P 0 z=some z') (h:al A y'=.agg gs) (h':al A z'=.int kk k) (hb:0≤k∧k<n) (hev:jV n (c.P.cellsOf e) gs=true) (hx:gs[k.toNat]?=some x) (hok:cn s x=true):dP c A o x :=
 .same fun a w D E hs=>by
  have U:=b5 hs hy;rw[h] at U;have h1':=b5 hs hz;rw[h'] at h1';obtain ⟨cs,ab,ar⟩:=j5 U;obtain ⟨c1,c2,c3,rfl,k1,_,k2,_⟩:=nF gs cs k.toNat x ar hx;obtain ⟨v,k3,k4⟩:=ql (c1:=c1) (c3:=c3) hk hok k2;obtain ⟨e1,e2⟩:=sw hev;obtain ⟨i,hi⟩:=vn hk;have hl:k.toNat<gs.length:=(zy0.1 hx).1;rw[k1,qn gs k.toNat e2 (by omega)] at k3;exact ⟨v,by simp only[execOp,ho,ab,(fh h1').1,Instr.index,Sem.run_bind,asIntOf,run_underlying hu,Result.andThen_ok,Sem.run_ite,if_pos hb,jJ hi,Sem.run_pure,k3],k4⟩
theorem yK{n:Nat}(h:n≤maxLen):IntKind.i64.min≤(n:Int)∧(n:Int)≤IntKind.i64.max:=by
 simp only[IntKind.min,IntKind.max,IntKind.bits,IntKind.signed];unfold maxLen at h;simp;omega
theorem rl{ty:TypeId}{y:Operand}{y':aV}{n:Nat}{d:TypeDesc}(ho:o.op=.call { callee:=.builtin .len,args := #[y],argTypes := #[ty] })(hu:c.P.underlying ty=some d)(ah:(∃ e,d=.slice e)∨d=.string)
  (hy:bF c.P ty y=some y') (h:∀ a w D E,bg c A a w D E→∀ v,bl w D E (al A y') v→n≤maxLen∧((∃ e,d=.slice e)→∃ ad cap,v=.slice ad n cap)∧(d=.string→∃ s,v=.string s∧s.size=n)):dP c A o (.int .i64 n) :=
 .same fun a w D E hs=>by
  obtain ⟨bf,U,ab⟩:=h a w D E hs _ (b5 hs hy);refine ⟨.int .i64 n,?_,lb (yK bf)⟩;rcases ah with ⟨e,rfl⟩ | rfl
  ·obtain ⟨ad,cap,hv⟩:=U ⟨e,rfl⟩;simp[execOp,ho,resolve,invoke,builtin,Builtin.len_,run_underlying hu,hv,goInt]
  ·obtain ⟨s,hv,hs⟩:=ab rfl;simp[execOp,ho,resolve,invoke,builtin,Builtin.len_,run_underlying hu,hv,goInt,hs]
theorem Yp{t e:TypeId}{y:Operand}{y':aV}{n:Nat}{i:TypeInfo}{gs:List I}(ho:o.op=.slice t y none none none)(hu:c.P.underlying t=some (.array n e))(hi:c.P.info? e=some i)
  (hy:bF c.P 0 y=some y') (h:al A y'=.ref (.agg gs)) (hev:jV n (c.P.cellsOf e) gs=true) (hn:n≤maxLen):dP c A o (.slice (c.P.cellsOf e) gs) :=
 .same fun a w D E hs=>by
  have U:=b5 hs hy;rw[h] at U;obtain ⟨b,off,cs,ab,af,ar⟩:=rQ U;simp only[ao] at ar;obtain ⟨e1,e2⟩:=sw hev;by_cases bf:n=0
  ·exact ⟨.slice (some ⟨b,off,none⟩) 0 0,by simp[execOp,ho,ab,Instr.sliceAt,run_underlying hu,Instr.sureAddr,Instr.sliceBounds,jJ hi,bf],vB (by omega) (by omega) (by simp[maxLen]) (.inl (List.eq_nil_of_length_eq_zero (by omega))) e2⟩
  ·exact ⟨.slice (some ⟨b,off,none⟩) n n,by simp[execOp,ho,ab,Instr.sliceAt,run_underlying hu,Instr.sureAddr,Instr.sliceBounds,jJ hi,oi],vB e1.symm (zz9 _) hn (.inr ⟨b,off,cs,rfl,af,ar⟩) e2⟩
theorem Yo{t e:TypeId}{y:Operand}{y':aV}{n m:Nat}{p:List Nat}{i:TypeInfo}{gs:List I}(ho:o.op=.slice t y none none none)(hu:c.P.underlying t=some (.array n e))(hi:c.P.info? e=some i)
  (hy:bF c.P 0 y=some y') (h:al A y'=.ptr m p) (ah:cM A (.ptr m p)=some (.agg gs)) (hev:jV n (c.P.cellsOf e) gs=true) (hn:n≤maxLen) (hn0:n≠0):dP c A o (.view m p (c.P.cellsOf e) 0 n) :=
 .same fun a w D E hs=>by
  have U:=b5 hs hy;rw[h] at U;obtain ⟨b,bh,off,ab,af,ar⟩:=mG U;obtain ⟨zz,b',cs,T,off',c1,c2,c3,k1,k2,_,k3,k4,k5,k6,k7,k8,k9,_⟩:=hs.at ah;rw[k2] at ab;simp only[u8,bO.aR.injEq] at ab;obtain ⟨rfl,rfl⟩:=ab;obtain ⟨e1,e2⟩:=sw hev;refine ⟨.slice (some ⟨b',off,none⟩) n n,by simp[execOp,ho,ar,Instr.sliceAt,run_underlying hu,Instr.sureAddr,Instr.sliceBounds,jJ hi,oi],?_⟩;refine ⟨_,by simp[bI,I.isAgg];rfl,?_⟩;simp only[ao];refine ⟨b',zz.bh,off,I.cZ gs,k2,af,nV p zz _ k4,?_,?_,?_,?_⟩
  ·rw[I.dA,zz8,e1];simp
  ·rw[I.dA,zz8,e1];exact hn
  ·rw[I.dA,zz8,e1];omega
  ·rw[I.dA];intro s hs';obtain ⟨f,hf,rfl⟩:=zy7.1 hs';rw[I.mJ];exact e2 f hf
theorem aa6{w:World}{D:aX}{E:bj}{b off sz:Nat}{cs:List Value}{es:List I}(U:reads w D b off cs)(ab:aU w D E es cs)(af:∀ e∈es,e.size=sz)(l h:Nat)(hl:l≤h)(hh:h≤es.length) :
  ∃ c2,reads w D b (off+l*sz) c2∧aU w D E ((es.take h).drop l) c2:=by
 have hspl:∀ (xs ys:List I) (cs:List Value),aU w D E (xs++ys) cs→∃ c1 c2,cs=c1++c2∧aU w D E xs c1∧aU w D E ys c2:=by
  intro xs
  induction xs with
  |nil=>intro ys cs hr;exact ⟨[],cs,rfl,by simp[aU],hr⟩
  |cons x xs ih =>
   intro ys cs hr;simp only[zz3,aU] at hr;obtain ⟨d1,d2,rfl,k1,k2⟩:=hr;obtain ⟨e1,e2,rfl,k3,k4⟩:=ih ys d2 k2;exact ⟨d1++e1,e2,by simp,by simp only[aU];exact ⟨d1,e1,rfl,k1,k3⟩,k4⟩
 have e1:es=es.take l++((es.take h).drop l++es.drop h):=by
  rw[←zy4]
  conv=>lhs;rw[←List.take_append_drop h es]
  congr 1
  rw[←List.acp l h es hl]
 rw[e1] at ab;obtain ⟨c1,c',rfl,k1,k2⟩:=hspl _ _ _ ab;obtain ⟨c2,c3,rfl,k3,k4⟩:=hspl _ _ _ k2;refine ⟨c2,?_,k3⟩;rw[←qn es l af (by omega),←aU.length _ _ k1];rw[←zy4] at U;exact wc U
 where
 List.acp {α:Type} (l h:Nat) (es:List α) (hl:l≤h):es.take h=es.take l++(es.take h).drop l:=by
  conv=>lhs;rw[←List.take_append_drop l (es.take h)]
  rw[List.take_take,Nat.min_eq_left hl]
def jk(w:World)(D:aX)(E:bj)(x:Option I)(v:Option Value):Prop:=match x,v with
 |none,none=>True
 |some x,some v=>bl w D E x v
 |_,_=>False
theorem KF{x:I}{d n:Int}(h:kc (some x) d=some n):∃ k,x=.int k n:=by
 cases x <;>simp[kc] at h
 subst h;exact ⟨_,rfl⟩
theorem tt{w:World}{D:aX}{E:bj}{x:Option I}{v:Option Value}{d n:Int}(h:jk w D E x v)(hb:kc x d=some n) :
  (x=none∧v=none∧d=n)∨(x.isSome=true∧∃ k,v=some (.int k n)):=by
 cases x with
 |none =>
  cases v with
  |some _=>simp[jk] at h
  |none=>simp only[kc,u8] at hb;exact .inl ⟨rfl,rfl,hb⟩
 |some x =>
  cases v with
  |none=>simp[jk] at h
  |some v =>
   obtain ⟨k,rfl⟩:=KF hb;simp only[jk] at h;exact .inr ⟨rfl,k,by rw[(fh h).1]⟩
theorem zN{P:Program}{w:World}{D:aX}{E:bj}{t e:TypeId}{i:TypeInfo}{sz:Nat}{es:List I}{lo hi mx:Option I}{vlo vhi vmx:Option Value}{x:I}{ad:Option Addr}{cap:Nat}
  (hu:P.underlying t=some (.slice e)) (hi':P.info? e=some i) (hsz:sz=P.cellsOf e) (hmh:mx.isSome=true→hi.isSome=true)
  (U:jk w D E lo vlo) (ab:jk w D E hi vhi) (af:jk w D E mx vmx) (hx:j6 sz es lo hi mx=some x)
  (hcap:es.length≤cap) (hcm:cap≤maxLen) (hes:es=[]∨∃ b off cs,ad=some ⟨b,off,none⟩∧reads w D b off cs∧aU w D E es cs) (hall:∀ e∈es,e.size=sz) :
  ∃ v,(Instr.sliceAt t (.slice ad es.length cap) vlo vhi vmx).run P w=.ok v w∧bl w D E x v:=by
 unfold j6 at hx;split at hx
 ·cases hx
 rename_i h hh;split at hx
 ·cases hx
 rename_i m hm;split at hx
 ·cases hx
 rename_i l hl;split at hx
 case isFalse=>cases hx
 rename_i hb;obtain ⟨b1,b2,b3,b4⟩:=hb;have sb:∀ (k:IntKind) (n:Int) (y:Nat) (code:BoundsCode),0≤n→n≤y→(Instr.sliceBound (.int k n) y code).run P w=.ok n.toNat w:=fun k n y code g1 g2=>by
  simp[Instr.sliceBound,asIntOf,g1,g2]
 -- the bounds that the program finds
 have key:∃ m':Nat,es.length≤cap∧m'≤cap∧h.toNat≤m'∧(mx.isSome=true→m'=m.toNat)∧(mx=none→m'=cap) ∧
   (Instr.sliceBounds true es.length cap vlo vhi vmx).run P w=.ok (l.toNat,h.toNat,m') w:=by
  have c1:=tt U hl;have c2:=tt ab hh;have c3:=tt af hm;clear U ab af;rcases c3 with ⟨rfl,rfl,hm3⟩ | ⟨s3,k3,rfl⟩
  ·refine ⟨cap,hcap,zz9 _,by omega,fun e=>(by cases e),fun _=>rfl,?_⟩;rcases c2 with ⟨rfl,rfl,hm2⟩ | ⟨s2,k2,rfl⟩ <;>rcases c1 with ⟨rfl,rfl,hm1⟩ | ⟨s1,k1,rfl⟩
   ·subst hm1 hm2;simp[Instr.sliceBounds]
   ·subst hm2;simp[Instr.sliceBounds,sb k1 l es.length _ b1 (by omega)]
   ·subst hm1;simp[Instr.sliceBounds,sb k2 h cap _ (by omega) (by omega)]
   ·simp[Instr.sliceBounds,sb k2 h cap _ (by omega) (by omega),sb k1 l h.toNat _ b1 (by omega)]
  ·refine ⟨m.toNat,hcap,by omega,by omega,fun _=>rfl,fun e=>(by rw[e] at s3;cases s3),?_⟩;rcases c2 with ⟨rfl,rfl,hm2⟩ | ⟨s2,k2,rfl⟩
   ·simp[s3] at hmh
   ·rcases c1 with ⟨rfl,rfl,hm1⟩ | ⟨s1,k1,rfl⟩
    ·subst hm1;simp[Instr.sliceBounds,sb k3 m cap _ (by omega) (by omega),sb k2 h m.toNat _ (by omega) (by omega)]
    ·simp[Instr.sliceBounds,sb k3 m cap _ (by omega) (by omega),sb k2 h m.toNat _ (by omega) (by omega),sb k1 l h.toNat _ b1 (by omega)]
 obtain ⟨m',g1,g2,g3,g4,g5,hsb⟩:=key;have hrun:(Instr.sliceAt t (.slice ad es.length cap) vlo vhi vmx).run P w =
   .ok (.slice (if m'=l.toNat then ad else ad.map (·.add (l.toNat*P.cellsOf e))) (h.toNat-l.toNat) (m'-l.toNat)) w:=by
  simp only[Instr.sliceAt,Instr.slice,Sem.run_bind,run_underlying hu,Result.andThen_ok,hsb,jJ hi',Sem.run_pure]
 refine ⟨_,hrun,?_⟩;split at hx
 ·rename_i hc;simp only[u8] at hx;subst hx;have e1:m'=l.toNat:=by rw[g4 hc.1,hc.2]
  have e2:h.toNat-l.toNat=0:=by omega
  rw[if_pos e1,e2,e1,Nat.sub_self];exact ⟨_,by simp[bI,I.isAgg];rfl,by simp only[ao];exact ⟨ad,rfl⟩⟩
 ·simp only[u8] at hx;subst hx;have hlen:((es.take h.toNat).drop l.toNat).length=h.toNat-l.toNat:=by simp;omega
  refine vB hlen.symm (by omega) (by omega) ?_ (fun y hy=>hall y (List.mem_of_mem_take (List.mem_of_mem_drop hy)));by_cases hz:h.toNat=l.toNat
  ·left;exact List.eq_nil_of_length_eq_zero (by omega)
  ·right
   rw[if_neg (by omega)];rcases hes with rfl | ⟨b,off,cs,rfl,q1,q2⟩
   ·simp at b4 g3;omega
   ·obtain ⟨c2,q3,q4⟩:=aa6 q1 q2 hall l.toNat h.toNat (by omega) (by omega);exact ⟨b,off+l.toNat*sz,c2,by simp[oi,hsz],q3,q4⟩
theorem yg{t e:TypeId}{y:Operand}{y':aV}{lo hi mx:Option Operand}{lo' hi' mx':Option aV}{i:TypeInfo}{es:List I}(ho:o.op=.slice t y lo hi mx)(hu:c.P.underlying t=some (.slice e))(hi0:c.P.info? e=some i)
  (hy:bF c.P 0 y=some y') (U:jt c.P lo=some lo') (ab:jt c.P hi=some hi') (af:jt c.P mx=some mx') (hmh:mx'.isSome=true→hi'.isSome=true)
  (h:al A y'=.slice (c.P.cellsOf e) es∨(al A y'=.nils (c.P.cellsOf e)∧es=[])∨(al A y'=.c0 (c.P.cellsOf e)∧es=[])) (hx:j6 (c.P.cellsOf e) es (lo'.map (al A)) (hi'.map (al A)) (mx'.map (al A))=some x):dP c A o x :=
 .same fun a w D E hs=>by
  have opt:∀ {q:Option Operand} {q':Option aV},jt c.P q=some q'→jk w D E (q'.map (al A)) (q.map a.eval):=by
   intro q q' hq;cases q with
   |none=>simp only[jt,u8] at hq;subst hq;simp[jk]
   |some z =>
    simp only[jt,zz0] at hq;obtain ⟨z',hz,rfl⟩:=hq;simpa[jk] using b5 hs hz
  have bf:=b5 hs hy;have hmh':(mx'.map (al A)).isSome=true→(hi'.map (al A)).isSome=true:=by simpa using hmh
  rcases h with h | ⟨h,rfl⟩ | ⟨h,rfl⟩
  ·rw[h] at bf;obtain ⟨ad,cap,e1,e2,e3,e4,e5⟩:=oV bf;obtain ⟨v,k1,k2⟩:=zN hu hi0 rfl hmh' (opt U) (opt ab) (opt af) hx e2 e3 e4 e5;exact ⟨v,by simp only[execOp,ho,e1,Sem.run_bind,k1];rfl,k2⟩
  ·rw[h] at bf;obtain ⟨cs,q1,q2⟩:=bf;simp only[ao] at q2;have e1:a.eval y=.slice none ([]:List I).length 0:=by simpa[bI,I.isAgg,q2] using q1.symm
   obtain ⟨v,k1,k2⟩:=zN (ad:=none) (cap:=0) hu hi0 rfl hmh' (opt U) (opt ab) (opt af) hx (by simp) (by simp[maxLen]) (.inl rfl) (by simp);exact ⟨v,by simp only[execOp,ho,e1,Sem.run_bind,k1];rfl,k2⟩
  ·rw[h] at bf;obtain ⟨cs,q1,q2⟩:=bf;simp only[ao] at q2;obtain ⟨ad,q2⟩:=q2;have e1:a.eval y=.slice ad ([]:List I).length 0:=by simpa[bI,I.isAgg,q2] using q1.symm
   obtain ⟨v,k1,k2⟩:=zN (ad:=ad) (cap:=0) hu hi0 rfl hmh' (opt U) (opt ab) (opt af) hx (by simp) (by simp[maxLen]) (.inl rfl) (by simp);exact ⟨v,by simp only[execOp,ho,e1,Sem.run_bind,k1];rfl,k2⟩
end
inductive ga {α β:Type} (R:α→β→Prop):List α→List β→Prop where
 |nil:ga R [] []
 |cons {x:α} {y:β} {xs:List α} {ys:List β} : R x y→ga R xs ys→ga R (x::xs) (y::ys)
section
variable {c:c4} {A:ai} {o:Oper} {x:I}
theorem aa5{w:World}{D:aX}{E:bj}{xs:List I}{cs ds:List Value}{i:Nat}{x y:I}(h:aU w D E xs cs)(hx:xs[i]?=some x)(hy:ao w D E y ds)(hs:y.size=x.size) :
  I.sizes (xs.take i)+ds.length≤cs.length∧aU w D E (xs.set i y) (cs.take (I.sizes (xs.take i))++ds++cs.drop (I.sizes (xs.take i)+ds.length)):=by
 obtain ⟨c1,c2,c3,rfl,U,ab,af,ar⟩:=nF xs cs i x h hx;have hi:i<xs.length:=(zy0.1 hx).1;have hl:ds.length=c2.length:=by rw[ao.length _ _ hy,ao.length _ _ af,hs]
 refine ⟨by simp only[zz6,U];omega,?_⟩;have e1:xs.set i y=xs.take i++y::xs.drop (i+1):=by rw[List.set_eq_take_append_cons_drop];simp[hi]
 have e2:(c1++c2++c3).take (I.sizes (xs.take i))++ds++(c1++c2++c3).drop (I.sizes (xs.take i)+ds.length)=c1++(ds++c3):=by
  rw[←U,hl,zy4 c1 c2 c3,List.take_left,List.drop_length_add_append,List.drop_left,zy4]
 rw[e1,e2];refine lu _ _ _ _ ab ?_;simp only[aU];exact ⟨ds,c3,rfl,hy,ar⟩
theorem PG(off:Nat)(l:List Value)(cs:Array Value)(h:off+l.length≤cs.size) :
  ((l.zipIdx 0).foldl (fun cs (x:Value×Nat)=>cs.setIfInBounds (off+x.2) x.1) cs).toList=cs.toList.take off++l++cs.toList.drop (off+l.length):=by
 obtain ⟨U,ab⟩:=Great.foldl_set off l 0 cs;apply List.ext_getElem?;intro k;rw[zw6,ab k];simp only[Nat.add_zero,zy4];by_cases hk:k<off
 ·rw[if_neg (by omega),zx0 (by simp;omega)];simp[hk]
 ·rw[zv1 (by simp;omega)];simp only[zx9,zw4,Nat.min_eq_left (show off≤cs.size by omega)];by_cases hk2:k<off+l.length
  ·rw[if_pos ⟨by omega,by omega,by omega⟩,zx0 (by omega)]
  ·rw[if_neg (by omega),zv1 (by omega)];simp only[List.getElem?_drop,zw6]
   congr 1
   omega
theorem xW{w:World}{D:aX}{E:bj}(pl:Nat→Option (Nat×Nat)):∀ (ps:List (Nat×I)) (vs:List (Nat×Value)) (zs zs':List I) (cells:Array Value),
  (∀ i z,zs[i]?=some z→pl i=some (I.sizes (zs.take i),z.size))→aU w D E zs cells.toList→ef zs ps=some zs' →
  ga (fun (p:Nat×I) (v:Nat×Value)=>p.1=v.1∧bl w D E p.2 v.2) ps vs →
  ∃ cells',Instr.fill pl cells vs=some cells'∧aU w D E zs' cells'.toList
 | [],vs,zs,zs',cells,hp,hr,hs,hf=>by
  cases hf;simp only[ef,u8] at hs;subst hs;exact ⟨cells,rfl,hr⟩
 |(i,y)::ps,vs,zs,zs',cells,hp,hr,hs,hf=>by
  cases hf with
  |cons U ab =>
   rename_i v vs;obtain ⟨j,u⟩:=v;simp only at U;obtain ⟨rfl,hv⟩:=U;simp only[ef] at hs;split at hs
   ·rename_i z hz;split at hs
    ·rename_i hsz;obtain ⟨hval,hsz⟩:=hsz;obtain ⟨ds,k1,k2⟩:∃ ds,bI y u ds∧ao w D E y ds:=by
      cases y <;>simp[I.bV] at hval <;>exact hv
     have hcells:=k1.cells k2;have hds:u.cells.size=z.size:=by rw[←zw4,hcells,ao.length _ _ k2,hsz]
     obtain ⟨k3,k4⟩:=aa5 hr hz k2 hsz;have hcl:cells.toList.length=cells.size:=zw4;have hl:ds.length=u.cells.size:=by rw[←hcells,zw4]
     have hp':∀ k z',(zs.set i y)[k]?=some z'→pl k=some (I.sizes ((zs.set i y).take k),z'.size):=by
      intro k z' hk;have hil:i<zs.length:=(zy0.1 hz).1;have hsizes:∀ k,I.sizes ((zs.set i y).take k)=I.sizes (zs.take k):=by
       intro k;have gen:∀ (zs:List I) (i k:Nat) (z:I),zs[i]?=some z→z.size=y.size→I.sizes ((zs.set i y).take k)=I.sizes (zs.take k):=by
        intro zs
        induction zs with
        |nil=>intro i k z hz _;simp at hz
        |cons q qs ih =>
         intro i k z hz he;cases k with
         |zero=>simp
         |succ k =>
          cases i with
          |zero =>
           simp only[List.getElem?_cons_zero,u8] at hz;subst hz;simp[I.sizes,he]
          |succ i =>
           simp only[List.set_cons_succ,zw3,I.sizes,ih i k z (by simpa using hz) he]
       exact gen zs i k z hz hsz.symm
      rw[hsizes];rw[List.getElem?_set] at hk;split at hk
      ·rename_i hik;subst hik;simp only[u8] at hk;subst hk;rw[hp i z hz,hsz]
      ·exact hp k z' hk
     have hfold:=PG (I.sizes (zs.take i)) u.cells.toList cells (by rw[hcells];omega);rw[hcells] at hfold;obtain ⟨cells',k5,k6⟩:=xW pl ps vs (zs.set i y) zs' ((u.cells.toList.zipIdx 0).foldl (fun cs (x:Value×Nat)=>cs.setIfInBounds (I.sizes (zs.take i)+x.2) x.1) cells) hp'
      (by rw[hcells,hfold];exact k4) hs ab
     refine ⟨cells',?_,k6⟩;unfold Instr.fill;simp only[hp i z hz];rw[if_neg (by simp[hds];omega)];rw[←k5]
     congr 1
     rw[←Array.foldl_toList,Array.toList_zipIdx]
    ·cases hs
   ·cases hs
theorem FX{a:Act}{w:World}{D:aX}{E:bj}(hs:bg c A a w D E){P:Program} : ∀ (ps:List (Nat×Operand)) (qs:List (Nat×aV)),mf P ps=some qs →
  ga (fun (p:Nat×I) (v:Nat×Value)=>p.1=v.1∧bl w D E p.2 v.2) (qs.map fun p=>(p.1,al A p.2)) (ps.map fun p=>(p.1,a.eval p.2))
 | [],qs,h=>by simp[mf] at h;subst h;exact .nil
 |(i,x)::ps,qs,h=>by
  simp only[mf,List.mapM_cons,Option.bind_eq_bind,Option.pure_def,zv5,zz0,u8] at h;obtain ⟨_,⟨y,hy,rfl⟩,qs',hq,rfl⟩:=h;exact .cons ⟨rfl,b5 hs hy⟩ (FX hs ps qs' hq)
theorem Eg{t:TypeId}{parts:Array (Nat×Operand)}{ps:List (Nat×aV)}{zs zs':List I}(ho:o.op=.build t parts)(hz:gY c.P t=some (.agg zs))(hp:mf c.P parts.toList=some ps)
  (hpl:(∃ fs,c.P.underlying t=some (.struct fs)∧(fs.toList.map fun f=>(f.offset,c.P.cellsOf f.type))=mB 0 zs∧(fs.all fun f=>(c.P.info? f.type).isSome)=true) ∨
   (∃ n e,c.P.underlying t=some (.array n e)∧zs.length=n∧(zs.all fun z=>z.size==c.P.cellsOf e)=true∧(c.P.info? e).isSome=true))
  (h:ef zs (ps.map fun p=>(p.1,al A p.2))=some zs'):dP c A o (.agg zs') :=
 .same fun a w D E hs=>by
  obtain ⟨i,z,hi,hzv,hzr⟩:=mT hz;have hzr:=hzr w D E;simp only[ao] at hzr;have hparts:=FX hs parts.toList ps hp;have hmap:(parts.map fun (q:Nat×Operand)=>(q.1,a.eval q.2)).toList=parts.toList.map fun p=>(p.1,a.eval p.2):=by simp
  rcases hpl with ⟨fs,hu,hoffs,hinfo⟩ | ⟨n,e,hu,hn,hev,hinfo⟩
  ·have hpl:∀ i z,zs[i]?=some z→(mB 0 zs)[i]?=some (I.sizes (zs.take i),z.size):=by
    intro i z hiz;rw[FZ,hiz];simp
   obtain ⟨cells',k1,k2⟩:=xW ((mB 0 zs)[·]?) _ _ zs zs' z.cells hpl hzr h hparts;have hm:fs.toList.mapM (fun f=>(c.P.info? f.type).map fun i=>(f.offset,i.size))=some (mB 0 zs):=by
    rw[←hoffs];have hall:∀ f∈fs.toList,(c.P.info? f.type).isSome=true:=fun f hf=>by
     have:=(Array.all_eq_true_iff_forall_mem.1 hinfo) f (by simpa using hf);exact this
    revert hall;generalize fs.toList=l;intro hall
    induction l with
    |nil=>rfl
    |cons f l ih =>
     obtain ⟨j,hj⟩:=zx4.1 (hall f (by simp));simp only[List.mapM_cons,Option.bind_eq_bind,hj,zy6,Option.bind_some,ih (fun g hg=>hall g (by simp[hg])),Option.pure_def,zz7,Program.cellsOf,Option.getD_some]
   have hb:c.P.built t (parts.map fun (q:Nat×Operand)=>(q.1,a.eval q.2)).toList=some cells':=by
    unfold Program.built;simp only[hi,hu,hzv,hm];rw[hmap,←k1]
    congr 1
    funext k
    simp
   exact ⟨.agg cells',by simp only[execOp,ho,Sem.run_bind,run_build w t _ _ hb];rfl,by have:=Fp k2;simpa using this⟩
  ·obtain ⟨ie,hie⟩:=zx4.1 hinfo;have hev':∀ z∈zs,z.size=ie.size:=fun z hz=>by
    have:=zx6.1 hev z hz;simpa[Program.cellsOf,hie] using this
   have hpl:∀ i z,zs[i]?=some z→(fun i=>some (i*ie.size,ie.size)) i=some (I.sizes (zs.take i),z.size):=by
    intro i z hiz;have hl:i<zs.length:=(zy0.1 hiz).1;rw[qn zs i hev' (by omega),hev' z (List.mem_of_getElem? hiz)]
   obtain ⟨cells',k1,k2⟩:=xW (fun i=>some (i*ie.size,ie.size)) _ _ zs zs' z.cells hpl hzr h hparts;have hb:c.P.built t (parts.map fun (q:Nat×Operand)=>(q.1,a.eval q.2)).toList=some cells':=by
    unfold Program.built;simp only[hi,hu,hzv,hie];rw[hmap,←k1]
   exact ⟨.agg cells',by simp only[execOp,ho,Sem.run_bind,run_build w t _ _ hb];rfl,by have:=Fp k2;simpa using this⟩
theorem me{a:Act}{w:World}{D:aX}{E:bj}(hs:bg c A a w D E){P:Program} : ∀ (xs:List Operand) (ts:List TypeId) (ys:List aV),lG P xs ts=some ys →
  ga (bl w D E) (ys.map (al A)) (xs.map a.eval)
 | [],_,ys,h=>by simp[lG] at h;subst h;exact .nil
 |x::xs,ts,ys,h=>by
  simp only[lG] at h;split at h
  ·rename_i y ys' U ab;simp only[u8] at h;subst h;exact .cons (b5 hs U) (me hs xs _ ys' ab)
  ·cases h
theorem mH{w:World}{D:aX}{E:bj} : ∀ (xs:List I) (vs:List Value),ga (bl w D E) xs vs→(∀ x∈xs,x.bV=true)→aO w D E xs vs
 | [],vs,h,_=>by cases h;simp[aO]
 |x::xs,vs,h,hv=>by
  cases h with
  |cons U ab =>
   rename_i v vs;have hx:=hv x (by simp);obtain ⟨cs,k1,k2⟩:∃ cs,bI x v cs∧ao w D E x cs:=by
    cases x <;>simp[I.bV] at hx <;>exact U
   simp only[aO];exact ⟨v,vs,cs,rfl,k1,k2,mH xs vs ab (fun y hy=>hv y (by simp[hy]))⟩
theorem sF{aR:Bool}{B:ai} : ∀ {xs ys:List I},bZ aR B xs=some ys→∀ x∈xs,x.bV=true
 | [],ys,_,x,hx=>by simp at hx
 |y::xs,ys,h,x,hx=>by
  simp only[bZ] at h;split at h
  ·rename_i z zs U ab;rcases zw7.1 hx with rfl | hx
   ·cases x <;>simp_all[br,I.bV]
   ·exact sF ab x hx
  ·cases h
theorem Yg{f:FuncId}(hf:f<1000000){caps:Array Operand}{ys:List aV}(ho:o.op=.makeFunc (.func f) #[] caps)(hc:lG c.P caps.toList []=some ys)(hv:∀ y∈ys,(al A y).bV=true):dP c A o (.func f (ys.map (al A))) :=
 .same fun a w D E hs=>by
  have h:=mH _ _ (me hs caps.toList [] ys hc) (by simpa using hv);have e:caps.map a.eval=(caps.toList.map a.eval).toArray:=by apply Array.ext';simp
  refine ⟨.func (.func f) #[] (caps.toList.map a.eval).toArray,by simp[execOp,ho,Instr.makeFunc,e],⟨_,by simp[bI,I.isAgg];rfl,?_⟩⟩;simp only[ao];exact ⟨_,by rw[oC hf],h⟩
theorem Yh{f:FuncId}{first:Array Operand}{ys:List aV}(ho:o.op=.makeFunc (.func f) first #[])(hc:lG c.P first.toList []=some ys)(hv:∀ y∈ys,(al A y).bV=true):dP c A o (.func (f+1000000) (ys.map (al A))) :=
 .same fun a w D E hs=>by
  have h:=mH _ _ (me hs first.toList [] ys hc) (by simpa using hv);have e:first.map a.eval=(first.toList.map a.eval).toArray:=by apply Array.ext';simp
  refine ⟨.func (.func f) (first.toList.map a.eval).toArray #[],by simp[execOp,ho,Instr.makeFunc,e],⟨_,by simp[bI,I.isAgg];rfl,?_⟩⟩;simp only[ao];exact ⟨_,by rw[sH],h⟩
theorem HL{w:World}{D:aX}{E:bj} : ∀ (xs:List I) (vs:List Value),aO w D E xs vs→aU w D E xs (vs.flatMap fun v=>v.cells.toList)∧vs.length=xs.length∧∀ (sz:Nat),(∀ x∈xs,x.size=sz)→∀ v∈vs,v.cells.size=sz
 | [],vs,h=>by simp only[aO] at h;subst h;simp[aU]
 |x::xs,vs,h=>by
  simp only[aO] at h;obtain ⟨v,rest,cs,rfl,U,ab,af⟩:=h;obtain ⟨k1,k2,k3⟩:=HL xs rest af;have hc:=U.cells ab;refine ⟨?_,by simp[k2],fun sz hsz u hu =>?_⟩
  ·simp only[List.flatMap_cons,aU];exact ⟨_,_,rfl,by rw[hc];exact ab,k1⟩
  ·rcases zw7.1 hu with rfl | hu
   ·rw[←zw4,hc,ao.length _ _ ab,hsz x (by simp)]
   ·exact k3 sz (fun y hy=>hsz y (by simp[hy])) u hu
def qj(A:ai)(D:aX)(E:bj):aX:=fun b o=>D b o∨∃ n T sz es cap,A.o n=some (.bW T sz es)∧E n=some (.rw (some (b,cap)) es.length)∧o<es.length*sz
theorem bg.qm{a:Act}{w:World}{D:aX}{E:bj}(h:bg c A a w D E):bg c A a w (qj A D E) E∧iZ false A D E (qj A D E):=by
 have hblk:∀ {n T sz es b cap},A.o n=some (.bW T sz es)→E n=some (.rw (some (b,cap)) es.length)→c.fo b∧b<w.heap.size:=by
  intro n T sz es b cap hn ay;obtain ⟨aP,k1,k2,k3⟩:=h.bW hn;rw[ay] at k1;simp only[u8,bO.rw.injEq,and_true] at k1;subst k1;obtain ⟨cs,pre,rest,k4,k5,_⟩:=k3;exact ⟨k4,gu k5⟩
 refine ⟨h.Ij (fun _ _ ah=>.inl ah) ?_ ?_ ?_ ?_ ?_ ?_,⟨fun _ _ ah=>.inl ah,fun n T sz es b cap hn ay o ho=>.inr ⟨n,T,sz,es,cap,hn,ay,ho⟩,(fun hb=>by cases hb),fun hb=>by cases hb⟩⟩
 ·rintro b o (ah | ⟨n,T,sz,es,cap,hn,ay,ho⟩) hlt
  ·exact h.c6 _ _ ah hlt
  ·exact absurd (hblk hn ay).1 hlt
 ·rintro b o (ah | ⟨n,T,sz,es,cap,hn,ay,ho⟩)
  ·exact h.aK _ _ ah
  ·exact (hblk hn ay).2
 ·rintro m x b hm hEm o (ah | ⟨n,T,sz,es,cap,hn,ay,ho⟩)
  ·obtain ⟨b2,cs2,uA,q1,q2,q3,q4,q5⟩:=h.box hm;rw[q1] at hEm;simp only[u8,bO.aR.injEq,and_true] at hEm;subst hEm;exact q5 o ah
  ·have:=h.cQ m n _ _ b hEm ay rfl rfl;subst this;rw[hm] at hn;cases hn
 ·rintro m T' sz' es' b cap' hm hEm o (ah | ⟨n,T,sz,es,cap,hn,ay,ho⟩)
  ·obtain ⟨aP,q1,q2,q3⟩:=h.bW hm;rw[hEm] at q1;simp only[u8,bO.rw.injEq,and_true] at q1;subst q1;obtain ⟨cs',pre',rest',q4,q5,q6,q7,q8,q9,q10,q11⟩:=q3;have:=q11 o ah
   rwa [aU.length _ _ q7,I.jq _ q2] at this
  ·have:=h.cQ m n _ _ b hEm ay rfl rfl;subst this;rw[hm] at hn;simp only[u8,ak.bW.injEq] at hn;obtain ⟨rfl,rfl,rfl⟩:=hn;exact ho
 ·rintro m T' xs b cap' hm hEm o (ah | ⟨n,T,sz,es,cap,hn,ay,ho⟩)
  ·obtain ⟨aP,q1,_,q3⟩:=h.ud hm;rw[hEm] at q1;simp only[u8,bO.rw.injEq,and_true] at q1;subst q1;obtain ⟨_,_,_,_,_,_,_,_,q4⟩:=q3;exact q4 o ah
  ·have:=h.cQ m n _ _ b hEm ay rfl rfl;subst this;rw[hm] at hn;cases hn
 ·rintro m e' b hE' hoth hblk o (ah | ⟨n,T,sz,es,cap,hn,ay,ho⟩)
  ·exact h.zi hE' hoth hblk o ah
  ·have:=h.cQ m n _ _ b hE' ay hblk rfl;subst this;rw[hE'] at ay;cases ay;cases hoth
theorem FY{a:Act}{w:World}{D:aX}{E:bj}(hs:bg c A a w D E){P:Program} : ∀ (ps:List (Nat×Operand)) (qs:List (Nat×aV)),mf P ps=some qs →
  ga (bl w D E) ((qs.map (·.2)).map (al A)) (ps.map fun p=>a.eval p.2)∧qs.map (·.1)=ps.map (·.1)
 | [],qs,h=>by simp[mf] at h;subst h;exact ⟨.nil,rfl⟩
 |(i,x)::ps,qs,h=>by
  simp only[mf,List.mapM_cons,Option.bind_eq_bind,Option.pure_def,zv5,zz0,u8] at h;obtain ⟨_,⟨y,hy,rfl⟩,qs',hq,rfl⟩:=h;obtain ⟨U,ab⟩:=FY hs ps qs' hq;exact ⟨.cons (b5 hs hy) U,by simp[ab]⟩
theorem bg.newRow{a:Act}{w:World}{D:aX}{E:bj}(h:bg c A a w D E)(o:Obj):bg c A a (w.alloc o) (fun b k=>D b k∨b=w.heap.size) E:=by
 refine h.grow (sf w o) (fun _ _ ah=>.inl ah) ?_ ?_
 ·rintro b k (ah | rfl) hlt
  ·exact ah
  ·omega
 ·rintro b k (ah | rfl)
  ·have:=h.aK _ _ ah;simp;omega
  ·simp
theorem acO{α:Type}(ps:List (Nat×α))(h:ps.map (·.1)=List.range ps.length):ps=((ps.map (·.2)).zipIdx 0).map fun x=>(x.2,x.1):=by
 apply List.ext_getElem?;intro k;rw[zx7,List.getElem?_zipIdx,zx7];cases hk:ps[k]? with
 |none=>simp
 |some p =>
  have hl:k<ps.length:=(zy0.1 hk).1;have:=congrArg (·[k]?) h;simp only[zx7,hk,zy6,List.getElem?_range hl,u8] at this;simp[←this]
theorem XY{t e:TypeId}{len:Nat}{parts:Array (Nat×Operand)}{ps:List (Nat×aV)}{es:List I}(ho:o.op=.buildSlice t len parts)(hu:c.P.underlying t=some (.slice e))(hp:mf c.P parts.toList=some ps)
  (hr:ps.map (·.1)=List.range len) (bf:0<c.P.cellsOf e) (hlen:0<len) (hsm:len*c.P.cellsOf e≤16777216) (hz:((c.P.info? e).bind (·.zero)).isSome=true)
  (hes:bZ false A ((ps.map (·.2)).map (al A))=some es) (hev:∀ x∈es,x.size=c.P.cellsOf e) (hcl:I.cq es=true):dP c A o (.slice (c.P.cellsOf e) es):=by
 intro a w D E hs;obtain ⟨hfor,hidx⟩:=FY hs parts.toList ps hp;obtain ⟨hs1,hw⟩:=hs.qm;have hrv:=nj (E':=E) hs (fun _ _ h=>h) hw _ es _ (mH _ _ hfor (sF hes)) hes;obtain ⟨k1,k2,k3⟩:=HL es _ hrv;have k3:=k3 _ hev;have hl:parts.toList.length=len:=by
  have:=congrArg List.length hidx;rw[hr] at this;simpa using this.symm
 have hesl:es.length=len:=by rw[←k2];simp[hl]
 obtain ⟨z,hz⟩:=zx4.1 hz;obtain ⟨ie,hie,hzz⟩:=zv5.1 hz;have hsz:ie.size=c.P.cellsOf e:=by simp[Program.cellsOf,hie]
 -- the literal's cells
 have hfill:Instr.fill (fun i=>some (i*ie.size,ie.size)) ((Array.range (len*ie.size)).map (z.cells[· % z.cells.size]!)) (parts.map fun (q:Nat×Operand)=>(q.1,a.eval q.2)).toList =
   some ((parts.toList.map fun p=>a.eval p.2).flatMap fun v=>v.cells.toList).toArray:=by
  have hpz:(parts.map fun (q:Nat×Operand)=>(q.1,a.eval q.2)).toList=((parts.toList.map fun p=>a.eval p.2).zipIdx 0).map fun x=>(x.2,x.1):=by
   have:=acO (parts.toList.map fun (q:Nat×Operand)=>(q.1,a.eval q.2)) (by simp only[List.map_map,zz8];rw[hl,←hr,hidx];rfl);rw[Array.toList_map,this,List.map_map];rfl
  rw[hpz,hsz];exact Great.fill_whole bf _ _ (fun v hv=>k3 v hv) (by simp[hl])
 have hrun:=run_buildSlice (P:=c.P) w t e len (parts.map fun (q:Nat×Operand)=>(q.1,a.eval q.2)) _ ie z hu hie hzz (by rw[hsz];omega) (by rw[hsz];exact Nat.ne_of_gt (Nat.mul_pos hlen bf)) hfill;generalize hcells:((parts.toList.map fun p=>a.eval p.2).flatMap fun v=>v.cells.toList)=cells at *;have hs2:=hs1.newRow (.cells cells.toArray e);refine ⟨_,_,_,by simp only[execOp,ho,Sem.run_bind];rw[hrun];rfl,hs2,vB hesl.symm (zz9 _) ?_ (.inr ⟨w.heap.size,0,cells,rfl,?_,?_⟩) hev⟩
 ·unfold maxLen;have:len≤len*c.P.cellsOf e:=Nat.le_mul_of_pos_right _ bf;omega
 ·intro j v hj;refine ⟨?_,.inr rfl⟩;rw[zz4];have:=World.cell?_alloc_new w cells.toArray e j;rw[this];simpa using hj
 ·refine aU.later ?_ es cells k1;exact ec.grow (sf w _) (fun _ _ ah=>.inl ah)
end
mutual
theorem qZ:∀ (ty:cH) (x y:I) (r:Bool),cm ty x y=some r→x.size=ty.size∧y.size=ty.size
 | .i k,x,y,r,h=>by
  simp only[cm] at h;split at h
  ·simp[I.size,cH.size]
  ·cases h
 | .b,x,y,r,h=>by
  simp only[cm] at h;split at h
  ·simp[I.size,cH.size]
  ·cases h
 | .s,x,y,r,h=>by
  simp only[cm] at h;split at h
  ·simp[I.size,cH.size]
  ·cases h
 | .bm l,x,y,r,h=>by
  simp only[cm] at h;split at h
  ·simp only[I.size,cH.size];exact CY l _ _ r h
  ·cases h
 | .sd n e,x,y,r,h=>by
  simp only[cm] at h;split at h
  ·rename_i fs gs;split at h
   ·rename_i hl;simp only[I.size,cH.size];have:∀ (fs gs:List I) (r:Bool),fs.length=gs.length→(fs.zip gs).foldr (fun p acc=>kb (cm e p.1 p.2) acc) (some true)=some r→I.sizes fs=fs.length*e.size∧I.sizes gs=fs.length*e.size:=by
     intro fs
     induction fs with
     |nil=>intro gs r hl _;cases gs with | nil=>simp[I.sizes] | cons _ _=>simp at hl
     |cons f fs ih =>
      intro gs r hl h;cases gs with
      |nil=>simp at hl
      |cons g gs =>
       simp only[List.zip_cons_cons,List.foldr_cons] at h;unfold kb at h;split at h
       ·rename_i a b U ab;obtain ⟨k1,k2⟩:=ih gs b (by simpa using hl) ab;obtain ⟨k3,k4⟩:=qZ e f g a U;simp only[I.sizes,zw8,k1,k2,k3,k4,Nat.add_mul,Nat.one_mul];omega
       ·cases h
    obtain ⟨k1,k2⟩:=this fs gs r (by omega) h;rw[k1,k2,hl.1];exact ⟨rfl,rfl⟩
   ·cases h
  ·cases h
theorem CY:∀ (l:List cH) (xs ys:List I) (r:Bool),jb l xs ys=some r→I.sizes xs=cH.sizes l∧I.sizes ys=cH.sizes l
 | [],xs,ys,r,h=>by
  simp only[jb] at h;split at h
  ·simp[I.sizes,cH.sizes]
  ·cases h
 |t::ts,xs,ys,r,h=>by
  simp only[jb] at h;split at h
  ·rename_i f fs g gs;unfold kb at h;split at h
   ·rename_i a b U ab;obtain ⟨k1,k2⟩:=qZ t f g a U;obtain ⟨k3,k4⟩:=CY ts fs gs b ab;simp only[I.sizes,cH.sizes,k1,k2,k3,k4];exact ⟨trivial,trivial⟩
   ·cases h
  ·cases h
end
section
variable {P:Program} {w:World} {D:aX} {E:bj}
theorem xF{d:Nat}{t:TypeId}{ty:cH}(h:iu P d t=some ty)(hs:ty.size=P.cellsOf t){x y:I}{r:Bool}(hr:cm ty x y=some r):∃ s,gB P t=some s∧cn s x=true∧cn s y=true:=by
 have hsz:=qZ ty x y r hr;cases d with
 |zero=>simp[iu] at h
 |succ d =>
  simp only[iu] at h;split at h
  ·rename_i k hu;simp only[u8] at h;subst h;simp only[cm] at hr;split at hr
   ·exact ⟨none,by simp[gB,hu],by simp[cn,I.isAgg],by simp[cn,I.isAgg]⟩
   ·cases hr
  ·rename_i hu;simp only[u8] at h;subst h;simp only[cm] at hr;split at hr
   ·exact ⟨none,by simp[gB,hu],by simp[cn,I.isAgg],by simp[cn,I.isAgg]⟩
   ·cases hr
  ·rename_i hu;simp only[u8] at h;subst h;simp only[cm] at hr;split at hr
   ·exact ⟨none,by simp[gB,hu],by simp[cn,I.isAgg],by simp[cn,I.isAgg]⟩
   ·cases hr
  ·rename_i fs hu;split at h
   ·simp only[zz0] at h;obtain ⟨l,_,rfl⟩:=h;simp only[cm] at hr;split at hr
    ·exact ⟨some (P.cellsOf t),by simp[gB,hu],by simp[cn,I.isAgg,hsz.1,hs],by simp[cn,I.isAgg,hsz.2,hs]⟩
    ·cases hr
   ·cases h
  ·rename_i n e hu;split at h
   ·split at h
    ·simp only[u8] at h;subst h;simp only[cm] at hr;split at hr
     ·exact ⟨some (P.cellsOf t),by simp[gB,hu],by simp[cn,I.isAgg,hsz.1,hs],by simp[cn,I.isAgg,hsz.2,hs]⟩
     ·cases hr
    ·cases h
   ·cases h
  ·cases h
theorem C0{k:Nat}{g:Field→Option cH}(hg:∀ (f:Field) (ty:cH),g f=some ty→ty.size=P.cellsOf f.type∧∃ d,iu P d f.type=some ty ∧
   ∀ (x y:I) (u v:Value) (r:Bool),bl w D E x u→bl w D E y v→cm ty x y=some r→(Op.equalIn k f.type u v).run P w=.ok r w) :
  ∀ (fs : List Field) (l : List cH) (xs ys : List I) (r : Bool) (c1 c2 d1 d2 : List Value), fs.mapM g = some l → (∀ f ∈ fs, f.name ≠ "_") → rJ P c1.length fs = true → c1.length = d1.length →
   aU w D E xs c2→aU w D E ys d2→jb l xs ys=some r→(Op.eqFields k (c1++c2).toArray (d1++d2).toArray fs).run P w=.ok r w
 | [],l,xs,ys,r,c1,c2,d1,d2,hm,_,_,_,_,_,h=>by
  simp at hm;subst hm;simp only[jb] at h;split at h
  ·simp only[u8] at h;subst h;simp[Op.eqFields]
  ·cases h
 |f::fs,l,xs,ys,r,c1,c2,d1,d2,hm,hn,ho,hl,hx,hy,h=>by
  simp only[List.mapM_cons,Option.bind_eq_bind,Option.pure_def,zv5,u8] at hm;obtain ⟨ty,hty,tys,htys,rfl⟩:=hm;simp only[jb] at h;split at h
  case h_2=>cases h
  rename_i x xs y ys;unfold kb at h;split at h
  case h_2=>cases h
  rename_i ra rb U ab;simp only[u8] at h;subst h;simp only[aU] at hx hy;obtain ⟨e1,e2,rfl,k1,k2⟩:=hx;obtain ⟨f1,f2,rfl,k3,k4⟩:=hy;obtain ⟨hsz,dd,ah,heq⟩:=hg f ty hty;obtain ⟨s,q1,q2,q3⟩:=xF ah hsz U;obtain ⟨u,p1,p2⟩:=ql (c1:=c1) (c3:=e2) q1 q2 k1;obtain ⟨v,p3,p4⟩:=ql (c1:=d1) (c3:=f2) q1 q3 k3;simp only[rJ,zz1,beq_iff_eq] at ho;have hsx:=qZ ty x y ra U;have hle:e1.length=P.cellsOf f.type:=by rw[ao.length _ _ k1,hsx.1,hsz]
  have hlf:f1.length=P.cellsOf f.type:=by rw[ao.length _ _ k3,hsx.2,hsz]
  have ih:=C0 hg fs tys xs ys rb (c1++e1) e2 (d1++f1) f2 htys (fun g hg=>hn g (by simp[hg])) (by simp only[zz6,hle];exact ho.2) (by simp[hl,hle,hlf]) k2 k4 ab;rw[zy4] at p1 p3;rw[zy4,zy4] at ih;rw[←ho.1] at p1;rw[←hl,←ho.1] at p3;simp only[Op.eqFields,hn f (by simp),ne_eq,not_false_eq_true,if_true,Sem.run_bind,p1,Result.andThen_ok,p3,heq x y u v ra p2 p4 U];cases ra
  ·simp
  ·simpa using ih
theorem C1{d:Nat}{e:TypeId}{ty:cH}{dd:Nat}(hty:iu P dd e=some ty)(hsz:ty.size=P.cellsOf e)
  (heq:∀ (x y:I) (u v:Value) (r:Bool),bl w D E x u→bl w D E y v→cm ty x y=some r→(Op.equalIn d e u v).run P w=.ok r w) :
  ∀ (m k:Nat) (xs ys:List I) (c1 c2 d1 d2:List Value) (r:Bool),xs.length=m→ys.length=m→c1.length=k*P.cellsOf e→d1.length=k*P.cellsOf e→aU w D E xs c2→aU w D E ys d2 →
   (xs.zip ys).foldr (fun p acc=>kb (cm ty p.1 p.2) acc) (some true)=some r→(Op.eqItems d e (P.cellsOf e) (c1++c2).toArray (d1++d2).toArray (List.range' k m)).run P w=.ok r w
 |0,k,xs,ys,c1,c2,d1,d2,r,hx,hy,_,_,_,_,h=>by
  have e1:=List.eq_nil_of_length_eq_zero hx;subst e1;simp only[List.zip_nil_left,List.foldr_nil,u8] at h;subst h;simp[Op.eqItems]
 |m+1,k,xs,ys,c1,c2,d1,d2,r,hx,hy,hc,ah,hrx,hry,h=>by
  cases xs with
  |nil=>simp at hx
  |cons x xs =>
  cases ys with
  |nil=>simp at hy
  |cons y ys =>
  simp only[List.zip_cons_cons,List.foldr_cons] at h;unfold kb at h;split at h
  case h_2=>cases h
  rename_i ra rb U ab;simp only[u8] at h;subst h;simp only[aU] at hrx hry;obtain ⟨e1,e2,rfl,k1,k2⟩:=hrx;obtain ⟨f1,f2,rfl,k3,k4⟩:=hry;obtain ⟨s,q1,q2,q3⟩:=xF hty hsz U;obtain ⟨u,p1,p2⟩:=ql (c1:=c1) (c3:=e2) q1 q2 k1;obtain ⟨v,p3,p4⟩:=ql (c1:=d1) (c3:=f2) q1 q3 k3;have hsx:=qZ ty x y ra U;have hle:e1.length=P.cellsOf e:=by rw[ao.length _ _ k1,hsx.1,hsz]
  have hlf:f1.length=P.cellsOf e:=by rw[ao.length _ _ k3,hsx.2,hsz]
  have ih:=C1 hty hsz heq m (k+1) xs ys (c1++e1) e2 (d1++f1) f2 rb (by simpa using hx) (by simpa using hy) (by simp only[zz6,hle,hc,Nat.add_mul,Nat.one_mul]) (by simp only[zz6,hlf,ah,Nat.add_mul,Nat.one_mul]) k2 k4 ab;rw[zy4] at p1 p3;rw[zy4,zy4] at ih;rw[hc] at p1;rw[ah] at p3;simp only[List.range'_succ,Op.eqItems,Sem.run_bind,p1,Result.andThen_ok,p3,heq x y u v ra p2 p4 U];cases ra
  ·simp
  ·simpa using ih
theorem uX:∀ (d:Nat) (t:TypeId) (ty:cH),iu P d t=some ty→∀ (x y:I) (u v:Value) (r:Bool),bl w D E x u→bl w D E y v→cm ty x y=some r→∀ dep,d≤dep→(Op.equalIn dep t u v).run P w=.ok r w
 |0,t,ty,h,_,_,_,_,_,_,_,_,_,_=>by simp[iu] at h
 |d+1,t,ty,h,x,y,u,v,r,hx,hy,hr,dep,hdep=>by
  obtain ⟨k,rfl⟩:∃ k,dep=k+1:=⟨dep-1,by omega⟩
  simp only[iu] at h;split at h
  ·rename_i kk hu;simp only[u8] at h;subst h;simp only[cm] at hr;split at hr
   ·split at hr
    ·simp only[u8] at hr;subst hr;rw[(fh hx).1,(fh hy).1];rename_i hk;rw[hk.1,hk.2];exact run_equalIn_int w k t kk kk _ _ hu
    ·cases hr
   ·cases hr
  ·rename_i hu;simp only[u8] at h;subst h;simp only[cm] at hr;split at hr
   ·simp only[u8] at hr;subst hr;rw[lU hx,lU hy];exact run_equalIn_bool' w k t _ _ hu
   ·cases hr
  ·rename_i hu;simp only[u8] at h;subst h;simp only[cm] at hr;split at hr
   ·simp only[u8] at hr;subst hr;rw[(oW hx).1,(oW hy).1];exact run_equalIn_string w k t _ _ hu
   ·cases hr
  ·rename_i fs hu;split at h
   ·rename_i hc;simp only[zz0] at h;obtain ⟨l,hl,rfl⟩:=h;simp only[cm] at hr;split at hr
    ·obtain ⟨cs,rfl,U⟩:=j5 hx;obtain ⟨ds,rfl,ab⟩:=j5 hy;have hf:P.fieldsOf t=fs:=by simp[Program.fieldsOf,hu]
     rw[run_equalIn_struct w k t _ _ (by rw[hf];exact hu) hc.1,hf];refine C0 (g:=fun f=>match iu P d f.type with | some ty=>if ty.size=P.cellsOf f.type then some ty else none | none=>none) (fun f ty hg =>?_) fs.toList l _ _ r [] cs [] ds hl (fun f hf =>?_) hc.2.2 rfl U ab hr
     ·split at hg
      ·rename_i ty' hty;split at hg
       ·rename_i hs;simp only[u8] at hg;subst hg;exact ⟨hs,d,hty,fun x y u v r hx hy hr=>uX d f.type _ hty x y u v r hx hy hr k (by omega)⟩
       ·cases hg
      ·cases hg
     ·have:=zx6.1 hc.2.1 f hf;simpa using this
    ·cases hr
   ·cases h
  ·rename_i n e hu;split at h
   ·rename_i ty' hty;split at h
    ·rename_i hc;simp only[u8] at h;subst h;simp only[cm] at hr;split at hr
     ·split at hr
      ·rename_i hl;obtain ⟨cs,rfl,U⟩:=j5 hx;obtain ⟨ds,rfl,ab⟩:=j5 hy;obtain ⟨i,hi⟩:=zx4.1 hc.2;rw[run_equalIn_array w k _ _ hu hi,List.range_eq_range'];exact C1 hty hc.1 (fun x y u v r hx hy hr=>uX d e _ hty x y u v r hx hy hr k (by omega)) n 0 _ _ [] cs [] ds r hl.1 hl.2 (by simp) (by simp) U ab hr
      ·cases hr
     ·cases hr
    ·cases h
   ·cases h
  ·cases h
end
section
variable {c:c4} {A:ai} {o:Oper} {x:I}
theorem abE{P:Program}{w:World}{D:aX}{E:bj}(op:BinOp)(t:TypeId)(x y:Operand){a b:I}{ty:cH}{r:Bool}{u v:Value}(hr:cm ty a b=some r)(hx:bl w D E a u)(hm:P.eqGuardType P.depth t=false) :
  (eqGuard op t x y u v).run P w=.ok () w:=by
 have:u.oneCell'=true∧u≠.nilIface∨∃ cs,u=.agg cs:=by
  cases ty <;>simp only[cm] at hr <;>split at hr <;>first
   |(cases hr;done)
   |(left;rw[(fh hx).1];exact ⟨rfl,by simp⟩)
   |(left;rw[lU hx];exact ⟨rfl,by simp⟩)
   |(left;rw[(oW hx).1];exact ⟨rfl,by simp⟩)
   |(right;obtain ⟨cs,h,_⟩:=j5 hx;exact ⟨_,h⟩)
 rcases this with ⟨U,ab⟩ | ⟨cs,rfl⟩
 ·exact zL op t x y U ab
 ·cases op <;>cases v <;>simp[eqGuard,run_program,hm]
theorem Kg{P:Program}{w:World}{D:aX}{E:bj}{neg:Bool}{t:TypeId}{a b:I}{ty:cH}{r:Bool}{u v:Value}(hr:cm ty a b=some r)(hx:bl w D E a u)(hy:bl w D E b v){dt:Nat}(hdt:dt≤10000)(hty:iu P dt t=some ty) :
  (binOp (if neg then .neq else .eql) t u v).run P w=.ok (.bool (if neg then !r else r)) w:=by
 have he:=uX (w:=w) (D:=D) (E:=E) dt t ty hty a b u v r hx hy hr 10000 hdt;cases ty <;>simp only[cm] at hr <;>split at hr <;>first | (cases hr;done) | skip
 ·rw[(fh hx).1,(fh hy).1] at *;split at hr
  ·rename_i hk;simp only[u8] at hr;subst hr;rw[hk.1,hk.2];cases neg <;>simp[binOp,Op.intCmp,bne]
  ·cases hr
 ·have e1:=lU hx;have e2:=lU hy;subst e1 e2;cases neg <;>simp only[binOp,if_true,zz5,if_false] <;>simp[Op.equal,Op.maxDepth,he]
 ·rw[(oW hx).1,(oW hy).1] at *;simp only[u8] at hr;subst hr;cases neg <;>simp[binOp,Op.stringOp]
 ·obtain ⟨cs,rfl,_⟩:=j5 hx;obtain ⟨ds,rfl,_⟩:=j5 hy;cases neg <;>simp only[if_true,zz5,if_false]
  ·rw[run_eql_struct,he];rfl
  ·rw[run_neq_struct,he];rfl
 ·obtain ⟨cs,rfl,_⟩:=j5 hx;obtain ⟨ds,rfl,_⟩:=j5 hy;cases neg <;>simp only[if_true,zz5,if_false]
  ·rw[run_eql_struct,he];rfl
  ·rw[run_neq_struct,he];rfl
theorem X3{neg:Bool}{t yt:TypeId}{y z:Operand}{y' z':aV}{ty:cH}{r:Bool}(ho:o.op=.binOp (if neg then .neq else .eql) t y z yt)(hy:bF c.P 0 y=some y')(hz:bF c.P 0 z=some z')(hg:c.P.eqGuardType c.P.depth t=false)
  (hty:iu c.P 12 t=some ty) (h:cm ty (al A y') (al A z')=some r):dP c A o (.bool (if neg then !r else r)) :=
 .same fun a w D E hs=>by
  have U:=b5 hs hy;have ab:=b5 hs hz;refine ⟨_,?_,pQ _⟩;simp only[execOp,ho,Sem.run_bind,abE _ t y z h U hg,Result.andThen_ok,Kg h U ab (dt:=12) (by omega) hty];rfl
theorem yf{neg:Bool}{t yt e:TypeId}{y z:Operand}{y':aV}{sz:Nat}{r:Bool}(ho:o.op=.binOp (if neg then .neq else .eql) t y z yt)(hu:c.P.underlying t=some (.slice e))(hy:bF c.P 0 y=some y')(hz:bF c.P 0 z=some (.c (.nils sz)))
  (h:(∃ s,al A y'=.nils s∧r=true)∨(∃ s es,al A y'=.slice s es∧es≠[]∧r=false)∨(∃ n p s lo k,al A y'=.view n p s lo k∧r=false)):dP c A o (.bool (if neg then !r else r)) :=
 .same fun a w D E hs=>by
  have U:=b5 hs hy;have ab:bl w D E (.nils sz) (a.eval z):=b5 hs hz;have hv:a.eval z=.slice none 0 0:=by
   obtain ⟨cs,q1,q2⟩:=ab;simp only[ao] at q2;simpa[bI,I.isAgg,q2] using q1.symm
  have hu':(∃ ad n cp,a.eval y=.slice ad n cp∧r=ad.isNone):=by
   rcases h with ⟨s,h,rfl⟩ | ⟨s,es,h,hne,rfl⟩ | ⟨n,p,s,lo,k,h,rfl⟩
   ·rw[h] at U;obtain ⟨cs,q1,q2⟩:=U;simp only[ao] at q2;exact ⟨none,0,0,by simpa[bI,I.isAgg,q2] using q1.symm,rfl⟩
   ·rw[h] at U;obtain ⟨ad,cap,e1,_,_,e4,_⟩:=oV U;rcases e4 with e4 | ⟨b,off,cs,rfl,_,_⟩
    ·exact absurd e4 hne
    ·exact ⟨_,_,_,e1,rfl⟩
   ·rw[h] at U;obtain ⟨cs,q1,q2⟩:=U;simp only[ao] at q2;obtain ⟨b,bh,off,l,_,_,_,q2,_⟩:=q2;exact ⟨_,_,_,by simpa[bI,I.isAgg,q2] using q1.symm,rfl⟩
  obtain ⟨ad,n,cp,hyv,rfl⟩:=hu';have he:∀ d,(Op.equalIn (d+1) t (.slice ad n cp) (.slice none 0 0)).run c.P w=.ok ad.isNone w:=fun d=>by
   cases ad <;>simp[Op.equalIn,run_underlying hu]
  refine ⟨.bool (if neg then !ad.isNone else ad.isNone),?_,pQ _⟩;cases neg <;>simp only[execOp,ho,hyv,hv,if_true,zz5,if_false,Sem.run_bind,eqGuard] <;>simp[binOp,Op.equal,Op.maxDepth,he]
end
def iW(c:c4)(A:ai)(o:Oper)(B:ai):Prop :=
 ∀ a w D E,bg c A a w D E→∃ w',((∃ v,(execOp a.eval o).run c.P w=.ok (.value v) w'∧cd c B (a.put o.dst v) w')∨((execOp a.eval o).run c.P w=.ok .skip w'∧cd c B (a.put o.dst undef) w'))
section
variable {c:c4} {A:ai} {o:Oper} {x:I}
theorem dP.does(h:dP c A o x)(ah:∀ k,o.dst=some k→k<c.n):iW c A o (A.a8 o.dst x):=by
 intro a w D E hs;obtain ⟨v,w',D',U,ab,af⟩:=h a w D E hs;exact ⟨w',.inl ⟨v,U,D',E,ab.a8 ah af⟩⟩
theorem OC{t:TypeId}{z:I}{d:Nat}(ho:o.op=.alloc t)(hz:gY c.P t=some z)(ah:o.dst=some d)(hn:d<c.n)(hf:A.o d=none):iW c A o ((A.aZ d (.box z)).put d (.ptr d [])):=by
 intro a w D E hs;obtain ⟨i,zv,hi,hzv,hzr⟩:=mT hz;have U:=hs.th (T:=t) (.inl hn) hf (hzr w D E);have ab:=U.put (x:=.ptr d []) (v:=.pointer (some ⟨w.heap.size,0,none⟩)) hn ⟨_,by simp[bI,I.isAgg];rfl,by
  simp only[ao,if_true];exact ⟨w.heap.size,z.bh,0,rfl,by cases z.bh <;>simp[cW.off],rfl⟩⟩
 exact ⟨w.alloc (.cells zv.cells t),.inl ⟨.pointer (some ⟨w.heap.size,0,none⟩),by simp[execOp,ho,Instr.alloc,zeroValue,typeInfo,hi,hzv,newVar,newRow],D,_,by rw[ah];exact ab⟩⟩
theorem OH{t:TypeId}{y:Operand}{y':aV}{d:Nat}(ho:o.op=.box t y)(hy:bF c.P t y=some y')(hv:(al A y').bV=true)(ah:o.dst=some d)(hn:d<c.n)(hf:A.o d=none) :
  iW c A o ((A.aZ d (.box (al A y'))).put d (.ptr d [])):=by
 intro a w D E hs;obtain ⟨cs,k1,k2⟩:∃ cs,bI (al A y') (a.eval y) cs∧ao w D E (al A y') cs:=by
  have h:=b5 hs hy;generalize al A y'=z at *;cases z <;>simp[I.bV] at hv <;>exact h
 have hc:=k1.cells k2;rw[←hc] at k2;have U:=hs.th (T:=t) (.inl hn) hf k2;have ab:=U.put (x:=.ptr d []) (v:=.pointer (some ⟨w.heap.size,0,none⟩)) hn ⟨_,by simp[bI,I.isAgg];rfl,by
  simp only[ao,if_true];exact ⟨w.heap.size,(al A y').bh,0,rfl,by cases (al A y').bh <;>simp[cW.off],rfl⟩⟩
 exact ⟨w.alloc (.cells (a.eval y).cells t),.inl ⟨.pointer (some ⟨w.heap.size,0,none⟩),by simp[execOp,ho,Instr.box,newVar,newRow],D,_,by rw[ah];exact ab⟩⟩
theorem OO{t:TypeId}{y z:Operand}{y' z':aV}{s:Option Nat}{n:Nat}{p:List Nat}{b old:I}(ho:o.op=.store t y z)(hk:gB c.P t=some s)(hk1:s.isSome=true∨c.P.cellsOf t=1)(hy:bF c.P 0 y=some y')(hz:bF c.P t z=some z')
  (hp:al A y'=.ptr n p) (hb:A.o n=some (.box b)) (hat:b.at p=some old) (hv:(al A z').bV=true) (hok:cn s (al A z')=true) (hsh:(al A z').bh=old.bh) (ah:o.dst=none) :
  iW c A o (A.aZ n (.box (b.eF p (al A z')))):=by
 intro a w D E hs;have U:=b5 hs hy;rw[hp] at U;obtain ⟨bb,bh,off,ab,af,ar⟩:=mG U;obtain ⟨b',cs,T,k1,k2,k3,k4,k5⟩:=hs.box hb;rw[k1] at ab;simp only[u8,bO.aR.injEq] at ab;obtain ⟨rfl,rfl⟩:=ab;obtain ⟨ds,q1,q2⟩:∃ ds,bI (al A z') (a.eval z) ds∧ao w D E (al A z') ds:=by
  have h:=b5 hs hz;generalize al A z'=zz at *;cases zz <;>simp[I.bV] at hv <;>exact h
 have hc:=q1.cells q2;obtain ⟨off',p1,p2,p3,p4⟩:=vZ p b old _ _ ds k4 hat q2 hsh;rw[af,u8] at p1;subst p1;have hl:=ao.length _ _ q2;obtain ⟨i,hi⟩:=vn hk;have hsz:ds.length=c.P.cellsOf t:=by
  cases s with
  |none =>
   simp only[cn,Bool.not_eq_true'] at hok;have:(al A z').size=1:=by generalize al A z'=zz at *;cases zz <;>simp_all[I.isAgg,I.size]
   rw[hl,this];rcases hk1 with h | h
   ·cases h
   ·exact h.symm
  |some m =>
   simp only[cn,zz1,beq_iff_eq] at hok;rw[hl,hok.2,yC hk]
 have hcs:(a.eval z).cells.size=ds.length:=by rw[←hc,zw4]
 have hrun:=run_storeCells_at c.P b' off T ds 0 cs w k3 (by rw[zw4] at p2;omega) (ao.nz _ _ q2);simp only[Nat.add_zero] at hrun;have hs2:=hs.zU (y:=b.eF p (al A z')) (cs':=(cs.toList.take off++ds++cs.toList.drop (off+ds.length)).toArray) hb k1 p4 (by simpa using p3);refine ⟨w.setRow b' (cs.toList.take off++ds++cs.toList.drop (off+ds.length)).toArray,.inr ⟨?_,D,E,?_⟩⟩
 ·have e:(a.eval z).cells.toList=ds:=hc;have hg:¬ (a.eval z).cells.size≠c.P.cellsOf t:=by rw[hcs,hsz];simp
  simp only[execOp,ho,ar,Instr.storeAt,Instr.sureAddr,storeVar,Sem.run_bind,Sem.run_pure,Result.andThen_ok,jJ hi,Sem.run_ite,if_neg hg,e,hrun]
 ·rw[ah];exact hs2
end
section
variable {c:c4} {A:ai} {a:Act} {w:World} {D:aX} {E:bj}
theorem bg.Dt(h:bg c A a w D E){n:Nat}{T:TypeId}{sz cap:Nat}{es ys:List I}{pre news rest:List Value}{cs:Array Value}{aP:Option (Nat×Nat)}(hn:A.o n=some (.bW T sz es))(ay:E n=some (.rw aP es.length))(hes:aU w D E es pre)
  (hys:aU w D E ys news) (hysz:∀ e∈ys,e.size=sz) (hne:ys≠[]) (hcs:cs.toList=(pre++news)++rest) (hsize:cs.size=cap*sz) (hlen:es.length+ys.length≤cap) (hcap:cap≤maxLen) :
  bg c (A.aZ n (.bW T sz (es++ys))) a (w.drew.alloc (.cells cs T)) D (fun m=>if m=n then some (.rw (some (w.heap.size,cap)) (es.length+ys.length)) else E m):=by
 have hlast:0<ys.length:=List.length_pos_iff.2 hne;have hheap:∀ b,b<w.heap.size→(w.drew.alloc (.cells cs T)).heap[b]?=w.heap[b]?:=fun b hb=>Below.heap_alloc w.drew _ b hb;have hl:ec w D E (w.drew.alloc (.cells cs T)) D (fun m=>if m=n then some (.rw (some (w.heap.size,cap)) (es.length+ys.length)) else E m):=by
  have eV:∀ {m:Nat} {e:bO},E m=some e→e.en=true→(if m=n then some (.rw (some (w.heap.size,cap)) (es.length+ys.length)) else E m)=some e:=fun {m e} he hfx=>by
   have:m≠n:=fun e=>by rw[e,ay] at he;cases he;cases hfx
   rw[if_neg this];exact he
  refine ⟨fun _ _ h=>h,fun b o v _ hv =>?_,fun m b bh he=>eV he rfl,fun m blk' l he =>?_,fun m b he=>eV he rfl,fun m b he=>eV he rfl,fun b es ck _ hm=>(hheap b (gu hm)).trans hm⟩
  ·rw[World.cell?_of_block (hheap b (World.block_lt_of_cell? w _ hv))];exact hv
  ·by_cases hm:m=n
   ·subst hm;rw[ay] at he;simp only[u8,bO.rw.injEq] at he;exact ⟨_,_,if_pos rfl,by omega,fun e=>by omega⟩
   ·exact ⟨blk',l,by simp only[if_neg hm];exact he,zz9 _,fun _=>rfl⟩
 have hown:=h.bP n;rw[hn] at hown;obtain ⟨blk1,hb1,hb2,_⟩:=hown;refine ⟨h.sz,h.eC.mono fun B _ hB=>(hheap B (zx1.1 hB).1).trans hB,fun t=>bl.later hl (h.dO t),h.dK.trans ⟨rfl,rfl,rfl,by simp,fun k hk=>hheap k (h.old hk)⟩,h.c6,fun b o hd'=>by have:=h.aK b o hd';simp;omega,fun m =>?_,?_,fun m e hm =>?_,h.eL,h.cT,h.eY,h.l3 hl⟩
 ·simp only[ai.aZ];by_cases hm:m=n
  ·subst hm;simp only[if_true,cS];refine ⟨some (w.heap.size,cap),by simp,fun e he =>?_,?_⟩
   ·rcases zy8.1 he with he | he
    ·exact hb2 e he
    ·exact hysz e he
   ·refine ⟨cs,pre++news,rest,.inl h.dK.size,heap_alloc_new w.drew _,hcs,?_,hsize,by simpa using hlen,hcap,fun o ho=>absurd (h.aK _ o ho) (Nat.lt_irrefl _)⟩;exact aU.later hl _ _ (lu _ _ _ _ hes hys)
  ·simp only[if_neg hm];exact (h.bP m).later hl (by simp only[if_neg hm]) fun e b he hb=>⟨hheap b (h.gN he hb),fun _ ho=>ho⟩
 ·intro m m' e e' b U ab af ar;by_cases hm:m=n <;>by_cases hm':m'=n
  ·rw[hm,hm']
  ·simp only[if_pos hm,u8] at U;simp only[if_neg hm'] at ab;subst U;simp only[bO.aP,u8] at af;have:=h.gN ab ar;omega
  ·simp only[if_neg hm] at U;simp only[if_pos hm',u8] at ab;subst ab;simp only[bO.aP,u8] at ar;have:=h.gN U af;omega
  ·simp only[if_neg hm] at U;simp only[if_neg hm'] at ab;exact h.cQ m m' e e' b U ab af ar
 ·by_cases hmn:m=n
  ·subst hmn;rcases h.dR _ _ hm with k | ⟨e',k,hle⟩
   ·rw[ay] at k;cases k
   ·rw[ay] at k;cases k;exact .inr ⟨_,if_pos rfl,hle.trans (.inr ⟨_,_,_,_,rfl,rfl,by omega,fun e=>by omega⟩)⟩
  ·simp only[if_neg hmn];exact h.dR _ _ hm
theorem bg.aau(h:bg c A a w D E){n:Nat}{T:TypeId}{sz b cap:Nat}{es ys:List I}{pre news rest:List Value}{cs:Array Value}(hn:A.o n=some (.bW T sz es))(ay:E n=some (.rw (some (b,cap)) es.length))(hb:w.heap[b]?=some (.cells cs T (0,0)))
  (hcs:cs.toList=pre++rest) (hes:aU w D E es pre) (hys:aU w D E ys news) (hysz:∀ e∈ys,e.size=sz) (hne:ys≠[]) (hsize:cs.size=cap*sz) (hlen:es.length+ys.length≤cap) (hcap:cap≤maxLen) (hD:∀ o,D b o→o<pre.length) (hbase:c.fo b) :
  bg c (A.aZ n (.bW T sz (es++ys))) a (w.setRow b (pre++news++rest.drop news.length).toArray) D (fun m=>if m=n then some (.rw (some (b,cap)) (es.length+ys.length)) else E m):=by
 have hlast:0<ys.length:=List.length_pos_iff.2 hne;have hown:=h.bP n;rw[hn] at hown;obtain ⟨blk1,hb1,hb2,_⟩:=hown;have hnl:news.length=ys.length*sz:=by rw[aU.length _ _ hys,I.jq _ hysz]
 have hpl:pre.length=es.length*sz:=by rw[aU.length _ _ hes,I.jq _ hb2]
 have hl:ec w D E (w.setRow b (pre++news++rest.drop news.length).toArray) D (fun m=>if m=n then some (.rw (some (b,cap)) (es.length+ys.length)) else E m):=by
  have eV:∀ {m:Nat} {e:bO},E m=some e→e.en=true→(if m=n then some (.rw (some (b,cap)) (es.length+ys.length)) else E m)=some e:=fun {m e} he hfx=>by
   have:m≠n:=fun e=>by rw[e,ay] at he;cases he;cases hfx
   rw[if_neg this];exact he
  refine ⟨fun _ _ h=>h,fun b1 o v ah hv =>?_,fun m b bh he=>eV he rfl,fun m blk' l he =>?_,fun m b he=>eV he rfl,fun m b he=>eV he rfl,fun b1 es ck _ hm=>(setRow_other w b b1 _ (fun e=>by rw[e,hb] at hm;cases hm)).trans hm⟩
  ·by_cases hbb:b1=b
   ·subst hbb;have ho:=hD o ah;have U:=setRow_heap w b1 cs (pre++news++rest.drop news.length).toArray T _ hb;rw[cell_of_row _ b1 o _ T (0,0) U];rw[cell_of_row _ b1 o _ T (0,0) hb] at hv;have e1:cs[o]?=pre[o]?:=by rw[←zw6,hcs,zx0 ho]
    rw[←hv,e1];simp only[List.getElem?_toArray,zy4];rw[zx0 ho]
   ·rw[xu _ _ _ _ hbb];exact hv
  ·by_cases hm:m=n
   ·subst hm;rw[ay] at he;simp only[u8,bO.rw.injEq] at he;exact ⟨_,_,if_pos rfl,by omega,fun e=>by omega⟩
   ·exact ⟨blk',l,by simp only[if_neg hm];exact he,zz9 _,fun _=>rfl⟩
 refine ⟨h.sz,h.eC.mono fun B _ hB=>(setRow_other w b B _ (fun e=>by rw[e,hb] at hB;cases hB)).trans hB,fun t=>bl.later hl (h.dO t),yx h.dK hbase _,h.c6,fun b1 o ah=>by have:=h.aK b1 o ah;simpa[World.setRow] using this,fun m =>?_,?_,fun m e hm =>?_,h.eL,h.cT,h.eY,h.l3 hl⟩
 ·simp only[ai.aZ];by_cases hm:m=n
  ·subst hm;simp only[if_true,cS];refine ⟨some (b,cap),by simp,fun e he =>?_,?_⟩
   ·rcases zy8.1 he with he | he
    ·exact hb2 e he
    ·exact hysz e he
   ·refine ⟨_,pre++news,rest.drop news.length,hbase,setRow_heap w b cs _ T _ hb,by simp,aU.later hl _ _ (lu _ _ _ _ hes hys),?_,by simpa using hlen,hcap,fun o ho =>?_⟩
    ·have e1:cs.size=pre.length+rest.length:=by rw[←zw4,hcs,zz6]
     have e2:news.length+pre.length≤cs.size:=by
      rw[hsize,hnl,hpl,←Nat.add_mul];exact Nat.mul_le_mul_right _ (by omega)
     simp only[List.size_toArray,zz6,List.length_drop];omega
    ·have:=hD o ho;rw[zz6];omega
  ·simp only[if_neg hm];refine (h.bP m).later hl (by simp only[if_neg hm]) fun e b1 he hb'=>⟨setRow_other w b b1 _ (fun e1=>hm (h.cQ m n e _ b he ay (by rw[hb',e1]) rfl)),fun _ ho=>ho⟩
 ·intro m m' e e' b' U ab af ar;by_cases hm:m=n <;>by_cases hm':m'=n
  ·rw[hm,hm']
  ·simp only[if_pos hm,u8] at U;simp only[if_neg hm'] at ab;subst U;exact absurd (h.cQ m' n e' _ b' ab ay ar af) hm'
  ·simp only[if_neg hm] at U;simp only[if_pos hm',u8] at ab;subst ab;exact absurd (h.cQ m n e _ b' U ay af ar) hm
  ·simp only[if_neg hm] at U;simp only[if_neg hm'] at ab;exact h.cQ m m' e e' b' U ab af ar
 ·by_cases hmn:m=n
  ·subst hmn;rcases h.dR _ _ hm with k | ⟨e',k,hle⟩
   ·rw[ay] at k;cases k
   ·rw[ay] at k;cases k;exact .inr ⟨_,if_pos rfl,hle.trans (.inr ⟨_,_,_,_,rfl,rfl,by omega,fun e=>by omega⟩)⟩
  ·simp only[if_neg hmn];exact h.dR _ _ hm
theorem Ip(n:Nat):(Builtin.zeroCells #[Value.int .i64 0] n).toList=(List.replicate n (0:Int)).map (Value.int .i64):=by
 simp only[Builtin.zeroCells,List.size_toArray,List.length_singleton,Nat.mul_one,Nat.mod_one,List.map_replicate];apply List.ext_getElem?;intro k;simp[List.getElem?_replicate];by_cases h:k<n
 ·rw[if_pos h,List.getElem?_range h];rfl
 ·rw[if_neg h,List.getElem?_eq_none (by simpa using h)];rfl
theorem Hb{w:World}{D:aX}{E:bj} : ∀ {xs:List Int} {cs:List Value},aU w D E (xs.map (I.int .i64)) cs→cs=xs.map (Value.int .i64)∧∀ x∈xs,IntKind.i64.min≤x∧x≤IntKind.i64.max
 | [],cs,h=>by
  simp only[zx8,aU] at h;subst h;exact ⟨rfl,by simp⟩
 |x::xs,cs,h=>by
  simp only[zz7,aU] at h;obtain ⟨c1,c2,rfl,U,ab⟩:=h;obtain ⟨rfl,af⟩:=Hb ab;have h1':c1=[.int .i64 x]∧IntKind.i64.min≤x∧x≤IntKind.i64.max:=U;obtain ⟨rfl,ar⟩:=h1';refine ⟨rfl,fun y hy =>?_⟩;rcases zw7.1 hy with rfl | hy
  ·exact ar
  ·exact af y hy
theorem bg.Du(h:bg c A a w D E){n:Nat}{T:TypeId}{cap m':Nat}{es ys:List Int}{cs:Array Value}{aP:Option (Nat×Nat)}(hn:A.o n=some (.dJ T es))(ay:E n=some (.rw aP es.length))(hr:∀ x∈es++ys,IntKind.i64.min≤x∧x≤IntKind.i64.max)
  (hne:ys≠[]) (hcs:cs.toList=(es++ys++List.replicate m' 0).map (Value.int .i64)) (hlen:es.length+ys.length+m'=cap) (hcap:cap≤maxLen) :
  bg c (A.aZ n (.dJ T (es++ys))) a (w.drew.alloc (.cells cs T)) D (fun m=>if m=n then some (.rw (some (w.heap.size,cap)) (es.length+ys.length)) else E m):=by
 have hlast:0<ys.length:=List.length_pos_iff.2 hne;have hheap:∀ b,b<w.heap.size→(w.drew.alloc (.cells cs T)).heap[b]?=w.heap[b]?:=fun b hb=>Below.heap_alloc w.drew _ b hb;have hl:ec w D E (w.drew.alloc (.cells cs T)) D (fun m=>if m=n then some (.rw (some (w.heap.size,cap)) (es.length+ys.length)) else E m):=by
  have eV:∀ {m:Nat} {e:bO},E m=some e→e.en=true→(if m=n then some (.rw (some (w.heap.size,cap)) (es.length+ys.length)) else E m)=some e:=fun {m e} he hfx=>by
   have:m≠n:=fun e=>by rw[e,ay] at he;cases he;cases hfx
   rw[if_neg this];exact he
  refine ⟨fun _ _ h=>h,fun b o v _ hv =>?_,fun m b bh he=>eV he rfl,fun m blk' l he =>?_,fun m b he=>eV he rfl,fun m b he=>eV he rfl,fun b es ck _ hm=>(hheap b (gu hm)).trans hm⟩
  ·rw[World.cell?_of_block (hheap b (World.block_lt_of_cell? w _ hv))];exact hv
  ·by_cases hm:m=n
   ·subst hm;rw[ay] at he;simp only[u8,bO.rw.injEq] at he;exact ⟨_,_,if_pos rfl,by omega,fun e=>by omega⟩
   ·exact ⟨blk',l,by simp only[if_neg hm];exact he,zz9 _,fun _=>rfl⟩
 refine ⟨h.sz,h.eC.mono fun B _ hB=>(hheap B (zx1.1 hB).1).trans hB,fun t=>bl.later hl (h.dO t),h.dK.trans ⟨rfl,rfl,rfl,by simp,fun k hk=>hheap k (h.old hk)⟩,h.c6,fun b o hd'=>by have:=h.aK b o hd';simp;omega,fun m =>?_,?_,fun m e hm =>?_,h.eL,h.cT,h.eY,h.l3 hl⟩
 ·simp only[ai.aZ];by_cases hm:m=n
  ·subst hm;simp only[if_true,cS];exact ⟨some (w.heap.size,cap),by simp,hr,cs,m',.inl h.dK.size,heap_alloc_new w.drew _,hcs,by simp[hne],by simp only[zz6];exact hlen,hcap,fun o ho=>absurd (h.aK _ o ho) (Nat.lt_irrefl _)⟩
  ·simp only[if_neg hm];exact (h.bP m).later hl (by simp only[if_neg hm]) fun e b he hb=>⟨hheap b (h.gN he hb),fun _ ho=>ho⟩
 ·intro m m' e e' b U ab af ar;by_cases hm:m=n <;>by_cases hm':m'=n
  ·rw[hm,hm']
  ·simp only[if_pos hm,u8] at U;simp only[if_neg hm'] at ab;subst U;simp only[bO.aP,u8] at af;have:=h.gN ab ar;omega
  ·simp only[if_neg hm] at U;simp only[if_pos hm',u8] at ab;subst ab;simp only[bO.aP,u8] at ar;have:=h.gN U af;omega
  ·simp only[if_neg hm] at U;simp only[if_neg hm'] at ab;exact h.cQ m m' e e' b U ab af ar
 ·by_cases hmn:m=n
  ·subst hmn;rcases h.dR _ _ hm with k | ⟨e',k,hle⟩
   ·rw[ay] at k;cases k
   ·rw[ay] at k;cases k;exact .inr ⟨_,if_pos rfl,hle.trans (.inr ⟨_,_,_,_,rfl,rfl,by omega,fun e=>by omega⟩)⟩
  ·simp only[if_neg hmn];exact h.dR _ _ hm
theorem bg.aav(h:bg c A a w D E){n:Nat}{T:TypeId}{b cap m':Nat}{es ys:List Int}{cs:Array Value}(hn:A.o n=some (.dJ T es))(ay:E n=some (.rw (some (b,cap)) es.length))(hb:w.heap[b]?=some (.cells cs T (0,0)))
  (hr:∀ x∈es++ys,IntKind.i64.min≤x∧x≤IntKind.i64.max) (hne:ys≠[]) (hlen:es.length+ys.length+m'=cap) (hcap:cap≤maxLen) (hD:∀ o,¬ D b o) (hbase:c.fo b) :
  bg c (A.aZ n (.dJ T (es++ys))) a (w.setRow b ((es++ys++List.replicate m' 0).map (Value.int .i64)).toArray) D (fun m=>if m=n then some (.rw (some (b,cap)) (es.length+ys.length)) else E m):=by
 have hlast:0<ys.length:=List.length_pos_iff.2 hne;have hl:ec w D E (w.setRow b ((es++ys++List.replicate m' 0).map (Value.int .i64)).toArray) D (fun m=>if m=n then some (.rw (some (b,cap)) (es.length+ys.length)) else E m):=by
  have eV:∀ {m:Nat} {e:bO},E m=some e→e.en=true→(if m=n then some (.rw (some (b,cap)) (es.length+ys.length)) else E m)=some e:=fun {m e} he hfx=>by
   have:m≠n:=fun e=>by rw[e,ay] at he;cases he;cases hfx
   rw[if_neg this];exact he
  refine ⟨fun _ _ h=>h,fun b1 o v ah hv =>?_,fun m b bh he=>eV he rfl,fun m blk' l he =>?_,fun m b he=>eV he rfl,fun m b he=>eV he rfl,fun b1 es ck _ hm=>(setRow_other w b b1 _ (fun e=>by rw[e,hb] at hm;cases hm)).trans hm⟩
  ·by_cases hbb:b1=b
   ·subst hbb;exact absurd ah (hD o)
   ·rw[xu _ _ _ _ hbb];exact hv
  ·by_cases hm:m=n
   ·subst hm;rw[ay] at he;simp only[u8,bO.rw.injEq] at he;exact ⟨_,_,if_pos rfl,by omega,fun e=>by omega⟩
   ·exact ⟨blk',l,by simp only[if_neg hm];exact he,zz9 _,fun _=>rfl⟩
 refine ⟨h.sz,h.eC.mono fun B _ hB=>(setRow_other w b B _ (fun e=>by rw[e,hb] at hB;cases hB)).trans hB,fun t=>bl.later hl (h.dO t),yx h.dK hbase _,h.c6,fun b1 o ah=>by have:=h.aK b1 o ah;simpa[World.setRow] using this,fun m =>?_,?_,fun m e hm =>?_,h.eL,h.cT,h.eY,h.l3 hl⟩
 ·simp only[ai.aZ];by_cases hm:m=n
  ·subst hm;simp only[if_true,cS];exact ⟨some (b,cap),by simp,hr,_,m',hbase,setRow_heap w b cs _ T _ hb,by simp,by simp[hne],by simp only[zz6];exact hlen,hcap,hD⟩
  ·simp only[if_neg hm];refine (h.bP m).later hl (by simp only[if_neg hm]) fun e b1 he hb'=>⟨setRow_other w b b1 _ (fun e1=>hm (h.cQ m n e _ b he ay (by rw[hb',e1]) rfl)),fun _ ho=>ho⟩
 ·intro m m' e e' b' U ab af ar;by_cases hm:m=n <;>by_cases hm':m'=n
  ·rw[hm,hm']
  ·simp only[if_pos hm,u8] at U;simp only[if_neg hm'] at ab;subst U;exact absurd (h.cQ m' n e' _ b' ab ay ar af) hm'
  ·simp only[if_neg hm] at U;simp only[if_pos hm',u8] at ab;subst ab;exact absurd (h.cQ m n e _ b' U ay af ar) hm
  ·simp only[if_neg hm] at U;simp only[if_neg hm'] at ab;exact h.cQ m m' e e' b' U ab af ar
 ·by_cases hmn:m=n
  ·subst hmn;rcases h.dR _ _ hm with k | ⟨e',k,hle⟩
   ·rw[ay] at k;cases k
   ·rw[ay] at k;cases k;exact .inr ⟨_,if_pos rfl,hle.trans (.inr ⟨_,_,_,_,rfl,rfl,by omega,fun e=>by omega⟩)⟩
  ·simp only[if_neg hmn];exact h.dR _ _ hm
end
section
variable {c:c4} {A:ai} {o:Oper}
theorem OD{t e:TypeId}{s x:Operand}{s' x':aV}{n k sz:Nat}{es ys:List I}{z:I}(ho:o.op=.call { callee:=.builtin .append,args := #[s,x],argTypes := #[t,t] })(ht:c.P.underlying t=some (.slice e))(hs':bF c.P t s=some s')(hx':bF c.P t x=some x')
  (hz:gY c.P e=some z) (hzs:z.size=c.P.cellsOf e) (hpos:0<c.P.cellsOf e) (hs:al A s'=.own n k) (hn:A.o n=some (.bW e (c.P.cellsOf e) es)) (hk:k=es.length) (hx:al A x'=.slice sz ys) (hsz:sz=c.P.cellsOf e) (hne:ys≠[])
  (h63:es.length+ys.length≤maxLen) (hby:(es.length+ys.length)*c.P.bytesOf e≤140737488355328) (ah:∀ k,o.dst=some k→k<c.n) :
  iW c A o ((A.aZ n (.bW e (c.P.cellsOf e) (es++ys))).a8 o.dst (.own n (es.length+ys.length))):=by
 intro a w D E hsim;obtain ⟨i,zv,hi,hzv,hzr⟩:=mT hz;have hci:c.P.cellsOf e=i.size:=by simp[Program.cellsOf,hi]
 have hbi:c.P.bytesOf e=i.bytes:=by simp[Program.bytesOf,hi]
 have hzc:zv.cells.size=i.size:=by
  have:=ao.length _ _ (hzr w D E);rw[zw4] at this;rw[this,hzs,hci]
 subst hk;have v1:=b5 hsim hs';rw[hs] at v1;have v2:=b5 hsim hx';rw[hx] at v2;obtain ⟨ad,cp,hxv,hc1,hc2,hc3,hc4⟩:=oV v2;obtain ⟨b2,off2,news,rfl,hr2,hys⟩:=hc3.resolve_left hne;have hobj:=hsim.bP n;rw[hn] at hobj;obtain ⟨aP,ay,hesz,hblk⟩:=hobj;have hnl:news.length=ys.length*i.size:=by rw[aU.length _ _ hys,I.jq _ hc4,hsz,hci]
 have hysz:∀ y∈ys,y.size=c.P.cellsOf e:=fun y hy=>by rw[hc4 y hy,hsz]
 have hnews:∀ j v,news[j]?=some v→w.cell? ((⟨b2,off2,none⟩:Addr).add j)=some v:=fun j v hj=>by
  rw[Addr.add_lit];exact (hr2 j v hj).1
 have U:=aU.nz _ _ hys;have hsv:match aP with | none=>a.eval s=.slice none 0 0 | some (b,cap)=>a.eval s=.slice (some ⟨b,0,none⟩) es.length cap:=by
  obtain ⟨cs,q1,q2⟩:=v1;simp only[ao] at q2;obtain ⟨blk',l,q3,q4,q5,q6⟩:=q2;rw[ay] at q3;simp only[u8,bO.rw.injEq] at q3;obtain ⟨rfl,rfl⟩:=q3;have q7:=q6 rfl;simp only[bI,I.isAgg] at q1;cases aP with
  |none=>simp only at q7 ⊢;rw[q7] at q1;simpa using q1.symm
  |some bc=>simp only at q7 ⊢;rw[q7] at q1;simpa using q1.symm
 have hl0:0<ys.length:=List.length_pos_iff.2 hne;have h63':=h63;simp only[maxLen] at h63';have run:∀ v' w',(Builtin.append_ #[t,t] o.type #[a.eval s,.slice (some ⟨b2,off2,none⟩) ys.length cp]).run c.P w=.ok v' w'→(execOp a.eval o).run c.P w=.ok (.value v') w':=by
  intro v' w' hr;unfold execOp;simp only[ho,resolve,invoke,builtin,Sem.run_bind,Sem.run_pure,Result.andThen_ok,List.map_toArray,zz7,zx8,hxv,hr]
 have put:∀ (w':World) (b cap:Nat) (v':Value),v'=.slice (some ⟨b,0,none⟩) (es.length+ys.length) cap→bg c (A.aZ n (.bW e (c.P.cellsOf e) (es++ys))) a w' D (fun m=>if m=n then some (.rw (some (b,cap)) (es.length+ys.length)) else E m) →
   cd c ((A.aZ n (.bW e (c.P.cellsOf e) (es++ys))).a8 o.dst (.own n (es.length+ys.length))) (a.put o.dst v') w':=by
  rintro w' b cap v' rfl hs2;refine ⟨D,_,hs2.a8 ah ⟨_,by simp[bI,I.isAgg];rfl,?_⟩⟩;simp only[ao,if_true];exact ⟨some (b,cap),es.length+ys.length,rfl,zz9 _,⟨_,_,_,rfl⟩,fun _=>rfl⟩
 cases aP with
 |none =>
  simp only at hblk hsv;subst hblk;have hr:=run_append_nil (P:=c.P) w t o.type e i zv ht hi hzv ⟨b2,off2,none⟩ ys.length cp news hnl hnews hl0 (by simp at h63';omega) (by rw[hbi] at hby;simp at hby;omega);rw[←hsv] at hr;have hge:=grownCap_ge w ys.length 0 e;refine ⟨_,.inl ⟨_,run _ _ hr,put _ w.heap.size (grownCap w ys.length 0 e) _ (by simp) ?_⟩⟩;refine hsim.Dt (pre:=[]) (news:=news) (rest:=(Builtin.zeroCells zv.cells (grownCap w ys.length 0 e-ys.length)).toList) hn ay (by simp[aU]) hys hysz hne (by simp) ?_ (by simpa using hge) (grownCap_le_maxLen w ys.length 0 e (by simpa using h63));simp only[Array.size_append,List.size_toArray,size_zeroCells,hzc,hnl,hci,←Nat.add_mul]
  congr 1
  omega
 |some bc =>
  obtain ⟨b,cap⟩:=bc;simp only at hblk hsv;obtain ⟨cs,pre,rest,k1,k2,k3,k4,k5,k6,k7,k8⟩:=hblk;have hpl:pre.length=es.length*i.size:=by rw[aU.length _ _ k4,I.jq _ hesz,hci]
  by_cases hroom:es.length+ys.length≤cap
  ·have hfit:es.length*i.size+news.length≤cs.size:=by rw[hnl,k5,hci,←Nat.add_mul];exact Nat.mul_le_mul_right _ hroom
   have hr:=run_append_room (P:=c.P) w t o.type e i ht hi b es.length cap cs k2 ⟨b2,off2,none⟩ ys.length cp news hnl hnews U hroom hfit;rw[←hsv] at hr;refine ⟨_,.inl ⟨_,run _ _ hr,put _ b cap _ rfl ?_⟩⟩;have e1:cs.toList.take (es.length*i.size)=pre:=by rw[k3,←hpl];exact List.take_left
   have e2:cs.toList.drop (es.length*i.size+news.length)=rest.drop news.length:=by rw[k3,←hpl,←List.drop_drop,List.drop_left]
   rw[e1,e2];exact hsim.aau hn ay k2 k3 k4 hys hysz hne k5 hroom k7 k8 k1
  ·have holds:∀ j v,pre[j]?=some v→w.cell? ((⟨b,0,none⟩:Addr).add j)=some v:=fun j v hj=>by
    rw[Addr.add_lit,zz4,cell_of_row w b j cs e (0,0) k2,←zw6,k3];have:j<pre.length:=(zy0.1 hj).1;rw[zx0 this];exact hj
   have hr:=run_append_grow (P:=c.P) w t o.type e i zv ht hi hzv ⟨b,0,none⟩ es.length cap pre hpl holds ⟨b2,off2,none⟩ ys.length cp news hnl hnews (by omega) (by omega) (growslice_fits (by omega) (by rw[←hbi];exact hby));rw[←hsv] at hr;have hge:=grownCap_ge w (es.length+ys.length) cap e;refine ⟨_,.inl ⟨_,run _ _ hr,put _ w.heap.size (grownCap w (es.length+ys.length) cap e) _ rfl ?_⟩⟩;refine hsim.Dt (pre:=pre) (news:=news) (rest:=(Builtin.zeroCells zv.cells (grownCap w (es.length+ys.length) cap e-(es.length+ys.length))).toList) hn ay k4 hys hysz hne (by simp) ?_ hge (grownCap_le_maxLen w _ cap e h63);simp only[Array.size_append,List.size_toArray,size_zeroCells,hzc,hnl,hpl,hci,←Nat.add_mul]
   congr 1
   omega
theorem OE{t e:TypeId}{s x:Operand}{s' x':aV}{n k sz:Nat}{es ys:List Int}(ho:o.op=.call { callee:=.builtin .append,args := #[s,x],argTypes := #[t,t] })(ht:c.P.underlying t=some (.slice e))(hs':bF c.P t s=some s')(hx':bF c.P t x=some x')
  (hz:gY c.P e=some (.int .i64 0)) (h1c:c.P.cellsOf e=1) (hs:al A s'=.own n k) (hn:A.o n=some (.dJ e es)) (hk:k=es.length) (hx:al A x'=.slice sz (ys.map (.int .i64))) (hne:ys≠[])
  (h63:es.length+ys.length≤maxLen) (hby:(es.length+ys.length)*c.P.bytesOf e≤140737488355328) (ah:∀ k,o.dst=some k→k<c.n) :
  iW c A o ((A.aZ n (.dJ e (es++ys))).a8 o.dst (.own n (es.length+ys.length))):=by
 intro a w D E hsim;obtain ⟨i,zv,hi,hzv,hzr⟩:=mT hz;have hci:c.P.cellsOf e=i.size:=by simp[Program.cellsOf,hi]
 have hi1:i.size=1:=hci.symm.trans h1c;have hbi:c.P.bytesOf e=i.bytes:=by simp[Program.bytesOf,hi]
 have hzv2:zv.cells = #[Value.int .i64 0]:=by
  have:zv.cells.toList=[Value.int .i64 0]:=(hzr w D E).1;exact Array.toList_inj.1 this
 subst hk;have v1:=b5 hsim hs';rw[hs] at v1;have v2:=b5 hsim hx';rw[hx] at v2;obtain ⟨ad,cp,hxv,hc1,hc2,hc3,hc4⟩:=oV v2;obtain ⟨b2,off2,news,rfl,hr2,hys⟩:=hc3.resolve_left (by simpa using hne);rw[zz8] at hxv;obtain ⟨aP,ay,hesr,hblk⟩:=hsim.ud hn;obtain ⟨hnw,hyr⟩:=Hb hys;have hnl0:news.length=ys.length:=by rw[hnw,zz8]
 have hnl:news.length=ys.length*i.size:=by rw[hi1,Nat.mul_one,hnl0]
 have hrr:∀ x∈es++ys,IntKind.i64.min≤x∧x≤IntKind.i64.max:=fun x hx=>by
  rcases zy8.1 hx with h | h
  ·exact hesr x h
  ·exact hyr x h
 have hnews:∀ j v,news[j]?=some v→w.cell? ((⟨b2,off2,none⟩:Addr).add j)=some v:=fun j v hj=>by
  rw[Addr.add_lit];exact (hr2 j v hj).1
 have U:=aU.nz _ _ hys;have hsv:match aP with | none=>a.eval s=.slice none 0 0 | some (b,cap)=>a.eval s=.slice (some ⟨b,0,none⟩) es.length cap:=by
  obtain ⟨cs,q1,q2⟩:=v1;simp only[ao] at q2;obtain ⟨blk',l,q3,q4,q5,q6⟩:=q2;rw[ay] at q3;simp only[u8,bO.rw.injEq] at q3;obtain ⟨rfl,rfl⟩:=q3;have q7:=q6 rfl;simp only[bI,I.isAgg] at q1;cases aP with
  |none=>simp only at q7 ⊢;rw[q7] at q1;simpa using q1.symm
  |some bc=>simp only at q7 ⊢;rw[q7] at q1;simpa using q1.symm
 have hl0:0<ys.length:=List.length_pos_iff.2 hne;have h63':=h63;simp only[maxLen] at h63';have run:∀ v' w',(Builtin.append_ #[t,t] o.type #[a.eval s,.slice (some ⟨b2,off2,none⟩) ys.length cp]).run c.P w=.ok v' w'→(execOp a.eval o).run c.P w=.ok (.value v') w':=by
  intro v' w' hr;unfold execOp;simp only[ho,resolve,invoke,builtin,Sem.run_bind,Sem.run_pure,Result.andThen_ok,List.map_toArray,zz7,zx8,hxv,hr]
 have put:∀ (w':World) (b cap:Nat) (v':Value),v'=.slice (some ⟨b,0,none⟩) (es.length+ys.length) cap→bg c (A.aZ n (.dJ e (es++ys))) a w' D (fun m=>if m=n then some (.rw (some (b,cap)) (es.length+ys.length)) else E m) →
   cd c ((A.aZ n (.dJ e (es++ys))).a8 o.dst (.own n (es.length+ys.length))) (a.put o.dst v') w':=by
  rintro w' b cap v' rfl hs2;refine ⟨D,_,hs2.a8 ah ⟨_,by simp[bI,I.isAgg];rfl,?_⟩⟩;simp only[ao,if_true];exact ⟨some (b,cap),es.length+ys.length,rfl,zz9 _,⟨_,_,_,rfl⟩,fun _=>rfl⟩
 cases aP with
 |none =>
  simp only at hblk hsv;subst hblk;have hr:=run_append_nil (P:=c.P) w t o.type e i zv ht hi hzv ⟨b2,off2,none⟩ ys.length cp news hnl hnews hl0 (by simp at h63';omega) (by rw[hbi] at hby;simp at hby;omega);rw[←hsv] at hr;have hge:=grownCap_ge w ys.length 0 e;refine ⟨_,.inl ⟨_,run _ _ hr,put _ w.heap.size (grownCap w ys.length 0 e) _ (by simp) ?_⟩⟩;refine hsim.Du (m':=grownCap w ys.length 0 e-ys.length) hn ay hrr hne ?_ (by simp;omega) (grownCap_le_maxLen w ys.length 0 e (by simpa using h63));rw[hzv2];simp only[Array.toList_append,Ip,zy5,zx2,hnw]
 |some bc =>
  obtain ⟨b,cap⟩:=bc;simp only at hblk hsv;obtain ⟨cs,m,k1,k2,k3,k4,k5,k6,k7⟩:=hblk;have hcz:cs.size=cap:=by rw[←zw4,k3];simp;omega
  by_cases hroom:es.length+ys.length≤cap
  ·have hfit:es.length*i.size+news.length≤cs.size:=by rw[hnl,hi1];omega
   have hr:=run_append_room (P:=c.P) w t o.type e i ht hi b es.length cap cs k2 ⟨b2,off2,none⟩ ys.length cp news hnl hnews U hroom hfit;rw[←hsv] at hr;refine ⟨_,.inl ⟨_,run _ _ hr,put _ b cap _ rfl ?_⟩⟩;have e0:cs.toList.take (es.length*i.size)++news++cs.toList.drop (es.length*i.size+news.length)=(es++ys++List.replicate (m-ys.length) 0).map (Value.int .i64):=by
    rw[hi1,Nat.mul_one,hnl0,k3,hnw,←List.map_take,←List.map_drop,List.take_left,←List.drop_drop,List.drop_left];simp only[zx2,List.drop_replicate]
   rw[e0];exact hsim.aav (m':=m-ys.length) hn ay k2 hrr hne (by omega) k6 k7 k1
  ·have hpl:(es.map (Value.int .i64)).length=es.length*i.size:=by rw[hi1];simp
   have holds:∀ j v,(es.map (Value.int .i64))[j]?=some v→w.cell? ((⟨b,0,none⟩:Addr).add j)=some v:=fun j v hj=>by
    rw[Addr.add_lit,zz4,cell_of_row w b j cs e (0,0) k2,←zw6,k3];have:j<(es.map (Value.int .i64)).length:=(zy0.1 hj).1;rw[zx2,zx0 this];exact hj
   have hr:=run_append_grow (P:=c.P) w t o.type e i zv ht hi hzv ⟨b,0,none⟩ es.length cap (es.map (Value.int .i64)) hpl holds ⟨b2,off2,none⟩ ys.length cp news hnl hnews (by omega) (by omega) (growslice_fits (by omega) (by rw[←hbi];exact hby));rw[←hsv] at hr;have hge:=grownCap_ge w (es.length+ys.length) cap e;refine ⟨_,.inl ⟨_,run _ _ hr,put _ w.heap.size (grownCap w (es.length+ys.length) cap e) _ rfl ?_⟩⟩;refine hsim.Du (m':=grownCap w (es.length+ys.length) cap e-(es.length+ys.length)) hn ay hrr hne ?_ (by omega) (grownCap_le_maxLen w _ cap e h63);rw[hzv2];simp only[Array.toList_append,Ip,zx2,hnw]
end
mutual
def I.only(p:Nat→Bool):I→Bool
 | .agg fs | .tuple fs=>I.bQ p fs
 | .slice _ es=>I.bQ p es
 | .ref x=>x.only p
 | .func _ caps=>I.bQ p caps
 | .iface _ v=>v.only p
 | .ptr n _ | .own n _ | .view n _ _ _ _ | .mref n | .dv n=>p n
 | .dp ks vs=>I.bQ p ks&&I.bQ p vs
 |_=>true
def I.bQ(p:Nat→Bool):List I→Bool
 | []=>true
 |x::xs=>x.only p&&I.bQ p xs
end
mutual
theorem lj(p:Nat→Bool):∀ x:I,x.bG=true→x.only p=true
 | .agg fs,h=>by simp only[I.bG,I.only] at *;exact mz p fs h
 | .slice _ es,h=>by simp only[I.bG,I.only] at *;exact mz p es h
 | .ref x,h=>by simp only[I.bG,I.only] at *;exact lj p x h
 | .func _ caps,h=>by simp only[I.bG,I.only] at *;exact mz p caps h
 | .iface _ v,h=>by simp only[I.bG,I.only] at *;exact lj p v h
 | .bool _,_ | .int _ _,_ | .bT _,_ | .nilp,_ | .dE,_ | .ed,_ | .any,_ | .raw _,_ | .nils _,_ | .c0 _,_=>by simp[I.only]
 | .dp ks vs,h=>by simp only[I.bG,I.only,zz1] at *;exact ⟨mz p ks h.1,mz p vs h.2⟩
 | .ptr _ _,h | .own _ _,h | .view _ _ _ _ _,h | .mref _,h | .dv _,h | .undef,h | .dx,h | .tuple _,h=>by simp[I.bG] at h
theorem mz(p:Nat→Bool):∀ xs:List I,I.cq xs=true→I.bQ p xs=true
 | [],_=>rfl
 |x::xs,h=>by
  simp only[I.cq,I.bQ,zz1] at *;exact ⟨lj p x h.1,mz p xs h.2⟩
end
mutual
theorem ao.de{w:World}{D:aX}{E E':bj}{p:Nat→Bool}(ay:∀ n,p n=true→E' n=E n):∀ (x:I) (cs:List Value),x.only p=true→ao w D E x cs→ao w D E' x cs
 | .agg fs,cs,ho,hr=>by simp only[ao,I.only] at *;exact aU.de ay fs cs ho hr
 | .bool b,cs,_,hr=>by simpa only[ao] using hr
 | .int k n,cs,_,hr=>by simpa only[ao] using hr
 | .bT s,cs,_,hr=>by simpa only[ao] using hr
 | .nilp,cs,_,hr=>by simpa only[ao] using hr
 | .dE,cs,_,hr=>by simpa only[ao] using hr
 | .ed,cs,_,hr | .any,cs,_,hr=>by simpa only[ao] using hr
 | .raw _,cs,_,hr=>by simpa only[ao] using hr
 | .nils _,cs,_,hr=>by simpa only[ao] using hr
 | .c0 _,cs,_,hr=>by simpa only[ao] using hr
 | .slice sz es,cs,ho,hr=>by
  simp only[ao,I.only] at *;obtain ⟨a,cap,U,ab,af,ar,h5⟩:=hr;refine ⟨a,cap,U,ab,af,?_,h5⟩;rcases ar with ar | ⟨b,off,cs',h6,h7,h8⟩
  ·exact .inl ar
  ·exact .inr ⟨b,off,cs',h6,h7,aU.de ay es cs' ho h8⟩
 | .ref x,cs,ho,hr=>by
  simp only[ao,I.only] at *;obtain ⟨b,off,cs',U,ab,af⟩:=hr;exact ⟨b,off,cs',U,ab,ao.de ay x cs' ho af⟩
 | .func f caps,cs,ho,hr=>by
  simp only[ao,I.only] at *;obtain ⟨vs,U,ab⟩:=hr;exact ⟨vs,U,aO.de ay caps vs ho ab⟩
 | .iface t v,cs,ho,hr=>by
  simp only[ao,I.only] at *;obtain ⟨u,cs',U,ab,af⟩:=hr;exact ⟨u,cs',U,ab,ao.de ay v cs' ho af⟩
 | .ptr n p,cs,ho,hr=>by
  simp only[ao,I.only] at *;obtain ⟨b,bh,off,U,ab⟩:=hr;exact ⟨b,bh,off,(ay n ho).trans U,ab⟩
 | .own n k,cs,ho,hr=>by
  simp only[ao,I.only] at *;obtain ⟨aP,l,U,ab⟩:=hr;exact ⟨aP,l,(ay n ho).trans U,ab⟩
 | .view n p _ _ _,cs,ho,hr=>by
  simp only[ao,I.only] at *;obtain ⟨b,bh,off,l,U,ab⟩:=hr;exact ⟨b,bh,off,l,(ay n ho).trans U,ab⟩
 | .mref n,cs,ho,hr=>by
  simp only[ao,I.only] at *;obtain ⟨b,U,ab⟩:=hr;exact ⟨b,(ay n ho).trans U,ab⟩
 | .dv n,cs,ho,hr=>by
  simp only[ao,I.only] at *;obtain ⟨b,U,ab⟩:=hr;exact ⟨b,(ay n ho).trans U,ab⟩
 | .dp ks vs,cs,ho,hr=>by
  simp only[ao,I.only,zz1] at *;obtain ⟨b,es,ck,U,ab,af,ar⟩:=hr;exact ⟨b,es,ck,U,ab,aO.de ay ks _ ho.1 af,aO.de ay vs _ ho.2 ar⟩
 | .undef,_,_,hr=>by simp only[ao] at hr
 | .dx,_,_,hr=>by simp only[ao] at hr
 | .tuple _,_,_,hr=>by simp only[ao] at hr
theorem aU.de{w:World}{D:aX}{E E':bj}{p:Nat→Bool}(ay:∀ n,p n=true→E' n=E n):∀ (xs:List I) (cs:List Value),I.bQ p xs=true→aU w D E xs cs→aU w D E' xs cs
 | [],cs,_,hr=>by simpa only[aU] using hr
 |x::xs,cs,ho,hr=>by
  simp only[aU,I.bQ,zz1] at *;obtain ⟨c1,c2,U,ab,af⟩:=hr;exact ⟨c1,c2,U,ao.de ay x c1 ho.1 ab,aU.de ay xs c2 ho.2 af⟩
theorem aO.de{w:World}{D:aX}{E E':bj}{p:Nat→Bool}(ay:∀ n,p n=true→E' n=E n):∀ (xs:List I) (vs:List Value),I.bQ p xs=true→aO w D E xs vs→aO w D E' xs vs
 | [],vs,_,hr=>by simpa only[aO] using hr
 |x::xs,vs,ho,hr=>by
  simp only[aO,I.bQ,zz1] at *;obtain ⟨v,rest,cs,U,ab,af,ar⟩:=hr;exact ⟨v,rest,cs,U,ab,ao.de ay x cs ho.1 af,aO.de ay xs rest ho.2 ar⟩
end
theorem bl.de{w:World}{D:aX}{E E':bj}{p:Nat→Bool}(ay:∀ n,p n=true→E' n=E n){x:I}{v:Value}(ho:x.only p=true)(hr:bl w D E x v):bl w D E' x v:=by
 cases x <;>simp only[bl] at * <;>first
  |exact hr
  |(obtain ⟨vs,U,ab⟩:=hr;exact ⟨vs,U,aO.de ay _ _ (by simpa[I.only] using ho) ab⟩)
  |(obtain ⟨cs,U,ab⟩:=hr;exact ⟨cs,U,ao.de ay _ _ ho ab⟩)
def ak.only(p:Nat→Bool):ak→Bool
 | .box x=>x.only p
 | .bW _ _ es=>I.bQ p es
 | .dI _=>true
 | .dJ _ _=>true
 | .bE ks vs | .it ks vs _ _=>I.bQ p ks&&I.bQ p vs
def bB:List (Nat×Nat)→Nat→Nat
 | [],n=>n
 |(a,b)::r,n=>if n=a then b else bB r n
mutual
def I.bd(ρ:Nat→Nat):I→I
 | .agg fs=>.agg (I.dh ρ fs)
 | .tuple fs=>.tuple (I.dh ρ fs)
 | .slice sz es=>.slice sz (I.dh ρ es)
 | .ref x=>.ref (x.bd ρ)
 | .func f caps=>.func f (I.dh ρ caps)
 | .iface t v=>.iface t (v.bd ρ)
 | .ptr n p=>.ptr (ρ n) p
 | .own n k=>.own (ρ n) k
 | .view n p sz lo k=>.view (ρ n) p sz lo k
 | .mref n=>.mref (ρ n)
 | .dv n=>.dv (ρ n)
 | .dp ks vs=>.dp (I.dh ρ ks) (I.dh ρ vs)
 | .undef=>.undef | .dx=>.dx | .bool b=>.bool b | .int k n=>.int k n | .bT s=>.bT s
 | .nilp=>.nilp | .dE=>.dE | .ed=>.ed | .any=>.any | .raw u=>.raw u | .nils z=>.nils z | .c0 z=>.c0 z
def I.dh(ρ:Nat→Nat):List I→List I
 | []=>[]
 |x::xs=>x.bd ρ::I.dh ρ xs
end
def ak.bd(ρ:Nat→Nat):ak→ak
 | .box x=>.box (x.bd ρ)
 | .bW T sz es=>.bW T sz (I.dh ρ es)
 | .dI x=>.dI x
 | .dJ T xs=>.dJ T xs
 | .bE ks vs=>.bE (I.dh ρ ks) (I.dh ρ vs)
 | .it ks vs left cur=>.it (I.dh ρ ks) (I.dh ρ vs) left cur
mutual
theorem rO(ρ:Nat→Nat):∀ x:I,(x.bd ρ).size=x.size
 | .agg fs=>by simp only[I.bd,I.size];exact Hu ρ fs
 | .undef | .dx | .bool _ | .int _ _ | .bT _ | .nilp | .dE | .ed | .any | .raw _ | .nils _ | .c0 _ | .slice _ _ | .tuple _ | .ref _ | .func _ _ | .iface _ _ | .ptr _ _ | .own _ _ | .view _ _ _ _ _ | .mref _ | .dv _ | .dp _ _=>by simp only[I.bd,I.size]
theorem Hu(ρ:Nat→Nat):∀ xs:List I,I.sizes (I.dh ρ xs)=I.sizes xs
 | []=>rfl
 |x::xs=>by simp only[I.dh,I.sizes,rO ρ x,Hu ρ xs]
end
mutual
theorem wg(ρ:Nat→Nat):∀ x:I,(x.bd ρ).bh=x.bh
 | .agg fs=>by simp only[I.bd,I.bh,cW.eS.injEq];exact Ht ρ fs
 | .undef | .dx | .bool _ | .int _ _ | .bT _ | .nilp | .dE | .ed | .any | .raw _ | .nils _ | .c0 _ | .slice _ _ | .tuple _ | .ref _ | .func _ _ | .iface _ _ | .ptr _ _ | .own _ _ | .view _ _ _ _ _ | .mref _ | .dv _ | .dp _ _=>by simp only[I.bd,I.bh]
theorem Ht(ρ:Nat→Nat):∀ xs:List I,I.cZ (I.dh ρ xs)=I.cZ xs
 | []=>rfl
 |x::xs=>by simp only[I.dh,I.cZ,wg ρ x,Ht ρ xs]
end
theorem abh(ρ:Nat→Nat)(x:I):(x.bd ρ).isAgg=x.isAgg:=by cases x <;>simp[I.bd,I.isAgg]
theorem qd(ρ:Nat→Nat)(xs:List I):I.dh ρ xs=xs.map (I.bd ρ):=by
 induction xs with
 |nil=>rfl
 |cons x xs ih=>simp[I.dh,ih]
theorem qb(ρ:Nat→Nat)(xs:List I):(I.dh ρ xs).length=xs.length:=by rw[qd];simp
theorem Hq(ρ:Nat→Nat)(x:I)(v:Value)(cs:List Value):bI (x.bd ρ) v cs=bI x v cs:=by simp only[bI,abh]
mutual
/-- A value,its names put for others that stand for the same. -/
theorem ao.bd{w:World}{D:aX}{E E':bj}{p:Nat→Bool}{ρ:Nat→Nat}(ay:∀ n,p n=true→E' (ρ n)=E n):∀ (x:I) (cs:List Value),x.only p=true→(ao w D E' (x.bd ρ) cs↔ao w D E x cs)
 | .agg fs,cs,ho=>by simp only[ao,I.bd,I.only] at *;exact aU.bd ay fs cs ho
 | .bool b,cs,_ | .int k n,cs,_ | .bT s,cs,_ | .nilp,cs,_ | .dE,cs,_ | .ed,cs,_ | .any,cs,_ | .raw _,cs,_ | .nils _,cs,_ | .c0 _,cs,_ | .undef,cs,_ | .dx,cs,_ | .tuple _,cs,_=>by simp only[ao,I.bd]
 | .slice sz es,cs,ho=>by
  simp only[ao,I.bd,I.only,qb] at *;have e1:(I.dh ρ es=[])↔es=[]:=by rw[←List.length_eq_zero_iff,qb,List.length_eq_zero_iff]
  have e2:(∀ e∈I.dh ρ es,e.size=sz)↔∀ e∈es,e.size=sz:=by
   rw[qd];constructor
   ·intro h e he;rw[←rO ρ e];exact h _ (zy7.2 ⟨e,he,rfl⟩)
   ·intro h e he;obtain ⟨e',he',rfl⟩:=zy7.1 he;rw[rO];exact h _ he'
  simp only[e1,e2];constructor
  ·rintro ⟨a,cap,U,ab,af,ar,h5⟩;refine ⟨a,cap,U,ab,af,?_,h5⟩;rcases ar with ar | ⟨b,off,cs',h6,h7,h8⟩
   ·exact .inl ar
   ·exact .inr ⟨b,off,cs',h6,h7,(aU.bd ay es cs' ho).1 h8⟩
  ·rintro ⟨a,cap,U,ab,af,ar,h5⟩;refine ⟨a,cap,U,ab,af,?_,h5⟩;rcases ar with ar | ⟨b,off,cs',h6,h7,h8⟩
   ·exact .inl ar
   ·exact .inr ⟨b,off,cs',h6,h7,(aU.bd ay es cs' ho).2 h8⟩
 | .ref x,cs,ho=>by
  simp only[ao,I.bd,I.only] at *;constructor
  ·rintro ⟨b,off,cs',U,ab,af⟩;exact ⟨b,off,cs',U,ab,(ao.bd ay x cs' ho).1 af⟩
  ·rintro ⟨b,off,cs',U,ab,af⟩;exact ⟨b,off,cs',U,ab,(ao.bd ay x cs' ho).2 af⟩
 | .func f caps,cs,ho=>by
  simp only[ao,I.bd,I.only] at *;constructor
  ·rintro ⟨vs,U,ab⟩;exact ⟨vs,U,(aO.bd ay caps vs ho).1 ab⟩
  ·rintro ⟨vs,U,ab⟩;exact ⟨vs,U,(aO.bd ay caps vs ho).2 ab⟩
 | .iface t v,cs,ho=>by
  simp only[ao,I.bd,I.only,Hq] at *;constructor
  ·rintro ⟨u,cs',U,ab,af⟩;exact ⟨u,cs',U,ab,(ao.bd ay v cs' ho).1 af⟩
  ·rintro ⟨u,cs',U,ab,af⟩;exact ⟨u,cs',U,ab,(ao.bd ay v cs' ho).2 af⟩
 | .ptr n p,cs,ho=>by simp only[ao,I.bd,I.only] at *;rw[ay n ho]
 | .own n k,cs,ho=>by simp only[ao,I.bd,I.only] at *;rw[ay n ho]
 | .view n p _ _ _,cs,ho=>by simp only[ao,I.bd,I.only] at *;rw[ay n ho]
 | .mref n,cs,ho=>by simp only[ao,I.bd,I.only] at *;rw[ay n ho]
 | .dv n,cs,ho=>by simp only[ao,I.bd,I.only] at *;rw[ay n ho]
 | .dp ks vs,cs,ho=>by
  simp only[ao,I.bd,I.only,zz1] at *;constructor
  ·rintro ⟨b,es,ck,U,ab,af,ar⟩;exact ⟨b,es,ck,U,ab,(aO.bd ay ks _ ho.1).1 af,(aO.bd ay vs _ ho.2).1 ar⟩
  ·rintro ⟨b,es,ck,U,ab,af,ar⟩;exact ⟨b,es,ck,U,ab,(aO.bd ay ks _ ho.1).2 af,(aO.bd ay vs _ ho.2).2 ar⟩
theorem aU.bd{w:World}{D:aX}{E E':bj}{p:Nat→Bool}{ρ:Nat→Nat}(ay:∀ n,p n=true→E' (ρ n)=E n):∀ (xs:List I) (cs:List Value),I.bQ p xs=true→(aU w D E' (I.dh ρ xs) cs↔aU w D E xs cs)
 | [],cs,_=>by simp only[aU,I.dh]
 |x::xs,cs,ho=>by
  simp only[aU,I.dh,I.bQ,zz1] at *;constructor
  ·rintro ⟨c1,c2,U,ab,af⟩;exact ⟨c1,c2,U,(ao.bd ay x c1 ho.1).1 ab,(aU.bd ay xs c2 ho.2).1 af⟩
  ·rintro ⟨c1,c2,U,ab,af⟩;exact ⟨c1,c2,U,(ao.bd ay x c1 ho.1).2 ab,(aU.bd ay xs c2 ho.2).2 af⟩
theorem aO.bd{w:World}{D:aX}{E E':bj}{p:Nat→Bool}{ρ:Nat→Nat}(ay:∀ n,p n=true→E' (ρ n)=E n):∀ (xs:List I) (vs:List Value),I.bQ p xs=true→(aO w D E' (I.dh ρ xs) vs↔aO w D E xs vs)
 | [],vs,_=>by simp only[aO,I.dh]
 |x::xs,vs,ho=>by
  simp only[aO,I.dh,I.bQ,zz1,Hq] at *;constructor
  ·rintro ⟨v,rest,cs,U,ab,af,ar⟩;exact ⟨v,rest,cs,U,ab,(ao.bd ay x cs ho.1).1 af,(aO.bd ay xs rest ho.2).1 ar⟩
  ·rintro ⟨v,rest,cs,U,ab,af,ar⟩;exact ⟨v,rest,cs,U,ab,(ao.bd ay x cs ho.1).2 af,(aO.bd ay xs rest ho.2).2 ar⟩
end
theorem bl.bd{w:World}{D:aX}{E E':bj}{p:Nat→Bool}{ρ:Nat→Nat}(ay:∀ n,p n=true→E' (ρ n)=E n){x:I}{v:Value}(ho:x.only p=true):bl w D E' (x.bd ρ) v↔bl w D E x v:=by
 cases x <;>first
  |(simp only[bl,I.bd];done)
  |(simp only[bl,I.bd,I.only] at ho ⊢
    constructor
    ·rintro ⟨vs,U,ab⟩;exact ⟨vs,U,(aO.bd ay _ _ ho).1 ab⟩
    ·rintro ⟨vs,U,ab⟩;exact ⟨vs,U,(aO.bd ay _ _ ho).2 ab⟩)
  |(have key:=fun x cs=>ao.bd (w:=w) (D:=D) ay x cs
    refine exists_congr fun cs=>and_congr ?_ ?_
    ·first | exact Iff.rfl | simp only[bI,I.bd,I.isAgg]
    ·first | exact key _ cs ho | (have h:=key _ cs ho;simpa only[I.bd] using h))
mutual
/-- Values that read no memory: but they may name objects. -/
def I.dS:I→Bool
 | .agg fs | .tuple fs=>I.jY fs
 | .func _ caps=>I.jY caps
 | .iface _ v=>v.dS
 | .slice _ es=>es.isEmpty
 | .ref _ | .dp _ _=>false
 |_=>true
def I.jY:List I→Bool
 | []=>true
 |x::xs=>x.dS&&I.jY xs
end
def ak.dS:ak→Bool
 | .box x=>x.dS
 | .bW _ _ es=>I.jY es
 | .dJ _ _=>true
 | .dI _=>true
 | .bE ks vs=>I.jY ks&&I.jY vs
 | .it .. =>false
mutual
theorem ao.dS{w w':World}{D D':aX}{E:bj} : ∀ (x:I) (cs:List Value),x.dS=true→ao w D E x cs→ao w' D' E x cs
 | .agg fs,cs,hf,hr=>by simp only[ao,I.dS] at *;exact aU.dS fs cs hf hr
 | .bool b,cs,_,hr | .int k n,cs,_,hr | .bT s,cs,_,hr | .nilp,cs,_,hr | .dE,cs,_,hr | .ed,cs,_,hr | .any,cs,_,hr | .raw _,cs,_,hr | .nils _,cs,_,hr | .c0 _,cs,_,hr
 | .ptr _ _,cs,_,hr | .own _ _,cs,_,hr | .view _ _ _ _ _,cs,_,hr | .mref _,cs,_,hr | .dv _,cs,_,hr=>by simpa only[ao] using hr
 | .func f caps,cs,hf,hr=>by
  simp only[ao,I.dS] at *;obtain ⟨vs,U,ab⟩:=hr;exact ⟨vs,U,aO.dS caps vs hf ab⟩
 | .iface t v,cs,hf,hr=>by
  simp only[ao,I.dS] at *;obtain ⟨u,cs',U,ab,af⟩:=hr;exact ⟨u,cs',U,ab,ao.dS v cs' hf af⟩
 | .slice sz es,cs,hf,hr=>by
  simp only[ao,I.dS,List.isEmpty_iff] at *;subst hf;obtain ⟨a,cap,U,ab,af,_,h5⟩:=hr;exact ⟨a,cap,U,ab,af,.inl rfl,h5⟩
 | .ref _,_,hf,_ | .dp _ _,_,hf,_=>by simp[I.dS] at hf
 | .undef,_,_,hr | .dx,_,_,hr | .tuple _,_,_,hr=>by simp only[ao] at hr
theorem aU.dS{w w':World}{D D':aX}{E:bj} : ∀ (xs:List I) (cs:List Value),I.jY xs=true→aU w D E xs cs→aU w' D' E xs cs
 | [],cs,_,hr=>by simpa only[aU] using hr
 |x::xs,cs,hf,hr=>by
  simp only[aU,I.jY,zz1] at *;obtain ⟨c1,c2,U,ab,af⟩:=hr;exact ⟨c1,c2,U,ao.dS x c1 hf.1 ab,aU.dS xs c2 hf.2 af⟩
theorem aO.dS{w w':World}{D D':aX}{E:bj} : ∀ (xs:List I) (vs:List Value),I.jY xs=true→aO w D E xs vs→aO w' D' E xs vs
 | [],vs,_,hr=>by simpa only[aO] using hr
 |x::xs,vs,hf,hr=>by
  simp only[aO,I.jY,zz1] at *;obtain ⟨v,rest,cs,U,ab,af,ar⟩:=hr;exact ⟨v,rest,cs,U,ab,ao.dS x cs hf.1 af,aO.dS xs rest hf.2 ar⟩
end
theorem bl.dS{w w':World}{D D':aX}{E:bj}{x:I}{v:Value}(hf:x.dS=true)(hr:bl w D E x v):bl w' D' E x v:=by
 cases x <;>simp only[bl] at * <;>first
  |exact hr
  |(obtain ⟨vs,U,ab⟩:=hr;exact ⟨vs,U,aO.dS _ _ (by simpa[I.dS] using hf) ab⟩)
  |(obtain ⟨cs,U,ab⟩:=hr;exact ⟨cs,U,ao.dS _ _ hf ab⟩)
def dc(ρ:List (Nat×Nat))(os:List (Nat×ak)):List (Nat×ak):=os.map fun q=>(bB ρ q.1,q.2.bd (bB ρ))
def pre(ρ:List (Nat×Nat))(os:List (Nat×ak))(n:Nat):Option Nat:=(os.find? fun q=>bB ρ q.1==n).map (·.1)
theorem yq{os:List (Nat×ak)}{m:Nat} : av os m=true↔∃ q∈os,q.1=m:=by
 induction os with
 |nil=>simp[av,aj]
 |cons q os ih =>
  obtain ⟨k,v⟩:=q;simp only[av,aj] at *;by_cases h:m=k
  ·subst h;simp
  ·simp only[if_neg h,ih,zw7,Prod.exists,exists_and_right,exists_eq_right];constructor
   ·rintro ⟨a,b⟩;exact ⟨a,.inr b⟩
   ·rintro ⟨a,b | b⟩
    ·cases b;exact absurd rfl h
    ·exact ⟨a,b⟩
theorem jG{ρ:List (Nat×Nat)}{os:List (Nat×ak)}{n m:Nat}(h:pre ρ os n=some m):av os m=true∧bB ρ m=n:=by
 simp only[pre,zz0] at h;obtain ⟨q,hq,rfl⟩:=h;exact ⟨yq.2 ⟨q,List.mem_of_find?_eq_some hq,rfl⟩,by simpa using List.find?_some hq⟩
theorem vW{ρ:List (Nat×Nat)}{os:List (Nat×ak)}{n m:Nat}(h:pre ρ os n=none)(hm:av os m=true):bB ρ m≠n:=by
 simp only[pre,Option.map_eq_none_iff,List.find?_eq_none] at h;obtain ⟨q,hq,rfl⟩:=yq.1 hm;simpa using h q hq
theorem rD(ρ:List (Nat×Nat))(os os0:List (Nat×ak))(n:Nat):aj (dc ρ os++os0) n=match pre ρ os n with
  |some m=>(aj os m).map (ak.bd (bB ρ))
  |none=>aj os0 n:=by
 induction os with
 |nil=>simp[dc,pre]
 |cons q os ih =>
  obtain ⟨k,v⟩:=q;simp only[dc,zz7,zz3,aj,pre,List.find?_cons] at *;by_cases h:bB ρ k=n
  ·subst h;simp
  ·rw[if_neg (Ne.symm h)];have hb:(bB ρ k==n)=false:=by simpa using h
   rw[hb,ih];simp only;cases hf:os.find? (fun q=>bB ρ q.1==n) with
   |none=>rfl
   |some q =>
    simp only[zy6];have hq:=List.find?_some hf;have hne:q.1≠k:=fun e=>h (by rw[←e];simpa using hq);rw[if_neg hne]
def ay(ρ:List (Nat×Nat))(os:List (Nat×ak))(E:bj):bj:=fun n=>if av os n then E (bB ρ n) else none
structure hd (ρ:List (Nat×Nat)) (os os0:List (Nat×ak)):Prop where
 gp:∀ m x,aj os m=some x→aj os0 (bB ρ m)=some (x.bd (bB ρ))∧x.only (av os)=true∧x.en=true
 inj:∀ m m',av os m=true→av os m'=true→bB ρ m=bB ρ m'→m=m'
structure gJ (aR:Bool) (ρ:List (Nat×Nat)) (os os0:List (Nat×ak)) (r:I) (os':List (Nat×ak)):Prop where
 gp:∀ m x,aj os' m=some x→x.only (av os')=true∧x.en=true∧(aR=true→x.dS=true)
 inj:∀ m m',av os' m=true→av os' m'=true→bB ρ m=bB ρ m'→m=m'
 old:∀ m,av os m=true→av os' m=true
 kA:∀ m,av os' m=true→av os m=false→aj os0 (bB ρ m)=none∧bB ρ m<1000000
 zE:r.only (av os')=true∧(aR=true→r.dS=true)
section
variable {c:c4} {a:Act} {w:World} {D:aX} {E:bj} {ts:List (Nat×I)} {os0 os:List (Nat×ak)} {ρ:List (Nat×Nat)}
theorem bg.given(hs:bg c (au ts os0) a w D E)(hg:hd ρ os os0){m:Nat}(hm:av os m=true):∃ x e,aj os m=some x∧ay ρ os E m=some e∧E (bB ρ m)=some e∧cS (fun _=>True) w D (ay ρ os E) m (some x) ∧
  ∀ b,e.aP=some b→c.fo b∧(∃ o,w.heap[b]?=some o∧y5 o=true)∧b<w.heap.size∧(e.en=true→∀ o,¬ D b o):=by
 cases hx:aj os m with
 |none=>simp[av,hx] at hm
 |some x =>
  obtain ⟨U,ab,af⟩:=hg.gp m x hx;have ho:=hs.bP (bB ρ m);simp only[au] at ho;rw[U] at ho;have hEm:ay ρ os E m=E (bB ρ m):=by simp only[ay,hm,if_true]
  have hin:∀ n,av os n=true→E (bB ρ n)=ay ρ os E n:=fun n hn=>by simp only[ay,hn,if_true]
  cases x with
  |bW T sz es =>
   obtain ⟨aP,k1,k2,k3⟩:=ho;rw[qb] at k1;have h2':I.bQ (av os) es=true:=ab;have k2':∀ e∈es,e.size=sz:=fun e he=>by rw[←rO (bB ρ) e];exact k2 _ (by rw[qd];exact zy7.2 ⟨e,he,rfl⟩)
   refine ⟨_,_,rfl,hEm.trans k1,k1,⟨aP,hEm.trans k1,k2',?_⟩,fun b hb =>?_⟩
   ·cases aP with
    |none=>simp only[qd,List.map_eq_nil_iff] at k3;exact k3
    |some bc =>
     obtain ⟨b,cap⟩:=bc;obtain ⟨cs,pr,rest,q1,q2,q3,q4,q5,q6,q7,q8⟩:=k3;rw[qb] at q6;exact ⟨cs,pr,rest,trivial,q2,q3,(aU.bd (p:=av os) hin es _ h2').1 q4,q5,q6,q7,q8⟩
   ·cases aP with
    |none=>cases hb
    |some bc =>
     obtain ⟨b',cap⟩:=bc;cases hb;obtain ⟨cs,pr,rest,q1,q2,_⟩:=k3;exact ⟨q1,⟨_,q2,rfl⟩,gu q2,fun h=>by cases h⟩
  |box y =>
   obtain ⟨b,cs,T,k1,k2,k3,k4,k5⟩:=ho;rw[wg] at k1;refine ⟨_,_,rfl,hEm.trans k1,k1,⟨b,cs,T,hEm.trans k1,trivial,k3,?_,k5⟩,fun b' hb =>?_⟩
   ·exact (ao.bd (p:=av os) hin y _ (by simpa[ak.only] using ab)).1 k4
   ·cases hb;exact ⟨k2,⟨_,k3,rfl⟩,gu k3,fun _=>k5⟩
  |dI o =>
   obtain ⟨b,k1,k2,k3,k4,k5⟩:=ho;exact ⟨_,_,rfl,hEm.trans k1,k1,⟨b,hEm.trans k1,trivial,k3,k4,k5⟩,fun b' hb=>by cases hb;exact ⟨k2,⟨_,k3,ZI k4⟩,gu k3,fun _=>k5⟩⟩
  |bE ks vs =>
   obtain ⟨b,es,ck,k1,k2,k3,k4,k5,k6,k7⟩:=ho;simp only[ak.only,zz1] at ab;exact ⟨_,_,rfl,hEm.trans k1,k1,⟨b,es,ck,hEm.trans k1,trivial,k3,k4,(aO.bd (p:=av os) hin ks _ ab.1).1 k5,(aO.bd (p:=av os) hin vs _ ab.2).1 k6,k7⟩,
    fun b' hb=>by cases hb;exact ⟨k2,⟨_,k3,rfl⟩,gu k3,fun _=>k7⟩⟩
  |it ks vs left cur=>cases af
  |dJ T xs =>
   obtain ⟨aP,k1,k2,k3⟩:=ho;refine ⟨_,_,rfl,hEm.trans k1,k1,⟨aP,hEm.trans k1,k2,?_⟩,fun b hb =>?_⟩
   ·cases aP with
    |none=>exact k3
    |some bc =>
     obtain ⟨b,cap⟩:=bc;obtain ⟨cs,r,q1,q2⟩:=k3;exact ⟨cs,r,trivial,q2⟩
   ·cases aP with
    |none=>cases hb
    |some bc =>
     obtain ⟨b',cap⟩:=bc;cases hb;obtain ⟨cs,r,q1,q2,_⟩:=k3;exact ⟨q1,⟨_,q2,rfl⟩,gu q2,fun h=>by cases h⟩
theorem bg.vc(hs:bg c (au ts os0) a w D E)(hg:hd ρ os os0){b:Nat}(hb:cI (ay ρ os E) b):∃ m e,av os m=true∧E (bB ρ m)=some e∧e.aP=some b∧c.fo b∧(∃ o,w.heap[b]?=some o∧y5 o=true)∧b<w.heap.size:=by
 obtain ⟨m,e,U,ab⟩:=hb;by_cases hm:av os m=true
 ·obtain ⟨x,e',k1,k2,k3,k4,k5⟩:=hs.given hg hm;rw[k2,u8] at U;subst U;obtain ⟨q1,q2,q3,_⟩:=k5 b ab;exact ⟨m,_,hm,k3,ab,q1,q2,q3⟩
 ·simp[ay,hm] at U
theorem bg.Eu(hs:bg c (au ts os0) a w D E)(hg:hd ρ os os0){D1:aX}(hD:∀ b o,D b o→D1 b o)(hown:∀ b o,D1 b o→cI (ay ρ os E) b→D b o):kO (fun _=>True) w D1 (ay ρ os E) (aj os):=by
 refine ⟨fun n =>?_,fun n m e e' b U ab af ar =>?_⟩
 ·cases hx:aj os n with
  |none=>simp[cS,ay,av,hx]
  |some x =>
   have hm:av os n=true:=by simp[av,hx]
   obtain ⟨y,e,k1,k2,k3,k4,k5⟩:=hs.given hg hm;rw[hx,u8] at k1;subst k1;refine k4.later (E':=ay ρ os E) ⟨hD,fun _ _ _ _ h=>h,fun _ _ _ h=>h,fun _ aP l h=>⟨aP,l,h,zz9 _,fun _=>rfl⟩,fun _ _ h=>h,fun _ _ h=>h,fun _ _ _ _ h=>h⟩ rfl fun e' b' he hb'=>⟨rfl,fun o ho =>?_⟩
   exact hown b' o ho ⟨n,e',he,hb'⟩
 ·have hn:av os n=true:=by
   by_cases h:av os n=true;· exact h
   ·simp[ay,h] at U
  have hm:av os m=true:=by
    by_cases h:av os m=true;· exact h
    ·simp[ay,h] at ab
  simp only[ay,hn,hm,if_true] at U ab;exact hg.inj n m hn hm (hs.cQ _ _ e e' b U ab af ar)
theorem bg.gL(hs:bg c (au ts os0) a w D E)(hg:hd ρ os os0){aR:Bool}{D1:aX}(hD:∀ b o,D b o→D1 b o)(hbx:aR=false→∀ b o,D1 b o→D b o){w':World}{D':aX}{E':bj}{v:Value}{r:I}{os':List (Nat×ak)}
  (hb:gJ aR ρ os os0 r os') (hr:bl w' D' E' r v) (hh:kO (fun b=>w.heap.size≤b∨cI (ay ρ os E) b) w' D' E' (aj os')) (hk:fm (fun b=>w.heap.size≤b∨cI (ay ρ os E) b) w w')
  (hlive:∀ b o,D' b o→b<w'.heap.size) (hup:∀ b o,D1 b o→D' b o) (hst:iE w D1 w') (hold:∀ b o,D' b o→b<w.heap.size→¬ cI (ay ρ os E) b→D1 b o) (hbox:∀ n e,ay ρ os E n=some e→av os' n=true→∃ e',E' n=some e'∧e.le e') :
  ∃ D2 E2,bg c (au ts (dc ρ os'++os0)) a w' D2 E2∧bl w' D2 E2 (r.bd (bB ρ)) v∧∀ m e,ay ρ os E m=some e→av os' m=true→∃ e',E2 (bB ρ m)=some e'∧e.le e':=by
 obtain ⟨M1,hM1⟩:∃ M1:Nat→Prop,M1=fun b=>w.heap.size≤b∨cI (ay ρ os E) b:=⟨_,rfl⟩
 rw[←hM1] at hh hk;obtain ⟨D2,hD2⟩:∃ D2:aX,D2=fun b o=>D b o∨(M1 b∧D' b o):=⟨_,rfl⟩
 obtain ⟨E2,hE2⟩:∃ E2:bj,E2=fun n=>match pre ρ os' n with | some m=>E' m | none=>E n:=⟨_,rfl⟩
 have kZ:∀ b,M1 b→c.fo b:=fun b hb'=>by
  rw[hM1] at hb';rcases hb' with h | h
  ·exact .inl (zv9 hs.dK.size h)
  ·obtain ⟨m,e,_,_,_,af,_⟩:=hs.vc hg h;exact af
 have upD:∀ b o,D b o→D' b o:=fun b o ah=>hup b o (hD b o ah);have E2m:∀ m,av os' m=true→E2 (bB ρ m)=E' m:=fun m hm=>by
  rw[hE2];simp only;cases hp:pre ρ os' (bB ρ m) with
  |none=>exact absurd rfl (vW hp hm)
  |some m' =>
   obtain ⟨U,ab⟩:=jG hp;rw[hb.inj m' m U hm ab]
 have E2o:∀ n,pre ρ os' n=none→E2 n=E n:=fun n hn=>by rw[hE2];simp only[hn]
 -- a name that has a new meaning: one that was handed over,or one that was free
 have cas:∀ n m,pre ρ os' n=some m→(av os m=true∧∃ e e',E n=some e∧E' m=some e'∧e.le e')∨(av os m=false∧E n=none∧c.E0 n=none):=fun n m hp=>by
  obtain ⟨U,ab⟩:=jG hp;cases hm:av os m with
  |true =>
   obtain ⟨y,e,k1,k2,k3,_⟩:=hs.given hg hm;rw[ab] at k3;obtain ⟨e',q1,q2⟩:=hbox m e k2 U;exact .inl ⟨rfl,e,e',k3,q1,q2⟩
  |false =>
   obtain ⟨k1,k2⟩:=hb.kA m U hm;rw[ab] at k1 k2;have ho:=hs.bP n;simp only[au,k1] at ho;exact .inr ⟨rfl,ho,hs.lK (.inr k2)⟩
 have hl:ec w D E w' D2 E2:=by
  have eD:∀ n e,E n=some e→∃ e',E2 n=some e'∧e.le e':=fun n e he=>by
   cases hp:pre ρ os' n with
   |none=>exact ⟨e,by rw[E2o n hp];exact he,.refl e⟩
   |some m =>
    rw[hE2];simp only[hp];rcases cas n m hp with ⟨_,e1,e2,k1,k2,k3⟩ | ⟨_,k1,_⟩
    ·rw[he] at k1;cases k1;exact ⟨e2,k2,k3⟩
    ·rw[he] at k1;cases k1
  have keepf:∀ n e,E n=some e→e.en=true→E2 n=some e:=fun n e he hf=>by
   obtain ⟨e',k1,k2⟩:=eD n e he;rw[k1,k2.eq hf]
  refine ⟨fun b o h=>by rw[hD2];exact .inl h,fun b o v' ah hv=>hst.cell b o v' (hD b o ah) hv,fun n b bh he=>keepf n _ he rfl,fun n aP l he =>?_,fun n b he=>keepf n _ he rfl,fun n b he=>keepf n _ he rfl,fun b es ck ah hm=>hst.j0 b es ck (hD b 0 ah) hm⟩;obtain ⟨e',k1,k2⟩:=eD n _ he;rcases k2 with rfl | ⟨_,_,blk',l',e,rfl,k3,k4⟩
  ·exact ⟨aP,l,k1,zz9 _,fun _=>rfl⟩
  ·cases e;exact ⟨blk',l',k1,k3,k4⟩
 -- blocks of names that were not handed over
 have other:∀ n e b,pre ρ os' n=none→E n=some e→e.aP=some b→¬ M1 b:=fun n e b hp he hb' hm=>by
  rw[hM1] at hm;rcases hm with h | h
  ·exact absurd (hs.gN he hb') (by omega)
  ·obtain ⟨m,e',U,ab,af,_⟩:=hs.vc hg h;have:=hs.cQ n (bB ρ m) e _ b he ab hb' af;exact vW hp (hb.old m U) this.symm
 have toD2:∀ {x:I} {cs:List Value},(aR=true→x.dS=true)→ao w' D' E2 x cs→ao w' D2 E2 x cs:=fun {x cs} hx h=>by
  cases hbb:aR with
  |true=>exact ao.dS x cs (hx hbb) h
  |false =>
   refine ao.later (E:=E2) ⟨fun b o ah =>?_,fun _ _ _ _ h=>h,fun _ _ _ h=>h,fun _ aP l h=>⟨aP,l,h,zz9 _,fun _=>rfl⟩,fun _ _ h=>h,fun _ _ h=>h,fun _ _ _ _ h=>h⟩ x cs h;rw[hD2];by_cases hm:M1 b
   ·exact .inr ⟨hm,ah⟩
   ·rw[hM1] at hm;exact .inl (hbx hbb b o (hold b o ah (Nat.lt_of_not_le fun h=>hm (.inl h)) fun h=>hm (.inr h)))
 have toD2c:∀ {xs:List I} {cs:List Value},I.bQ (av os') xs=true→(aR=true→I.jY xs=true)→aU w' D' E' xs cs→aU w' D2 E2 (I.dh (bB ρ) xs) cs:=fun {xs cs} ho hx h=>by
  cases hbb:aR with
  |true=>exact (aU.bd (w:=w') (D:=D2) (p:=av os') (ρ:=bB ρ) (E:=E') (E':=E2) (fun n hn=>E2m n hn) xs cs ho).2 (aU.dS xs cs (hx hbb) h)
  |false =>
   have ab:=(aU.bd (w:=w') (D:=D') (p:=av os') (ρ:=bB ρ) (E:=E') (E':=E2) (fun n hn=>E2m n hn) xs cs ho).2 h;refine aU.later (E:=E2) ⟨fun b o ah =>?_,fun _ _ _ _ h=>h,fun _ _ _ h=>h,fun _ aP l h=>⟨aP,l,h,zz9 _,fun _=>rfl⟩,fun _ _ h=>h,fun _ _ h=>h,fun _ _ _ _ h=>h⟩ _ cs ab;rw[hD2];by_cases hm:M1 b
   ·exact .inr ⟨hm,ah⟩
   ·rw[hM1] at hm;exact .inl (hbx hbb b o (hold b o ah (Nat.lt_of_not_le fun h=>hm (.inl h)) fun h=>hm (.inr h)))
 have toD2s:∀ {xs:List I} {cs:List Value},I.bQ (av os') xs=true→(aR=true→I.jY xs=true)→aO w' D' E' xs cs→aO w' D2 E2 (I.dh (bB ρ) xs) cs:=fun {xs cs} ho hx h=>by
  cases hbb:aR with
  |true=>exact (aO.bd (w:=w') (D:=D2) (p:=av os') (ρ:=bB ρ) (E:=E') (E':=E2) (fun n hn=>E2m n hn) xs cs ho).2 (aO.dS xs cs (hx hbb) h)
  |false =>
   have ab:=(aO.bd (w:=w') (D:=D') (p:=av os') (ρ:=bB ρ) (E:=E') (E':=E2) (fun n hn=>E2m n hn) xs cs ho).2 h;refine aO.later (E:=E2) ⟨fun b o ah =>?_,fun _ _ _ _ h=>h,fun _ _ _ h=>h,fun _ aP l h=>⟨aP,l,h,zz9 _,fun _=>rfl⟩,fun _ _ h=>h,fun _ _ h=>h,fun _ _ _ _ h=>h⟩ _ cs ab;rw[hD2];by_cases hm:M1 b
   ·exact .inr ⟨hm,ah⟩
   ·rw[hM1] at hm;exact .inl (hbx hbb b o (hold b o ah (Nat.lt_of_not_le fun h=>hm (.inl h)) fun h=>hm (.inr h)))
 refine ⟨D2,E2,⟨hs.sz,hs.eC.mono fun B _ hB =>?_,fun t=>bl.later hl (hs.dO t),hs.dK.trans ⟨hk.os,hk.tape,hk.output,hk.size,fun k hk'=>hk.block k fun h=>hk' (kZ k h)⟩,fun b o ah hm =>?_,fun b o ah =>?_,fun n =>?_,?_,fun n e hn =>?_,hs.eL,
  fun b o ah=>hl.c6 b o (hs.cT b o ah),hs.eY,hs.l3 hl⟩,?_,fun m e k1 k3=>by rw[E2m m k3];exact hbox m e k1 k3⟩
 ·refine (hk.block B fun hm =>?_).trans hB;rw[hM1] at hm;rcases hm with h | h
  ·exact absurd (zx1.1 hB).1 (by omega)
  ·obtain ⟨m,e,_,_,_,_,⟨o,ar,h5⟩,_⟩:=hs.vc hg h;rw[hB] at ar;cases ar;cases h5
 ·rw[hD2] at ah;rcases ah with ah | ⟨U,_⟩
  ·exact hs.c6 b o ah hm
  ·exact absurd (kZ b U) hm
 ·rw[hD2] at ah;rcases ah with ah | ⟨_,U⟩
  ·exact Nat.lt_of_lt_of_le (hs.aK b o ah) hk.size
  ·exact hlive b o U
 ·simp only[au,rD];cases hp:pre ρ os' n with
  |none =>
   simp only;refine (hs.bP n).later hl (E2o n hp) fun e b he hb'=>⟨hk.block b (other n e b hp he hb'),fun o ho =>?_⟩
   rw[hD2] at ho;rcases ho with ho | ⟨U,_⟩
   ·exact ho
   ·exact absurd U (other n e b hp he hb')
  |some m =>
   simp only;obtain ⟨U,ab⟩:=jG hp;cases hx:aj os' m with
   |none=>simp[av,hx] at U
   |some x =>
    obtain ⟨k1,kf,k2⟩:=hb.gp m x hx;have ho:=hh.bP m;rw[hx] at ho;have noD:∀ b,(∀ o,¬ D' b o)→∀ o,¬ D2 b o:=fun b hno o ho=>by
     rw[hD2] at ho;rcases ho with ho | ⟨_,ho⟩
     ·exact hno o (upD b o ho)
     ·exact hno o ho
    cases x with
    |bW T sz es =>
     obtain ⟨aP,q1,q2,q3⟩:=ho;simp only[zy6,ak.bd,cS,qb];refine ⟨aP,by rw[←ab,E2m m U];exact q1,fun e he =>?_,?_⟩
     ·rw[qd] at he;obtain ⟨e',he',rfl⟩:=zy7.1 he;rw[rO];exact q2 e' he'
     ·cases aP with
      |none=>simp only at q3 ⊢;rw[q3];rfl
      |some bc =>
       obtain ⟨b,cap⟩:=bc;obtain ⟨cs,pr,rest,g1,g2,g3,g4,g5,g6,g7,g8⟩:=q3;refine ⟨cs,pr,rest,kZ b g1,g2,g3,toD2c (by simpa[ak.only] using k1) (fun h=>by simpa[ak.dS] using k2 h) g4,g5,g6,g7,fun o ho =>?_⟩;rw[hD2] at ho;rcases ho with ho | ⟨_,ho⟩
       ·exact g8 o (upD b o ho)
       ·exact g8 o ho
    |dJ T xs =>
     obtain ⟨aP,q1,q2,q3⟩:=ho;simp only[zy6,ak.bd,cS];refine ⟨aP,by rw[←ab,E2m m U];exact q1,q2,?_⟩;cases aP with
     |none=>exact q3
     |some bc =>
      obtain ⟨b,cap⟩:=bc;obtain ⟨cs,r,g1,g2,g3,g4,g5,g6,g7⟩:=q3;exact ⟨cs,r,kZ b g1,g2,g3,g4,g5,g6,noD b g7⟩
    |dI x =>
     obtain ⟨b,q1,q2,q3,q4,q5⟩:=ho;simp only[zy6,ak.bd,cS];exact ⟨b,by rw[←ab,E2m m U];exact q1,kZ b q2,q3,q4,noD b q5⟩
    |it ks vs left cur=>cases kf
    |bE ks vs =>
     obtain ⟨b,es,ck,q1,q2,q3,q4,q5,q6,q7⟩:=ho;simp only[zy6,ak.bd,cS];simp only[ak.only,zz1] at k1;simp only[ak.dS,zz1] at k2;exact ⟨b,es,ck,by rw[←ab,E2m m U];exact q1,kZ b q2,q3,q4,toD2s k1.1 (fun h=>(k2 h).1) q5,toD2s k1.2 (fun h=>(k2 h).2) q6,noD b q7⟩
    |box y =>
     obtain ⟨b,cs,T,q1,q2,q3,q4,q5⟩:=ho;simp only[zy6,ak.bd,cS];refine ⟨b,cs,T,by rw[wg,←ab,E2m m U];exact q1,kZ b q2,q3,?_,noD b q5⟩;have af:=(ao.bd (w:=w') (D:=D') (p:=av os') (ρ:=bB ρ) (E:=E') (E':=E2) (fun n hn=>E2m n hn) y cs.toList (by simpa[ak.only] using k1)).2 q4;cases hbb:aR with
     |true =>
      have ar:ao w' D2 E' y cs.toList:=ao.dS y _ (k2 hbb) q4;exact (ao.bd (w:=w') (D:=D2) (p:=av os') (ρ:=bB ρ) (E:=E') (E':=E2) (fun n hn=>E2m n hn) y cs.toList (by simpa[ak.only] using k1)).2 ar
     |false=>exact toD2 (fun h=>by rw[hbb] at h;cases h) af
 ·intro n m e e' b U ab af ar;have blk':∀ n m e,pre ρ os' n=some m→E2 n=some e→e.aP=some b→M1 b∧E' m=some e:=fun n m e hp he hb'=>by
   obtain ⟨k1,k2⟩:=jG hp;rw[←k2,E2m m k1] at he;cases hx:aj os' m with
   |none=>simp[av,hx] at k1
   |some x =>
    obtain ⟨_,kf,_⟩:=hb.gp m x hx;have ho:=hh.bP m;rw[hx] at ho;cases x with
    |bW T sz es =>
     obtain ⟨aP,q1,q2,q3⟩:=ho;rw[q1,u8] at he;subst he;cases aP with
     |none=>cases hb'
     |some bc =>
      obtain ⟨b',cap⟩:=bc;cases hb';obtain ⟨cs,pr,rest,g1,_⟩:=q3;exact ⟨g1,q1⟩
    |it ks vs left cur=>cases kf
    |dJ T xs =>
     obtain ⟨aP,q1,q2,q3⟩:=ho;rw[q1,u8] at he;subst he;cases aP with
     |none=>cases hb'
     |some bc =>
      obtain ⟨b',cap⟩:=bc;cases hb';obtain ⟨cs,r,g1,_⟩:=q3;exact ⟨g1,q1⟩
    |bE ks vs =>
     obtain ⟨b',es,ck,q1,q2,_⟩:=ho;rw[q1,u8] at he;subst he;cases hb';exact ⟨q2,q1⟩
    |dI x =>
     obtain ⟨b',q1,q2,_⟩:=ho;rw[q1,u8] at he;subst he;cases hb';exact ⟨q2,q1⟩
    |box y =>
     obtain ⟨b',cs,T,q1,q2,_⟩:=ho;rw[q1,u8] at he;subst he;cases hb';exact ⟨q2,q1⟩
  cases hn:pre ρ os' n with
  |none =>
   have g1:E n=some e:=by rw[←E2o n hn];exact U
   cases hm:pre ρ os' m with
   |none=>exact hs.cQ n m e e' b g1 (by rw[←E2o m hm];exact ab) af ar
   |some m'=>exact absurd (blk' m m' e' hm ab ar).1 (other n e b hn g1 af)
  |some n' =>
   have g1:=blk' n n' e hn U af;cases hm:pre ρ os' m with
   |none=>exact absurd g1.1 (other m e' b hm (by rw[←E2o m hm];exact ab) ar)
   |some m' =>
    have g2:=blk' m m' e' hm ab ar;have:=hh.cQ n' m' e e' b g1.2 g2.2 af ar;rw[←(jG hn).2,←(jG hm).2,this]
 ·cases hp:pre ρ os' n with
  |none=>rw[E2o n hp];exact hs.dR n e hn
  |some m =>
   rcases cas n m hp with ⟨_,e1,e2,k1,k2,k3⟩ | ⟨_,_,k1⟩
   ·rcases hs.dR n e hn with h | ⟨e3,h,h'⟩
    ·rw[h] at k1;cases k1
    ·rw[k1,u8] at h;subst h
     right
     rw[hE2];simp only[hp];exact ⟨e2,k2,h'.trans k3⟩
   ·rw[hn] at k1;cases k1
 ·have af:=(bl.bd (w:=w') (p:=av os') (ρ:=bB ρ) (E:=E') (E':=E2) (D:=D') (fun n hn=>E2m n hn) (v:=v) hb.zE.1).2 hr;cases hbb:aR with
  |true=>exact (bl.bd (w:=w') (p:=av os') (ρ:=bB ρ) (E:=E') (E':=E2) (D:=D2) (fun n hn=>E2m n hn) (v:=v) hb.zE.1).2 (bl.dS (hb.zE.2 hbb) hr)
  |false =>
   refine bl.later (E:=E2) ⟨fun b o ah =>?_,fun _ _ _ _ h=>h,fun _ _ _ h=>h,fun _ aP l h=>⟨aP,l,h,zz9 _,fun _=>rfl⟩,fun _ _ h=>h,fun _ _ h=>h,fun _ _ _ _ h=>h⟩ af;rw[hD2];by_cases hm:M1 b
   ·exact .inr ⟨hm,ah⟩
   ·rw[hM1] at hm;exact .inl (hbx hbb b o (hold b o ah (Nat.lt_of_not_le fun h=>hm (.inl h)) fun h=>hm (.inr h)))
end
theorem wL(z:Array Value):∀ n:Nat,(Builtin.zeroCells z n).toList=(List.replicate n z.toList).flatten
 |0=>by simp[Builtin.zeroCells]
 |n+1=>by
  rw[List.replicate_succ,List.flatten_cons,←wL z n];apply List.ext_getElem?;intro i;by_cases hz:z.size=0
  ·have hz':z = #[]:=Array.eq_empty_of_size_eq_zero hz;subst hz';simp[Builtin.zeroCells]
  have hpos:0<z.size:=Nat.pos_of_ne_zero hz;by_cases hi:i<z.toList.length
  ·rw[zx0 hi];have hi':i<z.size:=by simpa using hi
   have U:i<(n+1)*z.size:=by rw[Nat.succ_mul];omega
   simp only[Builtin.zeroCells,Array.toList_map,Array.toList_range,zx7,List.getElem?_range U,zy6,Nat.mod_eq_of_lt hi'];simp[hi']
  ·rw[zv1 (by omega)];have hi':z.size≤i:=by simpa using hi
   simp only[Builtin.zeroCells,Array.toList_map,Array.toList_range,zx7,zw4];by_cases ab:i<(n+1)*z.size
   ·have af:i-z.size<n*z.size:=by rw[Nat.succ_mul] at ab;omega
    rw[List.getElem?_range ab,List.getElem?_range af];simp only[zy6];rw[←Nat.mod_eq_sub_mod hi']
   ·have af:¬ i-z.size<n*z.size:=by rw[Nat.succ_mul] at ab;omega
    rw[List.getElem?_eq_none (by simpa using ab),List.getElem?_eq_none (by simpa using af)]
theorem tI{w:World}{D:aX}{E:bj}{z:I}{cs:List Value}(h:ao w D E z cs):∀ n:Nat,aU w D E (List.replicate n z) (List.replicate n cs).flatten
 |0=>by simp[aU]
 |n+1=>by
  simp only[List.replicate_succ,List.flatten_cons,aU];exact ⟨cs,_,rfl,h,tI h n⟩
def eI(A:ai)(sz:Nat):I→Option (List I)
 | .slice z es=>if z=sz then some es else none
 | .nils _=>some []
 | .c0 _=>some []
 | .own n l=>match A.o n with
  |some (.bW _ z es)=>if l=es.length∧z=sz then some es else none
  |_=>none
 | .view n p z lo k=>match cM A (.ptr n p) with
  |some (.agg fs)=>if lo+k≤fs.length∧z=sz then some ((fs.drop lo).take k) else none
  |_=>none
 |_=>none
section
variable {c:c4} {A:ai} {a:Act} {w:World} {D:aX} {E:bj}
theorem bg.view(h:bg c A a w D E){n:Nat}{p:List Nat}{sz lo k:Nat}{v:Value}{fs:List I}(hv:bl w D E (.view n p sz lo k) v)(hx:cM A (.ptr n p)=some (.agg fs)) :
  ∃ y b cs T off c1 c2 c3,A.o n=some (.box y)∧E n=some (.aR b y.bh)∧w.heap[b]?=some (.cells cs T (0,0))∧y.at p=some (.agg fs)∧y.bh.off p=some off∧cs.toList=c1++c2++c3∧c1.length=off∧aU w D E fs c2 ∧
   ao w D E y cs.toList∧(∀ f∈fs,f.size=sz)∧lo+k≤fs.length∧fs.length≤maxLen∧v=.slice (some ⟨b,off+lo*sz,none⟩) k (fs.length-lo):=by
 obtain ⟨z,b',cs',T,off',c1,c2,c3,k1,k2,_,k3,k4,k5,k6,k7,k8,k9,_⟩:=h.at hx;obtain ⟨vs,g1,g2⟩:=hv;simp only[ao] at g2;obtain ⟨b,bh,off,l,U,ab,af,ar,h5,h6,h7⟩:=g2;rw[k2] at U;simp only[u8,bO.aR.injEq] at U;obtain ⟨rfl,rfl⟩:=U;rw[k5,u8] at ab;subst ab;rw[nV p z _ k4] at af;simp only[I.bh,u8,cW.eS.injEq] at af;subst af;rw[I.dA,zz8] at ar h5 h6;refine ⟨z,b',cs',T,off',c1,c2,c3,k1,k2,k3,k4,k5,k6,k7,by simpa only[ao] using k8,k9,HQ h7,h6,h5,?_⟩;simpa[bI,I.isAgg,ar] using g1.symm
theorem bg.oY(h:bg c A a w D E){sz:Nat}{x:I}{v:Value}{ys:List I}(hv:bl w D E x v)(hs:eI A sz x=some ys) :
  ∃ ad cp news,v=.slice ad ys.length cp∧ys.length≤cp∧cp≤maxLen∧aU w D E ys news∧(∀ y∈ys,y.size=sz)∧(ys≠[]→∃ b o,ad=some ⟨b,o,none⟩∧∀ j u,news[j]?=some u→w.cell? ⟨b,o+j,none⟩=some u):=by
 cases x <;>simp only[eI] at hs <;>try (cases hs;done)
 case nils z =>
  simp only[u8] at hs;subst hs;obtain ⟨cs,q1,q2⟩:=hv;simp only[ao] at q2;exact ⟨none,0,[],by simpa[bI,I.isAgg,q2] using q1.symm,by simp,by simp[maxLen],by simp[aU],by simp,fun h=>absurd rfl h⟩
 case c0 z =>
  simp only[u8] at hs;subst hs;obtain ⟨cs,q1,q2⟩:=hv;simp only[ao] at q2;obtain ⟨ad,q2⟩:=q2;exact ⟨ad,0,[],by simpa[bI,I.isAgg,q2] using q1.symm,by simp,by simp[maxLen],by simp[aU],by simp,fun h=>absurd rfl h⟩
 case slice z es =>
  split at hs
  ·rename_i hz;simp only[u8] at hs;subst hs hz;obtain ⟨ad,cap,e1,e2,e3,e4,e5⟩:=oV hv;rcases e4 with rfl | ⟨b,off,cs,rfl,q1,q2⟩
   ·exact ⟨ad,cap,[],e1,e2,e3,by simp[aU],by simp,fun h=>absurd rfl h⟩
   ·exact ⟨_,cap,cs,e1,e2,e3,q2,e5,fun _=>⟨b,off,rfl,fun j u hj=>(q1 j u hj).1⟩⟩
  ·cases hs
 case own n l =>
  split at hs
  ·rename_i T z es hn;split at hs
   ·rename_i hz;obtain ⟨hz1,rfl⟩:=hz;simp only[u8] at hs;subst hs;obtain ⟨aP,k1,k2,k3⟩:=h.bW hn;obtain ⟨cs,q1,q2⟩:=hv;simp only[ao] at q2;obtain ⟨blk',l',g1,g2,_,g4⟩:=q2;rw[k1] at g1;simp only[u8,bO.rw.injEq] at g1;obtain ⟨rfl,rfl⟩:=g1
    replace g4:=g4 hz1
    cases aP with
    |none =>
     simp only at k3 g4;subst k3;have hv':v=.slice none 0 0:=by rw[g4] at q1;simpa[bI,I.isAgg] using q1.symm
     exact ⟨none,0,[],hv',by simp,by simp[maxLen],by simp[aU],by simp,fun h=>absurd rfl h⟩
    |some bc =>
     obtain ⟨b,cap⟩:=bc;simp only at g4;obtain ⟨cs',pre,rest,k4,k5,k6,k7,k8,k9,k10,k11⟩:=k3;refine ⟨some ⟨b,0,none⟩,cap,pre,by rw[←hz1];simpa[bI,I.isAgg,g4] using q1.symm,k9,k10,k7,k2,fun _=>⟨b,0,rfl,fun j u hj =>?_⟩⟩;have:=(p8 (D:=fun _ _=>True) (c1:=[]) (c2:=pre) (c3:=rest) k5 (by simpa using k6) (fun _ _=>trivial)) j u hj;simpa using this.1
   ·cases hs
  ·cases hs
 case view n p z lo k =>
  split at hs
  ·rename_i fs hx;split at hs
   ·rename_i hk;obtain ⟨hk,rfl⟩:=hk;simp only[u8] at hs;subst hs;obtain ⟨y,b,cs,T,off,c1,c2,c3,k1,k2,k3,k4,k5,k6,k7,k8,k9,k10,k11,k12,rfl⟩:=h.view hv hx;obtain ⟨d1,d2,d3,rfl,q1,q2,q3⟩:=wa k8 k10 lo k hk;have hlen:((fs.drop lo).take k).length=k:=by rw[zx9,List.length_drop];omega
    refine ⟨some ⟨b,off+lo*z,none⟩,fs.length-lo,d2,by rw[hlen],by rw[hlen];omega,by omega,q2,fun y hy=>k10 y (List.mem_of_mem_drop (List.mem_of_mem_take hy)),fun _=>⟨b,_,rfl,fun j u hj =>?_⟩⟩;have:=(p8 (D:=fun _ _=>True) (c1:=c1++d1) (c2:=d2) (c3:=d3++c3) k3 (by rw[k6];simp) (fun _ _=>trivial)) j u hj;rw[zz6,k7,q1] at this;exact this.1
   ·cases hs
  ·cases hs
theorem bg.jL(h:bg c A a w D E){n:Nat}{p:List Nat}{sz j:Nat}{y:I}{fs ys:List I}{b off:Nat}{cs:Array Value}{T:TypeId}{c1 c2 c3 ds:List Value}(hn:A.o n=some (.box y))(ay:E n=some (.aR b y.bh))(hb:w.heap[b]?=some (.cells cs T (0,0)))
  (hat:y.at p=some (.agg fs)) (hoff:y.bh.off p=some off) (hcs:cs.toList=c1++c2++c3) (hc1:c1.length=off) (hfs:aU w D E fs c2) (hy:ao w D E y cs.toList) (hsz:∀ f∈fs,f.size=sz) (hys:aU w D E ys ds) (hj:j+ys.length≤fs.length)
  (hsh:I.cZ ys=I.cZ ((fs.drop j).take ys.length)) (P:Program) :
  ∃ w',(storeCells ⟨b,off+j*sz,none⟩ ds 0).run P w=.ok () w'∧bg c (A.aZ n (.box (y.eF p (.agg (fs.take j++(ys++fs.drop (j+ys.length))))))) a w' D E:=by
 obtain ⟨d1,d2,d3,rfl,q1,q2,q3⟩:=wa hfs hsz j ys.length hj;have hd1:aU w D E (fs.take j) d1:=by
  have e1:fs=fs.take j++fs.drop j:=(List.take_append_drop j fs).symm;rw[e1] at hfs;obtain ⟨e1,e2,he,k1,k2⟩:=v8 _ _ _ hfs;have hl:e1.length=d1.length:=by
   rw[aU.length _ _ k1,I.jq _ (fun x hx=>hsz x (List.mem_of_mem_take hx)),q1,zx9];congr 1;omega
  have:e1=d1:=by
   have:=congrArg (List.take d1.length) he;rw[List.take_left,←hl,List.take_left] at this;exact this.symm
  rw[←this];exact k1
 have hlen:ds.length=d2.length:=by rw[aU.length _ _ hys,aU.length _ _ q2,←I.nW,←I.nW,hsh]
 have hds:ao w D E (.agg (fs.take j++(ys++fs.drop (j+ys.length)))) (d1++(ds++d3)):=by
  simp only[ao];refine lu _ _ _ _ hd1 (lu _ _ _ _ hys ?_);rw[List.drop_drop] at q3;exact q3
 have hshape:(I.agg (fs.take j++(ys++fs.drop (j+ys.length)))).bh=(I.agg fs).bh:=by
  simp only[I.bh,cW.eS.injEq,I.dA,zx2];rw[←I.dA ys,hsh,I.dA,←zx2,←zx2]
  congr 1
  rw[←List.drop_drop,List.take_append_drop,List.take_append_drop]
 obtain ⟨off',g1,g2,g3,g4⟩:=vZ p y _ _ _ _ hy hat hds hshape;rw[hoff,u8] at g1;subst g1;have hst:=run_storeCells_at P b (off+j*sz) T ds 0 cs w hb (by
  have:cs.size=cs.toList.length:=by simp
  rw[this,hcs];simp only[zz6];omega) (aU.nz _ _ hys)
 simp only[Nat.add_zero] at hst;refine ⟨_,hst,?_⟩;refine h.zU hn ay g4 ?_;have e:cs.toList.take (off+j*sz)++ds++cs.toList.drop (off+j*sz+ds.length)=cs.toList.take off++(d1++(ds++d3))++cs.toList.drop (off+(d1++(ds++d3)).length):=by
  rw[hcs];have t1:(c1++(d1++(d2++d3))++c3).take (off+j*sz)=c1++d1:=by
   rw[←hc1,←q1,zy4,List.take_length_add_append,zy4,List.take_left]
  have t2:(c1++(d1++(d2++d3))++c3).drop (off+j*sz+ds.length)=d3++c3:=by
   rw[←hc1,←q1,hlen,zy4,Nat.add_assoc,List.drop_length_add_append,zy4,List.drop_length_add_append,zy4,List.drop_left]
  have t3:(c1++(d1++(d2++d3))++c3).take off=c1:=by rw[←hc1,zy4,List.take_left]
  have t4:(c1++(d1++(d2++d3))++c3).drop (off+(d1++(ds++d3)).length)=c3:=by
   have:(d1++(ds++d3)).length=(d1++(d2++d3)).length:=by simp[hlen]
   rw[this,←hc1,zy4,List.drop_length_add_append,List.drop_left]
  rw[t1,t2,t3,t4];simp
 rw[e];simpa using g3
end
section
variable {c:c4} {A:ai} {o:Oper} {x:I}
theorem nS{P:Program}{w:World}(k:IntKind)(n:Int)(y:Nat)(code:BoundsCode)(g1:0≤n)(g2:n≤y):(Instr.sliceBound (.int k n) y code).run P w=.ok n.toNat w:=by
 simp[Instr.sliceBound,asIntOf,g1,g2]
theorem Yn{t e:TypeId}{y:Operand}{y':aV}{lo hi mx:Option Operand}{lo' hi' mx':Option aV}{i:TypeInfo}{fs:List I}{n:Nat}{p:List Nat}{sz l0 k:Nat}(ho:o.op=.slice t y lo hi mx)(hu:c.P.underlying t=some (.slice e))(hi0:c.P.info? e=some i)
  (hy:bF c.P 0 y=some y') (U:jt c.P lo=some lo') (ab:jt c.P hi=some hi') (af:jt c.P mx=some mx') (hmh:mx'.isSome=true→hi'.isSome=true) (hsz:sz=c.P.cellsOf e)
  (h:al A y'=.view n p sz l0 k) (ah:cM A (.ptr n p)=some (.agg fs)) (hx:mK n p sz l0 k fs.length (lo'.map (al A)) (hi'.map (al A)) (mx'.map (al A))=some x):dP c A o x :=
 .same fun a w D E hs=>by
  have opt:∀ {q:Option Operand} {q':Option aV},jt c.P q=some q'→jk w D E (q'.map (al A)) (q.map a.eval):=by
   intro q q' hq;cases q with
   |none=>simp only[jt,u8] at hq;subst hq;simp[jk]
   |some z =>
    simp only[jt,zz0] at hq;obtain ⟨z',hz,rfl⟩:=hq;simpa[jk] using b5 hs hz
  have bf:=b5 hs hy;rw[h] at bf;obtain ⟨yy,b,cs,T,off,c1,c2,c3,k1,k2,k3,k4,k5,k6,k7,k8,k9,k10,k11,k12,hval⟩:=hs.view bf ah;have hmh':(mx'.map (al A)).isSome=true→(hi'.map (al A)).isSome=true:=by simpa using hmh
  unfold mK at hx;split at hx
  ·cases hx
  rename_i hh hbh;split at hx
  ·cases hx
  rename_i ll hbl;have d1:=tt (opt U) hbl;have d2:=tt (opt ab) hbh;have o3:=opt af;split at hx
  ·rename_i hmx;split at hx
   case isFalse=>cases hx
   rename_i hb;obtain ⟨b1,b2,b3⟩:=hb;have hvmx:mx.map a.eval=none:=by
    rw[hmx] at o3;cases hq:mx.map a.eval with
    |none=>rfl
    |some v=>rw[hq] at o3;simp[jk] at o3
   have hsb:(Instr.sliceBounds true k (fs.length-l0) (lo.map a.eval) (hi.map a.eval) (mx.map a.eval)).run c.P w=.ok (ll.toNat,hh.toNat,fs.length-l0) w:=by
    rw[hvmx];rcases d2 with ⟨_,g2,hm2⟩ | ⟨_,q2,g2⟩ <;>rcases d1 with ⟨_,g1,hm1⟩ | ⟨_,q1,g1⟩ <;>rw[g1,g2]
    ·subst hm1 hm2;simp[Instr.sliceBounds]
    ·subst hm2;simp[Instr.sliceBounds,nS q1 ll k _ b1 (by omega)]
    ·subst hm1;simp[Instr.sliceBounds,nS q2 hh (fs.length-l0) _ (by omega) (by omega)]
    ·simp[Instr.sliceBounds,nS q2 hh (fs.length-l0) _ (by omega) (by omega),nS q1 ll hh.toNat _ b1 (by omega)]
   have hrun:(Instr.sliceAt t (a.eval y) (lo.map a.eval) (hi.map a.eval) (mx.map a.eval)).run c.P w =
     .ok (.slice (if fs.length-l0=ll.toNat then some ⟨b,off+l0*sz,none⟩ else some ⟨b,off+l0*sz+ll.toNat*c.P.cellsOf e,none⟩) (hh.toNat-ll.toNat) (fs.length-l0-ll.toNat)) w:=by
    rw[hval];simp only[Instr.sliceAt,Instr.slice,Sem.run_bind,run_underlying hu,Result.andThen_ok,hsb,jJ hi0,Sem.run_pure,zy6,oi]
   refine ⟨_,by simp only[execOp,ho,Sem.run_bind,hrun];rfl,?_⟩;split at hx
   ·rename_i hl;simp only[u8] at hx;subst hx;have e1:fs.length-l0=ll.toNat:=by omega
    have e2:hh.toNat-ll.toNat=0:=by omega
    rw[if_pos e1,e2,e1,Nat.sub_self];exact ⟨_,by simp[bI,I.isAgg];rfl,by simp only[ao];exact ⟨_,rfl⟩⟩
   ·rename_i hl;simp only[u8] at hx;subst hx;rw[if_neg (by omega)];refine ⟨_,by simp[bI,I.isAgg];rfl,?_⟩;simp only[ao];refine ⟨b,yy.bh,off,I.cZ fs,k2,k5,nV p yy _ k4,?_,?_,?_,?_⟩
    ·rw[I.dA,zz8,Nat.add_mul,Nat.add_assoc,hsz,Nat.sub_sub]
    ·rw[I.dA,zz8];exact k12
    ·rw[I.dA,zz8];omega
    ·rw[I.dA];intro s hs';obtain ⟨f,hf,rfl⟩:=zy7.1 hs';rw[I.mJ];exact k10 f hf
  ·rename_i kk m hmx;split at hx
   case isFalse=>cases hx
   rename_i hb;obtain ⟨b1,b2,b3,b4⟩:=hb;simp only[u8] at hx;subst hx;obtain ⟨vmx,hvmx,hvm⟩:∃ v,mx.map a.eval=some v∧v=.int kk m:=by
    rw[hmx] at o3;cases hq:mx.map a.eval with
    |none=>rw[hq] at o3;simp[jk] at o3
    |some v=>rw[hq] at o3;simp only[jk] at o3;exact ⟨v,rfl,(fh o3).1⟩
   subst hvm;have hsb:∃ r,(Instr.sliceBounds true k (fs.length-l0) (lo.map a.eval) (hi.map a.eval) (mx.map a.eval)).run c.P w=.ok r w:=by
    rw[hvmx];rcases d2 with ⟨g0,g2,hm2⟩ | ⟨_,q2,g2⟩
    ·rw[hmx,g0] at hmh';simp at hmh'
    ·rcases d1 with ⟨_,g1,hm1⟩ | ⟨_,q1,g1⟩ <;>rw[g1,g2]
     ·exact ⟨_,by simp[Instr.sliceBounds,nS kk m (fs.length-l0) _ (by omega) b4,nS q2 hh m.toNat _ (by omega) (by omega)];rfl⟩
     ·exact ⟨_,by simp[Instr.sliceBounds,nS kk m (fs.length-l0) _ (by omega) b4,nS q2 hh m.toNat _ (by omega) (by omega),nS q1 ll hh.toNat _ b1 (by omega)];rfl⟩
   obtain ⟨⟨lr,jH,p5⟩,hsb⟩:=hsb;have hrun:∃ v,(Instr.sliceAt t (a.eval y) (lo.map a.eval) (hi.map a.eval) (mx.map a.eval)).run c.P w=.ok v w:=by
    rw[hval];exact ⟨_,by simp only[Instr.sliceAt,Instr.slice,Sem.run_bind,run_underlying hu,Result.andThen_ok,hsb,jJ hi0,Sem.run_pure,zy6];rfl⟩
   obtain ⟨v,hrun⟩:=hrun;exact ⟨v,by simp only[execOp,ho,Sem.run_bind,hrun];rfl,by simp[bl]⟩
  ·cases hx
theorem Yc{t e:TypeId}{y z:Operand}{y' z':aV}{i:TypeInfo}{fs:List I}{n:Nat}{p:List Nat}{sz lo k:Nat}{kk:IntKind}{j:Int}(ho:o.op=.indexAddr t y z)(hu:c.P.underlying t=some (.slice e))(hi:c.P.info? e=some i)
  (hy:bF c.P 0 y=some y') (hz:bF c.P 0 z=some z') (hsz:sz=c.P.cellsOf e) (h:al A y'=.view n p sz lo k) (ah:cM A (.ptr n p)=some (.agg fs)) (h':al A z'=.int kk j) (hj:0≤j∧j<k):dP c A o (.ptr n (p++[lo+j.toNat])) :=
 .same fun a w D E hs=>by
  have bf:=b5 hs hy;rw[h] at bf;have h1':=b5 hs hz;rw[h'] at h1';obtain ⟨yy,b,cs,T,off,c1,c2,c3,k1,k2,k3,k4,k5,k6,k7,k8,k9,k10,k11,k12,hval⟩:=hs.view bf ah;refine ⟨.pointer (some ⟨b,off+lo*sz+j.toNat*c.P.cellsOf e,none⟩),by simp only[execOp,ho,hval,(fh h1').1,Sem.run_bind,zM hu hi hj];rfl,?_⟩;refine ⟨_,by simp[bI,I.isAgg];rfl,?_⟩;simp only[ao];refine ⟨b,yy.bh,off+(lo+j.toNat)*sz,k2,?_,by rw[Nat.add_mul,←Nat.add_assoc,hsz]⟩;have hl:lo+j.toNat<fs.length:=by omega
  rw[cW.vH p yy.bh off (lo+j.toNat) _ k5 (nV p yy _ k4) (by rw[I.dA];simpa using hl),I.dA,←List.map_take,←I.dA,I.nW,qn fs _ k10 (by omega)]
theorem ye{ty:TypeId}{y:Operand}{y':aV}{n:Nat}{e:TypeId}(ho:o.op=.call { callee:=.builtin .cap,args := #[y],argTypes := #[ty] })(hu:c.P.underlying ty=some (.slice e))
  (hy:bF c.P ty y=some y') (h:∀ a w D E,bg c A a w D E→∀ v,bl w D E (al A y') v→n≤maxLen∧∃ ad l,v=.slice ad l n):dP c A o (.int .i64 n) :=
 .same fun a w D E hs=>by
  obtain ⟨bf,ad,l,hv⟩:=h a w D E hs _ (b5 hs hy);exact ⟨.int .i64 n,by simp[execOp,ho,resolve,invoke,builtin,Builtin.cap_,run_underlying hu,hv,goInt],lb (yK bf)⟩
theorem XZ{t e:TypeId}{i:TypeInfo}(ho:o.op=.buildSlice t 0 #[])(hu:c.P.underlying t=some (.slice e))(hi:c.P.info? e=some i):dP c A o (.c0 (c.P.cellsOf e)):=by
 intro a w D E hs;have hs':=hs.newRow (.cells #[] e);refine ⟨.slice (some ⟨w.heap.size,0,none⟩) 0 0,_,_,?_,hs',⟨_,by simp[bI,I.isAgg];rfl,by simp only[ao];exact ⟨_,rfl⟩⟩⟩;simp[execOp,ho,Instr.buildSlice,run_underlying hu,jJ hi,newRow,Instr.fill,show (Array.range 0) = #[] from rfl]
theorem ZC{neg:Bool}{t e:TypeId}{y z:Operand}{y':aV}{yt:TypeId}{s:Nat}(ho:o.op=.binOp (if neg then .neq else .eql) t y z yt)(hu:c.P.underlying t=some (.slice e))(hy:bF c.P 0 y=some y')(hz:bF c.P 0 z=some (.c (.nils s)))
  (h:∃ sz,al A y'=.slice sz []∨al A y'=.c0 sz) {a:Act} {w:World} {D:aX} {E:bj} (hs:bg c A a w D E):∃ b,(execOp a.eval o).run c.P w=.ok (.value (.bool b)) w:=by
 have bf:=b5 hs hy;have U:bl w D E (.nils s) (a.eval z):=b5 hs hz;have hv:∃ ad cp,a.eval y=.slice ad 0 cp:=by
  obtain ⟨sz,h | h⟩:=h <;>rw[h] at bf
  ·obtain ⟨ad,cap,e1,_⟩:=oV bf;exact ⟨ad,cap,by simpa using e1⟩
  ·obtain ⟨cs,q1,q2⟩:=bf;simp only[ao] at q2;obtain ⟨ad,q2⟩:=q2;exact ⟨ad,0,by simpa[bI,I.isAgg,q2] using q1.symm⟩
 obtain ⟨ad,cp,hyv⟩:=hv;have hv:a.eval z=.slice none 0 0:=by
  obtain ⟨cs,q1,q2⟩:=U;simp only[ao] at q2;simpa[bI,I.isAgg,q2] using q1.symm
 have he:∀ d,(Op.equalIn (d+1) t (.slice ad 0 cp) (.slice none 0 0)).run c.P w=.ok ad.isNone w:=fun d=>by
  cases ad <;>simp[Op.equalIn,run_underlying hu]
 refine ⟨if neg then !ad.isNone else ad.isNone,?_⟩;cases neg <;>simp only[execOp,ho,hyv,hv,if_true,zz5,if_false,Sem.run_bind,eqGuard] <;>simp[binOp,Op.equal,Op.maxDepth,he]
def jL(y:I)(p:List Nat)(j:Nat)(fs ys:List I):I:=y.eF p (.agg (fs.take j++(ys++fs.drop (j+ys.length))))
theorem OI{t e:TypeId}{y:Operand}{y':aV}{z:I}{n:Nat}{p:List Nat}{lo k:Nat}{b:I}{fs:List I}(ho:o.op=.call { callee:=.builtin .clear,args := #[y],argTypes := #[t] })(hu:c.P.underlying t=some (.slice e))(hy:bF c.P t y=some y')
  (hz:gY c.P e=some z) (hv:al A y'=.view n p (c.P.cellsOf e) lo k) (hn:A.o n=some (.box b)) (hat:b.at p=some (.agg fs)) (hsh:I.cZ (List.replicate k z)=I.cZ ((fs.drop lo).take k)) (ah:o.dst=none) :
  iW c A o (A.aZ n (.box (jL b p lo fs (List.replicate k z)))):=by
 intro a w D E hs;obtain ⟨i,zv,hi,hzv,hzr⟩:=mT hz;have bf:=b5 hs hy;rw[hv] at bf;have hx:cM A (.ptr n p)=some (.agg fs):=by simp only[cM,hn,hat]
 obtain ⟨yy,bk,cs,T,off,c1,c2,c3,k1,k2,k3,k4,k5,k6,k7,k8,k9,k10,k11,k12,hval⟩:=hs.view bf hx;rw[hn] at k1;simp only[u8,ak.box.injEq] at k1;subst k1;have hr:aU w D E (List.replicate k z) (Builtin.zeroCells zv.cells k).toList:=by
  rw[wL];exact tI (hzr w D E) k
 obtain ⟨w',U,ab⟩:=hs.jL (j:=lo) (ys:=List.replicate k z) hn k2 k3 k4 k5 k6 k7 k8 k9 k10 hr (by simpa using k11) (by simpa using hsh) c.P;cases k with
 |zero =>
  refine ⟨w,.inl ⟨.tuple #[],?_,D,E,?_⟩⟩
  ·simp[execOp,ho,resolve,invoke,builtin,Builtin.clear_,run_underlying hu,hval]
  ·rw[ah];have:jL b p lo fs (List.replicate 0 z)=b.eF p (.agg fs):=by simp[jL]
   have hw:w'=w:=by
    simp[Builtin.zeroCells,storeCells] at U;exact U.symm
   rw[hw] at ab;exact ab
 |succ k =>
  refine ⟨w',.inl ⟨.tuple #[],?_,D,E,?_⟩⟩
  ·simp[execOp,ho,resolve,invoke,builtin,Builtin.clear_,run_underlying hu,hval,zeroValue,typeInfo,hi,hzv,U]
  ·rw[ah];exact ab
theorem OJ{t e:TypeId}{y x:Operand}{y' x':aV}{n:Nat}{p:List Nat}{lo k m:Nat}{b:I}{fs ys:List I}(ho:o.op=.call { callee:=.builtin .copy,args := #[y,x],argTypes := #[t,t] })(hu:c.P.underlying t=some (.slice e))(hi:(c.P.info? e).isSome=true)
  (hy:bF c.P t y=some y') (hx:bF c.P t x=some x') (hv:al A y'=.view n p (c.P.cellsOf e) lo k) (hn:A.o n=some (.box b)) (hat:b.at p=some (.agg fs)) (hs:eI A (c.P.cellsOf e) (al A x')=some ys) (hm:m=min ys.length k)
  (hsh:I.cZ (ys.take m)=I.cZ ((fs.drop lo).take m)) (hdn:∀ k,o.dst=some k→k<c.n) :
  iW c A o ((A.aZ n (.box (jL b p lo fs (ys.take m)))).a8 o.dst (.int .i64 m)):=by
 intro a w D E hsim;obtain ⟨i,hi⟩:=zx4.1 hi;have bf:=b5 hsim hy;rw[hv] at bf;have hxx:cM A (.ptr n p)=some (.agg fs):=by simp only[cM,hn,hat]
 obtain ⟨yy,bk,cs,T,off,c1,c2,c3,k1,k2,k3,k4,k5,k6,k7,k8,k9,k10,k11,k12,hval⟩:=hsim.view bf hxx;rw[hn] at k1;simp only[u8,ak.box.injEq] at k1;subst k1;obtain ⟨ad,cp,news,s1,s2,s3,s4,s5,s6⟩:=hsim.oY (b5 hsim hx) hs;have hmy:m≤ys.length:=by omega
 have hci:c.P.cellsOf e=i.size:=by simp[Program.cellsOf,hi]
 obtain ⟨d1,d2,d3,e1,e2,e3,e4⟩:=wa s4 s5 0 m (by omega);simp only[Nat.zero_mul,List.drop_zero] at e2 e3;have e2':d1=[]:=List.eq_nil_of_length_eq_zero e2;subst e2';simp only[zy5] at e1;have hlen:(ys.take m).length=m:=by rw[zx9];omega
 have hd2:d2.length=m*i.size:=by rw[aU.length _ _ e3,I.jq (sz:=c.P.cellsOf e) _ (fun y hy=>s5 y (List.mem_of_mem_take hy)),hlen,hci]
 obtain ⟨w',U,ab⟩:=hsim.jL (j:=lo) (ys:=ys.take m) hn k2 k3 k4 k5 k6 k7 k8 k9 k10 e3 (by rw[hlen];omega) (by rw[hlen];exact hsh) c.P;have hf:(Builtin.firstCells i.size m (.slice ad ys.length cp)).run c.P w=.ok d2.toArray w:=by
  by_cases hm0:m=0
  ·have:d2=[]:=List.eq_nil_of_length_eq_zero (by rw[hd2,hm0];simp);subst this;cases ad with
   |none=>exact run_firstCells_none _ _ _ _ _
   |some ad=>exact run_firstCells_some w i.size m ad ys.length cp [] (by simp[hm0]) (by simp)
  ·obtain ⟨b2,o2,rfl,hr⟩:=s6 (fun h=>by rw[h] at hmy;simp at hmy;omega);refine run_firstCells_some w i.size m _ ys.length cp d2 hd2 fun j v hj =>?_;rw[Addr.add_lit];refine hr j v ?_;rw[e1,zx0 (zy0.1 hj).1];exact hj
 have h63:m≤maxLen:=by omega
 refine ⟨w',.inl ⟨.int .i64 m,?_,D,E,ab.a8 hdn (lb (yK h63))⟩⟩;have hmin:Nat.min ys.length k=m:=hm.symm;rw[←hci] at hf;simp only[execOp,ho,resolve,invoke,builtin,Sem.run_bind,Sem.run_pure,Result.andThen_ok,List.map_toArray,zz7,zx8,hval,s1];simp[Builtin.copy_,run_underlying hu,Builtin.lenOf,hmin,jJ hi,hf,U,goInt]
theorem qP{a:Act}{w:World}{D:aX}{E:bj}(hs:bg c A a w D E){sz:Nat}{x:I}{v:Value}{es:List I}(hv:bl w D E x v)(he:eI A sz x=some es) :
  ∃ ad cp olds,v=.slice ad es.length cp∧es.length≤cp∧cp≤maxLen∧aU w D E es olds∧(∀ y∈es,y.size=sz)∧∀ (P:Program) (w':World),(∀ p u,w.cell? p=some u→w'.cell? p=some u)→(Builtin.firstCells sz es.length v).run P w'=.ok olds.toArray w':=by
 obtain ⟨ad,cp,news,s1,s2,s3,s4,s5,s6⟩:=hs.oY hv he;refine ⟨ad,cp,news,s1,s2,s3,s4,s5,fun P w' hw =>?_⟩;have hl:news.length=es.length*sz:=by rw[aU.length _ _ s4,I.jq _ s5]
 rw[s1];by_cases bf:es=[]
 ·subst bf;have:news=[]:=List.eq_nil_of_length_eq_zero (by rw[hl];simp);subst this;cases ad with
  |none=>exact run_firstCells_none _ _ _ _ _
  |some ad=>exact run_firstCells_some w' sz _ ad _ cp [] (by simp) (by simp)
 ·obtain ⟨b,o',rfl,hr⟩:=s6 bf;exact run_firstCells_some w' sz _ _ _ cp news hl fun j v hj=>by rw[Addr.add_lit];exact hw _ _ (hr j v hj)
theorem J5{t e:TypeId}{s x:Operand}{s' x':aV}{es ys:List I}{z:I}{d:Nat}(ho:o.op=.call { callee:=.builtin .append,args := #[s,x],argTypes := #[t,t] })(hu:c.P.underlying t=some (.slice e))(hs':bF c.P t s=some s')(hx':bF c.P t x=some x')
  (hz:gY c.P e=some z) (hzs:z.size=c.P.cellsOf e) (hse:eI A (c.P.cellsOf e) (al A s')=some es) (hsx:eI A (c.P.cellsOf e) (al A x')=some ys) (hby:(es.length+ys.length)*c.P.bytesOf e≤140737488355328)
  (ah:o.dst=some d) (hdn:d<c.n) (hf:A.o d=none) (hne:ys≠[]) {a:Act} {w:World} {D:aX} {E:bj} (hsim:bg c A a w D E) (hfull:∀ ad l cp,a.eval s=.slice ad l cp→cp<l+ys.length) (hml:es.length+ys.length≤maxLen) :
  ∃ v w' m,(execOp a.eval o).run c.P w=.ok (.value v) w'∧es.length+ys.length+m≤maxLen ∧
   cd c ((A.aZ d (.box (.agg (es++(ys++List.replicate m z))))).a8 o.dst (.view d [] (c.P.cellsOf e) 0 (es.length+ys.length))) (a.put o.dst v) w':=by
 obtain ⟨i,zv,hi,hzv,hzr⟩:=mT hz;have hci:c.P.cellsOf e=i.size:=by simp[Program.cellsOf,hi]
 have hbi:c.P.bytesOf e=i.bytes:=by simp[Program.bytesOf,hi]
 obtain ⟨ad1,cp1,olds,s1,s2,s3,s4,s5,s6⟩:=qP hsim (b5 hsim hs') hse;obtain ⟨ad2,cp2,news,t1,t2,t3,t4,t5,t6⟩:=qP hsim (b5 hsim hx') hsx;have hlt:=hfull _ _ _ s1;obtain ⟨m,hm⟩:∃ m,m=grownCap w (es.length+ys.length) cp1 e-(es.length+ys.length):=⟨_,rfl⟩
 have hge:=grownCap_ge w (es.length+ys.length) cp1 e;have hle:=grownCap_le_maxLen w (es.length+ys.length) cp1 e hml;obtain ⟨cells,hcells⟩:∃ cells:Array Value,cells=olds.toArray++news.toArray++Builtin.zeroCells zv.cells m:=⟨_,rfl⟩
 have hrun:(Builtin.append_ #[t,t] o.type #[a.eval s,a.eval x]).run c.P w=.ok (.slice (some ⟨w.heap.size,0,none⟩) (es.length+ys.length) (grownCap w (es.length+ys.length) cp1 e)) (w.drew.alloc (.cells cells e)):=by
  have hn:¬ (es.length+ys.length≤cp1):=by omega
  have h63:¬ (9223372036854775807<((es.length:Int)+(ys.length:Int))):=by simp only[maxLen] at hml;omega
  have h48:¬ (281474976710656<Builtin.nextslicecap (es.length+ys.length) cp1*i.bytes):=by
   have af:(es.length+ys.length)*i.bytes≤140737488355328:=by rw[←hbi];exact hby
   have:=growslice_fits hlt af;omega
  have g1:=s6 c.P w.drew (fun _ _ h=>h);have g2:=t6 c.P w.drew (fun _ _ h=>h);rw[s1,hci] at g1;rw[t1,hci] at g2;rw[s1,t1,hcells,hm];simp[Builtin.append_,run_underlying hu,sizeOf,typeInfo,zeroValue,hi,hzv,Builtin.lenOf,hn,h63,h48,Question.forced,g1,g2,newRow,grownCap]
  congr 2
  apply Array.ext';simp[zy4]
 have hcl:cells.toList=olds++(news++(List.replicate m zv.cells.toList).flatten):=by
  rw[hcells];simp[wL]
 have hrc:ao w D E (.agg (es++(ys++List.replicate m z))) cells.toList:=by
  rw[hcl];simp only[ao];exact lu _ _ _ _ s4 (lu _ _ _ _ t4 (tI (hzr w D E) m))
 have hsim':bg c A a w.drew D E:=hsim.grow ⟨rfl,rfl,rfl,zz9 _,fun _ _=>rfl⟩ (fun _ _ h=>h) (fun _ _ h _=>h) (fun b o h=>hsim.aK b o h);have hrc':ao w.drew D E (.agg (es++(ys++List.replicate m z))) cells.toList:=ao.later (w:=w) (w':=w.drew) (D:=D) (E:=E) ⟨fun _ _ h=>h,fun _ _ _ _ h=>h,fun _ _ _ h=>h,fun _ aP l h=>⟨aP,l,h,zz9 _,fun _=>rfl⟩,fun _ _ h=>h,fun _ _ h=>h,fun _ _ _ _ h=>h⟩ _ _ hrc;have U:=hsim'.th (T:=e) (.inl hdn) hf hrc';have hall:∀ y∈es++(ys++List.replicate m z),y.size=c.P.cellsOf e:=by
  intro y hy;rcases zy8.1 hy with hy | hy
  ·exact s5 y hy
  ·rcases zy8.1 hy with hy | hy
   ·exact t5 y hy
   ·rw[List.eq_of_mem_replicate hy];exact hzs
 have hlen:(es++(ys++List.replicate m z)).length=es.length+ys.length+m:=by simp[Nat.add_assoc]
 have ab:=U.put (d:=d) (x:=.view d [] (c.P.cellsOf e) 0 (es.length+ys.length)) (v:=.slice (some ⟨w.heap.size,0,none⟩) (es.length+ys.length) (grownCap w (es.length+ys.length) cp1 e)) hdn ⟨_,by simp[bI,I.isAgg];rfl,by
  simp only[ao,if_true];refine ⟨w.heap.size,(I.agg (es++(ys++List.replicate m z))).bh,0,I.cZ (es++(ys++List.replicate m z)),rfl,by cases (I.agg (es++(ys++List.replicate m z))).bh <;>simp[cW.off],by simp only[I.bh,cW.part],?_,?_,?_,?_⟩
  ·rw[I.dA,zz8,hlen,hm];simp;omega
  ·rw[I.dA,zz8,hlen];omega
  ·rw[I.dA,zz8,hlen];omega
  ·rw[I.dA];intro s hs;obtain ⟨f,hf,rfl⟩:=zy7.1 hs;rw[I.mJ];exact hall f hf⟩
 refine ⟨.slice (some ⟨w.heap.size,0,none⟩) (es.length+ys.length) (grownCap w (es.length+ys.length) cp1 e),w.drew.alloc (.cells cells e),m,?_,by omega,?_⟩
 ·unfold execOp;simp only[ho,resolve,invoke,builtin,Sem.run_bind,Sem.run_pure,Result.andThen_ok,List.map_toArray,zz7,zx8,hrun]
 ·rw[ah];exact ⟨D,_,ab⟩
theorem J6{t t' e:TypeId}{s x:Operand}{s' x':aV}{es:List I}{k:Nat}{kx kt:IntKind}{cg:Int}{z:I}{d:Nat}(ho:o.op=.call { callee:=.builtin .append,args := #[s,x],argTypes := #[t,t'] })(hu:c.P.underlying t=some (.slice e))(hs':bF c.P t s=some s')(hx':bF c.P t' x=some x')(ht':c.P.underlying t'=some (.int kt))(hvx:al A x'=.int kx cg)(hk:cg.toNat=k)(hk0:0<k)(hpos:0<c.P.cellsOf e)
  (hz:gY c.P e=some z) (hzs:z.size=c.P.cellsOf e) (hse:eI A (c.P.cellsOf e) (al A s')=some es) (hby:(es.length+k)*c.P.bytesOf e≤140737488355328)
  (ah:o.dst=some d) (hdn:d<c.n) (hf:A.o d=none) {a:Act} {w:World} {D:aX} {E:bj} (hsim:bg c A a w D E) (hfull:∀ ad l cp,a.eval s=.slice ad l cp→cp<l+k) (hml:es.length+k≤maxLen) :
  ∃ v w' m,(execOp a.eval o).run c.P w=.ok (.value v) w'∧es.length+k+m≤maxLen ∧
   cd c ((A.aZ d (.box (.agg (es++(List.replicate k z++List.replicate m z))))).a8 o.dst (.view d [] (c.P.cellsOf e) 0 (es.length+k))) (a.put o.dst v) w':=by
 obtain ⟨i,zv,hi,hzv,hzr⟩:=mT hz;have hci:c.P.cellsOf e=i.size:=by simp[Program.cellsOf,hi]
 have hbi:c.P.bytesOf e=i.bytes:=by simp[Program.bytesOf,hi]
 obtain ⟨ad1,cp1,olds,s1,s2,s3,s4,s5,s6⟩:=qP hsim (b5 hsim hs') hse;have v2:=b5 hsim hx';rw[hvx] at v2;have t1:a.eval x=.int kx ((k:Nat):Int):=by rw[(fh v2).1];congr 1;omega
 have t4:aU w D E (List.replicate k z) (List.replicate k zv.cells.toList).flatten:=tI (hzr w D E) k;have t5:∀ y∈List.replicate k z,y.size=c.P.cellsOf e:=fun y hy=>by rw[List.eq_of_mem_replicate hy];exact hzs
 have hlt:=hfull _ _ _ s1;obtain ⟨m,hm⟩:∃ m,m=grownCap w (es.length+k) cp1 e-(es.length+k):=⟨_,rfl⟩
 have hge:=grownCap_ge w (es.length+k) cp1 e;have hle:=grownCap_le_maxLen w (es.length+k) cp1 e hml;obtain ⟨cells,hcells⟩:∃ cells:Array Value,cells=olds.toArray++Builtin.zeroCells zv.cells k++Builtin.zeroCells zv.cells m:=⟨_,rfl⟩
 have hrun:(Builtin.append_ #[t,t'] o.type #[a.eval s,a.eval x]).run c.P w=.ok (.slice (some ⟨w.heap.size,0,none⟩) (es.length+k) (grownCap w (es.length+k) cp1 e)) (w.drew.alloc (.cells cells e)):=by
  have af:(es.length+k)*i.bytes≤140737488355328:=by rw[←hbi];exact hby
  have g1:=s6 c.P w.drew (fun _ _ h=>h);rw[s1,hci] at g1;have hfit:=growslice_fits hlt af;have hkb:k*i.bytes≤(es.length+k)*i.bytes:=Nat.mul_le_mul_right _ (by omega);rw[s1,t1,hcells,hm];exact Lib.run_append_grow_zeros w t t' o.type e i zv kx kt hu ht' hi hzv ad1 es.length cp1 olds g1 k hk0 (by rw[←hci];exact hpos) hlt (by simp only[maxLen] at hml;omega) (by omega) (by omega)
 have hcl:cells.toList=olds++((List.replicate k zv.cells.toList).flatten++(List.replicate m zv.cells.toList).flatten):=by
  rw[hcells];simp[wL]
 have hrc:ao w D E (.agg (es++(List.replicate k z++List.replicate m z))) cells.toList:=by
  rw[hcl];simp only[ao];exact lu _ _ _ _ s4 (lu _ _ _ _ t4 (tI (hzr w D E) m))
 have hsim':bg c A a w.drew D E:=hsim.grow ⟨rfl,rfl,rfl,zz9 _,fun _ _=>rfl⟩ (fun _ _ h=>h) (fun _ _ h _=>h) (fun b o h=>hsim.aK b o h);have hrc':ao w.drew D E (.agg (es++(List.replicate k z++List.replicate m z))) cells.toList:=ao.later (w:=w) (w':=w.drew) (D:=D) (E:=E) ⟨fun _ _ h=>h,fun _ _ _ _ h=>h,fun _ _ _ h=>h,fun _ aP l h=>⟨aP,l,h,zz9 _,fun _=>rfl⟩,fun _ _ h=>h,fun _ _ h=>h,fun _ _ _ _ h=>h⟩ _ _ hrc;have U:=hsim'.th (T:=e) (.inl hdn) hf hrc';have hall:∀ y∈es++(List.replicate k z++List.replicate m z),y.size=c.P.cellsOf e:=by
  intro y hy;rcases zy8.1 hy with hy | hy
  ·exact s5 y hy
  ·rcases zy8.1 hy with hy | hy
   ·exact t5 y hy
   ·rw[List.eq_of_mem_replicate hy];exact hzs
 have hlen:(es++(List.replicate k z++List.replicate m z)).length=es.length+k+m:=by simp[Nat.add_assoc]
 have ab:=U.put (d:=d) (x:=.view d [] (c.P.cellsOf e) 0 (es.length+k)) (v:=.slice (some ⟨w.heap.size,0,none⟩) (es.length+k) (grownCap w (es.length+k) cp1 e)) hdn ⟨_,by simp[bI,I.isAgg];rfl,by
  simp only[ao,if_true];refine ⟨w.heap.size,(I.agg (es++(List.replicate k z++List.replicate m z))).bh,0,I.cZ (es++(List.replicate k z++List.replicate m z)),rfl,by cases (I.agg (es++(List.replicate k z++List.replicate m z))).bh <;>simp[cW.off],by simp only[I.bh,cW.part],?_,?_,?_,?_⟩
  ·rw[I.dA,zz8,hlen,hm];simp;omega
  ·rw[I.dA,zz8,hlen];omega
  ·rw[I.dA,zz8,hlen];omega
  ·rw[I.dA];intro s hs;obtain ⟨f,hf,rfl⟩:=zy7.1 hs;rw[I.mJ];exact hall f hf⟩
 refine ⟨.slice (some ⟨w.heap.size,0,none⟩) (es.length+k) (grownCap w (es.length+k) cp1 e),w.drew.alloc (.cells cells e),m,?_,by omega,?_⟩
 ·unfold execOp;simp only[ho,resolve,invoke,builtin,Sem.run_bind,Sem.run_pure,Result.andThen_ok,List.map_toArray,zz7,zx8,hrun]
 ·rw[ah];exact ⟨D,_,ab⟩
theorem OF{t e:TypeId}{s x:Operand}{s' x':aV}{ys:List I}{n:Nat}{p:List Nat}{lo k:Nat}{b:I}{fs:List I}(ho:o.op=.call { callee:=.builtin .append,args := #[s,x],argTypes := #[t,t] })(hu:c.P.underlying t=some (.slice e))(hi:(c.P.info? e).isSome=true)
  (hs':bF c.P t s=some s') (hx':bF c.P t x=some x') (hv:al A s'=.view n p (c.P.cellsOf e) lo k) (hn:A.o n=some (.box b)) (hat:b.at p=some (.agg fs)) (hsx:eI A (c.P.cellsOf e) (al A x')=some ys) (hroom:lo+k+ys.length≤fs.length)
  (hsh:I.cZ ys=I.cZ ((fs.drop (lo+k)).take ys.length)) (hdn:∀ k,o.dst=some k→k<c.n) :
  iW c A o ((A.aZ n (.box (jL b p (lo+k) fs ys))).a8 o.dst (.view n p (c.P.cellsOf e) lo (k+ys.length))):=by
 intro a w D E hsim;obtain ⟨i,hi⟩:=zx4.1 hi;have hci:c.P.cellsOf e=i.size:=by simp[Program.cellsOf,hi]
 have bf:=b5 hsim hs';rw[hv] at bf;have hxx:cM A (.ptr n p)=some (.agg fs):=by simp only[cM,hn,hat]
 obtain ⟨yy,bk,cs,T,off,c1,c2,c3,k1,k2,k3,k4,k5,k6,k7,k8,k9,k10,k11,k12,hval⟩:=hsim.view bf hxx;rw[hn] at k1;simp only[u8,ak.box.injEq] at k1;subst k1;obtain ⟨ad2,cp2,news,t1,t2,t3,t4,t5,t6⟩:=qP hsim (b5 hsim hx') hsx;obtain ⟨w',U,ab⟩:=hsim.jL (j:=lo+k) (ys:=ys) hn k2 k3 k4 k5 k6 k7 k8 k9 k10 t4 hroom hsh c.P;have g2:=t6 c.P w (fun _ _ h=>h);rw[t1,hci] at g2;have hr:k+ys.length≤fs.length-lo:=by omega
 refine ⟨w',.inl ⟨.slice (some ⟨bk,off+lo*c.P.cellsOf e,none⟩) (k+ys.length) (fs.length-lo),?_,D,E,ab.a8 hdn ?_⟩⟩
 ·have e1:off+lo*i.size+k*i.size=off+(lo+k)*c.P.cellsOf e:=by rw[hci,Nat.add_mul];omega
  unfold execOp;simp only[ho,resolve,invoke,builtin,Sem.run_bind,Sem.run_pure,Result.andThen_ok,List.map_toArray,zz7,zx8,hval,t1];simp[Builtin.append_,run_underlying hu,sizeOf,typeInfo,hi,Builtin.lenOf,hr,g2,Addr.add_lit,hci,e1];rw[hci] at U;simp[U]
 ·refine ⟨_,by simp[bI,I.isAgg];rfl,?_⟩;simp only[ao];refine ⟨bk,b.bh,off,I.cZ fs,k2,k5,nV p b _ k4,?_,?_,?_,?_⟩
  ·rw[I.dA,zz8]
  ·rw[I.dA,zz8];exact k12
  ·rw[I.dA,zz8];omega
  ·rw[I.dA];intro s hs;obtain ⟨f,hf,rfl⟩:=zy7.1 hs;rw[I.mJ];exact k10 f hf
theorem OG{t e:TypeId}{s x:Operand}{s' x':aV}{es:List I}(ho:o.op=.call { callee:=.builtin .append,args := #[s,x],argTypes := #[t,t] })(hu:c.P.underlying t=some (.slice e))(hi:(c.P.info? e).isSome=true)(hs':bF c.P t s=some s')(hx':bF c.P t x=some x')
  (hse:eI A (c.P.cellsOf e) (al A s')=some es) (hsx:eI A (c.P.cellsOf e) (al A x')=some []):dP c A o (al A s') :=
 .same fun a w D E hsim=>by
  obtain ⟨i,hi⟩:=zx4.1 hi;have hci:c.P.cellsOf e=i.size:=by simp[Program.cellsOf,hi]
  obtain ⟨ad1,cp1,olds,s1,s2,s3,s4,s5,s6⟩:=qP hsim (b5 hsim hs') hse;obtain ⟨ad2,cp2,news,t1,t2,t3,t4,t5,t6⟩:=qP hsim (b5 hsim hx') hsx;have g2:=t6 c.P w (fun _ _ h=>h);rw[t1,hci] at g2;simp only[aU] at t4;subst t4;refine ⟨a.eval s,?_,b5 hsim hs'⟩;simp only[List.length_nil] at g2 t1;unfold execOp;simp only[ho,resolve,invoke,builtin,Sem.run_bind,Sem.run_pure,Result.andThen_ok,List.map_toArray,zz7,zx8,s1,t1];cases ad1 <;>simp[Builtin.append_,run_underlying hu,sizeOf,typeInfo,hi,Builtin.lenOf,s2,g2,storeCells]
end
end Go.Abs
