/-
  A part of the proof that the law HerdJoins returns true for every input; conditions: none beyond the statement's own. (part 1 of 7)
-/
import Derived.WalkKit
import Derived.Orders
import Derived.Still
import Derived.RangeFuncSeq
import Derived.RangeFuncLeaves
import Derived.RangeFuncOwn
import Derived.Great.FillDense
import Derived.Great.BuildSlice
import Derived.ChangeKeysEq
import Derived.Laws.AppendOwn
import Derived.Lib.AppendZerosOnto
set_option linter.unusedSimpArgs false
set_option linter.unusedVariables false
set_option maxHeartbeats 16000000
set_option maxRecDepth 100000
namespace Go.Abs
open Go
inductive I where
 |undef | df
 |bool (b:Bool)
 |int (k:IntKind) (n:Int)
 |cY (s:ByteArray)
 |nilp | dh | dX
 |raw (v:Value)
 |nils (sz:Nat)
 |c0 (sz:Nat)
 |slice (sz:Nat) (es:List I)
 |agg (fs:List I)
 |tuple (fs:List I)
 |ref (c:I)
 |func (f:FuncId) (caps:List I)
 |iface (t:TypeId) (v:I)
 |ptr (n:Nat) (p:List Nat)
 |own (n:Nat) (k:Nat)
 |view (n:Nat) (p:List Nat) (sz lo k:Nat)
 |mref (n:Nat)
 |dv (n:Nat)
 |cT (ks vs:List I)
 deriving Inhabited
inductive cO where
 |one
 |ej (l:List cO)
 deriving Inhabited
mutual
def cO.size:cO→Nat
 | .one=>1
 | .ej l=>cO.sizes l
def cO.sizes:List cO→Nat
 | []=>0
 |s::l=>s.size+cO.sizes l
end
mutual
def I.aP:I→cO
 | .agg fs=>.ej (I.cK fs)
 |_=>.one
def I.cK:List I→List cO
 | []=>[]
 |f::fs=>f.aP::I.cK fs
end
mutual
def I.size:I→Nat
 | .agg fs=>I.sizes fs
 |_=>1
def I.sizes:List I→Nat
 | []=>0
 |f::fs=>f.size+I.sizes fs
end
def I.isAgg:I→Bool
 | .agg _=>true
 |_=>false
def cO.off:cO→List Nat→Option Nat
 |_,[]=>some 0
 | .one,_::_=>none
 | .ej l,i::p=>match l[i]? with
  |some s=>(s.off p).map (cO.sizes (l.take i) + ·)
  |none=>none
def cO.part:cO→List Nat→Option cO
 |s,[]=>some s
 | .one,_::_=>none
 | .ej l,i::p=>match l[i]? with
  |some s=>s.part p
  |none=>none
def I.at:I→List Nat→Option I
 |c,[]=>some c
 | .agg fs,i::p=>match fs[i]? with
  |some f=>f.at p
  |none=>none
 |_,_::_=>none
def I.dz:I→List Nat→I→I
 |_,[],v=>v
 | .agg fs,i::p,v=>match fs[i]? with
  |some f=>.agg (fs.set i (f.dz p v))
  |none=>.agg fs
 |c,_::_,_=>c
inductive bU where
 |aC (b:Nat) (aP:cO)
 |rw (aE:Option (Nat×Nat)) (len:Nat)
 |op (b:Nat)
 |cz (b:Nat)
 |it (b:Nat)
def bU.eS:bU→Bool
 | .rw _ _=>false
 |_=>true
def bU.le(e e':bU):Prop:=e'=e∨∃ aE l blk' l',e=.rw aE l∧e'=.rw blk' l'∧l≤l'∧(l'=l→blk'=aE)
theorem bU.le.refl(e:bU):e.le e:=.inl rfl
theorem bU.le.eq{e e':bU}(h:e.le e')(hf:e.eS=true):e'=e:=by
 rcases h with h | ⟨aE,l,blk',l',rfl,_⟩
 ·exact h
 ·cases hf
theorem bU.le.trans{a b c:bU}(h:a.le b)(k:b.le c):a.le c:=by
 rcases h with rfl | ⟨aE,l,blk',l',rfl,rfl,h1,h2⟩
 ·exact k
 ·rcases k with rfl | ⟨_,_,blk2,l2,e,rfl,h3,h4⟩
  ·exact .inr ⟨aE,l,blk',l',rfl,rfl,h1,h2⟩
  ·cases e
   exact .inr ⟨aE,l,blk2,l2,rfl,rfl,by omega,fun e=>by rw[h4 (by omega),h2 (by omega)]⟩
abbrev aN:=Nat→Nat→Prop
abbrev aZ:=Nat→Option bU
def gV(w:World)(D:aN)(b off:Nat)(cs:List Value):Prop :=
 ∀ j v,cs[j]?=some v→w.cell? ⟨b,off+j,none⟩=some v∧D b (off+j)
def qw(es:Array MapEntry)(clock:Nat):Prop:=(∀ x∈es.toList,x.born<clock)∧(es.toList.map (·.born)).Nodup
def oL(w:World)(D:aN)(b:Nat)(es:Array MapEntry)(clock:Nat):Prop:=w.heap[b]?=some (.map es clock)∧D b 0∧qw es clock
def bK(e:I)(v:Value)(cs:List Value):Prop:=if e.isAgg then v=.agg cs.toArray else cs=[v]
mutual
/-- These cells hold this value. -/
def ah(w:World)(D:aN)(E:aZ):I→List Value→Prop
 | .agg fs,cs=>aG w D E fs cs
 | .bool b,cs=>cs=[.bool b]
 | .int k n,cs=>cs=[.int k n]∧k.min≤n∧n≤k.max
 | .cY s,cs=>cs=[.string s]∧s.size≤maxLen
 | .nilp,cs=>cs=[.pointer none]
 | .dh,cs=>cs=[.nilFunc]
 | .dX,cs=>cs=[.nilIface]
 | .raw u,cs=>cs=[u]∧u.oneCell'=true
 | .nils _,cs=>cs=[.slice none 0 0]
 | .c0 _,cs=>∃ a,cs=[.slice a 0 0]
 | .slice sz es,cs=>∃ a cap,cs=[.slice a es.length cap]∧es.length≤cap∧cap≤maxLen ∧
   (es=[]∨∃ b off cs',a=some ⟨b,off,none⟩∧gV w D b off cs'∧aG w D E es cs')∧∀ e∈es,e.size=sz
 | .ref c,cs=>∃ b off cs',cs=[.pointer (some ⟨b,off,none⟩)]∧gV w D b off cs'∧ah w D E c cs'
 | .func f caps,cs=>∃ vs:List Value,cs=[.func (.func f) #[] vs.toArray]∧aF w D E caps vs
 | .iface t v,cs=>∃ u cs',cs=[.iface t u]∧bK v u cs'∧ah w D E v cs'
 | .ptr n p,cs=>∃ b aP off,E n=some (.aC b aP)∧aP.off p=some off∧cs=[.pointer (some ⟨b,off,none⟩)]
 | .own n k,cs=>∃ aE l,E n=some (.rw aE l)∧k≤l∧(∃ a m c,cs=[.slice a m c]) ∧
   (k=l→match aE with | none=>cs=[.slice none 0 0] | some (b,cap)=>cs=[.slice (some ⟨b,0,none⟩) k cap])
 | .view n p sz lo k,cs=>∃ b aP off l,E n=some (.aC b aP)∧aP.off p=some off∧aP.part p=some (.ej l)∧cs=[.slice (some ⟨b,off+lo*sz,none⟩) k (l.length-lo)]∧l.length≤maxLen∧lo+k≤l.length∧∀ s∈l,s.size=sz
 | .mref n,cs=>∃ b,E n=some (.cz b)∧cs=[.map (some b)]
 | .dv n,cs=>∃ b,E n=some (.it b)∧cs=[.pointer (some ⟨b,0,none⟩)]
 | .cT ks vs,cs=>∃ b es clock,cs=[.map (some b)]∧oL w D b es clock∧aF w D E ks (es.toList.map (·.key))∧aF w D E vs (es.toList.map (·.val))
 | .undef,_ | .df,_ | .tuple _,_=>False
def aG(w:World)(D:aN)(E:aZ):List I→List Value→Prop
 | [],cs=>cs=[]
 |e::es,cs=>∃ c1 c2,cs=c1++c2∧ah w D E e c1∧aG w D E es c2
def aF(w:World)(D:aN)(E:aZ):List I→List Value→Prop
 | [],vs=>vs=[]
 |e::es,vs=>∃ v rest cs,vs=v::rest∧bK e v cs∧ah w D E e cs∧aF w D E es rest
end
def aW(w:World)(D:aN)(E:aZ)(x:I)(v:Value):Prop :=
 match x with
 | .undef=>v=undef
 | .df=>True
 | .tuple fs=>∃ vs:List Value,v=.tuple vs.toArray∧aF w D E fs vs
 |x=>∃ cs,bK x v cs∧ah w D E x cs
structure dS (w:World) (D:aN) (E:aZ) (w':World) (D':aN) (E':aZ):Prop where
 c6:∀ b o,D b o→D' b o
 cell:∀ b o v,D b o→w.cell? ⟨b,o,none⟩=some v→w'.cell? ⟨b,o,none⟩=some v
 aC:∀ n b aP,E n=some (.aC b aP)→E' n=some (.aC b aP)
 rw:∀ n aE l,E n=some (.rw aE l)→∃ blk' l',E' n=some (.rw blk' l')∧l≤l'∧(l'=l→blk'=aE)
 cz:∀ n b,E n=some (.cz b)→E' n=some (.cz b)
 it:∀ n b,E n=some (.it b)→E' n=some (.it b)
 jC:∀ b es ck,D b 0→w.heap[b]?=some (.map es ck)→w'.heap[b]?=some (.map es ck)
structure iD (w:World) (D:aN) (w':World):Prop where
 cell:∀ b o v,D b o→w.cell? ⟨b,o,none⟩=some v→w'.cell? ⟨b,o,none⟩=some v
 jC:∀ b es ck,D b 0→w.heap[b]?=some (.map es ck)→w'.heap[b]?=some (.map es ck)
theorem iD.refl(w:World)(D:aN):iD w D w:=⟨fun _ _ _ _ h=>h,fun _ _ _ _ h=>h⟩
theorem iD.trans{w w' w'':World}{D D':aN}(h:iD w D w')(hD:∀ b o,D b o→D' b o)(k:iD w' D' w''):iD w D w'' :=
 ⟨fun b o v hd hv=>k.cell b o v (hD b o hd) (h.cell b o v hd hv),fun b es ck hd hm=>k.jC b es ck (hD b 0 hd) (h.jC b es ck hd hm)⟩
theorem dS.fL{w w':World}{D D':aN}{E E':aZ}(h:dS w D E w' D' E'):iD w D w':=⟨h.cell,h.jC⟩
theorem oL.bL{w w':World}{D D':aN}{E E':aZ}(h:dS w D E w' D' E'){b:Nat}{es:Array MapEntry}{clock:Nat}(hr:oL w D b es clock):oL w' D' b es clock :=
 ⟨h.jC _ _ _ hr.2.1 hr.1,h.c6 _ _ hr.2.1,hr.2.2⟩
theorem gV.bL{w w':World}{D D':aN}{E E':aZ}(h:dS w D E w' D' E'){b off:Nat}{cs:List Value}(hr:gV w D b off cs):gV w' D' b off cs :=
 fun j v hj=>⟨h.cell _ _ _ (hr j v hj).2 (hr j v hj).1,h.c6 _ _ (hr j v hj).2⟩
mutual
theorem ah.bL{w w':World}{D D':aN}{E E':aZ}(h:dS w D E w' D' E'):∀ (x:I) (cs:List Value),ah w D E x cs→ah w' D' E' x cs
 | .agg fs,cs,hr=>by simp only[ah] at *;exact aG.bL h fs cs hr
 | .bool b,cs,hr=>by simpa only[ah] using hr
 | .int k n,cs,hr=>by simpa only[ah] using hr
 | .cY s,cs,hr=>by simpa only[ah] using hr
 | .nilp,cs,hr=>by simpa only[ah] using hr
 | .dh,cs,hr=>by simpa only[ah] using hr
 | .dX,cs,hr=>by simpa only[ah] using hr
 | .raw _,cs,hr=>by simpa only[ah] using hr
 | .nils _,cs,hr=>by simpa only[ah] using hr
 | .c0 _,cs,hr=>by simpa only[ah] using hr
 | .slice sz es,cs,hr=>by
  simp only[ah] at *
  obtain ⟨a,cap,h1,h2,h3,h4,h5⟩:=hr
  refine ⟨a,cap,h1,h2,h3,?_,h5⟩
  rcases h4 with h4 | ⟨b,off,cs',h6,h7,h8⟩
  ·exact .inl h4
  ·exact .inr ⟨b,off,cs',h6,h7.bL h,aG.bL h es cs' h8⟩
 | .ref c,cs,hr=>by
  simp only[ah] at *
  obtain ⟨b,off,cs',h1,h2,h3⟩:=hr
  exact ⟨b,off,cs',h1,h2.bL h,ah.bL h c cs' h3⟩
 | .func f caps,cs,hr=>by
  simp only[ah] at *
  obtain ⟨vs,h1,h2⟩:=hr
  exact ⟨vs,h1,aF.bL h caps vs h2⟩
 | .iface t v,cs,hr=>by
  simp only[ah] at *
  obtain ⟨u,cs',h1,h2,h3⟩:=hr
  exact ⟨u,cs',h1,h2,ah.bL h v cs' h3⟩
 | .ptr n p,cs,hr=>by
  simp only[ah] at *
  obtain ⟨b,aP,off,h1,h2,h3⟩:=hr
  exact ⟨b,aP,off,h.aC _ _ _ h1,h2,h3⟩
 | .own n k,cs,hr=>by
  simp only[ah] at *
  obtain ⟨aE,l,h1,h2,h3,h4⟩:=hr
  obtain ⟨blk',l',h5,h6,h7⟩:=h.rw _ _ _ h1
  refine ⟨blk',l',h5,Nat.le_trans h2 h6,h3,fun e =>?_⟩
  have e1:l'=l:=by omega
  rw[h7 e1]
  exact h4 (by omega)
 | .view n p _ _ _,cs,hr=>by
  simp only[ah] at *
  obtain ⟨b,aP,off,l,h1,h2⟩:=hr
  exact ⟨b,aP,off,l,h.aC _ _ _ h1,h2⟩
 | .mref n,cs,hr=>by
  simp only[ah] at *
  obtain ⟨b,h1,h2⟩:=hr
  exact ⟨b,h.cz _ _ h1,h2⟩
 | .dv n,cs,hr=>by
  simp only[ah] at *
  obtain ⟨b,h1,h2⟩:=hr
  exact ⟨b,h.it _ _ h1,h2⟩
 | .cT ks vs,cs,hr=>by
  simp only[ah] at *
  obtain ⟨b,es,clock,h1,h2,h3,h4⟩:=hr
  exact ⟨b,es,clock,h1,h2.bL h,aF.bL h ks _ h3,aF.bL h vs _ h4⟩
 | .undef,_,hr=>by simp only[ah] at hr
 | .df,_,hr=>by simp only[ah] at hr
 | .tuple _,_,hr=>by simp only[ah] at hr
theorem aG.bL{w w':World}{D D':aN}{E E':aZ}(h:dS w D E w' D' E'):∀ (xs:List I) (cs:List Value),aG w D E xs cs→aG w' D' E' xs cs
 | [],cs,hr=>by simpa only[aG] using hr
 |x::xs,cs,hr=>by
  simp only[aG] at *
  obtain ⟨c1,c2,h1,h2,h3⟩:=hr
  exact ⟨c1,c2,h1,ah.bL h x c1 h2,aG.bL h xs c2 h3⟩
theorem aF.bL{w w':World}{D D':aN}{E E':aZ}(h:dS w D E w' D' E'):∀ (xs:List I) (vs:List Value),aF w D E xs vs→aF w' D' E' xs vs
 | [],vs,hr=>by simpa only[aF] using hr
 |x::xs,vs,hr=>by
  simp only[aF] at *
  obtain ⟨v,rest,cs,h1,h2,h3,h4⟩:=hr
  exact ⟨v,rest,cs,h1,h2,ah.bL h x cs h3,aF.bL h xs rest h4⟩
end
theorem aW.bL{w w':World}{D D':aN}{E E':aZ}(h:dS w D E w' D' E'){x:I}{v:Value}(hr:aW w D E x v):aW w' D' E' x v:=by
 cases x <;>simp only[aW] at * <;>first
  |exact hr
  |(obtain ⟨vs,h1,h2⟩:=hr;exact ⟨vs,h1,aF.bL h _ _ h2⟩)
  |(obtain ⟨cs,h1,h2⟩:=hr;exact ⟨cs,h1,ah.bL h _ _ h2⟩)
mutual
theorem I.mg:∀ x:I,x.aP.size=x.size
 | .agg fs=>by simp only[I.aP,I.size,cO.size];exact I.nc fs
 | .undef | .df | .bool _ | .int _ _ | .cY _ | .nilp | .dh | .dX | .raw _ | .nils _ | .c0 _ | .slice _ _ | .tuple _ | .ref _ | .func _ _ | .iface _ _ | .ptr _ _ | .own _ _ | .view _ _ _ _ _ | .mref _ | .dv _ | .cT _ _=>by simp only[I.aP,I.size,cO.size]
theorem I.nc:∀ xs:List I,cO.sizes (I.cK xs)=I.sizes xs
 | []=>by simp only[I.cK,I.sizes,cO.sizes]
 |x::xs=>by simp only[I.cK,I.sizes,cO.sizes];rw[I.mg x,I.nc xs]
end
mutual
theorem ah.length{w:World}{D:aN}{E:aZ} : ∀ (x:I) (cs:List Value),ah w D E x cs→cs.length=x.size
 | .agg fs,cs,hr=>by simp only[ah,I.size] at *;exact aG.length fs cs hr
 | .bool b,cs,hr=>by simp only[ah] at hr;simp[hr,I.size]
 | .int k n,cs,hr=>by simp only[ah] at hr;simp[hr.1,I.size]
 | .cY s,cs,hr=>by simp only[ah] at hr;simp[hr.1,I.size]
 | .nilp,cs,hr=>by simp only[ah] at hr;simp[hr,I.size]
 | .dh,cs,hr=>by simp only[ah] at hr;simp[hr,I.size]
 | .dX,cs,hr=>by simp only[ah] at hr;simp[hr,I.size]
 | .raw u,cs,hr=>by simp only[ah] at hr;simp[hr.1,I.size]
 | .nils _,cs,hr=>by simp only[ah] at hr;simp[hr,I.size]
 | .c0 _,cs,hr=>by simp only[ah] at hr;obtain ⟨a,rfl⟩:=hr;simp[I.size]
 | .slice sz es,cs,hr=>by simp only[ah] at hr;obtain ⟨a,cap,rfl,_⟩:=hr;simp[I.size]
 | .ref c,cs,hr=>by simp only[ah] at hr;obtain ⟨b,off,cs',rfl,_⟩:=hr;simp[I.size]
 | .func f caps,cs,hr=>by simp only[ah] at hr;obtain ⟨vs,rfl,_⟩:=hr;simp[I.size]
 | .iface t v,cs,hr=>by simp only[ah] at hr;obtain ⟨u,cs',rfl,_⟩:=hr;simp[I.size]
 | .ptr n p,cs,hr=>by simp only[ah] at hr;obtain ⟨b,aP,off,_,_,rfl⟩:=hr;simp[I.size]
 | .own n k,cs,hr=>by simp only[ah] at hr;obtain ⟨aE,l,_,_,⟨a,m,c,rfl⟩,_⟩:=hr;simp[I.size]
 | .view n p _ _ _,cs,hr=>by simp only[ah] at hr;obtain ⟨b,aP,off,l,_,_,_,rfl,_⟩:=hr;simp[I.size]
 | .mref n,cs,hr=>by simp only[ah] at hr;obtain ⟨b,_,rfl⟩:=hr;simp[I.size]
 | .dv n,cs,hr=>by simp only[ah] at hr;obtain ⟨b,_,rfl⟩:=hr;simp[I.size]
 | .cT ks vs,cs,hr=>by simp only[ah] at hr;obtain ⟨b,es,ck,rfl,_⟩:=hr;simp[I.size]
 | .undef,_,hr=>by simp only[ah] at hr
 | .df,_,hr=>by simp only[ah] at hr
 | .tuple _,_,hr=>by simp only[ah] at hr
theorem aG.length{w:World}{D:aN}{E:aZ} : ∀ (xs:List I) (cs:List Value),aG w D E xs cs→cs.length=I.sizes xs
 | [],cs,hr=>by simp only[aG] at hr;simp[hr,I.sizes]
 |x::xs,cs,hr=>by
  simp only[aG] at hr
  obtain ⟨c1,c2,rfl,h1,h2⟩:=hr
  simp only[List.length_append,I.sizes,ah.length x c1 h1,aG.length xs c2 h2]
end
mutual
theorem ah.mR{w:World}{D:aN}{E:aZ} : ∀ (x:I) (cs:List Value),ah w D E x cs→∀ v∈cs,v.oneCell'=true
 | .agg fs,cs,hr=>by simp only[ah] at hr;exact aG.mR fs cs hr
 | .bool b,cs,hr=>by simp only[ah] at hr;simp[hr,Value.oneCell']
 | .int k n,cs,hr=>by simp only[ah] at hr;simp[hr.1,Value.oneCell']
 | .cY s,cs,hr=>by simp only[ah] at hr;simp[hr.1,Value.oneCell']
 | .nilp,cs,hr=>by simp only[ah] at hr;simp[hr,Value.oneCell']
 | .dh,cs,hr=>by simp only[ah] at hr;simp[hr,Value.oneCell']
 | .dX,cs,hr=>by simp only[ah] at hr;simp[hr,Value.oneCell']
 | .raw u,cs,hr=>by simp only[ah] at hr;simpa[hr.1] using hr.2
 | .nils _,cs,hr=>by simp only[ah] at hr;simp[hr,Value.oneCell']
 | .c0 _,cs,hr=>by simp only[ah] at hr;obtain ⟨a,rfl⟩:=hr;simp[Value.oneCell']
 | .slice sz es,cs,hr=>by simp only[ah] at hr;obtain ⟨a,cap,rfl,_⟩:=hr;simp[Value.oneCell']
 | .ref c,cs,hr=>by simp only[ah] at hr;obtain ⟨b,off,cs',rfl,_⟩:=hr;simp[Value.oneCell']
 | .func f caps,cs,hr=>by simp only[ah] at hr;obtain ⟨vs,rfl,_⟩:=hr;simp[Value.oneCell']
 | .iface t v,cs,hr=>by simp only[ah] at hr;obtain ⟨u,cs',rfl,_⟩:=hr;simp[Value.oneCell']
 | .ptr n p,cs,hr=>by simp only[ah] at hr;obtain ⟨b,aP,off,_,_,rfl⟩:=hr;simp[Value.oneCell']
 | .own n k,cs,hr=>by simp only[ah] at hr;obtain ⟨aE,l,_,_,⟨a,m,c,rfl⟩,_⟩:=hr;simp[Value.oneCell']
 | .view n p _ _ _,cs,hr=>by simp only[ah] at hr;obtain ⟨b,aP,off,l,_,_,_,rfl,_⟩:=hr;simp[Value.oneCell']
 | .mref n,cs,hr=>by simp only[ah] at hr;obtain ⟨b,_,rfl⟩:=hr;simp[Value.oneCell']
 | .dv n,cs,hr=>by simp only[ah] at hr;obtain ⟨b,_,rfl⟩:=hr;simp[Value.oneCell']
 | .cT ks vs,cs,hr=>by simp only[ah] at hr;obtain ⟨b,es,ck,rfl,_⟩:=hr;simp[Value.oneCell']
 | .undef,_,hr=>by simp only[ah] at hr
 | .df,_,hr=>by simp only[ah] at hr
 | .tuple _,_,hr=>by simp only[ah] at hr
theorem aG.mR{w:World}{D:aN}{E:aZ} : ∀ (xs:List I) (cs:List Value),aG w D E xs cs→∀ v∈cs,v.oneCell'=true
 | [],cs,hr=>by simp only[aG] at hr;simp[hr]
 |x::xs,cs,hr=>by
  simp only[aG] at hr
  obtain ⟨c1,c2,rfl,h1,h2⟩:=hr
  intro v hv
  rcases List.mem_append.1 hv with h | h
  ·exact ah.mR x c1 h1 v h
  ·exact aG.mR xs c2 h2 v h
end
theorem bK.cells{x:I}{v:Value}{cs:List Value}{w:World}{D:aN}{E:aZ}(h:bK x v cs)(hr:ah w D E x cs):v.cells.toList=cs:=by
 unfold bK at h
 split at h
 ·rw[h];simp[Value.cells]
 ·subst h
  have:=ah.mR x _ hr v (by simp)
  cases v <;>simp[Value.cells,Value.oneCell'] at *
theorem mV{w:World}{D:aN}{E:aZ} : ∀ (xs:List I) (cs:List Value) (i:Nat) (x:I),aG w D E xs cs→xs[i]?=some x →
  ∃ c1 c2 c3,cs=c1++c2++c3∧c1.length=I.sizes (xs.take i)∧aG w D E (xs.take i) c1∧ah w D E x c2∧aG w D E (xs.drop (i+1)) c3
 | [],_,i,x,_,h=>by simp at h
 |y::ys,cs,0,x,hr,h=>by
  simp only[List.getElem?_cons_zero,Option.some.injEq] at h
  subst h
  simp only[aG] at hr
  obtain ⟨c1,c2,rfl,h1,h2⟩:=hr
  exact ⟨[],c1,c2,by simp,by simp[I.sizes],by simp[aG],h1,by simpa using h2⟩
 |y::ys,cs,i+1,x,hr,h=>by
  simp only[List.getElem?_cons_succ] at h
  simp only[aG] at hr
  obtain ⟨c0,c',rfl,h1,h2⟩:=hr
  obtain ⟨c1,c2,c3,rfl,h3,h4,h5,h6⟩:=mV ys c' i x h2 h
  refine ⟨c0++c1,c2,c3,by simp,?_,?_,h5,by simpa using h6⟩
  ·simp only[List.length_append,List.take_succ_cons,I.sizes,h3,ah.length y c0 h1]
  ·simp only[List.take_succ_cons,aG]
   exact ⟨c0,c1,rfl,h1,h4⟩
theorem kE{w:World}{D:aN}{E:aZ} : ∀ (xs ys:List I) (cs ds:List Value),aG w D E xs cs→aG w D E ys ds→aG w D E (xs++ys) (cs++ds)
 | [],ys,cs,ds,h,k=>by simp only[aG] at h;subst h;simpa using k
 |x::xs,ys,cs,ds,h,k=>by
  simp only[aG,List.cons_append] at *
  obtain ⟨c1,c2,rfl,h1,h2⟩:=h
  exact ⟨c1,c2++ds,by simp,h1,kE xs ys c2 ds h2 k⟩
theorem I.iB{sz:Nat} : ∀ (xs:List I),(∀ x∈xs,x.size=sz)→I.sizes xs=xs.length*sz
 | [],_=>by simp[I.sizes]
 |x::xs,h=>by
  simp only[I.sizes,List.length_cons]
  rw[h x (by simp),I.iB xs (fun y hy=>h y (by simp[hy])),Nat.add_mul]
  omega
theorem I.dn:∀ xs:List I,I.cK xs=xs.map I.aP
 | []=>by simp[I.cK]
 |x::xs=>by simp[I.cK,I.dn xs]
theorem ze{w:World}{D:aN}{E:aZ} : ∀ (p:List Nat) (c x:I) (cs:List Value),ah w D E c cs→c.at p=some x →
  ∃ off c1 c2 c3,c.aP.off p=some off∧cs=c1++c2++c3∧c1.length=off∧ah w D E x c2
 | [],c,x,cs,hr,h=>by
  simp only[I.at,Option.some.injEq] at h
  subst h
  exact ⟨0,[],cs,[],by cases c.aP <;>simp[cO.off],by simp,rfl,hr⟩
 |i::p,.agg fs,x,cs,hr,h=>by
  simp only[I.at] at h
  simp only[ah] at hr
  cases hf:fs[i]? with
  |none=>simp[hf] at h
  |some f =>
   simp only[hf] at h
   obtain ⟨c1,c2,c3,rfl,h1,_,h3,_⟩:=mV fs cs i f hr hf
   obtain ⟨off,d1,d2,d3,h4,rfl,h6,h7⟩:=ze p f x c2 h3 h
   refine ⟨I.sizes (fs.take i)+off,c1++d1,d2,d3++c3,?_,by simp,by simp[h1,h6],h7⟩
   simp only[I.aP,cO.off,I.dn,List.getElem?_map,hf,Option.map_some,h4]
   rw[←List.map_take,←I.dn,I.nc]
 |_::_,.undef,_,_,_,h | _::_,.df,_,_,_,h | _::_,.bool _,_,_,_,h | _::_,.int _ _,_,_,_,h | _::_,.cY _,_,_,_,h | _::_,.nilp,_,_,_,h
 |_::_,.dh,_,_,_,h | _::_,.dX,_,_,_,h | _::_,.raw _,_,_,_,h | _::_,.nils _,_,_,_,h | _::_,.c0 _,_,_,_,h | _::_,.slice _ _,_,_,_,h | _::_,.tuple _,_,_,_,h
 |_::_,.ref _,_,_,_,h | _::_,.func _ _,_,_,_,h | _::_,.iface _ _,_,_,_,h | _::_,.ptr _ _,_,_,_,h | _::_,.own _ _,_,_,_,h | _::_,.view _ _ _ _ _,_,_,_,h | _::_,.mref _,_,_,_,h | _::_,.dv _,_,_,_,h | _::_,.cT _ _,_,_,_,h=>by simp[I.at] at h
theorem uz{w:World}{D:aN}{E:aZ} : ∀ (p:List Nat) (c x y:I) (cs ds:List Value),ah w D E c cs→c.at p=some x→ah w D E y ds→y.aP=x.aP →
  ∃ off,c.aP.off p=some off∧off+ds.length≤cs.length∧ah w D E (c.dz p y) (cs.take off++ds++cs.drop (off+ds.length))∧(c.dz p y).aP=c.aP
 | [],c,x,y,cs,ds,hr,h,hy,hs=>by
  simp only[I.at,Option.some.injEq] at h
  subst h
  have hl:ds.length=cs.length:=by rw[ah.length _ _ hy,ah.length _ _ hr,←I.mg,←I.mg,hs]
  refine ⟨0,by cases c.aP <;>simp[cO.off],by omega,?_,by simpa[I.dz] using hs⟩
  simpa[I.dz,hl] using hy
 |i::p,.agg fs,x,y,cs,ds,hr,h,hy,hs=>by
  simp only[I.at] at h
  simp only[ah] at hr
  cases hf:fs[i]? with
  |none=>simp[hf] at h
  |some f =>
   simp only[hf] at h
   obtain ⟨c1,c2,c3,rfl,h1,h2,h3,h3'⟩:=mV fs cs i f hr hf
   obtain ⟨off,h4,h5,h6,h7⟩:=uz p f x y c2 ds h3 h hy hs
   have hi:i<fs.length:=(List.getElem?_eq_some_iff.1 hf).1
   have hfi:fs[i]=f:=(List.getElem?_eq_some_iff.1 hf).2
   refine ⟨I.sizes (fs.take i)+off,?_,?_,?_,?_⟩
   ·simp only[I.aP,cO.off,I.dn,List.getElem?_map,hf,Option.map_some,h4]
    rw[←List.map_take,←I.dn,I.nc]
   ·simp only[List.length_append,h1];omega
   ·simp only[I.dz,hf,ah]
    have e1:fs.set i (f.dz p y)=fs.take i++f.dz p y::fs.drop (i+1):=by rw[List.set_eq_take_append_cons_drop];simp[hi]
    rw[e1]
    have e2:(c1++c2++c3).take (I.sizes (fs.take i)+off)++ds++(c1++c2++c3).drop (I.sizes (fs.take i)+off+ds.length)=c1++((c2.take off++ds++c2.drop (off+ds.length))++c3):=by
     rw[←h1,List.append_assoc c1 c2 c3,List.take_length_add_append,Nat.add_assoc,List.drop_length_add_append,List.take_append_of_le_length (by omega),List.drop_append_of_le_length (by omega)]
     simp
    rw[e2]
    refine kE _ _ _ _ h2 ?_
    simp only[aG]
    exact ⟨_,_,rfl,h6,h3'⟩
   ·simp only[I.dz,hf,I.aP,I.dn,List.map_set,h7,cO.ej.injEq]
    apply List.ext_getElem?
    intro k
    rw[List.getElem?_set]
    split
    ·rename_i hk;subst hk;simp[hi,hfi]
    ·rfl
 |_::_,.undef,_,_,_,_,_,h,_,_ | _::_,.df,_,_,_,_,_,h,_,_ | _::_,.bool _,_,_,_,_,_,h,_,_ | _::_,.int _ _,_,_,_,_,_,h,_,_ | _::_,.cY _,_,_,_,_,_,h,_,_ | _::_,.nilp,_,_,_,_,_,h,_,_
 |_::_,.dh,_,_,_,_,_,h,_,_ | _::_,.dX,_,_,_,_,_,h,_,_ | _::_,.raw _,_,_,_,_,_,h,_,_ | _::_,.nils _,_,_,_,_,_,h,_,_ | _::_,.c0 _,_,_,_,_,_,h,_,_ | _::_,.slice _ _,_,_,_,_,_,h,_,_ | _::_,.tuple _,_,_,_,_,_,h,_,_
 |_::_,.ref _,_,_,_,_,_,h,_,_ | _::_,.func _ _,_,_,_,_,_,h,_,_ | _::_,.iface _ _,_,_,_,_,_,h,_,_ | _::_,.ptr _ _,_,_,_,_,_,h,_,_ | _::_,.own _ _,_,_,_,_,_,h,_,_ | _::_,.view _ _ _ _ _,_,_,_,_,_,h,_,_ | _::_,.mref _,_,_,_,_,_,h,_,_ | _::_,.dv _,_,_,_,_,_,h,_,_ | _::_,.cT _ _,_,_,_,_,_,h,_,_=>by simp[I.at] at h
theorem na:∀ (p:List Nat) (c x:I),c.at p=some x→c.aP.part p=some x.aP
 | [],c,x,h=>by simp only[I.at,Option.some.injEq] at h;subst h;cases c.aP <;>rfl
 |i::p,.agg fs,x,h=>by
  simp only[I.at] at h
  cases hf:fs[i]? with
  |none=>simp[hf] at h
  |some f =>
   simp only[hf] at h
   simp only[I.aP,cO.part,I.dn,List.getElem?_map,hf,Option.map_some]
   exact na p f x h
 |_::_,.undef,_,h | _::_,.df,_,h | _::_,.bool _,_,h | _::_,.int _ _,_,h | _::_,.cY _,_,h | _::_,.nilp,_,h
 |_::_,.dh,_,h | _::_,.dX,_,h | _::_,.raw _,_,h | _::_,.nils _,_,h | _::_,.c0 _,_,h | _::_,.slice _ _,_,h | _::_,.tuple _,_,h
 |_::_,.ref _,_,h | _::_,.func _ _,_,h | _::_,.iface _ _,_,h | _::_,.ptr _ _,_,h | _::_,.own _ _,_,h | _::_,.view _ _ _ _ _,_,h | _::_,.mref _,_,h | _::_,.dv _,_,h | _::_,.cT _ _,_,h=>by simp[I.at] at h
end Go.Abs
namespace Go.Abs
open Go Go.RowKit
inductive ai where
 |box (c:I)
 |bT (T:TypeId) (sz:Nat) (es:List I)
 |dO (o:Obj)
 |cz (ks vs:List I)
 |it (ks vs:List I) (left:List Nat) (cur:Option Nat)
 |cV (T:TypeId) (xs:List Int)
 deriving Inhabited
def ai.eS:ai→Bool
 | .it _ _ _ _=>false
 |_=>true
structure af where
 t:Nat→I
 o:Nat→Option ai
def af.put(A:af)(d:Nat)(v:I):af:=⟨fun k=>if k=d then v else A.t k,A.o⟩
def af.aJ(A:af)(d:Option Nat)(v:I):af:=match d with | some d=>A.put d v | none=>A
def af.aK(A:af)(n:Nat)(x:ai):af:=⟨A.t,fun k=>if k=n then some x else A.o k⟩
def cn:List (Nat×I)→Nat→I
 | [],_=>.df
 |(k,v)::r,t=>if t=k then v else cn r t
def al:List (Nat×ai)→Nat→Option ai
 | [],_=>none
 |(k,v)::r,t=>if t=k then some v else al r t
def av(ts:List (Nat×I))(os:List (Nat×ai)):af:=⟨cn ts,al os⟩
def au(os:List (Nat×ai))(n:Nat):Bool:=(al os n).isSome
abbrev cR:=I→List (Nat×ai)→Prop
structure cQ where
 P:Program
 fj:World
 D0:aN
 n:Nat
 own:Nat→Prop
 dK:aZ
 Y:Value→List I→List (Nat×ai)→cR→Prop
 mY:Option Nat
def iN:Value→List I→List (Nat×ai)→cR→Prop:=fun _ _ _ _=>False
def cQ.bt(c:cQ):Fence:=match c.mY with
 |none=>Fence.wide
 |some l=>Fence.wide.inRound l
def cQ.fm(c:cQ)(b:Nat):Prop:=c.fj.heap.size≤b∨c.own b
structure fQ (M:Nat→Prop) (w w':World):Prop where
 os:w'.os=w.os
 tape:w'.tape=w.tape
 output:w'.output=w.output
 size:w.heap.size≤w'.heap.size
 block:∀ k,¬ M k→w'.heap[k]?=w.heap[k]?
theorem fQ.refl(M:Nat→Prop)(w:World):fQ M w w:=⟨rfl,rfl,rfl,Nat.le_refl _,fun _ _=>rfl⟩
theorem fQ.trans{M:Nat→Prop}{a b c:World}(h:fQ M a b)(k:fQ M b c):fQ M a c :=
 ⟨k.os.trans h.os,k.tape.trans h.tape,k.output.trans h.output,Nat.le_trans h.size k.size,fun i hi=>(k.block i hi).trans (h.block i hi)⟩
theorem fQ.grow{M:Nat→Prop}{w w':World}{B:Nat}(h:Below B w w')(hB:∀ k,B≤k→M k):fQ M w w' :=
 ⟨h.os,h.tape,h.output,h.size,fun k hk=>h.block k (Nat.lt_of_not_le fun hle=>hk (hB k hle))⟩
theorem fQ.Rl{M:Nat→Prop}{w w':World}{B:Nat}(h:fQ M w w')(hB:∀ k,k<B→¬ M k):Below B w w' :=
 ⟨h.os,h.tape,h.output,h.size,fun k hk=>h.block k (hB k hk)⟩
def bU.aE:bU→Option Nat
 | .aC b _=>some b
 | .rw (some (b,_)) _=>some b
 | .rw none _=>none
 | .op b=>some b
 | .cz b=>some b
 | .it b=>some b
def bU.eB:bU→Bool
 | .op _ | .cz _ | .it _=>true
 |_=>false
def pT:Obj→Bool
 | .loop _=>true
 |_=>false
def yx:Obj→Bool
 | .deferred _=>false
 |_=>true
theorem aiW{o:Obj}(h:pT o=true):yx o=true:=by cases o <;>first | rfl | cases h
def oG(es:Array MapEntry)(cm:Array Nat):List Nat:=(List.range es.size).filter fun i=>match es[i]? with
 |some e => !cm.contains e.born
 |none=>false
def c9(M:Nat→Prop)(w:World)(D:aN)(E:aZ)(n:Nat):Option ai→Prop
 |none=>E n=none
 |some (.box x)=>∃ b cs T,E n=some (.aC b x.aP)∧M b∧w.heap[b]?=some (.cells cs T (0,0))∧ah w D E x cs.toList∧∀ o,¬ D b o
 |some (.bT T sz es)=>∃ aE,E n=some (.rw aE es.length)∧(∀ e∈es,e.size=sz)∧match aE with
  |none=>es=[]
  |some (b,cap)=>∃ cs pre rest,M b∧w.heap[b]?=some (.cells cs T (0,0))∧cs.toList=pre++rest∧aG w D E es pre ∧
    cs.size=cap*sz∧es.length≤cap∧cap≤maxLen∧∀ o,D b o→o<pre.length
 |some (.dO x)=>∃ b,E n=some (.op b)∧M b∧w.heap[b]?=some x∧pT x=true∧∀ o,¬ D b o
 |some (.cz ks vs)=>∃ b es clock,E n=some (.cz b)∧M b∧w.heap[b]?=some (.map es clock)∧qw es clock∧aF w D E ks (es.toList.map (·.key))∧aF w D E vs (es.toList.map (·.val))∧∀ o,¬ D b o
 |some (.it ks vs left cur)=>∃ r b es clock since cm last,E n=some (.it r)∧M r∧w.heap[r]?=some (.mapIter (some b) since cm last)∧oL w D b es clock∧aF w D E ks (es.toList.map (·.key))∧aF w D E vs (es.toList.map (·.val)) ∧
   (∀ x∈es.toList,x.born<since)∧(since≤last∧since≤clock)∧left=oG es cm∧(∀ i,cur=some i→∃ e,es[i]?=some e∧cm.back?=some e.born∧last=clock)∧∀ o,¬ D r o
 |some (.cV T xs)=>∃ aE,E n=some (.rw aE xs.length)∧(∀ x∈xs,IntKind.i64.min≤x∧x≤IntKind.i64.max)∧match aE with
  |none=>xs=[]
  |some (b,cap)=>∃ cs m,M b∧w.heap[b]?=some (.cells cs T (0,0))∧cs.toList=(xs++List.replicate m 0).map (Value.int .i64)∧xs≠[]∧xs.length+m=cap∧cap≤maxLen∧∀ o,¬ D b o
def dw(E:aZ)(b:Nat):Prop:=∃ n e,E n=some e∧e.aE=some b
structure ly (M:Nat→Prop) (w:World) (D:aN) (E:aZ) (o:Nat→Option ai):Prop where
 bS:∀ n,c9 M w D E n (o n)
 cU:∀ n m e e' b,E n=some e→E m=some e'→e.aE=some b→e'.aE=some b→n=m
def qC(run:Array Value→World→(Ending→World→Prop)→Prop)(since:World→aN→aZ→Prop)(args:List I)(os:List (Nat×ai))(post:cR):Prop :=
 ∀ (w:World) (D:aN) (E:aZ) (vs:List Value),since w D E→(∀ b o,D b o→b<w.heap.size)→ly (fun _=>True) w D E (al os)→aF w D E args vs →
  run vs.toArray w fun e w'=>∃ v D' E' r os',e=.returned v∧post r os'∧aW w' D' E' r v∧ly (fun b=>w.heap.size≤b∨dw E b) w' D' E' (al os') ∧
   fQ (fun b=>w.heap.size≤b∨dw E b) w w'∧(∀ b o,D b o→D' b o)∧(∀ b o,D' b o→b<w'.heap.size)∧(∀ b o,D' b o→b<w.heap.size→¬ dw E b→D b o) ∧
   (∀ n e,E n=some e→au os' n=true→∃ e',E' n=some e'∧e.le e')∧iD w D w'
structure Ax (c:cQ) (w:World) (D:aN) (E:aZ):Prop where
 dZ:fQ c.fm c.fj w
 cL:∀ b o,c.D0 b o→D b o
 c6:∀ b o,D b o→¬ c.fm b→c.D0 b o
 eb:∀ n e,c.dK n=some e→E n=none∨∃ e',E n=some e'∧e.le e'
 fL:iD c.fj c.D0 w
def sA(P:Program)(v:Value)(vs:Array Value)(w:World)(R:Ending→World→Prop):Prop :=
 ∃ l,v=.func (.yield l) #[] #[]∧YieldAt Fence.wide 9 P l vs w R
def pn(c:cQ):Prop:=∀ v args os post,c.Y v args os post→qC (sA c.P v) (Ax c) args os post
def bZ(fj:World)(ds:List Deferred)(w:World):Prop :=
 ∃ Bs:List Nat,ds=Bs.map (fun B => { target:=.collected B,args := #[] })∧Bs.Nodup∧∀ B∈Bs,fj.heap.size≤B∧w.heap[B]?=some (.deferred (some []))
theorem bZ.mono{fj w w':World}{ds:List Deferred}(h:bZ fj ds w)(hk:∀ B,fj.heap.size≤B→w.heap[B]?=some (.deferred (some []))→w'.heap[B]?=some (.deferred (some []))):bZ fj ds w':=by
 obtain ⟨Bs,h1,h2,h3⟩:=h
 exact ⟨Bs,h1,h2,fun B hB=>⟨(h3 B hB).1,hk B (h3 B hB).1 (h3 B hB).2⟩⟩
theorem bZ.grow{fj w w':World}{ds:List Deferred}(h:bZ fj ds w)(hk:Below w.heap.size w w'):bZ fj ds w' :=
 h.mono fun B _ hB=>(hk.block B (Array.getElem?_eq_some_iff.1 hB).1).trans hB
structure aT (c:cQ) (A:af) (a:Act) (w:World) (D:aN) (E:aZ):Prop where
 sz:a.tmps.size=c.n
 eV:bZ c.fj a.defers w
 ew:∀ t,aW w D E (A.t t) (a.tmps.getD t undef)
 dZ:fQ c.fm c.fj w
 c6:∀ b o,D b o→¬ c.fm b→c.D0 b o
 dg:∀ b o,D b o→b<w.heap.size
 bS:∀ n,c9 c.fm w D E n (A.o n)
 cU:∀ n m e e' b,E n=some e→E m=some e'→e.aE=some b→e'.aE=some b→n=m
 eb:∀ n e,c.dK n=some e→E n=none∨∃ e',E n=some e'∧e.le e'
 ff:∀ n,c.dK n≠none→c.n≤n∧1000000≤n
 cL:∀ b o,c.D0 b o→D b o
 fk:pn c
 fL:iD c.fj c.D0 w
def cw(c:cQ)(A:af)(a:Act)(w:World):Prop:=∃ D E,aT c A a w D E
section
variable {c:cQ} {A:af} {a:Act} {w:World} {D:aN} {E:aZ}
theorem aT.lu(h:aT c A a w D E){w':World}{D':aN}{E':aZ}(hl:dS w D E w' D' E'):iD c.fj c.D0 w':=h.fL.trans h.cL hl.fL
theorem aT.D4(h:aT c A a w D E){n:Nat}{e:bU}(hn:c.dK n=some e)(hf:e.eS=true):E n=none∨E n=some e:=by
 rcases h.eb n e hn with k | ⟨e',k,hle⟩
 ·exact .inl k
 ·rw[hle.eq hf] at k;exact .inr k
theorem ud{M:Nat→Prop}{n:Nat}{x:ai}(h:c9 M w D E n (some x)):E n≠none:=by
 cases x with
 |box x=>obtain ⟨b,cs,T,h1,_⟩:=h;rw[h1];simp
 |bT T sz es=>obtain ⟨aE,h1,_⟩:=h;rw[h1];simp
 |dO o=>obtain ⟨b,h1,_⟩:=h;rw[h1];simp
 |cz ks vs=>obtain ⟨b,es,ck,h1,_⟩:=h;rw[h1];simp
 |it ks vs left=>obtain ⟨r,b,es,ck,si,se,la,h1,_⟩:=h;rw[h1];simp
 |cV T xs=>obtain ⟨aE,h1,_⟩:=h;rw[h1];simp
theorem gb{w:World}{b:Nat}{o:Obj}(h:w.heap[b]?=some o):b<w.heap.size:=(Array.getElem?_eq_some_iff.1 h).1
theorem aT.fY(h:aT c A a w D E){n:Nat}{e:bU}{b:Nat}(he:E n=some e)(hb:e.aE=some b):b<w.heap.size:=by
 have:=h.bS n
 unfold c9 at this
 split at this
 ·simp[this] at he
 ·obtain ⟨b',cs,T,h1,h2,h3,_⟩:=this
  rw[h1,Option.some.injEq] at he
  subst he
  simp only[bU.aE,Option.some.injEq] at hb
  subst hb
  exact gb h3
 ·obtain ⟨aE,h1,h2,h3⟩:=this
  rw[h1,Option.some.injEq] at he
  subst he
  split at h3
  ·simp[bU.aE] at hb
  ·obtain ⟨cs,pre,rest,h4,h5,_⟩:=h3
   simp only[bU.aE,Option.some.injEq] at hb
   subst hb
   exact gb h5
 ·obtain ⟨b',h1,h2,h3,_⟩:=this
  rw[h1,Option.some.injEq] at he
  subst he
  simp only[bU.aE,Option.some.injEq] at hb
  subst hb
  exact gb h3
 ·obtain ⟨b',es,ck,h1,h2,h3,_⟩:=this
  rw[h1,Option.some.injEq] at he
  subst he
  simp only[bU.aE,Option.some.injEq] at hb
  subst hb
  exact gb h3
 ·obtain ⟨r,b',es,ck,si,se,la,h1,h2,h3,_⟩:=this
  rw[h1,Option.some.injEq] at he
  subst he
  simp only[bU.aE,Option.some.injEq] at hb
  subst hb
  exact gb h3
 ·obtain ⟨aE,h1,h2,h3⟩:=this
  rw[h1,Option.some.injEq] at he
  subst he
  split at h3
  ·simp[bU.aE] at hb
  ·obtain ⟨cs,m,h4,h5,_⟩:=h3
   simp only[bU.aE,Option.some.injEq] at hb
   subst hb
   exact gb h5
theorem aT.yX(h:aT c A a w D E){n b:Nat}{e:bU}(he:E n=some e)(ho:e.eB=true)(hb:e.aE=some b):∀ o,¬ D b o:=by
 have:=h.bS n
 unfold c9 at this
 split at this
 ·rw[this] at he;cases he
 ·obtain ⟨b',cs,T,h1,_⟩:=this
  rw[h1] at he;cases he;cases ho
 ·obtain ⟨aE,h1,_⟩:=this
  rw[h1] at he;cases he;cases ho
 ·obtain ⟨b',h1,_,_,_,h5⟩:=this
  rw[h1] at he;cases he;cases hb
  exact h5
 ·obtain ⟨b',es,ck,h1,_,_,_,_,_,h5⟩:=this
  rw[h1] at he;cases he;cases hb
  exact h5
 ·obtain ⟨r,b',es,ck,si,se,la,h1,_,_,_,_,_,_,_,_,_,h5⟩:=this
  rw[h1] at he;cases he;cases hb
  exact h5
 ·obtain ⟨aE,h1,_⟩:=this
  rw[h1] at he;cases he;cases ho
theorem c9.bL{M:Nat→Prop}{w':World}{D':aN}{E':aZ}{n:Nat}{x:Option ai}(h:c9 M w D E n x)(hl:dS w D E w' D' E')(aw:E' n=E n)
  (hheap:∀ e b,E n=some e→e.aE=some b→w'.heap[b]?=w.heap[b]?∧∀ o,D' b o→D b o):c9 M w' D' E' n x:=by
 unfold c9 at *
 split
 ·rw[aw];exact h
 ·obtain ⟨b,cs,T,h1,h2,h3,h4,h5⟩:=h
  obtain ⟨k1,k2⟩:=hheap _ b h1 rfl
  exact ⟨b,cs,T,aw.trans h1,h2,k1.trans h3,ah.bL hl _ _ h4,fun o ho=>h5 o (k2 o ho)⟩
 ·obtain ⟨aE,h1,h2,h3⟩:=h
  refine ⟨aE,aw.trans h1,h2,?_⟩
  split
  ·exact h3
  ·rename_i b cap
   obtain ⟨cs,pre,rest,h4,h5,h6,h7,h8,h9,h10,h11⟩:=h3
   obtain ⟨k1,k2⟩:=hheap _ b h1 rfl
   exact ⟨cs,pre,rest,h4,k1.trans h5,h6,aG.bL hl _ _ h7,h8,h9,h10,fun o ho=>h11 o (k2 o ho)⟩
 ·obtain ⟨b,h1,h2,h3,h4,h5⟩:=h
  obtain ⟨k1,k2⟩:=hheap _ b h1 rfl
  exact ⟨b,aw.trans h1,h2,k1.trans h3,h4,fun o ho=>h5 o (k2 o ho)⟩
 ·obtain ⟨b,es,ck,h1,h2,h3,h4,h5,h6,h7⟩:=h
  obtain ⟨k1,k2⟩:=hheap _ b h1 rfl
  exact ⟨b,es,ck,aw.trans h1,h2,k1.trans h3,h4,aF.bL hl _ _ h5,aF.bL hl _ _ h6,fun o ho=>h7 o (k2 o ho)⟩
 ·obtain ⟨r,b,es,ck,si,se,la,h1,h2,h3,h4,h5,h6,h7,h8,h9,h9',h10⟩:=h
  obtain ⟨k1,k2⟩:=hheap _ r h1 rfl
  exact ⟨r,b,es,ck,si,se,la,aw.trans h1,h2,k1.trans h3,h4.bL hl,aF.bL hl _ _ h5,aF.bL hl _ _ h6,h7,h8,h9,h9',fun o ho=>h10 o (k2 o ho)⟩
 ·obtain ⟨aE,h1,h2,h3⟩:=h
  refine ⟨aE,aw.trans h1,h2,?_⟩
  split
  ·exact h3
  ·rename_i b cap
   obtain ⟨cs,m,h4,h5,h6,h7,h8,h9,h10⟩:=h3
   obtain ⟨k1,k2⟩:=hheap _ b h1 rfl
   exact ⟨cs,m,h4,k1.trans h5,h6,h7,h8,h9,fun o ho=>h10 o (k2 o ho)⟩
theorem dS.grow{w':World}{D':aN}(hb:Below w.heap.size w w')(hD:∀ b o,D b o→D' b o):dS w D E w' D' E:=by
 refine ⟨hD,fun b o v _ hv =>?_,fun _ _ _ h=>h,fun _ aE l h=>⟨aE,l,h,Nat.le_refl _,fun _=>rfl⟩,fun _ _ h=>h,fun _ _ h=>h,fun b es ck _ hm=>(hb.block b (gb hm)).trans hm⟩
 rw[hb.cell (World.block_lt_of_cell? w _ hv)]
 exact hv
theorem aT.Kc(h:aT c A a w D E){w':World}(hb:Below w.heap.size w w'):fQ c.fm w w':=fQ.grow hb fun k hk=>.inl (Nat.le_trans h.dZ.size hk)
theorem aT.old(h:aT c A a w D E){b:Nat}(hm:¬ c.fm b):b<w.heap.size :=
 Nat.lt_of_lt_of_le (Nat.lt_of_not_le fun hle=>hm (.inl hle)) h.dZ.size
theorem aT.kl(h:aT c A a w D E){d:Nat}(hd:d<c.n∨d<1000000):c.dK d=none:=by
 cases hh:c.dK d with
 |none=>rfl
 |some e=>have:=h.ff d (by rw[hh];simp);omega
theorem aT.grow(h:aT c A a w D E){w':World}{D':aN}(hb:Below w.heap.size w w')(hD:∀ b o,D b o→D' b o)
  (hold:∀ b o,D' b o→b<w.heap.size→D b o) (hlive:∀ b o,D' b o→b<w'.heap.size):aT c A a w' D' E:=by
 have hl:dS w D E w' D' E:=dS.grow hb hD
 refine ⟨h.sz,h.eV.grow hb,fun t=>aW.bL hl (h.ew t),h.dZ.trans (h.Kc hb),fun b o hd hm=>h.c6 b o (hold b o hd (h.old hm)) hm,hlive,
  fun n=>(h.bS n).bL hl rfl (fun e b he hb'=>⟨hb.block b (h.fY he hb'),fun o ho=>hold b o ho (h.fY he hb')⟩),h.cU,h.eb,h.ff,fun b o hd=>hD b o (h.cL b o hd),h.fk,h.lu hl⟩
theorem aT.Pc(h:aT c A a w D E){D':aN}(hD:∀ b o,D b o→D' b o)
  (hold:∀ b o,D' b o→¬ c.fm b→c.D0 b o) (hlive:∀ b o,D' b o→b<w.heap.size)
  (hbox:∀ n x b,A.o n=some (.box x)→E n=some (.aC b x.aP)→∀ o,¬ D' b o)
  (hrow:∀ n T sz es b cap,A.o n=some (.bT T sz es)→E n=some (.rw (some (b,cap)) es.length)→∀ o,D' b o→o<es.length*sz)
  (hui:∀ n T xs b cap,A.o n=some (.cV T xs)→E n=some (.rw (some (b,cap)) xs.length)→∀ o,¬ D' b o)
  (hopq:∀ n e b,E n=some e→e.eB=true→e.aE=some b→∀ o,¬ D' b o):aT c A a w D' E:=by
 have hl:dS w D E w D' E:=⟨hD,fun _ _ _ _ h=>h,fun _ _ _ h=>h,fun _ aE l h=>⟨aE,l,h,Nat.le_refl _,fun _=>rfl⟩,fun _ _ h=>h,fun _ _ h=>h,fun _ _ _ _ h=>h⟩
 refine ⟨h.sz,h.eV,fun t=>aW.bL hl (h.ew t),h.dZ,hold,hlive,fun n =>?_,h.cU,h.eb,h.ff,fun b o hd=>hD b o (h.cL b o hd),h.fk,h.fL⟩
 have ho:=h.bS n
 cases hx:A.o n with
 |none=>rw[hx] at ho;exact ho
 |some x =>
  cases x with
  |box x =>
   rw[hx] at ho
   obtain ⟨b,cs,T,h1,h2,h3,h4,h5⟩:=ho
   exact ⟨b,cs,T,h1,h2,h3,ah.bL hl _ _ h4,hbox n x b hx h1⟩
  |bT T sz es =>
   rw[hx] at ho
   obtain ⟨aE,h1,h2,h3⟩:=ho
   refine ⟨aE,h1,h2,?_⟩
   cases aE with
   |none=>exact h3
   |some bc =>
    obtain ⟨b,cap⟩:=bc
    obtain ⟨cs,pre,rest,h4,h5,h6,h7,h8,h9,h10,h11⟩:=h3
    refine ⟨cs,pre,rest,h4,h5,h6,aG.bL hl _ _ h7,h8,h9,h10,fun o hd =>?_⟩
    rw[aG.length _ _ h7,I.iB _ h2]
    exact hrow n T sz es b cap hx h1 o hd
  |dO x =>
   rw[hx] at ho
   obtain ⟨b,h1,h2,h3,h4,h5⟩:=ho
   exact ⟨b,h1,h2,h3,h4,hopq n _ b h1 rfl rfl⟩
  |cz ks vs =>
   rw[hx] at ho
   obtain ⟨b,es,ck,h1,h2,h3,h4,h5,h6,h7⟩:=ho
   exact ⟨b,es,ck,h1,h2,h3,h4,aF.bL hl _ _ h5,aF.bL hl _ _ h6,hopq n _ b h1 rfl rfl⟩
  |it ks vs left cur =>
   rw[hx] at ho
   obtain ⟨r,b,es,ck,si,se,la,h1,h2,h3,h4,h5,h6,h7,h8,h9,h9',h10⟩:=ho
   exact ⟨r,b,es,ck,si,se,la,h1,h2,h3,h4.bL hl,aF.bL hl _ _ h5,aF.bL hl _ _ h6,h7,h8,h9,h9',hopq n _ r h1 rfl rfl⟩
  |cV T xs =>
   rw[hx] at ho
   obtain ⟨aE,h1,h2,h3⟩:=ho
   refine ⟨aE,h1,h2,?_⟩
   cases aE with
   |none=>exact h3
   |some bc =>
    obtain ⟨b,cap⟩:=bc
    obtain ⟨cs,m,h4,h5,h6,h7,h8,h9,h10⟩:=h3
    exact ⟨cs,m,h4,h5,h6,h7,h8,h9,hui n T xs b cap hx h1⟩
theorem ag5(a:Act)(d:Nat)(v:Value)(t:Nat)(hd:d<a.tmps.size):(a.put (some d) v).tmps.getD t undef=if t=d then v else a.tmps.getD t undef:=by
 simp only[Act.put,Array.getD_eq_getD_getElem?,Array.getElem?_setIfInBounds]
 by_cases h:t=d
 ·subst h;simp[hd]
 ·simp[h,Ne.symm h]
theorem aT.put(h:aT c A a w D E){d:Nat}{x:I}{v:Value}(hd:d<c.n)(hv:aW w D E x v):aT c (A.put d x) (a.put (some d) v) w D E:=by
 refine ⟨by simp[Act.put,h.sz],by exact h.eV,fun t =>?_,h.dZ,h.c6,h.dg,h.bS,h.cU,h.eb,h.ff,h.cL,h.fk,h.fL⟩
 rw[ag5 a d v t (by rw[h.sz];exact hd)]
 simp only[af.put]
 split
 ·exact hv
 ·exact h.ew t
theorem aT.aJ(h:aT c A a w D E){d:Option Nat}{x:I}{v:Value}(hd:∀ k,d=some k→k<c.n)(hv:aW w D E x v):aT c (A.aJ d x) (a.put d v) w D E:=by
 cases d with
 |none=>exact h
 |some d=>exact h.put (hd d rfl) hv
theorem sG(w:World)(o:Obj):Below w.heap.size w (w.alloc o):=(Below.refl _ _).alloc (Nat.le_refl _) o
theorem Oq{w:World}{D:aN}{E:aZ} : ∀ {xs:List I} {vs:List Value},aF w D E xs vs→vs.length=xs.length
 | [],vs,h=>by simp only[aF] at h;subst h;rfl
 |x::xs,vs,h=>by
  simp only[aF] at h
  obtain ⟨v,rest,cs,rfl,_,_,h3⟩:=h
  simp[Oq h3]
theorem aT.yu(h:aT c A a w D E){d:Nat}{x:ai}{o':Obj}{e:bU}(hdn:d<c.n∨d<1000000)(hd:A.o d=none)(heb:e.aE=some w.heap.size)
  (hx:dS w D E (w.alloc o') D (fun n=>if n=d then some e else E n)→(∀ o,¬ D w.heap.size o)→c9 c.fm (w.alloc o') D (fun n=>if n=d then some e else E n) d (some x)) :
  aT c (A.aK d x) a (w.alloc o') D (fun n=>if n=d then some e else E n):=by
 have hEd:E d=none:=by have:=h.bS d;rw[hd] at this;exact this
 have hne:∀ {n:Nat} {e:bU},E n=some e→n≠d:=fun he e'=>by rw[e',hEd] at he;cases he
 have hl:dS w D E (w.alloc o') D (fun n=>if n=d then some e else E n):=by
  refine ⟨fun _ _ h=>h,fun b o v _ hv =>?_,fun n b aP he =>?_,fun n aE l he =>?_,fun n b he =>?_,fun n b he =>?_,fun b es ck _ hm=>(Below.heap_alloc w _ b (gb hm)).trans hm⟩
  ·rw[World.cell?_alloc_lt _ _ _ (World.block_lt_of_cell? w _ hv)];exact hv
  ·simp only[if_neg (hne he)];exact he
  ·exact ⟨aE,l,by simp only[if_neg (hne he)];exact he,Nat.le_refl _,fun _=>rfl⟩
  ·simp only[if_neg (hne he)];exact he
  ·simp only[if_neg (hne he)];exact he
 refine ⟨h.sz,h.eV.grow (sG w _),fun t=>aW.bL hl (h.ew t),h.dZ.trans (h.Kc (sG w _)),h.c6,fun b o hd'=>by have:=h.dg b o hd';simp;omega,fun n =>?_,?_,fun n e' hn =>?_,h.ff,h.cL,h.fk,h.lu hl⟩
 ·simp only[af.aK]
  by_cases hn:n=d
  ·subst hn
   simp only[if_true]
   exact hx hl fun o ho=>Nat.lt_irrefl _ (h.dg _ o ho)
  ·simp only[if_neg hn]
   exact (h.bS n).bL hl (by simp only[if_neg hn]) fun e b he hb=>⟨Below.heap_alloc w _ b (h.fY he hb),fun _ ho=>ho⟩
 ·intro n m e1 e2 b h1 h2 h3 h4
  by_cases hn:n=d <;>by_cases hm:m=d
  ·rw[hn,hm]
  ·simp only[if_pos hn,Option.some.injEq] at h1
   simp only[if_neg hm] at h2
   subst h1
   rw[heb] at h3;cases h3
   have:=h.fY h2 h4
   omega
  ·simp only[if_neg hn] at h1
   simp only[if_pos hm,Option.some.injEq] at h2
   subst h2
   rw[heb] at h4;cases h4
   have:=h.fY h1 h3
   omega
  ·simp only[if_neg hn] at h1
   simp only[if_neg hm] at h2
   exact h.cU n m e1 e2 b h1 h2 h3 h4
 ·have hnd:n≠d:=fun e=>by rw[e,h.kl hdn] at hn;cases hn
  simp only[if_neg hnd]
  exact h.eb n e' hn
theorem aT.rG(h:aT c A a w D E){d:Nat}{x:I}{cs:Array Value}{T:TypeId}(hdn:d<c.n∨d<1000000)(hd:A.o d=none)(hx:ah w D E x cs.toList) :
  aT c (A.aK d (.box x)) a (w.alloc (.cells cs T)) D (fun n=>if n=d then some (.aC w.heap.size x.aP) else E n) :=
 h.yu hdn hd rfl fun hl hno=>⟨w.heap.size,cs,T,by simp,.inl h.dZ.size,heap_alloc_new w _,ah.bL hl _ _ hx,hno⟩
theorem aT.aiR(h:aT c A a w D E){d:Nat}(hdn:d<c.n∨d<1000000)(hd:A.o d=none) :
  aT c (A.aK d (.cz [] [])) a (w.alloc (.map #[] 0)) D (fun n=>if n=d then some (.cz w.heap.size) else E n) :=
 h.yu hdn hd rfl fun _ hno=>⟨w.heap.size,#[],0,by simp,.inl h.dZ.size,heap_alloc_new w _,⟨by simp,by simp⟩,by simp[aF],by simp[aF],hno⟩
theorem aT.aiQ(h:aT c A a w D E){d b clock:Nat}{ks vs:List I}{es:Array MapEntry}(hdn:d<c.n∨d<1000000)(hd:A.o d=none)(hm:oL w D b es clock)(hk:aF w D E ks (es.toList.map (·.key)))(hv:aF w D E vs (es.toList.map (·.val))) :
  aT c (A.aK d (.it ks vs (List.range ks.length) none)) a (w.alloc (.mapIter (some b) clock #[] clock)) D (fun n=>if n=d then some (.it w.heap.size) else E n) :=
 h.yu hdn hd rfl fun hl hno=>⟨w.heap.size,b,es,clock,clock,#[],clock,by simp,.inl h.dZ.size,heap_alloc_new w _,hm.bL hl,aF.bL hl _ _ hk,aF.bL hl _ _ hv,hm.2.2.1,⟨Nat.le_refl _,Nat.le_refl _⟩,by
  have e:ks.length=es.size:=by have:=Oq hk;simpa using this.symm
  rw[e];unfold oG
  exact (List.filter_eq_self.2 fun i hi=>by
   have hi':i<es.size:=by simpa using hi
   simp[Array.getElem?_eq_getElem hi']).symm,(fun i hi=>by cases hi),hno⟩
theorem vK(w:World)(g:Nat)(cs:Array Value)(p:Addr)(h:p.block≠g):(w.setRow g cs).cell? p=w.cell? p :=
 World.cell?_of_block (setRow_other w g p.block cs h)
theorem x5{M:Nat→Prop}{fj w:World}(h:fQ M fj w){g:Nat}(hg:M g)(cs:Array Value):fQ M fj (w.setRow g cs) :=
 h.trans ⟨rfl,rfl,rfl,by simp[World.setRow],fun k hk=>setRow_other w g k cs (fun e=>hk (e▸hg))⟩
theorem aT.Ox(h:aT c A a w D E){n b:Nat}{x y:I}{cs':Array Value}(hn:A.o n=some (.box x))(aw:E n=some (.aC b x.aP))(hs:y.aP=x.aP)(hy:ah w D E y cs'.toList) :
  aT c (A.aK n (.box y)) a (w.setRow b cs') D E:=by
 have ho:=h.bS n
 rw[hn] at ho
 obtain ⟨b',cs,T,h1,h2,h3,h4,h5⟩:=ho
 rw[aw] at h1
 simp only[Option.some.injEq,bU.aC.injEq,and_true] at h1
 subst h1
 have hl:dS w D E (w.setRow b cs') D E:=by
  refine ⟨fun _ _ h=>h,fun b1 o v hd hv =>?_,fun _ _ _ h=>h,fun _ aE l h=>⟨aE,l,h,Nat.le_refl _,fun _=>rfl⟩,fun _ _ h=>h,fun _ _ h=>h,fun b1 es ck hd hm=>(setRow_other w b b1 _ (fun e=>h5 0 (by rw[←e];exact hd))).trans hm⟩
  rw[vK _ _ _ _ (fun e=>h5 o (by rw[←e];exact hd))]
  exact hv
 refine ⟨h.sz,h.eV.mono fun B _ hB=>(setRow_other w b B cs' (fun e=>by rw[e,h3] at hB;cases hB)).trans hB,fun t=>aW.bL hl (h.ew t),x5 h.dZ h2 _,h.c6,fun b1 o hd=>by have:=h.dg b1 o hd;simpa[World.setRow] using this,fun m =>?_,h.cU,h.eb,h.ff,h.cL,h.fk,h.lu hl⟩
 simp only[af.aK]
 by_cases hm:m=n
 ·subst hm
  simp only[if_true,c9]
  exact ⟨b,cs',T,by rw[hs];exact aw,h2,setRow_heap w b cs cs' T _ h3,ah.bL hl _ _ hy,h5⟩
 ·simp only[if_neg hm]
  refine (h.bS m).bL hl rfl fun e b1 he hb=>⟨setRow_other w b b1 cs' (fun e1=>hm (h.cU m n e _ b he aw (by rw[hb,e1]) rfl)),fun _ ho=>ho⟩
theorem vL{w:World}{B:Nat}{o o':Obj}(h:w.heap[B]?=some o)(ho:o.isCells=false){b off:Nat}{v:Value}(hv:w.cell? ⟨b,off,none⟩=some v):(w.putObj B o').cell? ⟨b,off,none⟩=some v:=by
 have hne:b≠B:=fun e=>by
  obtain ⟨o2,h2,h3⟩:=cells_of_cell hv
  simp only at h2
  rw[e,h] at h2
  cases h2
  rw[ho] at h3;cases h3
 rw[World.cell?_of_block (w:=w) (World.putObj_heap_other hne)]
 exact hv
theorem aT.Oz(h:aT c A a w D E){n b:Nat}{e:bU}{x:ai}{o0 o':Obj}(aw:E n=some e)(ho:e.eB=true)(hb:e.aE=some b)(hw:w.heap[b]?=some o0)(hnc:o0.isCells=false)(hnd:∀ q,o0≠.deferred q)(hmine:c.fm b)
  (hx:dS w D E (w.putObj b o') D E→(w.putObj b o').heap[b]?=some o'→(∀ o,¬ D b o)→c9 c.fm (w.putObj b o') D E n (some x)):aT c (A.aK n x) a (w.putObj b o') D E:=by
 have hno:=h.yX aw ho hb
 have hlt:b<w.heap.size:=gb hw
 have hl:dS w D E (w.putObj b o') D E:=⟨fun _ _ h=>h,fun b1 o1 v _ hv=>vL hw hnc hv,fun _ _ _ h=>h,fun _ aE l h=>⟨aE,l,h,Nat.le_refl _,fun _=>rfl⟩,fun _ _ h=>h,fun _ _ h=>h,
  fun b1 es ck hd hm=>(World.putObj_heap_other (fun e1=>hno 0 (by rw[←e1];exact hd))).trans hm⟩
 refine ⟨h.sz,h.eV.mono fun B _ hB=>(World.putObj_heap_other (fun e1=>by rw[e1,hw] at hB;exact hnd _ (Option.some.inj hB))).trans hB,fun t=>aW.bL hl (h.ew t),h.dZ.trans ⟨rfl,rfl,rfl,by simp,fun k hk=>World.putObj_heap_other (fun e1=>hk (e1▸hmine))⟩,h.c6,
  fun b1 o1 hd=>by have:=h.dg b1 o1 hd;simpa using this,fun m =>?_,h.cU,h.eb,h.ff,h.cL,h.fk,h.lu hl⟩
 simp only[af.aK]
 by_cases hm:m=n
 ·subst hm
  simp only[if_true]
  exact hx hl (World.putObj_heap_same hlt) hno
 ·simp only[if_neg hm]
  exact (h.bS m).bL hl rfl fun e' b1 he hb'=>⟨World.putObj_heap_other (fun e1=>hm (h.cU m n e' _ b1 he aw hb' (by rw[e1];exact hb))),fun _ ho=>ho⟩
end
inductive aH where
 |t (n:Nat)
 |c (x:I)
 deriving Inhabited
inductive cM where
 |i (k:IntKind)
 |b
 |s
 |bu (l:List cM)
 |jO (n:Nat) (e:cM)
 deriving Inhabited
mutual
def cM.size:cM→Nat
 | .i _ | .b | .s=>1
 | .bu l=>cM.sizes l
 | .jO n e=>n*e.size
def cM.sizes:List cM→Nat
 | []=>0
 |t::ts=>t.size+cM.sizes ts
end
inductive b8 where
 |mv (x:aH)
 |pick (c a b:aH)
 |bin (op:BinOp) (x y:aH)
 |eqv (ty:cM) (neg:Bool) (x y:aH)
 |nilS (neg:Bool) (x:aH)
 |conv (k:IntKind) (x:aH)
 |un (op:UnOp) (x:aH)
 |ld (s:Option Nat) (x:aH)
 |fa (f off:Nat) (x:aH)
 |fl (f off:Nat) (s:Option Nat) (x:aH)
 |ia (n esz:Nat) (x i:aH)
 |is (esz:Nat) (x i:aH)
 |ix (n esz:Nat) (s:Option Nat) (x i:aH)
 |len (x:aH)
 |lenT (x:aH)
 |va (n esz:Nat) (x:aH)
 |sl (esz:Nat) (x:aH) (lo hi mx:Option aH)
 |bld (zs:List I) (parts:List (Nat×aH))
 |bs (esz:Nat) (parts:List aH)
 |ext (x:aH) (i:Nat)
 |mk (f:FuncId) (caps:List aH)
 |alloc (z:I)
 |box (x:aH)
 |bu (s:Option Nat) (x v:aH)
 |dC (e:TypeId) (esz bytes:Nat) (z:I) (s x:aH)
 |kL (e:TypeId) (esz bytes:Nat) (z:I) (s n:aH)
 |cap (x:aH)
 |bs0 (esz:Nat)
 |ju (esz:Nat) (z:I) (x:aH)
 |iI (esz:Nat) (x y:aH)
 |call (f:FuncId) (args:List aH)
 |eD (x:aH) (args:List aH)
 |jq (f:FuncId) (args:List aH)
 |nilC (x:aH)
 |ptrE (neg:Bool) (x y:aH)
 |ky (e:TypeId) (bytes:Nat) (z:I) (n:aH)
 |jX
 |lk (ty:cM) (z:I) (ok:Bool) (m k:aH)
 |gQ (ty:cM) (m k v:aH)
 |kF (x:aH)
 |jD (x:aH)
 |ent (x:aH)
 deriving Inhabited
def vD(sz:Nat):Value→Option I
 | .bool b=>some (.bool b)
 | .int k n=>if k.min≤n∧n≤k.max then some (.int k n) else none
 | .string s=>if s.size≤1000000 then some (.cY s) else none
 | .pointer none=>some .nilp
 | .slice none 0 0=>some (.nils sz)
 | .nilFunc=>some .dh
 | .nilIface=>some .dX
 | .map none=>some (.raw (.map none))
 |_=>none
theorem RS{sz:Nat}{v:Value}{x:I}(h:vD sz v=some x)(w:World)(D:aN)(E:aZ):aW w D E x v:=by
 unfold vD at h
 split at h
 case h_2 =>
  split at h
  ·rename_i hh
   simp only[Option.some.injEq] at h;subst h
   exact ⟨_,by simp[bK,I.isAgg];rfl,by simp only[ah,true_and];exact hh⟩
  ·simp at h
 case h_3 =>
  split at h
  ·rename_i hh
   simp only[Option.some.injEq] at h;subst h
   exact ⟨_,by simp[bK,I.isAgg];rfl,by simp only[ah,true_and];unfold maxLen;omega⟩
  ·simp at h
 case h_9=>simp at h
 all_goals
  simp only[Option.some.injEq] at h;subst h
  exact ⟨_,by simp[bK,I.isAgg];rfl,by simp[ah,Value.oneCell']⟩
def Zh(P:Program)(t:TypeId):Nat:=match P.underlying t with | some (.slice e)=>P.cellsOf e | _=>0
def bJ(P:Program)(t:TypeId):Operand→Option aH
 | .tmp n=>some (.t n)
 | .const v=>(vD (Zh P t) v).map .c
 | .func f=>some (.c (.func f []))
 | .global _=>none
def ae(A:af):aH→I
 | .t n=>A.t n
 | .c x=>x
section
variable {c:cQ} {A:af} {a:Act} {w:World} {D:aN} {E:aZ}
theorem cg(h:aT c A a w D E){P:Program}{t:TypeId}{x:Operand}{y:aH}(hc:bJ P t x=some y):aW w D E (ae A y) (a.eval x):=by
 cases x with
 |tmp n=>simp only[bJ,Option.some.injEq] at hc;subst hc;exact h.ew n
 |const v =>
  simp only[bJ,Option.map_eq_some_iff] at hc
  obtain ⟨z,hz,rfl⟩:=hc
  exact RS hz w D E
 |global g=>simp[bJ] at hc
 |func f =>
  simp only[bJ,Option.some.injEq] at hc;subst hc
  exact ⟨[.func (.func f) #[] #[]],by simp[bK,I.isAgg,ae,Act.eval],by simp only[ah,ae,aF];exact ⟨[],rfl,rfl⟩⟩
theorem me{b:Bool}{v:Value}(h:aW w D E (.bool b) v):v=.bool b:=by
 obtain ⟨cs,h1,h2⟩:=h
 simp only[ah] at h2
 simp[bK,I.isAgg,h2] at h1
 exact h1.symm
theorem fy{k:IntKind}{n:Int}{v:Value}(h:aW w D E (.int k n) v):v=.int k n∧k.min≤n∧n≤k.max:=by
 obtain ⟨cs,h1,h2⟩:=h
 simp only[ah] at h2
 simp[bK,I.isAgg,h2.1] at h1
 exact ⟨h1.symm,h2.2⟩
theorem nZ{s:ByteArray}{v:Value}(h:aW w D E (.cY s) v):v=.string s∧s.size≤maxLen:=by
 obtain ⟨cs,h1,h2⟩:=h
 simp only[ah] at h2
 simp[bK,I.isAgg,h2.1] at h1
 exact ⟨h1.symm,h2.2⟩
theorem K2{x:I}{v:Value}(hx:x.isAgg=false)(h:ah w D E x [v]):aW w D E x v:=by
 cases x <;>simp only[ah] at h <;>first | (simp[I.isAgg] at hx;done) | exact ⟨[v],by simp[bK,I.isAgg],by simpa only[ah] using h⟩
theorem jI{fs:List I}{v:Value}(h:aW w D E (.agg fs) v):∃ cs:List Value,v=.agg cs.toArray∧aG w D E fs cs:=by
 obtain ⟨cs,h1,h2⟩:=h
 simp only[ah] at h2
 exact ⟨cs,by simpa[bK,I.isAgg] using h1,h2⟩
theorem K1{fs:List I}{cs:List Value}(h:aG w D E fs cs):aW w D E (.agg fs) (.agg cs.toArray):=⟨cs,by simp[bK,I.isAgg],by simpa only[ah] using h⟩
theorem nQ(b:Bool):aW w D E (.bool b) (.bool b):=⟨[.bool b],by simp[bK,I.isAgg],by simp[ah]⟩
theorem kX{k:IntKind}{n:Int}(h:k.min≤n∧n≤k.max):aW w D E (.int k n) (.int k n):=⟨[.int k n],by simp[bK,I.isAgg],by simp only[ah,true_and];exact h⟩
theorem oW{n:Nat}{p:List Nat}{v:Value}(h:aW w D E (.ptr n p) v):∃ b aP off,E n=some (.aC b aP)∧aP.off p=some off∧v=.pointer (some ⟨b,off,none⟩):=by
 obtain ⟨cs,h1,h2⟩:=h
 simp only[ah] at h2
 obtain ⟨b,aP,off,h3,h4,h5⟩:=h2
 exact ⟨b,aP,off,h3,h4,by simpa[bK,I.isAgg,h5] using h1.symm⟩
theorem qm{x:I}{v:Value}(h:aW w D E (.ref x) v):∃ b off cs,v=.pointer (some ⟨b,off,none⟩)∧gV w D b off cs∧ah w D E x cs:=by
 obtain ⟨cs,h1,h2⟩:=h
 simp only[ah] at h2
 obtain ⟨b,off,cs',h3,h4,h5⟩:=h2
 exact ⟨b,off,cs',by simpa[bK,I.isAgg,h3] using h1.symm,h4,h5⟩
theorem tT{x:I}{b off:Nat}{cs:List Value}(h1:gV w D b off cs)(h2:ah w D E x cs):aW w D E (.ref x) (.pointer (some ⟨b,off,none⟩)) :=
 ⟨_,by simp[bK,I.isAgg];rfl,by simp only[ah];exact ⟨b,off,cs,rfl,h1,h2⟩⟩
theorem mZ{sz:Nat}{es:List I}{v:Value}(h:aW w D E (.slice sz es) v):∃ ad cap,v=.slice ad es.length cap∧es.length≤cap∧cap≤maxLen ∧
  (es=[]∨∃ b off cs,ad=some ⟨b,off,none⟩∧gV w D b off cs∧aG w D E es cs)∧∀ e∈es,e.size=sz:=by
 obtain ⟨cs,h1,h2⟩:=h
 simp only[ah] at h2
 obtain ⟨ad,cap,h3,h4⟩:=h2
 exact ⟨ad,cap,by simpa[bK,I.isAgg,h3] using h1.symm,h4⟩
theorem tU{sz:Nat}{es:List I}{ad:Option Addr}{n cap:Nat}(hn:n=es.length)(h1:n≤cap)(h2:cap≤maxLen)
  (h3:es=[]∨∃ b off cs,ad=some ⟨b,off,none⟩∧gV w D b off cs∧aG w D E es cs) (h4:∀ e∈es,e.size=sz):aW w D E (.slice sz es) (.slice ad n cap):=by
 subst hn
 exact ⟨_,by simp[bK,I.isAgg];rfl,by simp only[ah];exact ⟨ad,cap,rfl,h1,h2,h3,h4⟩⟩
end
def cJ(op:BinOp)(x y:I):Option I :=
 match x,y with
 | .int k a,.int k' b =>
  match op with
  | .shl=>if 0≤b then some (.int k (k.wrap (a*2^(min b.toNat k.bits)))) else none
  | .shr=>if 0≤b then some (.int k (a.fdiv (2^(min b.toNat k.bits)))) else none
  |op=>if k=k' then
   match op with
   | .add=>some (.int k (k.wrap (a+b)))
   | .sub=>some (.int k (k.wrap (a-b)))
   | .mul=>some (.int k (k.wrap (a*b)))
   | .quo=>if b=0 then none else some (.int k (k.wrap (a.tdiv b)))
   | .rem=>if b=0 then none else some (.int k (a.tmod b))
   | .and=>some (.int k (k.wrap ((BitVec.ofInt k.bits a &&& BitVec.ofInt k.bits b).toNat:Int)))
   | .or=>some (.int k (k.wrap ((BitVec.ofInt k.bits a ||| BitVec.ofInt k.bits b).toNat:Int)))
   | .xor=>some (.int k (k.wrap ((BitVec.ofInt k.bits a ^^^ BitVec.ofInt k.bits b).toNat:Int)))
   | .andNot=>some (.int k (k.wrap ((BitVec.ofInt k.bits a &&& ~~~ BitVec.ofInt k.bits b).toNat:Int)))
   | .eql=>some (.bool (a==b))
   | .neq=>some (.bool (a != b))
   | .lss=>some (.bool (decide (a<b)))
   | .leq=>some (.bool (decide (a≤b)))
   | .gtr=>some (.bool (decide (a>b)))
   | .geq=>some (.bool (decide (a≥b)))
   |_=>none
   else none
 | .cY s,.cY t =>
  match op with
  | .eql=>some (.bool (s.toList==t.toList))
  | .neq=>some (.bool (!(s.toList==t.toList)))
  | .lss=>some (.bool (Op.bytesLess s.toList t.toList))
  | .leq=>some (.bool (Op.bytesLess s.toList t.toList||s.toList==t.toList))
  | .gtr=>some (.bool (!(Op.bytesLess s.toList t.toList||s.toList==t.toList)))
  | .geq=>some (.bool (!(Op.bytesLess s.toList t.toList)))
  | .add=>if s.size+t.size≤9223372036854775807 then some (.cY (s++t)) else none
  |_=>none
 |_,_=>none
theorem qz(k:IntKind)(n:Int):k.min≤k.wrap n∧k.wrap n≤k.max:=by
 cases k <;>simp only[IntKind.min,IntKind.max,IntKind.wrap,IntKind.bits,IntKind.signed] <;>simp <;>(try split) <;>omega
theorem alT(a b:Int):(0≤a→0≤a.tmod b∧a.tmod b≤a)∧(a<0→a≤a.tmod b∧a.tmod b≤0):=by
 have key:∀ n:Nat,0≤(n:Int).tmod b∧(n:Int).tmod b≤n:=by
  intro n
  cases b with
  |ofNat m=>show 0≤((n%m:Nat):Int)∧((n%m:Nat):Int)≤n;have:=Nat.mod_le n m;omega
  |negSucc m=>show 0≤((n%(m+1):Nat):Int)∧((n%(m+1):Nat):Int)≤n;have:=Nat.mod_le n (m+1);omega
 refine ⟨fun h =>?_,fun h =>?_⟩
 ·obtain ⟨n,rfl⟩:=Int.eq_ofNat_of_zero_le h
  exact key n
 ·obtain ⟨n,hn⟩:=Int.eq_ofNat_of_zero_le (show 0≤-a by omega)
  have:=key n
  rw[←hn,Int.neg_tmod] at this
  omega
theorem alU(k:IntKind)(a b:Int)(h:k.min≤a∧a≤k.max):k.min≤a.tmod b∧a.tmod b≤k.max:=by
 have h0:k.min≤0∧0≤k.max:=by cases k <;>simp[IntKind.min,IntKind.max,IntKind.bits,IntKind.signed]
 have:=alT a b
 omega
theorem Zu(a:Int)(m:Int)(hm:0<m):(0≤a→0≤a.fdiv m∧a.fdiv m≤a)∧(a<0→a≤a.fdiv m∧a.fdiv m≤0):=by
 rw[Int.fdiv_eq_ediv_of_nonneg _ (by omega)]
 have h1:=Int.mul_ediv_add_emod a m
 have h2:=Int.emod_nonneg a (show m≠0 by omega)
 refine ⟨fun h=>⟨Int.ediv_nonneg h (by omega),Int.ediv_le_self _ h⟩,fun h=>⟨?_,?_⟩⟩
 ·rw[Int.le_ediv_iff_mul_le hm]
  have:a*m≤a*1:=Int.mul_le_mul_of_nonpos_left (by omega) (by omega)
  omega
 ·have:=Int.ediv_neg_of_neg_of_pos h hm
  omega
theorem Zv(k:IntKind)(a:Int)(n:Nat)(h:k.min≤a∧a≤k.max):k.min≤a.fdiv (2^n)∧a.fdiv (2^n)≤k.max:=by
 have h0:k.min≤0∧0≤k.max:=by cases k <;>simp[IntKind.min,IntKind.max,IntKind.bits,IntKind.signed]
 have:=Zu a (2^n) (Int.pow_pos (by omega))
 omega
def cC(A:af):I→Option I
 | .ref x=>some x
 | .ptr n p=>match A.o n with
  |some (.box x)=>x.at p
  |_=>none
 |_=>none
mutual
def I.bB:I→Bool
 | .agg fs=>I.bX fs
 | .slice _ es=>I.bX es
 | .ref x=>x.bB
 | .func _ caps=>I.bX caps
 | .iface _ v=>v.bB
 | .cT ks vs=>I.bX ks&&I.bX vs
 | .ptr _ _ | .own _ _ | .view _ _ _ _ _ | .mref _ | .dv _ | .undef | .df | .tuple _=>false
 | .bool _ | .int _ _ | .cY _ | .nilp | .dh | .dX | .raw _ | .nils _ | .c0 _=>true
def I.bX:List I→Bool
 | []=>true
 |x::xs=>x.bB&&I.bX xs
end
def fJ(f:I→Option I):List I→Option (List I)
 | []=>some []
 |x::xs=>match f x,fJ f xs with
  |some y,some ys=>some (y::ys)
  |_,_=>none
def dL(A:af):Nat→I→Option I
 |0,_=>none
 |k+1,x=>if x.bB then some x else match x with
  | .agg fs=>(fJ (dL A k) fs).map .agg
  | .func f caps=>(fJ (dL A k) caps).map (.func f)
  | .ptr n p=>match cC A (.ptr n p) with
   |some y=>(dL A k y).map .ref
   |none=>none
  | .view n p sz lo l=>match cC A (.ptr n p) with
   |some (.agg fs)=>if I.bX ((fs.drop lo).take l)=true then some (.slice sz ((fs.drop lo).take l)) else none
   |_=>none
  | .mref n=>match A.o n with
   |some (.cz ks vs)=>if I.bX ks=true then (fJ (dL A k) vs).map (.cT ks) else none
   |_=>none
  | .own n l=>match A.o n with
   |some (.bT _ sz es)=>if l=es.length∧I.bX es=true then some (.slice sz es) else none
   |_=>none
  |_=>none
mutual
/-- The value for others to hold: pointers to the frame's own variables and rows become what they hold. -/
def br(aC:Bool)(A:af):I→Option I
 | .ptr n p=>if aC then (match cC A (.ptr n p) with | some x=>if x.bB then some (.ref x) else (dL A 9 x).map .ref | none=>none) else none
 | .own n k=>match A.o n with
  |some (.bT _ sz es)=>if k=es.length∧I.bX es=true then some (.slice sz es) else none
  |_=>none
 | .view n p sz lo k=>if aC then (match cC A (.ptr n p) with
  |some (.agg fs)=>if I.bX ((fs.drop lo).take k)=true then some (.slice sz ((fs.drop lo).take k)) else none
  |_=>none) else none
 | .mref n=>if aC then (match A.o n with
  |some (.cz ks vs)=>if I.bX ks=true then (fJ (dL A 9) vs).map (.cT ks) else none
  |_=>none) else none
 | .dv _=>none
 | .cT ks vs=>if I.bX ks&&I.bX vs then some (.cT ks vs) else none
 | .nils sz=>some (.slice sz [])
 | .c0 sz=>some (.slice sz [])
 | .func f caps=>(b7 aC A caps).map (.func f)
 | .agg fs=>(b7 aC A fs).map .agg
 | .tuple _=>none
 | .undef=>none
 | .df=>none
 | .bool b=>some (.bool b)
 | .int k n=>some (.int k n)
 | .cY s=>some (.cY s)
 | .nilp=>some .nilp
 | .dh=>some .dh
 | .dX=>some .dX
 | .raw u=>some (.raw u)
 | .slice sz es=>if I.bX es then some (.slice sz es) else none
 | .ref x=>if x.bB then some (.ref x) else none
 | .iface t v=>if v.bB then some (.iface t v) else none
def b7(aC:Bool)(A:af):List I→Option (List I)
 | []=>some []
 |x::xs=>match br aC A x,b7 aC A xs with
  |some y,some ys=>some (y::ys)
  |_,_=>none
end
def bY(s:Option Nat)(x:I):Bool:=match s with
 |none => !x.isAgg
 |some n=>x.isAgg&&x.size==n
def I.cj:I→Bool
 | .undef | .df | .tuple _=>false
 |_=>true
def ga(n esz:Nat)(fs:List I):Bool:=fs.length==n&&fs.all fun f=>f.size==esz
def dY(zs:List I):List (Nat×I)→Option (List I)
 | []=>some zs
 |(i,v)::rest=>match zs[i]? with
  |some z=>if v.cj=true∧v.size=z.size then dY (zs.set i v) rest else none
  |none=>none
def iw(x:Option I)(d:Int):Option Int:=match x with
 |none=>some d
 |some (.int _ n)=>some n
 |_=>none
def jJ(sz:Nat)(es:List I)(lo hi mx:Option I):Option I :=
 match iw hi es.length with
 |none=>none
 |some h=>match iw mx es.length with
  |none=>none
  |some m=>match iw lo 0 with
   |none=>none
   |some l=>if 0≤l∧l≤h∧h≤m∧m≤es.length then
     (if mx.isSome∧m=l then some (.c0 sz) else some (.slice sz ((es.take h.toNat).drop l.toNat))) else none
def iq(n:Nat)(p:List Nat)(sz lo k total:Nat)(lo' hi' mx':Option I):Option I :=
 match iw hi' k with
 |none=>none
 |some h=>match iw lo' 0 with
  |none=>none
  |some l=>match mx' with
   |none=>if 0≤l∧l≤h∧h≤((total-lo:Nat):Int) then (if l=((total-lo:Nat):Int) then some (.c0 sz) else some (.view n p sz (lo+l.toNat) (h.toNat-l.toNat))) else none
   |some (.int _ m)=>if 0≤l∧l≤h∧h≤m∧m≤((total-lo:Nat):Int) then some .df else none
   |_=>none
def iF(a b:Option Bool):Option Bool:=match a,b with
 |some x,some y=>some (x&&y)
 |_,_=>none
mutual
/-- '==',part by part. -/
def cu:cM→I→I→Option Bool
 | .i k,x,y=>match x,y with
  | .int k1 a,.int k2 b=>if k1=k∧k2=k then some (a==b) else none
  |_,_=>none
 | .b,x,y=>match x,y with
  | .bool a,.bool b=>some (a==b)
  |_,_=>none
 | .s,x,y=>match x,y with
  | .cY a,.cY b=>some (a.toList==b.toList)
  |_,_=>none
 | .bu l,x,y=>match x,y with
  | .agg fs,.agg gs=>iY l fs gs
  |_,_=>none
 | .jO n e,x,y=>match x,y with
  | .agg fs,.agg gs=>if fs.length=n∧gs.length=n then (fs.zip gs).foldr (fun p acc=>iF (cu e p.1 p.2) acc) (some true) else none
  |_,_=>none
def iY:List cM→List I→List I→Option Bool
 | [],fs,gs=>match fs,gs with
  | [],[]=>some true
  |_,_=>none
 |t::ts,fs,gs=>match fs,gs with
  |f::fs,g::gs=>iF (cu t f g) (iY ts fs gs)
  |_,_=>none
end
def pF(k:IntKind)(n:Int):Int:=k.wrap ((BitVec.ofInt k.bits (if k.signed then -1 else k.max) ^^^ BitVec.ofInt k.bits n).toNat:Int)
def fc(ty:cM)(k:I):List I→Nat→Option (Option Nat)
 | [],_=>some none
 |x::xs,i=>match cu ty k x with
  |some true=>some (some i)
  |some false=>fc ty k xs (i+1)
  |none=>none
def gE(A:af):I→Option (List I×List I)
 | .cT ks vs=>some (ks,vs)
 | .mref n=>match A.o n with
  |some (.cz ks vs)=>some (ks,vs)
  |_=>none
 | .raw (.map none)=>some ([],[])
 |_=>none
def gC(ty:cM)(z k:I)(ks vs:List I):Option (I×Bool) :=
 if (cu ty k k).isSome then (match fc ty k ks 0 with
  |some (some i)=>(vs[i]?).map fun v=>(v,true)
  |some none=>some (z,false)
  |none=>none) else none
def jb:I→Option Bool
 | .nilp=>some true
 | .ptr _ _=>some false
 | .ref _=>some false
 |_=>none
def gp(ty:cM)(k v:I)(ks vs:List I):Option (List I×List I) :=
 if (cu ty k k).isSome=true∧k.cj=true∧v.cj=true then (match fc ty k ks 0 with
  |some (some i)=>some (ks,vs.set i v)
  |some none=>some (ks++[k],vs++[v])
  |none=>none) else none
def mP:I→Option I
 | .ptr n p=>some (.ptr n p)
 | .ref x=>some (.ref x)
 |_=>none
def mT(neg:Bool):Option Bool→Option Bool→Option I
 |some a,some b=>if a||b then some (.bool (if neg then !(a&&b) else (a&&b))) else none
 |_,_=>none
def rB(ok:Bool):Option (I×Bool)→Option I
 |some (v,b)=>some (if ok then .tuple [v,.bool b] else v)
 |none=>none
def rA(ty:cM)(z:I)(ok:Bool)(k:I):Option (List I×List I)→Option I
 |some (ks,vs)=>rB ok (gC ty z k ks vs)
 |none=>none
def pI(ks vs:List I):Option Nat→Option I
 |some i=>match ks[i]?,vs[i]? with
  |some k,some v=>some (.tuple [k,v])
  |_,_=>none
 |none=>none
def bx(A:af):b8→Option I
 | .mv x=>some (ae A x)
 | .pick c a b=>match ae A c with | .bool t=>some (if t then ae A a else ae A b) | _=>none
 | .bin op x y=>cJ op (ae A x) (ae A y)
 | .eqv ty neg x y=>(cu ty (ae A x) (ae A y)).map fun b=>.bool (if neg then !b else b)
 | .nilS neg x=>match ae A x with
  | .nils _=>some (.bool (!neg))
  | .slice _ es=>if es.isEmpty then none else some (.bool neg)
  | .view _ _ _ _ _=>some (.bool neg)
  |_=>none
 | .conv k x=>match ae A x with | .int _ n=>some (.int k (k.wrap n)) | _=>none
 | .un op x=>match op,ae A x with
  | .not,.bool b=>some (.bool !b)
  | .neg,.int k n=>some (.int k (k.wrap (0-n)))
  | .xor,.int k n=>some (.int k (pF k n))
  |_,_=>none
 | .ld s x=>match cC A (ae A x) with | some v=>if bY s v then some v else none | none=>none
 | .fa f off x=>match ae A x with
  | .ref (.agg fs)=>match fs[f]? with | some v=>if I.sizes (fs.take f)=off then some (.ref v) else none | none=>none
  | .ptr n p=>match cC A (.ptr n p) with | some (.agg fs)=>if f<fs.length∧I.sizes (fs.take f)=off then some (.ptr n (p++[f])) else none | _=>none
  |_=>none
 | .fl f off s x=>match ae A x with
  | .agg fs=>match fs[f]? with | some v=>if I.sizes (fs.take f)=off∧bY s v=true then some v else none | none=>none
  |_=>none
 | .ia n esz x i=>match ae A i with
  | .int _ k=>if 0≤k∧k<n then (match ae A x with
   | .ref (.agg fs)=>if ga n esz fs then (fs[k.toNat]?).map .ref else none
   | .ptr m p=>match cC A (.ptr m p) with | some (.agg fs)=>if ga n esz fs then some (.ptr m (p++[k.toNat])) else none | _=>none
   |_=>none) else none
  |_=>none
 | .is esz x i=>match ae A i with
  | .int _ k=>match ae A x with
   | .slice sz es=>if sz=esz∧0≤k∧k<es.length then (es[k.toNat]?).map .ref else none
   | .own m l=>match A.o m with | some (.bT _ sz es)=>if l=es.length∧sz=esz∧0≤k∧k<es.length then (es[k.toNat]?).map .ref else none | _=>none
   | .view m p sz lo l=>match cC A (.ptr m p) with | some (.agg _)=>if sz=esz∧0≤k∧k<l then some (.ptr m (p++[lo+k.toNat])) else none | _=>none
   |_=>none
  |_=>none
 | .ix n esz s x i=>match ae A i with
  | .int _ k=>if 0≤k∧k<n then (match ae A x with
   | .agg fs=>if ga n esz fs then (match fs[k.toNat]? with | some v=>if bY s v then some v else none | none=>none) else none
   |_=>none) else none
  |_=>none
 | .len x=>match ae A x with
  | .slice _ es=>some (.int .i64 es.length)
  | .nils _ | .c0 _=>some (.int .i64 0)
  | .own m l=>match A.o m with | some (.bT _ _ es)=>if l=es.length then some (.int .i64 es.length) else none | _=>none
  | .view _ _ _ _ k=>some (.int .i64 k)
  |_=>none
 | .cap x=>match ae A x with
  | .nils _ | .c0 _=>some (.int .i64 ((0:Nat):Int))
  | .view n p _ lo _=>match cC A (.ptr n p) with | some (.agg fs)=>some (.int .i64 ((fs.length-lo:Nat):Int)) | _=>none
  |_=>none
 | .bs0 esz=>some (.c0 esz)
 | .lenT x=>match ae A x with
  | .cY s=>some (.int .i64 s.size)
  |_=>none
 | .va n esz x=>match ae A x with
  | .ptr m p=>match cC A (.ptr m p) with | some (.agg fs)=>if ga n esz fs=true∧n≤maxLen∧n≠0 then some (.view m p esz 0 n) else none | _=>none
  | .ref (.agg fs)=>if ga n esz fs=true∧n≤maxLen∧n≠0 then some (.slice esz fs) else none
  |_=>none
 | .sl esz x lo hi mx=>match ae A x with
  | .slice sz es=>if sz=esz then jJ sz es (lo.map (ae A)) (hi.map (ae A)) (mx.map (ae A)) else none
  | .nils sz=>if sz=esz then jJ sz [] (lo.map (ae A)) (hi.map (ae A)) (mx.map (ae A)) else none
  | .c0 sz=>if sz=esz then jJ sz [] (lo.map (ae A)) (hi.map (ae A)) (mx.map (ae A)) else none
  | .view n p sz l0 k=>match cC A (.ptr n p) with | some (.agg fs)=>if sz=esz then iq n p sz l0 k fs.length (lo.map (ae A)) (hi.map (ae A)) (mx.map (ae A)) else none | _=>none
  |_=>none
 | .bld zs parts=>(dY zs (parts.map fun p=>(p.1,ae A p.2))).map .agg
 | .nilC x=>mP (ae A x)
 | .ptrE neg x y=>mT neg (jb (ae A x)) (jb (ae A y))
 | .lk ty z ok m k=>rA ty z ok (ae A k) (gE A (ae A m))
 | .ent x=>match ae A x with
  | .dv n=>match A.o n with
   |some (.it ks vs _ cur)=>pI ks vs cur
   |_=>none
  |_=>none
 | .bs esz parts=>match b7 false A (parts.map (ae A)) with
  |some es=>if (es.all fun e=>e.size==esz)∧I.bX es then some (.slice esz es) else none
  |none=>none
 | .ext x i=>match ae A x with | .tuple fs=>fs[i]? | _=>none
 | .mk f caps=>if ((caps.map (ae A)).all fun y=>y.cj)=true then some (.func f (caps.map (ae A))) else none
 |_=>none
mutual
theorem ah.fS{w:World}{D D':aN}{E E':aZ}(hD:∀ b o,D b o→D' b o):∀ (x:I) (cs:List Value),x.bB=true→ah w D E x cs→ah w D' E' x cs
 | .agg fs,cs,hc,hr=>by simp only[ah,I.bB] at *;exact aG.fS hD fs cs hc hr
 | .bool b,cs,_,hr=>by simpa only[ah] using hr
 | .int k n,cs,_,hr=>by simpa only[ah] using hr
 | .cY s,cs,_,hr=>by simpa only[ah] using hr
 | .nilp,cs,_,hr=>by simpa only[ah] using hr
 | .dh,cs,_,hr=>by simpa only[ah] using hr
 | .dX,cs,_,hr=>by simpa only[ah] using hr
 | .raw _,cs,_,hr=>by simpa only[ah] using hr
 | .nils _,cs,_,hr=>by simpa only[ah] using hr
 | .c0 _,cs,_,hr=>by simpa only[ah] using hr
 | .slice sz es,cs,hc,hr=>by
  simp only[ah,I.bB] at *
  obtain ⟨a,cap,h1,h2,h3,h4,h5⟩:=hr
  refine ⟨a,cap,h1,h2,h3,?_,h5⟩
  rcases h4 with h4 | ⟨b,off,cs',h6,h7,h8⟩
  ·exact .inl h4
  ·exact .inr ⟨b,off,cs',h6,fun j v hj=>⟨(h7 j v hj).1,hD _ _ (h7 j v hj).2⟩,aG.fS hD es cs' hc h8⟩
 | .ref x,cs,hc,hr=>by
  simp only[ah,I.bB] at *
  obtain ⟨b,off,cs',h1,h2,h3⟩:=hr
  exact ⟨b,off,cs',h1,fun j v hj=>⟨(h2 j v hj).1,hD _ _ (h2 j v hj).2⟩,ah.fS hD x cs' hc h3⟩
 | .func f caps,cs,hc,hr=>by
  simp only[ah,I.bB] at *
  obtain ⟨vs,h1,h2⟩:=hr
  exact ⟨vs,h1,aF.fS hD caps vs hc h2⟩
 | .iface t v,cs,hc,hr=>by
  simp only[ah,I.bB] at *
  obtain ⟨u,cs',h1,h2,h3⟩:=hr
  exact ⟨u,cs',h1,h2,ah.fS hD v cs' hc h3⟩
 | .ptr n p,_,hc,_=>by simp[I.bB] at hc
 | .own n k,_,hc,_=>by simp[I.bB] at hc
 | .view n p _ _ _,_,hc,_=>by simp[I.bB] at hc
 | .mref n,_,hc,_=>by simp[I.bB] at hc
 | .dv n,_,hc,_=>by simp[I.bB] at hc
 | .cT ks vs,cs,hc,hr=>by
  simp only[ah,I.bB,Bool.and_eq_true] at *
  obtain ⟨b,es,ck,h1,h2,h3,h4⟩:=hr
  exact ⟨b,es,ck,h1,⟨h2.1,hD _ _ h2.2.1,h2.2.2⟩,aF.fS hD ks _ hc.1 h3,aF.fS hD vs _ hc.2 h4⟩
 | .undef,_,hc,_=>by simp[I.bB] at hc
 | .df,_,hc,_=>by simp[I.bB] at hc
 | .tuple _,_,hc,_=>by simp[I.bB] at hc
theorem aG.fS{w:World}{D D':aN}{E E':aZ}(hD:∀ b o,D b o→D' b o):∀ (xs:List I) (cs:List Value),I.bX xs=true→aG w D E xs cs→aG w D' E' xs cs
 | [],cs,_,hr=>by simpa only[aG] using hr
 |x::xs,cs,hc,hr=>by
  simp only[aG,I.bX,Bool.and_eq_true] at *
  obtain ⟨c1,c2,h1,h2,h3⟩:=hr
  exact ⟨c1,c2,h1,ah.fS hD x c1 hc.1 h2,aG.fS hD xs c2 hc.2 h3⟩
theorem aF.fS{w:World}{D D':aN}{E E':aZ}(hD:∀ b o,D b o→D' b o):∀ (xs:List I) (vs:List Value),I.bX xs=true→aF w D E xs vs→aF w D' E' xs vs
 | [],vs,_,hr=>by simpa only[aF] using hr
 |x::xs,vs,hc,hr=>by
  simp only[aF,I.bX,Bool.and_eq_true] at *
  obtain ⟨v,rest,cs,h1,h2,h3,h4⟩:=hr
  exact ⟨v,rest,cs,h1,h2,ah.fS hD x cs hc.1 h3,aF.fS hD xs rest hc.2 h4⟩
end
theorem oP{w:World}{D:aN}{b:Nat}{cs:Array Value}{T:TypeId}{fz:Nat×Nat}(hb:w.heap[b]?=some (.cells cs T fz)){c1 c2 c3:List Value}(hc:cs.toList=c1++c2++c3)
  (hD:∀ o,o<c1.length+c2.length→D b o):gV w D b c1.length c2:=by
 intro j v hj
 have hjl:j<c2.length:=(List.getElem?_eq_some_iff.1 hj).1
 refine ⟨?_,hD _ (by omega)⟩
 have e:cs[c1.length+j]?=some v:=by
  rw[←Array.getElem?_toList,hc,List.append_assoc,List.getElem?_append_right (by omega),Nat.add_sub_cancel_left,List.getElem?_append_left (by omega)]
  exact hj
 simp[World.cell?,hb,e]
section
variable {c:cQ} {A:af} {a:Act} {w:World} {D:aN} {E:aZ}
theorem aT.box(h:aT c A a w D E){n:Nat}{x:I}(hn:A.o n=some (.box x)) :
  ∃ b cs T,E n=some (.aC b x.aP)∧c.fm b∧w.heap[b]?=some (.cells cs T (0,0))∧ah w D E x cs.toList∧∀ o,¬ D b o:=by
 have:=h.bS n
 rw[hn] at this
 exact this
theorem aT.bT(h:aT c A a w D E){n sz:Nat}{T:TypeId}{es:List I}(hn:A.o n=some (.bT T sz es)) :
  ∃ aE,E n=some (.rw aE es.length)∧(∀ e∈es,e.size=sz)∧match aE with
  |none=>es=[]
  |some (b,cap)=>∃ cs pre rest,c.fm b∧w.heap[b]?=some (.cells cs T (0,0))∧cs.toList=pre++rest∧aG w D E es pre ∧
    cs.size=cap*sz∧es.length≤cap∧cap≤maxLen∧∀ o,D b o→o<pre.length:=by
 have:=h.bS n
 rw[hn] at this
 exact this
theorem aT.r7(h:aT c A a w D E){n:Nat}{T:TypeId}{xs:List Int}(hn:A.o n=some (.cV T xs)) :
  ∃ aE,E n=some (.rw aE xs.length)∧(∀ x∈xs,IntKind.i64.min≤x∧x≤IntKind.i64.max)∧match aE with
  |none=>xs=[]
  |some (b,cap)=>∃ cs m,c.fm b∧w.heap[b]?=some (.cells cs T (0,0))∧cs.toList=(xs++List.replicate m 0).map (Value.int .i64)∧xs≠[]∧xs.length+m=cap∧cap≤maxLen∧∀ o,¬ D b o:=by
 have:=h.bS n
 rw[hn] at this
 exact this
theorem aT.map(h:aT c A a w D E){n:Nat}{ks vs:List I}(hn:A.o n=some (.cz ks vs)) :
  ∃ b es clock,E n=some (.cz b)∧c.fm b∧w.heap[b]?=some (.map es clock)∧qw es clock∧aF w D E ks (es.toList.map (·.key))∧aF w D E vs (es.toList.map (·.val))∧∀ o,¬ D b o:=by
 have:=h.bS n
 rw[hn] at this
 exact this
theorem aT.at(h:aT c A a w D E){n:Nat}{p:List Nat}{x:I}(hx:cC A (.ptr n p)=some x) :
  ∃ y b cs T off c1 c2 c3,A.o n=some (.box y)∧E n=some (.aC b y.aP)∧c.fm b∧w.heap[b]?=some (.cells cs T (0,0))∧y.at p=some x∧y.aP.off p=some off ∧
   cs.toList=c1++c2++c3∧c1.length=off∧ah w D E x c2∧ah w D E y cs.toList∧∀ o,¬ D b o:=by
 simp only[cC] at hx
 split at hx
 ·rename_i y hn
  obtain ⟨b,cs,T,h1,h2,h3,h4,h5⟩:=h.box hn
  obtain ⟨off,c1,c2,c3,h6,h7,h8,h9⟩:=ze p y x _ h4 hx
  exact ⟨y,b,cs,T,off,c1,c2,c3,hn,h1,h2,h3,hx,h6,h7,h8,h9,h4,h5⟩
 ·cases hx
theorem aT.AM(h:aT c A a w D E){x y:I}{v:Value}(hv:aW w D E x v)(hx:cC A x=some y) :
  ∃ b off cs,v=.pointer (some ⟨b,off,none⟩)∧(∀ j u,cs[j]?=some u→w.cell? ⟨b,off+j,none⟩=some u)∧ah w D E y cs:=by
 cases x with
 |ref z =>
  simp only[cC,Option.some.injEq] at hx
  subst hx
  obtain ⟨b,off,cs,h1,h2,h3⟩:=qm hv
  exact ⟨b,off,cs,h1,fun j u hj=>(h2 j u hj).1,h3⟩
 |ptr n p =>
  obtain ⟨b,aP,off,h1,h2,h3⟩:=oW hv
  obtain ⟨z,b',cs,T,off',c1,c2,c3,k1,k2,_,k3,_,k5,k6,k7,k8,_,_⟩:=h.at hx
  rw[k2] at h1
  simp only[Option.some.injEq,bU.aC.injEq] at h1
  obtain ⟨rfl,rfl⟩:=h1
  rw[k5,Option.some.injEq] at h2
  subst h2
  refine ⟨b',off',c2,h3,fun j u hj =>?_,k8⟩
  have:=oP (D:=fun _ _=>True) k3 k6 (fun _ _=>trivial)
  rw[k7] at this
  exact (this j u hj).1
 |_=>simp[cC] at hx
theorem uB{w:World}{D:aN}{E:aZ} : ∀ (xs ys:List I) (cs:List Value),aG w D E (xs++ys) cs→∃ c1 c2,cs=c1++c2∧aG w D E xs c1∧aG w D E ys c2
 | [],ys,cs,hr=>⟨[],cs,rfl,by simp[aG],hr⟩
 |x::xs,ys,cs,hr=>by
  simp only[List.cons_append,aG] at hr
  obtain ⟨d1,d2,rfl,k1,k2⟩:=hr
  obtain ⟨e1,e2,rfl,k3,k4⟩:=uB xs ys d2 k2
  exact ⟨d1++e1,e2,by simp,by simp only[aG];exact ⟨d1,e1,rfl,k1,k3⟩,k4⟩
theorem OA{fs:List I}{sz:Nat}(h:∀ s∈I.cK fs,s.size=sz):∀ f∈fs,f.size=sz:=by
 intro f hf
 rw[←I.mg]
 exact h _ (by rw[I.dn];exact List.mem_map.2 ⟨f,hf,rfl⟩)
theorem uC{w:World}{D:aN}{E:aZ}{fs:List I}{cs:List Value}{sz:Nat}(hr:aG w D E fs cs)(hev:∀ f∈fs,f.size=sz)(lo k:Nat)(h:lo+k≤fs.length) :
  ∃ d1 d2 d3,cs=d1++(d2++d3)∧d1.length=lo*sz∧aG w D E ((fs.drop lo).take k) d2∧aG w D E ((fs.drop lo).drop k) d3:=by
 have e1:fs=fs.take lo++((fs.drop lo).take k++(fs.drop lo).drop k):=by rw[List.take_append_drop,List.take_append_drop]
 rw[e1] at hr
 obtain ⟨d1,d',rfl,q1,q2⟩:=uB _ _ _ hr
 obtain ⟨d2,d3,rfl,q3,q4⟩:=uB _ _ _ q2
 refine ⟨d1,d2,d3,rfl,?_,q3,q4⟩
 rw[aG.length _ _ q1,I.iB _ (fun x hx=>hev x (List.mem_of_mem_take hx)),List.length_take]
 congr 1
 omega
structure iE (aC:Bool) (A:af) (D:aN) (E:aZ) (D':aN):Prop where
 c6:∀ b o,D b o→D' b o
 bT:∀ n T sz es b cap,A.o n=some (.bT T sz es)→E n=some (.rw (some (b,cap)) es.length)→∀ o,o<es.length*sz→D' b o
 box:aC=true→∀ n x b aP,A.o n=some (.box x)→E n=some (.aC b aP)→∀ o,o<x.size→D' b o
 map:aC=true→∀ n ks vs b,A.o n=some (.cz ks vs)→E n=some (.cz b)→D' b 0
def ez(A A':af):Prop:=∀ n x,A.o n=some x→A'.o n=some x
theorem jS{A A':af}(hu:ez A A'){x v:I}(h:cC A x=some v):cC A' x=some v:=by
 cases x <;>simp only[cC] at h ⊢ <;>try exact h
 rename_i n p
 cases ho:A.o n with
 |none=>rw[ho] at h;cases h
 |some y=>rw[ho] at h;rw[hu n y ho];exact h
theorem Dk{A0 A:af}(hu:ez A0 A){n:Nat}{p:List Nat}{x z:I}(h:cC A0 (.ptr n p)=some x)(hz:A.o n=some (.box z)):A0.o n=some (.box z):=by
 simp only[cC] at h
 split at h
 ·rename_i y hy
  have:=hu n _ hy
  rw[hz] at this
  rw[hy,←this]
 ·cases h
theorem aT.N2(h:aT c A a w D E){A0:af}(hu:ez A0 A){D':aN}(hw:iE true A0 D E D'){n:Nat}{p:List Nat}{x:I}{cs:List Value}(hx:cC A0 (.ptr n p)=some x)(hr:ah w D E (.ptr n p) cs) :
  ∃ b off c2,cs=[.pointer (some ⟨b,off,none⟩)]∧gV w D' b off c2∧ah w D E x c2:=by
 obtain ⟨z,b',cs',T,off',c1,c2,c3,k1,k2,_,k3,k4,k5,k6,k7,k8,k9,_⟩:=h.at (jS hu hx)
 have k1:=Dk hu hx k1
 simp only[ah] at hr
 obtain ⟨b,aP,off,h1,h2,h3⟩:=hr
 rw[k2] at h1
 simp only[Option.some.injEq,bU.aC.injEq] at h1
 obtain ⟨rfl,rfl⟩:=h1
 rw[k5,Option.some.injEq] at h2
 subst h2
 have hsz:=ah.length z _ k9
 rw[k6] at hsz
 simp only[List.length_append] at hsz
 refine ⟨b',off',c2,h3,?_,k8⟩
 rw[←k7]
 exact oP k3 k6 (fun o ho=>hw.box rfl n z b' _ k1 k2 o (by omega))
theorem aT.jJ(h:aT c A a w D E){A0:af}(hu:ez A0 A){D':aN}{E':aZ}(hw:iE true A0 D E D'){n:Nat}{p:List Nat}{sz lo k:Nat}{fs:List I}{cs:List Value}(hx:cC A0 (.ptr n p)=some (.agg fs))(hr:ah w D E (.view n p sz lo k) cs)
  (hcl:I.bX ((fs.drop lo).take k)=true):ah w D' E' (.slice sz ((fs.drop lo).take k)) cs:=by
 obtain ⟨z,b',cs',T,off',c1,c2,c3,k1,k2,_,k3,k4,k5,k6,k7,k8,k9,_⟩:=h.at (jS hu hx)
 have k1:=Dk hu hx k1
 simp only[ah] at hr k8 ⊢
 obtain ⟨b,aP,off,l,h1,h2,h3,h4,h5,h6,h7⟩:=hr
 rw[k2] at h1
 simp only[Option.some.injEq,bU.aC.injEq] at h1
 obtain ⟨rfl,rfl⟩:=h1
 rw[k5,Option.some.injEq] at h2
 subst h2
 rw[na p z _ k4] at h3
 simp only[I.aP,Option.some.injEq,cO.ej.injEq] at h3
 subst h3
 have hsz:=ah.length z _ k9
 rw[k6] at hsz
 rw[I.dn,List.length_map] at h4 h5 h6
 have hev:=OA h7
 obtain ⟨d1,d2,d3,rfl,q1,q2,q3⟩:=uC k8 hev lo k h6
 simp only[List.length_append] at hsz
 have hlen:((fs.drop lo).take k).length=k:=by rw[List.length_take,List.length_drop];omega
 refine ⟨some ⟨b',off'+lo*sz,none⟩,fs.length-lo,by rw[hlen];exact h4,by rw[hlen];omega,by omega,.inr ⟨b',off'+lo*sz,d2,rfl,?_,aG.fS hw.c6 _ d2 hcl q2⟩,?_⟩
 ·have:=oP (D:=D') (c1:=c1++d1) (c2:=d2) (c3:=d3++c3) k3 (by rw[k6];simp) (fun o ho=>hw.box rfl n z b' _ k1 k2 o (by rw[List.length_append] at ho;omega))
  rw[List.length_append,k7,q1] at this
  exact this
 ·intro e he
  exact hev e (List.mem_of_mem_drop (List.mem_of_mem_take he))
theorem aT.Og(h:aT c A a w D E){aC:Bool}{A0:af}(hu:ez A0 A){D':aN}{E':aZ}(hw:iE aC A0 D E D'){n k T sz:Nat}{es:List I}{cs:List Value}(hn:A0.o n=some (.bT T sz es))(hcl:I.bX es=true)(hk:k=es.length)(hr:ah w D E (.own n k) cs):ah w D' E' (.slice sz es) cs:=by
 subst hk
 simp only[ah] at hr
 obtain ⟨aE,l,h1,h2,_,h4⟩:=hr
 obtain ⟨blk',k1,k2,k3⟩:=h.bT (hu n _ hn)
 rw[k1] at h1
 simp only[Option.some.injEq,bU.rw.injEq] at h1
 obtain ⟨rfl,rfl⟩:=h1
 have h4:=h4 rfl
 cases blk' with
 |none =>
  simp only at k3 h4
  subst k3
  simp only[ah]
  exact ⟨none,0,by simpa using h4,by simp,by simp[maxLen],by simp,by simp⟩
 |some bc =>
  obtain ⟨b,cap⟩:=bc
  simp only at h4
  obtain ⟨cs',pre,rest,k4,k5,k6,k7,k8,k9,k10,k11⟩:=k3
  simp only[ah]
  refine ⟨some ⟨b,0,none⟩,cap,h4,k9,k10,.inr ⟨b,0,pre,rfl,?_,aG.fS hw.c6 es pre hcl k7⟩,k2⟩
  have hp:pre.length=es.length*sz:=by rw[aG.length _ _ k7,I.iB _ k2]
  have:=oP (D:=D') (c1:=[]) k5 (by simpa using k6) (fun o ho=>hw.bT n T sz es b cap hn k1 o (by simp at ho;omega))
  simpa using this
theorem KX{w:World}{D D':aN}{E E':aZ}{f:I→Option I}(hf:∀ x y cs,ah w D E x cs→f x=some y→ah w D' E' y cs):∀ (xs ys:List I) (cs:List Value),aG w D E xs cs→fJ f xs=some ys→aG w D' E' ys cs
 | [],ys,cs,hr,h=>by simp only[fJ,Option.some.injEq] at h;subst h;simpa only[aG] using hr
 |x::xs,ys,cs,hr,h=>by
  simp only[fJ] at h
  split at h
  ·rename_i y ys' h1 h2
   simp only[Option.some.injEq] at h
   subst h
   simp only[aG] at *
   obtain ⟨c1,c2,e,k1,k2⟩:=hr
   exact ⟨c1,c2,e,hf x y c1 k1 h1,KX hf xs ys' c2 k2 h2⟩
  ·cases h
theorem tN{w:World}{D D':aN}{E E':aZ}{f:I→Option I}(hf:∀ x y cs,ah w D E x cs→f x=some y→ah w D' E' y cs)(hp:∀ x y,f x=some y→y.isAgg=x.isAgg):∀ (xs ys:List I) (vs:List Value),aF w D E xs vs→fJ f xs=some ys→aF w D' E' ys vs
 | [],ys,cs,hr,h=>by simp only[fJ,Option.some.injEq] at h;subst h;simpa only[aF] using hr
 |x::xs,ys,cs,hr,h=>by
  simp only[fJ] at h
  split at h
  ·rename_i y ys' h1 h2
   simp only[Option.some.injEq] at h
   subst h
   simp only[aF] at *
   obtain ⟨v,rest,c1,e,k1,k2,k3⟩:=hr
   refine ⟨v,rest,c1,e,?_,hf x y c1 k2 h1,tN hf hp xs ys' rest k3 h2⟩
   unfold bK at *
   rw[hp x y h1]
   exact k1
  ·cases h
theorem wo{A0:af} : ∀ {k:Nat} {x y:I},dL A0 k x=some y→y.isAgg=x.isAgg
 |0,_,_,h=>by simp[dL] at h
 |k+1,x,y,h=>by
  simp only[dL] at h
  split at h
  ·simp only[Option.some.injEq] at h;rw[h]
  ·cases x <;>simp only[] at h <;>first
    |(cases h;done)
    |(simp only[Option.map_eq_some_iff] at h;obtain ⟨z,_,rfl⟩:=h;rfl)
    |((repeat' split at h) <;>first | (cases h;done) | (simp only[Option.some.injEq] at h;subst h;rfl) | (simp only[Option.map_eq_some_iff] at h;obtain ⟨z,_,rfl⟩:=h;rfl))
theorem wq(h:aT c A a w D E){A0:af}(hu:ez A0 A){D':aN}{E':aZ}(hw:iE true A0 D E D'):∀ (k:Nat) (x y:I) (cs:List Value),ah w D E x cs→dL A0 k x=some y→ah w D' E' y cs
 |0,_,_,_,_,hf=>by simp[dL] at hf
 |k+1,x,y,cs,hr,hf=>by
  have ih:=wq h hu (E':=E') hw k
  simp only[dL] at hf
  split at hf
  ·rename_i hcl
   simp only[Option.some.injEq] at hf;subst hf
   exact ah.fS hw.c6 x cs hcl hr
  ·rename_i hcl
   cases x <;>simp only[] at hf <;>try (cases hf;done)
   case agg fs =>
    simp only[Option.map_eq_some_iff] at hf
    obtain ⟨ys,hy,rfl⟩:=hf
    simp only[ah] at *
    exact KX ih fs ys cs hr hy
   case func f caps =>
    simp only[Option.map_eq_some_iff] at hf
    obtain ⟨ys,hy,rfl⟩:=hf
    simp only[ah] at *
    obtain ⟨vs,h1,h2⟩:=hr
    exact ⟨vs,h1,tN ih (fun x y hxy=>wo hxy) caps ys vs h2 hy⟩
   case ptr n p =>
    split at hf
    case h_2=>cases hf
    rename_i z hz
    simp only[Option.map_eq_some_iff] at hf
    obtain ⟨y',hy,rfl⟩:=hf
    obtain ⟨b,off,c2,k1,k2,k3⟩:=h.N2 hu hw hz hr
    simp only[ah]
    exact ⟨b,off,c2,k1,k2,ih z y' c2 k3 hy⟩
   case view n p sz lo l =>
    split at hf
    case h_2=>cases hf
    rename_i fs hx
    split at hf
    case isFalse=>cases hf
    rename_i hc
    simp only[Option.some.injEq] at hf;subst hf
    exact h.jJ hu hw hx hr hc
   case mref n =>
    split at hf
    case h_2=>cases hf
    rename_i ks vs hn
    split at hf
    case isFalse=>cases hf
    rename_i hc
    simp only[Option.map_eq_some_iff] at hf
    obtain ⟨ys,hy,rfl⟩:=hf
    simp only[ah] at hr ⊢
    obtain ⟨b,h1,h2⟩:=hr
    obtain ⟨b',es,ck,k1,k2,k3,k4,k5,k6,k7⟩:=h.map (hu n _ hn)
    rw[k1] at h1;cases h1
    exact ⟨b,es,ck,h2,⟨k3,hw.map rfl n ks vs b hn k1,k4⟩,aF.fS hw.c6 ks _ hc k5,tN ih (fun x y hxy=>wo hxy) vs ys _ k6 hy⟩
   case own n l =>
    split at hf
    case h_2=>cases hf
    rename_i T sz es hn
    split at hf
    case isFalse=>cases hf
    rename_i hk
    simp only[Option.some.injEq] at hf;subst hf
    exact h.Og hu hw hn hk.2 hk.1 hr
mutual
theorem DT(h:aT c A a w D E){aC:Bool}{A0:af}(hu:ez A0 A){D':aN}{E':aZ}(hw:iE aC A0 D E D'):∀ (x y:I) (cs:List Value),ah w D E x cs→br aC A0 x=some y→ah w D' E' y cs
 | .ptr n p,y,cs,hr,hf=>by
  simp only[br] at hf
  split at hf
  case isFalse=>cases hf
  rename_i hbx
  subst hbx
  split at hf
  case h_2=>cases hf
  rename_i x hx
  obtain ⟨b,off,c2,k1,k2,k3⟩:=h.N2 hu hw hx hr
  split at hf
  ·rename_i hcl
   simp only[Option.some.injEq] at hf
   subst hf
   simp only[ah]
   exact ⟨b,off,c2,k1,k2,ah.fS hw.c6 x c2 hcl k3⟩
  ·simp only[Option.map_eq_some_iff] at hf
   obtain ⟨y',hy,rfl⟩:=hf
   simp only[ah]
   exact ⟨b,off,c2,k1,k2,wq h hu hw 9 x y' c2 k3 hy⟩
 | .mref n,y,cs,hr,hf=>by
  simp only[br] at hf
  split at hf
  case isFalse=>cases hf
  rename_i hbx
  subst hbx
  split at hf
  case h_2=>cases hf
  rename_i ks vs hn
  split at hf
  case isFalse=>cases hf
  rename_i hc
  simp only[Option.map_eq_some_iff] at hf
  obtain ⟨ys,hy,rfl⟩:=hf
  simp only[ah] at hr ⊢
  obtain ⟨b,h1,h2⟩:=hr
  obtain ⟨b',es,ck,k1,k2,k3,k4,k5,k6,k7⟩:=h.map (hu n _ hn)
  rw[k1] at h1;cases h1
  exact ⟨b,es,ck,h2,⟨k3,hw.map rfl n ks vs b hn k1,k4⟩,aF.fS hw.c6 ks _ hc k5,tN (wq h hu hw 9) (fun x y hxy=>wo hxy) vs ys _ k6 hy⟩
 | .dv _,_,_,_,hf=>by simp[br] at hf
 | .cT ks vs,y,cs,hr,hf=>by
  simp only[br] at hf
  split at hf
  ·rename_i hc;simp only[Option.some.injEq] at hf;subst hf;exact ah.fS hw.c6 _ cs (by simpa[I.bB] using hc) hr
  ·cases hf
 | .own n k,y,cs,hr,hf=>by
  simp only[br] at hf
  split at hf
  case h_2=>cases hf
  rename_i T sz es hn
  split at hf
  case isFalse=>cases hf
  rename_i hk
  simp only[Option.some.injEq] at hf
  subst hf
  exact h.Og hu hw hn hk.2 hk.1 hr
 | .view n p sz lo k,y,cs,hr,hf=>by
  simp only[br] at hf
  split at hf
  case isFalse=>cases hf
  rename_i hbx
  subst hbx
  split at hf
  case h_2=>cases hf
  rename_i fs hx
  split at hf
  case isFalse=>cases hf
  rename_i hcl
  simp only[Option.some.injEq] at hf
  subst hf
  exact h.jJ hu hw hx hr hcl
 | .nils sz,y,cs,hr,hf=>by
  simp only[br,Option.some.injEq] at hf
  subst hf
  simp only[ah] at *
  exact ⟨none,0,by simpa using hr,by simp,by simp[maxLen],by simp,by simp⟩
 | .c0 sz,y,cs,hr,hf=>by
  simp only[br,Option.some.injEq] at hf
  subst hf
  simp only[ah] at *
  obtain ⟨ad,hr⟩:=hr
  exact ⟨ad,0,by simpa using hr,by simp,by simp[maxLen],by simp,by simp⟩
 | .func f caps,y,cs,hr,hf=>by
  simp only[br,Option.map_eq_some_iff] at hf
  obtain ⟨ys,hy,rfl⟩:=hf
  simp only[ah] at *
  obtain ⟨vs,h1,h2⟩:=hr
  exact ⟨vs,h1,mG h hu hw caps ys vs h2 hy⟩
 | .agg fs,y,cs,hr,hf=>by
  simp only[br,Option.map_eq_some_iff] at hf
  obtain ⟨ys,hy,rfl⟩:=hf
  simp only[ah] at *
  exact DU h hu hw fs ys cs hr hy
 | .tuple _,_,_,_,hf=>by simp[br] at hf
 | .undef,_,_,_,hf=>by simp[br] at hf
 | .df,_,_,_,hf=>by simp[br] at hf
 | .bool b,y,cs,hr,hf=>by simp only[br,Option.some.injEq] at hf;subst hf;simpa only[ah] using hr
 | .int k n,y,cs,hr,hf=>by simp only[br,Option.some.injEq] at hf;subst hf;simpa only[ah] using hr
 | .cY s,y,cs,hr,hf=>by simp only[br,Option.some.injEq] at hf;subst hf;simpa only[ah] using hr
 | .nilp,y,cs,hr,hf=>by simp only[br,Option.some.injEq] at hf;subst hf;simpa only[ah] using hr
 | .dh,y,cs,hr,hf=>by simp only[br,Option.some.injEq] at hf;subst hf;simpa only[ah] using hr
 | .dX,y,cs,hr,hf=>by simp only[br,Option.some.injEq] at hf;subst hf;simpa only[ah] using hr
 | .raw _,y,cs,hr,hf=>by simp only[br,Option.some.injEq] at hf;subst hf;simpa only[ah] using hr
 | .slice sz es,y,cs,hr,hf=>by
  simp only[br] at hf
  split at hf
  ·rename_i hc;simp only[Option.some.injEq] at hf;subst hf;exact ah.fS hw.c6 _ cs (by simpa[I.bB] using hc) hr
  ·cases hf
 | .ref x,y,cs,hr,hf=>by
  simp only[br] at hf
  split at hf
  ·rename_i hc;simp only[Option.some.injEq] at hf;subst hf;exact ah.fS hw.c6 _ cs (by simpa[I.bB] using hc) hr
  ·cases hf
 | .iface t v,y,cs,hr,hf=>by
  simp only[br] at hf
  split at hf
  ·rename_i hc;simp only[Option.some.injEq] at hf;subst hf;exact ah.fS hw.c6 _ cs (by simpa[I.bB] using hc) hr
  ·cases hf
theorem DU(h:aT c A a w D E){aC:Bool}{A0:af}(hu:ez A0 A){D':aN}{E':aZ}(hw:iE aC A0 D E D'):∀ (xs ys:List I) (cs:List Value),aG w D E xs cs→b7 aC A0 xs=some ys→aG w D' E' ys cs
 | [],ys,cs,hr,hf=>by simp only[b7,Option.some.injEq] at hf;subst hf;simpa only[aG] using hr
 |x::xs,ys,cs,hr,hf=>by
  simp only[b7] at hf
  split at hf
  ·rename_i y ys' h1 h2
   simp only[Option.some.injEq] at hf
   subst hf
   simp only[aG] at *
   obtain ⟨c1,c2,e,k1,k2⟩:=hr
   exact ⟨c1,c2,e,DT h hu hw x y c1 k1 h1,DU h hu hw xs ys' c2 k2 h2⟩
  ·cases hf
theorem mG(h:aT c A a w D E){aC:Bool}{A0:af}(hu:ez A0 A){D':aN}{E':aZ}(hw:iE aC A0 D E D'):∀ (xs ys:List I) (vs:List Value),aF w D E xs vs→b7 aC A0 xs=some ys→aF w D' E' ys vs
 | [],ys,cs,hr,hf=>by simp only[b7,Option.some.injEq] at hf;subst hf;simpa only[aF] using hr
 |x::xs,ys,cs,hr,hf=>by
  simp only[b7] at hf
  split at hf
  ·rename_i y ys' h1 h2
   simp only[Option.some.injEq] at hf
   subst hf
   simp only[aF] at *
   obtain ⟨v,rest,c1,e,k1,k2,k3⟩:=hr
   refine ⟨v,rest,c1,e,?_,DT h hu hw x y c1 k2 h1,mG h hu hw xs ys' rest k3 h2⟩
   have:y.isAgg=x.isAgg:=by
    cases x <;>simp only[br] at h1 <;>first
     |(simp at h1;done)
     |(simp only[Option.some.injEq] at h1;subst h1;rfl)
     |(simp only[Option.map_eq_some_iff] at h1;obtain ⟨z,_,rfl⟩:=h1;rfl)
     |((repeat' split at h1) <;>first | (simp at h1;done) | (simp only[Option.some.injEq] at h1;subst h1;rfl) | (simp only[Option.map_eq_some_iff] at h1;obtain ⟨z,_,rfl⟩:=h1;rfl))
   unfold bK at *
   rw[this]
   exact k1
  ·cases hf
end
end
def fU(P:Program)(t:TypeId):Option (Option Nat):=match P.underlying t with
 |some (.struct _) | some (.array _ _)=>some (some (P.cellsOf t))
 |some _=>some none
 |none=>none
def zR(P:Program):Nat→TypeId→Option I
 |0,_=>none
 |d+1,t=>match P.underlying t with
  |some .bool=>some (.bool false)
  |some (.int k)=>some (.int k 0)
  |some .string=>some (.cY ByteArray.empty)
  |some (.pointer _)=>some .nilp
  |some (.slice e)=>some (.nils (P.cellsOf e))
  |some (.func _ _ _)=>some .dh
  |some (.interface _)=>some .dX
  |some (.map _ _)=>some (.raw (.map none))
  |some (.struct fs)=>(fs.toList.mapM fun f=>zR P d f.type).map .agg
  |some (.array n e)=>(zR P d e).map fun z=>.agg (List.replicate n z)
  |_=>none
def lF:I→Value→Bool
 | .bool b,.bool b'=>b==b'
 | .int k n,.int k' n'=>k==k'&&n==n'&&decide (k.min≤n∧n≤k.max)
 | .cY s,.string t=>s.size==0&&t.size==0
 | .nilp,.pointer none=>true
 | .nils _,.slice none 0 0=>true
 | .dh,.nilFunc=>true
 | .dX,.nilIface=>true
 | .raw (.map none),.map none=>true
 |_,_=>false
mutual
def ni:I→List Value→Option (List Value)
 | .agg fs,cs=>sf fs cs
 | .bool b,v::cs=>if lF (.bool b) v then some cs else none
 | .int k n,v::cs=>if lF (.int k n) v then some cs else none
 | .cY s,v::cs=>if lF (.cY s) v then some cs else none
 | .nilp,v::cs=>if lF .nilp v then some cs else none
 | .nils z,v::cs=>if lF (.nils z) v then some cs else none
 | .dh,v::cs=>if lF .dh v then some cs else none
 | .dX,v::cs=>if lF .dX v then some cs else none
 | .raw u,v::cs=>if lF (.raw u) v then some cs else none
 |_,_=>none
def sf:List I→List Value→Option (List Value)
 | [],cs=>some cs
 |x::xs,cs=>match ni x cs with
  |some r=>sf xs r
  |none=>none
end
theorem ByteArray.Zg{s t:ByteArray}(hs:s.size=0)(ht:t.size=0):s=t:=by
 cases s with | mk a=>cases t with | mk b =>
 have ha:a = #[]:=Array.eq_empty_of_size_eq_zero hs
 have hb:b = #[]:=Array.eq_empty_of_size_eq_zero ht
 rw[ha,hb]
theorem VC{x:I}{v:Value}(h:lF x v=true)(w:World)(D:aN)(E:aZ):ah w D E x [v]:=by
 unfold lF at h
 split at h
 case h_9=>cases h
 case h_1=>simp only[beq_iff_eq] at h;subst h;simp[ah]
 case h_2 =>
  simp only[Bool.and_eq_true,beq_iff_eq,decide_eq_true_eq] at h
  obtain ⟨⟨rfl,rfl⟩,h⟩:=h
  simp only[ah,true_and];exact h
 case h_3 =>
  simp only[Bool.and_eq_true,beq_iff_eq] at h
  have e:=ByteArray.Zg h.1 h.2
  subst e
  simp only[ah,true_and];rw[h.1];exact Nat.zero_le _
 all_goals simp[ah,Value.oneCell']
mutual
theorem Pg:∀ (x:I) (cs r:List Value),ni x cs=some r→∃ c1,cs=c1++r∧∀ w D E,ah w D E x c1
 | .agg fs,cs,r,h=>by
  simp only[ni] at h
  obtain ⟨c1,h1,h2⟩:=Ph fs cs r h
  exact ⟨c1,h1,fun w D E=>by simp only[ah];exact h2 w D E⟩
 | .bool b,v::cs,r,h | .int k n,v::cs,r,h | .cY s,v::cs,r,h | .nilp,v::cs,r,h | .nils z,v::cs,r,h | .dh,v::cs,r,h | .dX,v::cs,r,h | .raw u,v::cs,r,h=>by
  simp only[ni] at h
  split at h
  ·rename_i hh
   simp only[Option.some.injEq] at h
   subst h
   exact ⟨[v],rfl,fun w D E=>VC hh w D E⟩
  ·cases h
 | .bool b,[],r,h | .int k n,[],r,h | .cY s,[],r,h | .nilp,[],r,h | .nils z,[],r,h | .dh,[],r,h | .dX,[],r,h | .raw _,[],r,h=>by simp[ni] at h
 | .undef,_,_,h | .df,_,_,h | .c0 _,_,_,h | .slice _ _,_,_,h | .tuple _,_,_,h | .ref _,_,_,h | .func _ _,_,_,h | .iface _ _,_,_,h | .ptr _ _,_,_,h | .own _ _,_,_,h | .view _ _ _ _ _,_,_,h | .mref _,_,_,h | .dv _,_,_,h | .cT _ _,_,_,h=>by simp[ni] at h
theorem Ph:∀ (xs:List I) (cs r:List Value),sf xs cs=some r→∃ c1,cs=c1++r∧∀ w D E,aG w D E xs c1
 | [],cs,r,h=>by
  simp only[sf,Option.some.injEq] at h
  exact ⟨[],by simp[h],fun w D E=>by simp[aG]⟩
 |x::xs,cs,r,h=>by
  simp only[sf] at h
  split at h
  ·rename_i r' hx
   obtain ⟨c1,h1,h2⟩:=Pg x cs r' hx
   obtain ⟨c2,h3,h4⟩:=Ph xs r' r h
   exact ⟨c1++c2,by rw[h1,h3,List.append_assoc],fun w D E=>by simp only[aG];exact ⟨c1,c2,rfl,h2 w D E,h4 w D E⟩⟩
  ·cases h
end
def gj(P:Program)(t:TypeId):Option I :=
 match (P.info? t).bind (·.zero),zR P 12 t with
 |some z,some x=>match ni x z.cells.toList with
  |some []=>some x
  |_=>none
 |_,_=>none
theorem mn{P:Program}{t:TypeId}{x:I}(h:gj P t=some x):∃ i z,P.info? t=some i∧i.zero=some z∧∀ w D E,ah w D E x z.cells.toList:=by
 unfold gj at h
 split at h
 ·rename_i z x' hz hx
  split at h
  ·rename_i hk
   simp only[Option.some.injEq] at h
   subst h
   obtain ⟨i,hi,hz'⟩:=Option.bind_eq_some_iff.1 hz
   obtain ⟨c1,h1,h2⟩:=Pg _ _ _ hk
   rw[List.append_nil] at h1
   exact ⟨i,z,hi,hz',fun w D E=>by rw[h1];exact h2 w D E⟩
  ·cases h
 ·cases h
def l8:Nat→List I→List (Nat×Nat)
 |_,[]=>[]
 |k,x::xs=>(k,x.size)::l8 (k+x.size) xs
theorem LW:∀ (xs:List I) (k i:Nat),(l8 k xs)[i]?=(xs[i]?).map fun x=>(k+I.sizes (xs.take i),x.size)
 | [],k,i=>by simp[l8]
 |x::xs,k,0=>by simp[l8,I.sizes]
 |x::xs,k,i+1=>by
  simp only[l8,List.getElem?_cons_succ,LW xs,List.take_succ_cons,I.sizes]
  cases xs[i]? <;>simp;omega
def hT (P : Program) (f : FuncId) : Bool := (P.funcs[f]?).any fun fn => fn.name != "runtime.NumGoroutine" && fn.body.isSome
def lE(P:Program)(ps:List (Nat×Operand)):Option (List (Nat×aH)):=ps.mapM fun p=>(bJ P 0 p.2).map fun x=>(p.1,x)
def iW(P:Program):Option Operand→Option (Option aH)
 |none=>some none
 |some x=>(bJ P 0 x).map some
def mA(P:Program):List Operand→List TypeId→Option (List aH)
 | [],_=>some []
 |x::xs,ts=>match bJ P (ts.headD 0) x,mA P xs ts.tail with
  |some y,some ys=>some (y::ys)
  |_,_=>none
def qf(P:Program):Nat→List Field→Bool
 |_,[]=>true
 |k,f::fs=>f.offset==k&&qf P (k+P.cellsOf f.type) fs
def gM(P:Program):Nat→TypeId→Option cM
 |0,_=>none
 |d+1,t=>match P.underlying t with
  |some (.int k)=>some (.i k)
  |some .bool=>some .b
  |some .string=>some .s
  | some (.struct fs) => if P.stoodInHeld t = false ∧ (fs.toList.all fun f => f.name != "_") = true ∧ qf P 0 fs.toList = true then
    (fs.toList.mapM fun (f:Field)=>match gM P d f.type with
     |some ty=>if ty.size=P.cellsOf f.type then some ty else none
     |none=>none).map .bu else none
  |some (.array n e)=>match gM P d e with
   |some ty=>if ty.size=P.cellsOf e∧(P.info? e).isSome=true then some (.jO n ty) else none
   |none=>none
  |_=>none
def rr:Option TypeDesc→Bool
 |some (.int _)=>true
 |_=>false
def xV:cM→Bool
 | .i _=>true
 |_=>false
def lX(P:Program)(t:TypeId):Option cM:=match P.underlying t with
 |some (.int k)=>some (.i k)
 |some (.struct fs)=>match gM P 12 t with
  |some (.bu l)=>if l.all xV=true∧(fs.all fun f=>rr (P.underlying f.type))=true then some (.bu l) else none
  |_=>none
 |_=>none
def uZ(P:Program)(t:TypeId)(z:I):Bool:=match (P.info? t).bind (·.zero) with
 |some (.agg _)=>z.isAgg
 |some _ => !z.isAgg
 |none=>false
def zy:Operand→Operand→Bool
 | .tmp a,.tmp b=>a==b
 |_,_=>false
theorem alc{x y:Operand}(h:zy x y=true):y=x:=by
 unfold zy at h
 split at h
 ·simp only[beq_iff_eq] at h;rw[h]
 ·cases h
def dD(P:Program)(o:Oper):Option b8 :=
 match o.op with
 | .move x | .assign x=>(bJ P o.type x).map .mv
 | .pick c a b=>match bJ P 0 c,bJ P o.type a,bJ P o.type b with
  |some c,some a,some b=>some (.pick c a b)
  |_,_,_=>none
 | .binOp op t x y _=>match P.underlying t,bJ P 0 x,bJ P 0 y with
  |some (.int _),some x,some y | some .string,some x,some y=>some (.bin op x y)
  |some (.slice _),some x,some y=>match y with
   | .c (.nils _)=>if op=.eql∨op=.neq then some (.nilS (op==.neq) x) else none
   |_=>none
  |some (.pointer _),some x,some y=>if op=.eql∨op=.neq then some (.ptrE (op==.neq) x y) else none
  |some _,some x,some y=>if (op=.eql∨op=.neq)∧P.eqGuardType P.depth t=false then (gM P 12 t).map fun ty=>.eqv ty (op==.neq) x y else none
  |_,_,_=>none
 | .unOp op _ x=>(bJ P 0 x).map (.un op)
 | .nilCheck x=>(bJ P 0 x).map .nilC
 | .makeMap _ none=>some .jX
 | .lookup t m k ok=>match P.underlying t,bJ P 0 m,bJ P 0 k with
  |some (.map kt et),some m,some k=>match lX P kt,gj P et with
   |some ty,some z=>if uZ P et z=true then some (.lk ty z ok m k) else none
   |_,_=>none
  |_,_,_=>none
 | .mapUpdate t m k v | .insert t m k v=>match P.underlying t,bJ P 0 m,bJ P 0 k with
  |some (.map kt et),some m,some k=>match lX P kt,bJ P et v with
   |some ty,some v=>some (.gQ ty m k v)
   |_,_=>none
  |_,_,_=>none
 | .makeSlice t l l'=>match P.underlying t,bJ P 0 l with
  |some (.slice e),some n=>match gj P e with
   |some z=>if zy l l'=true∧z.size=1∧P.cellsOf e=1 then some (.ky e (P.bytesOf e) z n) else none
   |none=>none
  |_,_=>none
 | .range t x=>match P.underlying t with
  |some (.map _ _)=>(bJ P 0 x).map .kF
  |_=>none
 | .next x false=>(bJ P 0 x).map .jD
 | .entry x=>(bJ P 0 x).map .ent
 | .convert n8 dst x=>match P.underlying n8,P.underlying dst,bJ P 0 x with
  |some (.int _),some (.int k),some x=>some (.conv k x)
  |_,_,_=>none
 | .load t x=>match fU P t,bJ P 0 x with
  |some s,some x=>some (.ld s x)
  |_,_=>none
 | .fieldAddr t x f=>match P.underlying t,bJ P 0 x with
  |some (.struct fs),some x=>match fs[f]? with
   |some fd=>if P.cellsOf fd.type=0 then none else some (.fa f fd.offset x)
   |none=>none
  |_,_=>none
 | .field t x f=>match P.underlying t,bJ P 0 x with
  |some (.struct fs),some x=>match fs[f]? with
   |some fd=>(fU P fd.type).map fun s=>.fl f fd.offset s x
   |none=>none
  |_,_=>none
 | .indexAddr t x i=>match P.underlying t,bJ P 0 x,bJ P 0 i with
  |some (.array n e),some x,some i=>if (P.info? e).isSome then some (.ia n (P.cellsOf e) x i) else none
  |some (.slice e),some x,some i=>if (P.info? e).isSome then some (.is (P.cellsOf e) x i) else none
  |_,_,_=>none
 | .index t x i=>match P.underlying t,bJ P 0 x,bJ P 0 i with
  |some (.array n e),some x,some i=>(fU P e).map fun s=>.ix n (P.cellsOf e) s x i
  |_,_,_=>none
 | .slice t x lo hi mx=>match P.underlying t,bJ P 0 x with
  |some (.array n e),some x=>match lo,hi,mx with
   |none,none,none=>if (P.info? e).isSome then some (.va n (P.cellsOf e) x) else none
   |_,_,_=>none
  |some (.slice e),some x=>match iW P lo,iW P hi,iW P mx with
   |some lo,some hi,some mx=>if (mx.isSome=true→hi.isSome=true)∧(P.info? e).isSome=true then some (.sl (P.cellsOf e) x lo hi mx) else none
   |_,_,_=>none
  |_,_=>none
 | .build t parts=>match gj P t,lE P parts.toList with
  |some (.agg zs),some ps=>match P.underlying t with
   |some (.struct fs)=>if (fs.toList.map fun f=>(f.offset,P.cellsOf f.type))=l8 0 zs∧(fs.all fun f=>(P.info? f.type).isSome)=true then some (.bld zs ps) else none
   |some (.array n e)=>if zs.length=n∧(zs.all fun z=>z.size==P.cellsOf e)=true∧(P.info? e).isSome=true then some (.bld zs ps) else none
   |_=>none
  |_,_=>none
 | .buildSlice t len parts=>match P.underlying t with
  |some (.slice e)=>match lE P parts.toList with
   |some ps=>if len=0∧parts = #[]∧(P.info? e).isSome=true then some (.bs0 (P.cellsOf e)) else if ps.map (·.1)=List.range len∧0<P.cellsOf e∧0<len∧len*P.cellsOf e≤16777216∧((P.info? e).bind (·.zero)).isSome=true then some (.bs (P.cellsOf e) (ps.map (·.2))) else none
   |none=>none
  |_=>none
 | .extract x i=>(bJ P 0 x).map fun x=>.ext x i
 | .makeFunc (.func f) first caps=>if first.isEmpty then (mA P caps.toList []).map (.mk f) else none
 | .alloc t=>(gj P t).map .alloc
 | .box t x=>(bJ P t x).map .box
 | .store t x v=>match fU P t,bJ P 0 x,bJ P t v with
  |some s,some x,some v=>if s.isSome=true∨P.cellsOf t=1 then some (.bu s x v) else none
  |_,_,_=>none
 | .call { callee:=.value (.func f),args,argTypes } =>if hT P f then (mA P args.toList argTypes.toList).map (.call f) else (mA P args.toList argTypes.toList).map (.jq f)
 | .call { callee:=.value x,args,argTypes } =>match bJ P 0 x,mA P args.toList argTypes.toList with
  |some x,some args=>some (.eD x args)
  |_,_=>none
 | .call { callee:=.builtin .len,args,argTypes } =>match args.toList,argTypes.toList with
  | [x],[t]=>match P.underlying t with
   |some (.slice _)=>(bJ P t x).map .len
   |some .string=>(bJ P t x).map .lenT
   |_=>none
  |_,_=>none
 | .call { callee:=.builtin .append,args,argTypes } =>match args.toList,argTypes.toList with
  | [s,x],[t,t']=>match P.underlying t,bJ P t s,bJ P t' x with
   |some (.slice e),some s,some x=>if t=t'∧0<P.cellsOf e∧(gj P e).map I.size=some (P.cellsOf e) then (gj P e).map fun z=>.dC e (P.cellsOf e) (P.bytesOf e) z s x else
    if rr (P.underlying t')=true∧0<P.cellsOf e∧(gj P e).map I.size=some (P.cellsOf e) then (gj P e).map fun z=>.kL e (P.cellsOf e) (P.bytesOf e) z s x else none
   |_,_,_=>none
  |_,_=>none
 | .call { callee:=.builtin .cap,args,argTypes } =>match args.toList,argTypes.toList with
  | [x],[t]=>match P.underlying t with
   |some (.slice _)=>(bJ P t x).map .cap
   |_=>none
  |_,_=>none
 | .call { callee:=.builtin .clear,args,argTypes } =>match args.toList,argTypes.toList with
  | [x],[t]=>match P.underlying t,bJ P t x with
   |some (.slice e),some x=>(gj P e).map fun z=>.ju (P.cellsOf e) z x
   |_,_=>none
  |_,_=>none
 | .call { callee:=.builtin .copy,args,argTypes } =>match args.toList,argTypes.toList with
  | [x,y],[t,t']=>match P.underlying t,bJ P t x,bJ P t' y with
   |some (.slice e),some x,some y=>if t=t'∧(P.info? e).isSome=true then some (.iI (P.cellsOf e) x y) else none
   |_,_,_=>none
  |_,_=>none
 |_=>none
def dR(c:cQ)(A:af)(o:Oper)(x:I):Prop :=
 ∀ a w D E,aT c A a w D E→∃ v w' D',(execOp a.eval o).run c.P w=.ok (.value v) w'∧aT c A a w' D' E∧aW w' D' E x v
section
variable {c:cQ} {A:af} {o:Oper} {x:I}
theorem dR.same(h:∀ a w D E,aT c A a w D E→∃ v,(execOp a.eval o).run c.P w=.ok (.value v) w∧aW w D E x v):dR c A o x :=
 fun a w D E hs=>let ⟨v,h1,h2⟩:=h a w D E hs;⟨v,w,D,h1,hs,h2⟩
theorem Ka{y:Operand}{z:aH}(ho:o.op=.move y∨o.op=.assign y)(hz:bJ c.P o.type y=some z):dR c A o (ae A z) :=
 .same fun a w D E hs=>⟨a.eval y,by rcases ho with ho | ho <;>simp[execOp,ho],cg hs hz⟩
theorem ahs{q y z:Operand}{q' y' z':aH}{t:Bool}(ho:o.op=.pick q y z)(hq:bJ c.P 0 q=some q')(hy:bJ c.P o.type y=some y')(hz:bJ c.P o.type z=some z')
  (ht:ae A q'=.bool t):dR c A o (if t then ae A y' else ae A z') :=
 .same fun a w D E hs=>by
  have h1:=cg hs hq
  rw[ht] at h1
  have h2:=me h1
  refine ⟨if t then a.eval y else a.eval z,by cases t <;>simp[execOp,ho,h2,asBool],?_⟩
  cases t
  ·exact cg hs hz
  ·exact cg hs hy
theorem zo{P:Program}{w:World}(op:BinOp)(t:TypeId)(x y:Operand){u v:Value}(hu:u.oneCell'=true)(hn:u≠.nilIface):(eqGuard op t x y u v).run P w=.ok () w:=by
 cases op <;>cases u <;>simp[Value.oneCell'] at hu <;>first | (exact absurd rfl hn) | (cases v <;>simp[eqGuard])
theorem QI{op:BinOp}{x y z:I}(h:cJ op x y=some z){P:Program}{t:TypeId}{w:World}{D:aN}{E:aZ}{u v:Value}(hx:aW w D E x u)(hy:aW w D E y v)(xo yo:Operand) :
  ∃ r,(do eqGuard op t xo yo u v;binOp op t u v:Sem Value).run P w=.ok r w∧aW w D E z r:=by
 unfold cJ at h
 split at h
 ·rename_i k a k' b
  obtain ⟨rfl,ha⟩:=fy hx
  obtain ⟨rfl,hb⟩:=fy hy
  have hg:∀ op,(eqGuard op t xo yo (.int k a) (.int k' b)).run P w=.ok () w:=fun op=>zo op t xo yo rfl (by simp)
  simp only[Sem.run_bind,hg,Result.andThen_ok]
  split at h
  ·split at h
   ·rename_i hb0
    simp only[Option.some.injEq] at h;subst h
    have:¬ b<0:=by omega
    exact ⟨_,by simp[binOp,Op.shift,this],kX (qz _ _)⟩
   ·cases h
  ·split at h
   ·rename_i hb0
    simp only[Option.some.injEq] at h;subst h
    have:¬ b<0:=by omega
    exact ⟨_,by simp[binOp,Op.shift,this],kX (Zv _ _ _ ha)⟩
   ·cases h
  ·rename_i op h1 h2
   split at h
   ·rename_i hk
    subst hk
    split at h <;>first
     |(simp at h;done)
     |(simp only[Option.some.injEq] at h;subst h;exact ⟨_,by simp[binOp,Op.intArith,Op.intBits,Op.intCmp],kX (qz _ _)⟩)
     |(simp only[Option.some.injEq] at h;subst h;exact ⟨_,by simp[binOp,Op.intCmp],nQ _⟩)
     |(split at h
       ·cases h
       ·rename_i hb0
        simp only[Option.some.injEq] at h;subst h
        first
         |exact ⟨_,by simp[binOp,Op.intDiv,hb0],kX (qz _ _)⟩
         |exact ⟨_,by simp[binOp,Op.intDiv,hb0],kX (alU _ _ _ ha)⟩)
   ·cases h
 ·rename_i s s'
  obtain ⟨rfl,hs1⟩:=nZ hx
  obtain ⟨rfl,hs2⟩:=nZ hy
  have hg:∀ op,(eqGuard op t xo yo (.string s) (.string s')).run P w=.ok () w:=fun op=>zo op t xo yo rfl (by simp)
  simp only[Sem.run_bind,hg,Result.andThen_ok]
  split at h <;>first
   |(simp at h;done)
   |(simp only[Option.some.injEq] at h;subst h;exact ⟨_,by simp[binOp,Op.stringOp],nQ _⟩)
   |(split at h
     ·rename_i hl
      simp only[Option.some.injEq] at h;subst h
      have hl':¬ (((s.size+s'.size:Nat):Int)>IntKind.i64.max):=by
       have e:IntKind.i64.max=9223372036854775807:=by simp[IntKind.max,IntKind.bits,IntKind.signed]
       rw[e];omega
      refine ⟨.string (s++s'),by simp only[binOp,Op.stringOp,if_neg hl',Sem.run_pure],?_⟩
      exact ⟨_,by simp[bK,I.isAgg];rfl,by simp only[ah,true_and];rw[ByteArray.size_append];unfold maxLen;omega⟩
     ·cases h)
 ·cases h
theorem J8{op:BinOp}{t yt:TypeId}{y z:Operand}{y' z':aH}(ho:o.op=.binOp op t y z yt)(hy:bJ c.P 0 y=some y')(hz:bJ c.P 0 z=some z')(h:cJ op (ae A y') (ae A z')=some x):dR c A o x :=
 .same fun a w D E hs=>by
  obtain ⟨r,h1,h2⟩:=QI h (P:=c.P) (t:=t) (cg hs hy) (cg hs hz) y z
  exact ⟨r,by simp only[execOp,ho,Sem.run_bind] at *;rw[h1];rfl,h2⟩
theorem ahr{t:TypeId}{y:Operand}{y':aH}{b:Bool}(ho:o.op=.unOp .not t y)(hy:bJ c.P 0 y=some y')(h:ae A y'=.bool b):dR c A o (.bool !b) :=
 .same fun a w D E hs=>by
  have h1:=cg hs hy
  rw[h] at h1
  exact ⟨.bool !b,by simp[execOp,ho,me h1,Op.unary],nQ _⟩
theorem ahq{t:TypeId}{y:Operand}{y':aH}{k:IntKind}{n:Int}(ho:o.op=.unOp .neg t y)(hy:bJ c.P 0 y=some y')(h:ae A y'=.int k n):dR c A o (.int k (k.wrap (0-n))) :=
 .same fun a w D E hs=>by
  have h1:=cg hs hy
  rw[h] at h1
  exact ⟨.int k (k.wrap (0-n)),by simp[execOp,ho,(fy h1).1,Op.unary,Op.intArith],kX (qz _ _)⟩
theorem aha{t:TypeId}{y:Operand}{y':aH}{k:IntKind}{n:Int}(ho:o.op=.unOp .xor t y)(hy:bJ c.P 0 y=some y')(h:ae A y'=.int k n):dR c A o (.int k (pF k n)) :=
 .same fun a w D E hs=>by
  have h1:=cg hs hy
  rw[h] at h1
  exact ⟨.int k (pF k n),by simp[execOp,ho,(fy h1).1,Op.unary,Op.intBits,pF],kX (qz _ _)⟩
theorem ag9{n8 dst:TypeId}{y:Operand}{y':aH}{k k0 k1:IntKind}{n:Int}(ho:o.op=.convert n8 dst y)(h1:c.P.underlying n8=some (.int k0))(h2:c.P.underlying dst=some (.int k))
  (hy:bJ c.P 0 y=some y') (h:ae A y'=.int k1 n):dR c A o (.int k (k.wrap n)) :=
 .same fun a w D E hs=>by
  have h3:=cg hs hy
  rw[h] at h3
  exact ⟨.int k (k.wrap n),by simp[execOp,ho,(fy h3).1,convert,run_underlying h1,run_underlying h2,Conv.intToInt],kX (qz _ _)⟩
theorem ahd{y:Operand}{y':aH}{i:Nat}{fs:List I}(ho:o.op=.extract y i)(hy:bJ c.P 0 y=some y')(h:ae A y'=.tuple fs)(hi:fs[i]?=some x):dR c A o x :=
 .same fun a w D E hs=>by
  have h3:=cg hs hy
  rw[h] at h3
  obtain ⟨vs,h4,h5⟩:=h3
  have:∀ (fs:List I) (vs:List Value) (i:Nat),aF w D E fs vs→fs[i]?=some x→∃ v,vs[i]?=some v∧aW w D E x v:=by
   intro fs
   induction fs with
   |nil=>intro vs i _ hi;simp at hi
   |cons f fs ih =>
    intro vs i hr hi
    simp only[aF] at hr
    obtain ⟨v,rest,cs,rfl,k1,k2,k3⟩:=hr
    cases i with
    |zero =>
     simp only[List.getElem?_cons_zero,Option.some.injEq] at hi ⊢
     subst hi
     refine ⟨v,rfl,?_⟩
     cases f <;>simp only[aW] <;>first | (simp only[ah] at k2;done) | exact ⟨cs,k1,k2⟩
    |succ i=>simpa using ih rest i k3 (by simpa using hi)
  obtain ⟨v,h6,h7⟩:=this fs vs i h5 hi
  exact ⟨v,by simp[execOp,ho,h4,Instr.extract,h6],h7⟩
theorem mO{w:World}{D:aN}{E:aZ}{x:I}{v:Value}{cs:List Value}(h1:bK x v cs)(h2:ah w D E x cs):aW w D E x v:=by
 cases x <;>simp only[aW] <;>first | (simp only[ah] at h2;done) | exact ⟨cs,h1,h2⟩
theorem Oj{P:Program}{w:World}{t:TypeId}{s:Option Nat}(h:fU P t=some s):(isAgg t).run P w=.ok s.isSome w:=by
 unfold fU at h
 unfold isAgg
 cases hu:P.underlying t with
 |none=>simp[hu] at h
 |some d =>
  rw[Sem.run_bind,run_underlying hu w]
  cases d <;>simp_all <;>(subst h;rfl)
theorem x6{P:Program}{t:TypeId}{n:Nat}(h:fU P t=some (some n)):n=P.cellsOf t:=by
 unfold fU at h
 split at h <;>simp_all
theorem xN{P:Program}{t:TypeId}{d:TypeDesc}(h:P.underlying t=some d):∃ i,P.info? t=some i:=by
 unfold Program.underlying at h
 cases hi:P.info? t with
 |none=>simp[hi] at h
 |some i=>exact ⟨i,rfl⟩
theorem jk{P:Program}{w:World}{t:TypeId}{i:TypeInfo}(h:P.info? t=some i):(sizeOf t).run P w=.ok (P.cellsOf t) w:=by
 simp[sizeOf,typeInfo,h,Program.cellsOf]
theorem tD{P:Program}{t:TypeId}{s:Option Nat}(h:fU P t=some s):∃ i,P.info? t=some i:=by
 unfold fU at h
 split at h
 ·rename_i fs hu;exact xN hu
 ·rename_i n e hu;exact xN hu
 ·rename_i d _ _ hu;exact xN hu
 ·cases h
theorem nk(b off j:Nat):(⟨b,off,none⟩:Addr).add j=⟨b,off+j,none⟩:=by unfold Addr.add;split <;>simp_all
theorem Ol{P:Program}{w:World}{D:aN}{E:aZ}{t:TypeId}{s:Option Nat}{b off:Nat}{cs:List Value}{y:I}(hk:fU P t=some s)(hok:bY s y=true)
  (hcs:∀ j u,cs[j]?=some u→w.cell? ⟨b,off+j,none⟩=some u) (hy:ah w D E y cs):∃ v,(loadVar t ⟨b,off,none⟩).run P w=.ok v w∧aW w D E y v:=by
 have hag:=Oj (w:=w) hk
 cases s with
 |none =>
  simp only[bY,Bool.not_eq_true'] at hok
  have hl:=ah.length _ _ hy
  have hsz:y.size=1:=by cases y <;>simp_all[I.isAgg,I.size]
  rw[hsz] at hl
  match cs,hl with
  | [v],_ =>
   have:=hcs 0 v rfl
   rw[Nat.add_zero] at this
   refine ⟨v,?_,K2 hok hy⟩
   simp only[loadVar,Sem.run_bind,hag,Result.andThen_ok,Option.isSome_none,Bool.false_eq_true,if_false,run_load,this]
 |some n =>
  simp only[bY,Bool.and_eq_true,beq_iff_eq] at hok
  obtain ⟨hag',hsz⟩:=hok
  have hn:=x6 hk
  obtain ⟨i,hi⟩:=tD hk
  have hl:=ah.length _ _ hy
  refine ⟨.agg cs.toArray,?_,mO (by simp[bK,hag']) hy⟩
  have hlc:=run_loadCells_list (P:=P) w ⟨b,off,none⟩ cs (fun j u hj=>by rw[nk];exact hcs j u hj)
  rw[hl,hsz,hn] at hlc
  simp only[loadVar,Sem.run_bind,hag,Result.andThen_ok,Option.isSome_some,if_true,jk hi,hlc,Sem.run_pure]
theorem ahn{t:TypeId}{y:Operand}{y':aH}{s:Option Nat}(ho:o.op=.load t y)(hk:fU c.P t=some s)(hy:bJ c.P 0 y=some y')(h:cC A (ae A y')=some x)(hok:bY s x=true):dR c A o x :=
 .same fun a w D E hs=>by
  obtain ⟨b,off,cs,h1,h2,h3⟩:=hs.AM (cg hs hy) h
  obtain ⟨v,h4,h5⟩:=Ol hk hok h2 h3
  exact ⟨v,by simp[execOp,ho,Instr.loadAt,h1,Instr.sureAddr,h4],h5⟩
theorem uD{w:World}{D:aN}{b off:Nat}{c1 c2 c3:List Value}(h:gV w D b off (c1++c2++c3)):gV w D b (off+c1.length) c2:=by
 intro j v hj
 have hjl:j<c2.length:=(List.getElem?_eq_some_iff.1 hj).1
 have:=h (c1.length+j) v (by rw[List.append_assoc,List.getElem?_append_right (by omega),Nat.add_sub_cancel_left,List.getElem?_append_left (by omega)];exact hj)
 rwa [←Nat.add_assoc] at this
theorem cO.uf:∀ (p:List Nat) (s:cO) (o i:Nat) (l:List cO),s.off p=some o→s.part p=some (.ej l)→i<l.length→s.off (p++[i])=some (o+cO.sizes (l.take i))
 | [],s,o,i,l,h1,h2,h3=>by
  simp only[cO.part,Option.some.injEq] at h2
  subst h2
  simp only[cO.off,Option.some.injEq] at h1
  subst h1
  simp[cO.off,List.getElem?_eq_getElem h3]
 |k::p,.one,o,i,l,h1,h2,h3=>by simp[cO.part] at h2
 |k::p,.ej m,o,i,l,h1,h2,h3=>by
  simp only[cO.off,cO.part,List.cons_append] at *
  cases hk:m[k]? with
  |none=>simp[hk] at h2
  |some s =>
   simp only[hk] at h1 h2 ⊢
   simp only[Option.map_eq_some_iff] at h1
   obtain ⟨o',h4,rfl⟩:=h1
   rw[cO.uf p s o' i l h4 h2 h3]
   simp[Nat.add_assoc]
theorem o5{esz:Nat} : ∀ (fs:List I) (k:Nat),(∀ f∈fs,f.size=esz)→k≤fs.length→I.sizes (fs.take k)=k*esz:=by
 intro fs k h hk
 rw[I.iB _ (fun x hx=>h x (List.mem_of_mem_take hx))]
 simp[Nat.min_eq_left hk]
theorem qV{n esz:Nat}{fs:List I}(h:ga n esz fs=true):fs.length=n∧∀ f∈fs,f.size=esz:=by
 simp only[ga,Bool.and_eq_true,beq_iff_eq,List.all_eq_true] at h
 exact h
theorem Oh{P:Program}{w:World}{t:TypeId}{f b off:Nat}{fs:Array Field}{fd:Field}(hu:P.underlying t=some (.struct fs))(hf:fs[f]?=some fd)(hz:¬ P.cellsOf fd.type=0) :
  (Instr.fieldAt t (.pointer (some ⟨b,off,none⟩)) f).run P w=.ok (.pointer (some ⟨b,off+fd.offset,none⟩)) w:=by
 have hi:∃ i,P.info? fd.type=some i:=by
  cases h:P.info? fd.type with
  |none=>simp[Program.cellsOf,h] at hz
  |some i=>exact ⟨i,rfl⟩
 obtain ⟨i,hi⟩:=hi
 simp only[Instr.fieldAt,Sem.run_bind,run_underlying hu,Result.andThen_ok,hf,Instr.sureAddr,Sem.run_pure,fieldPlace,jk hi,Sem.run_ite,if_neg hz,nk]
theorem ahf{t:TypeId}{y:Operand}{y':aH}{f:Nat}{fs:Array Field}{fd:Field}{gs:List I}(ho:o.op=.fieldAddr t y f)(hu:c.P.underlying t=some (.struct fs))(hf:fs[f]?=some fd)(hz:¬ c.P.cellsOf fd.type=0)
  (hy:bJ c.P 0 y=some y') (h:ae A y'=.ref (.agg gs)) (hx:gs[f]?=some x) (hoff:I.sizes (gs.take f)=fd.offset):dR c A o (.ref x) :=
 .same fun a w D E hs=>by
  have h1:=cg hs hy
  rw[h] at h1
  obtain ⟨b,off,cs,h2,h3,h4⟩:=qm h1
  simp only[ah] at h4
  obtain ⟨c1,c2,c3,rfl,k1,_,k2,_⟩:=mV gs cs f x h4 hx
  refine ⟨_,by simp only[execOp,ho,h2,Sem.run_bind,Oh hu hf hz];rfl,tT (cs:=c2) ?_ k2⟩
  rw[←hoff,←k1]
  exact uD h3
theorem ahe{t:TypeId}{y:Operand}{y':aH}{f n:Nat}{p:List Nat}{fs:Array Field}{fd:Field}{gs:List I}(ho:o.op=.fieldAddr t y f)(hu:c.P.underlying t=some (.struct fs))(hf:fs[f]?=some fd)(hz:¬ c.P.cellsOf fd.type=0)
  (hy:bJ c.P 0 y=some y') (h:ae A y'=.ptr n p) (hd:cC A (.ptr n p)=some (.agg gs)) (hl:f<gs.length) (hoff:I.sizes (gs.take f)=fd.offset):dR c A o (.ptr n (p++[f])) :=
 .same fun a w D E hs=>by
  have h1:=cg hs hy
  rw[h] at h1
  obtain ⟨b,aP,off,h2,h3,h4⟩:=oW h1
  obtain ⟨z,b',cs,T,off',c1,c2,c3,k1,k2,_,k3,k4,k5,k6,k7,k8,k9,_⟩:=hs.at hd
  rw[k2] at h2
  simp only[Option.some.injEq,bU.aC.injEq] at h2
  obtain ⟨rfl,rfl⟩:=h2
  refine ⟨_,by simp only[execOp,ho,h4,Sem.run_bind,Oh hu hf hz];rfl,?_⟩
  refine ⟨_,by simp[bK,I.isAgg];rfl,?_⟩
  simp only[ah]
  refine ⟨b',z.aP,off+fd.offset,k2,?_,rfl⟩
  rw[cO.uf p z.aP off f _ h3 (na p z _ k4) (by rw[I.dn];simpa using hl),I.dn,←List.map_take,←I.dn,I.nc,hoff]
theorem Oi{P:Program}{w:World}{t e:TypeId}{n b off:Nat}{kk:IntKind}{k:Int}{i:TypeInfo}(hu:P.underlying t=some (.array n e))(hi:P.info? e=some i)(hk:0≤k∧k<n) :
  (Instr.indexAt t (.pointer (some ⟨b,off,none⟩)) (.int kk k)).run P w=.ok (.pointer (some ⟨b,off+k.toNat*P.cellsOf e,none⟩)) w:=by
 simp[Instr.indexAt,asIntOf,run_underlying hu,Instr.sureAddr,hk,jk hi,nk]
theorem zp{P:Program}{w:World}{t e:TypeId}{n b off cap:Nat}{kk:IntKind}{k:Int}{i:TypeInfo}(hu:P.underlying t=some (.slice e))(hi:P.info? e=some i)(hk:0≤k∧k<n) :
  (Instr.indexAt t (.slice (some ⟨b,off,none⟩) n cap) (.int kk k)).run P w=.ok (.pointer (some ⟨b,off+k.toNat*P.cellsOf e,none⟩)) w:=by
 simp[Instr.indexAt,asIntOf,run_underlying hu,hk,jk hi,nk]
theorem ahi{t e:TypeId}{y z:Operand}{y' z':aH}{n:Nat}{i:TypeInfo}{gs:List I}{kk:IntKind}{k:Int}(ho:o.op=.indexAddr t y z)(hu:c.P.underlying t=some (.array n e))(hi:c.P.info? e=some i)
  (hy:bJ c.P 0 y=some y') (hz:bJ c.P 0 z=some z') (h:ae A y'=.ref (.agg gs)) (h':ae A z'=.int kk k) (hk:0≤k∧k<n) (hev:ga n (c.P.cellsOf e) gs=true) (hx:gs[k.toNat]?=some x):dR c A o (.ref x) :=
 .same fun a w D E hs=>by
  have h1:=cg hs hy
  rw[h] at h1
  have h1':=cg hs hz
  rw[h'] at h1'
  obtain ⟨b,off,cs,h2,h3,h4⟩:=qm h1
  simp only[ah] at h4
  obtain ⟨c1,c2,c3,rfl,k1,_,k2,_⟩:=mV gs cs k.toNat x h4 hx
  obtain ⟨e1,e2⟩:=qV hev
  have hl:k.toNat<gs.length:=(List.getElem?_eq_some_iff.1 hx).1
  refine ⟨_,by simp only[execOp,ho,h2,(fy h1').1,Sem.run_bind,Oi hu hi hk];rfl,tT (cs:=c2) ?_ k2⟩
  rw[←o5 gs k.toNat e2 (by omega),←k1]
  exact uD h3
theorem ahh{t e:TypeId}{y z:Operand}{y' z':aH}{n m:Nat}{p:List Nat}{i:TypeInfo}{gs:List I}{kk:IntKind}{k:Int}(ho:o.op=.indexAddr t y z)(hu:c.P.underlying t=some (.array n e))(hi:c.P.info? e=some i)
  (hy:bJ c.P 0 y=some y') (hz:bJ c.P 0 z=some z') (h:ae A y'=.ptr m p) (h':ae A z'=.int kk k) (hk:0≤k∧k<n) (hd:cC A (.ptr m p)=some (.agg gs)) (hev:ga n (c.P.cellsOf e) gs=true):dR c A o (.ptr m (p++[k.toNat])) :=
 .same fun a w D E hs=>by
  have h1:=cg hs hy
  rw[h] at h1
  have h1':=cg hs hz
  rw[h'] at h1'
  obtain ⟨b,aP,off,h2,h3,h4⟩:=oW h1
  obtain ⟨zz,b',cs,T,off',c1,c2,c3,k1,k2,_,k3,k4,k5,k6,k7,k8,k9,_⟩:=hs.at hd
  rw[k2] at h2
  simp only[Option.some.injEq,bU.aC.injEq] at h2
  obtain ⟨rfl,rfl⟩:=h2
  obtain ⟨e1,e2⟩:=qV hev
  have hl:k.toNat<gs.length:=by omega
  refine ⟨_,by simp only[execOp,ho,h4,(fy h1').1,Sem.run_bind,Oi hu hi hk];rfl,?_⟩
  refine ⟨_,by simp[bK,I.isAgg];rfl,?_⟩
  simp only[ah]
  refine ⟨b',zz.aP,off+k.toNat*c.P.cellsOf e,k2,?_,rfl⟩
  rw[cO.uf p zz.aP off k.toNat _ h3 (na p zz _ k4) (by rw[I.dn];simpa using hl),I.dn,←List.map_take,←I.dn,I.nc,o5 gs _ e2 (by omega)]
theorem Dz{w:World}{D:aN}{E:aZ}{b off sz k:Nat}{cs:List Value}{es:List I}{x:I}(h1:gV w D b off cs)(h2:aG w D E es cs)(h3:∀ e∈es,e.size=sz)(hx:es[k]?=some x) :
  ∃ c2,gV w D b (off+k*sz) c2∧ah w D E x c2:=by
 obtain ⟨c1,c2,c3,rfl,k1,_,k2,_⟩:=mV es cs k x h2 hx
 have hl:k<es.length:=(List.getElem?_eq_some_iff.1 hx).1
 refine ⟨c2,?_,k2⟩
 rw[←o5 es k h3 (by omega),←k1]
 exact uD h1
theorem ahj{t e:TypeId}{y z:Operand}{y' z':aH}{i:TypeInfo}{es:List I}{kk:IntKind}{k:Int}(ho:o.op=.indexAddr t y z)(hu:c.P.underlying t=some (.slice e))(hi:c.P.info? e=some i)
  (hy:bJ c.P 0 y=some y') (hz:bJ c.P 0 z=some z') (h:ae A y'=.slice (c.P.cellsOf e) es) (h':ae A z'=.int kk k) (hk:0≤k∧k<es.length) (hx:es[k.toNat]?=some x):dR c A o (.ref x) :=
 .same fun a w D E hs=>by
  have h1:=cg hs hy
  rw[h] at h1
  have h1':=cg hs hz
  rw[h'] at h1'
  obtain ⟨ad,cap,rfl',h2,h3,h4,h5⟩:=mZ h1
  rcases h4 with h4 | ⟨b,off,cs,rfl,h6,h7⟩
  ·subst h4;simp at hx
  obtain ⟨c2,k1,k2⟩:=Dz h6 h7 h5 hx
  exact ⟨_,by simp only[execOp,ho,rfl',(fy h1').1,Sem.run_bind,zp hu hi hk];rfl,tT k1 k2⟩
theorem aT.alj{a:Act}{w:World}{D:aN}{E:aZ}(h:aT c A a w D E){n sz b cap:Nat}{T:TypeId}{es:List I}(hn:A.o n=some (.bT T sz es))(aw:E n=some (.rw (some (b,cap)) es.length)) :
  aT c A a w (fun b' o=>D b' o∨(b'=b∧o<es.length*sz)) E:=by
 have hrow:=h.bT hn
 obtain ⟨aE,k1,k2,k3⟩:=hrow
 rw[aw] at k1
 simp only[Option.some.injEq,bU.rw.injEq,and_true] at k1
 subst k1
 obtain ⟨cs,pre,rest,k4,k5,k6,k7,k8,k9,k10,k11⟩:=k3
 refine h.Pc (fun _ _ hd=>.inl hd) ?_ ?_ ?_ ?_ ?_ ?_
 ·rintro b' o (hd | ⟨rfl,_⟩) hlt
  ·exact h.c6 _ _ hd hlt
  ·exact absurd k4 hlt
 ·rintro b' o (hd | ⟨rfl,_⟩)
  ·exact h.dg _ _ hd
  ·exact gb k5
 ·rintro m x b' hm hEm o (hd | ⟨rfl,_⟩)
  ·obtain ⟨b2,cs2,T2,q1,q2,q3,q4,q5⟩:=h.box hm
   rw[q1] at hEm
   simp only[Option.some.injEq,bU.aC.injEq,and_true] at hEm
   subst hEm
   exact q5 o hd
  ·have:=h.cU m n _ _ b' hEm aw rfl rfl
   subst this
   rw[hm] at hn
   cases hn
 ·rintro m T' sz' es' b' cap' hm hEm o (hd | ⟨rfl,ho⟩)
  ·obtain ⟨aE,q1,q2,q3⟩:=h.bT hm
   rw[hEm] at q1
   simp only[Option.some.injEq,bU.rw.injEq,and_true] at q1
   subst q1
   obtain ⟨cs',pre',rest',q4,q5,q6,q7,q8,q9,q10,q11⟩:=q3
   have:=q11 o hd
   rwa [aG.length _ _ q7,I.iB _ q2] at this
  ·have:=h.cU m n _ _ b' hEm aw rfl rfl
   subst this
   rw[hm] at hn
   simp only[Option.some.injEq,ai.bT.injEq] at hn
   obtain ⟨rfl,rfl,rfl⟩:=hn
   exact ho
 ·rintro m T' xs b' cap' hm hEm o (hd | ⟨rfl,ho⟩)
  ·obtain ⟨aE,q1,_,q3⟩:=h.r7 hm
   rw[hEm] at q1
   simp only[Option.some.injEq,bU.rw.injEq,and_true] at q1
   subst q1
   obtain ⟨_,_,_,_,_,_,_,_,q4⟩:=q3
   exact q4 o hd
  ·have:=h.cU m n _ _ b' hEm aw rfl rfl
   subst this
   rw[hm] at hn
   cases hn
 ·rintro m e' b' hE' hoth hblk o (hd | ⟨rfl,_⟩)
  ·exact h.yX hE' hoth hblk o hd
  ·have:=h.cU m n _ _ b' hE' aw hblk rfl
   subst this
   rw[hE'] at aw
   cases aw
   cases hoth
theorem aT.own{a:Act}{w:World}{D:aN}{E:aZ}(h:aT c A a w D E){n sz:Nat}{T:TypeId}{es:List I}{v:Value}(hn:A.o n=some (.bT T sz es))(hv:aW w D E (.own n es.length) v) :
  (es=[]∧E n=some (.rw none 0)∧v=.slice none 0 0) ∨
  ∃ b cap cs pre rest,E n=some (.rw (some (b,cap)) es.length)∧v=.slice (some ⟨b,0,none⟩) es.length cap∧c.fm b∧w.heap[b]?=some (.cells cs T (0,0))∧cs.toList=pre++rest ∧
   aG w D E es pre∧cs.size=cap*sz∧es.length≤cap∧cap≤maxLen∧(∀ o,D b o→o<pre.length):=by
 obtain ⟨cs0,h1,h2⟩:=hv
 simp only[ah] at h2
 obtain ⟨aE,l,h3,h4,_,h5⟩:=h2
 obtain ⟨blk',k1,k2,k3⟩:=h.bT hn
 rw[k1] at h3
 simp only[Option.some.injEq,bU.rw.injEq] at h3
 obtain ⟨rfl,rfl⟩:=h3
 have h5:=h5 rfl
 cases blk' with
 |none =>
  simp only at k3 h5
  subst k3
  exact .inl ⟨rfl,k1,by simpa[bK,I.isAgg,h5] using h1.symm⟩
 |some bc =>
  obtain ⟨b,cap⟩:=bc
  simp only at h5
  obtain ⟨cs,pre,rest,k4,k5,k6,k7,k8,k9,k10,k11⟩:=k3
  exact .inr ⟨b,cap,cs,pre,rest,k1,by simpa[bK,I.isAgg,h5] using h1.symm,k4,k5,k6,k7,k8,k9,k10,k11⟩
theorem ahk{t e:TypeId}{y z:Operand}{y' z':aH}{i:TypeInfo}{es:List I}{n:Nat}{kk:IntKind}{k:Int}(ho:o.op=.indexAddr t y z)(hu:c.P.underlying t=some (.slice e))(hi:c.P.info? e=some i)
  (hy:bJ c.P 0 y=some y') (hz:bJ c.P 0 z=some z') (h:ae A y'=.own n es.length) {T:TypeId} (hn:A.o n=some (.bT T (c.P.cellsOf e) es)) (h':ae A z'=.int kk k) (hk:0≤k∧k<es.length) (hx:es[k.toNat]?=some x):dR c A o (.ref x):=by
 intro a w D E hs
 have h1:=cg hs hy
 rw[h] at h1
 have h1':=cg hs hz
 rw[h'] at h1'
 rcases hs.own hn h1 with ⟨rfl,_⟩ | ⟨b,cap,cs,pre,rest,k1,k2,k3,k4,k5,k6,k7,k8,k9,k10⟩
 ·simp at hx
 ·have hs':=hs.alj hn k1
  obtain ⟨aE,q1,q2,_⟩:=hs.bT hn
  have hpl:pre.length=es.length*c.P.cellsOf e:=by rw[aG.length _ _ k6,I.iB _ q2]
  have hr:gV w (fun b' o=>D b' o∨(b'=b∧o<es.length*c.P.cellsOf e)) b 0 pre:=by
   have:=oP (D:=fun b' o=>D b' o∨(b'=b∧o<es.length*c.P.cellsOf e)) (c1:=[]) k4 (by simpa using k5) (fun o ho=>.inr ⟨rfl,by simp at ho;omega⟩)
   simpa using this
  have hrc:aG w (fun b' o=>D b' o∨(b'=b∧o<es.length*c.P.cellsOf e)) E es pre :=
   aG.bL ⟨fun _ _ hd=>.inl hd,fun _ _ _ _ h=>h,fun _ _ _ h=>h,fun _ aE l h=>⟨aE,l,h,Nat.le_refl _,fun _=>rfl⟩,fun _ _ h=>h,fun _ _ h=>h,fun _ _ _ _ h=>h⟩ es pre k6
  obtain ⟨c2,q3,q4⟩:=Dz hr hrc q2 hx
  exact ⟨_,w,_,by simp only[execOp,ho,k2,(fy h1').1,Sem.run_bind,zp hu hi hk];rfl,hs',tT q3 q4⟩
end
section
variable {c:cQ} {A:af} {o:Oper} {x:I}
theorem oV{P:Program}{w:World}{D:aN}{E:aZ}{t:TypeId}{s:Option Nat}{c1 c2 c3:List Value}{y:I}(hk:fU P t=some s)(hok:bY s y=true)(hy:ah w D E y c2) :
  ∃ v,(part t (c1++c2++c3).toArray c1.length).run P w=.ok v w∧aW w D E y v:=by
 have hag:=Oj (w:=w) hk
 have hl:=ah.length _ _ hy
 cases s with
 |none =>
  simp only[bY,Bool.not_eq_true'] at hok
  have hsz:y.size=1:=by cases y <;>simp_all[I.isAgg,I.size]
  rw[hsz] at hl
  match c2,hl with
  | [v],_ =>
   refine ⟨v,?_,K2 hok hy⟩
   simp[part,hag]
 |some n =>
  simp only[bY,Bool.and_eq_true,beq_iff_eq] at hok
  obtain ⟨hag',hsz⟩:=hok
  have hn:=x6 hk
  obtain ⟨i,hi⟩:=tD hk
  refine ⟨.agg c2.toArray,?_,mO (by simp[bK,hag']) hy⟩
  have e:((c1++c2++c3).toArray.extract c1.length (c1.length+P.cellsOf t))=c2.toArray:=by
   have:P.cellsOf t=c2.length:=by rw[hl,hsz,hn]
   rw[this]
   simp
  simp only[part,Sem.run_bind,hag,Result.andThen_ok,Option.isSome_some,if_true,jk hi,e,Sem.run_pure]
theorem ahg{t:TypeId}{y:Operand}{y':aH}{f:Nat}{s:Option Nat}{fs:Array Field}{fd:Field}{gs:List I}(ho:o.op=.field t y f)(hu:c.P.underlying t=some (.struct fs))(hf:fs[f]?=some fd)(hk:fU c.P fd.type=some s)
  (hy:bJ c.P 0 y=some y') (h:ae A y'=.agg gs) (hx:gs[f]?=some x) (hoff:I.sizes (gs.take f)=fd.offset) (hok:bY s x=true):dR c A o x :=
 .same fun a w D E hs=>by
  have h1:=cg hs hy
  rw[h] at h1
  obtain ⟨cs,h2,h4⟩:=jI h1
  obtain ⟨c1,c2,c3,rfl,k1,_,k2,_⟩:=mV gs cs f x h4 hx
  obtain ⟨v,k3,k4⟩:=oV (c1:=c1) (c3:=c3) hk hok k2
  rw[k1,hoff] at k3
  exact ⟨v,by simp only[execOp,ho,h2,Instr.field,Sem.run_bind,run_underlying hu,Result.andThen_ok,hf,asAgg,Sem.run_pure,k3],k4⟩
theorem ahm{t e:TypeId}{y z:Operand}{y' z':aH}{n:Nat}{s:Option Nat}{gs:List I}{kk:IntKind}{k:Int}(ho:o.op=.index t y z)(hu:c.P.underlying t=some (.array n e))(hk:fU c.P e=some s)
  (hy:bJ c.P 0 y=some y') (hz:bJ c.P 0 z=some z') (h:ae A y'=.agg gs) (h':ae A z'=.int kk k) (hb:0≤k∧k<n) (hev:ga n (c.P.cellsOf e) gs=true) (hx:gs[k.toNat]?=some x) (hok:bY s x=true):dR c A o x :=
 .same fun a w D E hs=>by
  have h1:=cg hs hy
  rw[h] at h1
  have h1':=cg hs hz
  rw[h'] at h1'
  obtain ⟨cs,h2,h4⟩:=jI h1
  obtain ⟨c1,c2,c3,rfl,k1,_,k2,_⟩:=mV gs cs k.toNat x h4 hx
  obtain ⟨v,k3,k4⟩:=oV (c1:=c1) (c3:=c3) hk hok k2
  obtain ⟨e1,e2⟩:=qV hev
  obtain ⟨i,hi⟩:=tD hk
  have hl:k.toNat<gs.length:=(List.getElem?_eq_some_iff.1 hx).1
  rw[k1,o5 gs k.toNat e2 (by omega)] at k3
  exact ⟨v,by simp only[execOp,ho,h2,(fy h1').1,Instr.index,Sem.run_bind,asIntOf,run_underlying hu,Result.andThen_ok,Sem.run_ite,if_pos hb,jk hi,Sem.run_pure,k3],k4⟩
theorem yj{n:Nat}(h:n≤maxLen):IntKind.i64.min≤(n:Int)∧(n:Int)≤IntKind.i64.max:=by
 simp only[IntKind.min,IntKind.max,IntKind.bits,IntKind.signed]
 unfold maxLen at h
 simp;omega
theorem pP{ty:TypeId}{y:Operand}{y':aH}{n:Nat}{d:TypeDesc}(ho:o.op=.call { callee:=.builtin .len,args := #[y],argTypes := #[ty] })(hu:c.P.underlying ty=some d)(hd:(∃ e,d=.slice e)∨d=.string)
  (hy:bJ c.P ty y=some y') (h:∀ a w D E,aT c A a w D E→∀ v,aW w D E (ae A y') v→n≤maxLen∧((∃ e,d=.slice e)→∃ ad cap,v=.slice ad n cap)∧(d=.string→∃ s,v=.string s∧s.size=n)):dR c A o (.int .i64 n) :=
 .same fun a w D E hs=>by
  obtain ⟨h0,h1,h2⟩:=h a w D E hs _ (cg hs hy)
  refine ⟨.int .i64 n,?_,kX (yj h0)⟩
  rcases hd with ⟨e,rfl⟩ | rfl
  ·obtain ⟨ad,cap,hv⟩:=h1 ⟨e,rfl⟩
   simp[execOp,ho,resolve,invoke,builtin,Builtin.len_,run_underlying hu,hv,goInt]
  ·obtain ⟨s,hv,hs⟩:=h2 rfl
   simp[execOp,ho,resolve,invoke,builtin,Builtin.len_,run_underlying hu,hv,goInt,hs]
theorem ahw{t e:TypeId}{y:Operand}{y':aH}{n:Nat}{i:TypeInfo}{gs:List I}(ho:o.op=.slice t y none none none)(hu:c.P.underlying t=some (.array n e))(hi:c.P.info? e=some i)
  (hy:bJ c.P 0 y=some y') (h:ae A y'=.ref (.agg gs)) (hev:ga n (c.P.cellsOf e) gs=true) (hn:n≤maxLen):dR c A o (.slice (c.P.cellsOf e) gs) :=
 .same fun a w D E hs=>by
  have h1:=cg hs hy
  rw[h] at h1
  obtain ⟨b,off,cs,h2,h3,h4⟩:=qm h1
  simp only[ah] at h4
  obtain ⟨e1,e2⟩:=qV hev
  by_cases h0:n=0
  ·exact ⟨.slice (some ⟨b,off,none⟩) 0 0,by simp[execOp,ho,h2,Instr.sliceAt,run_underlying hu,Instr.sureAddr,Instr.sliceBounds,jk hi,h0],tU (by omega) (by omega) (by simp[maxLen]) (.inl (List.eq_nil_of_length_eq_zero (by omega))) e2⟩
  ·exact ⟨.slice (some ⟨b,off,none⟩) n n,by simp[execOp,ho,h2,Instr.sliceAt,run_underlying hu,Instr.sureAddr,Instr.sliceBounds,jk hi,nk],tU e1.symm (Nat.le_refl _) hn (.inr ⟨b,off,cs,rfl,h3,h4⟩) e2⟩
theorem ahv{t e:TypeId}{y:Operand}{y':aH}{n m:Nat}{p:List Nat}{i:TypeInfo}{gs:List I}(ho:o.op=.slice t y none none none)(hu:c.P.underlying t=some (.array n e))(hi:c.P.info? e=some i)
  (hy:bJ c.P 0 y=some y') (h:ae A y'=.ptr m p) (hd:cC A (.ptr m p)=some (.agg gs)) (hev:ga n (c.P.cellsOf e) gs=true) (hn:n≤maxLen) (hn0:n≠0):dR c A o (.view m p (c.P.cellsOf e) 0 n) :=
 .same fun a w D E hs=>by
  have h1:=cg hs hy
  rw[h] at h1
  obtain ⟨b,aP,off,h2,h3,h4⟩:=oW h1
  obtain ⟨zz,b',cs,T,off',c1,c2,c3,k1,k2,_,k3,k4,k5,k6,k7,k8,k9,_⟩:=hs.at hd
  rw[k2] at h2
  simp only[Option.some.injEq,bU.aC.injEq] at h2
  obtain ⟨rfl,rfl⟩:=h2
  obtain ⟨e1,e2⟩:=qV hev
  refine ⟨.slice (some ⟨b',off,none⟩) n n,by simp[execOp,ho,h4,Instr.sliceAt,run_underlying hu,Instr.sureAddr,Instr.sliceBounds,jk hi,nk],?_⟩
  refine ⟨_,by simp[bK,I.isAgg];rfl,?_⟩
  simp only[ah]
  refine ⟨b',zz.aP,off,I.cK gs,k2,h3,na p zz _ k4,?_,?_,?_,?_⟩
  ·rw[I.dn,List.length_map,e1];simp
  ·rw[I.dn,List.length_map,e1];exact hn
  ·rw[I.dn,List.length_map,e1];omega
  ·rw[I.dn]
   intro s hs'
   obtain ⟨f,hf,rfl⟩:=List.mem_map.1 hs'
   rw[I.mg];exact e2 f hf
theorem akL{w:World}{D:aN}{E:aZ}{b off sz:Nat}{cs:List Value}{es:List I}(h1:gV w D b off cs)(h2:aG w D E es cs)(h3:∀ e∈es,e.size=sz)(l h:Nat)(hl:l≤h)(hh:h≤es.length) :
  ∃ c2,gV w D b (off+l*sz) c2∧aG w D E ((es.take h).drop l) c2:=by
 have hspl:∀ (xs ys:List I) (cs:List Value),aG w D E (xs++ys) cs→∃ c1 c2,cs=c1++c2∧aG w D E xs c1∧aG w D E ys c2:=by
  intro xs
  induction xs with
  |nil=>intro ys cs hr;exact ⟨[],cs,rfl,by simp[aG],hr⟩
  |cons x xs ih =>
   intro ys cs hr
   simp only[List.cons_append,aG] at hr
   obtain ⟨d1,d2,rfl,k1,k2⟩:=hr
   obtain ⟨e1,e2,rfl,k3,k4⟩:=ih ys d2 k2
   exact ⟨d1++e1,e2,by simp,by simp only[aG];exact ⟨d1,e1,rfl,k1,k3⟩,k4⟩
 have e1:es=es.take l++((es.take h).drop l++es.drop h):=by
  rw[←List.append_assoc]
  conv=>lhs;rw[←List.take_append_drop h es]
  congr 1
  rw[←List.alS l h es hl]
 rw[e1] at h2
 obtain ⟨c1,c',rfl,k1,k2⟩:=hspl _ _ _ h2
 obtain ⟨c2,c3,rfl,k3,k4⟩:=hspl _ _ _ k2
 refine ⟨c2,?_,k3⟩
 rw[←o5 es l h3 (by omega),←aG.length _ _ k1]
 rw[←List.append_assoc] at h1
 exact uD h1
 where
 List.alS {α:Type} (l h:Nat) (es:List α) (hl:l≤h):es.take h=es.take l++(es.take h).drop l:=by
  conv=>lhs;rw[←List.take_append_drop l (es.take h)]
  rw[List.take_take,Nat.min_eq_left hl]
def iP(w:World)(D:aN)(E:aZ)(x:Option I)(v:Option Value):Prop:=match x,v with
 |none,none=>True
 |some x,some v=>aW w D E x v
 |_,_=>False
theorem RP{x:I}{d n:Int}(h:iw (some x) d=some n):∃ k,x=.int k n:=by
 cases x <;>simp[iw] at h
 subst h
 exact ⟨_,rfl⟩
theorem rK{w:World}{D:aN}{E:aZ}{x:Option I}{v:Option Value}{d n:Int}(h:iP w D E x v)(hb:iw x d=some n) :
  (x=none∧v=none∧d=n)∨(x.isSome=true∧∃ k,v=some (.int k n)):=by
 cases x with
 |none =>
  cases v with
  |some _=>simp[iP] at h
  |none=>simp only[iw,Option.some.injEq] at hb;exact .inl ⟨rfl,rfl,hb⟩
 |some x =>
  cases v with
  |none=>simp[iP] at h
  |some v =>
   obtain ⟨k,rfl⟩:=RP hb
   simp only[iP] at h
   exact .inr ⟨rfl,k,by rw[(fy h).1]⟩
theorem zq{P:Program}{w:World}{D:aN}{E:aZ}{t e:TypeId}{i:TypeInfo}{sz:Nat}{es:List I}{lo hi mx:Option I}{vlo vhi vmx:Option Value}{x:I}{ad:Option Addr}{cap:Nat}
  (hu:P.underlying t=some (.slice e)) (hi':P.info? e=some i) (hsz:sz=P.cellsOf e) (hmh:mx.isSome=true→hi.isSome=true)
  (h1:iP w D E lo vlo) (h2:iP w D E hi vhi) (h3:iP w D E mx vmx) (hx:jJ sz es lo hi mx=some x)
  (hcap:es.length≤cap) (hcm:cap≤maxLen) (hes:es=[]∨∃ b off cs,ad=some ⟨b,off,none⟩∧gV w D b off cs∧aG w D E es cs) (hall:∀ e∈es,e.size=sz) :
  ∃ v,(Instr.sliceAt t (.slice ad es.length cap) vlo vhi vmx).run P w=.ok v w∧aW w D E x v:=by
 unfold jJ at hx
 split at hx
 ·cases hx
 rename_i h hh
 split at hx
 ·cases hx
 rename_i m hm
 split at hx
 ·cases hx
 rename_i l hl
 split at hx
 case isFalse=>cases hx
 rename_i hb
 obtain ⟨b1,b2,b3,b4⟩:=hb
 have sb:∀ (k:IntKind) (n:Int) (y:Nat) (code:BoundsCode),0≤n→n≤y→(Instr.sliceBound (.int k n) y code).run P w=.ok n.toNat w:=fun k n y code g1 g2=>by
  simp[Instr.sliceBound,asIntOf,g1,g2]
 -- the bounds that the program finds
 have key:∃ m':Nat,es.length≤cap∧m'≤cap∧h.toNat≤m'∧(mx.isSome=true→m'=m.toNat)∧(mx=none→m'=cap) ∧
   (Instr.sliceBounds true es.length cap vlo vhi vmx).run P w=.ok (l.toNat,h.toNat,m') w:=by
  have c1:=rK h1 hl
  have c2:=rK h2 hh
  have c3:=rK h3 hm
  clear h1 h2 h3
  rcases c3 with ⟨rfl,rfl,hm3⟩ | ⟨s3,k3,rfl⟩
  ·refine ⟨cap,hcap,Nat.le_refl _,by omega,fun e=>(by cases e),fun _=>rfl,?_⟩
   rcases c2 with ⟨rfl,rfl,hm2⟩ | ⟨s2,k2,rfl⟩ <;>rcases c1 with ⟨rfl,rfl,hm1⟩ | ⟨s1,k1,rfl⟩
   ·subst hm1 hm2;simp[Instr.sliceBounds]
   ·subst hm2;simp[Instr.sliceBounds,sb k1 l es.length _ b1 (by omega)]
   ·subst hm1;simp[Instr.sliceBounds,sb k2 h cap _ (by omega) (by omega)]
   ·simp[Instr.sliceBounds,sb k2 h cap _ (by omega) (by omega),sb k1 l h.toNat _ b1 (by omega)]
  ·refine ⟨m.toNat,hcap,by omega,by omega,fun _=>rfl,fun e=>(by rw[e] at s3;cases s3),?_⟩
   rcases c2 with ⟨rfl,rfl,hm2⟩ | ⟨s2,k2,rfl⟩
   ·simp[s3] at hmh
   ·rcases c1 with ⟨rfl,rfl,hm1⟩ | ⟨s1,k1,rfl⟩
    ·subst hm1;simp[Instr.sliceBounds,sb k3 m cap _ (by omega) (by omega),sb k2 h m.toNat _ (by omega) (by omega)]
    ·simp[Instr.sliceBounds,sb k3 m cap _ (by omega) (by omega),sb k2 h m.toNat _ (by omega) (by omega),sb k1 l h.toNat _ b1 (by omega)]
 obtain ⟨m',g1,g2,g3,g4,g5,hsb⟩:=key
 have hrun:(Instr.sliceAt t (.slice ad es.length cap) vlo vhi vmx).run P w =
   .ok (.slice (if m'=l.toNat then ad else ad.map (·.add (l.toNat*P.cellsOf e))) (h.toNat-l.toNat) (m'-l.toNat)) w:=by
  simp only[Instr.sliceAt,Instr.slice,Sem.run_bind,run_underlying hu,Result.andThen_ok,hsb,jk hi',Sem.run_pure]
 refine ⟨_,hrun,?_⟩
 split at hx
 ·rename_i hc
  simp only[Option.some.injEq] at hx
  subst hx
  have e1:m'=l.toNat:=by rw[g4 hc.1,hc.2]
  have e2:h.toNat-l.toNat=0:=by omega
  rw[if_pos e1,e2,e1,Nat.sub_self]
  exact ⟨_,by simp[bK,I.isAgg];rfl,by simp only[ah];exact ⟨ad,rfl⟩⟩
 ·simp only[Option.some.injEq] at hx
  subst hx
  have hlen:((es.take h.toNat).drop l.toNat).length=h.toNat-l.toNat:=by simp;omega
  refine tU hlen.symm (by omega) (by omega) ?_ (fun y hy=>hall y (List.mem_of_mem_take (List.mem_of_mem_drop hy)))
  by_cases hz:h.toNat=l.toNat
  ·left;exact List.eq_nil_of_length_eq_zero (by omega)
  ·right
   rw[if_neg (by omega)]
   rcases hes with rfl | ⟨b,off,cs,rfl,q1,q2⟩
   ·simp at b4 g3;omega
   ·obtain ⟨c2,q3,q4⟩:=akL q1 q2 hall l.toNat h.toNat (by omega) (by omega)
    exact ⟨b,off+l.toNat*sz,c2,by simp[nk,hsz],q3,q4⟩
theorem xE{t e:TypeId}{y:Operand}{y':aH}{lo hi mx:Option Operand}{lo' hi' mx':Option aH}{i:TypeInfo}{es:List I}(ho:o.op=.slice t y lo hi mx)(hu:c.P.underlying t=some (.slice e))(hi0:c.P.info? e=some i)
  (hy:bJ c.P 0 y=some y') (h1:iW c.P lo=some lo') (h2:iW c.P hi=some hi') (h3:iW c.P mx=some mx') (hmh:mx'.isSome=true→hi'.isSome=true)
  (h:ae A y'=.slice (c.P.cellsOf e) es∨(ae A y'=.nils (c.P.cellsOf e)∧es=[])∨(ae A y'=.c0 (c.P.cellsOf e)∧es=[])) (hx:jJ (c.P.cellsOf e) es (lo'.map (ae A)) (hi'.map (ae A)) (mx'.map (ae A))=some x):dR c A o x :=
 .same fun a w D E hs=>by
  have opt:∀ {q:Option Operand} {q':Option aH},iW c.P q=some q'→iP w D E (q'.map (ae A)) (q.map a.eval):=by
   intro q q' hq
   cases q with
   |none=>simp only[iW,Option.some.injEq] at hq;subst hq;simp[iP]
   |some z =>
    simp only[iW,Option.map_eq_some_iff] at hq
    obtain ⟨z',hz,rfl⟩:=hq
    simpa[iP] using cg hs hz
  have h0:=cg hs hy
  have hmh':(mx'.map (ae A)).isSome=true→(hi'.map (ae A)).isSome=true:=by simpa using hmh
  rcases h with h | ⟨h,rfl⟩ | ⟨h,rfl⟩
  ·rw[h] at h0
   obtain ⟨ad,cap,e1,e2,e3,e4,e5⟩:=mZ h0
   obtain ⟨v,k1,k2⟩:=zq hu hi0 rfl hmh' (opt h1) (opt h2) (opt h3) hx e2 e3 e4 e5
   exact ⟨v,by simp only[execOp,ho,e1,Sem.run_bind,k1];rfl,k2⟩
  ·rw[h] at h0
   obtain ⟨cs,q1,q2⟩:=h0
   simp only[ah] at q2
   have e1:a.eval y=.slice none ([]:List I).length 0:=by simpa[bK,I.isAgg,q2] using q1.symm
   obtain ⟨v,k1,k2⟩:=zq (ad:=none) (cap:=0) hu hi0 rfl hmh' (opt h1) (opt h2) (opt h3) hx (by simp) (by simp[maxLen]) (.inl rfl) (by simp)
   exact ⟨v,by simp only[execOp,ho,e1,Sem.run_bind,k1];rfl,k2⟩
  ·rw[h] at h0
   obtain ⟨cs,q1,q2⟩:=h0
   simp only[ah] at q2
   obtain ⟨ad,q2⟩:=q2
   have e1:a.eval y=.slice ad ([]:List I).length 0:=by simpa[bK,I.isAgg,q2] using q1.symm
   obtain ⟨v,k1,k2⟩:=zq (ad:=ad) (cap:=0) hu hi0 rfl hmh' (opt h1) (opt h2) (opt h3) hx (by simp) (by simp[maxLen]) (.inl rfl) (by simp)
   exact ⟨v,by simp only[execOp,ho,e1,Sem.run_bind,k1];rfl,k2⟩
end
inductive fX {α β:Type} (R:α→β→Prop):List α→List β→Prop where
 |nil:fX R [] []
 |cons {x:α} {y:β} {xs:List α} {ys:List β} : R x y→fX R xs ys→fX R (x::xs) (y::ys)
section
variable {c:cQ} {A:af} {o:Oper} {x:I}
theorem akK{w:World}{D:aN}{E:aZ}{xs:List I}{cs ds:List Value}{i:Nat}{x y:I}(h:aG w D E xs cs)(hx:xs[i]?=some x)(hy:ah w D E y ds)(hs:y.size=x.size) :
  I.sizes (xs.take i)+ds.length≤cs.length∧aG w D E (xs.set i y) (cs.take (I.sizes (xs.take i))++ds++cs.drop (I.sizes (xs.take i)+ds.length)):=by
 obtain ⟨c1,c2,c3,rfl,h1,h2,h3,h4⟩:=mV xs cs i x h hx
 have hi:i<xs.length:=(List.getElem?_eq_some_iff.1 hx).1
 have hl:ds.length=c2.length:=by rw[ah.length _ _ hy,ah.length _ _ h3,hs]
 refine ⟨by simp only[List.length_append,h1];omega,?_⟩
 have e1:xs.set i y=xs.take i++y::xs.drop (i+1):=by rw[List.set_eq_take_append_cons_drop];simp[hi]
 have e2:(c1++c2++c3).take (I.sizes (xs.take i))++ds++(c1++c2++c3).drop (I.sizes (xs.take i)+ds.length)=c1++(ds++c3):=by
  rw[←h1,hl,List.append_assoc c1 c2 c3,List.take_left,List.drop_length_add_append,List.drop_left,List.append_assoc]
 rw[e1,e2]
 refine kE _ _ _ _ h2 ?_
 simp only[aG]
 exact ⟨ds,c3,rfl,hy,h4⟩
theorem ZO(off:Nat)(l:List Value)(cs:Array Value)(h:off+l.length≤cs.size) :
  ((l.zipIdx 0).foldl (fun cs (x:Value×Nat)=>cs.setIfInBounds (off+x.2) x.1) cs).toList=cs.toList.take off++l++cs.toList.drop (off+l.length):=by
 obtain ⟨h1,h2⟩:=Great.foldl_set off l 0 cs
 apply List.ext_getElem?
 intro k
 rw[Array.getElem?_toList,h2 k]
 simp only[Nat.add_zero,List.append_assoc]
 by_cases hk:k<off
 ·rw[if_neg (by omega),List.getElem?_append_left (by simp;omega)]
  simp[hk]
 ·rw[List.getElem?_append_right (by simp;omega)]
  simp only[List.length_take,Array.length_toList,Nat.min_eq_left (show off≤cs.size by omega)]
  by_cases hk2:k<off+l.length
  ·rw[if_pos ⟨by omega,by omega,by omega⟩,List.getElem?_append_left (by omega)]
  ·rw[if_neg (by omega),List.getElem?_append_right (by omega)]
   simp only[List.getElem?_drop,Array.getElem?_toList]
   congr 1
   omega
theorem wj{w:World}{D:aN}{E:aZ}(pl:Nat→Option (Nat×Nat)):∀ (ps:List (Nat×I)) (vs:List (Nat×Value)) (zs zs':List I) (cells:Array Value),
  (∀ i z,zs[i]?=some z→pl i=some (I.sizes (zs.take i),z.size))→aG w D E zs cells.toList→dY zs ps=some zs' →
  fX (fun (p:Nat×I) (v:Nat×Value)=>p.1=v.1∧aW w D E p.2 v.2) ps vs →
  ∃ cells',Instr.fill pl cells vs=some cells'∧aG w D E zs' cells'.toList
 | [],vs,zs,zs',cells,hp,hr,hs,hf=>by
  cases hf
  simp only[dY,Option.some.injEq] at hs
  subst hs
  exact ⟨cells,rfl,hr⟩
 |(i,y)::ps,vs,zs,zs',cells,hp,hr,hs,hf=>by
  cases hf with
  |cons h1 h2 =>
   rename_i v vs
   obtain ⟨j,u⟩:=v
   simp only at h1
   obtain ⟨rfl,hv⟩:=h1
   simp only[dY] at hs
   split at hs
   ·rename_i z hz
    split at hs
    ·rename_i hsz
     obtain ⟨hval,hsz⟩:=hsz
     obtain ⟨ds,k1,k2⟩:∃ ds,bK y u ds∧ah w D E y ds:=by
      cases y <;>simp[I.cj] at hval <;>exact hv
     have hcells:=k1.cells k2
     have hds:u.cells.size=z.size:=by rw[←Array.length_toList,hcells,ah.length _ _ k2,hsz]
     obtain ⟨k3,k4⟩:=akK hr hz k2 hsz
     have hcl:cells.toList.length=cells.size:=Array.length_toList
     have hl:ds.length=u.cells.size:=by rw[←hcells,Array.length_toList]
     have hp':∀ k z',(zs.set i y)[k]?=some z'→pl k=some (I.sizes ((zs.set i y).take k),z'.size):=by
      intro k z' hk
      have hil:i<zs.length:=(List.getElem?_eq_some_iff.1 hz).1
      have hsizes:∀ k,I.sizes ((zs.set i y).take k)=I.sizes (zs.take k):=by
       intro k
       have gen:∀ (zs:List I) (i k:Nat) (z:I),zs[i]?=some z→z.size=y.size→I.sizes ((zs.set i y).take k)=I.sizes (zs.take k):=by
        intro zs
        induction zs with
        |nil=>intro i k z hz _;simp at hz
        |cons q qs ih =>
         intro i k z hz he
         cases k with
         |zero=>simp
         |succ k =>
          cases i with
          |zero =>
           simp only[List.getElem?_cons_zero,Option.some.injEq] at hz
           subst hz
           simp[I.sizes,he]
          |succ i =>
           simp only[List.set_cons_succ,List.take_succ_cons,I.sizes,ih i k z (by simpa using hz) he]
       exact gen zs i k z hz hsz.symm
      rw[hsizes]
      rw[List.getElem?_set] at hk
      split at hk
      ·rename_i hik
       subst hik
       simp only[Option.some.injEq] at hk
       subst hk
       rw[hp i z hz,hsz]
      ·exact hp k z' hk
     have hfold:=ZO (I.sizes (zs.take i)) u.cells.toList cells (by rw[hcells];omega)
     rw[hcells] at hfold
     obtain ⟨cells',k5,k6⟩:=wj pl ps vs (zs.set i y) zs' ((u.cells.toList.zipIdx 0).foldl (fun cs (x:Value×Nat)=>cs.setIfInBounds (I.sizes (zs.take i)+x.2) x.1) cells) hp'
      (by rw[hcells,hfold];exact k4) hs h2
     refine ⟨cells',?_,k6⟩
     unfold Instr.fill
     simp only[hp i z hz]
     rw[if_neg (by simp[hds];omega)]
     rw[←k5]
     congr 1
     rw[←Array.foldl_toList,Array.toList_zipIdx]
    ·cases hs
   ·cases hs
theorem LQ{a:Act}{w:World}{D:aN}{E:aZ}(hs:aT c A a w D E){P:Program} : ∀ (ps:List (Nat×Operand)) (qs:List (Nat×aH)),lE P ps=some qs →
  fX (fun (p:Nat×I) (v:Nat×Value)=>p.1=v.1∧aW w D E p.2 v.2) (qs.map fun p=>(p.1,ae A p.2)) (ps.map fun p=>(p.1,a.eval p.2))
 | [],qs,h=>by simp[lE] at h;subst h;exact .nil
 |(i,x)::ps,qs,h=>by
  simp only[lE,List.mapM_cons,Option.bind_eq_bind,Option.pure_def,Option.bind_eq_some_iff,Option.map_eq_some_iff,Option.some.injEq] at h
  obtain ⟨_,⟨y,hy,rfl⟩,qs',hq,rfl⟩:=h
  exact .cons ⟨rfl,cg hs hy⟩ (LQ hs ps qs' hq)
theorem J9{t:TypeId}{parts:Array (Nat×Operand)}{ps:List (Nat×aH)}{zs zs':List I}(ho:o.op=.build t parts)(hz:gj c.P t=some (.agg zs))(hp:lE c.P parts.toList=some ps)
  (hpl:(∃ fs,c.P.underlying t=some (.struct fs)∧(fs.toList.map fun f=>(f.offset,c.P.cellsOf f.type))=l8 0 zs∧(fs.all fun f=>(c.P.info? f.type).isSome)=true) ∨
   (∃ n e,c.P.underlying t=some (.array n e)∧zs.length=n∧(zs.all fun z=>z.size==c.P.cellsOf e)=true∧(c.P.info? e).isSome=true))
  (h:dY zs (ps.map fun p=>(p.1,ae A p.2))=some zs'):dR c A o (.agg zs') :=
 .same fun a w D E hs=>by
  obtain ⟨i,z,hi,hzv,hzr⟩:=mn hz
  have hzr:=hzr w D E
  simp only[ah] at hzr
  have hparts:=LQ hs parts.toList ps hp
  have hmap:(parts.map fun (q:Nat×Operand)=>(q.1,a.eval q.2)).toList=parts.toList.map fun p=>(p.1,a.eval p.2):=by simp
  rcases hpl with ⟨fs,hu,hoffs,hinfo⟩ | ⟨n,e,hu,hn,hev,hinfo⟩
  ·have hpl:∀ i z,zs[i]?=some z→(l8 0 zs)[i]?=some (I.sizes (zs.take i),z.size):=by
    intro i z hiz;rw[LW,hiz];simp
   obtain ⟨cells',k1,k2⟩:=wj ((l8 0 zs)[·]?) _ _ zs zs' z.cells hpl hzr h hparts
   have hm:fs.toList.mapM (fun f=>(c.P.info? f.type).map fun i=>(f.offset,i.size))=some (l8 0 zs):=by
    rw[←hoffs]
    have hall:∀ f∈fs.toList,(c.P.info? f.type).isSome=true:=fun f hf=>by
     have:=(Array.all_eq_true_iff_forall_mem.1 hinfo) f (by simpa using hf)
     exact this
    revert hall
    generalize fs.toList=l
    intro hall
    induction l with
    |nil=>rfl
    |cons f l ih =>
     obtain ⟨j,hj⟩:=Option.isSome_iff_exists.1 (hall f (by simp))
     simp only[List.mapM_cons,Option.bind_eq_bind,hj,Option.map_some,Option.bind_some,ih (fun g hg=>hall g (by simp[hg])),Option.pure_def,List.map_cons,Program.cellsOf,Option.getD_some]
   have hb:c.P.built t (parts.map fun (q:Nat×Operand)=>(q.1,a.eval q.2)).toList=some cells':=by
    unfold Program.built
    simp only[hi,hu,hzv,hm]
    rw[hmap,←k1]
    congr 1
    funext k
    simp
   exact ⟨.agg cells',by simp only[execOp,ho,Sem.run_bind,run_build w t _ _ hb];rfl,by have:=K1 k2;simpa using this⟩
  ·obtain ⟨ie,hie⟩:=Option.isSome_iff_exists.1 hinfo
   have hev':∀ z∈zs,z.size=ie.size:=fun z hz=>by
    have:=List.all_eq_true.1 hev z hz
    simpa[Program.cellsOf,hie] using this
   have hpl:∀ i z,zs[i]?=some z→(fun i=>some (i*ie.size,ie.size)) i=some (I.sizes (zs.take i),z.size):=by
    intro i z hiz
    have hl:i<zs.length:=(List.getElem?_eq_some_iff.1 hiz).1
    rw[o5 zs i hev' (by omega),hev' z (List.mem_of_getElem? hiz)]
   obtain ⟨cells',k1,k2⟩:=wj (fun i=>some (i*ie.size,ie.size)) _ _ zs zs' z.cells hpl hzr h hparts
   have hb:c.P.built t (parts.map fun (q:Nat×Operand)=>(q.1,a.eval q.2)).toList=some cells':=by
    unfold Program.built
    simp only[hi,hu,hzv,hie]
    rw[hmap,←k1]
   exact ⟨.agg cells',by simp only[execOp,ho,Sem.run_bind,run_build w t _ _ hb];rfl,by have:=K1 k2;simpa using this⟩
theorem pw{a:Act}{w:World}{D:aN}{E:aZ}(hs:aT c A a w D E){P:Program} : ∀ (xs:List Operand) (ts:List TypeId) (ys:List aH),mA P xs ts=some ys →
  fX (aW w D E) (ys.map (ae A)) (xs.map a.eval)
 | [],_,ys,h=>by simp[mA] at h;subst h;exact .nil
 |x::xs,ts,ys,h=>by
  simp only[mA] at h
  split at h
  ·rename_i y ys' h1 h2
   simp only[Option.some.injEq] at h
   subst h
   exact .cons (cg hs h1) (pw hs xs _ ys' h2)
  ·cases h
theorem m7{w:World}{D:aN}{E:aZ} : ∀ (xs:List I) (vs:List Value),fX (aW w D E) xs vs→(∀ x∈xs,x.cj=true)→aF w D E xs vs
 | [],vs,h,_=>by cases h;simp[aF]
 |x::xs,vs,h,hv=>by
  cases h with
  |cons h1 h2 =>
   rename_i v vs
   have hx:=hv x (by simp)
   obtain ⟨cs,k1,k2⟩:∃ cs,bK x v cs∧ah w D E x cs:=by
    cases x <;>simp[I.cj] at hx <;>exact h1
   simp only[aF]
   exact ⟨v,vs,cs,rfl,k1,k2,m7 xs vs h2 (fun y hy=>hv y (by simp[hy]))⟩
theorem qZ{aC:Bool}{B:af} : ∀ {xs ys:List I},b7 aC B xs=some ys→∀ x∈xs,x.cj=true
 | [],ys,_,x,hx=>by simp at hx
 |y::xs,ys,h,x,hx=>by
  simp only[b7] at h
  split at h
  ·rename_i z zs h1 h2
   rcases List.mem_cons.1 hx with rfl | hx
   ·cases x <;>simp_all[br,I.cj]
   ·exact qZ h2 x hx
  ·cases h
theorem ahp{f:FuncId}{caps:Array Operand}{ys:List aH}(ho:o.op=.makeFunc (.func f) #[] caps)(hc:mA c.P caps.toList []=some ys)(hv:∀ y∈ys,(ae A y).cj=true):dR c A o (.func f (ys.map (ae A))) :=
 .same fun a w D E hs=>by
  have h:=m7 _ _ (pw hs caps.toList [] ys hc) (by simpa using hv)
  have e:caps.map a.eval=(caps.toList.map a.eval).toArray:=by apply Array.ext';simp
  refine ⟨.func (.func f) #[] (caps.toList.map a.eval).toArray,by simp[execOp,ho,Instr.makeFunc,e],⟨_,by simp[bK,I.isAgg];rfl,?_⟩⟩
  simp only[ah]
  exact ⟨_,rfl,h⟩
theorem Oo{w:World}{D:aN}{E:aZ} : ∀ (xs:List I) (vs:List Value),aF w D E xs vs→aG w D E xs (vs.flatMap fun v=>v.cells.toList)∧vs.length=xs.length∧∀ (sz:Nat),(∀ x∈xs,x.size=sz)→∀ v∈vs,v.cells.size=sz
 | [],vs,h=>by simp only[aF] at h;subst h;simp[aG]
 |x::xs,vs,h=>by
  simp only[aF] at h
  obtain ⟨v,rest,cs,rfl,h1,h2,h3⟩:=h
  obtain ⟨k1,k2,k3⟩:=Oo xs rest h3
  have hc:=h1.cells h2
  refine ⟨?_,by simp[k2],fun sz hsz u hu =>?_⟩
  ·simp only[List.flatMap_cons,aG]
   exact ⟨_,_,rfl,by rw[hc];exact h2,k1⟩
  ·rcases List.mem_cons.1 hu with rfl | hu
   ·rw[←Array.length_toList,hc,ah.length _ _ h2,hsz x (by simp)]
   ·exact k3 sz (fun y hy=>hsz y (by simp[hy])) u hu
def oU(A:af)(D:aN)(E:aZ):aN:=fun b o=>D b o∨∃ n T sz es cap,A.o n=some (.bT T sz es)∧E n=some (.rw (some (b,cap)) es.length)∧o<es.length*sz
theorem aT.oZ{a:Act}{w:World}{D:aN}{E:aZ}(h:aT c A a w D E):aT c A a w (oU A D E) E∧iE false A D E (oU A D E):=by
 have hblk:∀ {n T sz es b cap},A.o n=some (.bT T sz es)→E n=some (.rw (some (b,cap)) es.length)→c.fm b∧b<w.heap.size:=by
  intro n T sz es b cap hn aw
  obtain ⟨aE,k1,k2,k3⟩:=h.bT hn
  rw[aw] at k1
  simp only[Option.some.injEq,bU.rw.injEq,and_true] at k1
  subst k1
  obtain ⟨cs,pre,rest,k4,k5,_⟩:=k3
  exact ⟨k4,gb k5⟩
 refine ⟨h.Pc (fun _ _ hd=>.inl hd) ?_ ?_ ?_ ?_ ?_ ?_,⟨fun _ _ hd=>.inl hd,fun n T sz es b cap hn aw o ho=>.inr ⟨n,T,sz,es,cap,hn,aw,ho⟩,(fun hb=>by cases hb),fun hb=>by cases hb⟩⟩
 ·rintro b o (hd | ⟨n,T,sz,es,cap,hn,aw,ho⟩) hlt
  ·exact h.c6 _ _ hd hlt
  ·exact absurd (hblk hn aw).1 hlt
 ·rintro b o (hd | ⟨n,T,sz,es,cap,hn,aw,ho⟩)
  ·exact h.dg _ _ hd
  ·exact (hblk hn aw).2
 ·rintro m x b hm hEm o (hd | ⟨n,T,sz,es,cap,hn,aw,ho⟩)
  ·obtain ⟨b2,cs2,T2,q1,q2,q3,q4,q5⟩:=h.box hm
   rw[q1] at hEm
   simp only[Option.some.injEq,bU.aC.injEq,and_true] at hEm
   subst hEm
   exact q5 o hd
  ·have:=h.cU m n _ _ b hEm aw rfl rfl
   subst this
   rw[hm] at hn
   cases hn
 ·rintro m T' sz' es' b cap' hm hEm o (hd | ⟨n,T,sz,es,cap,hn,aw,ho⟩)
  ·obtain ⟨aE,q1,q2,q3⟩:=h.bT hm
   rw[hEm] at q1
   simp only[Option.some.injEq,bU.rw.injEq,and_true] at q1
   subst q1
   obtain ⟨cs',pre',rest',q4,q5,q6,q7,q8,q9,q10,q11⟩:=q3
   have:=q11 o hd
   rwa [aG.length _ _ q7,I.iB _ q2] at this
  ·have:=h.cU m n _ _ b hEm aw rfl rfl
   subst this
   rw[hm] at hn
   simp only[Option.some.injEq,ai.bT.injEq] at hn
   obtain ⟨rfl,rfl,rfl⟩:=hn
   exact ho
 ·rintro m T' xs b cap' hm hEm o (hd | ⟨n,T,sz,es,cap,hn,aw,ho⟩)
  ·obtain ⟨aE,q1,_,q3⟩:=h.r7 hm
   rw[hEm] at q1
   simp only[Option.some.injEq,bU.rw.injEq,and_true] at q1
   subst q1
   obtain ⟨_,_,_,_,_,_,_,_,q4⟩:=q3
   exact q4 o hd
  ·have:=h.cU m n _ _ b hEm aw rfl rfl
   subst this
   rw[hm] at hn
   cases hn
 ·rintro m e' b hE' hoth hblk o (hd | ⟨n,T,sz,es,cap,hn,aw,ho⟩)
  ·exact h.yX hE' hoth hblk o hd
  ·have:=h.cU m n _ _ b hE' aw hblk rfl
   subst this
   rw[hE'] at aw
   cases aw
   cases hoth
theorem LR{a:Act}{w:World}{D:aN}{E:aZ}(hs:aT c A a w D E){P:Program} : ∀ (ps:List (Nat×Operand)) (qs:List (Nat×aH)),lE P ps=some qs →
  fX (aW w D E) ((qs.map (·.2)).map (ae A)) (ps.map fun p=>a.eval p.2)∧qs.map (·.1)=ps.map (·.1)
 | [],qs,h=>by simp[lE] at h;subst h;exact ⟨.nil,rfl⟩
 |(i,x)::ps,qs,h=>by
  simp only[lE,List.mapM_cons,Option.bind_eq_bind,Option.pure_def,Option.bind_eq_some_iff,Option.map_eq_some_iff,Option.some.injEq] at h
  obtain ⟨_,⟨y,hy,rfl⟩,qs',hq,rfl⟩:=h
  obtain ⟨h1,h2⟩:=LR hs ps qs' hq
  exact ⟨.cons (cg hs hy) h1,by simp[h2]⟩
theorem aT.newRow{a:Act}{w:World}{D:aN}{E:aZ}(h:aT c A a w D E)(o:Obj):aT c A a (w.alloc o) (fun b k=>D b k∨b=w.heap.size) E:=by
 refine h.grow (sG w o) (fun _ _ hd=>.inl hd) ?_ ?_
 ·rintro b k (hd | rfl) hlt
  ·exact hd
  ·omega
 ·rintro b k (hd | rfl)
  ·have:=h.dg _ _ hd;simp;omega
  ·simp
theorem amh{α:Type}(ps:List (Nat×α))(h:ps.map (·.1)=List.range ps.length):ps=((ps.map (·.2)).zipIdx 0).map fun x=>(x.2,x.1):=by
 apply List.ext_getElem?
 intro k
 rw[List.getElem?_map,List.getElem?_zipIdx,List.getElem?_map]
 cases hk:ps[k]? with
 |none=>simp
 |some p =>
  have hl:k<ps.length:=(List.getElem?_eq_some_iff.1 hk).1
  have:=congrArg (·[k]?) h
  simp only[List.getElem?_map,hk,Option.map_some,List.getElem?_range hl,Option.some.injEq] at this
  simp[←this]
theorem ag7{t e:TypeId}{len:Nat}{parts:Array (Nat×Operand)}{ps:List (Nat×aH)}{es:List I}(ho:o.op=.buildSlice t len parts)(hu:c.P.underlying t=some (.slice e))(hp:lE c.P parts.toList=some ps)
  (hr:ps.map (·.1)=List.range len) (h0:0<c.P.cellsOf e) (hlen:0<len) (hsm:len*c.P.cellsOf e≤16777216) (hz:((c.P.info? e).bind (·.zero)).isSome=true)
  (hes:b7 false A ((ps.map (·.2)).map (ae A))=some es) (hev:∀ x∈es,x.size=c.P.cellsOf e) (hcl:I.bX es=true):dR c A o (.slice (c.P.cellsOf e) es):=by
 intro a w D E hs
 obtain ⟨hfor,hidx⟩:=LR hs parts.toList ps hp
 obtain ⟨hs1,hw⟩:=hs.oZ
 have hrv:=mG (E':=E) hs (fun _ _ h=>h) hw _ es _ (m7 _ _ hfor (qZ hes)) hes
 obtain ⟨k1,k2,k3⟩:=Oo es _ hrv
 have k3:=k3 _ hev
 have hl:parts.toList.length=len:=by
  have:=congrArg List.length hidx
  rw[hr] at this
  simpa using this.symm
 have hesl:es.length=len:=by rw[←k2];simp[hl]
 obtain ⟨z,hz⟩:=Option.isSome_iff_exists.1 hz
 obtain ⟨ie,hie,hzz⟩:=Option.bind_eq_some_iff.1 hz
 have hsz:ie.size=c.P.cellsOf e:=by simp[Program.cellsOf,hie]
 -- the literal's cells
 have hfill:Instr.fill (fun i=>some (i*ie.size,ie.size)) ((Array.range (len*ie.size)).map (z.cells[· % z.cells.size]!)) (parts.map fun (q:Nat×Operand)=>(q.1,a.eval q.2)).toList =
   some ((parts.toList.map fun p=>a.eval p.2).flatMap fun v=>v.cells.toList).toArray:=by
  have hpz:(parts.map fun (q:Nat×Operand)=>(q.1,a.eval q.2)).toList=((parts.toList.map fun p=>a.eval p.2).zipIdx 0).map fun x=>(x.2,x.1):=by
   have:=amh (parts.toList.map fun (q:Nat×Operand)=>(q.1,a.eval q.2)) (by simp only[List.map_map,List.length_map];rw[hl,←hr,hidx];rfl)
   rw[Array.toList_map,this,List.map_map]
   rfl
  rw[hpz,hsz]
  exact Great.fill_whole h0 _ _ (fun v hv=>k3 v hv) (by simp[hl])
 have hrun:=run_buildSlice (P:=c.P) w t e len (parts.map fun (q:Nat×Operand)=>(q.1,a.eval q.2)) _ ie z hu hie hzz (by rw[hsz];omega) (by rw[hsz];exact Nat.ne_of_gt (Nat.mul_pos hlen h0)) hfill
 generalize hcells:((parts.toList.map fun p=>a.eval p.2).flatMap fun v=>v.cells.toList)=cells at *
 have hs2:=hs1.newRow (.cells cells.toArray e)
 refine ⟨_,_,_,by simp only[execOp,ho,Sem.run_bind];rw[hrun];rfl,hs2,tU hesl.symm (Nat.le_refl _) ?_ (.inr ⟨w.heap.size,0,cells,rfl,?_,?_⟩) hev⟩
 ·unfold maxLen
  have:len≤len*c.P.cellsOf e:=Nat.le_mul_of_pos_right _ h0
  omega
 ·intro j v hj
  refine ⟨?_,.inr rfl⟩
  rw[Nat.zero_add]
  have:=World.cell?_alloc_new w cells.toArray e j
  rw[this]
  simpa using hj
 ·refine aG.bL ?_ es cells k1
  exact dS.grow (sG w _) (fun _ _ hd=>.inl hd)
end
mutual
theorem pJ:∀ (ty:cM) (x y:I) (r:Bool),cu ty x y=some r→x.size=ty.size∧y.size=ty.size
 | .i k,x,y,r,h=>by
  simp only[cu] at h
  split at h
  ·simp[I.size,cM.size]
  ·cases h
 | .b,x,y,r,h=>by
  simp only[cu] at h
  split at h
  ·simp[I.size,cM.size]
  ·cases h
 | .s,x,y,r,h=>by
  simp only[cu] at h
  split at h
  ·simp[I.size,cM.size]
  ·cases h
 | .bu l,x,y,r,h=>by
  simp only[cu] at h
  split at h
  ·simp only[I.size,cM.size];exact DC l _ _ r h
  ·cases h
 | .jO n e,x,y,r,h=>by
  simp only[cu] at h
  split at h
  ·rename_i fs gs
   split at h
   ·rename_i hl
    simp only[I.size,cM.size]
    have:∀ (fs gs:List I) (r:Bool),fs.length=gs.length→(fs.zip gs).foldr (fun p acc=>iF (cu e p.1 p.2) acc) (some true)=some r→I.sizes fs=fs.length*e.size∧I.sizes gs=fs.length*e.size:=by
     intro fs
     induction fs with
     |nil=>intro gs r hl _;cases gs with | nil=>simp[I.sizes] | cons _ _=>simp at hl
     |cons f fs ih =>
      intro gs r hl h
      cases gs with
      |nil=>simp at hl
      |cons g gs =>
       simp only[List.zip_cons_cons,List.foldr_cons] at h
       unfold iF at h
       split at h
       ·rename_i a b h1 h2
        obtain ⟨k1,k2⟩:=ih gs b (by simpa using hl) h2
        obtain ⟨k3,k4⟩:=pJ e f g a h1
        simp only[I.sizes,List.length_cons,k1,k2,k3,k4,Nat.add_mul,Nat.one_mul]
        omega
       ·cases h
    obtain ⟨k1,k2⟩:=this fs gs r (by omega) h
    rw[k1,k2,hl.1]
    exact ⟨rfl,rfl⟩
   ·cases h
  ·cases h
theorem DC:∀ (l:List cM) (xs ys:List I) (r:Bool),iY l xs ys=some r→I.sizes xs=cM.sizes l∧I.sizes ys=cM.sizes l
 | [],xs,ys,r,h=>by
  simp only[iY] at h
  split at h
  ·simp[I.sizes,cM.sizes]
  ·cases h
 |t::ts,xs,ys,r,h=>by
  simp only[iY] at h
  split at h
  ·rename_i f fs g gs
   unfold iF at h
   split at h
   ·rename_i a b h1 h2
    obtain ⟨k1,k2⟩:=pJ t f g a h1
    obtain ⟨k3,k4⟩:=DC ts fs gs b h2
    simp only[I.sizes,cM.sizes,k1,k2,k3,k4]
    exact ⟨trivial,trivial⟩
   ·cases h
  ·cases h
end
section
variable {P:Program} {w:World} {D:aN} {E:aZ}
theorem v7{d:Nat}{t:TypeId}{ty:cM}(h:gM P d t=some ty)(hs:ty.size=P.cellsOf t){x y:I}{r:Bool}(hr:cu ty x y=some r):∃ s,fU P t=some s∧bY s x=true∧bY s y=true:=by
 have hsz:=pJ ty x y r hr
 cases d with
 |zero=>simp[gM] at h
 |succ d =>
  simp only[gM] at h
  split at h
  ·rename_i k hu
   simp only[Option.some.injEq] at h;subst h
   simp only[cu] at hr
   split at hr
   ·exact ⟨none,by simp[fU,hu],by simp[bY,I.isAgg],by simp[bY,I.isAgg]⟩
   ·cases hr
  ·rename_i hu
   simp only[Option.some.injEq] at h;subst h
   simp only[cu] at hr
   split at hr
   ·exact ⟨none,by simp[fU,hu],by simp[bY,I.isAgg],by simp[bY,I.isAgg]⟩
   ·cases hr
  ·rename_i hu
   simp only[Option.some.injEq] at h;subst h
   simp only[cu] at hr
   split at hr
   ·exact ⟨none,by simp[fU,hu],by simp[bY,I.isAgg],by simp[bY,I.isAgg]⟩
   ·cases hr
  ·rename_i fs hu
   split at h
   ·simp only[Option.map_eq_some_iff] at h
    obtain ⟨l,_,rfl⟩:=h
    simp only[cu] at hr
    split at hr
    ·exact ⟨some (P.cellsOf t),by simp[fU,hu],by simp[bY,I.isAgg,hsz.1,hs],by simp[bY,I.isAgg,hsz.2,hs]⟩
    ·cases hr
   ·cases h
  ·rename_i n e hu
   split at h
   ·split at h
    ·simp only[Option.some.injEq] at h;subst h
     simp only[cu] at hr
     split at hr
     ·exact ⟨some (P.cellsOf t),by simp[fU,hu],by simp[bY,I.isAgg,hsz.1,hs],by simp[bY,I.isAgg,hsz.2,hs]⟩
     ·cases hr
    ·cases h
   ·cases h
  ·cases h
theorem DF{k:Nat}{g:Field→Option cM}(hg:∀ (f:Field) (ty:cM),g f=some ty→ty.size=P.cellsOf f.type∧∃ d,gM P d f.type=some ty ∧
   ∀ (x y:I) (u v:Value) (r:Bool),aW w D E x u→aW w D E y v→cu ty x y=some r→(Op.equalIn k f.type u v).run P w=.ok r w) :
  ∀ (fs : List Field) (l : List cM) (xs ys : List I) (r : Bool) (c1 c2 d1 d2 : List Value), fs.mapM g = some l → (∀ f ∈ fs, f.name ≠ "_") → qf P c1.length fs = true → c1.length = d1.length →
   aG w D E xs c2→aG w D E ys d2→iY l xs ys=some r→(Op.eqFields k (c1++c2).toArray (d1++d2).toArray fs).run P w=.ok r w
 | [],l,xs,ys,r,c1,c2,d1,d2,hm,_,_,_,_,_,h=>by
  simp at hm
  subst hm
  simp only[iY] at h
  split at h
  ·simp only[Option.some.injEq] at h;subst h;simp[Op.eqFields]
  ·cases h
 |f::fs,l,xs,ys,r,c1,c2,d1,d2,hm,hn,ho,hl,hx,hy,h=>by
  simp only[List.mapM_cons,Option.bind_eq_bind,Option.pure_def,Option.bind_eq_some_iff,Option.some.injEq] at hm
  obtain ⟨ty,hty,tys,htys,rfl⟩:=hm
  simp only[iY] at h
  split at h
  case h_2=>cases h
  rename_i x xs y ys
  unfold iF at h
  split at h
  case h_2=>cases h
  rename_i ra rb h1 h2
  simp only[Option.some.injEq] at h
  subst h
  simp only[aG] at hx hy
  obtain ⟨e1,e2,rfl,k1,k2⟩:=hx
  obtain ⟨f1,f2,rfl,k3,k4⟩:=hy
  obtain ⟨hsz,dd,hd,heq⟩:=hg f ty hty
  obtain ⟨s,q1,q2,q3⟩:=v7 hd hsz h1
  obtain ⟨u,p1,p2⟩:=oV (c1:=c1) (c3:=e2) q1 q2 k1
  obtain ⟨v,p3,p4⟩:=oV (c1:=d1) (c3:=f2) q1 q3 k3
  simp only[qf,Bool.and_eq_true,beq_iff_eq] at ho
  have hsx:=pJ ty x y ra h1
  have hle:e1.length=P.cellsOf f.type:=by rw[ah.length _ _ k1,hsx.1,hsz]
  have hlf:f1.length=P.cellsOf f.type:=by rw[ah.length _ _ k3,hsx.2,hsz]
  have ih:=DF hg fs tys xs ys rb (c1++e1) e2 (d1++f1) f2 htys (fun g hg=>hn g (by simp[hg])) (by simp only[List.length_append,hle];exact ho.2) (by simp[hl,hle,hlf]) k2 k4 h2
  rw[List.append_assoc] at p1 p3
  rw[List.append_assoc,List.append_assoc] at ih
  rw[←ho.1] at p1
  rw[←hl,←ho.1] at p3
  simp only[Op.eqFields,hn f (by simp),ne_eq,not_false_eq_true,if_true,Sem.run_bind,p1,Result.andThen_ok,p3,heq x y u v ra p2 p4 h1]
  cases ra
  ·simp
  ·simpa using ih
theorem DG{d:Nat}{e:TypeId}{ty:cM}{dd:Nat}(hty:gM P dd e=some ty)(hsz:ty.size=P.cellsOf e)
  (heq:∀ (x y:I) (u v:Value) (r:Bool),aW w D E x u→aW w D E y v→cu ty x y=some r→(Op.equalIn d e u v).run P w=.ok r w) :
  ∀ (m k:Nat) (xs ys:List I) (c1 c2 d1 d2:List Value) (r:Bool),xs.length=m→ys.length=m→c1.length=k*P.cellsOf e→d1.length=k*P.cellsOf e→aG w D E xs c2→aG w D E ys d2 →
   (xs.zip ys).foldr (fun p acc=>iF (cu ty p.1 p.2) acc) (some true)=some r→(Op.eqItems d e (P.cellsOf e) (c1++c2).toArray (d1++d2).toArray (List.range' k m)).run P w=.ok r w
 |0,k,xs,ys,c1,c2,d1,d2,r,hx,hy,_,_,_,_,h=>by
  have e1:=List.eq_nil_of_length_eq_zero hx
  subst e1
  simp only[List.zip_nil_left,List.foldr_nil,Option.some.injEq] at h
  subst h
  simp[Op.eqItems]
 |m+1,k,xs,ys,c1,c2,d1,d2,r,hx,hy,hc,hd,hrx,hry,h=>by
  cases xs with
  |nil=>simp at hx
  |cons x xs =>
  cases ys with
  |nil=>simp at hy
  |cons y ys =>
  simp only[List.zip_cons_cons,List.foldr_cons] at h
  unfold iF at h
  split at h
  case h_2=>cases h
  rename_i ra rb h1 h2
  simp only[Option.some.injEq] at h
  subst h
  simp only[aG] at hrx hry
  obtain ⟨e1,e2,rfl,k1,k2⟩:=hrx
  obtain ⟨f1,f2,rfl,k3,k4⟩:=hry
  obtain ⟨s,q1,q2,q3⟩:=v7 hty hsz h1
  obtain ⟨u,p1,p2⟩:=oV (c1:=c1) (c3:=e2) q1 q2 k1
  obtain ⟨v,p3,p4⟩:=oV (c1:=d1) (c3:=f2) q1 q3 k3
  have hsx:=pJ ty x y ra h1
  have hle:e1.length=P.cellsOf e:=by rw[ah.length _ _ k1,hsx.1,hsz]
  have hlf:f1.length=P.cellsOf e:=by rw[ah.length _ _ k3,hsx.2,hsz]
  have ih:=DG hty hsz heq m (k+1) xs ys (c1++e1) e2 (d1++f1) f2 rb (by simpa using hx) (by simpa using hy) (by simp only[List.length_append,hle,hc,Nat.add_mul,Nat.one_mul]) (by simp only[List.length_append,hlf,hd,Nat.add_mul,Nat.one_mul]) k2 k4 h2
  rw[List.append_assoc] at p1 p3
  rw[List.append_assoc,List.append_assoc] at ih
  rw[hc] at p1
  rw[hd] at p3
  simp only[List.range'_succ,Op.eqItems,Sem.run_bind,p1,Result.andThen_ok,p3,heq x y u v ra p2 p4 h1]
  cases ra
  ·simp
  ·simpa using ih
theorem sW:∀ (d:Nat) (t:TypeId) (ty:cM),gM P d t=some ty→∀ (x y:I) (u v:Value) (r:Bool),aW w D E x u→aW w D E y v→cu ty x y=some r→∀ dep,d≤dep→(Op.equalIn dep t u v).run P w=.ok r w
 |0,t,ty,h,_,_,_,_,_,_,_,_,_,_=>by simp[gM] at h
 |d+1,t,ty,h,x,y,u,v,r,hx,hy,hr,dep,hdep=>by
  obtain ⟨k,rfl⟩:∃ k,dep=k+1:=⟨dep-1,by omega⟩
  simp only[gM] at h
  split at h
  ·rename_i kk hu
   simp only[Option.some.injEq] at h;subst h
   simp only[cu] at hr
   split at hr
   ·split at hr
    ·simp only[Option.some.injEq] at hr;subst hr
     rw[(fy hx).1,(fy hy).1]
     rename_i hk
     rw[hk.1,hk.2]
     exact run_equalIn_int w k t kk kk _ _ hu
    ·cases hr
   ·cases hr
  ·rename_i hu
   simp only[Option.some.injEq] at h;subst h
   simp only[cu] at hr
   split at hr
   ·simp only[Option.some.injEq] at hr;subst hr
    rw[me hx,me hy]
    exact run_equalIn_bool' w k t _ _ hu
   ·cases hr
  ·rename_i hu
   simp only[Option.some.injEq] at h;subst h
   simp only[cu] at hr
   split at hr
   ·simp only[Option.some.injEq] at hr;subst hr
    rw[(nZ hx).1,(nZ hy).1]
    exact run_equalIn_string w k t _ _ hu
   ·cases hr
  ·rename_i fs hu
   split at h
   ·rename_i hc
    simp only[Option.map_eq_some_iff] at h
    obtain ⟨l,hl,rfl⟩:=h
    simp only[cu] at hr
    split at hr
    ·obtain ⟨cs,rfl,h1⟩:=jI hx
     obtain ⟨ds,rfl,h2⟩:=jI hy
     have hf:P.fieldsOf t=fs:=by simp[Program.fieldsOf,hu]
     rw[run_equalIn_struct w k t _ _ (by rw[hf];exact hu) hc.1,hf]
     refine DF (g:=fun f=>match gM P d f.type with | some ty=>if ty.size=P.cellsOf f.type then some ty else none | none=>none) (fun f ty hg =>?_) fs.toList l _ _ r [] cs [] ds hl (fun f hf =>?_) hc.2.2 rfl h1 h2 hr
     ·split at hg
      ·rename_i ty' hty
       split at hg
       ·rename_i hs
        simp only[Option.some.injEq] at hg;subst hg
        exact ⟨hs,d,hty,fun x y u v r hx hy hr=>sW d f.type _ hty x y u v r hx hy hr k (by omega)⟩
       ·cases hg
      ·cases hg
     ·have:=List.all_eq_true.1 hc.2.1 f hf
      simpa using this
    ·cases hr
   ·cases h
  ·rename_i n e hu
   split at h
   ·rename_i ty' hty
    split at h
    ·rename_i hc
     simp only[Option.some.injEq] at h;subst h
     simp only[cu] at hr
     split at hr
     ·split at hr
      ·rename_i hl
       obtain ⟨cs,rfl,h1⟩:=jI hx
       obtain ⟨ds,rfl,h2⟩:=jI hy
       obtain ⟨i,hi⟩:=Option.isSome_iff_exists.1 hc.2
       rw[run_equalIn_array w k _ _ hu hi,List.range_eq_range']
       exact DG hty hc.1 (fun x y u v r hx hy hr=>sW d e _ hty x y u v r hx hy hr k (by omega)) n 0 _ _ [] cs [] ds r hl.1 hl.2 (by simp) (by simp) h1 h2 hr
      ·cases hr
     ·cases hr
    ·cases h
   ·cases h
  ·cases h
end
section
variable {c:cQ} {A:af} {o:Oper} {x:I}
theorem ala{P:Program}{w:World}{D:aN}{E:aZ}(op:BinOp)(t:TypeId)(x y:Operand){a b:I}{ty:cM}{r:Bool}{u v:Value}(hr:cu ty a b=some r)(hx:aW w D E a u)(hm:P.eqGuardType P.depth t=false) :
  (eqGuard op t x y u v).run P w=.ok () w:=by
 have:u.oneCell'=true∧u≠.nilIface∨∃ cs,u=.agg cs:=by
  cases ty <;>simp only[cu] at hr <;>split at hr <;>first
   |(cases hr;done)
   |(left;rw[(fy hx).1];exact ⟨rfl,by simp⟩)
   |(left;rw[me hx];exact ⟨rfl,by simp⟩)
   |(left;rw[(nZ hx).1];exact ⟨rfl,by simp⟩)
   |(right;obtain ⟨cs,h,_⟩:=jI hx;exact ⟨_,h⟩)
 rcases this with ⟨h1,h2⟩ | ⟨cs,rfl⟩
 ·exact zo op t x y h1 h2
 ·cases op <;>cases v <;>simp[eqGuard,run_program,hm]
theorem Rm{P:Program}{w:World}{D:aN}{E:aZ}{neg:Bool}{t:TypeId}{a b:I}{ty:cM}{r:Bool}{u v:Value}(hr:cu ty a b=some r)(hx:aW w D E a u)(hy:aW w D E b v){dt:Nat}(hdt:dt≤10000)(hty:gM P dt t=some ty) :
  (binOp (if neg then .neq else .eql) t u v).run P w=.ok (.bool (if neg then !r else r)) w:=by
 have he:=sW (w:=w) (D:=D) (E:=E) dt t ty hty a b u v r hx hy hr 10000 hdt
 cases ty <;>simp only[cu] at hr <;>split at hr <;>first | (cases hr;done) | skip
 ·rw[(fy hx).1,(fy hy).1] at *
  split at hr
  ·rename_i hk
   simp only[Option.some.injEq] at hr
   subst hr
   rw[hk.1,hk.2]
   cases neg <;>simp[binOp,Op.intCmp,bne]
  ·cases hr
 ·have e1:=me hx
  have e2:=me hy
  subst e1 e2
  cases neg <;>simp only[binOp,if_true,Bool.false_eq_true,if_false] <;>simp[Op.equal,Op.maxDepth,he]
 ·rw[(nZ hx).1,(nZ hy).1] at *
  simp only[Option.some.injEq] at hr
  subst hr
  cases neg <;>simp[binOp,Op.stringOp]
 ·obtain ⟨cs,rfl,_⟩:=jI hx
  obtain ⟨ds,rfl,_⟩:=jI hy
  cases neg <;>simp only[if_true,Bool.false_eq_true,if_false]
  ·rw[run_eql_struct,he];rfl
  ·rw[run_neq_struct,he];rfl
 ·obtain ⟨cs,rfl,_⟩:=jI hx
  obtain ⟨ds,rfl,_⟩:=jI hy
  cases neg <;>simp only[if_true,Bool.false_eq_true,if_false]
  ·rw[run_eql_struct,he];rfl
  ·rw[run_neq_struct,he];rfl
theorem ahc{neg:Bool}{t yt:TypeId}{y z:Operand}{y' z':aH}{ty:cM}{r:Bool}(ho:o.op=.binOp (if neg then .neq else .eql) t y z yt)(hy:bJ c.P 0 y=some y')(hz:bJ c.P 0 z=some z')(hg:c.P.eqGuardType c.P.depth t=false)
  (hty:gM c.P 12 t=some ty) (h:cu ty (ae A y') (ae A z')=some r):dR c A o (.bool (if neg then !r else r)) :=
 .same fun a w D E hs=>by
  have h1:=cg hs hy
  have h2:=cg hs hz
  refine ⟨_,?_,nQ _⟩
  simp only[execOp,ho,Sem.run_bind,ala _ t y z h h1 hg,Result.andThen_ok,Rm h h1 h2 (dt:=12) (by omega) hty]
  rfl
theorem xD{neg:Bool}{t yt e:TypeId}{y z:Operand}{y':aH}{sz:Nat}{r:Bool}(ho:o.op=.binOp (if neg then .neq else .eql) t y z yt)(hu:c.P.underlying t=some (.slice e))(hy:bJ c.P 0 y=some y')(hz:bJ c.P 0 z=some (.c (.nils sz)))
  (h:(∃ s,ae A y'=.nils s∧r=true)∨(∃ s es,ae A y'=.slice s es∧es≠[]∧r=false)∨(∃ n p s lo k,ae A y'=.view n p s lo k∧r=false)):dR c A o (.bool (if neg then !r else r)) :=
 .same fun a w D E hs=>by
  have h1:=cg hs hy
  have h2:aW w D E (.nils sz) (a.eval z):=cg hs hz
  have hv:a.eval z=.slice none 0 0:=by
   obtain ⟨cs,q1,q2⟩:=h2
   simp only[ah] at q2
   simpa[bK,I.isAgg,q2] using q1.symm
  have hu':(∃ ad n cp,a.eval y=.slice ad n cp∧r=ad.isNone):=by
   rcases h with ⟨s,h,rfl⟩ | ⟨s,es,h,hne,rfl⟩ | ⟨n,p,s,lo,k,h,rfl⟩
   ·rw[h] at h1
    obtain ⟨cs,q1,q2⟩:=h1
    simp only[ah] at q2
    exact ⟨none,0,0,by simpa[bK,I.isAgg,q2] using q1.symm,rfl⟩
   ·rw[h] at h1
    obtain ⟨ad,cap,e1,_,_,e4,_⟩:=mZ h1
    rcases e4 with e4 | ⟨b,off,cs,rfl,_,_⟩
    ·exact absurd e4 hne
    ·exact ⟨_,_,_,e1,rfl⟩
   ·rw[h] at h1
    obtain ⟨cs,q1,q2⟩:=h1
    simp only[ah] at q2
    obtain ⟨b,aP,off,l,_,_,_,q2,_⟩:=q2
    exact ⟨_,_,_,by simpa[bK,I.isAgg,q2] using q1.symm,rfl⟩
  obtain ⟨ad,n,cp,hyv,rfl⟩:=hu'
  have he:∀ d,(Op.equalIn (d+1) t (.slice ad n cp) (.slice none 0 0)).run c.P w=.ok ad.isNone w:=fun d=>by
   cases ad <;>simp[Op.equalIn,run_underlying hu]
  refine ⟨.bool (if neg then !ad.isNone else ad.isNone),?_,nQ _⟩
  cases neg <;>simp only[execOp,ho,hyv,hv,if_true,Bool.false_eq_true,if_false,Sem.run_bind,eqGuard] <;>simp[binOp,Op.equal,Op.maxDepth,he]
end
def iU(c:cQ)(A:af)(o:Oper)(B:af):Prop :=
 ∀ a w D E,aT c A a w D E→∃ w',((∃ v,(execOp a.eval o).run c.P w=.ok (.value v) w'∧cw c B (a.put o.dst v) w')∨((execOp a.eval o).run c.P w=.ok .skip w'∧cw c B (a.put o.dst undef) w'))
section
variable {c:cQ} {A:af} {o:Oper} {x:I}
theorem dR.does(h:dR c A o x)(hd:∀ k,o.dst=some k→k<c.n):iU c A o (A.aJ o.dst x):=by
 intro a w D E hs
 obtain ⟨v,w',D',h1,h2,h3⟩:=h a w D E hs
 exact ⟨w',.inl ⟨v,h1,D',E,h2.aJ hd h3⟩⟩
theorem YM{t:TypeId}{z:I}{d:Nat}(ho:o.op=.alloc t)(hz:gj c.P t=some z)(hd:o.dst=some d)(hn:d<c.n)(hf:A.o d=none):iU c A o ((A.aK d (.box z)).put d (.ptr d [])):=by
 intro a w D E hs
 obtain ⟨i,zv,hi,hzv,hzr⟩:=mn hz
 have h1:=hs.rG (T:=t) (.inl hn) hf (hzr w D E)
 have h2:=h1.put (x:=.ptr d []) (v:=.pointer (some ⟨w.heap.size,0,none⟩)) hn ⟨_,by simp[bK,I.isAgg];rfl,by
  simp only[ah,if_true]
  exact ⟨w.heap.size,z.aP,0,rfl,by cases z.aP <;>simp[cO.off],rfl⟩⟩
 exact ⟨w.alloc (.cells zv.cells t),.inl ⟨.pointer (some ⟨w.heap.size,0,none⟩),by simp[execOp,ho,Instr.alloc,zeroValue,typeInfo,hi,hzv,newVar,newRow],D,_,by rw[hd];exact h2⟩⟩
theorem YR{t:TypeId}{y:Operand}{y':aH}{d:Nat}(ho:o.op=.box t y)(hy:bJ c.P t y=some y')(hv:(ae A y').cj=true)(hd:o.dst=some d)(hn:d<c.n)(hf:A.o d=none) :
  iU c A o ((A.aK d (.box (ae A y'))).put d (.ptr d [])):=by
 intro a w D E hs
 obtain ⟨cs,k1,k2⟩:∃ cs,bK (ae A y') (a.eval y) cs∧ah w D E (ae A y') cs:=by
  have h:=cg hs hy
  generalize ae A y'=z at *
  cases z <;>simp[I.cj] at hv <;>exact h
 have hc:=k1.cells k2
 rw[←hc] at k2
 have h1:=hs.rG (T:=t) (.inl hn) hf k2
 have h2:=h1.put (x:=.ptr d []) (v:=.pointer (some ⟨w.heap.size,0,none⟩)) hn ⟨_,by simp[bK,I.isAgg];rfl,by
  simp only[ah,if_true]
  exact ⟨w.heap.size,(ae A y').aP,0,rfl,by cases (ae A y').aP <;>simp[cO.off],rfl⟩⟩
 exact ⟨w.alloc (.cells (a.eval y).cells t),.inl ⟨.pointer (some ⟨w.heap.size,0,none⟩),by simp[execOp,ho,Instr.box,newVar,newRow],D,_,by rw[hd];exact h2⟩⟩
theorem YX{t:TypeId}{y z:Operand}{y' z':aH}{s:Option Nat}{n:Nat}{p:List Nat}{b old:I}(ho:o.op=.store t y z)(hk:fU c.P t=some s)(hk1:s.isSome=true∨c.P.cellsOf t=1)(hy:bJ c.P 0 y=some y')(hz:bJ c.P t z=some z')
  (hp:ae A y'=.ptr n p) (hb:A.o n=some (.box b)) (hat:b.at p=some old) (hv:(ae A z').cj=true) (hok:bY s (ae A z')=true) (hsh:(ae A z').aP=old.aP) (hd:o.dst=none) :
  iU c A o (A.aK n (.box (b.dz p (ae A z')))):=by
 intro a w D E hs
 have h1:=cg hs hy
 rw[hp] at h1
 obtain ⟨bb,aP,off,h2,h3,h4⟩:=oW h1
 obtain ⟨b',cs,T,k1,k2,k3,k4,k5⟩:=hs.box hb
 rw[k1] at h2
 simp only[Option.some.injEq,bU.aC.injEq] at h2
 obtain ⟨rfl,rfl⟩:=h2
 obtain ⟨ds,q1,q2⟩:∃ ds,bK (ae A z') (a.eval z) ds∧ah w D E (ae A z') ds:=by
  have h:=cg hs hz
  generalize ae A z'=zz at *
  cases zz <;>simp[I.cj] at hv <;>exact h
 have hc:=q1.cells q2
 obtain ⟨off',p1,p2,p3,p4⟩:=uz p b old _ _ ds k4 hat q2 hsh
 rw[h3,Option.some.injEq] at p1
 subst p1
 have hl:=ah.length _ _ q2
 obtain ⟨i,hi⟩:=tD hk
 have hsz:ds.length=c.P.cellsOf t:=by
  cases s with
  |none =>
   simp only[bY,Bool.not_eq_true'] at hok
   have:(ae A z').size=1:=by generalize ae A z'=zz at *;cases zz <;>simp_all[I.isAgg,I.size]
   rw[hl,this]
   rcases hk1 with h | h
   ·cases h
   ·exact h.symm
  |some m =>
   simp only[bY,Bool.and_eq_true,beq_iff_eq] at hok
   rw[hl,hok.2,x6 hk]
 have hcs:(a.eval z).cells.size=ds.length:=by rw[←hc,Array.length_toList]
 have hrun:=run_storeCells_at c.P b' off T ds 0 cs w k3 (by rw[Array.length_toList] at p2;omega) (ah.mR _ _ q2)
 simp only[Nat.add_zero] at hrun
 have hs2:=hs.Ox (y:=b.dz p (ae A z')) (cs':=(cs.toList.take off++ds++cs.toList.drop (off+ds.length)).toArray) hb k1 p4 (by simpa using p3)
 refine ⟨w.setRow b' (cs.toList.take off++ds++cs.toList.drop (off+ds.length)).toArray,.inr ⟨?_,D,E,?_⟩⟩
 ·have e:(a.eval z).cells.toList=ds:=hc
  have hg:¬ (a.eval z).cells.size≠c.P.cellsOf t:=by rw[hcs,hsz];simp
  simp only[execOp,ho,h4,Instr.storeAt,Instr.sureAddr,storeVar,Sem.run_bind,Sem.run_pure,Result.andThen_ok,jk hi,Sem.run_ite,if_neg hg,e,hrun]
 ·rw[hd]
  exact hs2
end
section
variable {c:cQ} {A:af} {a:Act} {w:World} {D:aN} {E:aZ}
theorem aT.D7(h:aT c A a w D E){n:Nat}{T:TypeId}{sz cap:Nat}{es ys:List I}{pre news rest:List Value}{cs:Array Value}{aE:Option (Nat×Nat)}(hn:A.o n=some (.bT T sz es))(aw:E n=some (.rw aE es.length))(hes:aG w D E es pre)
  (hys:aG w D E ys news) (hysz:∀ e∈ys,e.size=sz) (hne:ys≠[]) (hcs:cs.toList=(pre++news)++rest) (hsize:cs.size=cap*sz) (hlen:es.length+ys.length≤cap) (hcap:cap≤maxLen) :
  aT c (A.aK n (.bT T sz (es++ys))) a (w.drew.alloc (.cells cs T)) D (fun m=>if m=n then some (.rw (some (w.heap.size,cap)) (es.length+ys.length)) else E m):=by
 have hlast:0<ys.length:=List.length_pos_iff.2 hne
 have hheap:∀ b,b<w.heap.size→(w.drew.alloc (.cells cs T)).heap[b]?=w.heap[b]?:=fun b hb=>Below.heap_alloc w.drew _ b hb
 have hl:dS w D E (w.drew.alloc (.cells cs T)) D (fun m=>if m=n then some (.rw (some (w.heap.size,cap)) (es.length+ys.length)) else E m):=by
  have eB:∀ {m:Nat} {e:bU},E m=some e→e.eS=true→(if m=n then some (.rw (some (w.heap.size,cap)) (es.length+ys.length)) else E m)=some e:=fun {m e} he hfx=>by
   have:m≠n:=fun e=>by rw[e,aw] at he;cases he;cases hfx
   rw[if_neg this];exact he
  refine ⟨fun _ _ h=>h,fun b o v _ hv =>?_,fun m b aP he=>eB he rfl,fun m blk' l he =>?_,fun m b he=>eB he rfl,fun m b he=>eB he rfl,fun b es ck _ hm=>(hheap b (gb hm)).trans hm⟩
  ·rw[World.cell?_of_block (hheap b (World.block_lt_of_cell? w _ hv))];exact hv
  ·by_cases hm:m=n
   ·subst hm
    rw[aw] at he
    simp only[Option.some.injEq,bU.rw.injEq] at he
    exact ⟨_,_,if_pos rfl,by omega,fun e=>by omega⟩
   ·exact ⟨blk',l,by simp only[if_neg hm];exact he,Nat.le_refl _,fun _=>rfl⟩
 have hown:=h.bS n
 rw[hn] at hown
 obtain ⟨blk1,hb1,hb2,_⟩:=hown
 refine ⟨h.sz,h.eV.mono fun B _ hB=>(hheap B (Array.getElem?_eq_some_iff.1 hB).1).trans hB,fun t=>aW.bL hl (h.ew t),h.dZ.trans ⟨rfl,rfl,rfl,by simp,fun k hk=>hheap k (h.old hk)⟩,h.c6,fun b o hd'=>by have:=h.dg b o hd';simp;omega,fun m =>?_,?_,fun m e hm =>?_,h.ff,h.cL,h.fk,h.lu hl⟩
 ·simp only[af.aK]
  by_cases hm:m=n
  ·subst hm
   simp only[if_true,c9]
   refine ⟨some (w.heap.size,cap),by simp,fun e he =>?_,?_⟩
   ·rcases List.mem_append.1 he with he | he
    ·exact hb2 e he
    ·exact hysz e he
   ·refine ⟨cs,pre++news,rest,.inl h.dZ.size,heap_alloc_new w.drew _,hcs,?_,hsize,by simpa using hlen,hcap,fun o ho=>absurd (h.dg _ o ho) (Nat.lt_irrefl _)⟩
    exact aG.bL hl _ _ (kE _ _ _ _ hes hys)
  ·simp only[if_neg hm]
   exact (h.bS m).bL hl (by simp only[if_neg hm]) fun e b he hb=>⟨hheap b (h.fY he hb),fun _ ho=>ho⟩
 ·intro m m' e e' b h1 h2 h3 h4
  by_cases hm:m=n <;>by_cases hm':m'=n
  ·rw[hm,hm']
  ·simp only[if_pos hm,Option.some.injEq] at h1
   simp only[if_neg hm'] at h2
   subst h1
   simp only[bU.aE,Option.some.injEq] at h3
   have:=h.fY h2 h4
   omega
  ·simp only[if_neg hm] at h1
   simp only[if_pos hm',Option.some.injEq] at h2
   subst h2
   simp only[bU.aE,Option.some.injEq] at h4
   have:=h.fY h1 h3
   omega
  ·simp only[if_neg hm] at h1
   simp only[if_neg hm'] at h2
   exact h.cU m m' e e' b h1 h2 h3 h4
 ·by_cases hmn:m=n
  ·subst hmn
   rcases h.eb _ _ hm with k | ⟨e',k,hle⟩
   ·rw[aw] at k;cases k
   ·rw[aw] at k;cases k
    exact .inr ⟨_,if_pos rfl,hle.trans (.inr ⟨_,_,_,_,rfl,rfl,by omega,fun e=>by omega⟩)⟩
  ·simp only[if_neg hmn]
   exact h.eb _ _ hm
theorem aT.aj5(h:aT c A a w D E){n:Nat}{T:TypeId}{sz b cap:Nat}{es ys:List I}{pre news rest:List Value}{cs:Array Value}(hn:A.o n=some (.bT T sz es))(aw:E n=some (.rw (some (b,cap)) es.length))(hb:w.heap[b]?=some (.cells cs T (0,0)))
  (hcs:cs.toList=pre++rest) (hes:aG w D E es pre) (hys:aG w D E ys news) (hysz:∀ e∈ys,e.size=sz) (hne:ys≠[]) (hsize:cs.size=cap*sz) (hlen:es.length+ys.length≤cap) (hcap:cap≤maxLen) (hD:∀ o,D b o→o<pre.length) (hbase:c.fm b) :
  aT c (A.aK n (.bT T sz (es++ys))) a (w.setRow b (pre++news++rest.drop news.length).toArray) D (fun m=>if m=n then some (.rw (some (b,cap)) (es.length+ys.length)) else E m):=by
 have hlast:0<ys.length:=List.length_pos_iff.2 hne
 have hown:=h.bS n
 rw[hn] at hown
 obtain ⟨blk1,hb1,hb2,_⟩:=hown
 have hnl:news.length=ys.length*sz:=by rw[aG.length _ _ hys,I.iB _ hysz]
 have hpl:pre.length=es.length*sz:=by rw[aG.length _ _ hes,I.iB _ hb2]
 have hl:dS w D E (w.setRow b (pre++news++rest.drop news.length).toArray) D (fun m=>if m=n then some (.rw (some (b,cap)) (es.length+ys.length)) else E m):=by
  have eB:∀ {m:Nat} {e:bU},E m=some e→e.eS=true→(if m=n then some (.rw (some (b,cap)) (es.length+ys.length)) else E m)=some e:=fun {m e} he hfx=>by
   have:m≠n:=fun e=>by rw[e,aw] at he;cases he;cases hfx
   rw[if_neg this];exact he
  refine ⟨fun _ _ h=>h,fun b1 o v hd hv =>?_,fun m b aP he=>eB he rfl,fun m blk' l he =>?_,fun m b he=>eB he rfl,fun m b he=>eB he rfl,fun b1 es ck _ hm=>(setRow_other w b b1 _ (fun e=>by rw[e,hb] at hm;cases hm)).trans hm⟩
  ·by_cases hbb:b1=b
   ·subst hbb
    have ho:=hD o hd
    have h1:=setRow_heap w b1 cs (pre++news++rest.drop news.length).toArray T _ hb
    rw[cell_of_row _ b1 o _ T (0,0) h1]
    rw[cell_of_row _ b1 o _ T (0,0) hb] at hv
    have e1:cs[o]?=pre[o]?:=by rw[←Array.getElem?_toList,hcs,List.getElem?_append_left ho]
    rw[←hv,e1]
    simp only[List.getElem?_toArray,List.append_assoc]
    rw[List.getElem?_append_left ho]
   ·rw[vK _ _ _ _ hbb];exact hv
  ·by_cases hm:m=n
   ·subst hm
    rw[aw] at he
    simp only[Option.some.injEq,bU.rw.injEq] at he
    exact ⟨_,_,if_pos rfl,by omega,fun e=>by omega⟩
   ·exact ⟨blk',l,by simp only[if_neg hm];exact he,Nat.le_refl _,fun _=>rfl⟩
 refine ⟨h.sz,h.eV.mono fun B _ hB=>(setRow_other w b B _ (fun e=>by rw[e,hb] at hB;cases hB)).trans hB,fun t=>aW.bL hl (h.ew t),x5 h.dZ hbase _,h.c6,fun b1 o hd=>by have:=h.dg b1 o hd;simpa[World.setRow] using this,fun m =>?_,?_,fun m e hm =>?_,h.ff,h.cL,h.fk,h.lu hl⟩
 ·simp only[af.aK]
  by_cases hm:m=n
  ·subst hm
   simp only[if_true,c9]
   refine ⟨some (b,cap),by simp,fun e he =>?_,?_⟩
   ·rcases List.mem_append.1 he with he | he
    ·exact hb2 e he
    ·exact hysz e he
   ·refine ⟨_,pre++news,rest.drop news.length,hbase,setRow_heap w b cs _ T _ hb,by simp,aG.bL hl _ _ (kE _ _ _ _ hes hys),?_,by simpa using hlen,hcap,fun o ho =>?_⟩
    ·have e1:cs.size=pre.length+rest.length:=by rw[←Array.length_toList,hcs,List.length_append]
     have e2:news.length+pre.length≤cs.size:=by
      rw[hsize,hnl,hpl,←Nat.add_mul];exact Nat.mul_le_mul_right _ (by omega)
     simp only[List.size_toArray,List.length_append,List.length_drop]
     omega
    ·have:=hD o ho
     rw[List.length_append];omega
  ·simp only[if_neg hm]
   refine (h.bS m).bL hl (by simp only[if_neg hm]) fun e b1 he hb'=>⟨setRow_other w b b1 _ (fun e1=>hm (h.cU m n e _ b he aw (by rw[hb',e1]) rfl)),fun _ ho=>ho⟩
 ·intro m m' e e' b' h1 h2 h3 h4
  by_cases hm:m=n <;>by_cases hm':m'=n
  ·rw[hm,hm']
  ·simp only[if_pos hm,Option.some.injEq] at h1
   simp only[if_neg hm'] at h2
   subst h1
   exact absurd (h.cU m' n e' _ b' h2 aw h4 h3) hm'
  ·simp only[if_neg hm] at h1
   simp only[if_pos hm',Option.some.injEq] at h2
   subst h2
   exact absurd (h.cU m n e _ b' h1 aw h3 h4) hm
  ·simp only[if_neg hm] at h1
   simp only[if_neg hm'] at h2
   exact h.cU m m' e e' b' h1 h2 h3 h4
 ·by_cases hmn:m=n
  ·subst hmn
   rcases h.eb _ _ hm with k | ⟨e',k,hle⟩
   ·rw[aw] at k;cases k
   ·rw[aw] at k;cases k
    exact .inr ⟨_,if_pos rfl,hle.trans (.inr ⟨_,_,_,_,rfl,rfl,by omega,fun e=>by omega⟩)⟩
  ·simp only[if_neg hmn]
   exact h.eb _ _ hm
theorem Pj(n:Nat):(Builtin.zeroCells #[Value.int .i64 0] n).toList=(List.replicate n (0:Int)).map (Value.int .i64):=by
 simp only[Builtin.zeroCells,List.size_toArray,List.length_singleton,Nat.mul_one,Nat.mod_one,List.map_replicate]
 apply List.ext_getElem?
 intro k
 simp[List.getElem?_replicate]
 by_cases h:k<n
 ·rw[if_pos h,List.getElem?_range h];rfl
 ·rw[if_neg h,List.getElem?_eq_none (by simpa using h)];rfl
theorem NZ{w:World}{D:aN}{E:aZ} : ∀ {xs:List Int} {cs:List Value},aG w D E (xs.map (I.int .i64)) cs→cs=xs.map (Value.int .i64)∧∀ x∈xs,IntKind.i64.min≤x∧x≤IntKind.i64.max
 | [],cs,h=>by
  simp only[List.map_nil,aG] at h
  subst h;exact ⟨rfl,by simp⟩
 |x::xs,cs,h=>by
  simp only[List.map_cons,aG] at h
  obtain ⟨c1,c2,rfl,h1,h2⟩:=h
  obtain ⟨rfl,h3⟩:=NZ h2
  have h1':c1=[.int .i64 x]∧IntKind.i64.min≤x∧x≤IntKind.i64.max:=h1
  obtain ⟨rfl,h4⟩:=h1'
  refine ⟨rfl,fun y hy =>?_⟩
  rcases List.mem_cons.1 hy with rfl | hy
  ·exact h4
  ·exact h3 y hy
theorem aT.D8(h:aT c A a w D E){n:Nat}{T:TypeId}{cap m':Nat}{es ys:List Int}{cs:Array Value}{aE:Option (Nat×Nat)}(hn:A.o n=some (.cV T es))(aw:E n=some (.rw aE es.length))(hr:∀ x∈es++ys,IntKind.i64.min≤x∧x≤IntKind.i64.max)
  (hne:ys≠[]) (hcs:cs.toList=(es++ys++List.replicate m' 0).map (Value.int .i64)) (hlen:es.length+ys.length+m'=cap) (hcap:cap≤maxLen) :
  aT c (A.aK n (.cV T (es++ys))) a (w.drew.alloc (.cells cs T)) D (fun m=>if m=n then some (.rw (some (w.heap.size,cap)) (es.length+ys.length)) else E m):=by
 have hlast:0<ys.length:=List.length_pos_iff.2 hne
 have hheap:∀ b,b<w.heap.size→(w.drew.alloc (.cells cs T)).heap[b]?=w.heap[b]?:=fun b hb=>Below.heap_alloc w.drew _ b hb
 have hl:dS w D E (w.drew.alloc (.cells cs T)) D (fun m=>if m=n then some (.rw (some (w.heap.size,cap)) (es.length+ys.length)) else E m):=by
  have eB:∀ {m:Nat} {e:bU},E m=some e→e.eS=true→(if m=n then some (.rw (some (w.heap.size,cap)) (es.length+ys.length)) else E m)=some e:=fun {m e} he hfx=>by
   have:m≠n:=fun e=>by rw[e,aw] at he;cases he;cases hfx
   rw[if_neg this];exact he
  refine ⟨fun _ _ h=>h,fun b o v _ hv =>?_,fun m b aP he=>eB he rfl,fun m blk' l he =>?_,fun m b he=>eB he rfl,fun m b he=>eB he rfl,fun b es ck _ hm=>(hheap b (gb hm)).trans hm⟩
  ·rw[World.cell?_of_block (hheap b (World.block_lt_of_cell? w _ hv))];exact hv
  ·by_cases hm:m=n
   ·subst hm
    rw[aw] at he
    simp only[Option.some.injEq,bU.rw.injEq] at he
    exact ⟨_,_,if_pos rfl,by omega,fun e=>by omega⟩
   ·exact ⟨blk',l,by simp only[if_neg hm];exact he,Nat.le_refl _,fun _=>rfl⟩
 refine ⟨h.sz,h.eV.mono fun B _ hB=>(hheap B (Array.getElem?_eq_some_iff.1 hB).1).trans hB,fun t=>aW.bL hl (h.ew t),h.dZ.trans ⟨rfl,rfl,rfl,by simp,fun k hk=>hheap k (h.old hk)⟩,h.c6,fun b o hd'=>by have:=h.dg b o hd';simp;omega,fun m =>?_,?_,fun m e hm =>?_,h.ff,h.cL,h.fk,h.lu hl⟩
 ·simp only[af.aK]
  by_cases hm:m=n
  ·subst hm
   simp only[if_true,c9]
   exact ⟨some (w.heap.size,cap),by simp,hr,cs,m',.inl h.dZ.size,heap_alloc_new w.drew _,hcs,by simp[hne],by simp only[List.length_append];exact hlen,hcap,fun o ho=>absurd (h.dg _ o ho) (Nat.lt_irrefl _)⟩
  ·simp only[if_neg hm]
   exact (h.bS m).bL hl (by simp only[if_neg hm]) fun e b he hb=>⟨hheap b (h.fY he hb),fun _ ho=>ho⟩
 ·intro m m' e e' b h1 h2 h3 h4
  by_cases hm:m=n <;>by_cases hm':m'=n
  ·rw[hm,hm']
  ·simp only[if_pos hm,Option.some.injEq] at h1
   simp only[if_neg hm'] at h2
   subst h1
   simp only[bU.aE,Option.some.injEq] at h3
   have:=h.fY h2 h4
   omega
  ·simp only[if_neg hm] at h1
   simp only[if_pos hm',Option.some.injEq] at h2
   subst h2
   simp only[bU.aE,Option.some.injEq] at h4
   have:=h.fY h1 h3
   omega
  ·simp only[if_neg hm] at h1
   simp only[if_neg hm'] at h2
   exact h.cU m m' e e' b h1 h2 h3 h4
 ·by_cases hmn:m=n
  ·subst hmn
   rcases h.eb _ _ hm with k | ⟨e',k,hle⟩
   ·rw[aw] at k;cases k
   ·rw[aw] at k;cases k
    exact .inr ⟨_,if_pos rfl,hle.trans (.inr ⟨_,_,_,_,rfl,rfl,by omega,fun e=>by omega⟩)⟩
  ·simp only[if_neg hmn]
   exact h.eb _ _ hm
theorem aT.aj6(h:aT c A a w D E){n:Nat}{T:TypeId}{b cap m':Nat}{es ys:List Int}{cs:Array Value}(hn:A.o n=some (.cV T es))(aw:E n=some (.rw (some (b,cap)) es.length))(hb:w.heap[b]?=some (.cells cs T (0,0)))
  (hr:∀ x∈es++ys,IntKind.i64.min≤x∧x≤IntKind.i64.max) (hne:ys≠[]) (hlen:es.length+ys.length+m'=cap) (hcap:cap≤maxLen) (hD:∀ o,¬ D b o) (hbase:c.fm b) :
  aT c (A.aK n (.cV T (es++ys))) a (w.setRow b ((es++ys++List.replicate m' 0).map (Value.int .i64)).toArray) D (fun m=>if m=n then some (.rw (some (b,cap)) (es.length+ys.length)) else E m):=by
 have hlast:0<ys.length:=List.length_pos_iff.2 hne
 have hl:dS w D E (w.setRow b ((es++ys++List.replicate m' 0).map (Value.int .i64)).toArray) D (fun m=>if m=n then some (.rw (some (b,cap)) (es.length+ys.length)) else E m):=by
  have eB:∀ {m:Nat} {e:bU},E m=some e→e.eS=true→(if m=n then some (.rw (some (b,cap)) (es.length+ys.length)) else E m)=some e:=fun {m e} he hfx=>by
   have:m≠n:=fun e=>by rw[e,aw] at he;cases he;cases hfx
   rw[if_neg this];exact he
  refine ⟨fun _ _ h=>h,fun b1 o v hd hv =>?_,fun m b aP he=>eB he rfl,fun m blk' l he =>?_,fun m b he=>eB he rfl,fun m b he=>eB he rfl,fun b1 es ck _ hm=>(setRow_other w b b1 _ (fun e=>by rw[e,hb] at hm;cases hm)).trans hm⟩
  ·by_cases hbb:b1=b
   ·subst hbb
    exact absurd hd (hD o)
   ·rw[vK _ _ _ _ hbb];exact hv
  ·by_cases hm:m=n
   ·subst hm
    rw[aw] at he
    simp only[Option.some.injEq,bU.rw.injEq] at he
    exact ⟨_,_,if_pos rfl,by omega,fun e=>by omega⟩
   ·exact ⟨blk',l,by simp only[if_neg hm];exact he,Nat.le_refl _,fun _=>rfl⟩
 refine ⟨h.sz,h.eV.mono fun B _ hB=>(setRow_other w b B _ (fun e=>by rw[e,hb] at hB;cases hB)).trans hB,fun t=>aW.bL hl (h.ew t),x5 h.dZ hbase _,h.c6,fun b1 o hd=>by have:=h.dg b1 o hd;simpa[World.setRow] using this,fun m =>?_,?_,fun m e hm =>?_,h.ff,h.cL,h.fk,h.lu hl⟩
 ·simp only[af.aK]
  by_cases hm:m=n
  ·subst hm
   simp only[if_true,c9]
   exact ⟨some (b,cap),by simp,hr,_,m',hbase,setRow_heap w b cs _ T _ hb,by simp,by simp[hne],by simp only[List.length_append];exact hlen,hcap,hD⟩
  ·simp only[if_neg hm]
   refine (h.bS m).bL hl (by simp only[if_neg hm]) fun e b1 he hb'=>⟨setRow_other w b b1 _ (fun e1=>hm (h.cU m n e _ b he aw (by rw[hb',e1]) rfl)),fun _ ho=>ho⟩
 ·intro m m' e e' b' h1 h2 h3 h4
  by_cases hm:m=n <;>by_cases hm':m'=n
  ·rw[hm,hm']
  ·simp only[if_pos hm,Option.some.injEq] at h1
   simp only[if_neg hm'] at h2
   subst h1
   exact absurd (h.cU m' n e' _ b' h2 aw h4 h3) hm'
  ·simp only[if_neg hm] at h1
   simp only[if_pos hm',Option.some.injEq] at h2
   subst h2
   exact absurd (h.cU m n e _ b' h1 aw h3 h4) hm
  ·simp only[if_neg hm] at h1
   simp only[if_neg hm'] at h2
   exact h.cU m m' e e' b' h1 h2 h3 h4
 ·by_cases hmn:m=n
  ·subst hmn
   rcases h.eb _ _ hm with k | ⟨e',k,hle⟩
   ·rw[aw] at k;cases k
   ·rw[aw] at k;cases k
    exact .inr ⟨_,if_pos rfl,hle.trans (.inr ⟨_,_,_,_,rfl,rfl,by omega,fun e=>by omega⟩)⟩
  ·simp only[if_neg hmn]
   exact h.eb _ _ hm
end
section
variable {c:cQ} {A:af} {o:Oper}
theorem YN{t e:TypeId}{s x:Operand}{s' x':aH}{n k sz:Nat}{es ys:List I}{z:I}(ho:o.op=.call { callee:=.builtin .append,args := #[s,x],argTypes := #[t,t] })(ht:c.P.underlying t=some (.slice e))(hs':bJ c.P t s=some s')(hx':bJ c.P t x=some x')
  (hz:gj c.P e=some z) (hzs:z.size=c.P.cellsOf e) (hpos:0<c.P.cellsOf e) (hs:ae A s'=.own n k) (hn:A.o n=some (.bT e (c.P.cellsOf e) es)) (hk:k=es.length) (hx:ae A x'=.slice sz ys) (hsz:sz=c.P.cellsOf e) (hne:ys≠[])
  (h63:es.length+ys.length≤maxLen) (hby:(es.length+ys.length)*c.P.bytesOf e≤140737488355328) (hd:∀ k,o.dst=some k→k<c.n) :
  iU c A o ((A.aK n (.bT e (c.P.cellsOf e) (es++ys))).aJ o.dst (.own n (es.length+ys.length))):=by
 intro a w D E hsim
 obtain ⟨i,zv,hi,hzv,hzr⟩:=mn hz
 have hci:c.P.cellsOf e=i.size:=by simp[Program.cellsOf,hi]
 have hbi:c.P.bytesOf e=i.bytes:=by simp[Program.bytesOf,hi]
 have hzc:zv.cells.size=i.size:=by
  have:=ah.length _ _ (hzr w D E)
  rw[Array.length_toList] at this
  rw[this,hzs,hci]
 subst hk
 have v1:=cg hsim hs'
 rw[hs] at v1
 have v2:=cg hsim hx'
 rw[hx] at v2
 obtain ⟨ad,cp,hxv,hc1,hc2,hc3,hc4⟩:=mZ v2
 obtain ⟨b2,off2,news,rfl,hr2,hys⟩:=hc3.resolve_left hne
 have hobj:=hsim.bS n
 rw[hn] at hobj
 obtain ⟨aE,aw,hesz,hblk⟩:=hobj
 have hnl:news.length=ys.length*i.size:=by rw[aG.length _ _ hys,I.iB _ hc4,hsz,hci]
 have hysz:∀ y∈ys,y.size=c.P.cellsOf e:=fun y hy=>by rw[hc4 y hy,hsz]
 have hnews:∀ j v,news[j]?=some v→w.cell? ((⟨b2,off2,none⟩:Addr).add j)=some v:=fun j v hj=>by
  rw[Addr.add_lit];exact (hr2 j v hj).1
 have h1:=aG.mR _ _ hys
 have hsv:match aE with | none=>a.eval s=.slice none 0 0 | some (b,cap)=>a.eval s=.slice (some ⟨b,0,none⟩) es.length cap:=by
  obtain ⟨cs,q1,q2⟩:=v1
  simp only[ah] at q2
  obtain ⟨blk',l,q3,q4,q5,q6⟩:=q2
  rw[aw] at q3
  simp only[Option.some.injEq,bU.rw.injEq] at q3
  obtain ⟨rfl,rfl⟩:=q3
  have q7:=q6 rfl
  simp only[bK,I.isAgg] at q1
  cases aE with
  |none=>simp only at q7 ⊢;rw[q7] at q1;simpa using q1.symm
  |some bc=>simp only at q7 ⊢;rw[q7] at q1;simpa using q1.symm
 have hl0:0<ys.length:=List.length_pos_iff.2 hne
 have h63':=h63
 simp only[maxLen] at h63'
 have run:∀ v' w',(Builtin.append_ #[t,t] o.type #[a.eval s,.slice (some ⟨b2,off2,none⟩) ys.length cp]).run c.P w=.ok v' w'→(execOp a.eval o).run c.P w=.ok (.value v') w':=by
  intro v' w' hr
  unfold execOp
  simp only[ho,resolve,invoke,builtin,Sem.run_bind,Sem.run_pure,Result.andThen_ok,List.map_toArray,List.map_cons,List.map_nil,hxv,hr]
 have put:∀ (w':World) (b cap:Nat) (v':Value),v'=.slice (some ⟨b,0,none⟩) (es.length+ys.length) cap→aT c (A.aK n (.bT e (c.P.cellsOf e) (es++ys))) a w' D (fun m=>if m=n then some (.rw (some (b,cap)) (es.length+ys.length)) else E m) →
   cw c ((A.aK n (.bT e (c.P.cellsOf e) (es++ys))).aJ o.dst (.own n (es.length+ys.length))) (a.put o.dst v') w':=by
  rintro w' b cap v' rfl hs2
  refine ⟨D,_,hs2.aJ hd ⟨_,by simp[bK,I.isAgg];rfl,?_⟩⟩
  simp only[ah,if_true]
  exact ⟨some (b,cap),es.length+ys.length,rfl,Nat.le_refl _,⟨_,_,_,rfl⟩,fun _=>rfl⟩
 cases aE with
 |none =>
  simp only at hblk hsv
  subst hblk
  have hr:=run_append_nil (P:=c.P) w t o.type e i zv ht hi hzv ⟨b2,off2,none⟩ ys.length cp news hnl hnews hl0 (by simp at h63';omega) (by rw[hbi] at hby;simp at hby;omega)
  rw[←hsv] at hr
  have hge:=grownCap_ge w ys.length 0 e
  refine ⟨_,.inl ⟨_,run _ _ hr,put _ w.heap.size (grownCap w ys.length 0 e) _ (by simp) ?_⟩⟩
  refine hsim.D7 (pre:=[]) (news:=news) (rest:=(Builtin.zeroCells zv.cells (grownCap w ys.length 0 e-ys.length)).toList) hn aw (by simp[aG]) hys hysz hne (by simp) ?_ (by simpa using hge) (grownCap_le_maxLen w ys.length 0 e (by simpa using h63))
  simp only[Array.size_append,List.size_toArray,size_zeroCells,hzc,hnl,hci,←Nat.add_mul]
  congr 1
  omega
 |some bc =>
  obtain ⟨b,cap⟩:=bc
  simp only at hblk hsv
  obtain ⟨cs,pre,rest,k1,k2,k3,k4,k5,k6,k7,k8⟩:=hblk
  have hpl:pre.length=es.length*i.size:=by rw[aG.length _ _ k4,I.iB _ hesz,hci]
  by_cases hroom:es.length+ys.length≤cap
  ·have hfit:es.length*i.size+news.length≤cs.size:=by rw[hnl,k5,hci,←Nat.add_mul];exact Nat.mul_le_mul_right _ hroom
   have hr:=run_append_room (P:=c.P) w t o.type e i ht hi b es.length cap cs k2 ⟨b2,off2,none⟩ ys.length cp news hnl hnews h1 hroom hfit
   rw[←hsv] at hr
   refine ⟨_,.inl ⟨_,run _ _ hr,put _ b cap _ rfl ?_⟩⟩
   have e1:cs.toList.take (es.length*i.size)=pre:=by rw[k3,←hpl];exact List.take_left
   have e2:cs.toList.drop (es.length*i.size+news.length)=rest.drop news.length:=by rw[k3,←hpl,←List.drop_drop,List.drop_left]
   rw[e1,e2]
   exact hsim.aj5 hn aw k2 k3 k4 hys hysz hne k5 hroom k7 k8 k1
  ·have holds:∀ j v,pre[j]?=some v→w.cell? ((⟨b,0,none⟩:Addr).add j)=some v:=fun j v hj=>by
    rw[Addr.add_lit,Nat.zero_add,cell_of_row w b j cs e (0,0) k2,←Array.getElem?_toList,k3]
    have:j<pre.length:=(List.getElem?_eq_some_iff.1 hj).1
    rw[List.getElem?_append_left this]
    exact hj
   have hr:=run_append_grow (P:=c.P) w t o.type e i zv ht hi hzv ⟨b,0,none⟩ es.length cap pre hpl holds ⟨b2,off2,none⟩ ys.length cp news hnl hnews (by omega) (by omega) (growslice_fits (by omega) (by rw[←hbi];exact hby))
   rw[←hsv] at hr
   have hge:=grownCap_ge w (es.length+ys.length) cap e
   refine ⟨_,.inl ⟨_,run _ _ hr,put _ w.heap.size (grownCap w (es.length+ys.length) cap e) _ rfl ?_⟩⟩
   refine hsim.D7 (pre:=pre) (news:=news) (rest:=(Builtin.zeroCells zv.cells (grownCap w (es.length+ys.length) cap e-(es.length+ys.length))).toList) hn aw k4 hys hysz hne (by simp) ?_ hge (grownCap_le_maxLen w _ cap e h63)
   simp only[Array.size_append,List.size_toArray,size_zeroCells,hzc,hnl,hpl,hci,←Nat.add_mul]
   congr 1
   omega
theorem YO{t e:TypeId}{s x:Operand}{s' x':aH}{n k sz:Nat}{es ys:List Int}(ho:o.op=.call { callee:=.builtin .append,args := #[s,x],argTypes := #[t,t] })(ht:c.P.underlying t=some (.slice e))(hs':bJ c.P t s=some s')(hx':bJ c.P t x=some x')
  (hz:gj c.P e=some (.int .i64 0)) (h1c:c.P.cellsOf e=1) (hs:ae A s'=.own n k) (hn:A.o n=some (.cV e es)) (hk:k=es.length) (hx:ae A x'=.slice sz (ys.map (.int .i64))) (hne:ys≠[])
  (h63:es.length+ys.length≤maxLen) (hby:(es.length+ys.length)*c.P.bytesOf e≤140737488355328) (hd:∀ k,o.dst=some k→k<c.n) :
  iU c A o ((A.aK n (.cV e (es++ys))).aJ o.dst (.own n (es.length+ys.length))):=by
 intro a w D E hsim
 obtain ⟨i,zv,hi,hzv,hzr⟩:=mn hz
 have hci:c.P.cellsOf e=i.size:=by simp[Program.cellsOf,hi]
 have hi1:i.size=1:=hci.symm.trans h1c
 have hbi:c.P.bytesOf e=i.bytes:=by simp[Program.bytesOf,hi]
 have hzv2:zv.cells = #[Value.int .i64 0]:=by
  have:zv.cells.toList=[Value.int .i64 0]:=(hzr w D E).1
  exact Array.toList_inj.1 this
 subst hk
 have v1:=cg hsim hs'
 rw[hs] at v1
 have v2:=cg hsim hx'
 rw[hx] at v2
 obtain ⟨ad,cp,hxv,hc1,hc2,hc3,hc4⟩:=mZ v2
 obtain ⟨b2,off2,news,rfl,hr2,hys⟩:=hc3.resolve_left (by simpa using hne)
 rw[List.length_map] at hxv
 obtain ⟨aE,aw,hesr,hblk⟩:=hsim.r7 hn
 obtain ⟨hnw,hyr⟩:=NZ hys
 have hnl0:news.length=ys.length:=by rw[hnw,List.length_map]
 have hnl:news.length=ys.length*i.size:=by rw[hi1,Nat.mul_one,hnl0]
 have hrr:∀ x∈es++ys,IntKind.i64.min≤x∧x≤IntKind.i64.max:=fun x hx=>by
  rcases List.mem_append.1 hx with h | h
  ·exact hesr x h
  ·exact hyr x h
 have hnews:∀ j v,news[j]?=some v→w.cell? ((⟨b2,off2,none⟩:Addr).add j)=some v:=fun j v hj=>by
  rw[Addr.add_lit];exact (hr2 j v hj).1
 have h1:=aG.mR _ _ hys
 have hsv:match aE with | none=>a.eval s=.slice none 0 0 | some (b,cap)=>a.eval s=.slice (some ⟨b,0,none⟩) es.length cap:=by
  obtain ⟨cs,q1,q2⟩:=v1
  simp only[ah] at q2
  obtain ⟨blk',l,q3,q4,q5,q6⟩:=q2
  rw[aw] at q3
  simp only[Option.some.injEq,bU.rw.injEq] at q3
  obtain ⟨rfl,rfl⟩:=q3
  have q7:=q6 rfl
  simp only[bK,I.isAgg] at q1
  cases aE with
  |none=>simp only at q7 ⊢;rw[q7] at q1;simpa using q1.symm
  |some bc=>simp only at q7 ⊢;rw[q7] at q1;simpa using q1.symm
 have hl0:0<ys.length:=List.length_pos_iff.2 hne
 have h63':=h63
 simp only[maxLen] at h63'
 have run:∀ v' w',(Builtin.append_ #[t,t] o.type #[a.eval s,.slice (some ⟨b2,off2,none⟩) ys.length cp]).run c.P w=.ok v' w'→(execOp a.eval o).run c.P w=.ok (.value v') w':=by
  intro v' w' hr
  unfold execOp
  simp only[ho,resolve,invoke,builtin,Sem.run_bind,Sem.run_pure,Result.andThen_ok,List.map_toArray,List.map_cons,List.map_nil,hxv,hr]
 have put:∀ (w':World) (b cap:Nat) (v':Value),v'=.slice (some ⟨b,0,none⟩) (es.length+ys.length) cap→aT c (A.aK n (.cV e (es++ys))) a w' D (fun m=>if m=n then some (.rw (some (b,cap)) (es.length+ys.length)) else E m) →
   cw c ((A.aK n (.cV e (es++ys))).aJ o.dst (.own n (es.length+ys.length))) (a.put o.dst v') w':=by
  rintro w' b cap v' rfl hs2
  refine ⟨D,_,hs2.aJ hd ⟨_,by simp[bK,I.isAgg];rfl,?_⟩⟩
  simp only[ah,if_true]
  exact ⟨some (b,cap),es.length+ys.length,rfl,Nat.le_refl _,⟨_,_,_,rfl⟩,fun _=>rfl⟩
 cases aE with
 |none =>
  simp only at hblk hsv
  subst hblk
  have hr:=run_append_nil (P:=c.P) w t o.type e i zv ht hi hzv ⟨b2,off2,none⟩ ys.length cp news hnl hnews hl0 (by simp at h63';omega) (by rw[hbi] at hby;simp at hby;omega)
  rw[←hsv] at hr
  have hge:=grownCap_ge w ys.length 0 e
  refine ⟨_,.inl ⟨_,run _ _ hr,put _ w.heap.size (grownCap w ys.length 0 e) _ (by simp) ?_⟩⟩
  refine hsim.D8 (m':=grownCap w ys.length 0 e-ys.length) hn aw hrr hne ?_ (by simp;omega) (grownCap_le_maxLen w ys.length 0 e (by simpa using h63))
  rw[hzv2]
  simp only[Array.toList_append,Pj,List.nil_append,List.map_append,hnw]
 |some bc =>
  obtain ⟨b,cap⟩:=bc
  simp only at hblk hsv
  obtain ⟨cs,m,k1,k2,k3,k4,k5,k6,k7⟩:=hblk
  have hcz:cs.size=cap:=by rw[←Array.length_toList,k3];simp;omega
  by_cases hroom:es.length+ys.length≤cap
  ·have hfit:es.length*i.size+news.length≤cs.size:=by rw[hnl,hi1];omega
   have hr:=run_append_room (P:=c.P) w t o.type e i ht hi b es.length cap cs k2 ⟨b2,off2,none⟩ ys.length cp news hnl hnews h1 hroom hfit
   rw[←hsv] at hr
   refine ⟨_,.inl ⟨_,run _ _ hr,put _ b cap _ rfl ?_⟩⟩
   have e0:cs.toList.take (es.length*i.size)++news++cs.toList.drop (es.length*i.size+news.length)=(es++ys++List.replicate (m-ys.length) 0).map (Value.int .i64):=by
    rw[hi1,Nat.mul_one,hnl0,k3,hnw,←List.map_take,←List.map_drop,List.take_left,←List.drop_drop,List.drop_left]
    simp only[List.map_append,List.drop_replicate]
   rw[e0]
   exact hsim.aj6 (m':=m-ys.length) hn aw k2 hrr hne (by omega) k6 k7 k1
  ·have hpl:(es.map (Value.int .i64)).length=es.length*i.size:=by rw[hi1];simp
   have holds:∀ j v,(es.map (Value.int .i64))[j]?=some v→w.cell? ((⟨b,0,none⟩:Addr).add j)=some v:=fun j v hj=>by
    rw[Addr.add_lit,Nat.zero_add,cell_of_row w b j cs e (0,0) k2,←Array.getElem?_toList,k3]
    have:j<(es.map (Value.int .i64)).length:=(List.getElem?_eq_some_iff.1 hj).1
    rw[List.map_append,List.getElem?_append_left this]
    exact hj
   have hr:=run_append_grow (P:=c.P) w t o.type e i zv ht hi hzv ⟨b,0,none⟩ es.length cap (es.map (Value.int .i64)) hpl holds ⟨b2,off2,none⟩ ys.length cp news hnl hnews (by omega) (by omega) (growslice_fits (by omega) (by rw[←hbi];exact hby))
   rw[←hsv] at hr
   have hge:=grownCap_ge w (es.length+ys.length) cap e
   refine ⟨_,.inl ⟨_,run _ _ hr,put _ w.heap.size (grownCap w (es.length+ys.length) cap e) _ rfl ?_⟩⟩
   refine hsim.D8 (m':=grownCap w (es.length+ys.length) cap e-(es.length+ys.length)) hn aw hrr hne ?_ (by omega) (grownCap_le_maxLen w _ cap e h63)
   rw[hzv2]
   simp only[Array.toList_append,Pj,List.map_append,hnw]
end
mutual
def I.only(p:Nat→Bool):I→Bool
 | .agg fs | .tuple fs=>I.bR p fs
 | .slice _ es=>I.bR p es
 | .ref x=>x.only p
 | .func _ caps=>I.bR p caps
 | .iface _ v=>v.only p
 | .ptr n _ | .own n _ | .view n _ _ _ _ | .mref n | .dv n=>p n
 | .cT ks vs=>I.bR p ks&&I.bR p vs
 |_=>true
def I.bR(p:Nat→Bool):List I→Bool
 | []=>true
 |x::xs=>x.only p&&I.bR p xs
end
mutual
theorem mS(p:Nat→Bool):∀ x:I,x.bB=true→x.only p=true
 | .agg fs,h=>by simp only[I.bB,I.only] at *;exact kA p fs h
 | .slice _ es,h=>by simp only[I.bB,I.only] at *;exact kA p es h
 | .ref x,h=>by simp only[I.bB,I.only] at *;exact mS p x h
 | .func _ caps,h=>by simp only[I.bB,I.only] at *;exact kA p caps h
 | .iface _ v,h=>by simp only[I.bB,I.only] at *;exact mS p v h
 | .bool _,_ | .int _ _,_ | .cY _,_ | .nilp,_ | .dh,_ | .dX,_ | .raw _,_ | .nils _,_ | .c0 _,_=>by simp[I.only]
 | .cT ks vs,h=>by simp only[I.bB,I.only,Bool.and_eq_true] at *;exact ⟨kA p ks h.1,kA p vs h.2⟩
 | .ptr _ _,h | .own _ _,h | .view _ _ _ _ _,h | .mref _,h | .dv _,h | .undef,h | .df,h | .tuple _,h=>by simp[I.bB] at h
theorem kA(p:Nat→Bool):∀ xs:List I,I.bX xs=true→I.bR p xs=true
 | [],_=>rfl
 |x::xs,h=>by
  simp only[I.bX,I.bR,Bool.and_eq_true] at *
  exact ⟨mS p x h.1,kA p xs h.2⟩
end
mutual
theorem ah.dy{w:World}{D:aN}{E E':aZ}{p:Nat→Bool}(aw:∀ n,p n=true→E' n=E n):∀ (x:I) (cs:List Value),x.only p=true→ah w D E x cs→ah w D E' x cs
 | .agg fs,cs,ho,hr=>by simp only[ah,I.only] at *;exact aG.dy aw fs cs ho hr
 | .bool b,cs,_,hr=>by simpa only[ah] using hr
 | .int k n,cs,_,hr=>by simpa only[ah] using hr
 | .cY s,cs,_,hr=>by simpa only[ah] using hr
 | .nilp,cs,_,hr=>by simpa only[ah] using hr
 | .dh,cs,_,hr=>by simpa only[ah] using hr
 | .dX,cs,_,hr=>by simpa only[ah] using hr
 | .raw _,cs,_,hr=>by simpa only[ah] using hr
 | .nils _,cs,_,hr=>by simpa only[ah] using hr
 | .c0 _,cs,_,hr=>by simpa only[ah] using hr
 | .slice sz es,cs,ho,hr=>by
  simp only[ah,I.only] at *
  obtain ⟨a,cap,h1,h2,h3,h4,h5⟩:=hr
  refine ⟨a,cap,h1,h2,h3,?_,h5⟩
  rcases h4 with h4 | ⟨b,off,cs',h6,h7,h8⟩
  ·exact .inl h4
  ·exact .inr ⟨b,off,cs',h6,h7,aG.dy aw es cs' ho h8⟩
 | .ref x,cs,ho,hr=>by
  simp only[ah,I.only] at *
  obtain ⟨b,off,cs',h1,h2,h3⟩:=hr
  exact ⟨b,off,cs',h1,h2,ah.dy aw x cs' ho h3⟩
 | .func f caps,cs,ho,hr=>by
  simp only[ah,I.only] at *
  obtain ⟨vs,h1,h2⟩:=hr
  exact ⟨vs,h1,aF.dy aw caps vs ho h2⟩
 | .iface t v,cs,ho,hr=>by
  simp only[ah,I.only] at *
  obtain ⟨u,cs',h1,h2,h3⟩:=hr
  exact ⟨u,cs',h1,h2,ah.dy aw v cs' ho h3⟩
 | .ptr n p,cs,ho,hr=>by
  simp only[ah,I.only] at *
  obtain ⟨b,aP,off,h1,h2⟩:=hr
  exact ⟨b,aP,off,(aw n ho).trans h1,h2⟩
 | .own n k,cs,ho,hr=>by
  simp only[ah,I.only] at *
  obtain ⟨aE,l,h1,h2⟩:=hr
  exact ⟨aE,l,(aw n ho).trans h1,h2⟩
 | .view n p _ _ _,cs,ho,hr=>by
  simp only[ah,I.only] at *
  obtain ⟨b,aP,off,l,h1,h2⟩:=hr
  exact ⟨b,aP,off,l,(aw n ho).trans h1,h2⟩
 | .mref n,cs,ho,hr=>by
  simp only[ah,I.only] at *
  obtain ⟨b,h1,h2⟩:=hr
  exact ⟨b,(aw n ho).trans h1,h2⟩
 | .dv n,cs,ho,hr=>by
  simp only[ah,I.only] at *
  obtain ⟨b,h1,h2⟩:=hr
  exact ⟨b,(aw n ho).trans h1,h2⟩
 | .cT ks vs,cs,ho,hr=>by
  simp only[ah,I.only,Bool.and_eq_true] at *
  obtain ⟨b,es,ck,h1,h2,h3,h4⟩:=hr
  exact ⟨b,es,ck,h1,h2,aF.dy aw ks _ ho.1 h3,aF.dy aw vs _ ho.2 h4⟩
 | .undef,_,_,hr=>by simp only[ah] at hr
 | .df,_,_,hr=>by simp only[ah] at hr
 | .tuple _,_,_,hr=>by simp only[ah] at hr
theorem aG.dy{w:World}{D:aN}{E E':aZ}{p:Nat→Bool}(aw:∀ n,p n=true→E' n=E n):∀ (xs:List I) (cs:List Value),I.bR p xs=true→aG w D E xs cs→aG w D E' xs cs
 | [],cs,_,hr=>by simpa only[aG] using hr
 |x::xs,cs,ho,hr=>by
  simp only[aG,I.bR,Bool.and_eq_true] at *
  obtain ⟨c1,c2,h1,h2,h3⟩:=hr
  exact ⟨c1,c2,h1,ah.dy aw x c1 ho.1 h2,aG.dy aw xs c2 ho.2 h3⟩
theorem aF.dy{w:World}{D:aN}{E E':aZ}{p:Nat→Bool}(aw:∀ n,p n=true→E' n=E n):∀ (xs:List I) (vs:List Value),I.bR p xs=true→aF w D E xs vs→aF w D E' xs vs
 | [],vs,_,hr=>by simpa only[aF] using hr
 |x::xs,vs,ho,hr=>by
  simp only[aF,I.bR,Bool.and_eq_true] at *
  obtain ⟨v,rest,cs,h1,h2,h3,h4⟩:=hr
  exact ⟨v,rest,cs,h1,h2,ah.dy aw x cs ho.1 h3,aF.dy aw xs rest ho.2 h4⟩
end
theorem aW.dy{w:World}{D:aN}{E E':aZ}{p:Nat→Bool}(aw:∀ n,p n=true→E' n=E n){x:I}{v:Value}(ho:x.only p=true)(hr:aW w D E x v):aW w D E' x v:=by
 cases x <;>simp only[aW] at * <;>first
  |exact hr
  |(obtain ⟨vs,h1,h2⟩:=hr;exact ⟨vs,h1,aF.dy aw _ _ (by simpa[I.only] using ho) h2⟩)
  |(obtain ⟨cs,h1,h2⟩:=hr;exact ⟨cs,h1,ah.dy aw _ _ ho h2⟩)
def ai.only(p:Nat→Bool):ai→Bool
 | .box x=>x.only p
 | .bT _ _ es=>I.bR p es
 | .dO _=>true
 | .cV _ _=>true
 | .cz ks vs | .it ks vs _ _=>I.bR p ks&&I.bR p vs
def bD:List (Nat×Nat)→Nat→Nat
 | [],n=>n
 |(a,b)::r,n=>if n=a then b else bD r n
mutual
def I.aR(ρ:Nat→Nat):I→I
 | .agg fs=>.agg (I.cX ρ fs)
 | .tuple fs=>.tuple (I.cX ρ fs)
 | .slice sz es=>.slice sz (I.cX ρ es)
 | .ref x=>.ref (x.aR ρ)
 | .func f caps=>.func f (I.cX ρ caps)
 | .iface t v=>.iface t (v.aR ρ)
 | .ptr n p=>.ptr (ρ n) p
 | .own n k=>.own (ρ n) k
 | .view n p sz lo k=>.view (ρ n) p sz lo k
 | .mref n=>.mref (ρ n)
 | .dv n=>.dv (ρ n)
 | .cT ks vs=>.cT (I.cX ρ ks) (I.cX ρ vs)
 | .undef=>.undef | .df=>.df | .bool b=>.bool b | .int k n=>.int k n | .cY s=>.cY s
 | .nilp=>.nilp | .dh=>.dh | .dX=>.dX | .raw u=>.raw u | .nils z=>.nils z | .c0 z=>.c0 z
def I.cX(ρ:Nat→Nat):List I→List I
 | []=>[]
 |x::xs=>x.aR ρ::I.cX ρ xs
end
def ai.aR(ρ:Nat→Nat):ai→ai
 | .box x=>.box (x.aR ρ)
 | .bT T sz es=>.bT T sz (I.cX ρ es)
 | .dO x=>.dO x
 | .cV T xs=>.cV T xs
 | .cz ks vs=>.cz (I.cX ρ ks) (I.cX ρ vs)
 | .it ks vs left cur=>.it (I.cX ρ ks) (I.cX ρ vs) left cur
mutual
theorem rT(ρ:Nat→Nat):∀ x:I,(x.aR ρ).size=x.size
 | .agg fs=>by simp only[I.aR,I.size];exact N9 ρ fs
 | .undef | .df | .bool _ | .int _ _ | .cY _ | .nilp | .dh | .dX | .raw _ | .nils _ | .c0 _ | .slice _ _ | .tuple _ | .ref _ | .func _ _ | .iface _ _ | .ptr _ _ | .own _ _ | .view _ _ _ _ _ | .mref _ | .dv _ | .cT _ _=>by simp only[I.aR,I.size]
theorem N9(ρ:Nat→Nat):∀ xs:List I,I.sizes (I.cX ρ xs)=I.sizes xs
 | []=>rfl
 |x::xs=>by simp only[I.cX,I.sizes,rT ρ x,N9 ρ xs]
end
mutual
theorem zh(ρ:Nat→Nat):∀ x:I,(x.aR ρ).aP=x.aP
 | .agg fs=>by simp only[I.aR,I.aP,cO.ej.injEq];exact N8 ρ fs
 | .undef | .df | .bool _ | .int _ _ | .cY _ | .nilp | .dh | .dX | .raw _ | .nils _ | .c0 _ | .slice _ _ | .tuple _ | .ref _ | .func _ _ | .iface _ _ | .ptr _ _ | .own _ _ | .view _ _ _ _ _ | .mref _ | .dv _ | .cT _ _=>by simp only[I.aR,I.aP]
theorem N8(ρ:Nat→Nat):∀ xs:List I,I.cK (I.cX ρ xs)=I.cK xs
 | []=>rfl
 |x::xs=>by simp only[I.cX,I.cK,zh ρ x,N8 ρ xs]
end
theorem akR(ρ:Nat→Nat)(x:I):(x.aR ρ).isAgg=x.isAgg:=by cases x <;>simp[I.aR,I.isAgg]
theorem oT(ρ:Nat→Nat)(xs:List I):I.cX ρ xs=xs.map (I.aR ρ):=by
 induction xs with
 |nil=>rfl
 |cons x xs ih=>simp[I.cX,ih]
theorem rU(ρ:Nat→Nat)(xs:List I):(I.cX ρ xs).length=xs.length:=by rw[oT];simp
theorem N4(ρ:Nat→Nat)(x:I)(v:Value)(cs:List Value):bK (x.aR ρ) v cs=bK x v cs:=by simp only[bK,akR]
mutual
/-- A value,its names put for others that stand for the same. -/
theorem ah.aR{w:World}{D:aN}{E E':aZ}{p:Nat→Bool}{ρ:Nat→Nat}(aw:∀ n,p n=true→E' (ρ n)=E n):∀ (x:I) (cs:List Value),x.only p=true→(ah w D E' (x.aR ρ) cs↔ah w D E x cs)
 | .agg fs,cs,ho=>by simp only[ah,I.aR,I.only] at *;exact aG.aR aw fs cs ho
 | .bool b,cs,_ | .int k n,cs,_ | .cY s,cs,_ | .nilp,cs,_ | .dh,cs,_ | .dX,cs,_ | .raw _,cs,_ | .nils _,cs,_ | .c0 _,cs,_ | .undef,cs,_ | .df,cs,_ | .tuple _,cs,_=>by simp only[ah,I.aR]
 | .slice sz es,cs,ho=>by
  simp only[ah,I.aR,I.only,rU] at *
  have e1:(I.cX ρ es=[])↔es=[]:=by rw[←List.length_eq_zero_iff,rU,List.length_eq_zero_iff]
  have e2:(∀ e∈I.cX ρ es,e.size=sz)↔∀ e∈es,e.size=sz:=by
   rw[oT]
   constructor
   ·intro h e he
    rw[←rT ρ e];exact h _ (List.mem_map.2 ⟨e,he,rfl⟩)
   ·intro h e he
    obtain ⟨e',he',rfl⟩:=List.mem_map.1 he
    rw[rT];exact h _ he'
  simp only[e1,e2]
  constructor
  ·rintro ⟨a,cap,h1,h2,h3,h4,h5⟩
   refine ⟨a,cap,h1,h2,h3,?_,h5⟩
   rcases h4 with h4 | ⟨b,off,cs',h6,h7,h8⟩
   ·exact .inl h4
   ·exact .inr ⟨b,off,cs',h6,h7,(aG.aR aw es cs' ho).1 h8⟩
  ·rintro ⟨a,cap,h1,h2,h3,h4,h5⟩
   refine ⟨a,cap,h1,h2,h3,?_,h5⟩
   rcases h4 with h4 | ⟨b,off,cs',h6,h7,h8⟩
   ·exact .inl h4
   ·exact .inr ⟨b,off,cs',h6,h7,(aG.aR aw es cs' ho).2 h8⟩
 | .ref x,cs,ho=>by
  simp only[ah,I.aR,I.only] at *
  constructor
  ·rintro ⟨b,off,cs',h1,h2,h3⟩
   exact ⟨b,off,cs',h1,h2,(ah.aR aw x cs' ho).1 h3⟩
  ·rintro ⟨b,off,cs',h1,h2,h3⟩
   exact ⟨b,off,cs',h1,h2,(ah.aR aw x cs' ho).2 h3⟩
 | .func f caps,cs,ho=>by
  simp only[ah,I.aR,I.only] at *
  constructor
  ·rintro ⟨vs,h1,h2⟩
   exact ⟨vs,h1,(aF.aR aw caps vs ho).1 h2⟩
  ·rintro ⟨vs,h1,h2⟩
   exact ⟨vs,h1,(aF.aR aw caps vs ho).2 h2⟩
 | .iface t v,cs,ho=>by
  simp only[ah,I.aR,I.only,N4] at *
  constructor
  ·rintro ⟨u,cs',h1,h2,h3⟩
   exact ⟨u,cs',h1,h2,(ah.aR aw v cs' ho).1 h3⟩
  ·rintro ⟨u,cs',h1,h2,h3⟩
   exact ⟨u,cs',h1,h2,(ah.aR aw v cs' ho).2 h3⟩
 | .ptr n p,cs,ho=>by simp only[ah,I.aR,I.only] at *;rw[aw n ho]
 | .own n k,cs,ho=>by simp only[ah,I.aR,I.only] at *;rw[aw n ho]
 | .view n p _ _ _,cs,ho=>by simp only[ah,I.aR,I.only] at *;rw[aw n ho]
 | .mref n,cs,ho=>by simp only[ah,I.aR,I.only] at *;rw[aw n ho]
 | .dv n,cs,ho=>by simp only[ah,I.aR,I.only] at *;rw[aw n ho]
 | .cT ks vs,cs,ho=>by
  simp only[ah,I.aR,I.only,Bool.and_eq_true] at *
  constructor
  ·rintro ⟨b,es,ck,h1,h2,h3,h4⟩
   exact ⟨b,es,ck,h1,h2,(aF.aR aw ks _ ho.1).1 h3,(aF.aR aw vs _ ho.2).1 h4⟩
  ·rintro ⟨b,es,ck,h1,h2,h3,h4⟩
   exact ⟨b,es,ck,h1,h2,(aF.aR aw ks _ ho.1).2 h3,(aF.aR aw vs _ ho.2).2 h4⟩
theorem aG.aR{w:World}{D:aN}{E E':aZ}{p:Nat→Bool}{ρ:Nat→Nat}(aw:∀ n,p n=true→E' (ρ n)=E n):∀ (xs:List I) (cs:List Value),I.bR p xs=true→(aG w D E' (I.cX ρ xs) cs↔aG w D E xs cs)
 | [],cs,_=>by simp only[aG,I.cX]
 |x::xs,cs,ho=>by
  simp only[aG,I.cX,I.bR,Bool.and_eq_true] at *
  constructor
  ·rintro ⟨c1,c2,h1,h2,h3⟩
   exact ⟨c1,c2,h1,(ah.aR aw x c1 ho.1).1 h2,(aG.aR aw xs c2 ho.2).1 h3⟩
  ·rintro ⟨c1,c2,h1,h2,h3⟩
   exact ⟨c1,c2,h1,(ah.aR aw x c1 ho.1).2 h2,(aG.aR aw xs c2 ho.2).2 h3⟩
theorem aF.aR{w:World}{D:aN}{E E':aZ}{p:Nat→Bool}{ρ:Nat→Nat}(aw:∀ n,p n=true→E' (ρ n)=E n):∀ (xs:List I) (vs:List Value),I.bR p xs=true→(aF w D E' (I.cX ρ xs) vs↔aF w D E xs vs)
 | [],vs,_=>by simp only[aF,I.cX]
 |x::xs,vs,ho=>by
  simp only[aF,I.cX,I.bR,Bool.and_eq_true,N4] at *
  constructor
  ·rintro ⟨v,rest,cs,h1,h2,h3,h4⟩
   exact ⟨v,rest,cs,h1,h2,(ah.aR aw x cs ho.1).1 h3,(aF.aR aw xs rest ho.2).1 h4⟩
  ·rintro ⟨v,rest,cs,h1,h2,h3,h4⟩
   exact ⟨v,rest,cs,h1,h2,(ah.aR aw x cs ho.1).2 h3,(aF.aR aw xs rest ho.2).2 h4⟩
end
theorem aW.aR{w:World}{D:aN}{E E':aZ}{p:Nat→Bool}{ρ:Nat→Nat}(aw:∀ n,p n=true→E' (ρ n)=E n){x:I}{v:Value}(ho:x.only p=true):aW w D E' (x.aR ρ) v↔aW w D E x v:=by
 cases x <;>first
  |(simp only[aW,I.aR];done)
  |(simp only[aW,I.aR,I.only] at ho ⊢
    constructor
    ·rintro ⟨vs,h1,h2⟩;exact ⟨vs,h1,(aF.aR aw _ _ ho).1 h2⟩
    ·rintro ⟨vs,h1,h2⟩;exact ⟨vs,h1,(aF.aR aw _ _ ho).2 h2⟩)
  |(have key:=fun x cs=>ah.aR (w:=w) (D:=D) aw x cs
    refine exists_congr fun cs=>and_congr ?_ ?_
    ·first | exact Iff.rfl | simp only[bK,I.aR,I.isAgg]
    ·first | exact key _ cs ho | (have h:=key _ cs ho;simpa only[I.aR] using h))
mutual
/-- Values that read no memory: but they may name objects. -/
def I.cP:I→Bool
 | .agg fs | .tuple fs=>I.jd fs
 | .func _ caps=>I.jd caps
 | .iface _ v=>v.cP
 | .slice _ es=>es.isEmpty
 | .ref _ | .cT _ _=>false
 |_=>true
def I.jd:List I→Bool
 | []=>true
 |x::xs=>x.cP&&I.jd xs
end
def ai.cP:ai→Bool
 | .box x=>x.cP
 | .bT _ _ es=>I.jd es
 | .cV _ _=>true
 | .dO _=>true
 | .cz ks vs=>I.jd ks&&I.jd vs
 | .it .. =>false
mutual
theorem ah.cP{w w':World}{D D':aN}{E:aZ} : ∀ (x:I) (cs:List Value),x.cP=true→ah w D E x cs→ah w' D' E x cs
 | .agg fs,cs,hf,hr=>by simp only[ah,I.cP] at *;exact aG.cP fs cs hf hr
 | .bool b,cs,_,hr | .int k n,cs,_,hr | .cY s,cs,_,hr | .nilp,cs,_,hr | .dh,cs,_,hr | .dX,cs,_,hr | .raw _,cs,_,hr | .nils _,cs,_,hr | .c0 _,cs,_,hr
 | .ptr _ _,cs,_,hr | .own _ _,cs,_,hr | .view _ _ _ _ _,cs,_,hr | .mref _,cs,_,hr | .dv _,cs,_,hr=>by simpa only[ah] using hr
 | .func f caps,cs,hf,hr=>by
  simp only[ah,I.cP] at *
  obtain ⟨vs,h1,h2⟩:=hr
  exact ⟨vs,h1,aF.cP caps vs hf h2⟩
 | .iface t v,cs,hf,hr=>by
  simp only[ah,I.cP] at *
  obtain ⟨u,cs',h1,h2,h3⟩:=hr
  exact ⟨u,cs',h1,h2,ah.cP v cs' hf h3⟩
 | .slice sz es,cs,hf,hr=>by
  simp only[ah,I.cP,List.isEmpty_iff] at *
  subst hf
  obtain ⟨a,cap,h1,h2,h3,_,h5⟩:=hr
  exact ⟨a,cap,h1,h2,h3,.inl rfl,h5⟩
 | .ref _,_,hf,_ | .cT _ _,_,hf,_=>by simp[I.cP] at hf
 | .undef,_,_,hr | .df,_,_,hr | .tuple _,_,_,hr=>by simp only[ah] at hr
theorem aG.cP{w w':World}{D D':aN}{E:aZ} : ∀ (xs:List I) (cs:List Value),I.jd xs=true→aG w D E xs cs→aG w' D' E xs cs
 | [],cs,_,hr=>by simpa only[aG] using hr
 |x::xs,cs,hf,hr=>by
  simp only[aG,I.jd,Bool.and_eq_true] at *
  obtain ⟨c1,c2,h1,h2,h3⟩:=hr
  exact ⟨c1,c2,h1,ah.cP x c1 hf.1 h2,aG.cP xs c2 hf.2 h3⟩
theorem aF.cP{w w':World}{D D':aN}{E:aZ} : ∀ (xs:List I) (vs:List Value),I.jd xs=true→aF w D E xs vs→aF w' D' E xs vs
 | [],vs,_,hr=>by simpa only[aF] using hr
 |x::xs,vs,hf,hr=>by
  simp only[aF,I.jd,Bool.and_eq_true] at *
  obtain ⟨v,rest,cs,h1,h2,h3,h4⟩:=hr
  exact ⟨v,rest,cs,h1,h2,ah.cP x cs hf.1 h3,aF.cP xs rest hf.2 h4⟩
end
theorem aW.cP{w w':World}{D D':aN}{E:aZ}{x:I}{v:Value}(hf:x.cP=true)(hr:aW w D E x v):aW w' D' E x v:=by
 cases x <;>simp only[aW] at * <;>first
  |exact hr
  |(obtain ⟨vs,h1,h2⟩:=hr;exact ⟨vs,h1,aF.cP _ _ (by simpa[I.cP] using hf) h2⟩)
  |(obtain ⟨cs,h1,h2⟩:=hr;exact ⟨cs,h1,ah.cP _ _ hf h2⟩)
def dJ(ρ:List (Nat×Nat))(os:List (Nat×ai)):List (Nat×ai):=os.map fun q=>(bD ρ q.1,q.2.aR (bD ρ))
def pre(ρ:List (Nat×Nat))(os:List (Nat×ai))(n:Nat):Option Nat:=(os.find? fun q=>bD ρ q.1==n).map (·.1)
theorem xW{os:List (Nat×ai)}{m:Nat} : au os m=true↔∃ q∈os,q.1=m:=by
 induction os with
 |nil=>simp[au,al]
 |cons q os ih =>
  obtain ⟨k,v⟩:=q
  simp only[au,al] at *
  by_cases h:m=k
  ·subst h;simp
  ·simp only[if_neg h,ih,List.mem_cons,Prod.exists,exists_and_right,exists_eq_right]
   constructor
   ·rintro ⟨a,b⟩;exact ⟨a,.inr b⟩
   ·rintro ⟨a,b | b⟩
    ·cases b;exact absurd rfl h
    ·exact ⟨a,b⟩
theorem l9{ρ:List (Nat×Nat)}{os:List (Nat×ai)}{n m:Nat}(h:pre ρ os n=some m):au os m=true∧bD ρ m=n:=by
 simp only[pre,Option.map_eq_some_iff] at h
 obtain ⟨q,hq,rfl⟩:=h
 exact ⟨xW.2 ⟨q,List.mem_of_find?_eq_some hq,rfl⟩,by simpa using List.find?_some hq⟩
theorem yZ{ρ:List (Nat×Nat)}{os:List (Nat×ai)}{n m:Nat}(h:pre ρ os n=none)(hm:au os m=true):bD ρ m≠n:=by
 simp only[pre,Option.map_eq_none_iff,List.find?_eq_none] at h
 obtain ⟨q,hq,rfl⟩:=xW.1 hm
 simpa using h q hq
theorem rD(ρ:List (Nat×Nat))(os os0:List (Nat×ai))(n:Nat):al (dJ ρ os++os0) n=match pre ρ os n with
  |some m=>(al os m).map (ai.aR (bD ρ))
  |none=>al os0 n:=by
 induction os with
 |nil=>simp[dJ,pre]
 |cons q os ih =>
  obtain ⟨k,v⟩:=q
  simp only[dJ,List.map_cons,List.cons_append,al,pre,List.find?_cons] at *
  by_cases h:bD ρ k=n
  ·subst h;simp
  ·rw[if_neg (Ne.symm h)]
   have hb:(bD ρ k==n)=false:=by simpa using h
   rw[hb,ih]
   simp only
   cases hf:os.find? (fun q=>bD ρ q.1==n) with
   |none=>rfl
   |some q =>
    simp only[Option.map_some]
    have hq:=List.find?_some hf
    have hne:q.1≠k:=fun e=>h (by rw[←e];simpa using hq)
    rw[if_neg hne]
def aw(ρ:List (Nat×Nat))(os:List (Nat×ai))(E:aZ):aZ:=fun n=>if au os n then E (bD ρ n) else none
structure fP (ρ:List (Nat×Nat)) (os os0:List (Nat×ai)):Prop where
 aX:∀ m x,al os m=some x→al os0 (bD ρ m)=some (x.aR (bD ρ))∧x.only (au os)=true∧x.eS=true
 inj:∀ m m',au os m=true→au os m'=true→bD ρ m=bD ρ m'→m=m'
structure dx (aC:Bool) (ρ:List (Nat×Nat)) (os os0:List (Nat×ai)) (r:I) (os':List (Nat×ai)):Prop where
 aX:∀ m x,al os' m=some x→x.only (au os')=true∧x.eS=true∧(aC=true→x.cP=true)
 inj:∀ m m',au os' m=true→au os' m'=true→bD ρ m=bD ρ m'→m=m'
 old:∀ m,au os m=true→au os' m=true
 p9:∀ m,au os' m=true→au os m=false→al os0 (bD ρ m)=none∧bD ρ m<1000000
 zi:r.only (au os')=true∧(aC=true→r.cP=true)
section
variable {c:cQ} {a:Act} {w:World} {D:aN} {E:aZ} {ts:List (Nat×I)} {os0 os:List (Nat×ai)} {ρ:List (Nat×Nat)}
theorem aT.given(hs:aT c (av ts os0) a w D E)(hg:fP ρ os os0){m:Nat}(hm:au os m=true):∃ x e,al os m=some x∧aw ρ os E m=some e∧E (bD ρ m)=some e∧c9 (fun _=>True) w D (aw ρ os E) m (some x) ∧
  ∀ b,e.aE=some b→c.fm b∧(∃ o,w.heap[b]?=some o∧yx o=true)∧b<w.heap.size∧(e.eS=true→∀ o,¬ D b o):=by
 cases hx:al os m with
 |none=>simp[au,hx] at hm
 |some x =>
  obtain ⟨h1,h2,h3⟩:=hg.aX m x hx
  have ho:=hs.bS (bD ρ m)
  simp only[av] at ho
  rw[h1] at ho
  have hEm:aw ρ os E m=E (bD ρ m):=by simp only[aw,hm,if_true]
  have hin:∀ n,au os n=true→E (bD ρ n)=aw ρ os E n:=fun n hn=>by simp only[aw,hn,if_true]
  cases x with
  |bT T sz es =>
   obtain ⟨aE,k1,k2,k3⟩:=ho
   rw[rU] at k1
   have h2':I.bR (au os) es=true:=h2
   have k2':∀ e∈es,e.size=sz:=fun e he=>by rw[←rT (bD ρ) e];exact k2 _ (by rw[oT];exact List.mem_map.2 ⟨e,he,rfl⟩)
   refine ⟨_,_,rfl,hEm.trans k1,k1,⟨aE,hEm.trans k1,k2',?_⟩,fun b hb =>?_⟩
   ·cases aE with
    |none=>simp only[oT,List.map_eq_nil_iff] at k3;exact k3
    |some bc =>
     obtain ⟨b,cap⟩:=bc
     obtain ⟨cs,pr,rest,q1,q2,q3,q4,q5,q6,q7,q8⟩:=k3
     rw[rU] at q6
     exact ⟨cs,pr,rest,trivial,q2,q3,(aG.aR (p:=au os) hin es _ h2').1 q4,q5,q6,q7,q8⟩
   ·cases aE with
    |none=>cases hb
    |some bc =>
     obtain ⟨b',cap⟩:=bc
     cases hb
     obtain ⟨cs,pr,rest,q1,q2,_⟩:=k3
     exact ⟨q1,⟨_,q2,rfl⟩,gb q2,fun h=>by cases h⟩
  |box y =>
   obtain ⟨b,cs,T,k1,k2,k3,k4,k5⟩:=ho
   rw[zh] at k1
   refine ⟨_,_,rfl,hEm.trans k1,k1,⟨b,cs,T,hEm.trans k1,trivial,k3,?_,k5⟩,fun b' hb =>?_⟩
   ·exact (ah.aR (p:=au os) hin y _ (by simpa[ai.only] using h2)).1 k4
   ·cases hb;exact ⟨k2,⟨_,k3,rfl⟩,gb k3,fun _=>k5⟩
  |dO o =>
   obtain ⟨b,k1,k2,k3,k4,k5⟩:=ho
   exact ⟨_,_,rfl,hEm.trans k1,k1,⟨b,hEm.trans k1,trivial,k3,k4,k5⟩,fun b' hb=>by cases hb;exact ⟨k2,⟨_,k3,aiW k4⟩,gb k3,fun _=>k5⟩⟩
  |cz ks vs =>
   obtain ⟨b,es,ck,k1,k2,k3,k4,k5,k6,k7⟩:=ho
   simp only[ai.only,Bool.and_eq_true] at h2
   exact ⟨_,_,rfl,hEm.trans k1,k1,⟨b,es,ck,hEm.trans k1,trivial,k3,k4,(aF.aR (p:=au os) hin ks _ h2.1).1 k5,(aF.aR (p:=au os) hin vs _ h2.2).1 k6,k7⟩,
    fun b' hb=>by cases hb;exact ⟨k2,⟨_,k3,rfl⟩,gb k3,fun _=>k7⟩⟩
  |it ks vs left cur=>cases h3
  |cV T xs =>
   obtain ⟨aE,k1,k2,k3⟩:=ho
   refine ⟨_,_,rfl,hEm.trans k1,k1,⟨aE,hEm.trans k1,k2,?_⟩,fun b hb =>?_⟩
   ·cases aE with
    |none=>exact k3
    |some bc =>
     obtain ⟨b,cap⟩:=bc
     obtain ⟨cs,r,q1,q2⟩:=k3
     exact ⟨cs,r,trivial,q2⟩
   ·cases aE with
    |none=>cases hb
    |some bc =>
     obtain ⟨b',cap⟩:=bc
     cases hb
     obtain ⟨cs,r,q1,q2,_⟩:=k3
     exact ⟨q1,⟨_,q2,rfl⟩,gb q2,fun h=>by cases h⟩
theorem aT.tq(hs:aT c (av ts os0) a w D E)(hg:fP ρ os os0){b:Nat}(hb:dw (aw ρ os E) b):∃ m e,au os m=true∧E (bD ρ m)=some e∧e.aE=some b∧c.fm b∧(∃ o,w.heap[b]?=some o∧yx o=true)∧b<w.heap.size:=by
 obtain ⟨m,e,h1,h2⟩:=hb
 by_cases hm:au os m=true
 ·obtain ⟨x,e',k1,k2,k3,k4,k5⟩:=hs.given hg hm
  rw[k2,Option.some.injEq] at h1
  subst h1
  obtain ⟨q1,q2,q3,_⟩:=k5 b h2
  exact ⟨m,_,hm,k3,h2,q1,q2,q3⟩
 ·simp[aw,hm] at h1
theorem aT.Ki(hs:aT c (av ts os0) a w D E)(hg:fP ρ os os0){D1:aN}(hD:∀ b o,D b o→D1 b o)(hown:∀ b o,D1 b o→dw (aw ρ os E) b→D b o):ly (fun _=>True) w D1 (aw ρ os E) (al os):=by
 refine ⟨fun n =>?_,fun n m e e' b h1 h2 h3 h4 =>?_⟩
 ·cases hx:al os n with
  |none=>simp[c9,aw,au,hx]
  |some x =>
   have hm:au os n=true:=by simp[au,hx]
   obtain ⟨y,e,k1,k2,k3,k4,k5⟩:=hs.given hg hm
   rw[hx,Option.some.injEq] at k1
   subst k1
   refine k4.bL (E':=aw ρ os E) ⟨hD,fun _ _ _ _ h=>h,fun _ _ _ h=>h,fun _ aE l h=>⟨aE,l,h,Nat.le_refl _,fun _=>rfl⟩,fun _ _ h=>h,fun _ _ h=>h,fun _ _ _ _ h=>h⟩ rfl fun e' b' he hb'=>⟨rfl,fun o ho =>?_⟩
   exact hown b' o ho ⟨n,e',he,hb'⟩
 ·have hn:au os n=true:=by
   by_cases h:au os n=true;· exact h
   ·simp[aw,h] at h1
  have hm:au os m=true:=by
    by_cases h:au os m=true;· exact h
    ·simp[aw,h] at h2
  simp only[aw,hn,hm,if_true] at h1 h2
  exact hg.inj n m hn hm (hs.cU _ _ e e' b h1 h2 h3 h4)
theorem aT.py(hs:aT c (av ts os0) a w D E)(hg:fP ρ os os0){aC:Bool}{D1:aN}(hD:∀ b o,D b o→D1 b o)(hbx:aC=false→∀ b o,D1 b o→D b o){w':World}{D':aN}{E':aZ}{v:Value}{r:I}{os':List (Nat×ai)}
  (hb:dx aC ρ os os0 r os') (hr:aW w' D' E' r v) (hh:ly (fun b=>w.heap.size≤b∨dw (aw ρ os E) b) w' D' E' (al os')) (hk:fQ (fun b=>w.heap.size≤b∨dw (aw ρ os E) b) w w')
  (hlive:∀ b o,D' b o→b<w'.heap.size) (hup:∀ b o,D1 b o→D' b o) (hst:iD w D1 w') (hold:∀ b o,D' b o→b<w.heap.size→¬ dw (aw ρ os E) b→D1 b o) (hbox:∀ n e,aw ρ os E n=some e→au os' n=true→∃ e',E' n=some e'∧e.le e') :
  ∃ D2 E2,aT c (av ts (dJ ρ os'++os0)) a w' D2 E2∧aW w' D2 E2 (r.aR (bD ρ)) v∧∀ m e,aw ρ os E m=some e→au os' m=true→∃ e',E2 (bD ρ m)=some e'∧e.le e':=by
 obtain ⟨M1,hM1⟩:∃ M1:Nat→Prop,M1=fun b=>w.heap.size≤b∨dw (aw ρ os E) b:=⟨_,rfl⟩
 rw[←hM1] at hh hk
 obtain ⟨D2,hD2⟩:∃ D2:aN,D2=fun b o=>D b o∨(M1 b∧D' b o):=⟨_,rfl⟩
 obtain ⟨E2,hE2⟩:∃ E2:aZ,E2=fun n=>match pre ρ os' n with | some m=>E' m | none=>E n:=⟨_,rfl⟩
 have mN:∀ b,M1 b→c.fm b:=fun b hb'=>by
  rw[hM1] at hb'
  rcases hb' with h | h
  ·exact .inl (Nat.le_trans hs.dZ.size h)
  ·obtain ⟨m,e,_,_,_,h3,_⟩:=hs.tq hg h
   exact h3
 have upD:∀ b o,D b o→D' b o:=fun b o hd=>hup b o (hD b o hd)
 have E2m:∀ m,au os' m=true→E2 (bD ρ m)=E' m:=fun m hm=>by
  rw[hE2]
  simp only
  cases hp:pre ρ os' (bD ρ m) with
  |none=>exact absurd rfl (yZ hp hm)
  |some m' =>
   obtain ⟨h1,h2⟩:=l9 hp
   rw[hb.inj m' m h1 hm h2]
 have E2o:∀ n,pre ρ os' n=none→E2 n=E n:=fun n hn=>by rw[hE2];simp only[hn]
 -- a name that has a new meaning: one that was handed over,or one that was free
 have cas:∀ n m,pre ρ os' n=some m→(au os m=true∧∃ e e',E n=some e∧E' m=some e'∧e.le e')∨(au os m=false∧E n=none∧c.dK n=none):=fun n m hp=>by
  obtain ⟨h1,h2⟩:=l9 hp
  cases hm:au os m with
  |true =>
   obtain ⟨y,e,k1,k2,k3,_⟩:=hs.given hg hm
   rw[h2] at k3
   obtain ⟨e',q1,q2⟩:=hbox m e k2 h1
   exact .inl ⟨rfl,e,e',k3,q1,q2⟩
  |false =>
   obtain ⟨k1,k2⟩:=hb.p9 m h1 hm
   rw[h2] at k1 k2
   have ho:=hs.bS n
   simp only[av,k1] at ho
   exact .inr ⟨rfl,ho,hs.kl (.inr k2)⟩
 have hl:dS w D E w' D2 E2:=by
  have fT:∀ n e,E n=some e→∃ e',E2 n=some e'∧e.le e':=fun n e he=>by
   cases hp:pre ρ os' n with
   |none=>exact ⟨e,by rw[E2o n hp];exact he,.refl e⟩
   |some m =>
    rw[hE2];simp only[hp]
    rcases cas n m hp with ⟨_,e1,e2,k1,k2,k3⟩ | ⟨_,k1,_⟩
    ·rw[he] at k1;cases k1;exact ⟨e2,k2,k3⟩
    ·rw[he] at k1;cases k1
  have keepf:∀ n e,E n=some e→e.eS=true→E2 n=some e:=fun n e he hf=>by
   obtain ⟨e',k1,k2⟩:=fT n e he
   rw[k1,k2.eq hf]
  refine ⟨fun b o h=>by rw[hD2];exact .inl h,fun b o v' hd hv=>hst.cell b o v' (hD b o hd) hv,fun n b aP he=>keepf n _ he rfl,fun n aE l he =>?_,fun n b he=>keepf n _ he rfl,fun n b he=>keepf n _ he rfl,fun b es ck hd hm=>hst.jC b es ck (hD b 0 hd) hm⟩
  obtain ⟨e',k1,k2⟩:=fT n _ he
  rcases k2 with rfl | ⟨_,_,blk',l',e,rfl,k3,k4⟩
  ·exact ⟨aE,l,k1,Nat.le_refl _,fun _=>rfl⟩
  ·cases e;exact ⟨blk',l',k1,k3,k4⟩
 -- blocks of names that were not handed over
 have other:∀ n e b,pre ρ os' n=none→E n=some e→e.aE=some b→¬ M1 b:=fun n e b hp he hb' hm=>by
  rw[hM1] at hm
  rcases hm with h | h
  ·exact absurd (hs.fY he hb') (by omega)
  ·obtain ⟨m,e',h1,h2,h3,_⟩:=hs.tq hg h
   have:=hs.cU n (bD ρ m) e _ b he h2 hb' h3
   exact yZ hp (hb.old m h1) this.symm
 have toD2:∀ {x:I} {cs:List Value},(aC=true→x.cP=true)→ah w' D' E2 x cs→ah w' D2 E2 x cs:=fun {x cs} hx h=>by
  cases hbb:aC with
  |true=>exact ah.cP x cs (hx hbb) h
  |false =>
   refine ah.bL (E:=E2) ⟨fun b o hd =>?_,fun _ _ _ _ h=>h,fun _ _ _ h=>h,fun _ aE l h=>⟨aE,l,h,Nat.le_refl _,fun _=>rfl⟩,fun _ _ h=>h,fun _ _ h=>h,fun _ _ _ _ h=>h⟩ x cs h
   rw[hD2]
   by_cases hm:M1 b
   ·exact .inr ⟨hm,hd⟩
   ·rw[hM1] at hm
    exact .inl (hbx hbb b o (hold b o hd (Nat.lt_of_not_le fun h=>hm (.inl h)) fun h=>hm (.inr h)))
 have toD2c:∀ {xs:List I} {cs:List Value},I.bR (au os') xs=true→(aC=true→I.jd xs=true)→aG w' D' E' xs cs→aG w' D2 E2 (I.cX (bD ρ) xs) cs:=fun {xs cs} ho hx h=>by
  cases hbb:aC with
  |true=>exact (aG.aR (w:=w') (D:=D2) (p:=au os') (ρ:=bD ρ) (E:=E') (E':=E2) (fun n hn=>E2m n hn) xs cs ho).2 (aG.cP xs cs (hx hbb) h)
  |false =>
   have h2:=(aG.aR (w:=w') (D:=D') (p:=au os') (ρ:=bD ρ) (E:=E') (E':=E2) (fun n hn=>E2m n hn) xs cs ho).2 h
   refine aG.bL (E:=E2) ⟨fun b o hd =>?_,fun _ _ _ _ h=>h,fun _ _ _ h=>h,fun _ aE l h=>⟨aE,l,h,Nat.le_refl _,fun _=>rfl⟩,fun _ _ h=>h,fun _ _ h=>h,fun _ _ _ _ h=>h⟩ _ cs h2
   rw[hD2]
   by_cases hm:M1 b
   ·exact .inr ⟨hm,hd⟩
   ·rw[hM1] at hm
    exact .inl (hbx hbb b o (hold b o hd (Nat.lt_of_not_le fun h=>hm (.inl h)) fun h=>hm (.inr h)))
 have toD2s:∀ {xs:List I} {cs:List Value},I.bR (au os') xs=true→(aC=true→I.jd xs=true)→aF w' D' E' xs cs→aF w' D2 E2 (I.cX (bD ρ) xs) cs:=fun {xs cs} ho hx h=>by
  cases hbb:aC with
  |true=>exact (aF.aR (w:=w') (D:=D2) (p:=au os') (ρ:=bD ρ) (E:=E') (E':=E2) (fun n hn=>E2m n hn) xs cs ho).2 (aF.cP xs cs (hx hbb) h)
  |false =>
   have h2:=(aF.aR (w:=w') (D:=D') (p:=au os') (ρ:=bD ρ) (E:=E') (E':=E2) (fun n hn=>E2m n hn) xs cs ho).2 h
   refine aF.bL (E:=E2) ⟨fun b o hd =>?_,fun _ _ _ _ h=>h,fun _ _ _ h=>h,fun _ aE l h=>⟨aE,l,h,Nat.le_refl _,fun _=>rfl⟩,fun _ _ h=>h,fun _ _ h=>h,fun _ _ _ _ h=>h⟩ _ cs h2
   rw[hD2]
   by_cases hm:M1 b
   ·exact .inr ⟨hm,hd⟩
   ·rw[hM1] at hm
    exact .inl (hbx hbb b o (hold b o hd (Nat.lt_of_not_le fun h=>hm (.inl h)) fun h=>hm (.inr h)))
 refine ⟨D2,E2,⟨hs.sz,hs.eV.mono fun B _ hB =>?_,fun t=>aW.bL hl (hs.ew t),hs.dZ.trans ⟨hk.os,hk.tape,hk.output,hk.size,fun k hk'=>hk.block k fun h=>hk' (mN k h)⟩,fun b o hd hm =>?_,fun b o hd =>?_,fun n =>?_,?_,fun n e hn =>?_,hs.ff,
  fun b o hd=>hl.c6 b o (hs.cL b o hd),hs.fk,hs.lu hl⟩,?_,fun m e k1 k3=>by rw[E2m m k3];exact hbox m e k1 k3⟩
 ·refine (hk.block B fun hm =>?_).trans hB
  rw[hM1] at hm
  rcases hm with h | h
  ·exact absurd (Array.getElem?_eq_some_iff.1 hB).1 (by omega)
  ·obtain ⟨m,e,_,_,_,_,⟨o,h4,h5⟩,_⟩:=hs.tq hg h
   rw[hB] at h4;cases h4
   cases h5
 ·rw[hD2] at hd
  rcases hd with hd | ⟨h1,_⟩
  ·exact hs.c6 b o hd hm
  ·exact absurd (mN b h1) hm
 ·rw[hD2] at hd
  rcases hd with hd | ⟨_,h1⟩
  ·exact Nat.lt_of_lt_of_le (hs.dg b o hd) hk.size
  ·exact hlive b o h1
 ·simp only[av,rD]
  cases hp:pre ρ os' n with
  |none =>
   simp only
   refine (hs.bS n).bL hl (E2o n hp) fun e b he hb'=>⟨hk.block b (other n e b hp he hb'),fun o ho =>?_⟩
   rw[hD2] at ho
   rcases ho with ho | ⟨h1,_⟩
   ·exact ho
   ·exact absurd h1 (other n e b hp he hb')
  |some m =>
   simp only
   obtain ⟨h1,h2⟩:=l9 hp
   cases hx:al os' m with
   |none=>simp[au,hx] at h1
   |some x =>
    obtain ⟨k1,kf,k2⟩:=hb.aX m x hx
    have ho:=hh.bS m
    rw[hx] at ho
    have noD:∀ b,(∀ o,¬ D' b o)→∀ o,¬ D2 b o:=fun b hno o ho=>by
     rw[hD2] at ho
     rcases ho with ho | ⟨_,ho⟩
     ·exact hno o (upD b o ho)
     ·exact hno o ho
    cases x with
    |bT T sz es =>
     obtain ⟨aE,q1,q2,q3⟩:=ho
     simp only[Option.map_some,ai.aR,c9,rU]
     refine ⟨aE,by rw[←h2,E2m m h1];exact q1,fun e he =>?_,?_⟩
     ·rw[oT] at he
      obtain ⟨e',he',rfl⟩:=List.mem_map.1 he
      rw[rT];exact q2 e' he'
     ·cases aE with
      |none=>simp only at q3 ⊢;rw[q3];rfl
      |some bc =>
       obtain ⟨b,cap⟩:=bc
       obtain ⟨cs,pr,rest,g1,g2,g3,g4,g5,g6,g7,g8⟩:=q3
       refine ⟨cs,pr,rest,mN b g1,g2,g3,toD2c (by simpa[ai.only] using k1) (fun h=>by simpa[ai.cP] using k2 h) g4,g5,g6,g7,fun o ho =>?_⟩
       rw[hD2] at ho
       rcases ho with ho | ⟨_,ho⟩
       ·exact g8 o (upD b o ho)
       ·exact g8 o ho
    |cV T xs =>
     obtain ⟨aE,q1,q2,q3⟩:=ho
     simp only[Option.map_some,ai.aR,c9]
     refine ⟨aE,by rw[←h2,E2m m h1];exact q1,q2,?_⟩
     cases aE with
     |none=>exact q3
     |some bc =>
      obtain ⟨b,cap⟩:=bc
      obtain ⟨cs,r,g1,g2,g3,g4,g5,g6,g7⟩:=q3
      exact ⟨cs,r,mN b g1,g2,g3,g4,g5,g6,noD b g7⟩
    |dO x =>
     obtain ⟨b,q1,q2,q3,q4,q5⟩:=ho
     simp only[Option.map_some,ai.aR,c9]
     exact ⟨b,by rw[←h2,E2m m h1];exact q1,mN b q2,q3,q4,noD b q5⟩
    |it ks vs left cur=>cases kf
    |cz ks vs =>
     obtain ⟨b,es,ck,q1,q2,q3,q4,q5,q6,q7⟩:=ho
     simp only[Option.map_some,ai.aR,c9]
     simp only[ai.only,Bool.and_eq_true] at k1
     simp only[ai.cP,Bool.and_eq_true] at k2
     exact ⟨b,es,ck,by rw[←h2,E2m m h1];exact q1,mN b q2,q3,q4,toD2s k1.1 (fun h=>(k2 h).1) q5,toD2s k1.2 (fun h=>(k2 h).2) q6,noD b q7⟩
    |box y =>
     obtain ⟨b,cs,T,q1,q2,q3,q4,q5⟩:=ho
     simp only[Option.map_some,ai.aR,c9]
     refine ⟨b,cs,T,by rw[zh,←h2,E2m m h1];exact q1,mN b q2,q3,?_,noD b q5⟩
     have h3:=(ah.aR (w:=w') (D:=D') (p:=au os') (ρ:=bD ρ) (E:=E') (E':=E2) (fun n hn=>E2m n hn) y cs.toList (by simpa[ai.only] using k1)).2 q4
     cases hbb:aC with
     |true =>
      have h4:ah w' D2 E' y cs.toList:=ah.cP y _ (k2 hbb) q4
      exact (ah.aR (w:=w') (D:=D2) (p:=au os') (ρ:=bD ρ) (E:=E') (E':=E2) (fun n hn=>E2m n hn) y cs.toList (by simpa[ai.only] using k1)).2 h4
     |false=>exact toD2 (fun h=>by rw[hbb] at h;cases h) h3
 ·intro n m e e' b h1 h2 h3 h4
  have blk':∀ n m e,pre ρ os' n=some m→E2 n=some e→e.aE=some b→M1 b∧E' m=some e:=fun n m e hp he hb'=>by
   obtain ⟨k1,k2⟩:=l9 hp
   rw[←k2,E2m m k1] at he
   cases hx:al os' m with
   |none=>simp[au,hx] at k1
   |some x =>
    obtain ⟨_,kf,_⟩:=hb.aX m x hx
    have ho:=hh.bS m
    rw[hx] at ho
    cases x with
    |bT T sz es =>
     obtain ⟨aE,q1,q2,q3⟩:=ho
     rw[q1,Option.some.injEq] at he
     subst he
     cases aE with
     |none=>cases hb'
     |some bc =>
      obtain ⟨b',cap⟩:=bc
      cases hb'
      obtain ⟨cs,pr,rest,g1,_⟩:=q3
      exact ⟨g1,q1⟩
    |it ks vs left cur=>cases kf
    |cV T xs =>
     obtain ⟨aE,q1,q2,q3⟩:=ho
     rw[q1,Option.some.injEq] at he
     subst he
     cases aE with
     |none=>cases hb'
     |some bc =>
      obtain ⟨b',cap⟩:=bc
      cases hb'
      obtain ⟨cs,r,g1,_⟩:=q3
      exact ⟨g1,q1⟩
    |cz ks vs =>
     obtain ⟨b',es,ck,q1,q2,_⟩:=ho
     rw[q1,Option.some.injEq] at he
     subst he
     cases hb'
     exact ⟨q2,q1⟩
    |dO x =>
     obtain ⟨b',q1,q2,_⟩:=ho
     rw[q1,Option.some.injEq] at he
     subst he
     cases hb'
     exact ⟨q2,q1⟩
    |box y =>
     obtain ⟨b',cs,T,q1,q2,_⟩:=ho
     rw[q1,Option.some.injEq] at he
     subst he
     cases hb'
     exact ⟨q2,q1⟩
  cases hn:pre ρ os' n with
  |none =>
   have g1:E n=some e:=by rw[←E2o n hn];exact h1
   cases hm:pre ρ os' m with
   |none=>exact hs.cU n m e e' b g1 (by rw[←E2o m hm];exact h2) h3 h4
   |some m'=>exact absurd (blk' m m' e' hm h2 h4).1 (other n e b hn g1 h3)
  |some n' =>
   have g1:=blk' n n' e hn h1 h3
   cases hm:pre ρ os' m with
   |none=>exact absurd g1.1 (other m e' b hm (by rw[←E2o m hm];exact h2) h4)
   |some m' =>
    have g2:=blk' m m' e' hm h2 h4
    have:=hh.cU n' m' e e' b g1.2 g2.2 h3 h4
    rw[←(l9 hn).2,←(l9 hm).2,this]
 ·cases hp:pre ρ os' n with
  |none=>rw[E2o n hp];exact hs.eb n e hn
  |some m =>
   rcases cas n m hp with ⟨_,e1,e2,k1,k2,k3⟩ | ⟨_,_,k1⟩
   ·rcases hs.eb n e hn with h | ⟨e3,h,h'⟩
    ·rw[h] at k1;cases k1
    ·rw[k1,Option.some.injEq] at h
     subst h
     right
     rw[hE2];simp only[hp];exact ⟨e2,k2,h'.trans k3⟩
   ·rw[hn] at k1;cases k1
 ·have h3:=(aW.aR (w:=w') (p:=au os') (ρ:=bD ρ) (E:=E') (E':=E2) (D:=D') (fun n hn=>E2m n hn) (v:=v) hb.zi.1).2 hr
  cases hbb:aC with
  |true=>exact (aW.aR (w:=w') (p:=au os') (ρ:=bD ρ) (E:=E') (E':=E2) (D:=D2) (fun n hn=>E2m n hn) (v:=v) hb.zi.1).2 (aW.cP (hb.zi.2 hbb) hr)
  |false =>
   refine aW.bL (E:=E2) ⟨fun b o hd =>?_,fun _ _ _ _ h=>h,fun _ _ _ h=>h,fun _ aE l h=>⟨aE,l,h,Nat.le_refl _,fun _=>rfl⟩,fun _ _ h=>h,fun _ _ h=>h,fun _ _ _ _ h=>h⟩ h3
   rw[hD2]
   by_cases hm:M1 b
   ·exact .inr ⟨hm,hd⟩
   ·rw[hM1] at hm
    exact .inl (hbx hbb b o (hold b o hd (Nat.lt_of_not_le fun h=>hm (.inl h)) fun h=>hm (.inr h)))
end
theorem u0(z:Array Value):∀ n:Nat,(Builtin.zeroCells z n).toList=(List.replicate n z.toList).flatten
 |0=>by simp[Builtin.zeroCells]
 |n+1=>by
  rw[List.replicate_succ,List.flatten_cons,←u0 z n]
  apply List.ext_getElem?
  intro i
  by_cases hz:z.size=0
  ·have hz':z = #[]:=Array.eq_empty_of_size_eq_zero hz
   subst hz'
   simp[Builtin.zeroCells]
  have hpos:0<z.size:=Nat.pos_of_ne_zero hz
  by_cases hi:i<z.toList.length
  ·rw[List.getElem?_append_left hi]
   have hi':i<z.size:=by simpa using hi
   have h1:i<(n+1)*z.size:=by rw[Nat.succ_mul];omega
   simp only[Builtin.zeroCells,Array.toList_map,Array.toList_range,List.getElem?_map,List.getElem?_range h1,Option.map_some,Nat.mod_eq_of_lt hi']
   simp[hi']
  ·rw[List.getElem?_append_right (by omega)]
   have hi':z.size≤i:=by simpa using hi
   simp only[Builtin.zeroCells,Array.toList_map,Array.toList_range,List.getElem?_map,Array.length_toList]
   by_cases h2:i<(n+1)*z.size
   ·have h3:i-z.size<n*z.size:=by rw[Nat.succ_mul] at h2;omega
    rw[List.getElem?_range h2,List.getElem?_range h3]
    simp only[Option.map_some]
    rw[←Nat.mod_eq_sub_mod hi']
   ·have h3:¬ i-z.size<n*z.size:=by rw[Nat.succ_mul] at h2;omega
    rw[List.getElem?_eq_none (by simpa using h2),List.getElem?_eq_none (by simpa using h3)]
theorem rR{w:World}{D:aN}{E:aZ}{z:I}{cs:List Value}(h:ah w D E z cs):∀ n:Nat,aG w D E (List.replicate n z) (List.replicate n cs).flatten
 |0=>by simp[aG]
 |n+1=>by
  simp only[List.replicate_succ,List.flatten_cons,aG]
  exact ⟨cs,_,rfl,h,rR h n⟩
def er(A:af)(sz:Nat):I→Option (List I)
 | .slice z es=>if z=sz then some es else none
 | .nils _=>some []
 | .c0 _=>some []
 | .own n l=>match A.o n with
  |some (.bT _ z es)=>if l=es.length∧z=sz then some es else none
  |_=>none
 | .view n p z lo k=>match cC A (.ptr n p) with
  |some (.agg fs)=>if lo+k≤fs.length∧z=sz then some ((fs.drop lo).take k) else none
  |_=>none
 |_=>none
section
variable {c:cQ} {A:af} {a:Act} {w:World} {D:aN} {E:aZ}
theorem aT.view(h:aT c A a w D E){n:Nat}{p:List Nat}{sz lo k:Nat}{v:Value}{fs:List I}(hv:aW w D E (.view n p sz lo k) v)(hx:cC A (.ptr n p)=some (.agg fs)) :
  ∃ y b cs T off c1 c2 c3,A.o n=some (.box y)∧E n=some (.aC b y.aP)∧w.heap[b]?=some (.cells cs T (0,0))∧y.at p=some (.agg fs)∧y.aP.off p=some off∧cs.toList=c1++c2++c3∧c1.length=off∧aG w D E fs c2 ∧
   ah w D E y cs.toList∧(∀ f∈fs,f.size=sz)∧lo+k≤fs.length∧fs.length≤maxLen∧v=.slice (some ⟨b,off+lo*sz,none⟩) k (fs.length-lo):=by
 obtain ⟨z,b',cs',T,off',c1,c2,c3,k1,k2,_,k3,k4,k5,k6,k7,k8,k9,_⟩:=h.at hx
 obtain ⟨vs,g1,g2⟩:=hv
 simp only[ah] at g2
 obtain ⟨b,aP,off,l,h1,h2,h3,h4,h5,h6,h7⟩:=g2
 rw[k2] at h1
 simp only[Option.some.injEq,bU.aC.injEq] at h1
 obtain ⟨rfl,rfl⟩:=h1
 rw[k5,Option.some.injEq] at h2
 subst h2
 rw[na p z _ k4] at h3
 simp only[I.aP,Option.some.injEq,cO.ej.injEq] at h3
 subst h3
 rw[I.dn,List.length_map] at h4 h5 h6
 refine ⟨z,b',cs',T,off',c1,c2,c3,k1,k2,k3,k4,k5,k6,k7,by simpa only[ah] using k8,k9,OA h7,h6,h5,?_⟩
 simpa[bK,I.isAgg,h4] using g1.symm
theorem aT.n8(h:aT c A a w D E){sz:Nat}{x:I}{v:Value}{ys:List I}(hv:aW w D E x v)(hs:er A sz x=some ys) :
  ∃ ad cp news,v=.slice ad ys.length cp∧ys.length≤cp∧cp≤maxLen∧aG w D E ys news∧(∀ y∈ys,y.size=sz)∧(ys≠[]→∃ b o,ad=some ⟨b,o,none⟩∧∀ j u,news[j]?=some u→w.cell? ⟨b,o+j,none⟩=some u):=by
 cases x <;>simp only[er] at hs <;>try (cases hs;done)
 case nils z =>
  simp only[Option.some.injEq] at hs;subst hs
  obtain ⟨cs,q1,q2⟩:=hv
  simp only[ah] at q2
  exact ⟨none,0,[],by simpa[bK,I.isAgg,q2] using q1.symm,by simp,by simp[maxLen],by simp[aG],by simp,fun h=>absurd rfl h⟩
 case c0 z =>
  simp only[Option.some.injEq] at hs;subst hs
  obtain ⟨cs,q1,q2⟩:=hv
  simp only[ah] at q2
  obtain ⟨ad,q2⟩:=q2
  exact ⟨ad,0,[],by simpa[bK,I.isAgg,q2] using q1.symm,by simp,by simp[maxLen],by simp[aG],by simp,fun h=>absurd rfl h⟩
 case slice z es =>
  split at hs
  ·rename_i hz
   simp only[Option.some.injEq] at hs;subst hs hz
   obtain ⟨ad,cap,e1,e2,e3,e4,e5⟩:=mZ hv
   rcases e4 with rfl | ⟨b,off,cs,rfl,q1,q2⟩
   ·exact ⟨ad,cap,[],e1,e2,e3,by simp[aG],by simp,fun h=>absurd rfl h⟩
   ·exact ⟨_,cap,cs,e1,e2,e3,q2,e5,fun _=>⟨b,off,rfl,fun j u hj=>(q1 j u hj).1⟩⟩
  ·cases hs
 case own n l =>
  split at hs
  ·rename_i T z es hn
   split at hs
   ·rename_i hz
    obtain ⟨hz1,rfl⟩:=hz
    simp only[Option.some.injEq] at hs;subst hs
    obtain ⟨aE,k1,k2,k3⟩:=h.bT hn
    obtain ⟨cs,q1,q2⟩:=hv
    simp only[ah] at q2
    obtain ⟨blk',l',g1,g2,_,g4⟩:=q2
    rw[k1] at g1
    simp only[Option.some.injEq,bU.rw.injEq] at g1
    obtain ⟨rfl,rfl⟩:=g1
    replace g4:=g4 hz1
    cases aE with
    |none =>
     simp only at k3 g4
     subst k3
     have hv':v=.slice none 0 0:=by rw[g4] at q1;simpa[bK,I.isAgg] using q1.symm
     exact ⟨none,0,[],hv',by simp,by simp[maxLen],by simp[aG],by simp,fun h=>absurd rfl h⟩
    |some bc =>
     obtain ⟨b,cap⟩:=bc
     simp only at g4
     obtain ⟨cs',pre,rest,k4,k5,k6,k7,k8,k9,k10,k11⟩:=k3
     refine ⟨some ⟨b,0,none⟩,cap,pre,by rw[←hz1];simpa[bK,I.isAgg,g4] using q1.symm,k9,k10,k7,k2,fun _=>⟨b,0,rfl,fun j u hj =>?_⟩⟩
     have:=(oP (D:=fun _ _=>True) (c1:=[]) (c2:=pre) (c3:=rest) k5 (by simpa using k6) (fun _ _=>trivial)) j u hj
     simpa using this.1
   ·cases hs
  ·cases hs
 case view n p z lo k =>
  split at hs
  ·rename_i fs hx
   split at hs
   ·rename_i hk
    obtain ⟨hk,rfl⟩:=hk
    simp only[Option.some.injEq] at hs;subst hs
    obtain ⟨y,b,cs,T,off,c1,c2,c3,k1,k2,k3,k4,k5,k6,k7,k8,k9,k10,k11,k12,rfl⟩:=h.view hv hx
    obtain ⟨d1,d2,d3,rfl,q1,q2,q3⟩:=uC k8 k10 lo k hk
    have hlen:((fs.drop lo).take k).length=k:=by rw[List.length_take,List.length_drop];omega
    refine ⟨some ⟨b,off+lo*z,none⟩,fs.length-lo,d2,by rw[hlen],by rw[hlen];omega,by omega,q2,fun y hy=>k10 y (List.mem_of_mem_drop (List.mem_of_mem_take hy)),fun _=>⟨b,_,rfl,fun j u hj =>?_⟩⟩
    have:=(oP (D:=fun _ _=>True) (c1:=c1++d1) (c2:=d2) (c3:=d3++c3) k3 (by rw[k6];simp) (fun _ _=>trivial)) j u hj
    rw[List.length_append,k7,q1] at this
    exact this.1
   ·cases hs
  ·cases hs
theorem aT.iA(h:aT c A a w D E){n:Nat}{p:List Nat}{sz j:Nat}{y:I}{fs ys:List I}{b off:Nat}{cs:Array Value}{T:TypeId}{c1 c2 c3 ds:List Value}(hn:A.o n=some (.box y))(aw:E n=some (.aC b y.aP))(hb:w.heap[b]?=some (.cells cs T (0,0)))
  (hat:y.at p=some (.agg fs)) (hoff:y.aP.off p=some off) (hcs:cs.toList=c1++c2++c3) (hc1:c1.length=off) (hfs:aG w D E fs c2) (hy:ah w D E y cs.toList) (hsz:∀ f∈fs,f.size=sz) (hys:aG w D E ys ds) (hj:j+ys.length≤fs.length)
  (hsh:I.cK ys=I.cK ((fs.drop j).take ys.length)) (P:Program) :
  ∃ w',(storeCells ⟨b,off+j*sz,none⟩ ds 0).run P w=.ok () w'∧aT c (A.aK n (.box (y.dz p (.agg (fs.take j++(ys++fs.drop (j+ys.length))))))) a w' D E:=by
 obtain ⟨d1,d2,d3,rfl,q1,q2,q3⟩:=uC hfs hsz j ys.length hj
 have hd1:aG w D E (fs.take j) d1:=by
  have e1:fs=fs.take j++fs.drop j:=(List.take_append_drop j fs).symm
  rw[e1] at hfs
  obtain ⟨e1,e2,he,k1,k2⟩:=uB _ _ _ hfs
  have hl:e1.length=d1.length:=by
   rw[aG.length _ _ k1,I.iB _ (fun x hx=>hsz x (List.mem_of_mem_take hx)),q1,List.length_take];congr 1;omega
  have:e1=d1:=by
   have:=congrArg (List.take d1.length) he
   rw[List.take_left,←hl,List.take_left] at this
   exact this.symm
  rw[←this];exact k1
 have hlen:ds.length=d2.length:=by rw[aG.length _ _ hys,aG.length _ _ q2,←I.nc,←I.nc,hsh]
 have hds:ah w D E (.agg (fs.take j++(ys++fs.drop (j+ys.length)))) (d1++(ds++d3)):=by
  simp only[ah]
  refine kE _ _ _ _ hd1 (kE _ _ _ _ hys ?_)
  rw[List.drop_drop] at q3
  exact q3
 have hshape:(I.agg (fs.take j++(ys++fs.drop (j+ys.length)))).aP=(I.agg fs).aP:=by
  simp only[I.aP,cO.ej.injEq,I.dn,List.map_append]
  rw[←I.dn ys,hsh,I.dn,←List.map_append,←List.map_append]
  congr 1
  rw[←List.drop_drop,List.take_append_drop,List.take_append_drop]
 obtain ⟨off',g1,g2,g3,g4⟩:=uz p y _ _ _ _ hy hat hds hshape
 rw[hoff,Option.some.injEq] at g1
 subst g1
 have hst:=run_storeCells_at P b (off+j*sz) T ds 0 cs w hb (by
  have:cs.size=cs.toList.length:=by simp
  rw[this,hcs];simp only[List.length_append];omega) (aG.mR _ _ hys)
 simp only[Nat.add_zero] at hst
 refine ⟨_,hst,?_⟩
 refine h.Ox hn aw g4 ?_
 have e:cs.toList.take (off+j*sz)++ds++cs.toList.drop (off+j*sz+ds.length)=cs.toList.take off++(d1++(ds++d3))++cs.toList.drop (off+(d1++(ds++d3)).length):=by
  rw[hcs]
  have t1:(c1++(d1++(d2++d3))++c3).take (off+j*sz)=c1++d1:=by
   rw[←hc1,←q1,List.append_assoc,List.take_length_add_append,List.append_assoc,List.take_left]
  have t2:(c1++(d1++(d2++d3))++c3).drop (off+j*sz+ds.length)=d3++c3:=by
   rw[←hc1,←q1,hlen,List.append_assoc,Nat.add_assoc,List.drop_length_add_append,List.append_assoc,List.drop_length_add_append,List.append_assoc,List.drop_left]
  have t3:(c1++(d1++(d2++d3))++c3).take off=c1:=by rw[←hc1,List.append_assoc,List.take_left]
  have t4:(c1++(d1++(d2++d3))++c3).drop (off+(d1++(ds++d3)).length)=c3:=by
   have:(d1++(ds++d3)).length=(d1++(d2++d3)).length:=by simp[hlen]
   rw[this,←hc1,List.append_assoc,List.drop_length_add_append,List.drop_left]
  rw[t1,t2,t3,t4]
  simp
 rw[e]
 simpa using g3
end
section
variable {c:cQ} {A:af} {o:Oper} {x:I}
theorem m8{P:Program}{w:World}(k:IntKind)(n:Int)(y:Nat)(code:BoundsCode)(g1:0≤n)(g2:n≤y):(Instr.sliceBound (.int k n) y code).run P w=.ok n.toNat w:=by
 simp[Instr.sliceBound,asIntOf,g1,g2]
theorem ahu{t e:TypeId}{y:Operand}{y':aH}{lo hi mx:Option Operand}{lo' hi' mx':Option aH}{i:TypeInfo}{fs:List I}{n:Nat}{p:List Nat}{sz l0 k:Nat}(ho:o.op=.slice t y lo hi mx)(hu:c.P.underlying t=some (.slice e))(hi0:c.P.info? e=some i)
  (hy:bJ c.P 0 y=some y') (h1:iW c.P lo=some lo') (h2:iW c.P hi=some hi') (h3:iW c.P mx=some mx') (hmh:mx'.isSome=true→hi'.isSome=true) (hsz:sz=c.P.cellsOf e)
  (h:ae A y'=.view n p sz l0 k) (hd:cC A (.ptr n p)=some (.agg fs)) (hx:iq n p sz l0 k fs.length (lo'.map (ae A)) (hi'.map (ae A)) (mx'.map (ae A))=some x):dR c A o x :=
 .same fun a w D E hs=>by
  have opt:∀ {q:Option Operand} {q':Option aH},iW c.P q=some q'→iP w D E (q'.map (ae A)) (q.map a.eval):=by
   intro q q' hq
   cases q with
   |none=>simp only[iW,Option.some.injEq] at hq;subst hq;simp[iP]
   |some z =>
    simp only[iW,Option.map_eq_some_iff] at hq
    obtain ⟨z',hz,rfl⟩:=hq
    simpa[iP] using cg hs hz
  have h0:=cg hs hy
  rw[h] at h0
  obtain ⟨yy,b,cs,T,off,c1,c2,c3,k1,k2,k3,k4,k5,k6,k7,k8,k9,k10,k11,k12,hval⟩:=hs.view h0 hd
  have hmh':(mx'.map (ae A)).isSome=true→(hi'.map (ae A)).isSome=true:=by simpa using hmh
  unfold iq at hx
  split at hx
  ·cases hx
  rename_i hh hbh
  split at hx
  ·cases hx
  rename_i ll hbl
  have d1:=rK (opt h1) hbl
  have d2:=rK (opt h2) hbh
  have o3:=opt h3
  split at hx
  ·rename_i hmx
   split at hx
   case isFalse=>cases hx
   rename_i hb
   obtain ⟨b1,b2,b3⟩:=hb
   have hvmx:mx.map a.eval=none:=by
    rw[hmx] at o3
    cases hq:mx.map a.eval with
    |none=>rfl
    |some v=>rw[hq] at o3;simp[iP] at o3
   have hsb:(Instr.sliceBounds true k (fs.length-l0) (lo.map a.eval) (hi.map a.eval) (mx.map a.eval)).run c.P w=.ok (ll.toNat,hh.toNat,fs.length-l0) w:=by
    rw[hvmx]
    rcases d2 with ⟨_,g2,hm2⟩ | ⟨_,q2,g2⟩ <;>rcases d1 with ⟨_,g1,hm1⟩ | ⟨_,q1,g1⟩ <;>rw[g1,g2]
    ·subst hm1 hm2;simp[Instr.sliceBounds]
    ·subst hm2;simp[Instr.sliceBounds,m8 q1 ll k _ b1 (by omega)]
    ·subst hm1;simp[Instr.sliceBounds,m8 q2 hh (fs.length-l0) _ (by omega) (by omega)]
    ·simp[Instr.sliceBounds,m8 q2 hh (fs.length-l0) _ (by omega) (by omega),m8 q1 ll hh.toNat _ b1 (by omega)]
   have hrun:(Instr.sliceAt t (a.eval y) (lo.map a.eval) (hi.map a.eval) (mx.map a.eval)).run c.P w =
     .ok (.slice (if fs.length-l0=ll.toNat then some ⟨b,off+l0*sz,none⟩ else some ⟨b,off+l0*sz+ll.toNat*c.P.cellsOf e,none⟩) (hh.toNat-ll.toNat) (fs.length-l0-ll.toNat)) w:=by
    rw[hval]
    simp only[Instr.sliceAt,Instr.slice,Sem.run_bind,run_underlying hu,Result.andThen_ok,hsb,jk hi0,Sem.run_pure,Option.map_some,nk]
   refine ⟨_,by simp only[execOp,ho,Sem.run_bind,hrun];rfl,?_⟩
   split at hx
   ·rename_i hl
    simp only[Option.some.injEq] at hx
    subst hx
    have e1:fs.length-l0=ll.toNat:=by omega
    have e2:hh.toNat-ll.toNat=0:=by omega
    rw[if_pos e1,e2,e1,Nat.sub_self]
    exact ⟨_,by simp[bK,I.isAgg];rfl,by simp only[ah];exact ⟨_,rfl⟩⟩
   ·rename_i hl
    simp only[Option.some.injEq] at hx
    subst hx
    rw[if_neg (by omega)]
    refine ⟨_,by simp[bK,I.isAgg];rfl,?_⟩
    simp only[ah]
    refine ⟨b,yy.aP,off,I.cK fs,k2,k5,na p yy _ k4,?_,?_,?_,?_⟩
    ·rw[I.dn,List.length_map,Nat.add_mul,Nat.add_assoc,hsz,Nat.sub_sub]
    ·rw[I.dn,List.length_map];exact k12
    ·rw[I.dn,List.length_map];omega
    ·rw[I.dn]
     intro s hs'
     obtain ⟨f,hf,rfl⟩:=List.mem_map.1 hs'
     rw[I.mg];exact k10 f hf
  ·rename_i kk m hmx
   split at hx
   case isFalse=>cases hx
   rename_i hb
   obtain ⟨b1,b2,b3,b4⟩:=hb
   simp only[Option.some.injEq] at hx
   subst hx
   obtain ⟨vmx,hvmx,hvm⟩:∃ v,mx.map a.eval=some v∧v=.int kk m:=by
    rw[hmx] at o3
    cases hq:mx.map a.eval with
    |none=>rw[hq] at o3;simp[iP] at o3
    |some v=>rw[hq] at o3;simp only[iP] at o3;exact ⟨v,rfl,(fy o3).1⟩
   subst hvm
   have hsb:∃ r,(Instr.sliceBounds true k (fs.length-l0) (lo.map a.eval) (hi.map a.eval) (mx.map a.eval)).run c.P w=.ok r w:=by
    rw[hvmx]
    rcases d2 with ⟨fC,g2,hm2⟩ | ⟨_,q2,g2⟩
    ·rw[hmx,fC] at hmh';simp at hmh'
    ·rcases d1 with ⟨_,g1,hm1⟩ | ⟨_,q1,g1⟩ <;>rw[g1,g2]
     ·exact ⟨_,by simp[Instr.sliceBounds,m8 kk m (fs.length-l0) _ (by omega) b4,m8 q2 hh m.toNat _ (by omega) (by omega)];rfl⟩
     ·exact ⟨_,by simp[Instr.sliceBounds,m8 kk m (fs.length-l0) _ (by omega) b4,m8 q2 hh m.toNat _ (by omega) (by omega),m8 q1 ll hh.toNat _ b1 (by omega)];rfl⟩
   obtain ⟨⟨r1,dH,uw⟩,hsb⟩:=hsb
   have hrun:∃ v,(Instr.sliceAt t (a.eval y) (lo.map a.eval) (hi.map a.eval) (mx.map a.eval)).run c.P w=.ok v w:=by
    rw[hval]
    exact ⟨_,by simp only[Instr.sliceAt,Instr.slice,Sem.run_bind,run_underlying hu,Result.andThen_ok,hsb,jk hi0,Sem.run_pure,Option.map_some];rfl⟩
   obtain ⟨v,hrun⟩:=hrun
   exact ⟨v,by simp only[execOp,ho,Sem.run_bind,hrun];rfl,by simp[aW]⟩
  ·cases hx
theorem ahl{t e:TypeId}{y z:Operand}{y' z':aH}{i:TypeInfo}{fs:List I}{n:Nat}{p:List Nat}{sz lo k:Nat}{kk:IntKind}{j:Int}(ho:o.op=.indexAddr t y z)(hu:c.P.underlying t=some (.slice e))(hi:c.P.info? e=some i)
  (hy:bJ c.P 0 y=some y') (hz:bJ c.P 0 z=some z') (hsz:sz=c.P.cellsOf e) (h:ae A y'=.view n p sz lo k) (hd:cC A (.ptr n p)=some (.agg fs)) (h':ae A z'=.int kk j) (hj:0≤j∧j<k):dR c A o (.ptr n (p++[lo+j.toNat])) :=
 .same fun a w D E hs=>by
  have h0:=cg hs hy
  rw[h] at h0
  have h1':=cg hs hz
  rw[h'] at h1'
  obtain ⟨yy,b,cs,T,off,c1,c2,c3,k1,k2,k3,k4,k5,k6,k7,k8,k9,k10,k11,k12,hval⟩:=hs.view h0 hd
  refine ⟨.pointer (some ⟨b,off+lo*sz+j.toNat*c.P.cellsOf e,none⟩),by simp only[execOp,ho,hval,(fy h1').1,Sem.run_bind,zp hu hi hj];rfl,?_⟩
  refine ⟨_,by simp[bK,I.isAgg];rfl,?_⟩
  simp only[ah]
  refine ⟨b,yy.aP,off+(lo+j.toNat)*sz,k2,?_,by rw[Nat.add_mul,←Nat.add_assoc,hsz]⟩
  have hl:lo+j.toNat<fs.length:=by omega
  rw[cO.uf p yy.aP off (lo+j.toNat) _ k5 (na p yy _ k4) (by rw[I.dn];simpa using hl),I.dn,←List.map_take,←I.dn,I.nc,o5 fs _ k10 (by omega)]
theorem xC{ty:TypeId}{y:Operand}{y':aH}{n:Nat}{e:TypeId}(ho:o.op=.call { callee:=.builtin .cap,args := #[y],argTypes := #[ty] })(hu:c.P.underlying ty=some (.slice e))
  (hy:bJ c.P ty y=some y') (h:∀ a w D E,aT c A a w D E→∀ v,aW w D E (ae A y') v→n≤maxLen∧∃ ad l,v=.slice ad l n):dR c A o (.int .i64 n) :=
 .same fun a w D E hs=>by
  obtain ⟨h0,ad,l,hv⟩:=h a w D E hs _ (cg hs hy)
  exact ⟨.int .i64 n,by simp[execOp,ho,resolve,invoke,builtin,Builtin.cap_,run_underlying hu,hv,goInt],kX (yj h0)⟩
theorem ag8{t e:TypeId}{i:TypeInfo}(ho:o.op=.buildSlice t 0 #[])(hu:c.P.underlying t=some (.slice e))(hi:c.P.info? e=some i):dR c A o (.c0 (c.P.cellsOf e)):=by
 intro a w D E hs
 have hs':=hs.newRow (.cells #[] e)
 refine ⟨.slice (some ⟨w.heap.size,0,none⟩) 0 0,_,_,?_,hs',⟨_,by simp[bK,I.isAgg];rfl,by simp only[ah];exact ⟨_,rfl⟩⟩⟩
 simp[execOp,ho,Instr.buildSlice,run_underlying hu,jk hi,newRow,Instr.fill,show (Array.range 0) = #[] from rfl]
theorem aiT{neg:Bool}{t e:TypeId}{y z:Operand}{y':aH}{yt:TypeId}{s:Nat}(ho:o.op=.binOp (if neg then .neq else .eql) t y z yt)(hu:c.P.underlying t=some (.slice e))(hy:bJ c.P 0 y=some y')(hz:bJ c.P 0 z=some (.c (.nils s)))
  (h:∃ sz,ae A y'=.slice sz []∨ae A y'=.c0 sz) {a:Act} {w:World} {D:aN} {E:aZ} (hs:aT c A a w D E):∃ b,(execOp a.eval o).run c.P w=.ok (.value (.bool b)) w:=by
 have h0:=cg hs hy
 have h1:aW w D E (.nils s) (a.eval z):=cg hs hz
 have hv:∃ ad cp,a.eval y=.slice ad 0 cp:=by
  obtain ⟨sz,h | h⟩:=h <;>rw[h] at h0
  ·obtain ⟨ad,cap,e1,_⟩:=mZ h0
   exact ⟨ad,cap,by simpa using e1⟩
  ·obtain ⟨cs,q1,q2⟩:=h0
   simp only[ah] at q2
   obtain ⟨ad,q2⟩:=q2
   exact ⟨ad,0,by simpa[bK,I.isAgg,q2] using q1.symm⟩
 obtain ⟨ad,cp,hyv⟩:=hv
 have hv:a.eval z=.slice none 0 0:=by
  obtain ⟨cs,q1,q2⟩:=h1
  simp only[ah] at q2
  simpa[bK,I.isAgg,q2] using q1.symm
 have he:∀ d,(Op.equalIn (d+1) t (.slice ad 0 cp) (.slice none 0 0)).run c.P w=.ok ad.isNone w:=fun d=>by
  cases ad <;>simp[Op.equalIn,run_underlying hu]
 refine ⟨if neg then !ad.isNone else ad.isNone,?_⟩
 cases neg <;>simp only[execOp,ho,hyv,hv,if_true,Bool.false_eq_true,if_false,Sem.run_bind,eqGuard] <;>simp[binOp,Op.equal,Op.maxDepth,he]
def iA(y:I)(p:List Nat)(j:Nat)(fs ys:List I):I:=y.dz p (.agg (fs.take j++(ys++fs.drop (j+ys.length))))
theorem YS{t e:TypeId}{y:Operand}{y':aH}{z:I}{n:Nat}{p:List Nat}{lo k:Nat}{b:I}{fs:List I}(ho:o.op=.call { callee:=.builtin .clear,args := #[y],argTypes := #[t] })(hu:c.P.underlying t=some (.slice e))(hy:bJ c.P t y=some y')
  (hz:gj c.P e=some z) (hv:ae A y'=.view n p (c.P.cellsOf e) lo k) (hn:A.o n=some (.box b)) (hat:b.at p=some (.agg fs)) (hsh:I.cK (List.replicate k z)=I.cK ((fs.drop lo).take k)) (hd:o.dst=none) :
  iU c A o (A.aK n (.box (iA b p lo fs (List.replicate k z)))):=by
 intro a w D E hs
 obtain ⟨i,zv,hi,hzv,hzr⟩:=mn hz
 have h0:=cg hs hy
 rw[hv] at h0
 have hx:cC A (.ptr n p)=some (.agg fs):=by simp only[cC,hn,hat]
 obtain ⟨yy,bk,cs,T,off,c1,c2,c3,k1,k2,k3,k4,k5,k6,k7,k8,k9,k10,k11,k12,hval⟩:=hs.view h0 hx
 rw[hn] at k1
 simp only[Option.some.injEq,ai.box.injEq] at k1
 subst k1
 have hr:aG w D E (List.replicate k z) (Builtin.zeroCells zv.cells k).toList:=by
  rw[u0];exact rR (hzr w D E) k
 obtain ⟨w',h1,h2⟩:=hs.iA (j:=lo) (ys:=List.replicate k z) hn k2 k3 k4 k5 k6 k7 k8 k9 k10 hr (by simpa using k11) (by simpa using hsh) c.P
 cases k with
 |zero =>
  refine ⟨w,.inl ⟨.tuple #[],?_,D,E,?_⟩⟩
  ·simp[execOp,ho,resolve,invoke,builtin,Builtin.clear_,run_underlying hu,hval]
  ·rw[hd]
   have:iA b p lo fs (List.replicate 0 z)=b.dz p (.agg fs):=by simp[iA]
   have hw:w'=w:=by
    simp[Builtin.zeroCells,storeCells] at h1
    exact h1.symm
   rw[hw] at h2
   exact h2
 |succ k =>
  refine ⟨w',.inl ⟨.tuple #[],?_,D,E,?_⟩⟩
  ·simp[execOp,ho,resolve,invoke,builtin,Builtin.clear_,run_underlying hu,hval,zeroValue,typeInfo,hi,hzv,h1]
  ·rw[hd];exact h2
theorem YT{t e:TypeId}{y x:Operand}{y' x':aH}{n:Nat}{p:List Nat}{lo k m:Nat}{b:I}{fs ys:List I}(ho:o.op=.call { callee:=.builtin .copy,args := #[y,x],argTypes := #[t,t] })(hu:c.P.underlying t=some (.slice e))(hi:(c.P.info? e).isSome=true)
  (hy:bJ c.P t y=some y') (hx:bJ c.P t x=some x') (hv:ae A y'=.view n p (c.P.cellsOf e) lo k) (hn:A.o n=some (.box b)) (hat:b.at p=some (.agg fs)) (hs:er A (c.P.cellsOf e) (ae A x')=some ys) (hm:m=min ys.length k)
  (hsh:I.cK (ys.take m)=I.cK ((fs.drop lo).take m)) (hdn:∀ k,o.dst=some k→k<c.n) :
  iU c A o ((A.aK n (.box (iA b p lo fs (ys.take m)))).aJ o.dst (.int .i64 m)):=by
 intro a w D E hsim
 obtain ⟨i,hi⟩:=Option.isSome_iff_exists.1 hi
 have h0:=cg hsim hy
 rw[hv] at h0
 have hxx:cC A (.ptr n p)=some (.agg fs):=by simp only[cC,hn,hat]
 obtain ⟨yy,bk,cs,T,off,c1,c2,c3,k1,k2,k3,k4,k5,k6,k7,k8,k9,k10,k11,k12,hval⟩:=hsim.view h0 hxx
 rw[hn] at k1
 simp only[Option.some.injEq,ai.box.injEq] at k1
 subst k1
 obtain ⟨ad,cp,news,s1,s2,s3,s4,s5,s6⟩:=hsim.n8 (cg hsim hx) hs
 have hmy:m≤ys.length:=by omega
 have hci:c.P.cellsOf e=i.size:=by simp[Program.cellsOf,hi]
 obtain ⟨d1,d2,d3,e1,e2,e3,e4⟩:=uC s4 s5 0 m (by omega)
 simp only[Nat.zero_mul,List.drop_zero] at e2 e3
 have e2':d1=[]:=List.eq_nil_of_length_eq_zero e2
 subst e2'
 simp only[List.nil_append] at e1
 have hlen:(ys.take m).length=m:=by rw[List.length_take];omega
 have hd2:d2.length=m*i.size:=by rw[aG.length _ _ e3,I.iB (sz:=c.P.cellsOf e) _ (fun y hy=>s5 y (List.mem_of_mem_take hy)),hlen,hci]
 obtain ⟨w',h1,h2⟩:=hsim.iA (j:=lo) (ys:=ys.take m) hn k2 k3 k4 k5 k6 k7 k8 k9 k10 e3 (by rw[hlen];omega) (by rw[hlen];exact hsh) c.P
 have hf:(Builtin.firstCells i.size m (.slice ad ys.length cp)).run c.P w=.ok d2.toArray w:=by
  by_cases hm0:m=0
  ·have:d2=[]:=List.eq_nil_of_length_eq_zero (by rw[hd2,hm0];simp)
   subst this
   cases ad with
   |none=>exact run_firstCells_none _ _ _ _ _
   |some ad=>exact run_firstCells_some w i.size m ad ys.length cp [] (by simp[hm0]) (by simp)
  ·obtain ⟨b2,o2,rfl,hr⟩:=s6 (fun h=>by rw[h] at hmy;simp at hmy;omega)
   refine run_firstCells_some w i.size m _ ys.length cp d2 hd2 fun j v hj =>?_
   rw[Addr.add_lit]
   refine hr j v ?_
   rw[e1,List.getElem?_append_left (List.getElem?_eq_some_iff.1 hj).1]
   exact hj
 have h63:m≤maxLen:=by omega
 refine ⟨w',.inl ⟨.int .i64 m,?_,D,E,h2.aJ hdn (kX (yj h63))⟩⟩
 have hmin:Nat.min ys.length k=m:=hm.symm
 rw[←hci] at hf
 simp only[execOp,ho,resolve,invoke,builtin,Sem.run_bind,Sem.run_pure,Result.andThen_ok,List.map_toArray,List.map_cons,List.map_nil,hval,s1]
 simp[Builtin.copy_,run_underlying hu,Builtin.lenOf,hmin,jk hi,hf,h1,goInt]
theorem pz{a:Act}{w:World}{D:aN}{E:aZ}(hs:aT c A a w D E){sz:Nat}{x:I}{v:Value}{es:List I}(hv:aW w D E x v)(he:er A sz x=some es) :
  ∃ ad cp olds,v=.slice ad es.length cp∧es.length≤cp∧cp≤maxLen∧aG w D E es olds∧(∀ y∈es,y.size=sz)∧∀ (P:Program) (w':World),(∀ p u,w.cell? p=some u→w'.cell? p=some u)→(Builtin.firstCells sz es.length v).run P w'=.ok olds.toArray w':=by
 obtain ⟨ad,cp,news,s1,s2,s3,s4,s5,s6⟩:=hs.n8 hv he
 refine ⟨ad,cp,news,s1,s2,s3,s4,s5,fun P w' hw =>?_⟩
 have hl:news.length=es.length*sz:=by rw[aG.length _ _ s4,I.iB _ s5]
 rw[s1]
 by_cases h0:es=[]
 ·subst h0
  have:news=[]:=List.eq_nil_of_length_eq_zero (by rw[hl];simp)
  subst this
  cases ad with
  |none=>exact run_firstCells_none _ _ _ _ _
  |some ad=>exact run_firstCells_some w' sz _ ad _ cp [] (by simp) (by simp)
 ·obtain ⟨b,o',rfl,hr⟩:=s6 h0
  exact run_firstCells_some w' sz _ _ _ cp news hl fun j v hj=>by rw[Addr.add_lit];exact hw _ _ (hr j v hj)
theorem Q8{t e:TypeId}{s x:Operand}{s' x':aH}{es ys:List I}{z:I}{d:Nat}(ho:o.op=.call { callee:=.builtin .append,args := #[s,x],argTypes := #[t,t] })(hu:c.P.underlying t=some (.slice e))(hs':bJ c.P t s=some s')(hx':bJ c.P t x=some x')
  (hz:gj c.P e=some z) (hzs:z.size=c.P.cellsOf e) (hse:er A (c.P.cellsOf e) (ae A s')=some es) (hsx:er A (c.P.cellsOf e) (ae A x')=some ys) (hby:(es.length+ys.length)*c.P.bytesOf e≤140737488355328)
  (hd:o.dst=some d) (hdn:d<c.n) (hf:A.o d=none) (hne:ys≠[]) {a:Act} {w:World} {D:aN} {E:aZ} (hsim:aT c A a w D E) (hfull:∀ ad l cp,a.eval s=.slice ad l cp→cp<l+ys.length) (hml:es.length+ys.length≤maxLen) :
  ∃ v w' m,(execOp a.eval o).run c.P w=.ok (.value v) w'∧es.length+ys.length+m≤maxLen ∧
   cw c ((A.aK d (.box (.agg (es++(ys++List.replicate m z))))).aJ o.dst (.view d [] (c.P.cellsOf e) 0 (es.length+ys.length))) (a.put o.dst v) w':=by
 obtain ⟨i,zv,hi,hzv,hzr⟩:=mn hz
 have hci:c.P.cellsOf e=i.size:=by simp[Program.cellsOf,hi]
 have hbi:c.P.bytesOf e=i.bytes:=by simp[Program.bytesOf,hi]
 obtain ⟨ad1,cp1,olds,s1,s2,s3,s4,s5,s6⟩:=pz hsim (cg hsim hs') hse
 obtain ⟨ad2,cp2,news,t1,t2,t3,t4,t5,t6⟩:=pz hsim (cg hsim hx') hsx
 have hlt:=hfull _ _ _ s1
 obtain ⟨m,hm⟩:∃ m,m=grownCap w (es.length+ys.length) cp1 e-(es.length+ys.length):=⟨_,rfl⟩
 have hge:=grownCap_ge w (es.length+ys.length) cp1 e
 have hle:=grownCap_le_maxLen w (es.length+ys.length) cp1 e hml
 obtain ⟨cells,hcells⟩:∃ cells:Array Value,cells=olds.toArray++news.toArray++Builtin.zeroCells zv.cells m:=⟨_,rfl⟩
 have hrun:(Builtin.append_ #[t,t] o.type #[a.eval s,a.eval x]).run c.P w=.ok (.slice (some ⟨w.heap.size,0,none⟩) (es.length+ys.length) (grownCap w (es.length+ys.length) cp1 e)) (w.drew.alloc (.cells cells e)):=by
  have hn:¬ (es.length+ys.length≤cp1):=by omega
  have h63:¬ (9223372036854775807<((es.length:Int)+(ys.length:Int))):=by simp only[maxLen] at hml;omega
  have h48:¬ (281474976710656<Builtin.nextslicecap (es.length+ys.length) cp1*i.bytes):=by
   have h3:(es.length+ys.length)*i.bytes≤140737488355328:=by rw[←hbi];exact hby
   have:=growslice_fits hlt h3
   omega
  have g1:=s6 c.P w.drew (fun _ _ h=>h)
  have g2:=t6 c.P w.drew (fun _ _ h=>h)
  rw[s1,hci] at g1
  rw[t1,hci] at g2
  rw[s1,t1,hcells,hm]
  simp[Builtin.append_,run_underlying hu,sizeOf,typeInfo,zeroValue,hi,hzv,Builtin.lenOf,hn,h63,h48,Question.forced,g1,g2,newRow,grownCap]
  congr 2
  apply Array.ext'
  simp[List.append_assoc]
 have hcl:cells.toList=olds++(news++(List.replicate m zv.cells.toList).flatten):=by
  rw[hcells];simp[u0]
 have hrc:ah w D E (.agg (es++(ys++List.replicate m z))) cells.toList:=by
  rw[hcl]
  simp only[ah]
  exact kE _ _ _ _ s4 (kE _ _ _ _ t4 (rR (hzr w D E) m))
 have hsim':aT c A a w.drew D E:=hsim.grow ⟨rfl,rfl,rfl,Nat.le_refl _,fun _ _=>rfl⟩ (fun _ _ h=>h) (fun _ _ h _=>h) (fun b o h=>hsim.dg b o h)
 have hrc':ah w.drew D E (.agg (es++(ys++List.replicate m z))) cells.toList:=ah.bL (w:=w) (w':=w.drew) (D:=D) (E:=E) ⟨fun _ _ h=>h,fun _ _ _ _ h=>h,fun _ _ _ h=>h,fun _ aE l h=>⟨aE,l,h,Nat.le_refl _,fun _=>rfl⟩,fun _ _ h=>h,fun _ _ h=>h,fun _ _ _ _ h=>h⟩ _ _ hrc
 have h1:=hsim'.rG (T:=e) (.inl hdn) hf hrc'
 have hall:∀ y∈es++(ys++List.replicate m z),y.size=c.P.cellsOf e:=by
  intro y hy
  rcases List.mem_append.1 hy with hy | hy
  ·exact s5 y hy
  ·rcases List.mem_append.1 hy with hy | hy
   ·exact t5 y hy
   ·rw[List.eq_of_mem_replicate hy];exact hzs
 have hlen:(es++(ys++List.replicate m z)).length=es.length+ys.length+m:=by simp[Nat.add_assoc]
 have h2:=h1.put (d:=d) (x:=.view d [] (c.P.cellsOf e) 0 (es.length+ys.length)) (v:=.slice (some ⟨w.heap.size,0,none⟩) (es.length+ys.length) (grownCap w (es.length+ys.length) cp1 e)) hdn ⟨_,by simp[bK,I.isAgg];rfl,by
  simp only[ah,if_true]
  refine ⟨w.heap.size,(I.agg (es++(ys++List.replicate m z))).aP,0,I.cK (es++(ys++List.replicate m z)),rfl,by cases (I.agg (es++(ys++List.replicate m z))).aP <;>simp[cO.off],by simp only[I.aP,cO.part],?_,?_,?_,?_⟩
  ·rw[I.dn,List.length_map,hlen,hm];simp;omega
  ·rw[I.dn,List.length_map,hlen];omega
  ·rw[I.dn,List.length_map,hlen];omega
  ·rw[I.dn]
   intro s hs
   obtain ⟨f,hf,rfl⟩:=List.mem_map.1 hs
   rw[I.mg];exact hall f hf⟩
 refine ⟨.slice (some ⟨w.heap.size,0,none⟩) (es.length+ys.length) (grownCap w (es.length+ys.length) cp1 e),w.drew.alloc (.cells cells e),m,?_,by omega,?_⟩
 ·unfold execOp
  simp only[ho,resolve,invoke,builtin,Sem.run_bind,Sem.run_pure,Result.andThen_ok,List.map_toArray,List.map_cons,List.map_nil,hrun]
 ·rw[hd]
  exact ⟨D,_,h2⟩
theorem Rc{t t' e:TypeId}{s x:Operand}{s' x':aH}{es:List I}{k:Nat}{kx kt:IntKind}{bd:Int}{z:I}{d:Nat}(ho:o.op=.call { callee:=.builtin .append,args := #[s,x],argTypes := #[t,t'] })(hu:c.P.underlying t=some (.slice e))(hs':bJ c.P t s=some s')(hx':bJ c.P t' x=some x')(ht':c.P.underlying t'=some (.int kt))(hvx:ae A x'=.int kx bd)(hk:bd.toNat=k)(hk0:0<k)(hpos:0<c.P.cellsOf e)
  (hz:gj c.P e=some z) (hzs:z.size=c.P.cellsOf e) (hse:er A (c.P.cellsOf e) (ae A s')=some es) (hby:(es.length+k)*c.P.bytesOf e≤140737488355328)
  (hd:o.dst=some d) (hdn:d<c.n) (hf:A.o d=none) {a:Act} {w:World} {D:aN} {E:aZ} (hsim:aT c A a w D E) (hfull:∀ ad l cp,a.eval s=.slice ad l cp→cp<l+k) (hml:es.length+k≤maxLen) :
  ∃ v w' m,(execOp a.eval o).run c.P w=.ok (.value v) w'∧es.length+k+m≤maxLen ∧
   cw c ((A.aK d (.box (.agg (es++(List.replicate k z++List.replicate m z))))).aJ o.dst (.view d [] (c.P.cellsOf e) 0 (es.length+k))) (a.put o.dst v) w':=by
 obtain ⟨i,zv,hi,hzv,hzr⟩:=mn hz
 have hci:c.P.cellsOf e=i.size:=by simp[Program.cellsOf,hi]
 have hbi:c.P.bytesOf e=i.bytes:=by simp[Program.bytesOf,hi]
 obtain ⟨ad1,cp1,olds,s1,s2,s3,s4,s5,s6⟩:=pz hsim (cg hsim hs') hse
 have v2:=cg hsim hx'
 rw[hvx] at v2
 have t1:a.eval x=.int kx ((k:Nat):Int):=by rw[(fy v2).1];congr 1;omega
 have t4:aG w D E (List.replicate k z) (List.replicate k zv.cells.toList).flatten:=rR (hzr w D E) k
 have t5:∀ y∈List.replicate k z,y.size=c.P.cellsOf e:=fun y hy=>by rw[List.eq_of_mem_replicate hy];exact hzs
 have hlt:=hfull _ _ _ s1
 obtain ⟨m,hm⟩:∃ m,m=grownCap w (es.length+k) cp1 e-(es.length+k):=⟨_,rfl⟩
 have hge:=grownCap_ge w (es.length+k) cp1 e
 have hle:=grownCap_le_maxLen w (es.length+k) cp1 e hml
 obtain ⟨cells,hcells⟩:∃ cells:Array Value,cells=olds.toArray++Builtin.zeroCells zv.cells k++Builtin.zeroCells zv.cells m:=⟨_,rfl⟩
 have hrun:(Builtin.append_ #[t,t'] o.type #[a.eval s,a.eval x]).run c.P w=.ok (.slice (some ⟨w.heap.size,0,none⟩) (es.length+k) (grownCap w (es.length+k) cp1 e)) (w.drew.alloc (.cells cells e)):=by
  have h3:(es.length+k)*i.bytes≤140737488355328:=by rw[←hbi];exact hby
  have g1:=s6 c.P w.drew (fun _ _ h=>h)
  rw[s1,hci] at g1
  have hfit:=growslice_fits hlt h3
  have hkb:k*i.bytes≤(es.length+k)*i.bytes:=Nat.mul_le_mul_right _ (by omega)
  rw[s1,t1,hcells,hm]
  exact Lib.run_append_grow_zeros w t t' o.type e i zv kx kt hu ht' hi hzv ad1 es.length cp1 olds g1 k hk0 (by rw[←hci];exact hpos) hlt (by simp only[maxLen] at hml;omega) (by omega) (by omega)
 have hcl:cells.toList=olds++((List.replicate k zv.cells.toList).flatten++(List.replicate m zv.cells.toList).flatten):=by
  rw[hcells];simp[u0]
 have hrc:ah w D E (.agg (es++(List.replicate k z++List.replicate m z))) cells.toList:=by
  rw[hcl]
  simp only[ah]
  exact kE _ _ _ _ s4 (kE _ _ _ _ t4 (rR (hzr w D E) m))
 have hsim':aT c A a w.drew D E:=hsim.grow ⟨rfl,rfl,rfl,Nat.le_refl _,fun _ _=>rfl⟩ (fun _ _ h=>h) (fun _ _ h _=>h) (fun b o h=>hsim.dg b o h)
 have hrc':ah w.drew D E (.agg (es++(List.replicate k z++List.replicate m z))) cells.toList:=ah.bL (w:=w) (w':=w.drew) (D:=D) (E:=E) ⟨fun _ _ h=>h,fun _ _ _ _ h=>h,fun _ _ _ h=>h,fun _ aE l h=>⟨aE,l,h,Nat.le_refl _,fun _=>rfl⟩,fun _ _ h=>h,fun _ _ h=>h,fun _ _ _ _ h=>h⟩ _ _ hrc
 have h1:=hsim'.rG (T:=e) (.inl hdn) hf hrc'
 have hall:∀ y∈es++(List.replicate k z++List.replicate m z),y.size=c.P.cellsOf e:=by
  intro y hy
  rcases List.mem_append.1 hy with hy | hy
  ·exact s5 y hy
  ·rcases List.mem_append.1 hy with hy | hy
   ·exact t5 y hy
   ·rw[List.eq_of_mem_replicate hy];exact hzs
 have hlen:(es++(List.replicate k z++List.replicate m z)).length=es.length+k+m:=by simp[Nat.add_assoc]
 have h2:=h1.put (d:=d) (x:=.view d [] (c.P.cellsOf e) 0 (es.length+k)) (v:=.slice (some ⟨w.heap.size,0,none⟩) (es.length+k) (grownCap w (es.length+k) cp1 e)) hdn ⟨_,by simp[bK,I.isAgg];rfl,by
  simp only[ah,if_true]
  refine ⟨w.heap.size,(I.agg (es++(List.replicate k z++List.replicate m z))).aP,0,I.cK (es++(List.replicate k z++List.replicate m z)),rfl,by cases (I.agg (es++(List.replicate k z++List.replicate m z))).aP <;>simp[cO.off],by simp only[I.aP,cO.part],?_,?_,?_,?_⟩
  ·rw[I.dn,List.length_map,hlen,hm];simp;omega
  ·rw[I.dn,List.length_map,hlen];omega
  ·rw[I.dn,List.length_map,hlen];omega
  ·rw[I.dn]
   intro s hs
   obtain ⟨f,hf,rfl⟩:=List.mem_map.1 hs
   rw[I.mg];exact hall f hf⟩
 refine ⟨.slice (some ⟨w.heap.size,0,none⟩) (es.length+k) (grownCap w (es.length+k) cp1 e),w.drew.alloc (.cells cells e),m,?_,by omega,?_⟩
 ·unfold execOp
  simp only[ho,resolve,invoke,builtin,Sem.run_bind,Sem.run_pure,Result.andThen_ok,List.map_toArray,List.map_cons,List.map_nil,hrun]
 ·rw[hd]
  exact ⟨D,_,h2⟩
theorem YP{t e:TypeId}{s x:Operand}{s' x':aH}{ys:List I}{n:Nat}{p:List Nat}{lo k:Nat}{b:I}{fs:List I}(ho:o.op=.call { callee:=.builtin .append,args := #[s,x],argTypes := #[t,t] })(hu:c.P.underlying t=some (.slice e))(hi:(c.P.info? e).isSome=true)
  (hs':bJ c.P t s=some s') (hx':bJ c.P t x=some x') (hv:ae A s'=.view n p (c.P.cellsOf e) lo k) (hn:A.o n=some (.box b)) (hat:b.at p=some (.agg fs)) (hsx:er A (c.P.cellsOf e) (ae A x')=some ys) (hroom:lo+k+ys.length≤fs.length)
  (hsh:I.cK ys=I.cK ((fs.drop (lo+k)).take ys.length)) (hdn:∀ k,o.dst=some k→k<c.n) :
  iU c A o ((A.aK n (.box (iA b p (lo+k) fs ys))).aJ o.dst (.view n p (c.P.cellsOf e) lo (k+ys.length))):=by
 intro a w D E hsim
 obtain ⟨i,hi⟩:=Option.isSome_iff_exists.1 hi
 have hci:c.P.cellsOf e=i.size:=by simp[Program.cellsOf,hi]
 have h0:=cg hsim hs'
 rw[hv] at h0
 have hxx:cC A (.ptr n p)=some (.agg fs):=by simp only[cC,hn,hat]
 obtain ⟨yy,bk,cs,T,off,c1,c2,c3,k1,k2,k3,k4,k5,k6,k7,k8,k9,k10,k11,k12,hval⟩:=hsim.view h0 hxx
 rw[hn] at k1
 simp only[Option.some.injEq,ai.box.injEq] at k1
 subst k1
 obtain ⟨ad2,cp2,news,t1,t2,t3,t4,t5,t6⟩:=pz hsim (cg hsim hx') hsx
 obtain ⟨w',h1,h2⟩:=hsim.iA (j:=lo+k) (ys:=ys) hn k2 k3 k4 k5 k6 k7 k8 k9 k10 t4 hroom hsh c.P
 have g2:=t6 c.P w (fun _ _ h=>h)
 rw[t1,hci] at g2
 have hr:k+ys.length≤fs.length-lo:=by omega
 refine ⟨w',.inl ⟨.slice (some ⟨bk,off+lo*c.P.cellsOf e,none⟩) (k+ys.length) (fs.length-lo),?_,D,E,h2.aJ hdn ?_⟩⟩
 ·have e1:off+lo*i.size+k*i.size=off+(lo+k)*c.P.cellsOf e:=by rw[hci,Nat.add_mul];omega
  unfold execOp
  simp only[ho,resolve,invoke,builtin,Sem.run_bind,Sem.run_pure,Result.andThen_ok,List.map_toArray,List.map_cons,List.map_nil,hval,t1]
  simp[Builtin.append_,run_underlying hu,sizeOf,typeInfo,hi,Builtin.lenOf,hr,g2,Addr.add_lit,hci,e1]
  rw[hci] at h1
  simp[h1]
 ·refine ⟨_,by simp[bK,I.isAgg];rfl,?_⟩
  simp only[ah]
  refine ⟨bk,b.aP,off,I.cK fs,k2,k5,na p b _ k4,?_,?_,?_,?_⟩
  ·rw[I.dn,List.length_map]
  ·rw[I.dn,List.length_map];exact k12
  ·rw[I.dn,List.length_map];omega
  ·rw[I.dn]
   intro s hs
   obtain ⟨f,hf,rfl⟩:=List.mem_map.1 hs
   rw[I.mg];exact k10 f hf
theorem YQ{t e:TypeId}{s x:Operand}{s' x':aH}{es:List I}(ho:o.op=.call { callee:=.builtin .append,args := #[s,x],argTypes := #[t,t] })(hu:c.P.underlying t=some (.slice e))(hi:(c.P.info? e).isSome=true)(hs':bJ c.P t s=some s')(hx':bJ c.P t x=some x')
  (hse:er A (c.P.cellsOf e) (ae A s')=some es) (hsx:er A (c.P.cellsOf e) (ae A x')=some []):dR c A o (ae A s') :=
 .same fun a w D E hsim=>by
  obtain ⟨i,hi⟩:=Option.isSome_iff_exists.1 hi
  have hci:c.P.cellsOf e=i.size:=by simp[Program.cellsOf,hi]
  obtain ⟨ad1,cp1,olds,s1,s2,s3,s4,s5,s6⟩:=pz hsim (cg hsim hs') hse
  obtain ⟨ad2,cp2,news,t1,t2,t3,t4,t5,t6⟩:=pz hsim (cg hsim hx') hsx
  have g2:=t6 c.P w (fun _ _ h=>h)
  rw[t1,hci] at g2
  simp only[aG] at t4
  subst t4
  refine ⟨a.eval s,?_,cg hsim hs'⟩
  simp only[List.length_nil] at g2 t1
  unfold execOp
  simp only[ho,resolve,invoke,builtin,Sem.run_bind,Sem.run_pure,Result.andThen_ok,List.map_toArray,List.map_cons,List.map_nil,s1,t1]
  cases ad1 <;>simp[Builtin.append_,run_underlying hu,sizeOf,typeInfo,hi,Builtin.lenOf,s2,g2,storeCells]
end
end Go.Abs
