/-
  A part of the proof that the law HerdKnown returns true for every input; conditions: none beyond the statement's own. (part 1 of 7)
-/
import Derived.WalkKit
import Derived.Orders
import Derived.Still
import Derived.RangeFuncSeq
import Derived.RangeFuncLeaves
import Derived.RangeFuncOwn
import Derived.Great.FillDense
import Derived.Great.BuildSlice
import Derived.ChangeKeysEq
import Derived.Laws.AppendOwn
import Derived.Lib.AppendZerosOnto
set_option linter.unusedSimpArgs false
set_option linter.unusedVariables false
set_option maxHeartbeats 16000000
set_option maxRecDepth 100000
namespace Go.Abs
open Go
inductive I where
 |undef | c7
 |bool (b:Bool)
 |int (k:IntKind) (n:Int)
 |cV (s:ByteArray)
 |nilp | de | dS
 |raw (v:Value)
 |nils (sz:Nat)
 |c0 (sz:Nat)
 |slice (sz:Nat) (es:List I)
 |agg (fs:List I)
 |tuple (fs:List I)
 |ref (c:I)
 |func (f:FuncId) (caps:List I)
 |iface (t:TypeId) (v:I)
 |ptr (n:Nat) (p:List Nat)
 |own (n:Nat) (k:Nat)
 |view (n:Nat) (p:List Nat) (sz lo k:Nat)
 |mref (n:Nat)
 |dx (n:Nat)
 |cU (ks vs:List I)
 deriving Inhabited
inductive cO where
 |one
 |eh (l:List cO)
 deriving Inhabited
mutual
def cO.size:cO→Nat
 | .one=>1
 | .eh l=>cO.sizes l
def cO.sizes:List cO→Nat
 | []=>0
 |s::l=>s.size+cO.sizes l
end
mutual
def I.aR:I→cO
 | .agg fs=>.eh (I.cT fs)
 |_=>.one
def I.cT:List I→List cO
 | []=>[]
 |f::fs=>f.aR::I.cT fs
end
mutual
def I.size:I→Nat
 | .agg fs=>I.sizes fs
 |_=>1
def I.sizes:List I→Nat
 | []=>0
 |f::fs=>f.size+I.sizes fs
end
def I.isAgg:I→Bool
 | .agg _=>true
 |_=>false
def cO.off:cO→List Nat→Option Nat
 |_,[]=>some 0
 | .one,_::_=>none
 | .eh l,i::p=>match l[i]? with
  |some s=>(s.off p).map (cO.sizes (l.take i) + ·)
  |none=>none
def cO.part:cO→List Nat→Option cO
 |s,[]=>some s
 | .one,_::_=>none
 | .eh l,i::p=>match l[i]? with
  |some s=>s.part p
  |none=>none
def I.at:I→List Nat→Option I
 |c,[]=>some c
 | .agg fs,i::p=>match fs[i]? with
  |some f=>f.at p
  |none=>none
 |_,_::_=>none
def I.dH:I→List Nat→I→I
 |_,[],v=>v
 | .agg fs,i::p,v=>match fs[i]? with
  |some f=>.agg (fs.set i (f.dH p v))
  |none=>.agg fs
 |c,_::_,_=>c
inductive bR where
 |aB (b:Nat) (aR:cO)
 |rw (aD:Option (Nat×Nat)) (len:Nat)
 |op (b:Nat)
 |ct (b:Nat)
 |it (b:Nat)
def bR.eO:bR→Bool
 | .rw _ _=>false
 |_=>true
def bR.le(e e':bR):Prop:=e'=e∨∃ aD l blk' l',e=.rw aD l∧e'=.rw blk' l'∧l≤l'∧(l'=l→blk'=aD)
theorem bR.le.refl(e:bR):e.le e:=.inl rfl
theorem bR.le.eq{e e':bR}(h:e.le e')(hf:e.eO=true):e'=e:=by
 rcases h with h | ⟨aD,l,blk',l',rfl,_⟩
 ·exact h
 ·cases hf
theorem bR.le.trans{a b c:bR}(h:a.le b)(k:b.le c):a.le c:=by
 rcases h with rfl | ⟨aD,l,blk',l',rfl,rfl,h1,h2⟩
 ·exact k
 ·rcases k with rfl | ⟨_,_,blk2,l2,e,rfl,h3,h4⟩
  ·exact .inr ⟨aD,l,blk',l',rfl,rfl,h1,h2⟩
  ·cases e
   exact .inr ⟨aD,l,blk2,l2,rfl,rfl,by omega,fun e=>by rw[h4 (by omega),h2 (by omega)]⟩
abbrev aQ:=Nat→Nat→Prop
abbrev aU:=Nat→Option bR
def gO(w:World)(D:aQ)(b off:Nat)(cs:List Value):Prop :=
 ∀ j v,cs[j]?=some v→w.cell? ⟨b,off+j,none⟩=some v∧D b (off+j)
def qf(es:Array MapEntry)(clock:Nat):Prop:=(∀ x∈es.toList,x.born<clock)∧(es.toList.map (·.born)).Nodup
def oy(w:World)(D:aQ)(b:Nat)(es:Array MapEntry)(clock:Nat):Prop:=w.heap[b]?=some (.map es clock)∧D b 0∧qf es clock
def bK(e:I)(v:Value)(cs:List Value):Prop:=if e.isAgg then v=.agg cs.toArray else cs=[v]
mutual
/-- These cells hold this value. -/
def af(w:World)(D:aQ)(E:aU):I→List Value→Prop
 | .agg fs,cs=>aJ w D E fs cs
 | .bool b,cs=>cs=[.bool b]
 | .int k n,cs=>cs=[.int k n]∧k.min≤n∧n≤k.max
 | .cV s,cs=>cs=[.string s]∧s.size≤maxLen
 | .nilp,cs=>cs=[.pointer none]
 | .de,cs=>cs=[.nilFunc]
 | .dS,cs=>cs=[.nilIface]
 | .raw u,cs=>cs=[u]∧u.oneCell'=true
 | .nils _,cs=>cs=[.slice none 0 0]
 | .c0 _,cs=>∃ a,cs=[.slice a 0 0]
 | .slice sz es,cs=>∃ a cap,cs=[.slice a es.length cap]∧es.length≤cap∧cap≤maxLen ∧
   (es=[]∨∃ b off cs',a=some ⟨b,off,none⟩∧gO w D b off cs'∧aJ w D E es cs')∧∀ e∈es,e.size=sz
 | .ref c,cs=>∃ b off cs',cs=[.pointer (some ⟨b,off,none⟩)]∧gO w D b off cs'∧af w D E c cs'
 | .func f caps,cs=>∃ vs:List Value,cs=[.func (.func f) #[] vs.toArray]∧aI w D E caps vs
 | .iface t v,cs=>∃ u cs',cs=[.iface t u]∧bK v u cs'∧af w D E v cs'
 | .ptr n p,cs=>∃ b aR off,E n=some (.aB b aR)∧aR.off p=some off∧cs=[.pointer (some ⟨b,off,none⟩)]
 | .own n k,cs=>∃ aD l,E n=some (.rw aD l)∧k≤l∧(∃ a m c,cs=[.slice a m c]) ∧
   (k=l→match aD with | none=>cs=[.slice none 0 0] | some (b,cap)=>cs=[.slice (some ⟨b,0,none⟩) k cap])
 | .view n p sz lo k,cs=>∃ b aR off l,E n=some (.aB b aR)∧aR.off p=some off∧aR.part p=some (.eh l)∧cs=[.slice (some ⟨b,off+lo*sz,none⟩) k (l.length-lo)]∧l.length≤maxLen∧lo+k≤l.length∧∀ s∈l,s.size=sz
 | .mref n,cs=>∃ b,E n=some (.ct b)∧cs=[.map (some b)]
 | .dx n,cs=>∃ b,E n=some (.it b)∧cs=[.pointer (some ⟨b,0,none⟩)]
 | .cU ks vs,cs=>∃ b es clock,cs=[.map (some b)]∧oy w D b es clock∧aI w D E ks (es.toList.map (·.key))∧aI w D E vs (es.toList.map (·.val))
 | .undef,_ | .c7,_ | .tuple _,_=>False
def aJ(w:World)(D:aQ)(E:aU):List I→List Value→Prop
 | [],cs=>cs=[]
 |e::es,cs=>∃ c1 c2,cs=c1++c2∧af w D E e c1∧aJ w D E es c2
def aI(w:World)(D:aQ)(E:aU):List I→List Value→Prop
 | [],vs=>vs=[]
 |e::es,vs=>∃ v rest cs,vs=v::rest∧bK e v cs∧af w D E e cs∧aI w D E es rest
end
def aT(w:World)(D:aQ)(E:aU)(x:I)(v:Value):Prop :=
 match x with
 | .undef=>v=undef
 | .c7=>True
 | .tuple fs=>∃ vs:List Value,v=.tuple vs.toArray∧aI w D E fs vs
 |x=>∃ cs,bK x v cs∧af w D E x cs
structure dN (w:World) (D:aQ) (E:aU) (w':World) (D':aQ) (E':aU):Prop where
 c5:∀ b o,D b o→D' b o
 cell:∀ b o v,D b o→w.cell? ⟨b,o,none⟩=some v→w'.cell? ⟨b,o,none⟩=some v
 aB:∀ n b aR,E n=some (.aB b aR)→E' n=some (.aB b aR)
 rw:∀ n aD l,E n=some (.rw aD l)→∃ blk' l',E' n=some (.rw blk' l')∧l≤l'∧(l'=l→blk'=aD)
 ct:∀ n b,E n=some (.ct b)→E' n=some (.ct b)
 it:∀ n b,E n=some (.it b)→E' n=some (.it b)
 jw:∀ b es ck,D b 0→w.heap[b]?=some (.map es ck)→w'.heap[b]?=some (.map es ck)
structure iv (w:World) (D:aQ) (w':World):Prop where
 cell:∀ b o v,D b o→w.cell? ⟨b,o,none⟩=some v→w'.cell? ⟨b,o,none⟩=some v
 jw:∀ b es ck,D b 0→w.heap[b]?=some (.map es ck)→w'.heap[b]?=some (.map es ck)
theorem iv.refl(w:World)(D:aQ):iv w D w:=⟨fun _ _ _ _ h=>h,fun _ _ _ _ h=>h⟩
theorem iv.trans{w w' w'':World}{D D':aQ}(h:iv w D w')(hD:∀ b o,D b o→D' b o)(k:iv w' D' w''):iv w D w'' :=
 ⟨fun b o v hd hv=>k.cell b o v (hD b o hd) (h.cell b o v hd hv),fun b es ck hd hm=>k.jw b es ck (hD b 0 hd) (h.jw b es ck hd hm)⟩
theorem dN.fE{w w':World}{D D':aQ}{E E':aU}(h:dN w D E w' D' E'):iv w D w':=⟨h.cell,h.jw⟩
theorem oy.bJ{w w':World}{D D':aQ}{E E':aU}(h:dN w D E w' D' E'){b:Nat}{es:Array MapEntry}{clock:Nat}(hr:oy w D b es clock):oy w' D' b es clock :=
 ⟨h.jw _ _ _ hr.2.1 hr.1,h.c5 _ _ hr.2.1,hr.2.2⟩
theorem gO.bJ{w w':World}{D D':aQ}{E E':aU}(h:dN w D E w' D' E'){b off:Nat}{cs:List Value}(hr:gO w D b off cs):gO w' D' b off cs :=
 fun j v hj=>⟨h.cell _ _ _ (hr j v hj).2 (hr j v hj).1,h.c5 _ _ (hr j v hj).2⟩
mutual
theorem af.bJ{w w':World}{D D':aQ}{E E':aU}(h:dN w D E w' D' E'):∀ (x:I) (cs:List Value),af w D E x cs→af w' D' E' x cs
 | .agg fs,cs,hr=>by simp only[af] at *;exact aJ.bJ h fs cs hr
 | .bool b,cs,hr=>by simpa only[af] using hr
 | .int k n,cs,hr=>by simpa only[af] using hr
 | .cV s,cs,hr=>by simpa only[af] using hr
 | .nilp,cs,hr=>by simpa only[af] using hr
 | .de,cs,hr=>by simpa only[af] using hr
 | .dS,cs,hr=>by simpa only[af] using hr
 | .raw _,cs,hr=>by simpa only[af] using hr
 | .nils _,cs,hr=>by simpa only[af] using hr
 | .c0 _,cs,hr=>by simpa only[af] using hr
 | .slice sz es,cs,hr=>by
  simp only[af] at *
  obtain ⟨a,cap,h1,h2,h3,h4,h5⟩:=hr
  refine ⟨a,cap,h1,h2,h3,?_,h5⟩
  rcases h4 with h4 | ⟨b,off,cs',h6,h7,h8⟩
  ·exact .inl h4
  ·exact .inr ⟨b,off,cs',h6,h7.bJ h,aJ.bJ h es cs' h8⟩
 | .ref c,cs,hr=>by
  simp only[af] at *
  obtain ⟨b,off,cs',h1,h2,h3⟩:=hr
  exact ⟨b,off,cs',h1,h2.bJ h,af.bJ h c cs' h3⟩
 | .func f caps,cs,hr=>by
  simp only[af] at *
  obtain ⟨vs,h1,h2⟩:=hr
  exact ⟨vs,h1,aI.bJ h caps vs h2⟩
 | .iface t v,cs,hr=>by
  simp only[af] at *
  obtain ⟨u,cs',h1,h2,h3⟩:=hr
  exact ⟨u,cs',h1,h2,af.bJ h v cs' h3⟩
 | .ptr n p,cs,hr=>by
  simp only[af] at *
  obtain ⟨b,aR,off,h1,h2,h3⟩:=hr
  exact ⟨b,aR,off,h.aB _ _ _ h1,h2,h3⟩
 | .own n k,cs,hr=>by
  simp only[af] at *
  obtain ⟨aD,l,h1,h2,h3,h4⟩:=hr
  obtain ⟨blk',l',h5,h6,h7⟩:=h.rw _ _ _ h1
  refine ⟨blk',l',h5,Nat.le_trans h2 h6,h3,fun e =>?_⟩
  have e1:l'=l:=by omega
  rw[h7 e1]
  exact h4 (by omega)
 | .view n p _ _ _,cs,hr=>by
  simp only[af] at *
  obtain ⟨b,aR,off,l,h1,h2⟩:=hr
  exact ⟨b,aR,off,l,h.aB _ _ _ h1,h2⟩
 | .mref n,cs,hr=>by
  simp only[af] at *
  obtain ⟨b,h1,h2⟩:=hr
  exact ⟨b,h.ct _ _ h1,h2⟩
 | .dx n,cs,hr=>by
  simp only[af] at *
  obtain ⟨b,h1,h2⟩:=hr
  exact ⟨b,h.it _ _ h1,h2⟩
 | .cU ks vs,cs,hr=>by
  simp only[af] at *
  obtain ⟨b,es,clock,h1,h2,h3,h4⟩:=hr
  exact ⟨b,es,clock,h1,h2.bJ h,aI.bJ h ks _ h3,aI.bJ h vs _ h4⟩
 | .undef,_,hr=>by simp only[af] at hr
 | .c7,_,hr=>by simp only[af] at hr
 | .tuple _,_,hr=>by simp only[af] at hr
theorem aJ.bJ{w w':World}{D D':aQ}{E E':aU}(h:dN w D E w' D' E'):∀ (xs:List I) (cs:List Value),aJ w D E xs cs→aJ w' D' E' xs cs
 | [],cs,hr=>by simpa only[aJ] using hr
 |x::xs,cs,hr=>by
  simp only[aJ] at *
  obtain ⟨c1,c2,h1,h2,h3⟩:=hr
  exact ⟨c1,c2,h1,af.bJ h x c1 h2,aJ.bJ h xs c2 h3⟩
theorem aI.bJ{w w':World}{D D':aQ}{E E':aU}(h:dN w D E w' D' E'):∀ (xs:List I) (vs:List Value),aI w D E xs vs→aI w' D' E' xs vs
 | [],vs,hr=>by simpa only[aI] using hr
 |x::xs,vs,hr=>by
  simp only[aI] at *
  obtain ⟨v,rest,cs,h1,h2,h3,h4⟩:=hr
  exact ⟨v,rest,cs,h1,h2,af.bJ h x cs h3,aI.bJ h xs rest h4⟩
end
theorem aT.bJ{w w':World}{D D':aQ}{E E':aU}(h:dN w D E w' D' E'){x:I}{v:Value}(hr:aT w D E x v):aT w' D' E' x v:=by
 cases x <;>simp only[aT] at * <;>first
  |exact hr
  |(obtain ⟨vs,h1,h2⟩:=hr;exact ⟨vs,h1,aI.bJ h _ _ h2⟩)
  |(obtain ⟨cs,h1,h2⟩:=hr;exact ⟨cs,h1,af.bJ h _ _ h2⟩)
mutual
theorem I.l6:∀ x:I,x.aR.size=x.size
 | .agg fs=>by simp only[I.aR,I.size,cO.size];exact I.mV fs
 | .undef | .c7 | .bool _ | .int _ _ | .cV _ | .nilp | .de | .dS | .raw _ | .nils _ | .c0 _ | .slice _ _ | .tuple _ | .ref _ | .func _ _ | .iface _ _ | .ptr _ _ | .own _ _ | .view _ _ _ _ _ | .mref _ | .dx _ | .cU _ _=>by simp only[I.aR,I.size,cO.size]
theorem I.mV:∀ xs:List I,cO.sizes (I.cT xs)=I.sizes xs
 | []=>by simp only[I.cT,I.sizes,cO.sizes]
 |x::xs=>by simp only[I.cT,I.sizes,cO.sizes];rw[I.l6 x,I.mV xs]
end
mutual
theorem af.length{w:World}{D:aQ}{E:aU} : ∀ (x:I) (cs:List Value),af w D E x cs→cs.length=x.size
 | .agg fs,cs,hr=>by simp only[af,I.size] at *;exact aJ.length fs cs hr
 | .bool b,cs,hr=>by simp only[af] at hr;simp[hr,I.size]
 | .int k n,cs,hr=>by simp only[af] at hr;simp[hr.1,I.size]
 | .cV s,cs,hr=>by simp only[af] at hr;simp[hr.1,I.size]
 | .nilp,cs,hr=>by simp only[af] at hr;simp[hr,I.size]
 | .de,cs,hr=>by simp only[af] at hr;simp[hr,I.size]
 | .dS,cs,hr=>by simp only[af] at hr;simp[hr,I.size]
 | .raw u,cs,hr=>by simp only[af] at hr;simp[hr.1,I.size]
 | .nils _,cs,hr=>by simp only[af] at hr;simp[hr,I.size]
 | .c0 _,cs,hr=>by simp only[af] at hr;obtain ⟨a,rfl⟩:=hr;simp[I.size]
 | .slice sz es,cs,hr=>by simp only[af] at hr;obtain ⟨a,cap,rfl,_⟩:=hr;simp[I.size]
 | .ref c,cs,hr=>by simp only[af] at hr;obtain ⟨b,off,cs',rfl,_⟩:=hr;simp[I.size]
 | .func f caps,cs,hr=>by simp only[af] at hr;obtain ⟨vs,rfl,_⟩:=hr;simp[I.size]
 | .iface t v,cs,hr=>by simp only[af] at hr;obtain ⟨u,cs',rfl,_⟩:=hr;simp[I.size]
 | .ptr n p,cs,hr=>by simp only[af] at hr;obtain ⟨b,aR,off,_,_,rfl⟩:=hr;simp[I.size]
 | .own n k,cs,hr=>by simp only[af] at hr;obtain ⟨aD,l,_,_,⟨a,m,c,rfl⟩,_⟩:=hr;simp[I.size]
 | .view n p _ _ _,cs,hr=>by simp only[af] at hr;obtain ⟨b,aR,off,l,_,_,_,rfl,_⟩:=hr;simp[I.size]
 | .mref n,cs,hr=>by simp only[af] at hr;obtain ⟨b,_,rfl⟩:=hr;simp[I.size]
 | .dx n,cs,hr=>by simp only[af] at hr;obtain ⟨b,_,rfl⟩:=hr;simp[I.size]
 | .cU ks vs,cs,hr=>by simp only[af] at hr;obtain ⟨b,es,ck,rfl,_⟩:=hr;simp[I.size]
 | .undef,_,hr=>by simp only[af] at hr
 | .c7,_,hr=>by simp only[af] at hr
 | .tuple _,_,hr=>by simp only[af] at hr
theorem aJ.length{w:World}{D:aQ}{E:aU} : ∀ (xs:List I) (cs:List Value),aJ w D E xs cs→cs.length=I.sizes xs
 | [],cs,hr=>by simp only[aJ] at hr;simp[hr,I.sizes]
 |x::xs,cs,hr=>by
  simp only[aJ] at hr
  obtain ⟨c1,c2,rfl,h1,h2⟩:=hr
  simp only[List.length_append,I.sizes,af.length x c1 h1,aJ.length xs c2 h2]
end
mutual
theorem af.mH{w:World}{D:aQ}{E:aU} : ∀ (x:I) (cs:List Value),af w D E x cs→∀ v∈cs,v.oneCell'=true
 | .agg fs,cs,hr=>by simp only[af] at hr;exact aJ.mH fs cs hr
 | .bool b,cs,hr=>by simp only[af] at hr;simp[hr,Value.oneCell']
 | .int k n,cs,hr=>by simp only[af] at hr;simp[hr.1,Value.oneCell']
 | .cV s,cs,hr=>by simp only[af] at hr;simp[hr.1,Value.oneCell']
 | .nilp,cs,hr=>by simp only[af] at hr;simp[hr,Value.oneCell']
 | .de,cs,hr=>by simp only[af] at hr;simp[hr,Value.oneCell']
 | .dS,cs,hr=>by simp only[af] at hr;simp[hr,Value.oneCell']
 | .raw u,cs,hr=>by simp only[af] at hr;simpa[hr.1] using hr.2
 | .nils _,cs,hr=>by simp only[af] at hr;simp[hr,Value.oneCell']
 | .c0 _,cs,hr=>by simp only[af] at hr;obtain ⟨a,rfl⟩:=hr;simp[Value.oneCell']
 | .slice sz es,cs,hr=>by simp only[af] at hr;obtain ⟨a,cap,rfl,_⟩:=hr;simp[Value.oneCell']
 | .ref c,cs,hr=>by simp only[af] at hr;obtain ⟨b,off,cs',rfl,_⟩:=hr;simp[Value.oneCell']
 | .func f caps,cs,hr=>by simp only[af] at hr;obtain ⟨vs,rfl,_⟩:=hr;simp[Value.oneCell']
 | .iface t v,cs,hr=>by simp only[af] at hr;obtain ⟨u,cs',rfl,_⟩:=hr;simp[Value.oneCell']
 | .ptr n p,cs,hr=>by simp only[af] at hr;obtain ⟨b,aR,off,_,_,rfl⟩:=hr;simp[Value.oneCell']
 | .own n k,cs,hr=>by simp only[af] at hr;obtain ⟨aD,l,_,_,⟨a,m,c,rfl⟩,_⟩:=hr;simp[Value.oneCell']
 | .view n p _ _ _,cs,hr=>by simp only[af] at hr;obtain ⟨b,aR,off,l,_,_,_,rfl,_⟩:=hr;simp[Value.oneCell']
 | .mref n,cs,hr=>by simp only[af] at hr;obtain ⟨b,_,rfl⟩:=hr;simp[Value.oneCell']
 | .dx n,cs,hr=>by simp only[af] at hr;obtain ⟨b,_,rfl⟩:=hr;simp[Value.oneCell']
 | .cU ks vs,cs,hr=>by simp only[af] at hr;obtain ⟨b,es,ck,rfl,_⟩:=hr;simp[Value.oneCell']
 | .undef,_,hr=>by simp only[af] at hr
 | .c7,_,hr=>by simp only[af] at hr
 | .tuple _,_,hr=>by simp only[af] at hr
theorem aJ.mH{w:World}{D:aQ}{E:aU} : ∀ (xs:List I) (cs:List Value),aJ w D E xs cs→∀ v∈cs,v.oneCell'=true
 | [],cs,hr=>by simp only[aJ] at hr;simp[hr]
 |x::xs,cs,hr=>by
  simp only[aJ] at hr
  obtain ⟨c1,c2,rfl,h1,h2⟩:=hr
  intro v hv
  rcases List.mem_append.1 hv with h | h
  ·exact af.mH x c1 h1 v h
  ·exact aJ.mH xs c2 h2 v h
end
theorem bK.cells{x:I}{v:Value}{cs:List Value}{w:World}{D:aQ}{E:aU}(h:bK x v cs)(hr:af w D E x cs):v.cells.toList=cs:=by
 unfold bK at h
 split at h
 ·rw[h];simp[Value.cells]
 ·subst h
  have:=af.mH x _ hr v (by simp)
  cases v <;>simp[Value.cells,Value.oneCell'] at *
theorem mL{w:World}{D:aQ}{E:aU} : ∀ (xs:List I) (cs:List Value) (i:Nat) (x:I),aJ w D E xs cs→xs[i]?=some x →
  ∃ c1 c2 c3,cs=c1++c2++c3∧c1.length=I.sizes (xs.take i)∧aJ w D E (xs.take i) c1∧af w D E x c2∧aJ w D E (xs.drop (i+1)) c3
 | [],_,i,x,_,h=>by simp at h
 |y::ys,cs,0,x,hr,h=>by
  simp only[List.getElem?_cons_zero,Option.some.injEq] at h
  subst h
  simp only[aJ] at hr
  obtain ⟨c1,c2,rfl,h1,h2⟩:=hr
  exact ⟨[],c1,c2,by simp,by simp[I.sizes],by simp[aJ],h1,by simpa using h2⟩
 |y::ys,cs,i+1,x,hr,h=>by
  simp only[List.getElem?_cons_succ] at h
  simp only[aJ] at hr
  obtain ⟨c0,c',rfl,h1,h2⟩:=hr
  obtain ⟨c1,c2,c3,rfl,h3,h4,h5,h6⟩:=mL ys c' i x h2 h
  refine ⟨c0++c1,c2,c3,by simp,?_,?_,h5,by simpa using h6⟩
  ·simp only[List.length_append,List.take_succ_cons,I.sizes,h3,af.length y c0 h1]
  ·simp only[List.take_succ_cons,aJ]
   exact ⟨c0,c1,rfl,h1,h4⟩
theorem ki{w:World}{D:aQ}{E:aU} : ∀ (xs ys:List I) (cs ds:List Value),aJ w D E xs cs→aJ w D E ys ds→aJ w D E (xs++ys) (cs++ds)
 | [],ys,cs,ds,h,k=>by simp only[aJ] at h;subst h;simpa using k
 |x::xs,ys,cs,ds,h,k=>by
  simp only[aJ,List.cons_append] at *
  obtain ⟨c1,c2,rfl,h1,h2⟩:=h
  exact ⟨c1,c2++ds,by simp,h1,ki xs ys c2 ds h2 k⟩
theorem I.iJ{sz:Nat} : ∀ (xs:List I),(∀ x∈xs,x.size=sz)→I.sizes xs=xs.length*sz
 | [],_=>by simp[I.sizes]
 |x::xs,h=>by
  simp only[I.sizes,List.length_cons]
  rw[h x (by simp),I.iJ xs (fun y hy=>h y (by simp[hy])),Nat.add_mul]
  omega
theorem I.dq:∀ xs:List I,I.cT xs=xs.map I.aR
 | []=>by simp[I.cT]
 |x::xs=>by simp[I.cT,I.dq xs]
theorem yr{w:World}{D:aQ}{E:aU} : ∀ (p:List Nat) (c x:I) (cs:List Value),af w D E c cs→c.at p=some x →
  ∃ off c1 c2 c3,c.aR.off p=some off∧cs=c1++c2++c3∧c1.length=off∧af w D E x c2
 | [],c,x,cs,hr,h=>by
  simp only[I.at,Option.some.injEq] at h
  subst h
  exact ⟨0,[],cs,[],by cases c.aR <;>simp[cO.off],by simp,rfl,hr⟩
 |i::p,.agg fs,x,cs,hr,h=>by
  simp only[I.at] at h
  simp only[af] at hr
  cases hf:fs[i]? with
  |none=>simp[hf] at h
  |some f =>
   simp only[hf] at h
   obtain ⟨c1,c2,c3,rfl,h1,_,h3,_⟩:=mL fs cs i f hr hf
   obtain ⟨off,d1,d2,d3,h4,rfl,h6,h7⟩:=yr p f x c2 h3 h
   refine ⟨I.sizes (fs.take i)+off,c1++d1,d2,d3++c3,?_,by simp,by simp[h1,h6],h7⟩
   simp only[I.aR,cO.off,I.dq,List.getElem?_map,hf,Option.map_some,h4]
   rw[←List.map_take,←I.dq,I.mV]
 |_::_,.undef,_,_,_,h | _::_,.c7,_,_,_,h | _::_,.bool _,_,_,_,h | _::_,.int _ _,_,_,_,h | _::_,.cV _,_,_,_,h | _::_,.nilp,_,_,_,h
 |_::_,.de,_,_,_,h | _::_,.dS,_,_,_,h | _::_,.raw _,_,_,_,h | _::_,.nils _,_,_,_,h | _::_,.c0 _,_,_,_,h | _::_,.slice _ _,_,_,_,h | _::_,.tuple _,_,_,_,h
 |_::_,.ref _,_,_,_,h | _::_,.func _ _,_,_,_,h | _::_,.iface _ _,_,_,_,h | _::_,.ptr _ _,_,_,_,h | _::_,.own _ _,_,_,_,h | _::_,.view _ _ _ _ _,_,_,_,h | _::_,.mref _,_,_,_,h | _::_,.dx _,_,_,_,h | _::_,.cU _ _,_,_,_,h=>by simp[I.at] at h
theorem tW{w:World}{D:aQ}{E:aU} : ∀ (p:List Nat) (c x y:I) (cs ds:List Value),af w D E c cs→c.at p=some x→af w D E y ds→y.aR=x.aR →
  ∃ off,c.aR.off p=some off∧off+ds.length≤cs.length∧af w D E (c.dH p y) (cs.take off++ds++cs.drop (off+ds.length))∧(c.dH p y).aR=c.aR
 | [],c,x,y,cs,ds,hr,h,hy,hs=>by
  simp only[I.at,Option.some.injEq] at h
  subst h
  have hl:ds.length=cs.length:=by rw[af.length _ _ hy,af.length _ _ hr,←I.l6,←I.l6,hs]
  refine ⟨0,by cases c.aR <;>simp[cO.off],by omega,?_,by simpa[I.dH] using hs⟩
  simpa[I.dH,hl] using hy
 |i::p,.agg fs,x,y,cs,ds,hr,h,hy,hs=>by
  simp only[I.at] at h
  simp only[af] at hr
  cases hf:fs[i]? with
  |none=>simp[hf] at h
  |some f =>
   simp only[hf] at h
   obtain ⟨c1,c2,c3,rfl,h1,h2,h3,h3'⟩:=mL fs cs i f hr hf
   obtain ⟨off,h4,h5,h6,h7⟩:=tW p f x y c2 ds h3 h hy hs
   have hi:i<fs.length:=(List.getElem?_eq_some_iff.1 hf).1
   have hfi:fs[i]=f:=(List.getElem?_eq_some_iff.1 hf).2
   refine ⟨I.sizes (fs.take i)+off,?_,?_,?_,?_⟩
   ·simp only[I.aR,cO.off,I.dq,List.getElem?_map,hf,Option.map_some,h4]
    rw[←List.map_take,←I.dq,I.mV]
   ·simp only[List.length_append,h1];omega
   ·simp only[I.dH,hf,af]
    have e1:fs.set i (f.dH p y)=fs.take i++f.dH p y::fs.drop (i+1):=by rw[List.set_eq_take_append_cons_drop];simp[hi]
    rw[e1]
    have e2:(c1++c2++c3).take (I.sizes (fs.take i)+off)++ds++(c1++c2++c3).drop (I.sizes (fs.take i)+off+ds.length)=c1++((c2.take off++ds++c2.drop (off+ds.length))++c3):=by
     rw[←h1,List.append_assoc c1 c2 c3,List.take_length_add_append,Nat.add_assoc,List.drop_length_add_append,List.take_append_of_le_length (by omega),List.drop_append_of_le_length (by omega)]
     simp
    rw[e2]
    refine ki _ _ _ _ h2 ?_
    simp only[aJ]
    exact ⟨_,_,rfl,h6,h3'⟩
   ·simp only[I.dH,hf,I.aR,I.dq,List.map_set,h7,cO.eh.injEq]
    apply List.ext_getElem?
    intro k
    rw[List.getElem?_set]
    split
    ·rename_i hk;subst hk;simp[hi,hfi]
    ·rfl
 |_::_,.undef,_,_,_,_,_,h,_,_ | _::_,.c7,_,_,_,_,_,h,_,_ | _::_,.bool _,_,_,_,_,_,h,_,_ | _::_,.int _ _,_,_,_,_,_,h,_,_ | _::_,.cV _,_,_,_,_,_,h,_,_ | _::_,.nilp,_,_,_,_,_,h,_,_
 |_::_,.de,_,_,_,_,_,h,_,_ | _::_,.dS,_,_,_,_,_,h,_,_ | _::_,.raw _,_,_,_,_,_,h,_,_ | _::_,.nils _,_,_,_,_,_,h,_,_ | _::_,.c0 _,_,_,_,_,_,h,_,_ | _::_,.slice _ _,_,_,_,_,_,h,_,_ | _::_,.tuple _,_,_,_,_,_,h,_,_
 |_::_,.ref _,_,_,_,_,_,h,_,_ | _::_,.func _ _,_,_,_,_,_,h,_,_ | _::_,.iface _ _,_,_,_,_,_,h,_,_ | _::_,.ptr _ _,_,_,_,_,_,h,_,_ | _::_,.own _ _,_,_,_,_,_,h,_,_ | _::_,.view _ _ _ _ _,_,_,_,_,_,h,_,_ | _::_,.mref _,_,_,_,_,_,h,_,_ | _::_,.dx _,_,_,_,_,_,h,_,_ | _::_,.cU _ _,_,_,_,_,_,h,_,_=>by simp[I.at] at h
theorem mU:∀ (p:List Nat) (c x:I),c.at p=some x→c.aR.part p=some x.aR
 | [],c,x,h=>by simp only[I.at,Option.some.injEq] at h;subst h;cases c.aR <;>rfl
 |i::p,.agg fs,x,h=>by
  simp only[I.at] at h
  cases hf:fs[i]? with
  |none=>simp[hf] at h
  |some f =>
   simp only[hf] at h
   simp only[I.aR,cO.part,I.dq,List.getElem?_map,hf,Option.map_some]
   exact mU p f x h
 |_::_,.undef,_,h | _::_,.c7,_,h | _::_,.bool _,_,h | _::_,.int _ _,_,h | _::_,.cV _,_,h | _::_,.nilp,_,h
 |_::_,.de,_,h | _::_,.dS,_,h | _::_,.raw _,_,h | _::_,.nils _,_,h | _::_,.c0 _,_,h | _::_,.slice _ _,_,h | _::_,.tuple _,_,h
 |_::_,.ref _,_,h | _::_,.func _ _,_,h | _::_,.iface _ _,_,h | _::_,.ptr _ _,_,h | _::_,.own _ _,_,h | _::_,.view _ _ _ _ _,_,h | _::_,.mref _,_,h | _::_,.dx _,_,h | _::_,.cU _ _,_,h=>by simp[I.at] at h
end Go.Abs
namespace Go.Abs
open Go Go.RowKit
inductive ah where
 |box (c:I)
 |bT (T:TypeId) (sz:Nat) (es:List I)
 |dL (o:Obj)
 |ct (ks vs:List I)
 |it (ks vs:List I) (left:List Nat) (cur:Option Nat)
 |cM (T:TypeId) (xs:List Int)
 deriving Inhabited
def ah.eO:ah→Bool
 | .it _ _ _ _=>false
 |_=>true
structure ab where
 t:Nat→I
 o:Nat→Option ah
def ab.put(A:ab)(d:Nat)(v:I):ab:=⟨fun k=>if k=d then v else A.t k,A.o⟩
def ab.aP(A:ab)(d:Option Nat)(v:I):ab:=match d with | some d=>A.put d v | none=>A
def ab.aN(A:ab)(n:Nat)(x:ah):ab:=⟨A.t,fun k=>if k=n then some x else A.o k⟩
def bH:List (Nat×I)→Nat→I
 | [],_=>.c7
 |(k,v)::r,t=>if t=k then v else bH r t
def ai:List (Nat×ah)→Nat→Option ah
 | [],_=>none
 |(k,v)::r,t=>if t=k then some v else ai r t
def aq(ts:List (Nat×I))(os:List (Nat×ah)):ab:=⟨bH ts,ai os⟩
def ao(os:List (Nat×ah))(n:Nat):Bool:=(ai os n).isSome
abbrev cN:=I→List (Nat×ah)→Prop
structure cJ where
 P:Program
 fh:World
 D0:aQ
 n:Nat
 own:Nat→Prop
 dE:aU
 Y:Value→List I→List (Nat×ah)→cN→Prop
 kj:Option Nat
def iC:Value→List I→List (Nat×ah)→cN→Prop:=fun _ _ _ _=>False
def cJ.bl(c:cJ):Fence:=match c.kj with
 |none=>Fence.wide
 |some l=>Fence.wide.inRound l
def cJ.fj(c:cJ)(b:Nat):Prop:=c.fh.heap.size≤b∨c.own b
structure fK (M:Nat→Prop) (w w':World):Prop where
 os:w'.os=w.os
 tape:w'.tape=w.tape
 output:w'.output=w.output
 size:w.heap.size≤w'.heap.size
 block:∀ k,¬ M k→w'.heap[k]?=w.heap[k]?
theorem fK.refl(M:Nat→Prop)(w:World):fK M w w:=⟨rfl,rfl,rfl,Nat.le_refl _,fun _ _=>rfl⟩
theorem fK.trans{M:Nat→Prop}{a b c:World}(h:fK M a b)(k:fK M b c):fK M a c :=
 ⟨k.os.trans h.os,k.tape.trans h.tape,k.output.trans h.output,Nat.le_trans h.size k.size,fun i hi=>(k.block i hi).trans (h.block i hi)⟩
theorem fK.grow{M:Nat→Prop}{w w':World}{B:Nat}(h:Below B w w')(hB:∀ k,B≤k→M k):fK M w w' :=
 ⟨h.os,h.tape,h.output,h.size,fun k hk=>h.block k (Nat.lt_of_not_le fun hle=>hk (hB k hle))⟩
theorem fK.Py{M:Nat→Prop}{w w':World}{B:Nat}(h:fK M w w')(hB:∀ k,k<B→¬ M k):Below B w w' :=
 ⟨h.os,h.tape,h.output,h.size,fun k hk=>h.block k (hB k hk)⟩
def bR.aD:bR→Option Nat
 | .aB b _=>some b
 | .rw (some (b,_)) _=>some b
 | .rw none _=>none
 | .op b=>some b
 | .ct b=>some b
 | .it b=>some b
def bR.en:bR→Bool
 | .op _ | .ct _ | .it _=>true
 |_=>false
def pH:Obj→Bool
 | .loop _=>true
 |_=>false
def xV:Obj→Bool
 | .deferred _=>false
 |_=>true
theorem ai2{o:Obj}(h:pH o=true):xV o=true:=by cases o <;>first | rfl | cases h
def ot(es:Array MapEntry)(aY:Array Nat):List Nat:=(List.range es.size).filter fun i=>match es[i]? with
 |some e => !aY.contains e.born
 |none=>false
def c8(M:Nat→Prop)(w:World)(D:aQ)(E:aU)(n:Nat):Option ah→Prop
 |none=>E n=none
 |some (.box x)=>∃ b cs T,E n=some (.aB b x.aR)∧M b∧w.heap[b]?=some (.cells cs T (0,0))∧af w D E x cs.toList∧∀ o,¬ D b o
 |some (.bT T sz es)=>∃ aD,E n=some (.rw aD es.length)∧(∀ e∈es,e.size=sz)∧match aD with
  |none=>es=[]
  |some (b,cap)=>∃ cs pre rest,M b∧w.heap[b]?=some (.cells cs T (0,0))∧cs.toList=pre++rest∧aJ w D E es pre ∧
    cs.size=cap*sz∧es.length≤cap∧cap≤maxLen∧∀ o,D b o→o<pre.length
 |some (.dL x)=>∃ b,E n=some (.op b)∧M b∧w.heap[b]?=some x∧pH x=true∧∀ o,¬ D b o
 |some (.ct ks vs)=>∃ b es clock,E n=some (.ct b)∧M b∧w.heap[b]?=some (.map es clock)∧qf es clock∧aI w D E ks (es.toList.map (·.key))∧aI w D E vs (es.toList.map (·.val))∧∀ o,¬ D b o
 |some (.it ks vs left cur)=>∃ r b es clock since aY last,E n=some (.it r)∧M r∧w.heap[r]?=some (.mapIter (some b) since aY last)∧oy w D b es clock∧aI w D E ks (es.toList.map (·.key))∧aI w D E vs (es.toList.map (·.val)) ∧
   (∀ x∈es.toList,x.born<since)∧(since≤last∧since≤clock)∧left=ot es aY∧(∀ i,cur=some i→∃ e,es[i]?=some e∧aY.back?=some e.born∧last=clock)∧∀ o,¬ D r o
 |some (.cM T xs)=>∃ aD,E n=some (.rw aD xs.length)∧(∀ x∈xs,IntKind.i64.min≤x∧x≤IntKind.i64.max)∧match aD with
  |none=>xs=[]
  |some (b,cap)=>∃ cs m,M b∧w.heap[b]?=some (.cells cs T (0,0))∧cs.toList=(xs++List.replicate m 0).map (Value.int .i64)∧xs≠[]∧xs.length+m=cap∧cap≤maxLen∧∀ o,¬ D b o
def dy(E:aU)(b:Nat):Prop:=∃ n e,E n=some e∧e.aD=some b
structure lg (M:Nat→Prop) (w:World) (D:aQ) (E:aU) (o:Nat→Option ah):Prop where
 bQ:∀ n,c8 M w D E n (o n)
 cS:∀ n m e e' b,E n=some e→E m=some e'→e.aD=some b→e'.aD=some b→n=m
def qo(run:Array Value→World→(Ending→World→Prop)→Prop)(since:World→aQ→aU→Prop)(args:List I)(os:List (Nat×ah))(post:cN):Prop :=
 ∀ (w:World) (D:aQ) (E:aU) (vs:List Value),since w D E→(∀ b o,D b o→b<w.heap.size)→lg (fun _=>True) w D E (ai os)→aI w D E args vs →
  run vs.toArray w fun e w'=>∃ v D' E' r os',e=.returned v∧post r os'∧aT w' D' E' r v∧lg (fun b=>w.heap.size≤b∨dy E b) w' D' E' (ai os') ∧
   fK (fun b=>w.heap.size≤b∨dy E b) w w'∧(∀ b o,D b o→D' b o)∧(∀ b o,D' b o→b<w'.heap.size)∧(∀ b o,D' b o→b<w.heap.size→¬ dy E b→D b o) ∧
   (∀ n e,E n=some e→ao os' n=true→∃ e',E' n=some e'∧e.le e')∧iv w D w'
structure zS (c:cJ) (w:World) (D:aQ) (E:aU):Prop where
 dO:fK c.fj c.fh w
 cF:∀ b o,c.D0 b o→D b o
 c5:∀ b o,D b o→¬ c.fj b→c.D0 b o
 dR:∀ n e,c.dE n=some e→E n=none∨∃ e',E n=some e'∧e.le e'
 fE:iv c.fh c.D0 w
def r5(P:Program)(v:Value)(vs:Array Value)(w:World)(R:Ending→World→Prop):Prop :=
 ∃ l,v=.func (.yield l) #[] #[]∧YieldAt Fence.wide 9 P l vs w R
def oZ(c:cJ):Prop:=∀ v args os post,c.Y v args os post→qo (r5 c.P v) (zS c) args os post
def cH(fh:World)(ds:List Deferred)(w:World):Prop :=
 ∃ Bs:List Nat,ds=Bs.map (fun B => { target:=.collected B,args := #[] })∧Bs.Nodup∧∀ B∈Bs,fh.heap.size≤B∧w.heap[B]?=some (.deferred (some []))
theorem cH.mono{fh w w':World}{ds:List Deferred}(h:cH fh ds w)(hk:∀ B,fh.heap.size≤B→w.heap[B]?=some (.deferred (some []))→w'.heap[B]?=some (.deferred (some []))):cH fh ds w':=by
 obtain ⟨Bs,h1,h2,h3⟩:=h
 exact ⟨Bs,h1,h2,fun B hB=>⟨(h3 B hB).1,hk B (h3 B hB).1 (h3 B hB).2⟩⟩
theorem cH.grow{fh w w':World}{ds:List Deferred}(h:cH fh ds w)(hk:Below w.heap.size w w'):cH fh ds w' :=
 h.mono fun B _ hB=>(hk.block B (Array.getElem?_eq_some_iff.1 hB).1).trans hB
structure aS (c:cJ) (A:ab) (a:Act) (w:World) (D:aQ) (E:aU):Prop where
 sz:a.tmps.size=c.n
 eQ:cH c.fh a.defers w
 dZ:∀ t,aT w D E (A.t t) (a.tmps.getD t undef)
 dO:fK c.fj c.fh w
 c5:∀ b o,D b o→¬ c.fj b→c.D0 b o
 c9:∀ b o,D b o→b<w.heap.size
 bQ:∀ n,c8 c.fj w D E n (A.o n)
 cS:∀ n m e e' b,E n=some e→E m=some e'→e.aD=some b→e'.aD=some b→n=m
 dR:∀ n e,c.dE n=some e→E n=none∨∃ e',E n=some e'∧e.le e'
 eV:∀ n,c.dE n≠none→c.n≤n∧1000000≤n
 cF:∀ b o,c.D0 b o→D b o
 eX:oZ c
 fE:iv c.fh c.D0 w
def cj(c:cJ)(A:ab)(a:Act)(w:World):Prop:=∃ D E,aS c A a w D E
section
variable {c:cJ} {A:ab} {a:Act} {w:World} {D:aQ} {E:aU}
theorem aS.kZ(h:aS c A a w D E){w':World}{D':aQ}{E':aU}(hl:dN w D E w' D' E'):iv c.fh c.D0 w':=h.fE.trans h.cF hl.fE
theorem aS.DC(h:aS c A a w D E){n:Nat}{e:bR}(hn:c.dE n=some e)(hf:e.eO=true):E n=none∨E n=some e:=by
 rcases h.dR n e hn with k | ⟨e',k,hle⟩
 ·exact .inl k
 ·rw[hle.eq hf] at k;exact .inr k
theorem tG{M:Nat→Prop}{n:Nat}{x:ah}(h:c8 M w D E n (some x)):E n≠none:=by
 cases x with
 |box x=>obtain ⟨b,cs,T,h1,_⟩:=h;rw[h1];simp
 |bT T sz es=>obtain ⟨aD,h1,_⟩:=h;rw[h1];simp
 |dL o=>obtain ⟨b,h1,_⟩:=h;rw[h1];simp
 |ct ks vs=>obtain ⟨b,es,ck,h1,_⟩:=h;rw[h1];simp
 |it ks vs left=>obtain ⟨r,b,es,ck,si,se,la,h1,_⟩:=h;rw[h1];simp
 |cM T xs=>obtain ⟨aD,h1,_⟩:=h;rw[h1];simp
theorem fR{w:World}{b:Nat}{o:Obj}(h:w.heap[b]?=some o):b<w.heap.size:=(Array.getElem?_eq_some_iff.1 h).1
theorem aS.fQ(h:aS c A a w D E){n:Nat}{e:bR}{b:Nat}(he:E n=some e)(hb:e.aD=some b):b<w.heap.size:=by
 have:=h.bQ n
 unfold c8 at this
 split at this
 ·simp[this] at he
 ·obtain ⟨b',cs,T,h1,h2,h3,_⟩:=this
  rw[h1,Option.some.injEq] at he
  subst he
  simp only[bR.aD,Option.some.injEq] at hb
  subst hb
  exact fR h3
 ·obtain ⟨aD,h1,h2,h3⟩:=this
  rw[h1,Option.some.injEq] at he
  subst he
  split at h3
  ·simp[bR.aD] at hb
  ·obtain ⟨cs,pre,rest,h4,h5,_⟩:=h3
   simp only[bR.aD,Option.some.injEq] at hb
   subst hb
   exact fR h5
 ·obtain ⟨b',h1,h2,h3,_⟩:=this
  rw[h1,Option.some.injEq] at he
  subst he
  simp only[bR.aD,Option.some.injEq] at hb
  subst hb
  exact fR h3
 ·obtain ⟨b',es,ck,h1,h2,h3,_⟩:=this
  rw[h1,Option.some.injEq] at he
  subst he
  simp only[bR.aD,Option.some.injEq] at hb
  subst hb
  exact fR h3
 ·obtain ⟨r,b',es,ck,si,se,la,h1,h2,h3,_⟩:=this
  rw[h1,Option.some.injEq] at he
  subst he
  simp only[bR.aD,Option.some.injEq] at hb
  subst hb
  exact fR h3
 ·obtain ⟨aD,h1,h2,h3⟩:=this
  rw[h1,Option.some.injEq] at he
  subst he
  split at h3
  ·simp[bR.aD] at hb
  ·obtain ⟨cs,m,h4,h5,_⟩:=h3
   simp only[bR.aD,Option.some.injEq] at hb
   subst hb
   exact fR h5
theorem aS.yf(h:aS c A a w D E){n b:Nat}{e:bR}(he:E n=some e)(ho:e.en=true)(hb:e.aD=some b):∀ o,¬ D b o:=by
 have:=h.bQ n
 unfold c8 at this
 split at this
 ·rw[this] at he;cases he
 ·obtain ⟨b',cs,T,h1,_⟩:=this
  rw[h1] at he;cases he;cases ho
 ·obtain ⟨aD,h1,_⟩:=this
  rw[h1] at he;cases he;cases ho
 ·obtain ⟨b',h1,_,_,_,h5⟩:=this
  rw[h1] at he;cases he;cases hb
  exact h5
 ·obtain ⟨b',es,ck,h1,_,_,_,_,_,h5⟩:=this
  rw[h1] at he;cases he;cases hb
  exact h5
 ·obtain ⟨r,b',es,ck,si,se,la,h1,_,_,_,_,_,_,_,_,_,h5⟩:=this
  rw[h1] at he;cases he;cases hb
  exact h5
 ·obtain ⟨aD,h1,_⟩:=this
  rw[h1] at he;cases he;cases ho
theorem c8.bJ{M:Nat→Prop}{w':World}{D':aQ}{E':aU}{n:Nat}{x:Option ah}(h:c8 M w D E n x)(hl:dN w D E w' D' E')(ar:E' n=E n)
  (hheap:∀ e b,E n=some e→e.aD=some b→w'.heap[b]?=w.heap[b]?∧∀ o,D' b o→D b o):c8 M w' D' E' n x:=by
 unfold c8 at *
 split
 ·rw[ar];exact h
 ·obtain ⟨b,cs,T,h1,h2,h3,h4,h5⟩:=h
  obtain ⟨k1,k2⟩:=hheap _ b h1 rfl
  exact ⟨b,cs,T,ar.trans h1,h2,k1.trans h3,af.bJ hl _ _ h4,fun o ho=>h5 o (k2 o ho)⟩
 ·obtain ⟨aD,h1,h2,h3⟩:=h
  refine ⟨aD,ar.trans h1,h2,?_⟩
  split
  ·exact h3
  ·rename_i b cap
   obtain ⟨cs,pre,rest,h4,h5,h6,h7,h8,h9,h10,h11⟩:=h3
   obtain ⟨k1,k2⟩:=hheap _ b h1 rfl
   exact ⟨cs,pre,rest,h4,k1.trans h5,h6,aJ.bJ hl _ _ h7,h8,h9,h10,fun o ho=>h11 o (k2 o ho)⟩
 ·obtain ⟨b,h1,h2,h3,h4,h5⟩:=h
  obtain ⟨k1,k2⟩:=hheap _ b h1 rfl
  exact ⟨b,ar.trans h1,h2,k1.trans h3,h4,fun o ho=>h5 o (k2 o ho)⟩
 ·obtain ⟨b,es,ck,h1,h2,h3,h4,h5,h6,h7⟩:=h
  obtain ⟨k1,k2⟩:=hheap _ b h1 rfl
  exact ⟨b,es,ck,ar.trans h1,h2,k1.trans h3,h4,aI.bJ hl _ _ h5,aI.bJ hl _ _ h6,fun o ho=>h7 o (k2 o ho)⟩
 ·obtain ⟨r,b,es,ck,si,se,la,h1,h2,h3,h4,h5,h6,h7,h8,h9,h9',h10⟩:=h
  obtain ⟨k1,k2⟩:=hheap _ r h1 rfl
  exact ⟨r,b,es,ck,si,se,la,ar.trans h1,h2,k1.trans h3,h4.bJ hl,aI.bJ hl _ _ h5,aI.bJ hl _ _ h6,h7,h8,h9,h9',fun o ho=>h10 o (k2 o ho)⟩
 ·obtain ⟨aD,h1,h2,h3⟩:=h
  refine ⟨aD,ar.trans h1,h2,?_⟩
  split
  ·exact h3
  ·rename_i b cap
   obtain ⟨cs,m,h4,h5,h6,h7,h8,h9,h10⟩:=h3
   obtain ⟨k1,k2⟩:=hheap _ b h1 rfl
   exact ⟨cs,m,h4,k1.trans h5,h6,h7,h8,h9,fun o ho=>h10 o (k2 o ho)⟩
theorem dN.grow{w':World}{D':aQ}(hb:Below w.heap.size w w')(hD:∀ b o,D b o→D' b o):dN w D E w' D' E:=by
 refine ⟨hD,fun b o v _ hv =>?_,fun _ _ _ h=>h,fun _ aD l h=>⟨aD,l,h,Nat.le_refl _,fun _=>rfl⟩,fun _ _ h=>h,fun _ _ h=>h,fun b es ck _ hm=>(hb.block b (fR hm)).trans hm⟩
 rw[hb.cell (World.block_lt_of_cell? w _ hv)]
 exact hv
theorem aS.IJ(h:aS c A a w D E){w':World}(hb:Below w.heap.size w w'):fK c.fj w w':=fK.grow hb fun k hk=>.inl (Nat.le_trans h.dO.size hk)
theorem aS.old(h:aS c A a w D E){b:Nat}(hm:¬ c.fj b):b<w.heap.size :=
 Nat.lt_of_lt_of_le (Nat.lt_of_not_le fun hle=>hm (.inl hle)) h.dO.size
theorem aS.j8(h:aS c A a w D E){d:Nat}(hd:d<c.n∨d<1000000):c.dE d=none:=by
 cases hh:c.dE d with
 |none=>rfl
 |some e=>have:=h.eV d (by rw[hh];simp);omega
theorem aS.grow(h:aS c A a w D E){w':World}{D':aQ}(hb:Below w.heap.size w w')(hD:∀ b o,D b o→D' b o)
  (hold:∀ b o,D' b o→b<w.heap.size→D b o) (hlive:∀ b o,D' b o→b<w'.heap.size):aS c A a w' D' E:=by
 have hl:dN w D E w' D' E:=dN.grow hb hD
 refine ⟨h.sz,h.eQ.grow hb,fun t=>aT.bJ hl (h.dZ t),h.dO.trans (h.IJ hb),fun b o hd hm=>h.c5 b o (hold b o hd (h.old hm)) hm,hlive,
  fun n=>(h.bQ n).bJ hl rfl (fun e b he hb'=>⟨hb.block b (h.fQ he hb'),fun o ho=>hold b o ho (h.fQ he hb')⟩),h.cS,h.dR,h.eV,fun b o hd=>hD b o (h.cF b o hd),h.eX,h.kZ hl⟩
theorem aS.Nd(h:aS c A a w D E){D':aQ}(hD:∀ b o,D b o→D' b o)
  (hold:∀ b o,D' b o→¬ c.fj b→c.D0 b o) (hlive:∀ b o,D' b o→b<w.heap.size)
  (hbox:∀ n x b,A.o n=some (.box x)→E n=some (.aB b x.aR)→∀ o,¬ D' b o)
  (hrow:∀ n T sz es b cap,A.o n=some (.bT T sz es)→E n=some (.rw (some (b,cap)) es.length)→∀ o,D' b o→o<es.length*sz)
  (hui:∀ n T xs b cap,A.o n=some (.cM T xs)→E n=some (.rw (some (b,cap)) xs.length)→∀ o,¬ D' b o)
  (hopq:∀ n e b,E n=some e→e.en=true→e.aD=some b→∀ o,¬ D' b o):aS c A a w D' E:=by
 have hl:dN w D E w D' E:=⟨hD,fun _ _ _ _ h=>h,fun _ _ _ h=>h,fun _ aD l h=>⟨aD,l,h,Nat.le_refl _,fun _=>rfl⟩,fun _ _ h=>h,fun _ _ h=>h,fun _ _ _ _ h=>h⟩
 refine ⟨h.sz,h.eQ,fun t=>aT.bJ hl (h.dZ t),h.dO,hold,hlive,fun n =>?_,h.cS,h.dR,h.eV,fun b o hd=>hD b o (h.cF b o hd),h.eX,h.fE⟩
 have ho:=h.bQ n
 cases hx:A.o n with
 |none=>rw[hx] at ho;exact ho
 |some x =>
  cases x with
  |box x =>
   rw[hx] at ho
   obtain ⟨b,cs,T,h1,h2,h3,h4,h5⟩:=ho
   exact ⟨b,cs,T,h1,h2,h3,af.bJ hl _ _ h4,hbox n x b hx h1⟩
  |bT T sz es =>
   rw[hx] at ho
   obtain ⟨aD,h1,h2,h3⟩:=ho
   refine ⟨aD,h1,h2,?_⟩
   cases aD with
   |none=>exact h3
   |some bc =>
    obtain ⟨b,cap⟩:=bc
    obtain ⟨cs,pre,rest,h4,h5,h6,h7,h8,h9,h10,h11⟩:=h3
    refine ⟨cs,pre,rest,h4,h5,h6,aJ.bJ hl _ _ h7,h8,h9,h10,fun o hd =>?_⟩
    rw[aJ.length _ _ h7,I.iJ _ h2]
    exact hrow n T sz es b cap hx h1 o hd
  |dL x =>
   rw[hx] at ho
   obtain ⟨b,h1,h2,h3,h4,h5⟩:=ho
   exact ⟨b,h1,h2,h3,h4,hopq n _ b h1 rfl rfl⟩
  |ct ks vs =>
   rw[hx] at ho
   obtain ⟨b,es,ck,h1,h2,h3,h4,h5,h6,h7⟩:=ho
   exact ⟨b,es,ck,h1,h2,h3,h4,aI.bJ hl _ _ h5,aI.bJ hl _ _ h6,hopq n _ b h1 rfl rfl⟩
  |it ks vs left cur =>
   rw[hx] at ho
   obtain ⟨r,b,es,ck,si,se,la,h1,h2,h3,h4,h5,h6,h7,h8,h9,h9',h10⟩:=ho
   exact ⟨r,b,es,ck,si,se,la,h1,h2,h3,h4.bJ hl,aI.bJ hl _ _ h5,aI.bJ hl _ _ h6,h7,h8,h9,h9',hopq n _ r h1 rfl rfl⟩
  |cM T xs =>
   rw[hx] at ho
   obtain ⟨aD,h1,h2,h3⟩:=ho
   refine ⟨aD,h1,h2,?_⟩
   cases aD with
   |none=>exact h3
   |some bc =>
    obtain ⟨b,cap⟩:=bc
    obtain ⟨cs,m,h4,h5,h6,h7,h8,h9,h10⟩:=h3
    exact ⟨cs,m,h4,h5,h6,h7,h8,h9,hui n T xs b cap hx h1⟩
theorem ahn(a:Act)(d:Nat)(v:Value)(t:Nat)(hd:d<a.tmps.size):(a.put (some d) v).tmps.getD t undef=if t=d then v else a.tmps.getD t undef:=by
 simp only[Act.put,Array.getD_eq_getD_getElem?,Array.getElem?_setIfInBounds]
 by_cases h:t=d
 ·subst h;simp[hd]
 ·simp[h,Ne.symm h]
theorem aS.put(h:aS c A a w D E){d:Nat}{x:I}{v:Value}(hd:d<c.n)(hv:aT w D E x v):aS c (A.put d x) (a.put (some d) v) w D E:=by
 refine ⟨by simp[Act.put,h.sz],by exact h.eQ,fun t =>?_,h.dO,h.c5,h.c9,h.bQ,h.cS,h.dR,h.eV,h.cF,h.eX,h.fE⟩
 rw[ahn a d v t (by rw[h.sz];exact hd)]
 simp only[ab.put]
 split
 ·exact hv
 ·exact h.dZ t
theorem aS.aP(h:aS c A a w D E){d:Option Nat}{x:I}{v:Value}(hd:∀ k,d=some k→k<c.n)(hv:aT w D E x v):aS c (A.aP d x) (a.put d v) w D E:=by
 cases d with
 |none=>exact h
 |some d=>exact h.put (hd d rfl) hv
theorem sk(w:World)(o:Obj):Below w.heap.size w (w.alloc o):=(Below.refl _ _).alloc (Nat.le_refl _) o
theorem Mu{w:World}{D:aQ}{E:aU} : ∀ {xs:List I} {vs:List Value},aI w D E xs vs→vs.length=xs.length
 | [],vs,h=>by simp only[aI] at h;subst h;rfl
 |x::xs,vs,h=>by
  simp only[aI] at h
  obtain ⟨v,rest,cs,rfl,_,_,h3⟩:=h
  simp[Mu h3]
theorem aS.xS(h:aS c A a w D E){d:Nat}{x:ah}{o':Obj}{e:bR}(hdn:d<c.n∨d<1000000)(hd:A.o d=none)(heb:e.aD=some w.heap.size)
  (hx:dN w D E (w.alloc o') D (fun n=>if n=d then some e else E n)→(∀ o,¬ D w.heap.size o)→c8 c.fj (w.alloc o') D (fun n=>if n=d then some e else E n) d (some x)) :
  aS c (A.aN d x) a (w.alloc o') D (fun n=>if n=d then some e else E n):=by
 have hEd:E d=none:=by have:=h.bQ d;rw[hd] at this;exact this
 have hne:∀ {n:Nat} {e:bR},E n=some e→n≠d:=fun he e'=>by rw[e',hEd] at he;cases he
 have hl:dN w D E (w.alloc o') D (fun n=>if n=d then some e else E n):=by
  refine ⟨fun _ _ h=>h,fun b o v _ hv =>?_,fun n b aR he =>?_,fun n aD l he =>?_,fun n b he =>?_,fun n b he =>?_,fun b es ck _ hm=>(Below.heap_alloc w _ b (fR hm)).trans hm⟩
  ·rw[World.cell?_alloc_lt _ _ _ (World.block_lt_of_cell? w _ hv)];exact hv
  ·simp only[if_neg (hne he)];exact he
  ·exact ⟨aD,l,by simp only[if_neg (hne he)];exact he,Nat.le_refl _,fun _=>rfl⟩
  ·simp only[if_neg (hne he)];exact he
  ·simp only[if_neg (hne he)];exact he
 refine ⟨h.sz,h.eQ.grow (sk w _),fun t=>aT.bJ hl (h.dZ t),h.dO.trans (h.IJ (sk w _)),h.c5,fun b o hd'=>by have:=h.c9 b o hd';simp;omega,fun n =>?_,?_,fun n e' hn =>?_,h.eV,h.cF,h.eX,h.kZ hl⟩
 ·simp only[ab.aN]
  by_cases hn:n=d
  ·subst hn
   simp only[if_true]
   exact hx hl fun o ho=>Nat.lt_irrefl _ (h.c9 _ o ho)
  ·simp only[if_neg hn]
   exact (h.bQ n).bJ hl (by simp only[if_neg hn]) fun e b he hb=>⟨Below.heap_alloc w _ b (h.fQ he hb),fun _ ho=>ho⟩
 ·intro n m e1 e2 b h1 h2 h3 h4
  by_cases hn:n=d <;>by_cases hm:m=d
  ·rw[hn,hm]
  ·simp only[if_pos hn,Option.some.injEq] at h1
   simp only[if_neg hm] at h2
   subst h1
   rw[heb] at h3;cases h3
   have:=h.fQ h2 h4
   omega
  ·simp only[if_neg hn] at h1
   simp only[if_pos hm,Option.some.injEq] at h2
   subst h2
   rw[heb] at h4;cases h4
   have:=h.fQ h1 h3
   omega
  ·simp only[if_neg hn] at h1
   simp only[if_neg hm] at h2
   exact h.cS n m e1 e2 b h1 h2 h3 h4
 ·have hnd:n≠d:=fun e=>by rw[e,h.j8 hdn] at hn;cases hn
  simp only[if_neg hnd]
  exact h.dR n e' hn
theorem aS.rh(h:aS c A a w D E){d:Nat}{x:I}{cs:Array Value}{T:TypeId}(hdn:d<c.n∨d<1000000)(hd:A.o d=none)(hx:af w D E x cs.toList) :
  aS c (A.aN d (.box x)) a (w.alloc (.cells cs T)) D (fun n=>if n=d then some (.aB w.heap.size x.aR) else E n) :=
 h.xS hdn hd rfl fun hl hno=>⟨w.heap.size,cs,T,by simp,.inl h.dO.size,heap_alloc_new w _,af.bJ hl _ _ hx,hno⟩
theorem aS.aiY(h:aS c A a w D E){d:Nat}(hdn:d<c.n∨d<1000000)(hd:A.o d=none) :
  aS c (A.aN d (.ct [] [])) a (w.alloc (.map #[] 0)) D (fun n=>if n=d then some (.ct w.heap.size) else E n) :=
 h.xS hdn hd rfl fun _ hno=>⟨w.heap.size,#[],0,by simp,.inl h.dO.size,heap_alloc_new w _,⟨by simp,by simp⟩,by simp[aI],by simp[aI],hno⟩
theorem aS.aiX(h:aS c A a w D E){d b clock:Nat}{ks vs:List I}{es:Array MapEntry}(hdn:d<c.n∨d<1000000)(hd:A.o d=none)(hm:oy w D b es clock)(hk:aI w D E ks (es.toList.map (·.key)))(hv:aI w D E vs (es.toList.map (·.val))) :
  aS c (A.aN d (.it ks vs (List.range ks.length) none)) a (w.alloc (.mapIter (some b) clock #[] clock)) D (fun n=>if n=d then some (.it w.heap.size) else E n) :=
 h.xS hdn hd rfl fun hl hno=>⟨w.heap.size,b,es,clock,clock,#[],clock,by simp,.inl h.dO.size,heap_alloc_new w _,hm.bJ hl,aI.bJ hl _ _ hk,aI.bJ hl _ _ hv,hm.2.2.1,⟨Nat.le_refl _,Nat.le_refl _⟩,by
  have e:ks.length=es.size:=by have:=Mu hk;simpa using this.symm
  rw[e];unfold ot
  exact (List.filter_eq_self.2 fun i hi=>by
   have hi':i<es.size:=by simpa using hi
   simp[Array.getElem?_eq_getElem hi']).symm,(fun i hi=>by cases hi),hno⟩
theorem vt(w:World)(g:Nat)(cs:Array Value)(p:Addr)(h:p.block≠g):(w.setRow g cs).cell? p=w.cell? p :=
 World.cell?_of_block (setRow_other w g p.block cs h)
theorem xD{M:Nat→Prop}{fh w:World}(h:fK M fh w){g:Nat}(hg:M g)(cs:Array Value):fK M fh (w.setRow g cs) :=
 h.trans ⟨rfl,rfl,rfl,by simp[World.setRow],fun k hk=>setRow_other w g k cs (fun e=>hk (e▸hg))⟩
theorem aS.Mz(h:aS c A a w D E){n b:Nat}{x y:I}{cs':Array Value}(hn:A.o n=some (.box x))(ar:E n=some (.aB b x.aR))(hs:y.aR=x.aR)(hy:af w D E y cs'.toList) :
  aS c (A.aN n (.box y)) a (w.setRow b cs') D E:=by
 have ho:=h.bQ n
 rw[hn] at ho
 obtain ⟨b',cs,T,h1,h2,h3,h4,h5⟩:=ho
 rw[ar] at h1
 simp only[Option.some.injEq,bR.aB.injEq,and_true] at h1
 subst h1
 have hl:dN w D E (w.setRow b cs') D E:=by
  refine ⟨fun _ _ h=>h,fun b1 o v hd hv =>?_,fun _ _ _ h=>h,fun _ aD l h=>⟨aD,l,h,Nat.le_refl _,fun _=>rfl⟩,fun _ _ h=>h,fun _ _ h=>h,fun b1 es ck hd hm=>(setRow_other w b b1 _ (fun e=>h5 0 (by rw[←e];exact hd))).trans hm⟩
  rw[vt _ _ _ _ (fun e=>h5 o (by rw[←e];exact hd))]
  exact hv
 refine ⟨h.sz,h.eQ.mono fun B _ hB=>(setRow_other w b B cs' (fun e=>by rw[e,h3] at hB;cases hB)).trans hB,fun t=>aT.bJ hl (h.dZ t),xD h.dO h2 _,h.c5,fun b1 o hd=>by have:=h.c9 b1 o hd;simpa[World.setRow] using this,fun m =>?_,h.cS,h.dR,h.eV,h.cF,h.eX,h.kZ hl⟩
 simp only[ab.aN]
 by_cases hm:m=n
 ·subst hm
  simp only[if_true,c8]
  exact ⟨b,cs',T,by rw[hs];exact ar,h2,setRow_heap w b cs cs' T _ h3,af.bJ hl _ _ hy,h5⟩
 ·simp only[if_neg hm]
  refine (h.bQ m).bJ hl rfl fun e b1 he hb=>⟨setRow_other w b b1 cs' (fun e1=>hm (h.cS m n e _ b he ar (by rw[hb,e1]) rfl)),fun _ ho=>ho⟩
theorem vu{w:World}{B:Nat}{o o':Obj}(h:w.heap[B]?=some o)(ho:o.isCells=false){b off:Nat}{v:Value}(hv:w.cell? ⟨b,off,none⟩=some v):(w.putObj B o').cell? ⟨b,off,none⟩=some v:=by
 have hne:b≠B:=fun e=>by
  obtain ⟨o2,h2,h3⟩:=cells_of_cell hv
  simp only at h2
  rw[e,h] at h2
  cases h2
  rw[ho] at h3;cases h3
 rw[World.cell?_of_block (w:=w) (World.putObj_heap_other hne)]
 exact hv
theorem aS.MB(h:aS c A a w D E){n b:Nat}{e:bR}{x:ah}{o0 o':Obj}(ar:E n=some e)(ho:e.en=true)(hb:e.aD=some b)(hw:w.heap[b]?=some o0)(hnc:o0.isCells=false)(hnd:∀ q,o0≠.deferred q)(hmine:c.fj b)
  (hx:dN w D E (w.putObj b o') D E→(w.putObj b o').heap[b]?=some o'→(∀ o,¬ D b o)→c8 c.fj (w.putObj b o') D E n (some x)):aS c (A.aN n x) a (w.putObj b o') D E:=by
 have hno:=h.yf ar ho hb
 have hlt:b<w.heap.size:=fR hw
 have hl:dN w D E (w.putObj b o') D E:=⟨fun _ _ h=>h,fun b1 o1 v _ hv=>vu hw hnc hv,fun _ _ _ h=>h,fun _ aD l h=>⟨aD,l,h,Nat.le_refl _,fun _=>rfl⟩,fun _ _ h=>h,fun _ _ h=>h,
  fun b1 es ck hd hm=>(World.putObj_heap_other (fun e1=>hno 0 (by rw[←e1];exact hd))).trans hm⟩
 refine ⟨h.sz,h.eQ.mono fun B _ hB=>(World.putObj_heap_other (fun e1=>by rw[e1,hw] at hB;exact hnd _ (Option.some.inj hB))).trans hB,fun t=>aT.bJ hl (h.dZ t),h.dO.trans ⟨rfl,rfl,rfl,by simp,fun k hk=>World.putObj_heap_other (fun e1=>hk (e1▸hmine))⟩,h.c5,
  fun b1 o1 hd=>by have:=h.c9 b1 o1 hd;simpa using this,fun m =>?_,h.cS,h.dR,h.eV,h.cF,h.eX,h.kZ hl⟩
 simp only[ab.aN]
 by_cases hm:m=n
 ·subst hm
  simp only[if_true]
  exact hx hl (World.putObj_heap_same hlt) hno
 ·simp only[if_neg hm]
  exact (h.bQ m).bJ hl rfl fun e' b1 he hb'=>⟨World.putObj_heap_other (fun e1=>hm (h.cS m n e' _ b1 he ar hb' (by rw[e1];exact hb))),fun _ ho=>ho⟩
end
inductive aL where
 |t (n:Nat)
 |c (x:I)
 deriving Inhabited
inductive cK where
 |i (k:IntKind)
 |b
 |s
 |bg (l:List cK)
 |jG (n:Nat) (e:cK)
 deriving Inhabited
mutual
def cK.size:cK→Nat
 | .i _ | .b | .s=>1
 | .bg l=>cK.sizes l
 | .jG n e=>n*e.size
def cK.sizes:List cK→Nat
 | []=>0
 |t::ts=>t.size+cK.sizes ts
end
inductive b7 where
 |mv (x:aL)
 |pick (c a b:aL)
 |bin (op:BinOp) (x y:aL)
 |eqv (ty:cK) (neg:Bool) (x y:aL)
 |nilS (neg:Bool) (x:aL)
 |conv (k:IntKind) (x:aL)
 |un (op:UnOp) (x:aL)
 |ld (s:Option Nat) (x:aL)
 |fa (f off:Nat) (x:aL)
 |fl (f off:Nat) (s:Option Nat) (x:aL)
 |ia (n esz:Nat) (x i:aL)
 |is (esz:Nat) (x i:aL)
 |ix (n esz:Nat) (s:Option Nat) (x i:aL)
 |len (x:aL)
 |lenT (x:aL)
 |va (n esz:Nat) (x:aL)
 |sl (esz:Nat) (x:aL) (lo hi mx:Option aL)
 |bld (zs:List I) (parts:List (Nat×aL))
 |bs (esz:Nat) (parts:List aL)
 |ext (x:aL) (i:Nat)
 |mk (f:FuncId) (caps:List aL)
 |alloc (z:I)
 |box (x:aL)
 |bg (s:Option Nat) (x v:aL)
 |cL (e:TypeId) (esz bytes:Nat) (z:I) (s x:aL)
 |me (e:TypeId) (esz bytes:Nat) (z:I) (s n:aL)
 |cap (x:aL)
 |bs0 (esz:Nat)
 |iR (esz:Nat) (z:I) (x:aL)
 |lz (esz:Nat) (x y:aL)
 |call (f:FuncId) (args:List aL)
 |eL (x:aL) (args:List aL)
 |kr (f:FuncId) (args:List aL)
 |nilC (x:aL)
 |ptrE (neg:Bool) (x y:aL)
 |jP (e:TypeId) (bytes:Nat) (z:I) (n:aL)
 |jO
 |lk (ty:cK) (z:I) (ok:Bool) (m k:aL)
 |gK (ty:cK) (m k v:aL)
 |kl (x:aL)
 |jx (x:aL)
 |ent (x:aL)
 deriving Inhabited
def vl(sz:Nat):Value→Option I
 | .bool b=>some (.bool b)
 | .int k n=>if k.min≤n∧n≤k.max then some (.int k n) else none
 | .string s=>if s.size≤1000000 then some (.cV s) else none
 | .pointer none=>some .nilp
 | .slice none 0 0=>some (.nils sz)
 | .nilFunc=>some .de
 | .nilIface=>some .dS
 | .map none=>some (.raw (.map none))
 |_=>none
theorem P4{sz:Nat}{v:Value}{x:I}(h:vl sz v=some x)(w:World)(D:aQ)(E:aU):aT w D E x v:=by
 unfold vl at h
 split at h
 case h_2 =>
  split at h
  ·rename_i hh
   simp only[Option.some.injEq] at h;subst h
   exact ⟨_,by simp[bK,I.isAgg];rfl,by simp only[af,true_and];exact hh⟩
  ·simp at h
 case h_3 =>
  split at h
  ·rename_i hh
   simp only[Option.some.injEq] at h;subst h
   exact ⟨_,by simp[bK,I.isAgg];rfl,by simp only[af,true_and];unfold maxLen;omega⟩
  ·simp at h
 case h_9=>simp at h
 all_goals
  simp only[Option.some.injEq] at h;subst h
  exact ⟨_,by simp[bK,I.isAgg];rfl,by simp[af,Value.oneCell']⟩
def Xy(P:Program)(t:TypeId):Nat:=match P.underlying t with | some (.slice e)=>P.cellsOf e | _=>0
def bG(P:Program)(t:TypeId):Operand→Option aL
 | .tmp n=>some (.t n)
 | .const v=>(vl (Xy P t) v).map .c
 | .func f=>some (.c (.func f []))
 | .global _=>none
def ae(A:ab):aL→I
 | .t n=>A.t n
 | .c x=>x
section
variable {c:cJ} {A:ab} {a:Act} {w:World} {D:aQ} {E:aU}
theorem b9(h:aS c A a w D E){P:Program}{t:TypeId}{x:Operand}{y:aL}(hc:bG P t x=some y):aT w D E (ae A y) (a.eval x):=by
 cases x with
 |tmp n=>simp only[bG,Option.some.injEq] at hc;subst hc;exact h.dZ n
 |const v =>
  simp only[bG,Option.map_eq_some_iff] at hc
  obtain ⟨z,hz,rfl⟩:=hc
  exact P4 hz w D E
 |global g=>simp[bG] at hc
 |func f =>
  simp only[bG,Option.some.injEq] at hc;subst hc
  exact ⟨[.func (.func f) #[] #[]],by simp[bK,I.isAgg,ae,Act.eval],by simp only[af,ae,aI];exact ⟨[],rfl,rfl⟩⟩
theorem lZ{b:Bool}{v:Value}(h:aT w D E (.bool b) v):v=.bool b:=by
 obtain ⟨cs,h1,h2⟩:=h
 simp only[af] at h2
 simp[bK,I.isAgg,h2] at h1
 exact h1.symm
theorem fB{k:IntKind}{n:Int}{v:Value}(h:aT w D E (.int k n) v):v=.int k n∧k.min≤n∧n≤k.max:=by
 obtain ⟨cs,h1,h2⟩:=h
 simp only[af] at h2
 simp[bK,I.isAgg,h2.1] at h1
 exact ⟨h1.symm,h2.2⟩
theorem nK{s:ByteArray}{v:Value}(h:aT w D E (.cV s) v):v=.string s∧s.size≤maxLen:=by
 obtain ⟨cs,h1,h2⟩:=h
 simp only[af] at h2
 simp[bK,I.isAgg,h2.1] at h1
 exact ⟨h1.symm,h2.2⟩
theorem Jw{x:I}{v:Value}(hx:x.isAgg=false)(h:af w D E x [v]):aT w D E x v:=by
 cases x <;>simp only[af] at h <;>first | (simp[I.isAgg] at hx;done) | exact ⟨[v],by simp[bK,I.isAgg],by simpa only[af] using h⟩
theorem jC{fs:List I}{v:Value}(h:aT w D E (.agg fs) v):∃ cs:List Value,v=.agg cs.toArray∧aJ w D E fs cs:=by
 obtain ⟨cs,h1,h2⟩:=h
 simp only[af] at h2
 exact ⟨cs,by simpa[bK,I.isAgg] using h1,h2⟩
theorem Jv{fs:List I}{cs:List Value}(h:aJ w D E fs cs):aT w D E (.agg fs) (.agg cs.toArray):=⟨cs,by simp[bK,I.isAgg],by simpa only[af] using h⟩
theorem ox(b:Bool):aT w D E (.bool b) (.bool b):=⟨[.bool b],by simp[bK,I.isAgg],by simp[af]⟩
theorem kQ{k:IntKind}{n:Int}(h:k.min≤n∧n≤k.max):aT w D E (.int k n) (.int k n):=⟨[.int k n],by simp[bK,I.isAgg],by simp only[af,true_and];exact h⟩
theorem oJ{n:Nat}{p:List Nat}{v:Value}(h:aT w D E (.ptr n p) v):∃ b aR off,E n=some (.aB b aR)∧aR.off p=some off∧v=.pointer (some ⟨b,off,none⟩):=by
 obtain ⟨cs,h1,h2⟩:=h
 simp only[af] at h2
 obtain ⟨b,aR,off,h3,h4,h5⟩:=h2
 exact ⟨b,aR,off,h3,h4,by simpa[bK,I.isAgg,h5] using h1.symm⟩
theorem p9{x:I}{v:Value}(h:aT w D E (.ref x) v):∃ b off cs,v=.pointer (some ⟨b,off,none⟩)∧gO w D b off cs∧af w D E x cs:=by
 obtain ⟨cs,h1,h2⟩:=h
 simp only[af] at h2
 obtain ⟨b,off,cs',h3,h4,h5⟩:=h2
 exact ⟨b,off,cs',by simpa[bK,I.isAgg,h3] using h1.symm,h4,h5⟩
theorem tw{x:I}{b off:Nat}{cs:List Value}(h1:gO w D b off cs)(h2:af w D E x cs):aT w D E (.ref x) (.pointer (some ⟨b,off,none⟩)) :=
 ⟨_,by simp[bK,I.isAgg];rfl,by simp only[af];exact ⟨b,off,cs,rfl,h1,h2⟩⟩
theorem nJ{sz:Nat}{es:List I}{v:Value}(h:aT w D E (.slice sz es) v):∃ ad cap,v=.slice ad es.length cap∧es.length≤cap∧cap≤maxLen ∧
  (es=[]∨∃ b off cs,ad=some ⟨b,off,none⟩∧gO w D b off cs∧aJ w D E es cs)∧∀ e∈es,e.size=sz:=by
 obtain ⟨cs,h1,h2⟩:=h
 simp only[af] at h2
 obtain ⟨ad,cap,h3,h4⟩:=h2
 exact ⟨ad,cap,by simpa[bK,I.isAgg,h3] using h1.symm,h4⟩
theorem tx{sz:Nat}{es:List I}{ad:Option Addr}{n cap:Nat}(hn:n=es.length)(h1:n≤cap)(h2:cap≤maxLen)
  (h3:es=[]∨∃ b off cs,ad=some ⟨b,off,none⟩∧gO w D b off cs∧aJ w D E es cs) (h4:∀ e∈es,e.size=sz):aT w D E (.slice sz es) (.slice ad n cap):=by
 subst hn
 exact ⟨_,by simp[bK,I.isAgg];rfl,by simp only[af];exact ⟨ad,cap,rfl,h1,h2,h3,h4⟩⟩
end
def cE(op:BinOp)(x y:I):Option I :=
 match x,y with
 | .int k a,.int k' b =>
  match op with
  | .shl=>if 0≤b then some (.int k (k.wrap (a*2^(min b.toNat k.bits)))) else none
  | .shr=>if 0≤b then some (.int k (a.fdiv (2^(min b.toNat k.bits)))) else none
  |op=>if k=k' then
   match op with
   | .add=>some (.int k (k.wrap (a+b)))
   | .sub=>some (.int k (k.wrap (a-b)))
   | .mul=>some (.int k (k.wrap (a*b)))
   | .quo=>if b=0 then none else some (.int k (k.wrap (a.tdiv b)))
   | .rem=>if b=0 then none else some (.int k (a.tmod b))
   | .and=>some (.int k (k.wrap ((BitVec.ofInt k.bits a &&& BitVec.ofInt k.bits b).toNat:Int)))
   | .or=>some (.int k (k.wrap ((BitVec.ofInt k.bits a ||| BitVec.ofInt k.bits b).toNat:Int)))
   | .xor=>some (.int k (k.wrap ((BitVec.ofInt k.bits a ^^^ BitVec.ofInt k.bits b).toNat:Int)))
   | .andNot=>some (.int k (k.wrap ((BitVec.ofInt k.bits a &&& ~~~ BitVec.ofInt k.bits b).toNat:Int)))
   | .eql=>some (.bool (a==b))
   | .neq=>some (.bool (a != b))
   | .lss=>some (.bool (decide (a<b)))
   | .leq=>some (.bool (decide (a≤b)))
   | .gtr=>some (.bool (decide (a>b)))
   | .geq=>some (.bool (decide (a≥b)))
   |_=>none
   else none
 | .cV s,.cV t =>
  match op with
  | .eql=>some (.bool (s.toList==t.toList))
  | .neq=>some (.bool (!(s.toList==t.toList)))
  | .lss=>some (.bool (Op.bytesLess s.toList t.toList))
  | .leq=>some (.bool (Op.bytesLess s.toList t.toList||s.toList==t.toList))
  | .gtr=>some (.bool (!(Op.bytesLess s.toList t.toList||s.toList==t.toList)))
  | .geq=>some (.bool (!(Op.bytesLess s.toList t.toList)))
  | .add=>if s.size+t.size≤9223372036854775807 then some (.cV (s++t)) else none
  |_=>none
 |_,_=>none
theorem qi(k:IntKind)(n:Int):k.min≤k.wrap n∧k.wrap n≤k.max:=by
 cases k <;>simp only[IntKind.min,IntKind.max,IntKind.wrap,IntKind.bits,IntKind.signed] <;>simp <;>(try split) <;>omega
theorem alY(a b:Int):(0≤a→0≤a.tmod b∧a.tmod b≤a)∧(a<0→a≤a.tmod b∧a.tmod b≤0):=by
 have key:∀ n:Nat,0≤(n:Int).tmod b∧(n:Int).tmod b≤n:=by
  intro n
  cases b with
  |ofNat m=>show 0≤((n%m:Nat):Int)∧((n%m:Nat):Int)≤n;have:=Nat.mod_le n m;omega
  |negSucc m=>show 0≤((n%(m+1):Nat):Int)∧((n%(m+1):Nat):Int)≤n;have:=Nat.mod_le n (m+1);omega
 refine ⟨fun h =>?_,fun h =>?_⟩
 ·obtain ⟨n,rfl⟩:=Int.eq_ofNat_of_zero_le h
  exact key n
 ·obtain ⟨n,hn⟩:=Int.eq_ofNat_of_zero_le (show 0≤-a by omega)
  have:=key n
  rw[←hn,Int.neg_tmod] at this
  omega
theorem alZ(k:IntKind)(a b:Int)(h:k.min≤a∧a≤k.max):k.min≤a.tmod b∧a.tmod b≤k.max:=by
 have h0:k.min≤0∧0≤k.max:=by cases k <;>simp[IntKind.min,IntKind.max,IntKind.bits,IntKind.signed]
 have:=alY a b
 omega
theorem XN(a:Int)(m:Int)(hm:0<m):(0≤a→0≤a.fdiv m∧a.fdiv m≤a)∧(a<0→a≤a.fdiv m∧a.fdiv m≤0):=by
 rw[Int.fdiv_eq_ediv_of_nonneg _ (by omega)]
 have h1:=Int.mul_ediv_add_emod a m
 have h2:=Int.emod_nonneg a (show m≠0 by omega)
 refine ⟨fun h=>⟨Int.ediv_nonneg h (by omega),Int.ediv_le_self _ h⟩,fun h=>⟨?_,?_⟩⟩
 ·rw[Int.le_ediv_iff_mul_le hm]
  have:a*m≤a*1:=Int.mul_le_mul_of_nonpos_left (by omega) (by omega)
  omega
 ·have:=Int.ediv_neg_of_neg_of_pos h hm
  omega
theorem XO(k:IntKind)(a:Int)(n:Nat)(h:k.min≤a∧a≤k.max):k.min≤a.fdiv (2^n)∧a.fdiv (2^n)≤k.max:=by
 have h0:k.min≤0∧0≤k.max:=by cases k <;>simp[IntKind.min,IntKind.max,IntKind.bits,IntKind.signed]
 have:=XN a (2^n) (Int.pow_pos (by omega))
 omega
def cu(A:ab):I→Option I
 | .ref x=>some x
 | .ptr n p=>match A.o n with
  |some (.box x)=>x.at p
  |_=>none
 |_=>none
mutual
def I.br:I→Bool
 | .agg fs=>I.bU fs
 | .slice _ es=>I.bU es
 | .ref x=>x.br
 | .func _ caps=>I.bU caps
 | .iface _ v=>v.br
 | .cU ks vs=>I.bU ks&&I.bU vs
 | .ptr _ _ | .own _ _ | .view _ _ _ _ _ | .mref _ | .dx _ | .undef | .c7 | .tuple _=>false
 | .bool _ | .int _ _ | .cV _ | .nilp | .de | .dS | .raw _ | .nils _ | .c0 _=>true
def I.bU:List I→Bool
 | []=>true
 |x::xs=>x.br&&I.bU xs
end
def fH(f:I→Option I):List I→Option (List I)
 | []=>some []
 |x::xs=>match f x,fH f xs with
  |some y,some ys=>some (y::ys)
  |_,_=>none
def dv(A:ab):Nat→I→Option I
 |0,_=>none
 |k+1,x=>if x.br then some x else match x with
  | .agg fs=>(fH (dv A k) fs).map .agg
  | .func f caps=>(fH (dv A k) caps).map (.func f)
  | .ptr n p=>match cu A (.ptr n p) with
   |some y=>(dv A k y).map .ref
   |none=>none
  | .view n p sz lo l=>match cu A (.ptr n p) with
   |some (.agg fs)=>if I.bU ((fs.drop lo).take l)=true then some (.slice sz ((fs.drop lo).take l)) else none
   |_=>none
  | .mref n=>match A.o n with
   |some (.ct ks vs)=>if I.bU ks=true then (fH (dv A k) vs).map (.cU ks) else none
   |_=>none
  | .own n l=>match A.o n with
   |some (.bT _ sz es)=>if l=es.length∧I.bU es=true then some (.slice sz es) else none
   |_=>none
  |_=>none
mutual
/-- The value for others to hold: pointers to the frame's own variables and rows become what they hold. -/
def bd(aB:Bool)(A:ab):I→Option I
 | .ptr n p=>if aB then (match cu A (.ptr n p) with | some x=>if x.br then some (.ref x) else (dv A 9 x).map .ref | none=>none) else none
 | .own n k=>match A.o n with
  |some (.bT _ sz es)=>if k=es.length∧I.bU es=true then some (.slice sz es) else none
  |_=>none
 | .view n p sz lo k=>if aB then (match cu A (.ptr n p) with
  |some (.agg fs)=>if I.bU ((fs.drop lo).take k)=true then some (.slice sz ((fs.drop lo).take k)) else none
  |_=>none) else none
 | .mref n=>if aB then (match A.o n with
  |some (.ct ks vs)=>if I.bU ks=true then (fH (dv A 9) vs).map (.cU ks) else none
  |_=>none) else none
 | .dx _=>none
 | .cU ks vs=>if I.bU ks&&I.bU vs then some (.cU ks vs) else none
 | .nils sz=>some (.slice sz [])
 | .c0 sz=>some (.slice sz [])
 | .func f caps=>(bY aB A caps).map (.func f)
 | .agg fs=>(bY aB A fs).map .agg
 | .tuple _=>none
 | .undef=>none
 | .c7=>none
 | .bool b=>some (.bool b)
 | .int k n=>some (.int k n)
 | .cV s=>some (.cV s)
 | .nilp=>some .nilp
 | .de=>some .de
 | .dS=>some .dS
 | .raw u=>some (.raw u)
 | .slice sz es=>if I.bU es then some (.slice sz es) else none
 | .ref x=>if x.br then some (.ref x) else none
 | .iface t v=>if v.br then some (.iface t v) else none
def bY(aB:Bool)(A:ab):List I→Option (List I)
 | []=>some []
 |x::xs=>match bd aB A x,bY aB A xs with
  |some y,some ys=>some (y::ys)
  |_,_=>none
end
def b6(s:Option Nat)(x:I):Bool:=match s with
 |none => !x.isAgg
 |some n=>x.isAgg&&x.size==n
def I.cm:I→Bool
 | .undef | .c7 | .tuple _=>false
 |_=>true
def iB(n esz:Nat)(fs:List I):Bool:=fs.length==n&&fs.all fun f=>f.size==esz
def eG(zs:List I):List (Nat×I)→Option (List I)
 | []=>some zs
 |(i,v)::rest=>match zs[i]? with
  |some z=>if v.cm=true∧v.size=z.size then eG (zs.set i v) rest else none
  |none=>none
def ic(x:Option I)(d:Int):Option Int:=match x with
 |none=>some d
 |some (.int _ n)=>some n
 |_=>none
def jD(sz:Nat)(es:List I)(lo hi mx:Option I):Option I :=
 match ic hi es.length with
 |none=>none
 |some h=>match ic mx es.length with
  |none=>none
  |some m=>match ic lo 0 with
   |none=>none
   |some l=>if 0≤l∧l≤h∧h≤m∧m≤es.length then
     (if mx.isSome∧m=l then some (.c0 sz) else some (.slice sz ((es.take h.toNat).drop l.toNat))) else none
def hU(n:Nat)(p:List Nat)(sz lo k total:Nat)(lo' hi' mx':Option I):Option I :=
 match ic hi' k with
 |none=>none
 |some h=>match ic lo' 0 with
  |none=>none
  |some l=>match mx' with
   |none=>if 0≤l∧l≤h∧h≤((total-lo:Nat):Int) then (if l=((total-lo:Nat):Int) then some (.c0 sz) else some (.view n p sz (lo+l.toNat) (h.toNat-l.toNat))) else none
   |some (.int _ m)=>if 0≤l∧l≤h∧h≤m∧m≤((total-lo:Nat):Int) then some .c7 else none
   |_=>none
def iy(a b:Option Bool):Option Bool:=match a,b with
 |some x,some y=>some (x&&y)
 |_,_=>none
mutual
/-- '==',part by part. -/
def cg:cK→I→I→Option Bool
 | .i k,x,y=>match x,y with
  | .int k1 a,.int k2 b=>if k1=k∧k2=k then some (a==b) else none
  |_,_=>none
 | .b,x,y=>match x,y with
  | .bool a,.bool b=>some (a==b)
  |_,_=>none
 | .s,x,y=>match x,y with
  | .cV a,.cV b=>some (a.toList==b.toList)
  |_,_=>none
 | .bg l,x,y=>match x,y with
  | .agg fs,.agg gs=>iU l fs gs
  |_,_=>none
 | .jG n e,x,y=>match x,y with
  | .agg fs,.agg gs=>if fs.length=n∧gs.length=n then (fs.zip gs).foldr (fun p acc=>iy (cg e p.1 p.2) acc) (some true) else none
  |_,_=>none
def iU:List cK→List I→List I→Option Bool
 | [],fs,gs=>match fs,gs with
  | [],[]=>some true
  |_,_=>none
 |t::ts,fs,gs=>match fs,gs with
  |f::fs,g::gs=>iy (cg t f g) (iU ts fs gs)
  |_,_=>none
end
def po(k:IntKind)(n:Int):Int:=k.wrap ((BitVec.ofInt k.bits (if k.signed then -1 else k.max) ^^^ BitVec.ofInt k.bits n).toNat:Int)
def fc(ty:cK)(k:I):List I→Nat→Option (Option Nat)
 | [],_=>some none
 |x::xs,i=>match cg ty k x with
  |some true=>some (some i)
  |some false=>fc ty k xs (i+1)
  |none=>none
def gq(A:ab):I→Option (List I×List I)
 | .cU ks vs=>some (ks,vs)
 | .mref n=>match A.o n with
  |some (.ct ks vs)=>some (ks,vs)
  |_=>none
 | .raw (.map none)=>some ([],[])
 |_=>none
def gp(ty:cK)(z k:I)(ks vs:List I):Option (I×Bool) :=
 if (cg ty k k).isSome then (match fc ty k ks 0 with
  |some (some i)=>(vs[i]?).map fun v=>(v,true)
  |some none=>some (z,false)
  |none=>none) else none
def iZ:I→Option Bool
 | .nilp=>some true
 | .ptr _ _=>some false
 | .ref _=>some false
 |_=>none
def gb(ty:cK)(k v:I)(ks vs:List I):Option (List I×List I) :=
 if (cg ty k k).isSome=true∧k.cm=true∧v.cm=true then (match fc ty k ks 0 with
  |some (some i)=>some (ks,vs.set i v)
  |some none=>some (ks++[k],vs++[v])
  |none=>none) else none
def mF:I→Option I
 | .ptr n p=>some (.ptr n p)
 | .ref x=>some (.ref x)
 |_=>none
def mJ(neg:Bool):Option Bool→Option Bool→Option I
 |some a,some b=>if a||b then some (.bool (if neg then !(a&&b) else (a&&b))) else none
 |_,_=>none
def qY(ok:Bool):Option (I×Bool)→Option I
 |some (v,b)=>some (if ok then .tuple [v,.bool b] else v)
 |none=>none
def qX(ty:cK)(z:I)(ok:Bool)(k:I):Option (List I×List I)→Option I
 |some (ks,vs)=>qY ok (gp ty z k ks vs)
 |none=>none
def pw(ks vs:List I):Option Nat→Option I
 |some i=>match ks[i]?,vs[i]? with
  |some k,some v=>some (.tuple [k,v])
  |_,_=>none
 |none=>none
def bu(A:ab):b7→Option I
 | .mv x=>some (ae A x)
 | .pick c a b=>match ae A c with | .bool t=>some (if t then ae A a else ae A b) | _=>none
 | .bin op x y=>cE op (ae A x) (ae A y)
 | .eqv ty neg x y=>(cg ty (ae A x) (ae A y)).map fun b=>.bool (if neg then !b else b)
 | .nilS neg x=>match ae A x with
  | .nils _=>some (.bool (!neg))
  | .slice _ es=>if es.isEmpty then none else some (.bool neg)
  | .view _ _ _ _ _=>some (.bool neg)
  |_=>none
 | .conv k x=>match ae A x with | .int _ n=>some (.int k (k.wrap n)) | _=>none
 | .un op x=>match op,ae A x with
  | .not,.bool b=>some (.bool !b)
  | .neg,.int k n=>some (.int k (k.wrap (0-n)))
  | .xor,.int k n=>some (.int k (po k n))
  |_,_=>none
 | .ld s x=>match cu A (ae A x) with | some v=>if b6 s v then some v else none | none=>none
 | .fa f off x=>match ae A x with
  | .ref (.agg fs)=>match fs[f]? with | some v=>if I.sizes (fs.take f)=off then some (.ref v) else none | none=>none
  | .ptr n p=>match cu A (.ptr n p) with | some (.agg fs)=>if f<fs.length∧I.sizes (fs.take f)=off then some (.ptr n (p++[f])) else none | _=>none
  |_=>none
 | .fl f off s x=>match ae A x with
  | .agg fs=>match fs[f]? with | some v=>if I.sizes (fs.take f)=off∧b6 s v=true then some v else none | none=>none
  |_=>none
 | .ia n esz x i=>match ae A i with
  | .int _ k=>if 0≤k∧k<n then (match ae A x with
   | .ref (.agg fs)=>if iB n esz fs then (fs[k.toNat]?).map .ref else none
   | .ptr m p=>match cu A (.ptr m p) with | some (.agg fs)=>if iB n esz fs then some (.ptr m (p++[k.toNat])) else none | _=>none
   |_=>none) else none
  |_=>none
 | .is esz x i=>match ae A i with
  | .int _ k=>match ae A x with
   | .slice sz es=>if sz=esz∧0≤k∧k<es.length then (es[k.toNat]?).map .ref else none
   | .own m l=>match A.o m with | some (.bT _ sz es)=>if l=es.length∧sz=esz∧0≤k∧k<es.length then (es[k.toNat]?).map .ref else none | _=>none
   | .view m p sz lo l=>match cu A (.ptr m p) with | some (.agg _)=>if sz=esz∧0≤k∧k<l then some (.ptr m (p++[lo+k.toNat])) else none | _=>none
   |_=>none
  |_=>none
 | .ix n esz s x i=>match ae A i with
  | .int _ k=>if 0≤k∧k<n then (match ae A x with
   | .agg fs=>if iB n esz fs then (match fs[k.toNat]? with | some v=>if b6 s v then some v else none | none=>none) else none
   |_=>none) else none
  |_=>none
 | .len x=>match ae A x with
  | .slice _ es=>some (.int .i64 es.length)
  | .nils _ | .c0 _=>some (.int .i64 0)
  | .own m l=>match A.o m with | some (.bT _ _ es)=>if l=es.length then some (.int .i64 es.length) else none | _=>none
  | .view _ _ _ _ k=>some (.int .i64 k)
  |_=>none
 | .cap x=>match ae A x with
  | .nils _ | .c0 _=>some (.int .i64 ((0:Nat):Int))
  | .view n p _ lo _=>match cu A (.ptr n p) with | some (.agg fs)=>some (.int .i64 ((fs.length-lo:Nat):Int)) | _=>none
  |_=>none
 | .bs0 esz=>some (.c0 esz)
 | .lenT x=>match ae A x with
  | .cV s=>some (.int .i64 s.size)
  |_=>none
 | .va n esz x=>match ae A x with
  | .ptr m p=>match cu A (.ptr m p) with | some (.agg fs)=>if iB n esz fs=true∧n≤maxLen∧n≠0 then some (.view m p esz 0 n) else none | _=>none
  | .ref (.agg fs)=>if iB n esz fs=true∧n≤maxLen∧n≠0 then some (.slice esz fs) else none
  |_=>none
 | .sl esz x lo hi mx=>match ae A x with
  | .slice sz es=>if sz=esz then jD sz es (lo.map (ae A)) (hi.map (ae A)) (mx.map (ae A)) else none
  | .nils sz=>if sz=esz then jD sz [] (lo.map (ae A)) (hi.map (ae A)) (mx.map (ae A)) else none
  | .c0 sz=>if sz=esz then jD sz [] (lo.map (ae A)) (hi.map (ae A)) (mx.map (ae A)) else none
  | .view n p sz l0 k=>match cu A (.ptr n p) with | some (.agg fs)=>if sz=esz then hU n p sz l0 k fs.length (lo.map (ae A)) (hi.map (ae A)) (mx.map (ae A)) else none | _=>none
  |_=>none
 | .bld zs parts=>(eG zs (parts.map fun p=>(p.1,ae A p.2))).map .agg
 | .nilC x=>mF (ae A x)
 | .ptrE neg x y=>mJ neg (iZ (ae A x)) (iZ (ae A y))
 | .lk ty z ok m k=>qX ty z ok (ae A k) (gq A (ae A m))
 | .ent x=>match ae A x with
  | .dx n=>match A.o n with
   |some (.it ks vs _ cur)=>pw ks vs cur
   |_=>none
  |_=>none
 | .bs esz parts=>match bY false A (parts.map (ae A)) with
  |some es=>if (es.all fun e=>e.size==esz)∧I.bU es then some (.slice esz es) else none
  |none=>none
 | .ext x i=>match ae A x with | .tuple fs=>fs[i]? | _=>none
 | .mk f caps=>if ((caps.map (ae A)).all fun y=>y.cm)=true then some (.func f (caps.map (ae A))) else none
 |_=>none
mutual
theorem af.fM{w:World}{D D':aQ}{E E':aU}(hD:∀ b o,D b o→D' b o):∀ (x:I) (cs:List Value),x.br=true→af w D E x cs→af w D' E' x cs
 | .agg fs,cs,hc,hr=>by simp only[af,I.br] at *;exact aJ.fM hD fs cs hc hr
 | .bool b,cs,_,hr=>by simpa only[af] using hr
 | .int k n,cs,_,hr=>by simpa only[af] using hr
 | .cV s,cs,_,hr=>by simpa only[af] using hr
 | .nilp,cs,_,hr=>by simpa only[af] using hr
 | .de,cs,_,hr=>by simpa only[af] using hr
 | .dS,cs,_,hr=>by simpa only[af] using hr
 | .raw _,cs,_,hr=>by simpa only[af] using hr
 | .nils _,cs,_,hr=>by simpa only[af] using hr
 | .c0 _,cs,_,hr=>by simpa only[af] using hr
 | .slice sz es,cs,hc,hr=>by
  simp only[af,I.br] at *
  obtain ⟨a,cap,h1,h2,h3,h4,h5⟩:=hr
  refine ⟨a,cap,h1,h2,h3,?_,h5⟩
  rcases h4 with h4 | ⟨b,off,cs',h6,h7,h8⟩
  ·exact .inl h4
  ·exact .inr ⟨b,off,cs',h6,fun j v hj=>⟨(h7 j v hj).1,hD _ _ (h7 j v hj).2⟩,aJ.fM hD es cs' hc h8⟩
 | .ref x,cs,hc,hr=>by
  simp only[af,I.br] at *
  obtain ⟨b,off,cs',h1,h2,h3⟩:=hr
  exact ⟨b,off,cs',h1,fun j v hj=>⟨(h2 j v hj).1,hD _ _ (h2 j v hj).2⟩,af.fM hD x cs' hc h3⟩
 | .func f caps,cs,hc,hr=>by
  simp only[af,I.br] at *
  obtain ⟨vs,h1,h2⟩:=hr
  exact ⟨vs,h1,aI.fM hD caps vs hc h2⟩
 | .iface t v,cs,hc,hr=>by
  simp only[af,I.br] at *
  obtain ⟨u,cs',h1,h2,h3⟩:=hr
  exact ⟨u,cs',h1,h2,af.fM hD v cs' hc h3⟩
 | .ptr n p,_,hc,_=>by simp[I.br] at hc
 | .own n k,_,hc,_=>by simp[I.br] at hc
 | .view n p _ _ _,_,hc,_=>by simp[I.br] at hc
 | .mref n,_,hc,_=>by simp[I.br] at hc
 | .dx n,_,hc,_=>by simp[I.br] at hc
 | .cU ks vs,cs,hc,hr=>by
  simp only[af,I.br,Bool.and_eq_true] at *
  obtain ⟨b,es,ck,h1,h2,h3,h4⟩:=hr
  exact ⟨b,es,ck,h1,⟨h2.1,hD _ _ h2.2.1,h2.2.2⟩,aI.fM hD ks _ hc.1 h3,aI.fM hD vs _ hc.2 h4⟩
 | .undef,_,hc,_=>by simp[I.br] at hc
 | .c7,_,hc,_=>by simp[I.br] at hc
 | .tuple _,_,hc,_=>by simp[I.br] at hc
theorem aJ.fM{w:World}{D D':aQ}{E E':aU}(hD:∀ b o,D b o→D' b o):∀ (xs:List I) (cs:List Value),I.bU xs=true→aJ w D E xs cs→aJ w D' E' xs cs
 | [],cs,_,hr=>by simpa only[aJ] using hr
 |x::xs,cs,hc,hr=>by
  simp only[aJ,I.bU,Bool.and_eq_true] at *
  obtain ⟨c1,c2,h1,h2,h3⟩:=hr
  exact ⟨c1,c2,h1,af.fM hD x c1 hc.1 h2,aJ.fM hD xs c2 hc.2 h3⟩
theorem aI.fM{w:World}{D D':aQ}{E E':aU}(hD:∀ b o,D b o→D' b o):∀ (xs:List I) (vs:List Value),I.bU xs=true→aI w D E xs vs→aI w D' E' xs vs
 | [],vs,_,hr=>by simpa only[aI] using hr
 |x::xs,vs,hc,hr=>by
  simp only[aI,I.bU,Bool.and_eq_true] at *
  obtain ⟨v,rest,cs,h1,h2,h3,h4⟩:=hr
  exact ⟨v,rest,cs,h1,h2,af.fM hD x cs hc.1 h3,aI.fM hD xs rest hc.2 h4⟩
end
theorem oD{w:World}{D:aQ}{b:Nat}{cs:Array Value}{T:TypeId}{fz:Nat×Nat}(hb:w.heap[b]?=some (.cells cs T fz)){c1 c2 c3:List Value}(hc:cs.toList=c1++c2++c3)
  (hD:∀ o,o<c1.length+c2.length→D b o):gO w D b c1.length c2:=by
 intro j v hj
 have hjl:j<c2.length:=(List.getElem?_eq_some_iff.1 hj).1
 refine ⟨?_,hD _ (by omega)⟩
 have e:cs[c1.length+j]?=some v:=by
  rw[←Array.getElem?_toList,hc,List.append_assoc,List.getElem?_append_right (by omega),Nat.add_sub_cancel_left,List.getElem?_append_left (by omega)]
  exact hj
 simp[World.cell?,hb,e]
section
variable {c:cJ} {A:ab} {a:Act} {w:World} {D:aQ} {E:aU}
theorem aS.box(h:aS c A a w D E){n:Nat}{x:I}(hn:A.o n=some (.box x)) :
  ∃ b cs T,E n=some (.aB b x.aR)∧c.fj b∧w.heap[b]?=some (.cells cs T (0,0))∧af w D E x cs.toList∧∀ o,¬ D b o:=by
 have:=h.bQ n
 rw[hn] at this
 exact this
theorem aS.bT(h:aS c A a w D E){n sz:Nat}{T:TypeId}{es:List I}(hn:A.o n=some (.bT T sz es)) :
  ∃ aD,E n=some (.rw aD es.length)∧(∀ e∈es,e.size=sz)∧match aD with
  |none=>es=[]
  |some (b,cap)=>∃ cs pre rest,c.fj b∧w.heap[b]?=some (.cells cs T (0,0))∧cs.toList=pre++rest∧aJ w D E es pre ∧
    cs.size=cap*sz∧es.length≤cap∧cap≤maxLen∧∀ o,D b o→o<pre.length:=by
 have:=h.bQ n
 rw[hn] at this
 exact this
theorem aS.rN(h:aS c A a w D E){n:Nat}{T:TypeId}{xs:List Int}(hn:A.o n=some (.cM T xs)) :
  ∃ aD,E n=some (.rw aD xs.length)∧(∀ x∈xs,IntKind.i64.min≤x∧x≤IntKind.i64.max)∧match aD with
  |none=>xs=[]
  |some (b,cap)=>∃ cs m,c.fj b∧w.heap[b]?=some (.cells cs T (0,0))∧cs.toList=(xs++List.replicate m 0).map (Value.int .i64)∧xs≠[]∧xs.length+m=cap∧cap≤maxLen∧∀ o,¬ D b o:=by
 have:=h.bQ n
 rw[hn] at this
 exact this
theorem aS.map(h:aS c A a w D E){n:Nat}{ks vs:List I}(hn:A.o n=some (.ct ks vs)) :
  ∃ b es clock,E n=some (.ct b)∧c.fj b∧w.heap[b]?=some (.map es clock)∧qf es clock∧aI w D E ks (es.toList.map (·.key))∧aI w D E vs (es.toList.map (·.val))∧∀ o,¬ D b o:=by
 have:=h.bQ n
 rw[hn] at this
 exact this
theorem aS.at(h:aS c A a w D E){n:Nat}{p:List Nat}{x:I}(hx:cu A (.ptr n p)=some x) :
  ∃ y b cs T off c1 c2 c3,A.o n=some (.box y)∧E n=some (.aB b y.aR)∧c.fj b∧w.heap[b]?=some (.cells cs T (0,0))∧y.at p=some x∧y.aR.off p=some off ∧
   cs.toList=c1++c2++c3∧c1.length=off∧af w D E x c2∧af w D E y cs.toList∧∀ o,¬ D b o:=by
 simp only[cu] at hx
 split at hx
 ·rename_i y hn
  obtain ⟨b,cs,T,h1,h2,h3,h4,h5⟩:=h.box hn
  obtain ⟨off,c1,c2,c3,h6,h7,h8,h9⟩:=yr p y x _ h4 hx
  exact ⟨y,b,cs,T,off,c1,c2,c3,hn,h1,h2,h3,hx,h6,h7,h8,h9,h4,h5⟩
 ·cases hx
theorem aS.Af(h:aS c A a w D E){x y:I}{v:Value}(hv:aT w D E x v)(hx:cu A x=some y) :
  ∃ b off cs,v=.pointer (some ⟨b,off,none⟩)∧(∀ j u,cs[j]?=some u→w.cell? ⟨b,off+j,none⟩=some u)∧af w D E y cs:=by
 cases x with
 |ref z =>
  simp only[cu,Option.some.injEq] at hx
  subst hx
  obtain ⟨b,off,cs,h1,h2,h3⟩:=p9 hv
  exact ⟨b,off,cs,h1,fun j u hj=>(h2 j u hj).1,h3⟩
 |ptr n p =>
  obtain ⟨b,aR,off,h1,h2,h3⟩:=oJ hv
  obtain ⟨z,b',cs,T,off',c1,c2,c3,k1,k2,_,k3,_,k5,k6,k7,k8,_,_⟩:=h.at hx
  rw[k2] at h1
  simp only[Option.some.injEq,bR.aB.injEq] at h1
  obtain ⟨rfl,rfl⟩:=h1
  rw[k5,Option.some.injEq] at h2
  subst h2
  refine ⟨b',off',c2,h3,fun j u hj =>?_,k8⟩
  have:=oD (D:=fun _ _=>True) k3 k6 (fun _ _=>trivial)
  rw[k7] at this
  exact (this j u hj).1
 |_=>simp[cu] at hx
theorem tY{w:World}{D:aQ}{E:aU} : ∀ (xs ys:List I) (cs:List Value),aJ w D E (xs++ys) cs→∃ c1 c2,cs=c1++c2∧aJ w D E xs c1∧aJ w D E ys c2
 | [],ys,cs,hr=>⟨[],cs,rfl,by simp[aJ],hr⟩
 |x::xs,ys,cs,hr=>by
  simp only[List.cons_append,aJ] at hr
  obtain ⟨d1,d2,rfl,k1,k2⟩:=hr
  obtain ⟨e1,e2,rfl,k3,k4⟩:=tY xs ys d2 k2
  exact ⟨d1++e1,e2,by simp,by simp only[aJ];exact ⟨d1,e1,rfl,k1,k3⟩,k4⟩
theorem MD{fs:List I}{sz:Nat}(h:∀ s∈I.cT fs,s.size=sz):∀ f∈fs,f.size=sz:=by
 intro f hf
 rw[←I.l6]
 exact h _ (by rw[I.dq];exact List.mem_map.2 ⟨f,hf,rfl⟩)
theorem tZ{w:World}{D:aQ}{E:aU}{fs:List I}{cs:List Value}{sz:Nat}(hr:aJ w D E fs cs)(hev:∀ f∈fs,f.size=sz)(lo k:Nat)(h:lo+k≤fs.length) :
  ∃ d1 d2 d3,cs=d1++(d2++d3)∧d1.length=lo*sz∧aJ w D E ((fs.drop lo).take k) d2∧aJ w D E ((fs.drop lo).drop k) d3:=by
 have e1:fs=fs.take lo++((fs.drop lo).take k++(fs.drop lo).drop k):=by rw[List.take_append_drop,List.take_append_drop]
 rw[e1] at hr
 obtain ⟨d1,d',rfl,q1,q2⟩:=tY _ _ _ hr
 obtain ⟨d2,d3,rfl,q3,q4⟩:=tY _ _ _ q2
 refine ⟨d1,d2,d3,rfl,?_,q3,q4⟩
 rw[aJ.length _ _ q1,I.iJ _ (fun x hx=>hev x (List.mem_of_mem_take hx)),List.length_take]
 congr 1
 omega
structure iw (aB:Bool) (A:ab) (D:aQ) (E:aU) (D':aQ):Prop where
 c5:∀ b o,D b o→D' b o
 bT:∀ n T sz es b cap,A.o n=some (.bT T sz es)→E n=some (.rw (some (b,cap)) es.length)→∀ o,o<es.length*sz→D' b o
 box:aB=true→∀ n x b aR,A.o n=some (.box x)→E n=some (.aB b aR)→∀ o,o<x.size→D' b o
 map:aB=true→∀ n ks vs b,A.o n=some (.ct ks vs)→E n=some (.ct b)→D' b 0
def ef(A A':ab):Prop:=∀ n x,A.o n=some x→A'.o n=some x
theorem jL{A A':ab}(hu:ef A A'){x v:I}(h:cu A x=some v):cu A' x=some v:=by
 cases x <;>simp only[cu] at h ⊢ <;>try exact h
 rename_i n p
 cases ho:A.o n with
 |none=>rw[ho] at h;cases h
 |some y=>rw[ho] at h;rw[hu n y ho];exact h
theorem C1{A0 A:ab}(hu:ef A0 A){n:Nat}{p:List Nat}{x z:I}(h:cu A0 (.ptr n p)=some x)(hz:A.o n=some (.box z)):A0.o n=some (.box z):=by
 simp only[cu] at h
 split at h
 ·rename_i y hy
  have:=hu n _ hy
  rw[hz] at this
  rw[hy,←this]
 ·cases h
theorem aS.L8(h:aS c A a w D E){A0:ab}(hu:ef A0 A){D':aQ}(hw:iw true A0 D E D'){n:Nat}{p:List Nat}{x:I}{cs:List Value}(hx:cu A0 (.ptr n p)=some x)(hr:af w D E (.ptr n p) cs) :
  ∃ b off c2,cs=[.pointer (some ⟨b,off,none⟩)]∧gO w D' b off c2∧af w D E x c2:=by
 obtain ⟨z,b',cs',T,off',c1,c2,c3,k1,k2,_,k3,k4,k5,k6,k7,k8,k9,_⟩:=h.at (jL hu hx)
 have k1:=C1 hu hx k1
 simp only[af] at hr
 obtain ⟨b,aR,off,h1,h2,h3⟩:=hr
 rw[k2] at h1
 simp only[Option.some.injEq,bR.aB.injEq] at h1
 obtain ⟨rfl,rfl⟩:=h1
 rw[k5,Option.some.injEq] at h2
 subst h2
 have hsz:=af.length z _ k9
 rw[k6] at hsz
 simp only[List.length_append] at hsz
 refine ⟨b',off',c2,h3,?_,k8⟩
 rw[←k7]
 exact oD k3 k6 (fun o ho=>hw.box rfl n z b' _ k1 k2 o (by omega))
theorem aS.jD(h:aS c A a w D E){A0:ab}(hu:ef A0 A){D':aQ}{E':aU}(hw:iw true A0 D E D'){n:Nat}{p:List Nat}{sz lo k:Nat}{fs:List I}{cs:List Value}(hx:cu A0 (.ptr n p)=some (.agg fs))(hr:af w D E (.view n p sz lo k) cs)
  (hcl:I.bU ((fs.drop lo).take k)=true):af w D' E' (.slice sz ((fs.drop lo).take k)) cs:=by
 obtain ⟨z,b',cs',T,off',c1,c2,c3,k1,k2,_,k3,k4,k5,k6,k7,k8,k9,_⟩:=h.at (jL hu hx)
 have k1:=C1 hu hx k1
 simp only[af] at hr k8 ⊢
 obtain ⟨b,aR,off,l,h1,h2,h3,h4,h5,h6,h7⟩:=hr
 rw[k2] at h1
 simp only[Option.some.injEq,bR.aB.injEq] at h1
 obtain ⟨rfl,rfl⟩:=h1
 rw[k5,Option.some.injEq] at h2
 subst h2
 rw[mU p z _ k4] at h3
 simp only[I.aR,Option.some.injEq,cO.eh.injEq] at h3
 subst h3
 have hsz:=af.length z _ k9
 rw[k6] at hsz
 rw[I.dq,List.length_map] at h4 h5 h6
 have hev:=MD h7
 obtain ⟨d1,d2,d3,rfl,q1,q2,q3⟩:=tZ k8 hev lo k h6
 simp only[List.length_append] at hsz
 have hlen:((fs.drop lo).take k).length=k:=by rw[List.length_take,List.length_drop];omega
 refine ⟨some ⟨b',off'+lo*sz,none⟩,fs.length-lo,by rw[hlen];exact h4,by rw[hlen];omega,by omega,.inr ⟨b',off'+lo*sz,d2,rfl,?_,aJ.fM hw.c5 _ d2 hcl q2⟩,?_⟩
 ·have:=oD (D:=D') (c1:=c1++d1) (c2:=d2) (c3:=d3++c3) k3 (by rw[k6];simp) (fun o ho=>hw.box rfl n z b' _ k1 k2 o (by rw[List.length_append] at ho;omega))
  rw[List.length_append,k7,q1] at this
  exact this
 ·intro e he
  exact hev e (List.mem_of_mem_drop (List.mem_of_mem_take he))
theorem aS.Mo(h:aS c A a w D E){aB:Bool}{A0:ab}(hu:ef A0 A){D':aQ}{E':aU}(hw:iw aB A0 D E D'){n k T sz:Nat}{es:List I}{cs:List Value}(hn:A0.o n=some (.bT T sz es))(hcl:I.bU es=true)(hk:k=es.length)(hr:af w D E (.own n k) cs):af w D' E' (.slice sz es) cs:=by
 subst hk
 simp only[af] at hr
 obtain ⟨aD,l,h1,h2,_,h4⟩:=hr
 obtain ⟨blk',k1,k2,k3⟩:=h.bT (hu n _ hn)
 rw[k1] at h1
 simp only[Option.some.injEq,bR.rw.injEq] at h1
 obtain ⟨rfl,rfl⟩:=h1
 have h4:=h4 rfl
 cases blk' with
 |none =>
  simp only at k3 h4
  subst k3
  simp only[af]
  exact ⟨none,0,by simpa using h4,by simp,by simp[maxLen],by simp,by simp⟩
 |some bc =>
  obtain ⟨b,cap⟩:=bc
  simp only at h4
  obtain ⟨cs',pre,rest,k4,k5,k6,k7,k8,k9,k10,k11⟩:=k3
  simp only[af]
  refine ⟨some ⟨b,0,none⟩,cap,h4,k9,k10,.inr ⟨b,0,pre,rfl,?_,aJ.fM hw.c5 es pre hcl k7⟩,k2⟩
  have hp:pre.length=es.length*sz:=by rw[aJ.length _ _ k7,I.iJ _ k2]
  have:=oD (D:=D') (c1:=[]) k5 (by simpa using k6) (fun o ho=>hw.bT n T sz es b cap hn k1 o (by simp at ho;omega))
  simpa using this
theorem Jt{w:World}{D D':aQ}{E E':aU}{f:I→Option I}(hf:∀ x y cs,af w D E x cs→f x=some y→af w D' E' y cs):∀ (xs ys:List I) (cs:List Value),aJ w D E xs cs→fH f xs=some ys→aJ w D' E' ys cs
 | [],ys,cs,hr,h=>by simp only[fH,Option.some.injEq] at h;subst h;simpa only[aJ] using hr
 |x::xs,ys,cs,hr,h=>by
  simp only[fH] at h
  split at h
  ·rename_i y ys' h1 h2
   simp only[Option.some.injEq] at h
   subst h
   simp only[aJ] at *
   obtain ⟨c1,c2,e,k1,k2⟩:=hr
   exact ⟨c1,c2,e,hf x y c1 k1 h1,Jt hf xs ys' c2 k2 h2⟩
  ·cases h
theorem tr{w:World}{D D':aQ}{E E':aU}{f:I→Option I}(hf:∀ x y cs,af w D E x cs→f x=some y→af w D' E' y cs)(hp:∀ x y,f x=some y→y.isAgg=x.isAgg):∀ (xs ys:List I) (vs:List Value),aI w D E xs vs→fH f xs=some ys→aI w D' E' ys vs
 | [],ys,cs,hr,h=>by simp only[fH,Option.some.injEq] at h;subst h;simpa only[aI] using hr
 |x::xs,ys,cs,hr,h=>by
  simp only[fH] at h
  split at h
  ·rename_i y ys' h1 h2
   simp only[Option.some.injEq] at h
   subst h
   simp only[aI] at *
   obtain ⟨v,rest,c1,e,k1,k2,k3⟩:=hr
   refine ⟨v,rest,c1,e,?_,hf x y c1 k2 h1,tr hf hp xs ys' rest k3 h2⟩
   unfold bK at *
   rw[hp x y h1]
   exact k1
  ·cases h
theorem vS{A0:ab} : ∀ {k:Nat} {x y:I},dv A0 k x=some y→y.isAgg=x.isAgg
 |0,_,_,h=>by simp[dv] at h
 |k+1,x,y,h=>by
  simp only[dv] at h
  split at h
  ·simp only[Option.some.injEq] at h;rw[h]
  ·cases x <;>simp only[] at h <;>first
    |(cases h;done)
    |(simp only[Option.map_eq_some_iff] at h;obtain ⟨z,_,rfl⟩:=h;rfl)
    |((repeat' split at h) <;>first | (cases h;done) | (simp only[Option.some.injEq] at h;subst h;rfl) | (simp only[Option.map_eq_some_iff] at h;obtain ⟨z,_,rfl⟩:=h;rfl))
theorem vT(h:aS c A a w D E){A0:ab}(hu:ef A0 A){D':aQ}{E':aU}(hw:iw true A0 D E D'):∀ (k:Nat) (x y:I) (cs:List Value),af w D E x cs→dv A0 k x=some y→af w D' E' y cs
 |0,_,_,_,_,hf=>by simp[dv] at hf
 |k+1,x,y,cs,hr,hf=>by
  have ih:=vT h hu (E':=E') hw k
  simp only[dv] at hf
  split at hf
  ·rename_i hcl
   simp only[Option.some.injEq] at hf;subst hf
   exact af.fM hw.c5 x cs hcl hr
  ·rename_i hcl
   cases x <;>simp only[] at hf <;>try (cases hf;done)
   case agg fs =>
    simp only[Option.map_eq_some_iff] at hf
    obtain ⟨ys,hy,rfl⟩:=hf
    simp only[af] at *
    exact Jt ih fs ys cs hr hy
   case func f caps =>
    simp only[Option.map_eq_some_iff] at hf
    obtain ⟨ys,hy,rfl⟩:=hf
    simp only[af] at *
    obtain ⟨vs,h1,h2⟩:=hr
    exact ⟨vs,h1,tr ih (fun x y hxy=>vS hxy) caps ys vs h2 hy⟩
   case ptr n p =>
    split at hf
    case h_2=>cases hf
    rename_i z hz
    simp only[Option.map_eq_some_iff] at hf
    obtain ⟨y',hy,rfl⟩:=hf
    obtain ⟨b,off,c2,k1,k2,k3⟩:=h.L8 hu hw hz hr
    simp only[af]
    exact ⟨b,off,c2,k1,k2,ih z y' c2 k3 hy⟩
   case view n p sz lo l =>
    split at hf
    case h_2=>cases hf
    rename_i fs hx
    split at hf
    case isFalse=>cases hf
    rename_i hc
    simp only[Option.some.injEq] at hf;subst hf
    exact h.jD hu hw hx hr hc
   case mref n =>
    split at hf
    case h_2=>cases hf
    rename_i ks vs hn
    split at hf
    case isFalse=>cases hf
    rename_i hc
    simp only[Option.map_eq_some_iff] at hf
    obtain ⟨ys,hy,rfl⟩:=hf
    simp only[af] at hr ⊢
    obtain ⟨b,h1,h2⟩:=hr
    obtain ⟨b',es,ck,k1,k2,k3,k4,k5,k6,k7⟩:=h.map (hu n _ hn)
    rw[k1] at h1;cases h1
    exact ⟨b,es,ck,h2,⟨k3,hw.map rfl n ks vs b hn k1,k4⟩,aI.fM hw.c5 ks _ hc k5,tr ih (fun x y hxy=>vS hxy) vs ys _ k6 hy⟩
   case own n l =>
    split at hf
    case h_2=>cases hf
    rename_i T sz es hn
    split at hf
    case isFalse=>cases hf
    rename_i hk
    simp only[Option.some.injEq] at hf;subst hf
    exact h.Mo hu hw hn hk.2 hk.1 hr
mutual
theorem Dt(h:aS c A a w D E){aB:Bool}{A0:ab}(hu:ef A0 A){D':aQ}{E':aU}(hw:iw aB A0 D E D'):∀ (x y:I) (cs:List Value),af w D E x cs→bd aB A0 x=some y→af w D' E' y cs
 | .ptr n p,y,cs,hr,hf=>by
  simp only[bd] at hf
  split at hf
  case isFalse=>cases hf
  rename_i hbx
  subst hbx
  split at hf
  case h_2=>cases hf
  rename_i x hx
  obtain ⟨b,off,c2,k1,k2,k3⟩:=h.L8 hu hw hx hr
  split at hf
  ·rename_i hcl
   simp only[Option.some.injEq] at hf
   subst hf
   simp only[af]
   exact ⟨b,off,c2,k1,k2,af.fM hw.c5 x c2 hcl k3⟩
  ·simp only[Option.map_eq_some_iff] at hf
   obtain ⟨y',hy,rfl⟩:=hf
   simp only[af]
   exact ⟨b,off,c2,k1,k2,vT h hu hw 9 x y' c2 k3 hy⟩
 | .mref n,y,cs,hr,hf=>by
  simp only[bd] at hf
  split at hf
  case isFalse=>cases hf
  rename_i hbx
  subst hbx
  split at hf
  case h_2=>cases hf
  rename_i ks vs hn
  split at hf
  case isFalse=>cases hf
  rename_i hc
  simp only[Option.map_eq_some_iff] at hf
  obtain ⟨ys,hy,rfl⟩:=hf
  simp only[af] at hr ⊢
  obtain ⟨b,h1,h2⟩:=hr
  obtain ⟨b',es,ck,k1,k2,k3,k4,k5,k6,k7⟩:=h.map (hu n _ hn)
  rw[k1] at h1;cases h1
  exact ⟨b,es,ck,h2,⟨k3,hw.map rfl n ks vs b hn k1,k4⟩,aI.fM hw.c5 ks _ hc k5,tr (vT h hu hw 9) (fun x y hxy=>vS hxy) vs ys _ k6 hy⟩
 | .dx _,_,_,_,hf=>by simp[bd] at hf
 | .cU ks vs,y,cs,hr,hf=>by
  simp only[bd] at hf
  split at hf
  ·rename_i hc;simp only[Option.some.injEq] at hf;subst hf;exact af.fM hw.c5 _ cs (by simpa[I.br] using hc) hr
  ·cases hf
 | .own n k,y,cs,hr,hf=>by
  simp only[bd] at hf
  split at hf
  case h_2=>cases hf
  rename_i T sz es hn
  split at hf
  case isFalse=>cases hf
  rename_i hk
  simp only[Option.some.injEq] at hf
  subst hf
  exact h.Mo hu hw hn hk.2 hk.1 hr
 | .view n p sz lo k,y,cs,hr,hf=>by
  simp only[bd] at hf
  split at hf
  case isFalse=>cases hf
  rename_i hbx
  subst hbx
  split at hf
  case h_2=>cases hf
  rename_i fs hx
  split at hf
  case isFalse=>cases hf
  rename_i hcl
  simp only[Option.some.injEq] at hf
  subst hf
  exact h.jD hu hw hx hr hcl
 | .nils sz,y,cs,hr,hf=>by
  simp only[bd,Option.some.injEq] at hf
  subst hf
  simp only[af] at *
  exact ⟨none,0,by simpa using hr,by simp,by simp[maxLen],by simp,by simp⟩
 | .c0 sz,y,cs,hr,hf=>by
  simp only[bd,Option.some.injEq] at hf
  subst hf
  simp only[af] at *
  obtain ⟨ad,hr⟩:=hr
  exact ⟨ad,0,by simpa using hr,by simp,by simp[maxLen],by simp,by simp⟩
 | .func f caps,y,cs,hr,hf=>by
  simp only[bd,Option.map_eq_some_iff] at hf
  obtain ⟨ys,hy,rfl⟩:=hf
  simp only[af] at *
  obtain ⟨vs,h1,h2⟩:=hr
  exact ⟨vs,h1,my h hu hw caps ys vs h2 hy⟩
 | .agg fs,y,cs,hr,hf=>by
  simp only[bd,Option.map_eq_some_iff] at hf
  obtain ⟨ys,hy,rfl⟩:=hf
  simp only[af] at *
  exact Du h hu hw fs ys cs hr hy
 | .tuple _,_,_,_,hf=>by simp[bd] at hf
 | .undef,_,_,_,hf=>by simp[bd] at hf
 | .c7,_,_,_,hf=>by simp[bd] at hf
 | .bool b,y,cs,hr,hf=>by simp only[bd,Option.some.injEq] at hf;subst hf;simpa only[af] using hr
 | .int k n,y,cs,hr,hf=>by simp only[bd,Option.some.injEq] at hf;subst hf;simpa only[af] using hr
 | .cV s,y,cs,hr,hf=>by simp only[bd,Option.some.injEq] at hf;subst hf;simpa only[af] using hr
 | .nilp,y,cs,hr,hf=>by simp only[bd,Option.some.injEq] at hf;subst hf;simpa only[af] using hr
 | .de,y,cs,hr,hf=>by simp only[bd,Option.some.injEq] at hf;subst hf;simpa only[af] using hr
 | .dS,y,cs,hr,hf=>by simp only[bd,Option.some.injEq] at hf;subst hf;simpa only[af] using hr
 | .raw _,y,cs,hr,hf=>by simp only[bd,Option.some.injEq] at hf;subst hf;simpa only[af] using hr
 | .slice sz es,y,cs,hr,hf=>by
  simp only[bd] at hf
  split at hf
  ·rename_i hc;simp only[Option.some.injEq] at hf;subst hf;exact af.fM hw.c5 _ cs (by simpa[I.br] using hc) hr
  ·cases hf
 | .ref x,y,cs,hr,hf=>by
  simp only[bd] at hf
  split at hf
  ·rename_i hc;simp only[Option.some.injEq] at hf;subst hf;exact af.fM hw.c5 _ cs (by simpa[I.br] using hc) hr
  ·cases hf
 | .iface t v,y,cs,hr,hf=>by
  simp only[bd] at hf
  split at hf
  ·rename_i hc;simp only[Option.some.injEq] at hf;subst hf;exact af.fM hw.c5 _ cs (by simpa[I.br] using hc) hr
  ·cases hf
theorem Du(h:aS c A a w D E){aB:Bool}{A0:ab}(hu:ef A0 A){D':aQ}{E':aU}(hw:iw aB A0 D E D'):∀ (xs ys:List I) (cs:List Value),aJ w D E xs cs→bY aB A0 xs=some ys→aJ w D' E' ys cs
 | [],ys,cs,hr,hf=>by simp only[bY,Option.some.injEq] at hf;subst hf;simpa only[aJ] using hr
 |x::xs,ys,cs,hr,hf=>by
  simp only[bY] at hf
  split at hf
  ·rename_i y ys' h1 h2
   simp only[Option.some.injEq] at hf
   subst hf
   simp only[aJ] at *
   obtain ⟨c1,c2,e,k1,k2⟩:=hr
   exact ⟨c1,c2,e,Dt h hu hw x y c1 k1 h1,Du h hu hw xs ys' c2 k2 h2⟩
  ·cases hf
theorem my(h:aS c A a w D E){aB:Bool}{A0:ab}(hu:ef A0 A){D':aQ}{E':aU}(hw:iw aB A0 D E D'):∀ (xs ys:List I) (vs:List Value),aI w D E xs vs→bY aB A0 xs=some ys→aI w D' E' ys vs
 | [],ys,cs,hr,hf=>by simp only[bY,Option.some.injEq] at hf;subst hf;simpa only[aI] using hr
 |x::xs,ys,cs,hr,hf=>by
  simp only[bY] at hf
  split at hf
  ·rename_i y ys' h1 h2
   simp only[Option.some.injEq] at hf
   subst hf
   simp only[aI] at *
   obtain ⟨v,rest,c1,e,k1,k2,k3⟩:=hr
   refine ⟨v,rest,c1,e,?_,Dt h hu hw x y c1 k2 h1,my h hu hw xs ys' rest k3 h2⟩
   have:y.isAgg=x.isAgg:=by
    cases x <;>simp only[bd] at h1 <;>first
     |(simp at h1;done)
     |(simp only[Option.some.injEq] at h1;subst h1;rfl)
     |(simp only[Option.map_eq_some_iff] at h1;obtain ⟨z,_,rfl⟩:=h1;rfl)
     |((repeat' split at h1) <;>first | (simp at h1;done) | (simp only[Option.some.injEq] at h1;subst h1;rfl) | (simp only[Option.map_eq_some_iff] at h1;obtain ⟨z,_,rfl⟩:=h1;rfl))
   unfold bK at *
   rw[this]
   exact k1
  ·cases hf
end
end
def fO(P:Program)(t:TypeId):Option (Option Nat):=match P.underlying t with
 |some (.struct _) | some (.array _ _)=>some (some (P.cellsOf t))
 |some _=>some none
 |none=>none
def zh(P:Program):Nat→TypeId→Option I
 |0,_=>none
 |d+1,t=>match P.underlying t with
  |some .bool=>some (.bool false)
  |some (.int k)=>some (.int k 0)
  |some .string=>some (.cV ByteArray.empty)
  |some (.pointer _)=>some .nilp
  |some (.slice e)=>some (.nils (P.cellsOf e))
  |some (.func _ _ _)=>some .de
  |some (.interface _)=>some .dS
  |some (.map _ _)=>some (.raw (.map none))
  |some (.struct fs)=>(fs.toList.mapM fun f=>zh P d f.type).map .agg
  |some (.array n e)=>(zh P d e).map fun z=>.agg (List.replicate n z)
  |_=>none
def lx:I→Value→Bool
 | .bool b,.bool b'=>b==b'
 | .int k n,.int k' n'=>k==k'&&n==n'&&decide (k.min≤n∧n≤k.max)
 | .cV s,.string t=>s.size==0&&t.size==0
 | .nilp,.pointer none=>true
 | .nils _,.slice none 0 0=>true
 | .de,.nilFunc=>true
 | .dS,.nilIface=>true
 | .raw (.map none),.map none=>true
 |_,_=>false
mutual
def mZ:I→List Value→Option (List Value)
 | .agg fs,cs=>rR fs cs
 | .bool b,v::cs=>if lx (.bool b) v then some cs else none
 | .int k n,v::cs=>if lx (.int k n) v then some cs else none
 | .cV s,v::cs=>if lx (.cV s) v then some cs else none
 | .nilp,v::cs=>if lx .nilp v then some cs else none
 | .nils z,v::cs=>if lx (.nils z) v then some cs else none
 | .de,v::cs=>if lx .de v then some cs else none
 | .dS,v::cs=>if lx .dS v then some cs else none
 | .raw u,v::cs=>if lx (.raw u) v then some cs else none
 |_,_=>none
def rR:List I→List Value→Option (List Value)
 | [],cs=>some cs
 |x::xs,cs=>match mZ x cs with
  |some r=>rR xs r
  |none=>none
end
theorem ByteArray.Xx{s t:ByteArray}(hs:s.size=0)(ht:t.size=0):s=t:=by
 cases s with | mk a=>cases t with | mk b =>
 have ha:a = #[]:=Array.eq_empty_of_size_eq_zero hs
 have hb:b = #[]:=Array.eq_empty_of_size_eq_zero ht
 rw[ha,hb]
theorem TT{x:I}{v:Value}(h:lx x v=true)(w:World)(D:aQ)(E:aU):af w D E x [v]:=by
 unfold lx at h
 split at h
 case h_9=>cases h
 case h_1=>simp only[beq_iff_eq] at h;subst h;simp[af]
 case h_2 =>
  simp only[Bool.and_eq_true,beq_iff_eq,decide_eq_true_eq] at h
  obtain ⟨⟨rfl,rfl⟩,h⟩:=h
  simp only[af,true_and];exact h
 case h_3 =>
  simp only[Bool.and_eq_true,beq_iff_eq] at h
  have e:=ByteArray.Xx h.1 h.2
  subst e
  simp only[af,true_and];rw[h.1];exact Nat.zero_le _
 all_goals simp[af,Value.oneCell']
mutual
theorem Ni:∀ (x:I) (cs r:List Value),mZ x cs=some r→∃ c1,cs=c1++r∧∀ w D E,af w D E x c1
 | .agg fs,cs,r,h=>by
  simp only[mZ] at h
  obtain ⟨c1,h1,h2⟩:=Nj fs cs r h
  exact ⟨c1,h1,fun w D E=>by simp only[af];exact h2 w D E⟩
 | .bool b,v::cs,r,h | .int k n,v::cs,r,h | .cV s,v::cs,r,h | .nilp,v::cs,r,h | .nils z,v::cs,r,h | .de,v::cs,r,h | .dS,v::cs,r,h | .raw u,v::cs,r,h=>by
  simp only[mZ] at h
  split at h
  ·rename_i hh
   simp only[Option.some.injEq] at h
   subst h
   exact ⟨[v],rfl,fun w D E=>TT hh w D E⟩
  ·cases h
 | .bool b,[],r,h | .int k n,[],r,h | .cV s,[],r,h | .nilp,[],r,h | .nils z,[],r,h | .de,[],r,h | .dS,[],r,h | .raw _,[],r,h=>by simp[mZ] at h
 | .undef,_,_,h | .c7,_,_,h | .c0 _,_,_,h | .slice _ _,_,_,h | .tuple _,_,_,h | .ref _,_,_,h | .func _ _,_,_,h | .iface _ _,_,_,h | .ptr _ _,_,_,h | .own _ _,_,_,h | .view _ _ _ _ _,_,_,h | .mref _,_,_,h | .dx _,_,_,h | .cU _ _,_,_,h=>by simp[mZ] at h
theorem Nj:∀ (xs:List I) (cs r:List Value),rR xs cs=some r→∃ c1,cs=c1++r∧∀ w D E,aJ w D E xs c1
 | [],cs,r,h=>by
  simp only[rR,Option.some.injEq] at h
  exact ⟨[],by simp[h],fun w D E=>by simp[aJ]⟩
 |x::xs,cs,r,h=>by
  simp only[rR] at h
  split at h
  ·rename_i r' hx
   obtain ⟨c1,h1,h2⟩:=Ni x cs r' hx
   obtain ⟨c2,h3,h4⟩:=Nj xs r' r h
   exact ⟨c1++c2,by rw[h1,h3,List.append_assoc],fun w D E=>by simp only[aJ];exact ⟨c1,c2,rfl,h2 w D E,h4 w D E⟩⟩
  ·cases h
end
def fT(P:Program)(t:TypeId):Option I :=
 match (P.info? t).bind (·.zero),zh P 12 t with
 |some z,some x=>match mZ x z.cells.toList with
  |some []=>some x
  |_=>none
 |_,_=>none
theorem l9{P:Program}{t:TypeId}{x:I}(h:fT P t=some x):∃ i z,P.info? t=some i∧i.zero=some z∧∀ w D E,af w D E x z.cells.toList:=by
 unfold fT at h
 split at h
 ·rename_i z x' hz hx
  split at h
  ·rename_i hk
   simp only[Option.some.injEq] at h
   subst h
   obtain ⟨i,hi,hz'⟩:=Option.bind_eq_some_iff.1 hz
   obtain ⟨c1,h1,h2⟩:=Ni _ _ _ hk
   rw[List.append_nil] at h1
   exact ⟨i,z,hi,hz',fun w D E=>by rw[h1];exact h2 w D E⟩
  ·cases h
 ·cases h
def lU:Nat→List I→List (Nat×Nat)
 |_,[]=>[]
 |k,x::xs=>(k,x.size)::lU (k+x.size) xs
theorem J4:∀ (xs:List I) (k i:Nat),(lU k xs)[i]?=(xs[i]?).map fun x=>(k+I.sizes (xs.take i),x.size)
 | [],k,i=>by simp[lU]
 |x::xs,k,0=>by simp[lU,I.sizes]
 |x::xs,k,i+1=>by
  simp only[lU,List.getElem?_cons_succ,J4 xs,List.take_succ_cons,I.sizes]
  cases xs[i]? <;>simp;omega
def gR (P : Program) (f : FuncId) : Bool := (P.funcs[f]?).any fun fn => fn.name != "runtime.NumGoroutine" && fn.body.isSome
def lv(P:Program)(ps:List (Nat×Operand)):Option (List (Nat×aL)):=ps.mapM fun p=>(bG P 0 p.2).map fun x=>(p.1,x)
def iP(P:Program):Option Operand→Option (Option aL)
 |none=>some none
 |some x=>(bG P 0 x).map some
def mg(P:Program):List Operand→List TypeId→Option (List aL)
 | [],_=>some []
 |x::xs,ts=>match bG P (ts.headD 0) x,mg P xs ts.tail with
  |some y,some ys=>some (y::ys)
  |_,_=>none
def pT(P:Program):Nat→List Field→Bool
 |_,[]=>true
 |k,f::fs=>f.offset==k&&pT P (k+P.cellsOf f.type) fs
def gG(P:Program):Nat→TypeId→Option cK
 |0,_=>none
 |d+1,t=>match P.underlying t with
  |some (.int k)=>some (.i k)
  |some .bool=>some .b
  |some .string=>some .s
  | some (.struct fs) => if P.stoodInHeld t = false ∧ (fs.toList.all fun f => f.name != "_") = true ∧ pT P 0 fs.toList = true then
    (fs.toList.mapM fun (f:Field)=>match gG P d f.type with
     |some ty=>if ty.size=P.cellsOf f.type then some ty else none
     |none=>none).map .bg else none
  |some (.array n e)=>match gG P d e with
   |some ty=>if ty.size=P.cellsOf e∧(P.info? e).isSome=true then some (.jG n ty) else none
   |none=>none
  |_=>none
def qR:Option TypeDesc→Bool
 |some (.int _)=>true
 |_=>false
def xy:cK→Bool
 | .i _=>true
 |_=>false
def lL(P:Program)(t:TypeId):Option cK:=match P.underlying t with
 |some (.int k)=>some (.i k)
 |some (.struct fs)=>match gG P 12 t with
  |some (.bg l)=>if l.all xy=true∧(fs.all fun f=>qR (P.underlying f.type))=true then some (.bg l) else none
  |_=>none
 |_=>none
def uC(P:Program)(t:TypeId)(z:I):Bool:=match (P.info? t).bind (·.zero) with
 |some (.agg _)=>z.isAgg
 |some _ => !z.isAgg
 |none=>false
def yP:Operand→Operand→Bool
 | .tmp a,.tmp b=>a==b
 |_,_=>false
theorem alc{x y:Operand}(h:yP x y=true):y=x:=by
 unfold yP at h
 split at h
 ·simp only[beq_iff_eq] at h;rw[h]
 ·cases h
def dF(P:Program)(o:Oper):Option b7 :=
 match o.op with
 | .move x | .assign x=>(bG P o.type x).map .mv
 | .pick c a b=>match bG P 0 c,bG P o.type a,bG P o.type b with
  |some c,some a,some b=>some (.pick c a b)
  |_,_,_=>none
 | .binOp op t x y _=>match P.underlying t,bG P 0 x,bG P 0 y with
  |some (.int _),some x,some y | some .string,some x,some y=>some (.bin op x y)
  |some (.slice _),some x,some y=>match y with
   | .c (.nils _)=>if op=.eql∨op=.neq then some (.nilS (op==.neq) x) else none
   |_=>none
  |some (.pointer _),some x,some y=>if op=.eql∨op=.neq then some (.ptrE (op==.neq) x y) else none
  |some _,some x,some y=>if (op=.eql∨op=.neq)∧P.eqGuardType P.depth t=false then (gG P 12 t).map fun ty=>.eqv ty (op==.neq) x y else none
  |_,_,_=>none
 | .unOp op _ x=>(bG P 0 x).map (.un op)
 | .nilCheck x=>(bG P 0 x).map .nilC
 | .makeMap _ none=>some .jO
 | .lookup t m k ok=>match P.underlying t,bG P 0 m,bG P 0 k with
  |some (.map kt et),some m,some k=>match lL P kt,fT P et with
   |some ty,some z=>if uC P et z=true then some (.lk ty z ok m k) else none
   |_,_=>none
  |_,_,_=>none
 | .mapUpdate t m k v | .insert t m k v=>match P.underlying t,bG P 0 m,bG P 0 k with
  |some (.map kt et),some m,some k=>match lL P kt,bG P et v with
   |some ty,some v=>some (.gK ty m k v)
   |_,_=>none
  |_,_,_=>none
 | .makeSlice t l l'=>match P.underlying t,bG P 0 l with
  |some (.slice e),some n=>match fT P e with
   |some z=>if yP l l'=true∧z.size=1∧P.cellsOf e=1 then some (.jP e (P.bytesOf e) z n) else none
   |none=>none
  |_,_=>none
 | .range t x=>match P.underlying t with
  |some (.map _ _)=>(bG P 0 x).map .kl
  |_=>none
 | .next x false=>(bG P 0 x).map .jx
 | .entry x=>(bG P 0 x).map .ent
 | .convert nL dst x=>match P.underlying nL,P.underlying dst,bG P 0 x with
  |some (.int _),some (.int k),some x=>some (.conv k x)
  |_,_,_=>none
 | .load t x=>match fO P t,bG P 0 x with
  |some s,some x=>some (.ld s x)
  |_,_=>none
 | .fieldAddr t x f=>match P.underlying t,bG P 0 x with
  |some (.struct fs),some x=>match fs[f]? with
   |some fd=>if P.cellsOf fd.type=0 then none else some (.fa f fd.offset x)
   |none=>none
  |_,_=>none
 | .field t x f=>match P.underlying t,bG P 0 x with
  |some (.struct fs),some x=>match fs[f]? with
   |some fd=>(fO P fd.type).map fun s=>.fl f fd.offset s x
   |none=>none
  |_,_=>none
 | .indexAddr t x i=>match P.underlying t,bG P 0 x,bG P 0 i with
  |some (.array n e),some x,some i=>if (P.info? e).isSome then some (.ia n (P.cellsOf e) x i) else none
  |some (.slice e),some x,some i=>if (P.info? e).isSome then some (.is (P.cellsOf e) x i) else none
  |_,_,_=>none
 | .index t x i=>match P.underlying t,bG P 0 x,bG P 0 i with
  |some (.array n e),some x,some i=>(fO P e).map fun s=>.ix n (P.cellsOf e) s x i
  |_,_,_=>none
 | .slice t x lo hi mx=>match P.underlying t,bG P 0 x with
  |some (.array n e),some x=>match lo,hi,mx with
   |none,none,none=>if (P.info? e).isSome then some (.va n (P.cellsOf e) x) else none
   |_,_,_=>none
  |some (.slice e),some x=>match iP P lo,iP P hi,iP P mx with
   |some lo,some hi,some mx=>if (mx.isSome=true→hi.isSome=true)∧(P.info? e).isSome=true then some (.sl (P.cellsOf e) x lo hi mx) else none
   |_,_,_=>none
  |_,_=>none
 | .build t parts=>match fT P t,lv P parts.toList with
  |some (.agg zs),some ps=>match P.underlying t with
   |some (.struct fs)=>if (fs.toList.map fun f=>(f.offset,P.cellsOf f.type))=lU 0 zs∧(fs.all fun f=>(P.info? f.type).isSome)=true then some (.bld zs ps) else none
   |some (.array n e)=>if zs.length=n∧(zs.all fun z=>z.size==P.cellsOf e)=true∧(P.info? e).isSome=true then some (.bld zs ps) else none
   |_=>none
  |_,_=>none
 | .buildSlice t len parts=>match P.underlying t with
  |some (.slice e)=>match lv P parts.toList with
   |some ps=>if len=0∧parts = #[]∧(P.info? e).isSome=true then some (.bs0 (P.cellsOf e)) else if ps.map (·.1)=List.range len∧0<P.cellsOf e∧0<len∧len*P.cellsOf e≤16777216∧((P.info? e).bind (·.zero)).isSome=true then some (.bs (P.cellsOf e) (ps.map (·.2))) else none
   |none=>none
  |_=>none
 | .extract x i=>(bG P 0 x).map fun x=>.ext x i
 | .makeFunc (.func f) first caps=>if first.isEmpty then (mg P caps.toList []).map (.mk f) else none
 | .alloc t=>(fT P t).map .alloc
 | .box t x=>(bG P t x).map .box
 | .store t x v=>match fO P t,bG P 0 x,bG P t v with
  |some s,some x,some v=>if s.isSome=true∨P.cellsOf t=1 then some (.bg s x v) else none
  |_,_,_=>none
 | .call { callee:=.value (.func f),args,argTypes } =>if gR P f then (mg P args.toList argTypes.toList).map (.call f) else (mg P args.toList argTypes.toList).map (.kr f)
 | .call { callee:=.value x,args,argTypes } =>match bG P 0 x,mg P args.toList argTypes.toList with
  |some x,some args=>some (.eL x args)
  |_,_=>none
 | .call { callee:=.builtin .len,args,argTypes } =>match args.toList,argTypes.toList with
  | [x],[t]=>match P.underlying t with
   |some (.slice _)=>(bG P t x).map .len
   |some .string=>(bG P t x).map .lenT
   |_=>none
  |_,_=>none
 | .call { callee:=.builtin .append,args,argTypes } =>match args.toList,argTypes.toList with
  | [s,x],[t,t']=>match P.underlying t,bG P t s,bG P t' x with
   |some (.slice e),some s,some x=>if t=t'∧0<P.cellsOf e∧(fT P e).map I.size=some (P.cellsOf e) then (fT P e).map fun z=>.cL e (P.cellsOf e) (P.bytesOf e) z s x else
    if qR (P.underlying t')=true∧0<P.cellsOf e∧(fT P e).map I.size=some (P.cellsOf e) then (fT P e).map fun z=>.me e (P.cellsOf e) (P.bytesOf e) z s x else none
   |_,_,_=>none
  |_,_=>none
 | .call { callee:=.builtin .cap,args,argTypes } =>match args.toList,argTypes.toList with
  | [x],[t]=>match P.underlying t with
   |some (.slice _)=>(bG P t x).map .cap
   |_=>none
  |_,_=>none
 | .call { callee:=.builtin .clear,args,argTypes } =>match args.toList,argTypes.toList with
  | [x],[t]=>match P.underlying t,bG P t x with
   |some (.slice e),some x=>(fT P e).map fun z=>.iR (P.cellsOf e) z x
   |_,_=>none
  |_,_=>none
 | .call { callee:=.builtin .copy,args,argTypes } =>match args.toList,argTypes.toList with
  | [x,y],[t,t']=>match P.underlying t,bG P t x,bG P t' y with
   |some (.slice e),some x,some y=>if t=t'∧(P.info? e).isSome=true then some (.lz (P.cellsOf e) x y) else none
   |_,_,_=>none
  |_,_=>none
 |_=>none
def dM(c:cJ)(A:ab)(o:Oper)(x:I):Prop :=
 ∀ a w D E,aS c A a w D E→∃ v w' D',(execOp a.eval o).run c.P w=.ok (.value v) w'∧aS c A a w' D' E∧aT w' D' E x v
section
variable {c:cJ} {A:ab} {o:Oper} {x:I}
theorem dM.same(h:∀ a w D E,aS c A a w D E→∃ v,(execOp a.eval o).run c.P w=.ok (.value v) w∧aT w D E x v):dM c A o x :=
 fun a w D E hs=>let ⟨v,h1,h2⟩:=h a w D E hs;⟨v,w,D,h1,hs,h2⟩
theorem IG{y:Operand}{z:aL}(ho:o.op=.move y∨o.op=.assign y)(hz:bG c.P o.type y=some z):dM c A o (ae A z) :=
 .same fun a w D E hs=>⟨a.eval y,by rcases ho with ho | ho <;>simp[execOp,ho],b9 hs hz⟩
theorem ahK{q y z:Operand}{q' y' z':aL}{t:Bool}(ho:o.op=.pick q y z)(hq:bG c.P 0 q=some q')(hy:bG c.P o.type y=some y')(hz:bG c.P o.type z=some z')
  (ht:ae A q'=.bool t):dM c A o (if t then ae A y' else ae A z') :=
 .same fun a w D E hs=>by
  have h1:=b9 hs hq
  rw[ht] at h1
  have h2:=lZ h1
  refine ⟨if t then a.eval y else a.eval z,by cases t <;>simp[execOp,ho,h2,asBool],?_⟩
  cases t
  ·exact b9 hs hz
  ·exact b9 hs hy
theorem yI{P:Program}{w:World}(op:BinOp)(t:TypeId)(x y:Operand){u v:Value}(hu:u.oneCell'=true)(hn:u≠.nilIface):(eqGuard op t x y u v).run P w=.ok () w:=by
 cases op <;>cases u <;>simp[Value.oneCell'] at hu <;>first | (exact absurd rfl hn) | (cases v <;>simp[eqGuard])
theorem OY{op:BinOp}{x y z:I}(h:cE op x y=some z){P:Program}{t:TypeId}{w:World}{D:aQ}{E:aU}{u v:Value}(hx:aT w D E x u)(hy:aT w D E y v)(xo yo:Operand) :
  ∃ r,(do eqGuard op t xo yo u v;binOp op t u v:Sem Value).run P w=.ok r w∧aT w D E z r:=by
 unfold cE at h
 split at h
 ·rename_i k a k' b
  obtain ⟨rfl,ha⟩:=fB hx
  obtain ⟨rfl,hb⟩:=fB hy
  have hg:∀ op,(eqGuard op t xo yo (.int k a) (.int k' b)).run P w=.ok () w:=fun op=>yI op t xo yo rfl (by simp)
  simp only[Sem.run_bind,hg,Result.andThen_ok]
  split at h
  ·split at h
   ·rename_i hb0
    simp only[Option.some.injEq] at h;subst h
    have:¬ b<0:=by omega
    exact ⟨_,by simp[binOp,Op.shift,this],kQ (qi _ _)⟩
   ·cases h
  ·split at h
   ·rename_i hb0
    simp only[Option.some.injEq] at h;subst h
    have:¬ b<0:=by omega
    exact ⟨_,by simp[binOp,Op.shift,this],kQ (XO _ _ _ ha)⟩
   ·cases h
  ·rename_i op h1 h2
   split at h
   ·rename_i hk
    subst hk
    split at h <;>first
     |(simp at h;done)
     |(simp only[Option.some.injEq] at h;subst h;exact ⟨_,by simp[binOp,Op.intArith,Op.intBits,Op.intCmp],kQ (qi _ _)⟩)
     |(simp only[Option.some.injEq] at h;subst h;exact ⟨_,by simp[binOp,Op.intCmp],ox _⟩)
     |(split at h
       ·cases h
       ·rename_i hb0
        simp only[Option.some.injEq] at h;subst h
        first
         |exact ⟨_,by simp[binOp,Op.intDiv,hb0],kQ (qi _ _)⟩
         |exact ⟨_,by simp[binOp,Op.intDiv,hb0],kQ (alZ _ _ _ ha)⟩)
   ·cases h
 ·rename_i s s'
  obtain ⟨rfl,hs1⟩:=nK hx
  obtain ⟨rfl,hs2⟩:=nK hy
  have hg:∀ op,(eqGuard op t xo yo (.string s) (.string s')).run P w=.ok () w:=fun op=>yI op t xo yo rfl (by simp)
  simp only[Sem.run_bind,hg,Result.andThen_ok]
  split at h <;>first
   |(simp at h;done)
   |(simp only[Option.some.injEq] at h;subst h;exact ⟨_,by simp[binOp,Op.stringOp],ox _⟩)
   |(split at h
     ·rename_i hl
      simp only[Option.some.injEq] at h;subst h
      have hl':¬ (((s.size+s'.size:Nat):Int)>IntKind.i64.max):=by
       have e:IntKind.i64.max=9223372036854775807:=by simp[IntKind.max,IntKind.bits,IntKind.signed]
       rw[e];omega
      refine ⟨.string (s++s'),by simp only[binOp,Op.stringOp,if_neg hl',Sem.run_pure],?_⟩
      exact ⟨_,by simp[bK,I.isAgg];rfl,by simp only[af,true_and];rw[ByteArray.size_append];unfold maxLen;omega⟩
     ·cases h)
 ·cases h
theorem IE{op:BinOp}{t yt:TypeId}{y z:Operand}{y' z':aL}(ho:o.op=.binOp op t y z yt)(hy:bG c.P 0 y=some y')(hz:bG c.P 0 z=some z')(h:cE op (ae A y') (ae A z')=some x):dM c A o x :=
 .same fun a w D E hs=>by
  obtain ⟨r,h1,h2⟩:=OY h (P:=c.P) (t:=t) (b9 hs hy) (b9 hs hz) y z
  exact ⟨r,by simp only[execOp,ho,Sem.run_bind] at *;rw[h1];rfl,h2⟩
theorem ahJ{t:TypeId}{y:Operand}{y':aL}{b:Bool}(ho:o.op=.unOp .not t y)(hy:bG c.P 0 y=some y')(h:ae A y'=.bool b):dM c A o (.bool !b) :=
 .same fun a w D E hs=>by
  have h1:=b9 hs hy
  rw[h] at h1
  exact ⟨.bool !b,by simp[execOp,ho,lZ h1,Op.unary],ox _⟩
theorem ahI{t:TypeId}{y:Operand}{y':aL}{k:IntKind}{n:Int}(ho:o.op=.unOp .neg t y)(hy:bG c.P 0 y=some y')(h:ae A y'=.int k n):dM c A o (.int k (k.wrap (0-n))) :=
 .same fun a w D E hs=>by
  have h1:=b9 hs hy
  rw[h] at h1
  exact ⟨.int k (k.wrap (0-n)),by simp[execOp,ho,(fB h1).1,Op.unary,Op.intArith],kQ (qi _ _)⟩
theorem ahs{t:TypeId}{y:Operand}{y':aL}{k:IntKind}{n:Int}(ho:o.op=.unOp .xor t y)(hy:bG c.P 0 y=some y')(h:ae A y'=.int k n):dM c A o (.int k (po k n)) :=
 .same fun a w D E hs=>by
  have h1:=b9 hs hy
  rw[h] at h1
  exact ⟨.int k (po k n),by simp[execOp,ho,(fB h1).1,Op.unary,Op.intBits,po],kQ (qi _ _)⟩
theorem ahr{nL dst:TypeId}{y:Operand}{y':aL}{k k0 k1:IntKind}{n:Int}(ho:o.op=.convert nL dst y)(h1:c.P.underlying nL=some (.int k0))(h2:c.P.underlying dst=some (.int k))
  (hy:bG c.P 0 y=some y') (h:ae A y'=.int k1 n):dM c A o (.int k (k.wrap n)) :=
 .same fun a w D E hs=>by
  have h3:=b9 hs hy
  rw[h] at h3
  exact ⟨.int k (k.wrap n),by simp[execOp,ho,(fB h3).1,convert,run_underlying h1,run_underlying h2,Conv.intToInt],kQ (qi _ _)⟩
theorem ahv{y:Operand}{y':aL}{i:Nat}{fs:List I}(ho:o.op=.extract y i)(hy:bG c.P 0 y=some y')(h:ae A y'=.tuple fs)(hi:fs[i]?=some x):dM c A o x :=
 .same fun a w D E hs=>by
  have h3:=b9 hs hy
  rw[h] at h3
  obtain ⟨vs,h4,h5⟩:=h3
  have:∀ (fs:List I) (vs:List Value) (i:Nat),aI w D E fs vs→fs[i]?=some x→∃ v,vs[i]?=some v∧aT w D E x v:=by
   intro fs
   induction fs with
   |nil=>intro vs i _ hi;simp at hi
   |cons f fs ih =>
    intro vs i hr hi
    simp only[aI] at hr
    obtain ⟨v,rest,cs,rfl,k1,k2,k3⟩:=hr
    cases i with
    |zero =>
     simp only[List.getElem?_cons_zero,Option.some.injEq] at hi ⊢
     subst hi
     refine ⟨v,rfl,?_⟩
     cases f <;>simp only[aT] <;>first | (simp only[af] at k2;done) | exact ⟨cs,k1,k2⟩
    |succ i=>simpa using ih rest i k3 (by simpa using hi)
  obtain ⟨v,h6,h7⟩:=this fs vs i h5 hi
  exact ⟨v,by simp[execOp,ho,h4,Instr.extract,h6],h7⟩
theorem mE{w:World}{D:aQ}{E:aU}{x:I}{v:Value}{cs:List Value}(h1:bK x v cs)(h2:af w D E x cs):aT w D E x v:=by
 cases x <;>simp only[aT] <;>first | (simp only[af] at h2;done) | exact ⟨cs,h1,h2⟩
theorem Mr{P:Program}{w:World}{t:TypeId}{s:Option Nat}(h:fO P t=some s):(isAgg t).run P w=.ok s.isSome w:=by
 unfold fO at h
 unfold isAgg
 cases hu:P.underlying t with
 |none=>simp[hu] at h
 |some d =>
  rw[Sem.run_bind,run_underlying hu w]
  cases d <;>simp_all <;>(subst h;rfl)
theorem xE{P:Program}{t:TypeId}{n:Nat}(h:fO P t=some (some n)):n=P.cellsOf t:=by
 unfold fO at h
 split at h <;>simp_all
theorem xr{P:Program}{t:TypeId}{d:TypeDesc}(h:P.underlying t=some d):∃ i,P.info? t=some i:=by
 unfold Program.underlying at h
 cases hi:P.info? t with
 |none=>simp[hi] at h
 |some i=>exact ⟨i,rfl⟩
theorem jl{P:Program}{w:World}{t:TypeId}{i:TypeInfo}(h:P.info? t=some i):(sizeOf t).run P w=.ok (P.cellsOf t) w:=by
 simp[sizeOf,typeInfo,h,Program.cellsOf]
theorem tf{P:Program}{t:TypeId}{s:Option Nat}(h:fO P t=some s):∃ i,P.info? t=some i:=by
 unfold fO at h
 split at h
 ·rename_i fs hu;exact xr hu
 ·rename_i n e hu;exact xr hu
 ·rename_i d _ _ hu;exact xr hu
 ·cases h
theorem m5(b off j:Nat):(⟨b,off,none⟩:Addr).add j=⟨b,off+j,none⟩:=by unfold Addr.add;split <;>simp_all
theorem Ms{P:Program}{w:World}{D:aQ}{E:aU}{t:TypeId}{s:Option Nat}{b off:Nat}{cs:List Value}{y:I}(hk:fO P t=some s)(hok:b6 s y=true)
  (hcs:∀ j u,cs[j]?=some u→w.cell? ⟨b,off+j,none⟩=some u) (hy:af w D E y cs):∃ v,(loadVar t ⟨b,off,none⟩).run P w=.ok v w∧aT w D E y v:=by
 have hag:=Mr (w:=w) hk
 cases s with
 |none =>
  simp only[b6,Bool.not_eq_true'] at hok
  have hl:=af.length _ _ hy
  have hsz:y.size=1:=by cases y <;>simp_all[I.isAgg,I.size]
  rw[hsz] at hl
  match cs,hl with
  | [v],_ =>
   have:=hcs 0 v rfl
   rw[Nat.add_zero] at this
   refine ⟨v,?_,Jw hok hy⟩
   simp only[loadVar,Sem.run_bind,hag,Result.andThen_ok,Option.isSome_none,Bool.false_eq_true,if_false,run_load,this]
 |some n =>
  simp only[b6,Bool.and_eq_true,beq_iff_eq] at hok
  obtain ⟨hag',hsz⟩:=hok
  have hn:=xE hk
  obtain ⟨i,hi⟩:=tf hk
  have hl:=af.length _ _ hy
  refine ⟨.agg cs.toArray,?_,mE (by simp[bK,hag']) hy⟩
  have hlc:=run_loadCells_list (P:=P) w ⟨b,off,none⟩ cs (fun j u hj=>by rw[m5];exact hcs j u hj)
  rw[hl,hsz,hn] at hlc
  simp only[loadVar,Sem.run_bind,hag,Result.andThen_ok,Option.isSome_some,if_true,jl hi,hlc,Sem.run_pure]
theorem ahF{t:TypeId}{y:Operand}{y':aL}{s:Option Nat}(ho:o.op=.load t y)(hk:fO c.P t=some s)(hy:bG c.P 0 y=some y')(h:cu A (ae A y')=some x)(hok:b6 s x=true):dM c A o x :=
 .same fun a w D E hs=>by
  obtain ⟨b,off,cs,h1,h2,h3⟩:=hs.Af (b9 hs hy) h
  obtain ⟨v,h4,h5⟩:=Ms hk hok h2 h3
  exact ⟨v,by simp[execOp,ho,Instr.loadAt,h1,Instr.sureAddr,h4],h5⟩
theorem ua{w:World}{D:aQ}{b off:Nat}{c1 c2 c3:List Value}(h:gO w D b off (c1++c2++c3)):gO w D b (off+c1.length) c2:=by
 intro j v hj
 have hjl:j<c2.length:=(List.getElem?_eq_some_iff.1 hj).1
 have:=h (c1.length+j) v (by rw[List.append_assoc,List.getElem?_append_right (by omega),Nat.add_sub_cancel_left,List.getElem?_append_left (by omega)];exact hj)
 rwa [←Nat.add_assoc] at this
theorem cO.tI:∀ (p:List Nat) (s:cO) (o i:Nat) (l:List cO),s.off p=some o→s.part p=some (.eh l)→i<l.length→s.off (p++[i])=some (o+cO.sizes (l.take i))
 | [],s,o,i,l,h1,h2,h3=>by
  simp only[cO.part,Option.some.injEq] at h2
  subst h2
  simp only[cO.off,Option.some.injEq] at h1
  subst h1
  simp[cO.off,List.getElem?_eq_getElem h3]
 |k::p,.one,o,i,l,h1,h2,h3=>by simp[cO.part] at h2
 |k::p,.eh m,o,i,l,h1,h2,h3=>by
  simp only[cO.off,cO.part,List.cons_append] at *
  cases hk:m[k]? with
  |none=>simp[hk] at h2
  |some s =>
   simp only[hk] at h1 h2 ⊢
   simp only[Option.map_eq_some_iff] at h1
   obtain ⟨o',h4,rfl⟩:=h1
   rw[cO.tI p s o' i l h4 h2 h3]
   simp[Nat.add_assoc]
theorem oM{esz:Nat} : ∀ (fs:List I) (k:Nat),(∀ f∈fs,f.size=esz)→k≤fs.length→I.sizes (fs.take k)=k*esz:=by
 intro fs k h hk
 rw[I.iJ _ (fun x hx=>h x (List.mem_of_mem_take hx))]
 simp[Nat.min_eq_left hk]
theorem qF{n esz:Nat}{fs:List I}(h:iB n esz fs=true):fs.length=n∧∀ f∈fs,f.size=esz:=by
 simp only[iB,Bool.and_eq_true,beq_iff_eq,List.all_eq_true] at h
 exact h
theorem Mp{P:Program}{w:World}{t:TypeId}{f b off:Nat}{fs:Array Field}{fd:Field}(hu:P.underlying t=some (.struct fs))(hf:fs[f]?=some fd)(hz:¬ P.cellsOf fd.type=0) :
  (Instr.fieldAt t (.pointer (some ⟨b,off,none⟩)) f).run P w=.ok (.pointer (some ⟨b,off+fd.offset,none⟩)) w:=by
 have hi:∃ i,P.info? fd.type=some i:=by
  cases h:P.info? fd.type with
  |none=>simp[Program.cellsOf,h] at hz
  |some i=>exact ⟨i,rfl⟩
 obtain ⟨i,hi⟩:=hi
 simp only[Instr.fieldAt,Sem.run_bind,run_underlying hu,Result.andThen_ok,hf,Instr.sureAddr,Sem.run_pure,fieldPlace,jl hi,Sem.run_ite,if_neg hz,m5]
theorem ahx{t:TypeId}{y:Operand}{y':aL}{f:Nat}{fs:Array Field}{fd:Field}{gs:List I}(ho:o.op=.fieldAddr t y f)(hu:c.P.underlying t=some (.struct fs))(hf:fs[f]?=some fd)(hz:¬ c.P.cellsOf fd.type=0)
  (hy:bG c.P 0 y=some y') (h:ae A y'=.ref (.agg gs)) (hx:gs[f]?=some x) (hoff:I.sizes (gs.take f)=fd.offset):dM c A o (.ref x) :=
 .same fun a w D E hs=>by
  have h1:=b9 hs hy
  rw[h] at h1
  obtain ⟨b,off,cs,h2,h3,h4⟩:=p9 h1
  simp only[af] at h4
  obtain ⟨c1,c2,c3,rfl,k1,_,k2,_⟩:=mL gs cs f x h4 hx
  refine ⟨_,by simp only[execOp,ho,h2,Sem.run_bind,Mp hu hf hz];rfl,tw (cs:=c2) ?_ k2⟩
  rw[←hoff,←k1]
  exact ua h3
theorem ahw{t:TypeId}{y:Operand}{y':aL}{f n:Nat}{p:List Nat}{fs:Array Field}{fd:Field}{gs:List I}(ho:o.op=.fieldAddr t y f)(hu:c.P.underlying t=some (.struct fs))(hf:fs[f]?=some fd)(hz:¬ c.P.cellsOf fd.type=0)
  (hy:bG c.P 0 y=some y') (h:ae A y'=.ptr n p) (hd:cu A (.ptr n p)=some (.agg gs)) (hl:f<gs.length) (hoff:I.sizes (gs.take f)=fd.offset):dM c A o (.ptr n (p++[f])) :=
 .same fun a w D E hs=>by
  have h1:=b9 hs hy
  rw[h] at h1
  obtain ⟨b,aR,off,h2,h3,h4⟩:=oJ h1
  obtain ⟨z,b',cs,T,off',c1,c2,c3,k1,k2,_,k3,k4,k5,k6,k7,k8,k9,_⟩:=hs.at hd
  rw[k2] at h2
  simp only[Option.some.injEq,bR.aB.injEq] at h2
  obtain ⟨rfl,rfl⟩:=h2
  refine ⟨_,by simp only[execOp,ho,h4,Sem.run_bind,Mp hu hf hz];rfl,?_⟩
  refine ⟨_,by simp[bK,I.isAgg];rfl,?_⟩
  simp only[af]
  refine ⟨b',z.aR,off+fd.offset,k2,?_,rfl⟩
  rw[cO.tI p z.aR off f _ h3 (mU p z _ k4) (by rw[I.dq];simpa using hl),I.dq,←List.map_take,←I.dq,I.mV,hoff]
theorem Mq{P:Program}{w:World}{t e:TypeId}{n b off:Nat}{kk:IntKind}{k:Int}{i:TypeInfo}(hu:P.underlying t=some (.array n e))(hi:P.info? e=some i)(hk:0≤k∧k<n) :
  (Instr.indexAt t (.pointer (some ⟨b,off,none⟩)) (.int kk k)).run P w=.ok (.pointer (some ⟨b,off+k.toNat*P.cellsOf e,none⟩)) w:=by
 simp[Instr.indexAt,asIntOf,run_underlying hu,Instr.sureAddr,hk,jl hi,m5]
theorem yJ{P:Program}{w:World}{t e:TypeId}{n b off cap:Nat}{kk:IntKind}{k:Int}{i:TypeInfo}(hu:P.underlying t=some (.slice e))(hi:P.info? e=some i)(hk:0≤k∧k<n) :
  (Instr.indexAt t (.slice (some ⟨b,off,none⟩) n cap) (.int kk k)).run P w=.ok (.pointer (some ⟨b,off+k.toNat*P.cellsOf e,none⟩)) w:=by
 simp[Instr.indexAt,asIntOf,run_underlying hu,hk,jl hi,m5]
theorem ahA{t e:TypeId}{y z:Operand}{y' z':aL}{n:Nat}{i:TypeInfo}{gs:List I}{kk:IntKind}{k:Int}(ho:o.op=.indexAddr t y z)(hu:c.P.underlying t=some (.array n e))(hi:c.P.info? e=some i)
  (hy:bG c.P 0 y=some y') (hz:bG c.P 0 z=some z') (h:ae A y'=.ref (.agg gs)) (h':ae A z'=.int kk k) (hk:0≤k∧k<n) (hev:iB n (c.P.cellsOf e) gs=true) (hx:gs[k.toNat]?=some x):dM c A o (.ref x) :=
 .same fun a w D E hs=>by
  have h1:=b9 hs hy
  rw[h] at h1
  have h1':=b9 hs hz
  rw[h'] at h1'
  obtain ⟨b,off,cs,h2,h3,h4⟩:=p9 h1
  simp only[af] at h4
  obtain ⟨c1,c2,c3,rfl,k1,_,k2,_⟩:=mL gs cs k.toNat x h4 hx
  obtain ⟨e1,e2⟩:=qF hev
  have hl:k.toNat<gs.length:=(List.getElem?_eq_some_iff.1 hx).1
  refine ⟨_,by simp only[execOp,ho,h2,(fB h1').1,Sem.run_bind,Mq hu hi hk];rfl,tw (cs:=c2) ?_ k2⟩
  rw[←oM gs k.toNat e2 (by omega),←k1]
  exact ua h3
theorem ahz{t e:TypeId}{y z:Operand}{y' z':aL}{n m:Nat}{p:List Nat}{i:TypeInfo}{gs:List I}{kk:IntKind}{k:Int}(ho:o.op=.indexAddr t y z)(hu:c.P.underlying t=some (.array n e))(hi:c.P.info? e=some i)
  (hy:bG c.P 0 y=some y') (hz:bG c.P 0 z=some z') (h:ae A y'=.ptr m p) (h':ae A z'=.int kk k) (hk:0≤k∧k<n) (hd:cu A (.ptr m p)=some (.agg gs)) (hev:iB n (c.P.cellsOf e) gs=true):dM c A o (.ptr m (p++[k.toNat])) :=
 .same fun a w D E hs=>by
  have h1:=b9 hs hy
  rw[h] at h1
  have h1':=b9 hs hz
  rw[h'] at h1'
  obtain ⟨b,aR,off,h2,h3,h4⟩:=oJ h1
  obtain ⟨zz,b',cs,T,off',c1,c2,c3,k1,k2,_,k3,k4,k5,k6,k7,k8,k9,_⟩:=hs.at hd
  rw[k2] at h2
  simp only[Option.some.injEq,bR.aB.injEq] at h2
  obtain ⟨rfl,rfl⟩:=h2
  obtain ⟨e1,e2⟩:=qF hev
  have hl:k.toNat<gs.length:=by omega
  refine ⟨_,by simp only[execOp,ho,h4,(fB h1').1,Sem.run_bind,Mq hu hi hk];rfl,?_⟩
  refine ⟨_,by simp[bK,I.isAgg];rfl,?_⟩
  simp only[af]
  refine ⟨b',zz.aR,off+k.toNat*c.P.cellsOf e,k2,?_,rfl⟩
  rw[cO.tI p zz.aR off k.toNat _ h3 (mU p zz _ k4) (by rw[I.dq];simpa using hl),I.dq,←List.map_take,←I.dq,I.mV,oM gs _ e2 (by omega)]
theorem C9{w:World}{D:aQ}{E:aU}{b off sz k:Nat}{cs:List Value}{es:List I}{x:I}(h1:gO w D b off cs)(h2:aJ w D E es cs)(h3:∀ e∈es,e.size=sz)(hx:es[k]?=some x) :
  ∃ c2,gO w D b (off+k*sz) c2∧af w D E x c2:=by
 obtain ⟨c1,c2,c3,rfl,k1,_,k2,_⟩:=mL es cs k x h2 hx
 have hl:k<es.length:=(List.getElem?_eq_some_iff.1 hx).1
 refine ⟨c2,?_,k2⟩
 rw[←oM es k h3 (by omega),←k1]
 exact ua h1
theorem ahB{t e:TypeId}{y z:Operand}{y' z':aL}{i:TypeInfo}{es:List I}{kk:IntKind}{k:Int}(ho:o.op=.indexAddr t y z)(hu:c.P.underlying t=some (.slice e))(hi:c.P.info? e=some i)
  (hy:bG c.P 0 y=some y') (hz:bG c.P 0 z=some z') (h:ae A y'=.slice (c.P.cellsOf e) es) (h':ae A z'=.int kk k) (hk:0≤k∧k<es.length) (hx:es[k.toNat]?=some x):dM c A o (.ref x) :=
 .same fun a w D E hs=>by
  have h1:=b9 hs hy
  rw[h] at h1
  have h1':=b9 hs hz
  rw[h'] at h1'
  obtain ⟨ad,cap,rfl',h2,h3,h4,h5⟩:=nJ h1
  rcases h4 with h4 | ⟨b,off,cs,rfl,h6,h7⟩
  ·subst h4;simp at hx
  obtain ⟨c2,k1,k2⟩:=C9 h6 h7 h5 hx
  exact ⟨_,by simp only[execOp,ho,rfl',(fB h1').1,Sem.run_bind,yJ hu hi hk];rfl,tw k1 k2⟩
theorem aS.alg{a:Act}{w:World}{D:aQ}{E:aU}(h:aS c A a w D E){n sz b cap:Nat}{T:TypeId}{es:List I}(hn:A.o n=some (.bT T sz es))(ar:E n=some (.rw (some (b,cap)) es.length)) :
  aS c A a w (fun b' o=>D b' o∨(b'=b∧o<es.length*sz)) E:=by
 have hrow:=h.bT hn
 obtain ⟨aD,k1,k2,k3⟩:=hrow
 rw[ar] at k1
 simp only[Option.some.injEq,bR.rw.injEq,and_true] at k1
 subst k1
 obtain ⟨cs,pre,rest,k4,k5,k6,k7,k8,k9,k10,k11⟩:=k3
 refine h.Nd (fun _ _ hd=>.inl hd) ?_ ?_ ?_ ?_ ?_ ?_
 ·rintro b' o (hd | ⟨rfl,_⟩) hlt
  ·exact h.c5 _ _ hd hlt
  ·exact absurd k4 hlt
 ·rintro b' o (hd | ⟨rfl,_⟩)
  ·exact h.c9 _ _ hd
  ·exact fR k5
 ·rintro m x b' hm hEm o (hd | ⟨rfl,_⟩)
  ·obtain ⟨b2,cs2,T2,q1,q2,q3,q4,q5⟩:=h.box hm
   rw[q1] at hEm
   simp only[Option.some.injEq,bR.aB.injEq,and_true] at hEm
   subst hEm
   exact q5 o hd
  ·have:=h.cS m n _ _ b' hEm ar rfl rfl
   subst this
   rw[hm] at hn
   cases hn
 ·rintro m T' sz' es' b' cap' hm hEm o (hd | ⟨rfl,ho⟩)
  ·obtain ⟨aD,q1,q2,q3⟩:=h.bT hm
   rw[hEm] at q1
   simp only[Option.some.injEq,bR.rw.injEq,and_true] at q1
   subst q1
   obtain ⟨cs',pre',rest',q4,q5,q6,q7,q8,q9,q10,q11⟩:=q3
   have:=q11 o hd
   rwa [aJ.length _ _ q7,I.iJ _ q2] at this
  ·have:=h.cS m n _ _ b' hEm ar rfl rfl
   subst this
   rw[hm] at hn
   simp only[Option.some.injEq,ah.bT.injEq] at hn
   obtain ⟨rfl,rfl,rfl⟩:=hn
   exact ho
 ·rintro m T' xs b' cap' hm hEm o (hd | ⟨rfl,ho⟩)
  ·obtain ⟨aD,q1,_,q3⟩:=h.rN hm
   rw[hEm] at q1
   simp only[Option.some.injEq,bR.rw.injEq,and_true] at q1
   subst q1
   obtain ⟨_,_,_,_,_,_,_,_,q4⟩:=q3
   exact q4 o hd
  ·have:=h.cS m n _ _ b' hEm ar rfl rfl
   subst this
   rw[hm] at hn
   cases hn
 ·rintro m e' b' hE' hoth hblk o (hd | ⟨rfl,_⟩)
  ·exact h.yf hE' hoth hblk o hd
  ·have:=h.cS m n _ _ b' hE' ar hblk rfl
   subst this
   rw[hE'] at ar
   cases ar
   cases hoth
theorem aS.own{a:Act}{w:World}{D:aQ}{E:aU}(h:aS c A a w D E){n sz:Nat}{T:TypeId}{es:List I}{v:Value}(hn:A.o n=some (.bT T sz es))(hv:aT w D E (.own n es.length) v) :
  (es=[]∧E n=some (.rw none 0)∧v=.slice none 0 0) ∨
  ∃ b cap cs pre rest,E n=some (.rw (some (b,cap)) es.length)∧v=.slice (some ⟨b,0,none⟩) es.length cap∧c.fj b∧w.heap[b]?=some (.cells cs T (0,0))∧cs.toList=pre++rest ∧
   aJ w D E es pre∧cs.size=cap*sz∧es.length≤cap∧cap≤maxLen∧(∀ o,D b o→o<pre.length):=by
 obtain ⟨cs0,h1,h2⟩:=hv
 simp only[af] at h2
 obtain ⟨aD,l,h3,h4,_,h5⟩:=h2
 obtain ⟨blk',k1,k2,k3⟩:=h.bT hn
 rw[k1] at h3
 simp only[Option.some.injEq,bR.rw.injEq] at h3
 obtain ⟨rfl,rfl⟩:=h3
 have h5:=h5 rfl
 cases blk' with
 |none =>
  simp only at k3 h5
  subst k3
  exact .inl ⟨rfl,k1,by simpa[bK,I.isAgg,h5] using h1.symm⟩
 |some bc =>
  obtain ⟨b,cap⟩:=bc
  simp only at h5
  obtain ⟨cs,pre,rest,k4,k5,k6,k7,k8,k9,k10,k11⟩:=k3
  exact .inr ⟨b,cap,cs,pre,rest,k1,by simpa[bK,I.isAgg,h5] using h1.symm,k4,k5,k6,k7,k8,k9,k10,k11⟩
theorem ahC{t e:TypeId}{y z:Operand}{y' z':aL}{i:TypeInfo}{es:List I}{n:Nat}{kk:IntKind}{k:Int}(ho:o.op=.indexAddr t y z)(hu:c.P.underlying t=some (.slice e))(hi:c.P.info? e=some i)
  (hy:bG c.P 0 y=some y') (hz:bG c.P 0 z=some z') (h:ae A y'=.own n es.length) {T:TypeId} (hn:A.o n=some (.bT T (c.P.cellsOf e) es)) (h':ae A z'=.int kk k) (hk:0≤k∧k<es.length) (hx:es[k.toNat]?=some x):dM c A o (.ref x):=by
 intro a w D E hs
 have h1:=b9 hs hy
 rw[h] at h1
 have h1':=b9 hs hz
 rw[h'] at h1'
 rcases hs.own hn h1 with ⟨rfl,_⟩ | ⟨b,cap,cs,pre,rest,k1,k2,k3,k4,k5,k6,k7,k8,k9,k10⟩
 ·simp at hx
 ·have hs':=hs.alg hn k1
  obtain ⟨aD,q1,q2,_⟩:=hs.bT hn
  have hpl:pre.length=es.length*c.P.cellsOf e:=by rw[aJ.length _ _ k6,I.iJ _ q2]
  have hr:gO w (fun b' o=>D b' o∨(b'=b∧o<es.length*c.P.cellsOf e)) b 0 pre:=by
   have:=oD (D:=fun b' o=>D b' o∨(b'=b∧o<es.length*c.P.cellsOf e)) (c1:=[]) k4 (by simpa using k5) (fun o ho=>.inr ⟨rfl,by simp at ho;omega⟩)
   simpa using this
  have hrc:aJ w (fun b' o=>D b' o∨(b'=b∧o<es.length*c.P.cellsOf e)) E es pre :=
   aJ.bJ ⟨fun _ _ hd=>.inl hd,fun _ _ _ _ h=>h,fun _ _ _ h=>h,fun _ aD l h=>⟨aD,l,h,Nat.le_refl _,fun _=>rfl⟩,fun _ _ h=>h,fun _ _ h=>h,fun _ _ _ _ h=>h⟩ es pre k6
  obtain ⟨c2,q3,q4⟩:=C9 hr hrc q2 hx
  exact ⟨_,w,_,by simp only[execOp,ho,k2,(fB h1').1,Sem.run_bind,yJ hu hi hk];rfl,hs',tw q3 q4⟩
end
section
variable {c:cJ} {A:ab} {o:Oper} {x:I}
theorem oI{P:Program}{w:World}{D:aQ}{E:aU}{t:TypeId}{s:Option Nat}{c1 c2 c3:List Value}{y:I}(hk:fO P t=some s)(hok:b6 s y=true)(hy:af w D E y c2) :
  ∃ v,(part t (c1++c2++c3).toArray c1.length).run P w=.ok v w∧aT w D E y v:=by
 have hag:=Mr (w:=w) hk
 have hl:=af.length _ _ hy
 cases s with
 |none =>
  simp only[b6,Bool.not_eq_true'] at hok
  have hsz:y.size=1:=by cases y <;>simp_all[I.isAgg,I.size]
  rw[hsz] at hl
  match c2,hl with
  | [v],_ =>
   refine ⟨v,?_,Jw hok hy⟩
   simp[part,hag]
 |some n =>
  simp only[b6,Bool.and_eq_true,beq_iff_eq] at hok
  obtain ⟨hag',hsz⟩:=hok
  have hn:=xE hk
  obtain ⟨i,hi⟩:=tf hk
  refine ⟨.agg c2.toArray,?_,mE (by simp[bK,hag']) hy⟩
  have e:((c1++c2++c3).toArray.extract c1.length (c1.length+P.cellsOf t))=c2.toArray:=by
   have:P.cellsOf t=c2.length:=by rw[hl,hsz,hn]
   rw[this]
   simp
  simp only[part,Sem.run_bind,hag,Result.andThen_ok,Option.isSome_some,if_true,jl hi,e,Sem.run_pure]
theorem ahy{t:TypeId}{y:Operand}{y':aL}{f:Nat}{s:Option Nat}{fs:Array Field}{fd:Field}{gs:List I}(ho:o.op=.field t y f)(hu:c.P.underlying t=some (.struct fs))(hf:fs[f]?=some fd)(hk:fO c.P fd.type=some s)
  (hy:bG c.P 0 y=some y') (h:ae A y'=.agg gs) (hx:gs[f]?=some x) (hoff:I.sizes (gs.take f)=fd.offset) (hok:b6 s x=true):dM c A o x :=
 .same fun a w D E hs=>by
  have h1:=b9 hs hy
  rw[h] at h1
  obtain ⟨cs,h2,h4⟩:=jC h1
  obtain ⟨c1,c2,c3,rfl,k1,_,k2,_⟩:=mL gs cs f x h4 hx
  obtain ⟨v,k3,k4⟩:=oI (c1:=c1) (c3:=c3) hk hok k2
  rw[k1,hoff] at k3
  exact ⟨v,by simp only[execOp,ho,h2,Instr.field,Sem.run_bind,run_underlying hu,Result.andThen_ok,hf,asAgg,Sem.run_pure,k3],k4⟩
theorem ahE{t e:TypeId}{y z:Operand}{y' z':aL}{n:Nat}{s:Option Nat}{gs:List I}{kk:IntKind}{k:Int}(ho:o.op=.index t y z)(hu:c.P.underlying t=some (.array n e))(hk:fO c.P e=some s)
  (hy:bG c.P 0 y=some y') (hz:bG c.P 0 z=some z') (h:ae A y'=.agg gs) (h':ae A z'=.int kk k) (hb:0≤k∧k<n) (hev:iB n (c.P.cellsOf e) gs=true) (hx:gs[k.toNat]?=some x) (hok:b6 s x=true):dM c A o x :=
 .same fun a w D E hs=>by
  have h1:=b9 hs hy
  rw[h] at h1
  have h1':=b9 hs hz
  rw[h'] at h1'
  obtain ⟨cs,h2,h4⟩:=jC h1
  obtain ⟨c1,c2,c3,rfl,k1,_,k2,_⟩:=mL gs cs k.toNat x h4 hx
  obtain ⟨v,k3,k4⟩:=oI (c1:=c1) (c3:=c3) hk hok k2
  obtain ⟨e1,e2⟩:=qF hev
  obtain ⟨i,hi⟩:=tf hk
  have hl:k.toNat<gs.length:=(List.getElem?_eq_some_iff.1 hx).1
  rw[k1,oM gs k.toNat e2 (by omega)] at k3
  exact ⟨v,by simp only[execOp,ho,h2,(fB h1').1,Instr.index,Sem.run_bind,asIntOf,run_underlying hu,Result.andThen_ok,Sem.run_ite,if_pos hb,jl hi,Sem.run_pure,k3],k4⟩
theorem xN{n:Nat}(h:n≤maxLen):IntKind.i64.min≤(n:Int)∧(n:Int)≤IntKind.i64.max:=by
 simp only[IntKind.min,IntKind.max,IntKind.bits,IntKind.signed]
 unfold maxLen at h
 simp;omega
theorem pE{ty:TypeId}{y:Operand}{y':aL}{n:Nat}{d:TypeDesc}(ho:o.op=.call { callee:=.builtin .len,args := #[y],argTypes := #[ty] })(hu:c.P.underlying ty=some d)(hd:(∃ e,d=.slice e)∨d=.string)
  (hy:bG c.P ty y=some y') (h:∀ a w D E,aS c A a w D E→∀ v,aT w D E (ae A y') v→n≤maxLen∧((∃ e,d=.slice e)→∃ ad cap,v=.slice ad n cap)∧(d=.string→∃ s,v=.string s∧s.size=n)):dM c A o (.int .i64 n) :=
 .same fun a w D E hs=>by
  obtain ⟨h0,h1,h2⟩:=h a w D E hs _ (b9 hs hy)
  refine ⟨.int .i64 n,?_,kQ (xN h0)⟩
  rcases hd with ⟨e,rfl⟩ | rfl
  ·obtain ⟨ad,cap,hv⟩:=h1 ⟨e,rfl⟩
   simp[execOp,ho,resolve,invoke,builtin,Builtin.len_,run_underlying hu,hv,goInt]
  ·obtain ⟨s,hv,hs⟩:=h2 rfl
   simp[execOp,ho,resolve,invoke,builtin,Builtin.len_,run_underlying hu,hv,goInt,hs]
theorem ahO{t e:TypeId}{y:Operand}{y':aL}{n:Nat}{i:TypeInfo}{gs:List I}(ho:o.op=.slice t y none none none)(hu:c.P.underlying t=some (.array n e))(hi:c.P.info? e=some i)
  (hy:bG c.P 0 y=some y') (h:ae A y'=.ref (.agg gs)) (hev:iB n (c.P.cellsOf e) gs=true) (hn:n≤maxLen):dM c A o (.slice (c.P.cellsOf e) gs) :=
 .same fun a w D E hs=>by
  have h1:=b9 hs hy
  rw[h] at h1
  obtain ⟨b,off,cs,h2,h3,h4⟩:=p9 h1
  simp only[af] at h4
  obtain ⟨e1,e2⟩:=qF hev
  by_cases h0:n=0
  ·exact ⟨.slice (some ⟨b,off,none⟩) 0 0,by simp[execOp,ho,h2,Instr.sliceAt,run_underlying hu,Instr.sureAddr,Instr.sliceBounds,jl hi,h0],tx (by omega) (by omega) (by simp[maxLen]) (.inl (List.eq_nil_of_length_eq_zero (by omega))) e2⟩
  ·exact ⟨.slice (some ⟨b,off,none⟩) n n,by simp[execOp,ho,h2,Instr.sliceAt,run_underlying hu,Instr.sureAddr,Instr.sliceBounds,jl hi,m5],tx e1.symm (Nat.le_refl _) hn (.inr ⟨b,off,cs,rfl,h3,h4⟩) e2⟩
theorem ahN{t e:TypeId}{y:Operand}{y':aL}{n m:Nat}{p:List Nat}{i:TypeInfo}{gs:List I}(ho:o.op=.slice t y none none none)(hu:c.P.underlying t=some (.array n e))(hi:c.P.info? e=some i)
  (hy:bG c.P 0 y=some y') (h:ae A y'=.ptr m p) (hd:cu A (.ptr m p)=some (.agg gs)) (hev:iB n (c.P.cellsOf e) gs=true) (hn:n≤maxLen) (hn0:n≠0):dM c A o (.view m p (c.P.cellsOf e) 0 n) :=
 .same fun a w D E hs=>by
  have h1:=b9 hs hy
  rw[h] at h1
  obtain ⟨b,aR,off,h2,h3,h4⟩:=oJ h1
  obtain ⟨zz,b',cs,T,off',c1,c2,c3,k1,k2,_,k3,k4,k5,k6,k7,k8,k9,_⟩:=hs.at hd
  rw[k2] at h2
  simp only[Option.some.injEq,bR.aB.injEq] at h2
  obtain ⟨rfl,rfl⟩:=h2
  obtain ⟨e1,e2⟩:=qF hev
  refine ⟨.slice (some ⟨b',off,none⟩) n n,by simp[execOp,ho,h4,Instr.sliceAt,run_underlying hu,Instr.sureAddr,Instr.sliceBounds,jl hi,m5],?_⟩
  refine ⟨_,by simp[bK,I.isAgg];rfl,?_⟩
  simp only[af]
  refine ⟨b',zz.aR,off,I.cT gs,k2,h3,mU p zz _ k4,?_,?_,?_,?_⟩
  ·rw[I.dq,List.length_map,e1];simp
  ·rw[I.dq,List.length_map,e1];exact hn
  ·rw[I.dq,List.length_map,e1];omega
  ·rw[I.dq]
   intro s hs'
   obtain ⟨f,hf,rfl⟩:=List.mem_map.1 hs'
   rw[I.l6];exact e2 f hf
theorem akI{w:World}{D:aQ}{E:aU}{b off sz:Nat}{cs:List Value}{es:List I}(h1:gO w D b off cs)(h2:aJ w D E es cs)(h3:∀ e∈es,e.size=sz)(l h:Nat)(hl:l≤h)(hh:h≤es.length) :
  ∃ c2,gO w D b (off+l*sz) c2∧aJ w D E ((es.take h).drop l) c2:=by
 have hspl:∀ (xs ys:List I) (cs:List Value),aJ w D E (xs++ys) cs→∃ c1 c2,cs=c1++c2∧aJ w D E xs c1∧aJ w D E ys c2:=by
  intro xs
  induction xs with
  |nil=>intro ys cs hr;exact ⟨[],cs,rfl,by simp[aJ],hr⟩
  |cons x xs ih =>
   intro ys cs hr
   simp only[List.cons_append,aJ] at hr
   obtain ⟨d1,d2,rfl,k1,k2⟩:=hr
   obtain ⟨e1,e2,rfl,k3,k4⟩:=ih ys d2 k2
   exact ⟨d1++e1,e2,by simp,by simp only[aJ];exact ⟨d1,e1,rfl,k1,k3⟩,k4⟩
 have e1:es=es.take l++((es.take h).drop l++es.drop h):=by
  rw[←List.append_assoc]
  conv=>lhs;rw[←List.take_append_drop h es]
  congr 1
  rw[←List.alX l h es hl]
 rw[e1] at h2
 obtain ⟨c1,c',rfl,k1,k2⟩:=hspl _ _ _ h2
 obtain ⟨c2,c3,rfl,k3,k4⟩:=hspl _ _ _ k2
 refine ⟨c2,?_,k3⟩
 rw[←oM es l h3 (by omega),←aJ.length _ _ k1]
 rw[←List.append_assoc] at h1
 exact ua h1
 where
 List.alX {α:Type} (l h:Nat) (es:List α) (hl:l≤h):es.take h=es.take l++(es.take h).drop l:=by
  conv=>lhs;rw[←List.take_append_drop l (es.take h)]
  rw[List.take_take,Nat.min_eq_left hl]
def iF(w:World)(D:aQ)(E:aU)(x:Option I)(v:Option Value):Prop:=match x,v with
 |none,none=>True
 |some x,some v=>aT w D E x v
 |_,_=>False
theorem P1{x:I}{d n:Int}(h:ic (some x) d=some n):∃ k,x=.int k n:=by
 cases x <;>simp[ic] at h
 subst h
 exact ⟨_,rfl⟩
theorem rn{w:World}{D:aQ}{E:aU}{x:Option I}{v:Option Value}{d n:Int}(h:iF w D E x v)(hb:ic x d=some n) :
  (x=none∧v=none∧d=n)∨(x.isSome=true∧∃ k,v=some (.int k n)):=by
 cases x with
 |none =>
  cases v with
  |some _=>simp[iF] at h
  |none=>simp only[ic,Option.some.injEq] at hb;exact .inl ⟨rfl,rfl,hb⟩
 |some x =>
  cases v with
  |none=>simp[iF] at h
  |some v =>
   obtain ⟨k,rfl⟩:=P1 hb
   simp only[iF] at h
   exact .inr ⟨rfl,k,by rw[(fB h).1]⟩
theorem yK{P:Program}{w:World}{D:aQ}{E:aU}{t e:TypeId}{i:TypeInfo}{sz:Nat}{es:List I}{lo hi mx:Option I}{vlo vhi vmx:Option Value}{x:I}{ad:Option Addr}{cap:Nat}
  (hu:P.underlying t=some (.slice e)) (hi':P.info? e=some i) (hsz:sz=P.cellsOf e) (hmh:mx.isSome=true→hi.isSome=true)
  (h1:iF w D E lo vlo) (h2:iF w D E hi vhi) (h3:iF w D E mx vmx) (hx:jD sz es lo hi mx=some x)
  (hcap:es.length≤cap) (hcm:cap≤maxLen) (hes:es=[]∨∃ b off cs,ad=some ⟨b,off,none⟩∧gO w D b off cs∧aJ w D E es cs) (hall:∀ e∈es,e.size=sz) :
  ∃ v,(Instr.sliceAt t (.slice ad es.length cap) vlo vhi vmx).run P w=.ok v w∧aT w D E x v:=by
 unfold jD at hx
 split at hx
 ·cases hx
 rename_i h hh
 split at hx
 ·cases hx
 rename_i m hm
 split at hx
 ·cases hx
 rename_i l hl
 split at hx
 case isFalse=>cases hx
 rename_i hb
 obtain ⟨b1,b2,b3,b4⟩:=hb
 have sb:∀ (k:IntKind) (n:Int) (y:Nat) (code:BoundsCode),0≤n→n≤y→(Instr.sliceBound (.int k n) y code).run P w=.ok n.toNat w:=fun k n y code g1 g2=>by
  simp[Instr.sliceBound,asIntOf,g1,g2]
 -- the bounds that the program finds
 have key:∃ m':Nat,es.length≤cap∧m'≤cap∧h.toNat≤m'∧(mx.isSome=true→m'=m.toNat)∧(mx=none→m'=cap) ∧
   (Instr.sliceBounds true es.length cap vlo vhi vmx).run P w=.ok (l.toNat,h.toNat,m') w:=by
  have c1:=rn h1 hl
  have c2:=rn h2 hh
  have c3:=rn h3 hm
  clear h1 h2 h3
  rcases c3 with ⟨rfl,rfl,hm3⟩ | ⟨s3,k3,rfl⟩
  ·refine ⟨cap,hcap,Nat.le_refl _,by omega,fun e=>(by cases e),fun _=>rfl,?_⟩
   rcases c2 with ⟨rfl,rfl,hm2⟩ | ⟨s2,k2,rfl⟩ <;>rcases c1 with ⟨rfl,rfl,hm1⟩ | ⟨s1,k1,rfl⟩
   ·subst hm1 hm2;simp[Instr.sliceBounds]
   ·subst hm2;simp[Instr.sliceBounds,sb k1 l es.length _ b1 (by omega)]
   ·subst hm1;simp[Instr.sliceBounds,sb k2 h cap _ (by omega) (by omega)]
   ·simp[Instr.sliceBounds,sb k2 h cap _ (by omega) (by omega),sb k1 l h.toNat _ b1 (by omega)]
  ·refine ⟨m.toNat,hcap,by omega,by omega,fun _=>rfl,fun e=>(by rw[e] at s3;cases s3),?_⟩
   rcases c2 with ⟨rfl,rfl,hm2⟩ | ⟨s2,k2,rfl⟩
   ·simp[s3] at hmh
   ·rcases c1 with ⟨rfl,rfl,hm1⟩ | ⟨s1,k1,rfl⟩
    ·subst hm1;simp[Instr.sliceBounds,sb k3 m cap _ (by omega) (by omega),sb k2 h m.toNat _ (by omega) (by omega)]
    ·simp[Instr.sliceBounds,sb k3 m cap _ (by omega) (by omega),sb k2 h m.toNat _ (by omega) (by omega),sb k1 l h.toNat _ b1 (by omega)]
 obtain ⟨m',g1,g2,g3,g4,g5,hsb⟩:=key
 have hrun:(Instr.sliceAt t (.slice ad es.length cap) vlo vhi vmx).run P w =
   .ok (.slice (if m'=l.toNat then ad else ad.map (·.add (l.toNat*P.cellsOf e))) (h.toNat-l.toNat) (m'-l.toNat)) w:=by
  simp only[Instr.sliceAt,Instr.slice,Sem.run_bind,run_underlying hu,Result.andThen_ok,hsb,jl hi',Sem.run_pure]
 refine ⟨_,hrun,?_⟩
 split at hx
 ·rename_i hc
  simp only[Option.some.injEq] at hx
  subst hx
  have e1:m'=l.toNat:=by rw[g4 hc.1,hc.2]
  have e2:h.toNat-l.toNat=0:=by omega
  rw[if_pos e1,e2,e1,Nat.sub_self]
  exact ⟨_,by simp[bK,I.isAgg];rfl,by simp only[af];exact ⟨ad,rfl⟩⟩
 ·simp only[Option.some.injEq] at hx
  subst hx
  have hlen:((es.take h.toNat).drop l.toNat).length=h.toNat-l.toNat:=by simp;omega
  refine tx hlen.symm (by omega) (by omega) ?_ (fun y hy=>hall y (List.mem_of_mem_take (List.mem_of_mem_drop hy)))
  by_cases hz:h.toNat=l.toNat
  ·left;exact List.eq_nil_of_length_eq_zero (by omega)
  ·right
   rw[if_neg (by omega)]
   rcases hes with rfl | ⟨b,off,cs,rfl,q1,q2⟩
   ·simp at b4 g3;omega
   ·obtain ⟨c2,q3,q4⟩:=akI q1 q2 hall l.toNat h.toNat (by omega) (by omega)
    exact ⟨b,off+l.toNat*sz,c2,by simp[m5,hsz],q3,q4⟩
theorem xh{t e:TypeId}{y:Operand}{y':aL}{lo hi mx:Option Operand}{lo' hi' mx':Option aL}{i:TypeInfo}{es:List I}(ho:o.op=.slice t y lo hi mx)(hu:c.P.underlying t=some (.slice e))(hi0:c.P.info? e=some i)
  (hy:bG c.P 0 y=some y') (h1:iP c.P lo=some lo') (h2:iP c.P hi=some hi') (h3:iP c.P mx=some mx') (hmh:mx'.isSome=true→hi'.isSome=true)
  (h:ae A y'=.slice (c.P.cellsOf e) es∨(ae A y'=.nils (c.P.cellsOf e)∧es=[])∨(ae A y'=.c0 (c.P.cellsOf e)∧es=[])) (hx:jD (c.P.cellsOf e) es (lo'.map (ae A)) (hi'.map (ae A)) (mx'.map (ae A))=some x):dM c A o x :=
 .same fun a w D E hs=>by
  have opt:∀ {q:Option Operand} {q':Option aL},iP c.P q=some q'→iF w D E (q'.map (ae A)) (q.map a.eval):=by
   intro q q' hq
   cases q with
   |none=>simp only[iP,Option.some.injEq] at hq;subst hq;simp[iF]
   |some z =>
    simp only[iP,Option.map_eq_some_iff] at hq
    obtain ⟨z',hz,rfl⟩:=hq
    simpa[iF] using b9 hs hz
  have h0:=b9 hs hy
  have hmh':(mx'.map (ae A)).isSome=true→(hi'.map (ae A)).isSome=true:=by simpa using hmh
  rcases h with h | ⟨h,rfl⟩ | ⟨h,rfl⟩
  ·rw[h] at h0
   obtain ⟨ad,cap,e1,e2,e3,e4,e5⟩:=nJ h0
   obtain ⟨v,k1,k2⟩:=yK hu hi0 rfl hmh' (opt h1) (opt h2) (opt h3) hx e2 e3 e4 e5
   exact ⟨v,by simp only[execOp,ho,e1,Sem.run_bind,k1];rfl,k2⟩
  ·rw[h] at h0
   obtain ⟨cs,q1,q2⟩:=h0
   simp only[af] at q2
   have e1:a.eval y=.slice none ([]:List I).length 0:=by simpa[bK,I.isAgg,q2] using q1.symm
   obtain ⟨v,k1,k2⟩:=yK (ad:=none) (cap:=0) hu hi0 rfl hmh' (opt h1) (opt h2) (opt h3) hx (by simp) (by simp[maxLen]) (.inl rfl) (by simp)
   exact ⟨v,by simp only[execOp,ho,e1,Sem.run_bind,k1];rfl,k2⟩
  ·rw[h] at h0
   obtain ⟨cs,q1,q2⟩:=h0
   simp only[af] at q2
   obtain ⟨ad,q2⟩:=q2
   have e1:a.eval y=.slice ad ([]:List I).length 0:=by simpa[bK,I.isAgg,q2] using q1.symm
   obtain ⟨v,k1,k2⟩:=yK (ad:=ad) (cap:=0) hu hi0 rfl hmh' (opt h1) (opt h2) (opt h3) hx (by simp) (by simp[maxLen]) (.inl rfl) (by simp)
   exact ⟨v,by simp only[execOp,ho,e1,Sem.run_bind,k1];rfl,k2⟩
end
inductive fP {α β:Type} (R:α→β→Prop):List α→List β→Prop where
 |nil:fP R [] []
 |cons {x:α} {y:β} {xs:List α} {ys:List β} : R x y→fP R xs ys→fP R (x::xs) (y::ys)
section
variable {c:cJ} {A:ab} {o:Oper} {x:I}
theorem akH{w:World}{D:aQ}{E:aU}{xs:List I}{cs ds:List Value}{i:Nat}{x y:I}(h:aJ w D E xs cs)(hx:xs[i]?=some x)(hy:af w D E y ds)(hs:y.size=x.size) :
  I.sizes (xs.take i)+ds.length≤cs.length∧aJ w D E (xs.set i y) (cs.take (I.sizes (xs.take i))++ds++cs.drop (I.sizes (xs.take i)+ds.length)):=by
 obtain ⟨c1,c2,c3,rfl,h1,h2,h3,h4⟩:=mL xs cs i x h hx
 have hi:i<xs.length:=(List.getElem?_eq_some_iff.1 hx).1
 have hl:ds.length=c2.length:=by rw[af.length _ _ hy,af.length _ _ h3,hs]
 refine ⟨by simp only[List.length_append,h1];omega,?_⟩
 have e1:xs.set i y=xs.take i++y::xs.drop (i+1):=by rw[List.set_eq_take_append_cons_drop];simp[hi]
 have e2:(c1++c2++c3).take (I.sizes (xs.take i))++ds++(c1++c2++c3).drop (I.sizes (xs.take i)+ds.length)=c1++(ds++c3):=by
  rw[←h1,hl,List.append_assoc c1 c2 c3,List.take_left,List.drop_length_add_append,List.drop_left,List.append_assoc]
 rw[e1,e2]
 refine ki _ _ _ _ h2 ?_
 simp only[aJ]
 exact ⟨ds,c3,rfl,hy,h4⟩
theorem X8(off:Nat)(l:List Value)(cs:Array Value)(h:off+l.length≤cs.size) :
  ((l.zipIdx 0).foldl (fun cs (x:Value×Nat)=>cs.setIfInBounds (off+x.2) x.1) cs).toList=cs.toList.take off++l++cs.toList.drop (off+l.length):=by
 obtain ⟨h1,h2⟩:=Great.foldl_set off l 0 cs
 apply List.ext_getElem?
 intro k
 rw[Array.getElem?_toList,h2 k]
 simp only[Nat.add_zero,List.append_assoc]
 by_cases hk:k<off
 ·rw[if_neg (by omega),List.getElem?_append_left (by simp;omega)]
  simp[hk]
 ·rw[List.getElem?_append_right (by simp;omega)]
  simp only[List.length_take,Array.length_toList,Nat.min_eq_left (show off≤cs.size by omega)]
  by_cases hk2:k<off+l.length
  ·rw[if_pos ⟨by omega,by omega,by omega⟩,List.getElem?_append_left (by omega)]
  ·rw[if_neg (by omega),List.getElem?_append_right (by omega)]
   simp only[List.getElem?_drop,Array.getElem?_toList]
   congr 1
   omega
theorem vQ{w:World}{D:aQ}{E:aU}(pl:Nat→Option (Nat×Nat)):∀ (ps:List (Nat×I)) (vs:List (Nat×Value)) (zs zs':List I) (cells:Array Value),
  (∀ i z,zs[i]?=some z→pl i=some (I.sizes (zs.take i),z.size))→aJ w D E zs cells.toList→eG zs ps=some zs' →
  fP (fun (p:Nat×I) (v:Nat×Value)=>p.1=v.1∧aT w D E p.2 v.2) ps vs →
  ∃ cells',Instr.fill pl cells vs=some cells'∧aJ w D E zs' cells'.toList
 | [],vs,zs,zs',cells,hp,hr,hs,hf=>by
  cases hf
  simp only[eG,Option.some.injEq] at hs
  subst hs
  exact ⟨cells,rfl,hr⟩
 |(i,y)::ps,vs,zs,zs',cells,hp,hr,hs,hf=>by
  cases hf with
  |cons h1 h2 =>
   rename_i v vs
   obtain ⟨j,u⟩:=v
   simp only at h1
   obtain ⟨rfl,hv⟩:=h1
   simp only[eG] at hs
   split at hs
   ·rename_i z hz
    split at hs
    ·rename_i hsz
     obtain ⟨hval,hsz⟩:=hsz
     obtain ⟨ds,k1,k2⟩:∃ ds,bK y u ds∧af w D E y ds:=by
      cases y <;>simp[I.cm] at hval <;>exact hv
     have hcells:=k1.cells k2
     have hds:u.cells.size=z.size:=by rw[←Array.length_toList,hcells,af.length _ _ k2,hsz]
     obtain ⟨k3,k4⟩:=akH hr hz k2 hsz
     have hcl:cells.toList.length=cells.size:=Array.length_toList
     have hl:ds.length=u.cells.size:=by rw[←hcells,Array.length_toList]
     have hp':∀ k z',(zs.set i y)[k]?=some z'→pl k=some (I.sizes ((zs.set i y).take k),z'.size):=by
      intro k z' hk
      have hil:i<zs.length:=(List.getElem?_eq_some_iff.1 hz).1
      have hsizes:∀ k,I.sizes ((zs.set i y).take k)=I.sizes (zs.take k):=by
       intro k
       have gen:∀ (zs:List I) (i k:Nat) (z:I),zs[i]?=some z→z.size=y.size→I.sizes ((zs.set i y).take k)=I.sizes (zs.take k):=by
        intro zs
        induction zs with
        |nil=>intro i k z hz _;simp at hz
        |cons q qs ih =>
         intro i k z hz he
         cases k with
         |zero=>simp
         |succ k =>
          cases i with
          |zero =>
           simp only[List.getElem?_cons_zero,Option.some.injEq] at hz
           subst hz
           simp[I.sizes,he]
          |succ i =>
           simp only[List.set_cons_succ,List.take_succ_cons,I.sizes,ih i k z (by simpa using hz) he]
       exact gen zs i k z hz hsz.symm
      rw[hsizes]
      rw[List.getElem?_set] at hk
      split at hk
      ·rename_i hik
       subst hik
       simp only[Option.some.injEq] at hk
       subst hk
       rw[hp i z hz,hsz]
      ·exact hp k z' hk
     have hfold:=X8 (I.sizes (zs.take i)) u.cells.toList cells (by rw[hcells];omega)
     rw[hcells] at hfold
     obtain ⟨cells',k5,k6⟩:=vQ pl ps vs (zs.set i y) zs' ((u.cells.toList.zipIdx 0).foldl (fun cs (x:Value×Nat)=>cs.setIfInBounds (I.sizes (zs.take i)+x.2) x.1) cells) hp'
      (by rw[hcells,hfold];exact k4) hs h2
     refine ⟨cells',?_,k6⟩
     unfold Instr.fill
     simp only[hp i z hz]
     rw[if_neg (by simp[hds];omega)]
     rw[←k5]
     congr 1
     rw[←Array.foldl_toList,Array.toList_zipIdx]
    ·cases hs
   ·cases hs
theorem JZ{a:Act}{w:World}{D:aQ}{E:aU}(hs:aS c A a w D E){P:Program} : ∀ (ps:List (Nat×Operand)) (qs:List (Nat×aL)),lv P ps=some qs →
  fP (fun (p:Nat×I) (v:Nat×Value)=>p.1=v.1∧aT w D E p.2 v.2) (qs.map fun p=>(p.1,ae A p.2)) (ps.map fun p=>(p.1,a.eval p.2))
 | [],qs,h=>by simp[lv] at h;subst h;exact .nil
 |(i,x)::ps,qs,h=>by
  simp only[lv,List.mapM_cons,Option.bind_eq_bind,Option.pure_def,Option.bind_eq_some_iff,Option.map_eq_some_iff,Option.some.injEq] at h
  obtain ⟨_,⟨y,hy,rfl⟩,qs',hq,rfl⟩:=h
  exact .cons ⟨rfl,b9 hs hy⟩ (JZ hs ps qs' hq)
theorem IF{t:TypeId}{parts:Array (Nat×Operand)}{ps:List (Nat×aL)}{zs zs':List I}(ho:o.op=.build t parts)(hz:fT c.P t=some (.agg zs))(hp:lv c.P parts.toList=some ps)
  (hpl:(∃ fs,c.P.underlying t=some (.struct fs)∧(fs.toList.map fun f=>(f.offset,c.P.cellsOf f.type))=lU 0 zs∧(fs.all fun f=>(c.P.info? f.type).isSome)=true) ∨
   (∃ n e,c.P.underlying t=some (.array n e)∧zs.length=n∧(zs.all fun z=>z.size==c.P.cellsOf e)=true∧(c.P.info? e).isSome=true))
  (h:eG zs (ps.map fun p=>(p.1,ae A p.2))=some zs'):dM c A o (.agg zs') :=
 .same fun a w D E hs=>by
  obtain ⟨i,z,hi,hzv,hzr⟩:=l9 hz
  have hzr:=hzr w D E
  simp only[af] at hzr
  have hparts:=JZ hs parts.toList ps hp
  have hmap:(parts.map fun (q:Nat×Operand)=>(q.1,a.eval q.2)).toList=parts.toList.map fun p=>(p.1,a.eval p.2):=by simp
  rcases hpl with ⟨fs,hu,hoffs,hinfo⟩ | ⟨n,e,hu,hn,hev,hinfo⟩
  ·have hpl:∀ i z,zs[i]?=some z→(lU 0 zs)[i]?=some (I.sizes (zs.take i),z.size):=by
    intro i z hiz;rw[J4,hiz];simp
   obtain ⟨cells',k1,k2⟩:=vQ ((lU 0 zs)[·]?) _ _ zs zs' z.cells hpl hzr h hparts
   have hm:fs.toList.mapM (fun f=>(c.P.info? f.type).map fun i=>(f.offset,i.size))=some (lU 0 zs):=by
    rw[←hoffs]
    have hall:∀ f∈fs.toList,(c.P.info? f.type).isSome=true:=fun f hf=>by
     have:=(Array.all_eq_true_iff_forall_mem.1 hinfo) f (by simpa using hf)
     exact this
    revert hall
    generalize fs.toList=l
    intro hall
    induction l with
    |nil=>rfl
    |cons f l ih =>
     obtain ⟨j,hj⟩:=Option.isSome_iff_exists.1 (hall f (by simp))
     simp only[List.mapM_cons,Option.bind_eq_bind,hj,Option.map_some,Option.bind_some,ih (fun g hg=>hall g (by simp[hg])),Option.pure_def,List.map_cons,Program.cellsOf,Option.getD_some]
   have hb:c.P.built t (parts.map fun (q:Nat×Operand)=>(q.1,a.eval q.2)).toList=some cells':=by
    unfold Program.built
    simp only[hi,hu,hzv,hm]
    rw[hmap,←k1]
    congr 1
    funext k
    simp
   exact ⟨.agg cells',by simp only[execOp,ho,Sem.run_bind,run_build w t _ _ hb];rfl,by have:=Jv k2;simpa using this⟩
  ·obtain ⟨ie,hie⟩:=Option.isSome_iff_exists.1 hinfo
   have hev':∀ z∈zs,z.size=ie.size:=fun z hz=>by
    have:=List.all_eq_true.1 hev z hz
    simpa[Program.cellsOf,hie] using this
   have hpl:∀ i z,zs[i]?=some z→(fun i=>some (i*ie.size,ie.size)) i=some (I.sizes (zs.take i),z.size):=by
    intro i z hiz
    have hl:i<zs.length:=(List.getElem?_eq_some_iff.1 hiz).1
    rw[oM zs i hev' (by omega),hev' z (List.mem_of_getElem? hiz)]
   obtain ⟨cells',k1,k2⟩:=vQ (fun i=>some (i*ie.size,ie.size)) _ _ zs zs' z.cells hpl hzr h hparts
   have hb:c.P.built t (parts.map fun (q:Nat×Operand)=>(q.1,a.eval q.2)).toList=some cells':=by
    unfold Program.built
    simp only[hi,hu,hzv,hie]
    rw[hmap,←k1]
   exact ⟨.agg cells',by simp only[execOp,ho,Sem.run_bind,run_build w t _ _ hb];rfl,by have:=Jv k2;simpa using this⟩
theorem pb{a:Act}{w:World}{D:aQ}{E:aU}(hs:aS c A a w D E){P:Program} : ∀ (xs:List Operand) (ts:List TypeId) (ys:List aL),mg P xs ts=some ys →
  fP (aT w D E) (ys.map (ae A)) (xs.map a.eval)
 | [],_,ys,h=>by simp[mg] at h;subst h;exact .nil
 |x::xs,ts,ys,h=>by
  simp only[mg] at h
  split at h
  ·rename_i y ys' h1 h2
   simp only[Option.some.injEq] at h
   subst h
   exact .cons (b9 hs h1) (pb hs xs _ ys' h2)
  ·cases h
theorem mQ{w:World}{D:aQ}{E:aU} : ∀ (xs:List I) (vs:List Value),fP (aT w D E) xs vs→(∀ x∈xs,x.cm=true)→aI w D E xs vs
 | [],vs,h,_=>by cases h;simp[aI]
 |x::xs,vs,h,hv=>by
  cases h with
  |cons h1 h2 =>
   rename_i v vs
   have hx:=hv x (by simp)
   obtain ⟨cs,k1,k2⟩:∃ cs,bK x v cs∧af w D E x cs:=by
    cases x <;>simp[I.cm] at hx <;>exact h1
   simp only[aI]
   exact ⟨v,vs,cs,rfl,k1,k2,mQ xs vs h2 (fun y hy=>hv y (by simp[hy]))⟩
theorem qK{aB:Bool}{B:ab} : ∀ {xs ys:List I},bY aB B xs=some ys→∀ x∈xs,x.cm=true
 | [],ys,_,x,hx=>by simp at hx
 |y::xs,ys,h,x,hx=>by
  simp only[bY] at h
  split at h
  ·rename_i z zs h1 h2
   rcases List.mem_cons.1 hx with rfl | hx
   ·cases x <;>simp_all[bd,I.cm]
   ·exact qK h2 x hx
  ·cases h
theorem ahH{f:FuncId}{caps:Array Operand}{ys:List aL}(ho:o.op=.makeFunc (.func f) #[] caps)(hc:mg c.P caps.toList []=some ys)(hv:∀ y∈ys,(ae A y).cm=true):dM c A o (.func f (ys.map (ae A))) :=
 .same fun a w D E hs=>by
  have h:=mQ _ _ (pb hs caps.toList [] ys hc) (by simpa using hv)
  have e:caps.map a.eval=(caps.toList.map a.eval).toArray:=by apply Array.ext';simp
  refine ⟨.func (.func f) #[] (caps.toList.map a.eval).toArray,by simp[execOp,ho,Instr.makeFunc,e],⟨_,by simp[bK,I.isAgg];rfl,?_⟩⟩
  simp only[af]
  exact ⟨_,rfl,h⟩
theorem Mt{w:World}{D:aQ}{E:aU} : ∀ (xs:List I) (vs:List Value),aI w D E xs vs→aJ w D E xs (vs.flatMap fun v=>v.cells.toList)∧vs.length=xs.length∧∀ (sz:Nat),(∀ x∈xs,x.size=sz)→∀ v∈vs,v.cells.size=sz
 | [],vs,h=>by simp only[aI] at h;subst h;simp[aJ]
 |x::xs,vs,h=>by
  simp only[aI] at h
  obtain ⟨v,rest,cs,rfl,h1,h2,h3⟩:=h
  obtain ⟨k1,k2,k3⟩:=Mt xs rest h3
  have hc:=h1.cells h2
  refine ⟨?_,by simp[k2],fun sz hsz u hu =>?_⟩
  ·simp only[List.flatMap_cons,aJ]
   exact ⟨_,_,rfl,by rw[hc];exact h2,k1⟩
  ·rcases List.mem_cons.1 hu with rfl | hu
   ·rw[←Array.length_toList,hc,af.length _ _ h2,hsz x (by simp)]
   ·exact k3 sz (fun y hy=>hsz y (by simp[hy])) u hu
def oH(A:ab)(D:aQ)(E:aU):aQ:=fun b o=>D b o∨∃ n T sz es cap,A.o n=some (.bT T sz es)∧E n=some (.rw (some (b,cap)) es.length)∧o<es.length*sz
theorem aS.oL{a:Act}{w:World}{D:aQ}{E:aU}(h:aS c A a w D E):aS c A a w (oH A D E) E∧iw false A D E (oH A D E):=by
 have hblk:∀ {n T sz es b cap},A.o n=some (.bT T sz es)→E n=some (.rw (some (b,cap)) es.length)→c.fj b∧b<w.heap.size:=by
  intro n T sz es b cap hn ar
  obtain ⟨aD,k1,k2,k3⟩:=h.bT hn
  rw[ar] at k1
  simp only[Option.some.injEq,bR.rw.injEq,and_true] at k1
  subst k1
  obtain ⟨cs,pre,rest,k4,k5,_⟩:=k3
  exact ⟨k4,fR k5⟩
 refine ⟨h.Nd (fun _ _ hd=>.inl hd) ?_ ?_ ?_ ?_ ?_ ?_,⟨fun _ _ hd=>.inl hd,fun n T sz es b cap hn ar o ho=>.inr ⟨n,T,sz,es,cap,hn,ar,ho⟩,(fun hb=>by cases hb),fun hb=>by cases hb⟩⟩
 ·rintro b o (hd | ⟨n,T,sz,es,cap,hn,ar,ho⟩) hlt
  ·exact h.c5 _ _ hd hlt
  ·exact absurd (hblk hn ar).1 hlt
 ·rintro b o (hd | ⟨n,T,sz,es,cap,hn,ar,ho⟩)
  ·exact h.c9 _ _ hd
  ·exact (hblk hn ar).2
 ·rintro m x b hm hEm o (hd | ⟨n,T,sz,es,cap,hn,ar,ho⟩)
  ·obtain ⟨b2,cs2,T2,q1,q2,q3,q4,q5⟩:=h.box hm
   rw[q1] at hEm
   simp only[Option.some.injEq,bR.aB.injEq,and_true] at hEm
   subst hEm
   exact q5 o hd
  ·have:=h.cS m n _ _ b hEm ar rfl rfl
   subst this
   rw[hm] at hn
   cases hn
 ·rintro m T' sz' es' b cap' hm hEm o (hd | ⟨n,T,sz,es,cap,hn,ar,ho⟩)
  ·obtain ⟨aD,q1,q2,q3⟩:=h.bT hm
   rw[hEm] at q1
   simp only[Option.some.injEq,bR.rw.injEq,and_true] at q1
   subst q1
   obtain ⟨cs',pre',rest',q4,q5,q6,q7,q8,q9,q10,q11⟩:=q3
   have:=q11 o hd
   rwa [aJ.length _ _ q7,I.iJ _ q2] at this
  ·have:=h.cS m n _ _ b hEm ar rfl rfl
   subst this
   rw[hm] at hn
   simp only[Option.some.injEq,ah.bT.injEq] at hn
   obtain ⟨rfl,rfl,rfl⟩:=hn
   exact ho
 ·rintro m T' xs b cap' hm hEm o (hd | ⟨n,T,sz,es,cap,hn,ar,ho⟩)
  ·obtain ⟨aD,q1,_,q3⟩:=h.rN hm
   rw[hEm] at q1
   simp only[Option.some.injEq,bR.rw.injEq,and_true] at q1
   subst q1
   obtain ⟨_,_,_,_,_,_,_,_,q4⟩:=q3
   exact q4 o hd
  ·have:=h.cS m n _ _ b hEm ar rfl rfl
   subst this
   rw[hm] at hn
   cases hn
 ·rintro m e' b hE' hoth hblk o (hd | ⟨n,T,sz,es,cap,hn,ar,ho⟩)
  ·exact h.yf hE' hoth hblk o hd
  ·have:=h.cS m n _ _ b hE' ar hblk rfl
   subst this
   rw[hE'] at ar
   cases ar
   cases hoth
theorem J0{a:Act}{w:World}{D:aQ}{E:aU}(hs:aS c A a w D E){P:Program} : ∀ (ps:List (Nat×Operand)) (qs:List (Nat×aL)),lv P ps=some qs →
  fP (aT w D E) ((qs.map (·.2)).map (ae A)) (ps.map fun p=>a.eval p.2)∧qs.map (·.1)=ps.map (·.1)
 | [],qs,h=>by simp[lv] at h;subst h;exact ⟨.nil,rfl⟩
 |(i,x)::ps,qs,h=>by
  simp only[lv,List.mapM_cons,Option.bind_eq_bind,Option.pure_def,Option.bind_eq_some_iff,Option.map_eq_some_iff,Option.some.injEq] at h
  obtain ⟨_,⟨y,hy,rfl⟩,qs',hq,rfl⟩:=h
  obtain ⟨h1,h2⟩:=J0 hs ps qs' hq
  exact ⟨.cons (b9 hs hy) h1,by simp[h2]⟩
theorem aS.newRow{a:Act}{w:World}{D:aQ}{E:aU}(h:aS c A a w D E)(o:Obj):aS c A a (w.alloc o) (fun b k=>D b k∨b=w.heap.size) E:=by
 refine h.grow (sk w o) (fun _ _ hd=>.inl hd) ?_ ?_
 ·rintro b k (hd | rfl) hlt
  ·exact hd
  ·omega
 ·rintro b k (hd | rfl)
  ·have:=h.c9 _ _ hd;simp;omega
  ·simp
theorem amh{α:Type}(ps:List (Nat×α))(h:ps.map (·.1)=List.range ps.length):ps=((ps.map (·.2)).zipIdx 0).map fun x=>(x.2,x.1):=by
 apply List.ext_getElem?
 intro k
 rw[List.getElem?_map,List.getElem?_zipIdx,List.getElem?_map]
 cases hk:ps[k]? with
 |none=>simp
 |some p =>
  have hl:k<ps.length:=(List.getElem?_eq_some_iff.1 hk).1
  have:=congrArg (·[k]?) h
  simp only[List.getElem?_map,hk,Option.map_some,List.getElem?_range hl,Option.some.injEq] at this
  simp[←this]
theorem ahp{t e:TypeId}{len:Nat}{parts:Array (Nat×Operand)}{ps:List (Nat×aL)}{es:List I}(ho:o.op=.buildSlice t len parts)(hu:c.P.underlying t=some (.slice e))(hp:lv c.P parts.toList=some ps)
  (hr:ps.map (·.1)=List.range len) (h0:0<c.P.cellsOf e) (hlen:0<len) (hsm:len*c.P.cellsOf e≤16777216) (hz:((c.P.info? e).bind (·.zero)).isSome=true)
  (hes:bY false A ((ps.map (·.2)).map (ae A))=some es) (hev:∀ x∈es,x.size=c.P.cellsOf e) (hcl:I.bU es=true):dM c A o (.slice (c.P.cellsOf e) es):=by
 intro a w D E hs
 obtain ⟨hfor,hidx⟩:=J0 hs parts.toList ps hp
 obtain ⟨hs1,hw⟩:=hs.oL
 have hrv:=my (E':=E) hs (fun _ _ h=>h) hw _ es _ (mQ _ _ hfor (qK hes)) hes
 obtain ⟨k1,k2,k3⟩:=Mt es _ hrv
 have k3:=k3 _ hev
 have hl:parts.toList.length=len:=by
  have:=congrArg List.length hidx
  rw[hr] at this
  simpa using this.symm
 have hesl:es.length=len:=by rw[←k2];simp[hl]
 obtain ⟨z,hz⟩:=Option.isSome_iff_exists.1 hz
 obtain ⟨ie,hie,hzz⟩:=Option.bind_eq_some_iff.1 hz
 have hsz:ie.size=c.P.cellsOf e:=by simp[Program.cellsOf,hie]
 -- the literal's cells
 have hfill:Instr.fill (fun i=>some (i*ie.size,ie.size)) ((Array.range (len*ie.size)).map (z.cells[· % z.cells.size]!)) (parts.map fun (q:Nat×Operand)=>(q.1,a.eval q.2)).toList =
   some ((parts.toList.map fun p=>a.eval p.2).flatMap fun v=>v.cells.toList).toArray:=by
  have hpz:(parts.map fun (q:Nat×Operand)=>(q.1,a.eval q.2)).toList=((parts.toList.map fun p=>a.eval p.2).zipIdx 0).map fun x=>(x.2,x.1):=by
   have:=amh (parts.toList.map fun (q:Nat×Operand)=>(q.1,a.eval q.2)) (by simp only[List.map_map,List.length_map];rw[hl,←hr,hidx];rfl)
   rw[Array.toList_map,this,List.map_map]
   rfl
  rw[hpz,hsz]
  exact Great.fill_whole h0 _ _ (fun v hv=>k3 v hv) (by simp[hl])
 have hrun:=run_buildSlice (P:=c.P) w t e len (parts.map fun (q:Nat×Operand)=>(q.1,a.eval q.2)) _ ie z hu hie hzz (by rw[hsz];omega) (by rw[hsz];exact Nat.ne_of_gt (Nat.mul_pos hlen h0)) hfill
 generalize hcells:((parts.toList.map fun p=>a.eval p.2).flatMap fun v=>v.cells.toList)=cells at *
 have hs2:=hs1.newRow (.cells cells.toArray e)
 refine ⟨_,_,_,by simp only[execOp,ho,Sem.run_bind];rw[hrun];rfl,hs2,tx hesl.symm (Nat.le_refl _) ?_ (.inr ⟨w.heap.size,0,cells,rfl,?_,?_⟩) hev⟩
 ·unfold maxLen
  have:len≤len*c.P.cellsOf e:=Nat.le_mul_of_pos_right _ h0
  omega
 ·intro j v hj
  refine ⟨?_,.inr rfl⟩
  rw[Nat.zero_add]
  have:=World.cell?_alloc_new w cells.toArray e j
  rw[this]
  simpa using hj
 ·refine aJ.bJ ?_ es cells k1
  exact dN.grow (sk w _) (fun _ _ hd=>.inl hd)
end
mutual
theorem py:∀ (ty:cK) (x y:I) (r:Bool),cg ty x y=some r→x.size=ty.size∧y.size=ty.size
 | .i k,x,y,r,h=>by
  simp only[cg] at h
  split at h
  ·simp[I.size,cK.size]
  ·cases h
 | .b,x,y,r,h=>by
  simp only[cg] at h
  split at h
  ·simp[I.size,cK.size]
  ·cases h
 | .s,x,y,r,h=>by
  simp only[cg] at h
  split at h
  ·simp[I.size,cK.size]
  ·cases h
 | .bg l,x,y,r,h=>by
  simp only[cg] at h
  split at h
  ·simp only[I.size,cK.size];exact Dc l _ _ r h
  ·cases h
 | .jG n e,x,y,r,h=>by
  simp only[cg] at h
  split at h
  ·rename_i fs gs
   split at h
   ·rename_i hl
    simp only[I.size,cK.size]
    have:∀ (fs gs:List I) (r:Bool),fs.length=gs.length→(fs.zip gs).foldr (fun p acc=>iy (cg e p.1 p.2) acc) (some true)=some r→I.sizes fs=fs.length*e.size∧I.sizes gs=fs.length*e.size:=by
     intro fs
     induction fs with
     |nil=>intro gs r hl _;cases gs with | nil=>simp[I.sizes] | cons _ _=>simp at hl
     |cons f fs ih =>
      intro gs r hl h
      cases gs with
      |nil=>simp at hl
      |cons g gs =>
       simp only[List.zip_cons_cons,List.foldr_cons] at h
       unfold iy at h
       split at h
       ·rename_i a b h1 h2
        obtain ⟨k1,k2⟩:=ih gs b (by simpa using hl) h2
        obtain ⟨k3,k4⟩:=py e f g a h1
        simp only[I.sizes,List.length_cons,k1,k2,k3,k4,Nat.add_mul,Nat.one_mul]
        omega
       ·cases h
    obtain ⟨k1,k2⟩:=this fs gs r (by omega) h
    rw[k1,k2,hl.1]
    exact ⟨rfl,rfl⟩
   ·cases h
  ·cases h
theorem Dc:∀ (l:List cK) (xs ys:List I) (r:Bool),iU l xs ys=some r→I.sizes xs=cK.sizes l∧I.sizes ys=cK.sizes l
 | [],xs,ys,r,h=>by
  simp only[iU] at h
  split at h
  ·simp[I.sizes,cK.sizes]
  ·cases h
 |t::ts,xs,ys,r,h=>by
  simp only[iU] at h
  split at h
  ·rename_i f fs g gs
   unfold iy at h
   split at h
   ·rename_i a b h1 h2
    obtain ⟨k1,k2⟩:=py t f g a h1
    obtain ⟨k3,k4⟩:=Dc ts fs gs b h2
    simp only[I.sizes,cK.sizes,k1,k2,k3,k4]
    exact ⟨trivial,trivial⟩
   ·cases h
  ·cases h
end
section
variable {P:Program} {w:World} {D:aQ} {E:aU}
theorem vE{d:Nat}{t:TypeId}{ty:cK}(h:gG P d t=some ty)(hs:ty.size=P.cellsOf t){x y:I}{r:Bool}(hr:cg ty x y=some r):∃ s,fO P t=some s∧b6 s x=true∧b6 s y=true:=by
 have hsz:=py ty x y r hr
 cases d with
 |zero=>simp[gG] at h
 |succ d =>
  simp only[gG] at h
  split at h
  ·rename_i k hu
   simp only[Option.some.injEq] at h;subst h
   simp only[cg] at hr
   split at hr
   ·exact ⟨none,by simp[fO,hu],by simp[b6,I.isAgg],by simp[b6,I.isAgg]⟩
   ·cases hr
  ·rename_i hu
   simp only[Option.some.injEq] at h;subst h
   simp only[cg] at hr
   split at hr
   ·exact ⟨none,by simp[fO,hu],by simp[b6,I.isAgg],by simp[b6,I.isAgg]⟩
   ·cases hr
  ·rename_i hu
   simp only[Option.some.injEq] at h;subst h
   simp only[cg] at hr
   split at hr
   ·exact ⟨none,by simp[fO,hu],by simp[b6,I.isAgg],by simp[b6,I.isAgg]⟩
   ·cases hr
  ·rename_i fs hu
   split at h
   ·simp only[Option.map_eq_some_iff] at h
    obtain ⟨l,_,rfl⟩:=h
    simp only[cg] at hr
    split at hr
    ·exact ⟨some (P.cellsOf t),by simp[fO,hu],by simp[b6,I.isAgg,hsz.1,hs],by simp[b6,I.isAgg,hsz.2,hs]⟩
    ·cases hr
   ·cases h
  ·rename_i n e hu
   split at h
   ·split at h
    ·simp only[Option.some.injEq] at h;subst h
     simp only[cg] at hr
     split at hr
     ·exact ⟨some (P.cellsOf t),by simp[fO,hu],by simp[b6,I.isAgg,hsz.1,hs],by simp[b6,I.isAgg,hsz.2,hs]⟩
     ·cases hr
    ·cases h
   ·cases h
  ·cases h
theorem De{k:Nat}{g:Field→Option cK}(hg:∀ (f:Field) (ty:cK),g f=some ty→ty.size=P.cellsOf f.type∧∃ d,gG P d f.type=some ty ∧
   ∀ (x y:I) (u v:Value) (r:Bool),aT w D E x u→aT w D E y v→cg ty x y=some r→(Op.equalIn k f.type u v).run P w=.ok r w) :
  ∀ (fs : List Field) (l : List cK) (xs ys : List I) (r : Bool) (c1 c2 d1 d2 : List Value), fs.mapM g = some l → (∀ f ∈ fs, f.name ≠ "_") → pT P c1.length fs = true → c1.length = d1.length →
   aJ w D E xs c2→aJ w D E ys d2→iU l xs ys=some r→(Op.eqFields k (c1++c2).toArray (d1++d2).toArray fs).run P w=.ok r w
 | [],l,xs,ys,r,c1,c2,d1,d2,hm,_,_,_,_,_,h=>by
  simp at hm
  subst hm
  simp only[iU] at h
  split at h
  ·simp only[Option.some.injEq] at h;subst h;simp[Op.eqFields]
  ·cases h
 |f::fs,l,xs,ys,r,c1,c2,d1,d2,hm,hn,ho,hl,hx,hy,h=>by
  simp only[List.mapM_cons,Option.bind_eq_bind,Option.pure_def,Option.bind_eq_some_iff,Option.some.injEq] at hm
  obtain ⟨ty,hty,tys,htys,rfl⟩:=hm
  simp only[iU] at h
  split at h
  case h_2=>cases h
  rename_i x xs y ys
  unfold iy at h
  split at h
  case h_2=>cases h
  rename_i ra rb h1 h2
  simp only[Option.some.injEq] at h
  subst h
  simp only[aJ] at hx hy
  obtain ⟨e1,e2,rfl,k1,k2⟩:=hx
  obtain ⟨f1,f2,rfl,k3,k4⟩:=hy
  obtain ⟨hsz,dd,hd,heq⟩:=hg f ty hty
  obtain ⟨s,q1,q2,q3⟩:=vE hd hsz h1
  obtain ⟨u,p1,p2⟩:=oI (c1:=c1) (c3:=e2) q1 q2 k1
  obtain ⟨v,p3,p4⟩:=oI (c1:=d1) (c3:=f2) q1 q3 k3
  simp only[pT,Bool.and_eq_true,beq_iff_eq] at ho
  have hsx:=py ty x y ra h1
  have hle:e1.length=P.cellsOf f.type:=by rw[af.length _ _ k1,hsx.1,hsz]
  have hlf:f1.length=P.cellsOf f.type:=by rw[af.length _ _ k3,hsx.2,hsz]
  have ih:=De hg fs tys xs ys rb (c1++e1) e2 (d1++f1) f2 htys (fun g hg=>hn g (by simp[hg])) (by simp only[List.length_append,hle];exact ho.2) (by simp[hl,hle,hlf]) k2 k4 h2
  rw[List.append_assoc] at p1 p3
  rw[List.append_assoc,List.append_assoc] at ih
  rw[←ho.1] at p1
  rw[←hl,←ho.1] at p3
  simp only[Op.eqFields,hn f (by simp),ne_eq,not_false_eq_true,if_true,Sem.run_bind,p1,Result.andThen_ok,p3,heq x y u v ra p2 p4 h1]
  cases ra
  ·simp
  ·simpa using ih
theorem Df{d:Nat}{e:TypeId}{ty:cK}{dd:Nat}(hty:gG P dd e=some ty)(hsz:ty.size=P.cellsOf e)
  (heq:∀ (x y:I) (u v:Value) (r:Bool),aT w D E x u→aT w D E y v→cg ty x y=some r→(Op.equalIn d e u v).run P w=.ok r w) :
  ∀ (m k:Nat) (xs ys:List I) (c1 c2 d1 d2:List Value) (r:Bool),xs.length=m→ys.length=m→c1.length=k*P.cellsOf e→d1.length=k*P.cellsOf e→aJ w D E xs c2→aJ w D E ys d2 →
   (xs.zip ys).foldr (fun p acc=>iy (cg ty p.1 p.2) acc) (some true)=some r→(Op.eqItems d e (P.cellsOf e) (c1++c2).toArray (d1++d2).toArray (List.range' k m)).run P w=.ok r w
 |0,k,xs,ys,c1,c2,d1,d2,r,hx,hy,_,_,_,_,h=>by
  have e1:=List.eq_nil_of_length_eq_zero hx
  subst e1
  simp only[List.zip_nil_left,List.foldr_nil,Option.some.injEq] at h
  subst h
  simp[Op.eqItems]
 |m+1,k,xs,ys,c1,c2,d1,d2,r,hx,hy,hc,hd,hrx,hry,h=>by
  cases xs with
  |nil=>simp at hx
  |cons x xs =>
  cases ys with
  |nil=>simp at hy
  |cons y ys =>
  simp only[List.zip_cons_cons,List.foldr_cons] at h
  unfold iy at h
  split at h
  case h_2=>cases h
  rename_i ra rb h1 h2
  simp only[Option.some.injEq] at h
  subst h
  simp only[aJ] at hrx hry
  obtain ⟨e1,e2,rfl,k1,k2⟩:=hrx
  obtain ⟨f1,f2,rfl,k3,k4⟩:=hry
  obtain ⟨s,q1,q2,q3⟩:=vE hty hsz h1
  obtain ⟨u,p1,p2⟩:=oI (c1:=c1) (c3:=e2) q1 q2 k1
  obtain ⟨v,p3,p4⟩:=oI (c1:=d1) (c3:=f2) q1 q3 k3
  have hsx:=py ty x y ra h1
  have hle:e1.length=P.cellsOf e:=by rw[af.length _ _ k1,hsx.1,hsz]
  have hlf:f1.length=P.cellsOf e:=by rw[af.length _ _ k3,hsx.2,hsz]
  have ih:=Df hty hsz heq m (k+1) xs ys (c1++e1) e2 (d1++f1) f2 rb (by simpa using hx) (by simpa using hy) (by simp only[List.length_append,hle,hc,Nat.add_mul,Nat.one_mul]) (by simp only[List.length_append,hlf,hd,Nat.add_mul,Nat.one_mul]) k2 k4 h2
  rw[List.append_assoc] at p1 p3
  rw[List.append_assoc,List.append_assoc] at ih
  rw[hc] at p1
  rw[hd] at p3
  simp only[List.range'_succ,Op.eqItems,Sem.run_bind,p1,Result.andThen_ok,p3,heq x y u v ra p2 p4 h1]
  cases ra
  ·simp
  ·simpa using ih
theorem sF:∀ (d:Nat) (t:TypeId) (ty:cK),gG P d t=some ty→∀ (x y:I) (u v:Value) (r:Bool),aT w D E x u→aT w D E y v→cg ty x y=some r→∀ dep,d≤dep→(Op.equalIn dep t u v).run P w=.ok r w
 |0,t,ty,h,_,_,_,_,_,_,_,_,_,_=>by simp[gG] at h
 |d+1,t,ty,h,x,y,u,v,r,hx,hy,hr,dep,hdep=>by
  obtain ⟨k,rfl⟩:∃ k,dep=k+1:=⟨dep-1,by omega⟩
  simp only[gG] at h
  split at h
  ·rename_i kk hu
   simp only[Option.some.injEq] at h;subst h
   simp only[cg] at hr
   split at hr
   ·split at hr
    ·simp only[Option.some.injEq] at hr;subst hr
     rw[(fB hx).1,(fB hy).1]
     rename_i hk
     rw[hk.1,hk.2]
     exact run_equalIn_int w k t kk kk _ _ hu
    ·cases hr
   ·cases hr
  ·rename_i hu
   simp only[Option.some.injEq] at h;subst h
   simp only[cg] at hr
   split at hr
   ·simp only[Option.some.injEq] at hr;subst hr
    rw[lZ hx,lZ hy]
    exact run_equalIn_bool' w k t _ _ hu
   ·cases hr
  ·rename_i hu
   simp only[Option.some.injEq] at h;subst h
   simp only[cg] at hr
   split at hr
   ·simp only[Option.some.injEq] at hr;subst hr
    rw[(nK hx).1,(nK hy).1]
    exact run_equalIn_string w k t _ _ hu
   ·cases hr
  ·rename_i fs hu
   split at h
   ·rename_i hc
    simp only[Option.map_eq_some_iff] at h
    obtain ⟨l,hl,rfl⟩:=h
    simp only[cg] at hr
    split at hr
    ·obtain ⟨cs,rfl,h1⟩:=jC hx
     obtain ⟨ds,rfl,h2⟩:=jC hy
     have hf:P.fieldsOf t=fs:=by simp[Program.fieldsOf,hu]
     rw[run_equalIn_struct w k t _ _ (by rw[hf];exact hu) hc.1,hf]
     refine De (g:=fun f=>match gG P d f.type with | some ty=>if ty.size=P.cellsOf f.type then some ty else none | none=>none) (fun f ty hg =>?_) fs.toList l _ _ r [] cs [] ds hl (fun f hf =>?_) hc.2.2 rfl h1 h2 hr
     ·split at hg
      ·rename_i ty' hty
       split at hg
       ·rename_i hs
        simp only[Option.some.injEq] at hg;subst hg
        exact ⟨hs,d,hty,fun x y u v r hx hy hr=>sF d f.type _ hty x y u v r hx hy hr k (by omega)⟩
       ·cases hg
      ·cases hg
     ·have:=List.all_eq_true.1 hc.2.1 f hf
      simpa using this
    ·cases hr
   ·cases h
  ·rename_i n e hu
   split at h
   ·rename_i ty' hty
    split at h
    ·rename_i hc
     simp only[Option.some.injEq] at h;subst h
     simp only[cg] at hr
     split at hr
     ·split at hr
      ·rename_i hl
       obtain ⟨cs,rfl,h1⟩:=jC hx
       obtain ⟨ds,rfl,h2⟩:=jC hy
       obtain ⟨i,hi⟩:=Option.isSome_iff_exists.1 hc.2
       rw[run_equalIn_array w k _ _ hu hi,List.range_eq_range']
       exact Df hty hc.1 (fun x y u v r hx hy hr=>sF d e _ hty x y u v r hx hy hr k (by omega)) n 0 _ _ [] cs [] ds r hl.1 hl.2 (by simp) (by simp) h1 h2 hr
      ·cases hr
     ·cases hr
    ·cases h
   ·cases h
  ·cases h
end
section
variable {c:cJ} {A:ab} {o:Oper} {x:I}
theorem ala{P:Program}{w:World}{D:aQ}{E:aU}(op:BinOp)(t:TypeId)(x y:Operand){a b:I}{ty:cK}{r:Bool}{u v:Value}(hr:cg ty a b=some r)(hx:aT w D E a u)(hm:P.eqGuardType P.depth t=false) :
  (eqGuard op t x y u v).run P w=.ok () w:=by
 have:u.oneCell'=true∧u≠.nilIface∨∃ cs,u=.agg cs:=by
  cases ty <;>simp only[cg] at hr <;>split at hr <;>first
   |(cases hr;done)
   |(left;rw[(fB hx).1];exact ⟨rfl,by simp⟩)
   |(left;rw[lZ hx];exact ⟨rfl,by simp⟩)
   |(left;rw[(nK hx).1];exact ⟨rfl,by simp⟩)
   |(right;obtain ⟨cs,h,_⟩:=jC hx;exact ⟨_,h⟩)
 rcases this with ⟨h1,h2⟩ | ⟨cs,rfl⟩
 ·exact yI op t x y h1 h2
 ·cases op <;>cases v <;>simp[eqGuard,run_program,hm]
theorem Pz{P:Program}{w:World}{D:aQ}{E:aU}{neg:Bool}{t:TypeId}{a b:I}{ty:cK}{r:Bool}{u v:Value}(hr:cg ty a b=some r)(hx:aT w D E a u)(hy:aT w D E b v){dt:Nat}(hdt:dt≤10000)(hty:gG P dt t=some ty) :
  (binOp (if neg then .neq else .eql) t u v).run P w=.ok (.bool (if neg then !r else r)) w:=by
 have he:=sF (w:=w) (D:=D) (E:=E) dt t ty hty a b u v r hx hy hr 10000 hdt
 cases ty <;>simp only[cg] at hr <;>split at hr <;>first | (cases hr;done) | skip
 ·rw[(fB hx).1,(fB hy).1] at *
  split at hr
  ·rename_i hk
   simp only[Option.some.injEq] at hr
   subst hr
   rw[hk.1,hk.2]
   cases neg <;>simp[binOp,Op.intCmp,bne]
  ·cases hr
 ·have e1:=lZ hx
  have e2:=lZ hy
  subst e1 e2
  cases neg <;>simp only[binOp,if_true,Bool.false_eq_true,if_false] <;>simp[Op.equal,Op.maxDepth,he]
 ·rw[(nK hx).1,(nK hy).1] at *
  simp only[Option.some.injEq] at hr
  subst hr
  cases neg <;>simp[binOp,Op.stringOp]
 ·obtain ⟨cs,rfl,_⟩:=jC hx
  obtain ⟨ds,rfl,_⟩:=jC hy
  cases neg <;>simp only[if_true,Bool.false_eq_true,if_false]
  ·rw[run_eql_struct,he];rfl
  ·rw[run_neq_struct,he];rfl
 ·obtain ⟨cs,rfl,_⟩:=jC hx
  obtain ⟨ds,rfl,_⟩:=jC hy
  cases neg <;>simp only[if_true,Bool.false_eq_true,if_false]
  ·rw[run_eql_struct,he];rfl
  ·rw[run_neq_struct,he];rfl
theorem ahu{neg:Bool}{t yt:TypeId}{y z:Operand}{y' z':aL}{ty:cK}{r:Bool}(ho:o.op=.binOp (if neg then .neq else .eql) t y z yt)(hy:bG c.P 0 y=some y')(hz:bG c.P 0 z=some z')(hg:c.P.eqGuardType c.P.depth t=false)
  (hty:gG c.P 12 t=some ty) (h:cg ty (ae A y') (ae A z')=some r):dM c A o (.bool (if neg then !r else r)) :=
 .same fun a w D E hs=>by
  have h1:=b9 hs hy
  have h2:=b9 hs hz
  refine ⟨_,?_,ox _⟩
  simp only[execOp,ho,Sem.run_bind,ala _ t y z h h1 hg,Result.andThen_ok,Pz h h1 h2 (dt:=12) (by omega) hty]
  rfl
theorem xg{neg:Bool}{t yt e:TypeId}{y z:Operand}{y':aL}{sz:Nat}{r:Bool}(ho:o.op=.binOp (if neg then .neq else .eql) t y z yt)(hu:c.P.underlying t=some (.slice e))(hy:bG c.P 0 y=some y')(hz:bG c.P 0 z=some (.c (.nils sz)))
  (h:(∃ s,ae A y'=.nils s∧r=true)∨(∃ s es,ae A y'=.slice s es∧es≠[]∧r=false)∨(∃ n p s lo k,ae A y'=.view n p s lo k∧r=false)):dM c A o (.bool (if neg then !r else r)) :=
 .same fun a w D E hs=>by
  have h1:=b9 hs hy
  have h2:aT w D E (.nils sz) (a.eval z):=b9 hs hz
  have hv:a.eval z=.slice none 0 0:=by
   obtain ⟨cs,q1,q2⟩:=h2
   simp only[af] at q2
   simpa[bK,I.isAgg,q2] using q1.symm
  have hu':(∃ ad n cp,a.eval y=.slice ad n cp∧r=ad.isNone):=by
   rcases h with ⟨s,h,rfl⟩ | ⟨s,es,h,hne,rfl⟩ | ⟨n,p,s,lo,k,h,rfl⟩
   ·rw[h] at h1
    obtain ⟨cs,q1,q2⟩:=h1
    simp only[af] at q2
    exact ⟨none,0,0,by simpa[bK,I.isAgg,q2] using q1.symm,rfl⟩
   ·rw[h] at h1
    obtain ⟨ad,cap,e1,_,_,e4,_⟩:=nJ h1
    rcases e4 with e4 | ⟨b,off,cs,rfl,_,_⟩
    ·exact absurd e4 hne
    ·exact ⟨_,_,_,e1,rfl⟩
   ·rw[h] at h1
    obtain ⟨cs,q1,q2⟩:=h1
    simp only[af] at q2
    obtain ⟨b,aR,off,l,_,_,_,q2,_⟩:=q2
    exact ⟨_,_,_,by simpa[bK,I.isAgg,q2] using q1.symm,rfl⟩
  obtain ⟨ad,n,cp,hyv,rfl⟩:=hu'
  have he:∀ d,(Op.equalIn (d+1) t (.slice ad n cp) (.slice none 0 0)).run c.P w=.ok ad.isNone w:=fun d=>by
   cases ad <;>simp[Op.equalIn,run_underlying hu]
  refine ⟨.bool (if neg then !ad.isNone else ad.isNone),?_,ox _⟩
  cases neg <;>simp only[execOp,ho,hyv,hv,if_true,Bool.false_eq_true,if_false,Sem.run_bind,eqGuard] <;>simp[binOp,Op.equal,Op.maxDepth,he]
end
def iL(c:cJ)(A:ab)(o:Oper)(B:ab):Prop :=
 ∀ a w D E,aS c A a w D E→∃ w',((∃ v,(execOp a.eval o).run c.P w=.ok (.value v) w'∧cj c B (a.put o.dst v) w')∨((execOp a.eval o).run c.P w=.ok .skip w'∧cj c B (a.put o.dst undef) w'))
section
variable {c:cJ} {A:ab} {o:Oper} {x:I}
theorem dM.does(h:dM c A o x)(hd:∀ k,o.dst=some k→k<c.n):iL c A o (A.aP o.dst x):=by
 intro a w D E hs
 obtain ⟨v,w',D',h1,h2,h3⟩:=h a w D E hs
 exact ⟨w',.inl ⟨v,h1,D',E,h2.aP hd h3⟩⟩
theorem W2{t:TypeId}{z:I}{d:Nat}(ho:o.op=.alloc t)(hz:fT c.P t=some z)(hd:o.dst=some d)(hn:d<c.n)(hf:A.o d=none):iL c A o ((A.aN d (.box z)).put d (.ptr d [])):=by
 intro a w D E hs
 obtain ⟨i,zv,hi,hzv,hzr⟩:=l9 hz
 have h1:=hs.rh (T:=t) (.inl hn) hf (hzr w D E)
 have h2:=h1.put (x:=.ptr d []) (v:=.pointer (some ⟨w.heap.size,0,none⟩)) hn ⟨_,by simp[bK,I.isAgg];rfl,by
  simp only[af,if_true]
  exact ⟨w.heap.size,z.aR,0,rfl,by cases z.aR <;>simp[cO.off],rfl⟩⟩
 exact ⟨w.alloc (.cells zv.cells t),.inl ⟨.pointer (some ⟨w.heap.size,0,none⟩),by simp[execOp,ho,Instr.alloc,zeroValue,typeInfo,hi,hzv,newVar,newRow],D,_,by rw[hd];exact h2⟩⟩
theorem W7{t:TypeId}{y:Operand}{y':aL}{d:Nat}(ho:o.op=.box t y)(hy:bG c.P t y=some y')(hv:(ae A y').cm=true)(hd:o.dst=some d)(hn:d<c.n)(hf:A.o d=none) :
  iL c A o ((A.aN d (.box (ae A y'))).put d (.ptr d [])):=by
 intro a w D E hs
 obtain ⟨cs,k1,k2⟩:∃ cs,bK (ae A y') (a.eval y) cs∧af w D E (ae A y') cs:=by
  have h:=b9 hs hy
  generalize ae A y'=z at *
  cases z <;>simp[I.cm] at hv <;>exact h
 have hc:=k1.cells k2
 rw[←hc] at k2
 have h1:=hs.rh (T:=t) (.inl hn) hf k2
 have h2:=h1.put (x:=.ptr d []) (v:=.pointer (some ⟨w.heap.size,0,none⟩)) hn ⟨_,by simp[bK,I.isAgg];rfl,by
  simp only[af,if_true]
  exact ⟨w.heap.size,(ae A y').aR,0,rfl,by cases (ae A y').aR <;>simp[cO.off],rfl⟩⟩
 exact ⟨w.alloc (.cells (a.eval y).cells t),.inl ⟨.pointer (some ⟨w.heap.size,0,none⟩),by simp[execOp,ho,Instr.box,newVar,newRow],D,_,by rw[hd];exact h2⟩⟩
theorem Xd{t:TypeId}{y z:Operand}{y' z':aL}{s:Option Nat}{n:Nat}{p:List Nat}{b old:I}(ho:o.op=.store t y z)(hk:fO c.P t=some s)(hk1:s.isSome=true∨c.P.cellsOf t=1)(hy:bG c.P 0 y=some y')(hz:bG c.P t z=some z')
  (hp:ae A y'=.ptr n p) (hb:A.o n=some (.box b)) (hat:b.at p=some old) (hv:(ae A z').cm=true) (hok:b6 s (ae A z')=true) (hsh:(ae A z').aR=old.aR) (hd:o.dst=none) :
  iL c A o (A.aN n (.box (b.dH p (ae A z')))):=by
 intro a w D E hs
 have h1:=b9 hs hy
 rw[hp] at h1
 obtain ⟨bb,aR,off,h2,h3,h4⟩:=oJ h1
 obtain ⟨b',cs,T,k1,k2,k3,k4,k5⟩:=hs.box hb
 rw[k1] at h2
 simp only[Option.some.injEq,bR.aB.injEq] at h2
 obtain ⟨rfl,rfl⟩:=h2
 obtain ⟨ds,q1,q2⟩:∃ ds,bK (ae A z') (a.eval z) ds∧af w D E (ae A z') ds:=by
  have h:=b9 hs hz
  generalize ae A z'=zz at *
  cases zz <;>simp[I.cm] at hv <;>exact h
 have hc:=q1.cells q2
 obtain ⟨off',p1,p2,p3,p4⟩:=tW p b old _ _ ds k4 hat q2 hsh
 rw[h3,Option.some.injEq] at p1
 subst p1
 have hl:=af.length _ _ q2
 obtain ⟨i,hi⟩:=tf hk
 have hsz:ds.length=c.P.cellsOf t:=by
  cases s with
  |none =>
   simp only[b6,Bool.not_eq_true'] at hok
   have:(ae A z').size=1:=by generalize ae A z'=zz at *;cases zz <;>simp_all[I.isAgg,I.size]
   rw[hl,this]
   rcases hk1 with h | h
   ·cases h
   ·exact h.symm
  |some m =>
   simp only[b6,Bool.and_eq_true,beq_iff_eq] at hok
   rw[hl,hok.2,xE hk]
 have hcs:(a.eval z).cells.size=ds.length:=by rw[←hc,Array.length_toList]
 have hrun:=run_storeCells_at c.P b' off T ds 0 cs w k3 (by rw[Array.length_toList] at p2;omega) (af.mH _ _ q2)
 simp only[Nat.add_zero] at hrun
 have hs2:=hs.Mz (y:=b.dH p (ae A z')) (cs':=(cs.toList.take off++ds++cs.toList.drop (off+ds.length)).toArray) hb k1 p4 (by simpa using p3)
 refine ⟨w.setRow b' (cs.toList.take off++ds++cs.toList.drop (off+ds.length)).toArray,.inr ⟨?_,D,E,?_⟩⟩
 ·have e:(a.eval z).cells.toList=ds:=hc
  have hg:¬ (a.eval z).cells.size≠c.P.cellsOf t:=by rw[hcs,hsz];simp
  simp only[execOp,ho,h4,Instr.storeAt,Instr.sureAddr,storeVar,Sem.run_bind,Sem.run_pure,Result.andThen_ok,jl hi,Sem.run_ite,if_neg hg,e,hrun]
 ·rw[hd]
  exact hs2
end
section
variable {c:cJ} {A:ab} {a:Act} {w:World} {D:aQ} {E:aU}
theorem aS.DJ(h:aS c A a w D E){n:Nat}{T:TypeId}{sz cap:Nat}{es ys:List I}{pre news rest:List Value}{cs:Array Value}{aD:Option (Nat×Nat)}(hn:A.o n=some (.bT T sz es))(ar:E n=some (.rw aD es.length))(hes:aJ w D E es pre)
  (hys:aJ w D E ys news) (hysz:∀ e∈ys,e.size=sz) (hne:ys≠[]) (hcs:cs.toList=(pre++news)++rest) (hsize:cs.size=cap*sz) (hlen:es.length+ys.length≤cap) (hcap:cap≤maxLen) :
  aS c (A.aN n (.bT T sz (es++ys))) a (w.drew.alloc (.cells cs T)) D (fun m=>if m=n then some (.rw (some (w.heap.size,cap)) (es.length+ys.length)) else E m):=by
 have hlast:0<ys.length:=List.length_pos_iff.2 hne
 have hheap:∀ b,b<w.heap.size→(w.drew.alloc (.cells cs T)).heap[b]?=w.heap[b]?:=fun b hb=>Below.heap_alloc w.drew _ b hb
 have hl:dN w D E (w.drew.alloc (.cells cs T)) D (fun m=>if m=n then some (.rw (some (w.heap.size,cap)) (es.length+ys.length)) else E m):=by
  have en:∀ {m:Nat} {e:bR},E m=some e→e.eO=true→(if m=n then some (.rw (some (w.heap.size,cap)) (es.length+ys.length)) else E m)=some e:=fun {m e} he hfx=>by
   have:m≠n:=fun e=>by rw[e,ar] at he;cases he;cases hfx
   rw[if_neg this];exact he
  refine ⟨fun _ _ h=>h,fun b o v _ hv =>?_,fun m b aR he=>en he rfl,fun m blk' l he =>?_,fun m b he=>en he rfl,fun m b he=>en he rfl,fun b es ck _ hm=>(hheap b (fR hm)).trans hm⟩
  ·rw[World.cell?_of_block (hheap b (World.block_lt_of_cell? w _ hv))];exact hv
  ·by_cases hm:m=n
   ·subst hm
    rw[ar] at he
    simp only[Option.some.injEq,bR.rw.injEq] at he
    exact ⟨_,_,if_pos rfl,by omega,fun e=>by omega⟩
   ·exact ⟨blk',l,by simp only[if_neg hm];exact he,Nat.le_refl _,fun _=>rfl⟩
 have hown:=h.bQ n
 rw[hn] at hown
 obtain ⟨blk1,hb1,hb2,_⟩:=hown
 refine ⟨h.sz,h.eQ.mono fun B _ hB=>(hheap B (Array.getElem?_eq_some_iff.1 hB).1).trans hB,fun t=>aT.bJ hl (h.dZ t),h.dO.trans ⟨rfl,rfl,rfl,by simp,fun k hk=>hheap k (h.old hk)⟩,h.c5,fun b o hd'=>by have:=h.c9 b o hd';simp;omega,fun m =>?_,?_,fun m e hm =>?_,h.eV,h.cF,h.eX,h.kZ hl⟩
 ·simp only[ab.aN]
  by_cases hm:m=n
  ·subst hm
   simp only[if_true,c8]
   refine ⟨some (w.heap.size,cap),by simp,fun e he =>?_,?_⟩
   ·rcases List.mem_append.1 he with he | he
    ·exact hb2 e he
    ·exact hysz e he
   ·refine ⟨cs,pre++news,rest,.inl h.dO.size,heap_alloc_new w.drew _,hcs,?_,hsize,by simpa using hlen,hcap,fun o ho=>absurd (h.c9 _ o ho) (Nat.lt_irrefl _)⟩
    exact aJ.bJ hl _ _ (ki _ _ _ _ hes hys)
  ·simp only[if_neg hm]
   exact (h.bQ m).bJ hl (by simp only[if_neg hm]) fun e b he hb=>⟨hheap b (h.fQ he hb),fun _ ho=>ho⟩
 ·intro m m' e e' b h1 h2 h3 h4
  by_cases hm:m=n <;>by_cases hm':m'=n
  ·rw[hm,hm']
  ·simp only[if_pos hm,Option.some.injEq] at h1
   simp only[if_neg hm'] at h2
   subst h1
   simp only[bR.aD,Option.some.injEq] at h3
   have:=h.fQ h2 h4
   omega
  ·simp only[if_neg hm] at h1
   simp only[if_pos hm',Option.some.injEq] at h2
   subst h2
   simp only[bR.aD,Option.some.injEq] at h4
   have:=h.fQ h1 h3
   omega
  ·simp only[if_neg hm] at h1
   simp only[if_neg hm'] at h2
   exact h.cS m m' e e' b h1 h2 h3 h4
 ·by_cases hmn:m=n
  ·subst hmn
   rcases h.dR _ _ hm with k | ⟨e',k,hle⟩
   ·rw[ar] at k;cases k
   ·rw[ar] at k;cases k
    exact .inr ⟨_,if_pos rfl,hle.trans (.inr ⟨_,_,_,_,rfl,rfl,by omega,fun e=>by omega⟩)⟩
  ·simp only[if_neg hmn]
   exact h.dR _ _ hm
theorem aS.aj3(h:aS c A a w D E){n:Nat}{T:TypeId}{sz b cap:Nat}{es ys:List I}{pre news rest:List Value}{cs:Array Value}(hn:A.o n=some (.bT T sz es))(ar:E n=some (.rw (some (b,cap)) es.length))(hb:w.heap[b]?=some (.cells cs T (0,0)))
  (hcs:cs.toList=pre++rest) (hes:aJ w D E es pre) (hys:aJ w D E ys news) (hysz:∀ e∈ys,e.size=sz) (hne:ys≠[]) (hsize:cs.size=cap*sz) (hlen:es.length+ys.length≤cap) (hcap:cap≤maxLen) (hD:∀ o,D b o→o<pre.length) (hbase:c.fj b) :
  aS c (A.aN n (.bT T sz (es++ys))) a (w.setRow b (pre++news++rest.drop news.length).toArray) D (fun m=>if m=n then some (.rw (some (b,cap)) (es.length+ys.length)) else E m):=by
 have hlast:0<ys.length:=List.length_pos_iff.2 hne
 have hown:=h.bQ n
 rw[hn] at hown
 obtain ⟨blk1,hb1,hb2,_⟩:=hown
 have hnl:news.length=ys.length*sz:=by rw[aJ.length _ _ hys,I.iJ _ hysz]
 have hpl:pre.length=es.length*sz:=by rw[aJ.length _ _ hes,I.iJ _ hb2]
 have hl:dN w D E (w.setRow b (pre++news++rest.drop news.length).toArray) D (fun m=>if m=n then some (.rw (some (b,cap)) (es.length+ys.length)) else E m):=by
  have en:∀ {m:Nat} {e:bR},E m=some e→e.eO=true→(if m=n then some (.rw (some (b,cap)) (es.length+ys.length)) else E m)=some e:=fun {m e} he hfx=>by
   have:m≠n:=fun e=>by rw[e,ar] at he;cases he;cases hfx
   rw[if_neg this];exact he
  refine ⟨fun _ _ h=>h,fun b1 o v hd hv =>?_,fun m b aR he=>en he rfl,fun m blk' l he =>?_,fun m b he=>en he rfl,fun m b he=>en he rfl,fun b1 es ck _ hm=>(setRow_other w b b1 _ (fun e=>by rw[e,hb] at hm;cases hm)).trans hm⟩
  ·by_cases hbb:b1=b
   ·subst hbb
    have ho:=hD o hd
    have h1:=setRow_heap w b1 cs (pre++news++rest.drop news.length).toArray T _ hb
    rw[cell_of_row _ b1 o _ T (0,0) h1]
    rw[cell_of_row _ b1 o _ T (0,0) hb] at hv
    have e1:cs[o]?=pre[o]?:=by rw[←Array.getElem?_toList,hcs,List.getElem?_append_left ho]
    rw[←hv,e1]
    simp only[List.getElem?_toArray,List.append_assoc]
    rw[List.getElem?_append_left ho]
   ·rw[vt _ _ _ _ hbb];exact hv
  ·by_cases hm:m=n
   ·subst hm
    rw[ar] at he
    simp only[Option.some.injEq,bR.rw.injEq] at he
    exact ⟨_,_,if_pos rfl,by omega,fun e=>by omega⟩
   ·exact ⟨blk',l,by simp only[if_neg hm];exact he,Nat.le_refl _,fun _=>rfl⟩
 refine ⟨h.sz,h.eQ.mono fun B _ hB=>(setRow_other w b B _ (fun e=>by rw[e,hb] at hB;cases hB)).trans hB,fun t=>aT.bJ hl (h.dZ t),xD h.dO hbase _,h.c5,fun b1 o hd=>by have:=h.c9 b1 o hd;simpa[World.setRow] using this,fun m =>?_,?_,fun m e hm =>?_,h.eV,h.cF,h.eX,h.kZ hl⟩
 ·simp only[ab.aN]
  by_cases hm:m=n
  ·subst hm
   simp only[if_true,c8]
   refine ⟨some (b,cap),by simp,fun e he =>?_,?_⟩
   ·rcases List.mem_append.1 he with he | he
    ·exact hb2 e he
    ·exact hysz e he
   ·refine ⟨_,pre++news,rest.drop news.length,hbase,setRow_heap w b cs _ T _ hb,by simp,aJ.bJ hl _ _ (ki _ _ _ _ hes hys),?_,by simpa using hlen,hcap,fun o ho =>?_⟩
    ·have e1:cs.size=pre.length+rest.length:=by rw[←Array.length_toList,hcs,List.length_append]
     have e2:news.length+pre.length≤cs.size:=by
      rw[hsize,hnl,hpl,←Nat.add_mul];exact Nat.mul_le_mul_right _ (by omega)
     simp only[List.size_toArray,List.length_append,List.length_drop]
     omega
    ·have:=hD o ho
     rw[List.length_append];omega
  ·simp only[if_neg hm]
   refine (h.bQ m).bJ hl (by simp only[if_neg hm]) fun e b1 he hb'=>⟨setRow_other w b b1 _ (fun e1=>hm (h.cS m n e _ b he ar (by rw[hb',e1]) rfl)),fun _ ho=>ho⟩
 ·intro m m' e e' b' h1 h2 h3 h4
  by_cases hm:m=n <;>by_cases hm':m'=n
  ·rw[hm,hm']
  ·simp only[if_pos hm,Option.some.injEq] at h1
   simp only[if_neg hm'] at h2
   subst h1
   exact absurd (h.cS m' n e' _ b' h2 ar h4 h3) hm'
  ·simp only[if_neg hm] at h1
   simp only[if_pos hm',Option.some.injEq] at h2
   subst h2
   exact absurd (h.cS m n e _ b' h1 ar h3 h4) hm
  ·simp only[if_neg hm] at h1
   simp only[if_neg hm'] at h2
   exact h.cS m m' e e' b' h1 h2 h3 h4
 ·by_cases hmn:m=n
  ·subst hmn
   rcases h.dR _ _ hm with k | ⟨e',k,hle⟩
   ·rw[ar] at k;cases k
   ·rw[ar] at k;cases k
    exact .inr ⟨_,if_pos rfl,hle.trans (.inr ⟨_,_,_,_,rfl,rfl,by omega,fun e=>by omega⟩)⟩
  ·simp only[if_neg hmn]
   exact h.dR _ _ hm
theorem Nl(n:Nat):(Builtin.zeroCells #[Value.int .i64 0] n).toList=(List.replicate n (0:Int)).map (Value.int .i64):=by
 simp only[Builtin.zeroCells,List.size_toArray,List.length_singleton,Nat.mul_one,Nat.mod_one,List.map_replicate]
 apply List.ext_getElem?
 intro k
 simp[List.getElem?_replicate]
 by_cases h:k<n
 ·rw[if_pos h,List.getElem?_range h];rfl
 ·rw[if_neg h,List.getElem?_eq_none (by simpa using h)];rfl
theorem L5{w:World}{D:aQ}{E:aU} : ∀ {xs:List Int} {cs:List Value},aJ w D E (xs.map (I.int .i64)) cs→cs=xs.map (Value.int .i64)∧∀ x∈xs,IntKind.i64.min≤x∧x≤IntKind.i64.max
 | [],cs,h=>by
  simp only[List.map_nil,aJ] at h
  subst h;exact ⟨rfl,by simp⟩
 |x::xs,cs,h=>by
  simp only[List.map_cons,aJ] at h
  obtain ⟨c1,c2,rfl,h1,h2⟩:=h
  obtain ⟨rfl,h3⟩:=L5 h2
  have h1':c1=[.int .i64 x]∧IntKind.i64.min≤x∧x≤IntKind.i64.max:=h1
  obtain ⟨rfl,h4⟩:=h1'
  refine ⟨rfl,fun y hy =>?_⟩
  rcases List.mem_cons.1 hy with rfl | hy
  ·exact h4
  ·exact h3 y hy
theorem aS.DK(h:aS c A a w D E){n:Nat}{T:TypeId}{cap m':Nat}{es ys:List Int}{cs:Array Value}{aD:Option (Nat×Nat)}(hn:A.o n=some (.cM T es))(ar:E n=some (.rw aD es.length))(hr:∀ x∈es++ys,IntKind.i64.min≤x∧x≤IntKind.i64.max)
  (hne:ys≠[]) (hcs:cs.toList=(es++ys++List.replicate m' 0).map (Value.int .i64)) (hlen:es.length+ys.length+m'=cap) (hcap:cap≤maxLen) :
  aS c (A.aN n (.cM T (es++ys))) a (w.drew.alloc (.cells cs T)) D (fun m=>if m=n then some (.rw (some (w.heap.size,cap)) (es.length+ys.length)) else E m):=by
 have hlast:0<ys.length:=List.length_pos_iff.2 hne
 have hheap:∀ b,b<w.heap.size→(w.drew.alloc (.cells cs T)).heap[b]?=w.heap[b]?:=fun b hb=>Below.heap_alloc w.drew _ b hb
 have hl:dN w D E (w.drew.alloc (.cells cs T)) D (fun m=>if m=n then some (.rw (some (w.heap.size,cap)) (es.length+ys.length)) else E m):=by
  have en:∀ {m:Nat} {e:bR},E m=some e→e.eO=true→(if m=n then some (.rw (some (w.heap.size,cap)) (es.length+ys.length)) else E m)=some e:=fun {m e} he hfx=>by
   have:m≠n:=fun e=>by rw[e,ar] at he;cases he;cases hfx
   rw[if_neg this];exact he
  refine ⟨fun _ _ h=>h,fun b o v _ hv =>?_,fun m b aR he=>en he rfl,fun m blk' l he =>?_,fun m b he=>en he rfl,fun m b he=>en he rfl,fun b es ck _ hm=>(hheap b (fR hm)).trans hm⟩
  ·rw[World.cell?_of_block (hheap b (World.block_lt_of_cell? w _ hv))];exact hv
  ·by_cases hm:m=n
   ·subst hm
    rw[ar] at he
    simp only[Option.some.injEq,bR.rw.injEq] at he
    exact ⟨_,_,if_pos rfl,by omega,fun e=>by omega⟩
   ·exact ⟨blk',l,by simp only[if_neg hm];exact he,Nat.le_refl _,fun _=>rfl⟩
 refine ⟨h.sz,h.eQ.mono fun B _ hB=>(hheap B (Array.getElem?_eq_some_iff.1 hB).1).trans hB,fun t=>aT.bJ hl (h.dZ t),h.dO.trans ⟨rfl,rfl,rfl,by simp,fun k hk=>hheap k (h.old hk)⟩,h.c5,fun b o hd'=>by have:=h.c9 b o hd';simp;omega,fun m =>?_,?_,fun m e hm =>?_,h.eV,h.cF,h.eX,h.kZ hl⟩
 ·simp only[ab.aN]
  by_cases hm:m=n
  ·subst hm
   simp only[if_true,c8]
   exact ⟨some (w.heap.size,cap),by simp,hr,cs,m',.inl h.dO.size,heap_alloc_new w.drew _,hcs,by simp[hne],by simp only[List.length_append];exact hlen,hcap,fun o ho=>absurd (h.c9 _ o ho) (Nat.lt_irrefl _)⟩
  ·simp only[if_neg hm]
   exact (h.bQ m).bJ hl (by simp only[if_neg hm]) fun e b he hb=>⟨hheap b (h.fQ he hb),fun _ ho=>ho⟩
 ·intro m m' e e' b h1 h2 h3 h4
  by_cases hm:m=n <;>by_cases hm':m'=n
  ·rw[hm,hm']
  ·simp only[if_pos hm,Option.some.injEq] at h1
   simp only[if_neg hm'] at h2
   subst h1
   simp only[bR.aD,Option.some.injEq] at h3
   have:=h.fQ h2 h4
   omega
  ·simp only[if_neg hm] at h1
   simp only[if_pos hm',Option.some.injEq] at h2
   subst h2
   simp only[bR.aD,Option.some.injEq] at h4
   have:=h.fQ h1 h3
   omega
  ·simp only[if_neg hm] at h1
   simp only[if_neg hm'] at h2
   exact h.cS m m' e e' b h1 h2 h3 h4
 ·by_cases hmn:m=n
  ·subst hmn
   rcases h.dR _ _ hm with k | ⟨e',k,hle⟩
   ·rw[ar] at k;cases k
   ·rw[ar] at k;cases k
    exact .inr ⟨_,if_pos rfl,hle.trans (.inr ⟨_,_,_,_,rfl,rfl,by omega,fun e=>by omega⟩)⟩
  ·simp only[if_neg hmn]
   exact h.dR _ _ hm
theorem aS.aj4(h:aS c A a w D E){n:Nat}{T:TypeId}{b cap m':Nat}{es ys:List Int}{cs:Array Value}(hn:A.o n=some (.cM T es))(ar:E n=some (.rw (some (b,cap)) es.length))(hb:w.heap[b]?=some (.cells cs T (0,0)))
  (hr:∀ x∈es++ys,IntKind.i64.min≤x∧x≤IntKind.i64.max) (hne:ys≠[]) (hlen:es.length+ys.length+m'=cap) (hcap:cap≤maxLen) (hD:∀ o,¬ D b o) (hbase:c.fj b) :
  aS c (A.aN n (.cM T (es++ys))) a (w.setRow b ((es++ys++List.replicate m' 0).map (Value.int .i64)).toArray) D (fun m=>if m=n then some (.rw (some (b,cap)) (es.length+ys.length)) else E m):=by
 have hlast:0<ys.length:=List.length_pos_iff.2 hne
 have hl:dN w D E (w.setRow b ((es++ys++List.replicate m' 0).map (Value.int .i64)).toArray) D (fun m=>if m=n then some (.rw (some (b,cap)) (es.length+ys.length)) else E m):=by
  have en:∀ {m:Nat} {e:bR},E m=some e→e.eO=true→(if m=n then some (.rw (some (b,cap)) (es.length+ys.length)) else E m)=some e:=fun {m e} he hfx=>by
   have:m≠n:=fun e=>by rw[e,ar] at he;cases he;cases hfx
   rw[if_neg this];exact he
  refine ⟨fun _ _ h=>h,fun b1 o v hd hv =>?_,fun m b aR he=>en he rfl,fun m blk' l he =>?_,fun m b he=>en he rfl,fun m b he=>en he rfl,fun b1 es ck _ hm=>(setRow_other w b b1 _ (fun e=>by rw[e,hb] at hm;cases hm)).trans hm⟩
  ·by_cases hbb:b1=b
   ·subst hbb
    exact absurd hd (hD o)
   ·rw[vt _ _ _ _ hbb];exact hv
  ·by_cases hm:m=n
   ·subst hm
    rw[ar] at he
    simp only[Option.some.injEq,bR.rw.injEq] at he
    exact ⟨_,_,if_pos rfl,by omega,fun e=>by omega⟩
   ·exact ⟨blk',l,by simp only[if_neg hm];exact he,Nat.le_refl _,fun _=>rfl⟩
 refine ⟨h.sz,h.eQ.mono fun B _ hB=>(setRow_other w b B _ (fun e=>by rw[e,hb] at hB;cases hB)).trans hB,fun t=>aT.bJ hl (h.dZ t),xD h.dO hbase _,h.c5,fun b1 o hd=>by have:=h.c9 b1 o hd;simpa[World.setRow] using this,fun m =>?_,?_,fun m e hm =>?_,h.eV,h.cF,h.eX,h.kZ hl⟩
 ·simp only[ab.aN]
  by_cases hm:m=n
  ·subst hm
   simp only[if_true,c8]
   exact ⟨some (b,cap),by simp,hr,_,m',hbase,setRow_heap w b cs _ T _ hb,by simp,by simp[hne],by simp only[List.length_append];exact hlen,hcap,hD⟩
  ·simp only[if_neg hm]
   refine (h.bQ m).bJ hl (by simp only[if_neg hm]) fun e b1 he hb'=>⟨setRow_other w b b1 _ (fun e1=>hm (h.cS m n e _ b he ar (by rw[hb',e1]) rfl)),fun _ ho=>ho⟩
 ·intro m m' e e' b' h1 h2 h3 h4
  by_cases hm:m=n <;>by_cases hm':m'=n
  ·rw[hm,hm']
  ·simp only[if_pos hm,Option.some.injEq] at h1
   simp only[if_neg hm'] at h2
   subst h1
   exact absurd (h.cS m' n e' _ b' h2 ar h4 h3) hm'
  ·simp only[if_neg hm] at h1
   simp only[if_pos hm',Option.some.injEq] at h2
   subst h2
   exact absurd (h.cS m n e _ b' h1 ar h3 h4) hm
  ·simp only[if_neg hm] at h1
   simp only[if_neg hm'] at h2
   exact h.cS m m' e e' b' h1 h2 h3 h4
 ·by_cases hmn:m=n
  ·subst hmn
   rcases h.dR _ _ hm with k | ⟨e',k,hle⟩
   ·rw[ar] at k;cases k
   ·rw[ar] at k;cases k
    exact .inr ⟨_,if_pos rfl,hle.trans (.inr ⟨_,_,_,_,rfl,rfl,by omega,fun e=>by omega⟩)⟩
  ·simp only[if_neg hmn]
   exact h.dR _ _ hm
end
section
variable {c:cJ} {A:ab} {o:Oper}
theorem W3{t e:TypeId}{s x:Operand}{s' x':aL}{n k sz:Nat}{es ys:List I}{z:I}(ho:o.op=.call { callee:=.builtin .append,args := #[s,x],argTypes := #[t,t] })(ht:c.P.underlying t=some (.slice e))(hs':bG c.P t s=some s')(hx':bG c.P t x=some x')
  (hz:fT c.P e=some z) (hzs:z.size=c.P.cellsOf e) (hpos:0<c.P.cellsOf e) (hs:ae A s'=.own n k) (hn:A.o n=some (.bT e (c.P.cellsOf e) es)) (hk:k=es.length) (hx:ae A x'=.slice sz ys) (hsz:sz=c.P.cellsOf e) (hne:ys≠[])
  (h63:es.length+ys.length≤maxLen) (hby:(es.length+ys.length)*c.P.bytesOf e≤140737488355328) (hd:∀ k,o.dst=some k→k<c.n) :
  iL c A o ((A.aN n (.bT e (c.P.cellsOf e) (es++ys))).aP o.dst (.own n (es.length+ys.length))):=by
 intro a w D E hsim
 obtain ⟨i,zv,hi,hzv,hzr⟩:=l9 hz
 have hci:c.P.cellsOf e=i.size:=by simp[Program.cellsOf,hi]
 have hbi:c.P.bytesOf e=i.bytes:=by simp[Program.bytesOf,hi]
 have hzc:zv.cells.size=i.size:=by
  have:=af.length _ _ (hzr w D E)
  rw[Array.length_toList] at this
  rw[this,hzs,hci]
 subst hk
 have v1:=b9 hsim hs'
 rw[hs] at v1
 have v2:=b9 hsim hx'
 rw[hx] at v2
 obtain ⟨ad,cp,hxv,hc1,hc2,hc3,hc4⟩:=nJ v2
 obtain ⟨b2,off2,news,rfl,hr2,hys⟩:=hc3.resolve_left hne
 have hobj:=hsim.bQ n
 rw[hn] at hobj
 obtain ⟨aD,ar,hesz,hblk⟩:=hobj
 have hnl:news.length=ys.length*i.size:=by rw[aJ.length _ _ hys,I.iJ _ hc4,hsz,hci]
 have hysz:∀ y∈ys,y.size=c.P.cellsOf e:=fun y hy=>by rw[hc4 y hy,hsz]
 have hnews:∀ j v,news[j]?=some v→w.cell? ((⟨b2,off2,none⟩:Addr).add j)=some v:=fun j v hj=>by
  rw[Addr.add_lit];exact (hr2 j v hj).1
 have h1:=aJ.mH _ _ hys
 have hsv:match aD with | none=>a.eval s=.slice none 0 0 | some (b,cap)=>a.eval s=.slice (some ⟨b,0,none⟩) es.length cap:=by
  obtain ⟨cs,q1,q2⟩:=v1
  simp only[af] at q2
  obtain ⟨blk',l,q3,q4,q5,q6⟩:=q2
  rw[ar] at q3
  simp only[Option.some.injEq,bR.rw.injEq] at q3
  obtain ⟨rfl,rfl⟩:=q3
  have q7:=q6 rfl
  simp only[bK,I.isAgg] at q1
  cases aD with
  |none=>simp only at q7 ⊢;rw[q7] at q1;simpa using q1.symm
  |some bc=>simp only at q7 ⊢;rw[q7] at q1;simpa using q1.symm
 have hl0:0<ys.length:=List.length_pos_iff.2 hne
 have h63':=h63
 simp only[maxLen] at h63'
 have run:∀ v' w',(Builtin.append_ #[t,t] o.type #[a.eval s,.slice (some ⟨b2,off2,none⟩) ys.length cp]).run c.P w=.ok v' w'→(execOp a.eval o).run c.P w=.ok (.value v') w':=by
  intro v' w' hr
  unfold execOp
  simp only[ho,resolve,invoke,builtin,Sem.run_bind,Sem.run_pure,Result.andThen_ok,List.map_toArray,List.map_cons,List.map_nil,hxv,hr]
 have put:∀ (w':World) (b cap:Nat) (v':Value),v'=.slice (some ⟨b,0,none⟩) (es.length+ys.length) cap→aS c (A.aN n (.bT e (c.P.cellsOf e) (es++ys))) a w' D (fun m=>if m=n then some (.rw (some (b,cap)) (es.length+ys.length)) else E m) →
   cj c ((A.aN n (.bT e (c.P.cellsOf e) (es++ys))).aP o.dst (.own n (es.length+ys.length))) (a.put o.dst v') w':=by
  rintro w' b cap v' rfl hs2
  refine ⟨D,_,hs2.aP hd ⟨_,by simp[bK,I.isAgg];rfl,?_⟩⟩
  simp only[af,if_true]
  exact ⟨some (b,cap),es.length+ys.length,rfl,Nat.le_refl _,⟨_,_,_,rfl⟩,fun _=>rfl⟩
 cases aD with
 |none =>
  simp only at hblk hsv
  subst hblk
  have hr:=run_append_nil (P:=c.P) w t o.type e i zv ht hi hzv ⟨b2,off2,none⟩ ys.length cp news hnl hnews hl0 (by simp at h63';omega) (by rw[hbi] at hby;simp at hby;omega)
  rw[←hsv] at hr
  have hge:=grownCap_ge w ys.length 0 e
  refine ⟨_,.inl ⟨_,run _ _ hr,put _ w.heap.size (grownCap w ys.length 0 e) _ (by simp) ?_⟩⟩
  refine hsim.DJ (pre:=[]) (news:=news) (rest:=(Builtin.zeroCells zv.cells (grownCap w ys.length 0 e-ys.length)).toList) hn ar (by simp[aJ]) hys hysz hne (by simp) ?_ (by simpa using hge) (grownCap_le_maxLen w ys.length 0 e (by simpa using h63))
  simp only[Array.size_append,List.size_toArray,size_zeroCells,hzc,hnl,hci,←Nat.add_mul]
  congr 1
  omega
 |some bc =>
  obtain ⟨b,cap⟩:=bc
  simp only at hblk hsv
  obtain ⟨cs,pre,rest,k1,k2,k3,k4,k5,k6,k7,k8⟩:=hblk
  have hpl:pre.length=es.length*i.size:=by rw[aJ.length _ _ k4,I.iJ _ hesz,hci]
  by_cases hroom:es.length+ys.length≤cap
  ·have hfit:es.length*i.size+news.length≤cs.size:=by rw[hnl,k5,hci,←Nat.add_mul];exact Nat.mul_le_mul_right _ hroom
   have hr:=run_append_room (P:=c.P) w t o.type e i ht hi b es.length cap cs k2 ⟨b2,off2,none⟩ ys.length cp news hnl hnews h1 hroom hfit
   rw[←hsv] at hr
   refine ⟨_,.inl ⟨_,run _ _ hr,put _ b cap _ rfl ?_⟩⟩
   have e1:cs.toList.take (es.length*i.size)=pre:=by rw[k3,←hpl];exact List.take_left
   have e2:cs.toList.drop (es.length*i.size+news.length)=rest.drop news.length:=by rw[k3,←hpl,←List.drop_drop,List.drop_left]
   rw[e1,e2]
   exact hsim.aj3 hn ar k2 k3 k4 hys hysz hne k5 hroom k7 k8 k1
  ·have holds:∀ j v,pre[j]?=some v→w.cell? ((⟨b,0,none⟩:Addr).add j)=some v:=fun j v hj=>by
    rw[Addr.add_lit,Nat.zero_add,cell_of_row w b j cs e (0,0) k2,←Array.getElem?_toList,k3]
    have:j<pre.length:=(List.getElem?_eq_some_iff.1 hj).1
    rw[List.getElem?_append_left this]
    exact hj
   have hr:=run_append_grow (P:=c.P) w t o.type e i zv ht hi hzv ⟨b,0,none⟩ es.length cap pre hpl holds ⟨b2,off2,none⟩ ys.length cp news hnl hnews (by omega) (by omega) (growslice_fits (by omega) (by rw[←hbi];exact hby))
   rw[←hsv] at hr
   have hge:=grownCap_ge w (es.length+ys.length) cap e
   refine ⟨_,.inl ⟨_,run _ _ hr,put _ w.heap.size (grownCap w (es.length+ys.length) cap e) _ rfl ?_⟩⟩
   refine hsim.DJ (pre:=pre) (news:=news) (rest:=(Builtin.zeroCells zv.cells (grownCap w (es.length+ys.length) cap e-(es.length+ys.length))).toList) hn ar k4 hys hysz hne (by simp) ?_ hge (grownCap_le_maxLen w _ cap e h63)
   simp only[Array.size_append,List.size_toArray,size_zeroCells,hzc,hnl,hpl,hci,←Nat.add_mul]
   congr 1
   omega
theorem W4{t e:TypeId}{s x:Operand}{s' x':aL}{n k sz:Nat}{es ys:List Int}(ho:o.op=.call { callee:=.builtin .append,args := #[s,x],argTypes := #[t,t] })(ht:c.P.underlying t=some (.slice e))(hs':bG c.P t s=some s')(hx':bG c.P t x=some x')
  (hz:fT c.P e=some (.int .i64 0)) (h1c:c.P.cellsOf e=1) (hs:ae A s'=.own n k) (hn:A.o n=some (.cM e es)) (hk:k=es.length) (hx:ae A x'=.slice sz (ys.map (.int .i64))) (hne:ys≠[])
  (h63:es.length+ys.length≤maxLen) (hby:(es.length+ys.length)*c.P.bytesOf e≤140737488355328) (hd:∀ k,o.dst=some k→k<c.n) :
  iL c A o ((A.aN n (.cM e (es++ys))).aP o.dst (.own n (es.length+ys.length))):=by
 intro a w D E hsim
 obtain ⟨i,zv,hi,hzv,hzr⟩:=l9 hz
 have hci:c.P.cellsOf e=i.size:=by simp[Program.cellsOf,hi]
 have hi1:i.size=1:=hci.symm.trans h1c
 have hbi:c.P.bytesOf e=i.bytes:=by simp[Program.bytesOf,hi]
 have hzv2:zv.cells = #[Value.int .i64 0]:=by
  have:zv.cells.toList=[Value.int .i64 0]:=(hzr w D E).1
  exact Array.toList_inj.1 this
 subst hk
 have v1:=b9 hsim hs'
 rw[hs] at v1
 have v2:=b9 hsim hx'
 rw[hx] at v2
 obtain ⟨ad,cp,hxv,hc1,hc2,hc3,hc4⟩:=nJ v2
 obtain ⟨b2,off2,news,rfl,hr2,hys⟩:=hc3.resolve_left (by simpa using hne)
 rw[List.length_map] at hxv
 obtain ⟨aD,ar,hesr,hblk⟩:=hsim.rN hn
 obtain ⟨hnw,hyr⟩:=L5 hys
 have hnl0:news.length=ys.length:=by rw[hnw,List.length_map]
 have hnl:news.length=ys.length*i.size:=by rw[hi1,Nat.mul_one,hnl0]
 have hrr:∀ x∈es++ys,IntKind.i64.min≤x∧x≤IntKind.i64.max:=fun x hx=>by
  rcases List.mem_append.1 hx with h | h
  ·exact hesr x h
  ·exact hyr x h
 have hnews:∀ j v,news[j]?=some v→w.cell? ((⟨b2,off2,none⟩:Addr).add j)=some v:=fun j v hj=>by
  rw[Addr.add_lit];exact (hr2 j v hj).1
 have h1:=aJ.mH _ _ hys
 have hsv:match aD with | none=>a.eval s=.slice none 0 0 | some (b,cap)=>a.eval s=.slice (some ⟨b,0,none⟩) es.length cap:=by
  obtain ⟨cs,q1,q2⟩:=v1
  simp only[af] at q2
  obtain ⟨blk',l,q3,q4,q5,q6⟩:=q2
  rw[ar] at q3
  simp only[Option.some.injEq,bR.rw.injEq] at q3
  obtain ⟨rfl,rfl⟩:=q3
  have q7:=q6 rfl
  simp only[bK,I.isAgg] at q1
  cases aD with
  |none=>simp only at q7 ⊢;rw[q7] at q1;simpa using q1.symm
  |some bc=>simp only at q7 ⊢;rw[q7] at q1;simpa using q1.symm
 have hl0:0<ys.length:=List.length_pos_iff.2 hne
 have h63':=h63
 simp only[maxLen] at h63'
 have run:∀ v' w',(Builtin.append_ #[t,t] o.type #[a.eval s,.slice (some ⟨b2,off2,none⟩) ys.length cp]).run c.P w=.ok v' w'→(execOp a.eval o).run c.P w=.ok (.value v') w':=by
  intro v' w' hr
  unfold execOp
  simp only[ho,resolve,invoke,builtin,Sem.run_bind,Sem.run_pure,Result.andThen_ok,List.map_toArray,List.map_cons,List.map_nil,hxv,hr]
 have put:∀ (w':World) (b cap:Nat) (v':Value),v'=.slice (some ⟨b,0,none⟩) (es.length+ys.length) cap→aS c (A.aN n (.cM e (es++ys))) a w' D (fun m=>if m=n then some (.rw (some (b,cap)) (es.length+ys.length)) else E m) →
   cj c ((A.aN n (.cM e (es++ys))).aP o.dst (.own n (es.length+ys.length))) (a.put o.dst v') w':=by
  rintro w' b cap v' rfl hs2
  refine ⟨D,_,hs2.aP hd ⟨_,by simp[bK,I.isAgg];rfl,?_⟩⟩
  simp only[af,if_true]
  exact ⟨some (b,cap),es.length+ys.length,rfl,Nat.le_refl _,⟨_,_,_,rfl⟩,fun _=>rfl⟩
 cases aD with
 |none =>
  simp only at hblk hsv
  subst hblk
  have hr:=run_append_nil (P:=c.P) w t o.type e i zv ht hi hzv ⟨b2,off2,none⟩ ys.length cp news hnl hnews hl0 (by simp at h63';omega) (by rw[hbi] at hby;simp at hby;omega)
  rw[←hsv] at hr
  have hge:=grownCap_ge w ys.length 0 e
  refine ⟨_,.inl ⟨_,run _ _ hr,put _ w.heap.size (grownCap w ys.length 0 e) _ (by simp) ?_⟩⟩
  refine hsim.DK (m':=grownCap w ys.length 0 e-ys.length) hn ar hrr hne ?_ (by simp;omega) (grownCap_le_maxLen w ys.length 0 e (by simpa using h63))
  rw[hzv2]
  simp only[Array.toList_append,Nl,List.nil_append,List.map_append,hnw]
 |some bc =>
  obtain ⟨b,cap⟩:=bc
  simp only at hblk hsv
  obtain ⟨cs,m,k1,k2,k3,k4,k5,k6,k7⟩:=hblk
  have hcz:cs.size=cap:=by rw[←Array.length_toList,k3];simp;omega
  by_cases hroom:es.length+ys.length≤cap
  ·have hfit:es.length*i.size+news.length≤cs.size:=by rw[hnl,hi1];omega
   have hr:=run_append_room (P:=c.P) w t o.type e i ht hi b es.length cap cs k2 ⟨b2,off2,none⟩ ys.length cp news hnl hnews h1 hroom hfit
   rw[←hsv] at hr
   refine ⟨_,.inl ⟨_,run _ _ hr,put _ b cap _ rfl ?_⟩⟩
   have e0:cs.toList.take (es.length*i.size)++news++cs.toList.drop (es.length*i.size+news.length)=(es++ys++List.replicate (m-ys.length) 0).map (Value.int .i64):=by
    rw[hi1,Nat.mul_one,hnl0,k3,hnw,←List.map_take,←List.map_drop,List.take_left,←List.drop_drop,List.drop_left]
    simp only[List.map_append,List.drop_replicate]
   rw[e0]
   exact hsim.aj4 (m':=m-ys.length) hn ar k2 hrr hne (by omega) k6 k7 k1
  ·have hpl:(es.map (Value.int .i64)).length=es.length*i.size:=by rw[hi1];simp
   have holds:∀ j v,(es.map (Value.int .i64))[j]?=some v→w.cell? ((⟨b,0,none⟩:Addr).add j)=some v:=fun j v hj=>by
    rw[Addr.add_lit,Nat.zero_add,cell_of_row w b j cs e (0,0) k2,←Array.getElem?_toList,k3]
    have:j<(es.map (Value.int .i64)).length:=(List.getElem?_eq_some_iff.1 hj).1
    rw[List.map_append,List.getElem?_append_left this]
    exact hj
   have hr:=run_append_grow (P:=c.P) w t o.type e i zv ht hi hzv ⟨b,0,none⟩ es.length cap (es.map (Value.int .i64)) hpl holds ⟨b2,off2,none⟩ ys.length cp news hnl hnews (by omega) (by omega) (growslice_fits (by omega) (by rw[←hbi];exact hby))
   rw[←hsv] at hr
   have hge:=grownCap_ge w (es.length+ys.length) cap e
   refine ⟨_,.inl ⟨_,run _ _ hr,put _ w.heap.size (grownCap w (es.length+ys.length) cap e) _ rfl ?_⟩⟩
   refine hsim.DK (m':=grownCap w (es.length+ys.length) cap e-(es.length+ys.length)) hn ar hrr hne ?_ (by omega) (grownCap_le_maxLen w _ cap e h63)
   rw[hzv2]
   simp only[Array.toList_append,Nl,List.map_append,hnw]
end
mutual
def I.only(p:Nat→Bool):I→Bool
 | .agg fs | .tuple fs=>I.bP p fs
 | .slice _ es=>I.bP p es
 | .ref x=>x.only p
 | .func _ caps=>I.bP p caps
 | .iface _ v=>v.only p
 | .ptr n _ | .own n _ | .view n _ _ _ _ | .mref n | .dx n=>p n
 | .cU ks vs=>I.bP p ks&&I.bP p vs
 |_=>true
def I.bP(p:Nat→Bool):List I→Bool
 | []=>true
 |x::xs=>x.only p&&I.bP p xs
end
mutual
theorem jR(p:Nat→Bool):∀ x:I,x.br=true→x.only p=true
 | .agg fs,h=>by simp only[I.br,I.only] at *;exact kg p fs h
 | .slice _ es,h=>by simp only[I.br,I.only] at *;exact kg p es h
 | .ref x,h=>by simp only[I.br,I.only] at *;exact jR p x h
 | .func _ caps,h=>by simp only[I.br,I.only] at *;exact kg p caps h
 | .iface _ v,h=>by simp only[I.br,I.only] at *;exact jR p v h
 | .bool _,_ | .int _ _,_ | .cV _,_ | .nilp,_ | .de,_ | .dS,_ | .raw _,_ | .nils _,_ | .c0 _,_=>by simp[I.only]
 | .cU ks vs,h=>by simp only[I.br,I.only,Bool.and_eq_true] at *;exact ⟨kg p ks h.1,kg p vs h.2⟩
 | .ptr _ _,h | .own _ _,h | .view _ _ _ _ _,h | .mref _,h | .dx _,h | .undef,h | .c7,h | .tuple _,h=>by simp[I.br] at h
theorem kg(p:Nat→Bool):∀ xs:List I,I.bU xs=true→I.bP p xs=true
 | [],_=>rfl
 |x::xs,h=>by
  simp only[I.bU,I.bP,Bool.and_eq_true] at *
  exact ⟨jR p x h.1,kg p xs h.2⟩
end
mutual
theorem af.dD{w:World}{D:aQ}{E E':aU}{p:Nat→Bool}(ar:∀ n,p n=true→E' n=E n):∀ (x:I) (cs:List Value),x.only p=true→af w D E x cs→af w D E' x cs
 | .agg fs,cs,ho,hr=>by simp only[af,I.only] at *;exact aJ.dD ar fs cs ho hr
 | .bool b,cs,_,hr=>by simpa only[af] using hr
 | .int k n,cs,_,hr=>by simpa only[af] using hr
 | .cV s,cs,_,hr=>by simpa only[af] using hr
 | .nilp,cs,_,hr=>by simpa only[af] using hr
 | .de,cs,_,hr=>by simpa only[af] using hr
 | .dS,cs,_,hr=>by simpa only[af] using hr
 | .raw _,cs,_,hr=>by simpa only[af] using hr
 | .nils _,cs,_,hr=>by simpa only[af] using hr
 | .c0 _,cs,_,hr=>by simpa only[af] using hr
 | .slice sz es,cs,ho,hr=>by
  simp only[af,I.only] at *
  obtain ⟨a,cap,h1,h2,h3,h4,h5⟩:=hr
  refine ⟨a,cap,h1,h2,h3,?_,h5⟩
  rcases h4 with h4 | ⟨b,off,cs',h6,h7,h8⟩
  ·exact .inl h4
  ·exact .inr ⟨b,off,cs',h6,h7,aJ.dD ar es cs' ho h8⟩
 | .ref x,cs,ho,hr=>by
  simp only[af,I.only] at *
  obtain ⟨b,off,cs',h1,h2,h3⟩:=hr
  exact ⟨b,off,cs',h1,h2,af.dD ar x cs' ho h3⟩
 | .func f caps,cs,ho,hr=>by
  simp only[af,I.only] at *
  obtain ⟨vs,h1,h2⟩:=hr
  exact ⟨vs,h1,aI.dD ar caps vs ho h2⟩
 | .iface t v,cs,ho,hr=>by
  simp only[af,I.only] at *
  obtain ⟨u,cs',h1,h2,h3⟩:=hr
  exact ⟨u,cs',h1,h2,af.dD ar v cs' ho h3⟩
 | .ptr n p,cs,ho,hr=>by
  simp only[af,I.only] at *
  obtain ⟨b,aR,off,h1,h2⟩:=hr
  exact ⟨b,aR,off,(ar n ho).trans h1,h2⟩
 | .own n k,cs,ho,hr=>by
  simp only[af,I.only] at *
  obtain ⟨aD,l,h1,h2⟩:=hr
  exact ⟨aD,l,(ar n ho).trans h1,h2⟩
 | .view n p _ _ _,cs,ho,hr=>by
  simp only[af,I.only] at *
  obtain ⟨b,aR,off,l,h1,h2⟩:=hr
  exact ⟨b,aR,off,l,(ar n ho).trans h1,h2⟩
 | .mref n,cs,ho,hr=>by
  simp only[af,I.only] at *
  obtain ⟨b,h1,h2⟩:=hr
  exact ⟨b,(ar n ho).trans h1,h2⟩
 | .dx n,cs,ho,hr=>by
  simp only[af,I.only] at *
  obtain ⟨b,h1,h2⟩:=hr
  exact ⟨b,(ar n ho).trans h1,h2⟩
 | .cU ks vs,cs,ho,hr=>by
  simp only[af,I.only,Bool.and_eq_true] at *
  obtain ⟨b,es,ck,h1,h2,h3,h4⟩:=hr
  exact ⟨b,es,ck,h1,h2,aI.dD ar ks _ ho.1 h3,aI.dD ar vs _ ho.2 h4⟩
 | .undef,_,_,hr=>by simp only[af] at hr
 | .c7,_,_,hr=>by simp only[af] at hr
 | .tuple _,_,_,hr=>by simp only[af] at hr
theorem aJ.dD{w:World}{D:aQ}{E E':aU}{p:Nat→Bool}(ar:∀ n,p n=true→E' n=E n):∀ (xs:List I) (cs:List Value),I.bP p xs=true→aJ w D E xs cs→aJ w D E' xs cs
 | [],cs,_,hr=>by simpa only[aJ] using hr
 |x::xs,cs,ho,hr=>by
  simp only[aJ,I.bP,Bool.and_eq_true] at *
  obtain ⟨c1,c2,h1,h2,h3⟩:=hr
  exact ⟨c1,c2,h1,af.dD ar x c1 ho.1 h2,aJ.dD ar xs c2 ho.2 h3⟩
theorem aI.dD{w:World}{D:aQ}{E E':aU}{p:Nat→Bool}(ar:∀ n,p n=true→E' n=E n):∀ (xs:List I) (vs:List Value),I.bP p xs=true→aI w D E xs vs→aI w D E' xs vs
 | [],vs,_,hr=>by simpa only[aI] using hr
 |x::xs,vs,ho,hr=>by
  simp only[aI,I.bP,Bool.and_eq_true] at *
  obtain ⟨v,rest,cs,h1,h2,h3,h4⟩:=hr
  exact ⟨v,rest,cs,h1,h2,af.dD ar x cs ho.1 h3,aI.dD ar xs rest ho.2 h4⟩
end
theorem aT.dD{w:World}{D:aQ}{E E':aU}{p:Nat→Bool}(ar:∀ n,p n=true→E' n=E n){x:I}{v:Value}(ho:x.only p=true)(hr:aT w D E x v):aT w D E' x v:=by
 cases x <;>simp only[aT] at * <;>first
  |exact hr
  |(obtain ⟨vs,h1,h2⟩:=hr;exact ⟨vs,h1,aI.dD ar _ _ (by simpa[I.only] using ho) h2⟩)
  |(obtain ⟨cs,h1,h2⟩:=hr;exact ⟨cs,h1,af.dD ar _ _ ho h2⟩)
def ah.only(p:Nat→Bool):ah→Bool
 | .box x=>x.only p
 | .bT _ _ es=>I.bP p es
 | .dL _=>true
 | .cM _ _=>true
 | .ct ks vs | .it ks vs _ _=>I.bP p ks&&I.bP p vs
def bA:List (Nat×Nat)→Nat→Nat
 | [],n=>n
 |(a,b)::r,n=>if n=a then b else bA r n
mutual
def I.aM(ρ:Nat→Nat):I→I
 | .agg fs=>.agg (I.cR ρ fs)
 | .tuple fs=>.tuple (I.cR ρ fs)
 | .slice sz es=>.slice sz (I.cR ρ es)
 | .ref x=>.ref (x.aM ρ)
 | .func f caps=>.func f (I.cR ρ caps)
 | .iface t v=>.iface t (v.aM ρ)
 | .ptr n p=>.ptr (ρ n) p
 | .own n k=>.own (ρ n) k
 | .view n p sz lo k=>.view (ρ n) p sz lo k
 | .mref n=>.mref (ρ n)
 | .dx n=>.dx (ρ n)
 | .cU ks vs=>.cU (I.cR ρ ks) (I.cR ρ vs)
 | .undef=>.undef | .c7=>.c7 | .bool b=>.bool b | .int k n=>.int k n | .cV s=>.cV s
 | .nilp=>.nilp | .de=>.de | .dS=>.dS | .raw u=>.raw u | .nils z=>.nils z | .c0 z=>.c0 z
def I.cR(ρ:Nat→Nat):List I→List I
 | []=>[]
 |x::xs=>x.aM ρ::I.cR ρ xs
end
def ah.aM(ρ:Nat→Nat):ah→ah
 | .box x=>.box (x.aM ρ)
 | .bT T sz es=>.bT T sz (I.cR ρ es)
 | .dL x=>.dL x
 | .cM T xs=>.cM T xs
 | .ct ks vs=>.ct (I.cR ρ ks) (I.cR ρ vs)
 | .it ks vs left cur=>.it (I.cR ρ ks) (I.cR ρ vs) left cur
mutual
theorem rC(ρ:Nat→Nat):∀ x:I,(x.aM ρ).size=x.size
 | .agg fs=>by simp only[I.aM,I.size];exact Mh ρ fs
 | .undef | .c7 | .bool _ | .int _ _ | .cV _ | .nilp | .de | .dS | .raw _ | .nils _ | .c0 _ | .slice _ _ | .tuple _ | .ref _ | .func _ _ | .iface _ _ | .ptr _ _ | .own _ _ | .view _ _ _ _ _ | .mref _ | .dx _ | .cU _ _=>by simp only[I.aM,I.size]
theorem Mh(ρ:Nat→Nat):∀ xs:List I,I.sizes (I.cR ρ xs)=I.sizes xs
 | []=>rfl
 |x::xs=>by simp only[I.cR,I.sizes,rC ρ x,Mh ρ xs]
end
mutual
theorem yz(ρ:Nat→Nat):∀ x:I,(x.aM ρ).aR=x.aR
 | .agg fs=>by simp only[I.aM,I.aR,cO.eh.injEq];exact Mg ρ fs
 | .undef | .c7 | .bool _ | .int _ _ | .cV _ | .nilp | .de | .dS | .raw _ | .nils _ | .c0 _ | .slice _ _ | .tuple _ | .ref _ | .func _ _ | .iface _ _ | .ptr _ _ | .own _ _ | .view _ _ _ _ _ | .mref _ | .dx _ | .cU _ _=>by simp only[I.aM,I.aR]
theorem Mg(ρ:Nat→Nat):∀ xs:List I,I.cT (I.cR ρ xs)=I.cT xs
 | []=>rfl
 |x::xs=>by simp only[I.cR,I.cT,yz ρ x,Mg ρ xs]
end
theorem akP(ρ:Nat→Nat)(x:I):(x.aM ρ).isAgg=x.isAgg:=by cases x <;>simp[I.aM,I.isAgg]
theorem oG(ρ:Nat→Nat)(xs:List I):I.cR ρ xs=xs.map (I.aM ρ):=by
 induction xs with
 |nil=>rfl
 |cons x xs ih=>simp[I.cR,ih]
theorem rD(ρ:Nat→Nat)(xs:List I):(I.cR ρ xs).length=xs.length:=by rw[oG];simp
theorem Mc(ρ:Nat→Nat)(x:I)(v:Value)(cs:List Value):bK (x.aM ρ) v cs=bK x v cs:=by simp only[bK,akP]
mutual
/-- A value,its names put for others that stand for the same. -/
theorem af.aM{w:World}{D:aQ}{E E':aU}{p:Nat→Bool}{ρ:Nat→Nat}(ar:∀ n,p n=true→E' (ρ n)=E n):∀ (x:I) (cs:List Value),x.only p=true→(af w D E' (x.aM ρ) cs↔af w D E x cs)
 | .agg fs,cs,ho=>by simp only[af,I.aM,I.only] at *;exact aJ.aM ar fs cs ho
 | .bool b,cs,_ | .int k n,cs,_ | .cV s,cs,_ | .nilp,cs,_ | .de,cs,_ | .dS,cs,_ | .raw _,cs,_ | .nils _,cs,_ | .c0 _,cs,_ | .undef,cs,_ | .c7,cs,_ | .tuple _,cs,_=>by simp only[af,I.aM]
 | .slice sz es,cs,ho=>by
  simp only[af,I.aM,I.only,rD] at *
  have e1:(I.cR ρ es=[])↔es=[]:=by rw[←List.length_eq_zero_iff,rD,List.length_eq_zero_iff]
  have e2:(∀ e∈I.cR ρ es,e.size=sz)↔∀ e∈es,e.size=sz:=by
   rw[oG]
   constructor
   ·intro h e he
    rw[←rC ρ e];exact h _ (List.mem_map.2 ⟨e,he,rfl⟩)
   ·intro h e he
    obtain ⟨e',he',rfl⟩:=List.mem_map.1 he
    rw[rC];exact h _ he'
  simp only[e1,e2]
  constructor
  ·rintro ⟨a,cap,h1,h2,h3,h4,h5⟩
   refine ⟨a,cap,h1,h2,h3,?_,h5⟩
   rcases h4 with h4 | ⟨b,off,cs',h6,h7,h8⟩
   ·exact .inl h4
   ·exact .inr ⟨b,off,cs',h6,h7,(aJ.aM ar es cs' ho).1 h8⟩
  ·rintro ⟨a,cap,h1,h2,h3,h4,h5⟩
   refine ⟨a,cap,h1,h2,h3,?_,h5⟩
   rcases h4 with h4 | ⟨b,off,cs',h6,h7,h8⟩
   ·exact .inl h4
   ·exact .inr ⟨b,off,cs',h6,h7,(aJ.aM ar es cs' ho).2 h8⟩
 | .ref x,cs,ho=>by
  simp only[af,I.aM,I.only] at *
  constructor
  ·rintro ⟨b,off,cs',h1,h2,h3⟩
   exact ⟨b,off,cs',h1,h2,(af.aM ar x cs' ho).1 h3⟩
  ·rintro ⟨b,off,cs',h1,h2,h3⟩
   exact ⟨b,off,cs',h1,h2,(af.aM ar x cs' ho).2 h3⟩
 | .func f caps,cs,ho=>by
  simp only[af,I.aM,I.only] at *
  constructor
  ·rintro ⟨vs,h1,h2⟩
   exact ⟨vs,h1,(aI.aM ar caps vs ho).1 h2⟩
  ·rintro ⟨vs,h1,h2⟩
   exact ⟨vs,h1,(aI.aM ar caps vs ho).2 h2⟩
 | .iface t v,cs,ho=>by
  simp only[af,I.aM,I.only,Mc] at *
  constructor
  ·rintro ⟨u,cs',h1,h2,h3⟩
   exact ⟨u,cs',h1,h2,(af.aM ar v cs' ho).1 h3⟩
  ·rintro ⟨u,cs',h1,h2,h3⟩
   exact ⟨u,cs',h1,h2,(af.aM ar v cs' ho).2 h3⟩
 | .ptr n p,cs,ho=>by simp only[af,I.aM,I.only] at *;rw[ar n ho]
 | .own n k,cs,ho=>by simp only[af,I.aM,I.only] at *;rw[ar n ho]
 | .view n p _ _ _,cs,ho=>by simp only[af,I.aM,I.only] at *;rw[ar n ho]
 | .mref n,cs,ho=>by simp only[af,I.aM,I.only] at *;rw[ar n ho]
 | .dx n,cs,ho=>by simp only[af,I.aM,I.only] at *;rw[ar n ho]
 | .cU ks vs,cs,ho=>by
  simp only[af,I.aM,I.only,Bool.and_eq_true] at *
  constructor
  ·rintro ⟨b,es,ck,h1,h2,h3,h4⟩
   exact ⟨b,es,ck,h1,h2,(aI.aM ar ks _ ho.1).1 h3,(aI.aM ar vs _ ho.2).1 h4⟩
  ·rintro ⟨b,es,ck,h1,h2,h3,h4⟩
   exact ⟨b,es,ck,h1,h2,(aI.aM ar ks _ ho.1).2 h3,(aI.aM ar vs _ ho.2).2 h4⟩
theorem aJ.aM{w:World}{D:aQ}{E E':aU}{p:Nat→Bool}{ρ:Nat→Nat}(ar:∀ n,p n=true→E' (ρ n)=E n):∀ (xs:List I) (cs:List Value),I.bP p xs=true→(aJ w D E' (I.cR ρ xs) cs↔aJ w D E xs cs)
 | [],cs,_=>by simp only[aJ,I.cR]
 |x::xs,cs,ho=>by
  simp only[aJ,I.cR,I.bP,Bool.and_eq_true] at *
  constructor
  ·rintro ⟨c1,c2,h1,h2,h3⟩
   exact ⟨c1,c2,h1,(af.aM ar x c1 ho.1).1 h2,(aJ.aM ar xs c2 ho.2).1 h3⟩
  ·rintro ⟨c1,c2,h1,h2,h3⟩
   exact ⟨c1,c2,h1,(af.aM ar x c1 ho.1).2 h2,(aJ.aM ar xs c2 ho.2).2 h3⟩
theorem aI.aM{w:World}{D:aQ}{E E':aU}{p:Nat→Bool}{ρ:Nat→Nat}(ar:∀ n,p n=true→E' (ρ n)=E n):∀ (xs:List I) (vs:List Value),I.bP p xs=true→(aI w D E' (I.cR ρ xs) vs↔aI w D E xs vs)
 | [],vs,_=>by simp only[aI,I.cR]
 |x::xs,vs,ho=>by
  simp only[aI,I.cR,I.bP,Bool.and_eq_true,Mc] at *
  constructor
  ·rintro ⟨v,rest,cs,h1,h2,h3,h4⟩
   exact ⟨v,rest,cs,h1,h2,(af.aM ar x cs ho.1).1 h3,(aI.aM ar xs rest ho.2).1 h4⟩
  ·rintro ⟨v,rest,cs,h1,h2,h3,h4⟩
   exact ⟨v,rest,cs,h1,h2,(af.aM ar x cs ho.1).2 h3,(aI.aM ar xs rest ho.2).2 h4⟩
end
theorem aT.aM{w:World}{D:aQ}{E E':aU}{p:Nat→Bool}{ρ:Nat→Nat}(ar:∀ n,p n=true→E' (ρ n)=E n){x:I}{v:Value}(ho:x.only p=true):aT w D E' (x.aM ρ) v↔aT w D E x v:=by
 cases x <;>first
  |(simp only[aT,I.aM];done)
  |(simp only[aT,I.aM,I.only] at ho ⊢
    constructor
    ·rintro ⟨vs,h1,h2⟩;exact ⟨vs,h1,(aI.aM ar _ _ ho).1 h2⟩
    ·rintro ⟨vs,h1,h2⟩;exact ⟨vs,h1,(aI.aM ar _ _ ho).2 h2⟩)
  |(have key:=fun x cs=>af.aM (w:=w) (D:=D) ar x cs
    refine exists_congr fun cs=>and_congr ?_ ?_
    ·first | exact Iff.rfl | simp only[bK,I.aM,I.isAgg]
    ·first | exact key _ cs ho | (have h:=key _ cs ho;simpa only[I.aM] using h))
mutual
/-- Values that read no memory: but they may name objects. -/
def I.cY:I→Bool
 | .agg fs | .tuple fs=>I.jc fs
 | .func _ caps=>I.jc caps
 | .iface _ v=>v.cY
 | .slice _ es=>es.isEmpty
 | .ref _ | .cU _ _=>false
 |_=>true
def I.jc:List I→Bool
 | []=>true
 |x::xs=>x.cY&&I.jc xs
end
def ah.cY:ah→Bool
 | .box x=>x.cY
 | .bT _ _ es=>I.jc es
 | .cM _ _=>true
 | .dL _=>true
 | .ct ks vs=>I.jc ks&&I.jc vs
 | .it .. =>false
mutual
theorem af.cY{w w':World}{D D':aQ}{E:aU} : ∀ (x:I) (cs:List Value),x.cY=true→af w D E x cs→af w' D' E x cs
 | .agg fs,cs,hf,hr=>by simp only[af,I.cY] at *;exact aJ.cY fs cs hf hr
 | .bool b,cs,_,hr | .int k n,cs,_,hr | .cV s,cs,_,hr | .nilp,cs,_,hr | .de,cs,_,hr | .dS,cs,_,hr | .raw _,cs,_,hr | .nils _,cs,_,hr | .c0 _,cs,_,hr
 | .ptr _ _,cs,_,hr | .own _ _,cs,_,hr | .view _ _ _ _ _,cs,_,hr | .mref _,cs,_,hr | .dx _,cs,_,hr=>by simpa only[af] using hr
 | .func f caps,cs,hf,hr=>by
  simp only[af,I.cY] at *
  obtain ⟨vs,h1,h2⟩:=hr
  exact ⟨vs,h1,aI.cY caps vs hf h2⟩
 | .iface t v,cs,hf,hr=>by
  simp only[af,I.cY] at *
  obtain ⟨u,cs',h1,h2,h3⟩:=hr
  exact ⟨u,cs',h1,h2,af.cY v cs' hf h3⟩
 | .slice sz es,cs,hf,hr=>by
  simp only[af,I.cY,List.isEmpty_iff] at *
  subst hf
  obtain ⟨a,cap,h1,h2,h3,_,h5⟩:=hr
  exact ⟨a,cap,h1,h2,h3,.inl rfl,h5⟩
 | .ref _,_,hf,_ | .cU _ _,_,hf,_=>by simp[I.cY] at hf
 | .undef,_,_,hr | .c7,_,_,hr | .tuple _,_,_,hr=>by simp only[af] at hr
theorem aJ.cY{w w':World}{D D':aQ}{E:aU} : ∀ (xs:List I) (cs:List Value),I.jc xs=true→aJ w D E xs cs→aJ w' D' E xs cs
 | [],cs,_,hr=>by simpa only[aJ] using hr
 |x::xs,cs,hf,hr=>by
  simp only[aJ,I.jc,Bool.and_eq_true] at *
  obtain ⟨c1,c2,h1,h2,h3⟩:=hr
  exact ⟨c1,c2,h1,af.cY x c1 hf.1 h2,aJ.cY xs c2 hf.2 h3⟩
theorem aI.cY{w w':World}{D D':aQ}{E:aU} : ∀ (xs:List I) (vs:List Value),I.jc xs=true→aI w D E xs vs→aI w' D' E xs vs
 | [],vs,_,hr=>by simpa only[aI] using hr
 |x::xs,vs,hf,hr=>by
  simp only[aI,I.jc,Bool.and_eq_true] at *
  obtain ⟨v,rest,cs,h1,h2,h3,h4⟩:=hr
  exact ⟨v,rest,cs,h1,h2,af.cY x cs hf.1 h3,aI.cY xs rest hf.2 h4⟩
end
theorem aT.cY{w w':World}{D D':aQ}{E:aU}{x:I}{v:Value}(hf:x.cY=true)(hr:aT w D E x v):aT w' D' E x v:=by
 cases x <;>simp only[aT] at * <;>first
  |exact hr
  |(obtain ⟨vs,h1,h2⟩:=hr;exact ⟨vs,h1,aI.cY _ _ (by simpa[I.cY] using hf) h2⟩)
  |(obtain ⟨cs,h1,h2⟩:=hr;exact ⟨cs,h1,af.cY _ _ hf h2⟩)
def dC(ρ:List (Nat×Nat))(os:List (Nat×ah)):List (Nat×ah):=os.map fun q=>(bA ρ q.1,q.2.aM (bA ρ))
def pre(ρ:List (Nat×Nat))(os:List (Nat×ah))(n:Nat):Option Nat:=(os.find? fun q=>bA ρ q.1==n).map (·.1)
theorem xz{os:List (Nat×ah)}{m:Nat} : ao os m=true↔∃ q∈os,q.1=m:=by
 induction os with
 |nil=>simp[ao,ai]
 |cons q os ih =>
  obtain ⟨k,v⟩:=q
  simp only[ao,ai] at *
  by_cases h:m=k
  ·subst h;simp
  ·simp only[if_neg h,ih,List.mem_cons,Prod.exists,exists_and_right,exists_eq_right]
   constructor
   ·rintro ⟨a,b⟩;exact ⟨a,.inr b⟩
   ·rintro ⟨a,b | b⟩
    ·cases b;exact absurd rfl h
    ·exact ⟨a,b⟩
theorem lV{ρ:List (Nat×Nat)}{os:List (Nat×ah)}{n m:Nat}(h:pre ρ os n=some m):ao os m=true∧bA ρ m=n:=by
 simp only[pre,Option.map_eq_some_iff] at h
 obtain ⟨q,hq,rfl⟩:=h
 exact ⟨xz.2 ⟨q,List.mem_of_find?_eq_some hq,rfl⟩,by simpa using List.find?_some hq⟩
theorem yh{ρ:List (Nat×Nat)}{os:List (Nat×ah)}{n m:Nat}(h:pre ρ os n=none)(hm:ao os m=true):bA ρ m≠n:=by
 simp only[pre,Option.map_eq_none_iff,List.find?_eq_none] at h
 obtain ⟨q,hq,rfl⟩:=xz.1 hm
 simpa using h q hq
theorem q0(ρ:List (Nat×Nat))(os os0:List (Nat×ah))(n:Nat):ai (dC ρ os++os0) n=match pre ρ os n with
  |some m=>(ai os m).map (ah.aM (bA ρ))
  |none=>ai os0 n:=by
 induction os with
 |nil=>simp[dC,pre]
 |cons q os ih =>
  obtain ⟨k,v⟩:=q
  simp only[dC,List.map_cons,List.cons_append,ai,pre,List.find?_cons] at *
  by_cases h:bA ρ k=n
  ·subst h;simp
  ·rw[if_neg (Ne.symm h)]
   have hb:(bA ρ k==n)=false:=by simpa using h
   rw[hb,ih]
   simp only
   cases hf:os.find? (fun q=>bA ρ q.1==n) with
   |none=>rfl
   |some q =>
    simp only[Option.map_some]
    have hq:=List.find?_some hf
    have hne:q.1≠k:=fun e=>h (by rw[←e];simpa using hq)
    rw[if_neg hne]
def ar(ρ:List (Nat×Nat))(os:List (Nat×ah))(E:aU):aU:=fun n=>if ao os n then E (bA ρ n) else none
structure fU (ρ:List (Nat×Nat)) (os os0:List (Nat×ah)):Prop where
 cW:∀ m x,ai os m=some x→ai os0 (bA ρ m)=some (x.aM (bA ρ))∧x.only (ao os)=true∧x.eO=true
 inj:∀ m m',ao os m=true→ao os m'=true→bA ρ m=bA ρ m'→m=m'
structure ev (aB:Bool) (ρ:List (Nat×Nat)) (os os0:List (Nat×ah)) (r:I) (os':List (Nat×ah)):Prop where
 cW:∀ m x,ai os' m=some x→x.only (ao os')=true∧x.eO=true∧(aB=true→x.cY=true)
 inj:∀ m m',ao os' m=true→ao os' m'=true→bA ρ m=bA ρ m'→m=m'
 old:∀ m,ao os m=true→ao os' m=true
 pO:∀ m,ao os' m=true→ao os m=false→ai os0 (bA ρ m)=none∧bA ρ m<1000000
 yA:r.only (ao os')=true∧(aB=true→r.cY=true)
section
variable {c:cJ} {a:Act} {w:World} {D:aQ} {E:aU} {ts:List (Nat×I)} {os0 os:List (Nat×ah)} {ρ:List (Nat×Nat)}
theorem aS.given(hs:aS c (aq ts os0) a w D E)(hg:fU ρ os os0){m:Nat}(hm:ao os m=true):∃ x e,ai os m=some x∧ar ρ os E m=some e∧E (bA ρ m)=some e∧c8 (fun _=>True) w D (ar ρ os E) m (some x) ∧
  ∀ b,e.aD=some b→c.fj b∧(∃ o,w.heap[b]?=some o∧xV o=true)∧b<w.heap.size∧(e.eO=true→∀ o,¬ D b o):=by
 cases hx:ai os m with
 |none=>simp[ao,hx] at hm
 |some x =>
  obtain ⟨h1,h2,h3⟩:=hg.cW m x hx
  have ho:=hs.bQ (bA ρ m)
  simp only[aq] at ho
  rw[h1] at ho
  have hEm:ar ρ os E m=E (bA ρ m):=by simp only[ar,hm,if_true]
  have hin:∀ n,ao os n=true→E (bA ρ n)=ar ρ os E n:=fun n hn=>by simp only[ar,hn,if_true]
  cases x with
  |bT T sz es =>
   obtain ⟨aD,k1,k2,k3⟩:=ho
   rw[rD] at k1
   have h2':I.bP (ao os) es=true:=h2
   have k2':∀ e∈es,e.size=sz:=fun e he=>by rw[←rC (bA ρ) e];exact k2 _ (by rw[oG];exact List.mem_map.2 ⟨e,he,rfl⟩)
   refine ⟨_,_,rfl,hEm.trans k1,k1,⟨aD,hEm.trans k1,k2',?_⟩,fun b hb =>?_⟩
   ·cases aD with
    |none=>simp only[oG,List.map_eq_nil_iff] at k3;exact k3
    |some bc =>
     obtain ⟨b,cap⟩:=bc
     obtain ⟨cs,pr,rest,q1,q2,q3,q4,q5,q6,q7,q8⟩:=k3
     rw[rD] at q6
     exact ⟨cs,pr,rest,trivial,q2,q3,(aJ.aM (p:=ao os) hin es _ h2').1 q4,q5,q6,q7,q8⟩
   ·cases aD with
    |none=>cases hb
    |some bc =>
     obtain ⟨b',cap⟩:=bc
     cases hb
     obtain ⟨cs,pr,rest,q1,q2,_⟩:=k3
     exact ⟨q1,⟨_,q2,rfl⟩,fR q2,fun h=>by cases h⟩
  |box y =>
   obtain ⟨b,cs,T,k1,k2,k3,k4,k5⟩:=ho
   rw[yz] at k1
   refine ⟨_,_,rfl,hEm.trans k1,k1,⟨b,cs,T,hEm.trans k1,trivial,k3,?_,k5⟩,fun b' hb =>?_⟩
   ·exact (af.aM (p:=ao os) hin y _ (by simpa[ah.only] using h2)).1 k4
   ·cases hb;exact ⟨k2,⟨_,k3,rfl⟩,fR k3,fun _=>k5⟩
  |dL o =>
   obtain ⟨b,k1,k2,k3,k4,k5⟩:=ho
   exact ⟨_,_,rfl,hEm.trans k1,k1,⟨b,hEm.trans k1,trivial,k3,k4,k5⟩,fun b' hb=>by cases hb;exact ⟨k2,⟨_,k3,ai2 k4⟩,fR k3,fun _=>k5⟩⟩
  |ct ks vs =>
   obtain ⟨b,es,ck,k1,k2,k3,k4,k5,k6,k7⟩:=ho
   simp only[ah.only,Bool.and_eq_true] at h2
   exact ⟨_,_,rfl,hEm.trans k1,k1,⟨b,es,ck,hEm.trans k1,trivial,k3,k4,(aI.aM (p:=ao os) hin ks _ h2.1).1 k5,(aI.aM (p:=ao os) hin vs _ h2.2).1 k6,k7⟩,
    fun b' hb=>by cases hb;exact ⟨k2,⟨_,k3,rfl⟩,fR k3,fun _=>k7⟩⟩
  |it ks vs left cur=>cases h3
  |cM T xs =>
   obtain ⟨aD,k1,k2,k3⟩:=ho
   refine ⟨_,_,rfl,hEm.trans k1,k1,⟨aD,hEm.trans k1,k2,?_⟩,fun b hb =>?_⟩
   ·cases aD with
    |none=>exact k3
    |some bc =>
     obtain ⟨b,cap⟩:=bc
     obtain ⟨cs,r,q1,q2⟩:=k3
     exact ⟨cs,r,trivial,q2⟩
   ·cases aD with
    |none=>cases hb
    |some bc =>
     obtain ⟨b',cap⟩:=bc
     cases hb
     obtain ⟨cs,r,q1,q2,_⟩:=k3
     exact ⟨q1,⟨_,q2,rfl⟩,fR q2,fun h=>by cases h⟩
theorem aS.sZ(hs:aS c (aq ts os0) a w D E)(hg:fU ρ os os0){b:Nat}(hb:dy (ar ρ os E) b):∃ m e,ao os m=true∧E (bA ρ m)=some e∧e.aD=some b∧c.fj b∧(∃ o,w.heap[b]?=some o∧xV o=true)∧b<w.heap.size:=by
 obtain ⟨m,e,h1,h2⟩:=hb
 by_cases hm:ao os m=true
 ·obtain ⟨x,e',k1,k2,k3,k4,k5⟩:=hs.given hg hm
  rw[k2,Option.some.injEq] at h1
  subst h1
  obtain ⟨q1,q2,q3,_⟩:=k5 b h2
  exact ⟨m,_,hm,k3,h2,q1,q2,q3⟩
 ·simp[ar,hm] at h1
theorem aS.IL(hs:aS c (aq ts os0) a w D E)(hg:fU ρ os os0){D1:aQ}(hD:∀ b o,D b o→D1 b o)(hown:∀ b o,D1 b o→dy (ar ρ os E) b→D b o):lg (fun _=>True) w D1 (ar ρ os E) (ai os):=by
 refine ⟨fun n =>?_,fun n m e e' b h1 h2 h3 h4 =>?_⟩
 ·cases hx:ai os n with
  |none=>simp[c8,ar,ao,hx]
  |some x =>
   have hm:ao os n=true:=by simp[ao,hx]
   obtain ⟨y,e,k1,k2,k3,k4,k5⟩:=hs.given hg hm
   rw[hx,Option.some.injEq] at k1
   subst k1
   refine k4.bJ (E':=ar ρ os E) ⟨hD,fun _ _ _ _ h=>h,fun _ _ _ h=>h,fun _ aD l h=>⟨aD,l,h,Nat.le_refl _,fun _=>rfl⟩,fun _ _ h=>h,fun _ _ h=>h,fun _ _ _ _ h=>h⟩ rfl fun e' b' he hb'=>⟨rfl,fun o ho =>?_⟩
   exact hown b' o ho ⟨n,e',he,hb'⟩
 ·have hn:ao os n=true:=by
   by_cases h:ao os n=true
   ·exact h
   ·simp[ar,h] at h1
  have hm:ao os m=true:=by
   by_cases h:ao os m=true
   ·exact h
   ·simp[ar,h] at h2
  simp only[ar,hn,hm,if_true] at h1 h2
  exact hg.inj n m hn hm (hs.cS _ _ e e' b h1 h2 h3 h4)
theorem aS.m8(hs:aS c (aq ts os0) a w D E)(hg:fU ρ os os0){aB:Bool}{D1:aQ}(hD:∀ b o,D b o→D1 b o)(hbx:aB=false→∀ b o,D1 b o→D b o){w':World}{D':aQ}{E':aU}{v:Value}{r:I}{os':List (Nat×ah)}
  (hb:ev aB ρ os os0 r os') (hr:aT w' D' E' r v) (hh:lg (fun b=>w.heap.size≤b∨dy (ar ρ os E) b) w' D' E' (ai os')) (hk:fK (fun b=>w.heap.size≤b∨dy (ar ρ os E) b) w w')
  (hlive:∀ b o,D' b o→b<w'.heap.size) (hup:∀ b o,D1 b o→D' b o) (hst:iv w D1 w') (hold:∀ b o,D' b o→b<w.heap.size→¬ dy (ar ρ os E) b→D1 b o) (hbox:∀ n e,ar ρ os E n=some e→ao os' n=true→∃ e',E' n=some e'∧e.le e') :
  ∃ D2 E2,aS c (aq ts (dC ρ os'++os0)) a w' D2 E2∧aT w' D2 E2 (r.aM (bA ρ)) v∧∀ m e,ar ρ os E m=some e→ao os' m=true→∃ e',E2 (bA ρ m)=some e'∧e.le e':=by
 obtain ⟨M1,hM1⟩:∃ M1:Nat→Prop,M1=fun b=>w.heap.size≤b∨dy (ar ρ os E) b:=⟨_,rfl⟩
 rw[←hM1] at hh hk
 obtain ⟨D2,hD2⟩:∃ D2:aQ,D2=fun b o=>D b o∨(M1 b∧D' b o):=⟨_,rfl⟩
 obtain ⟨E2,hE2⟩:∃ E2:aU,E2=fun n=>match pre ρ os' n with | some m=>E' m | none=>E n:=⟨_,rfl⟩
 have mD:∀ b,M1 b→c.fj b:=fun b hb'=>by
  rw[hM1] at hb'
  rcases hb' with h | h
  ·exact .inl (Nat.le_trans hs.dO.size h)
  ·obtain ⟨m,e,_,_,_,h3,_⟩:=hs.sZ hg h
   exact h3
 have upD:∀ b o,D b o→D' b o:=fun b o hd=>hup b o (hD b o hd)
 have E2m:∀ m,ao os' m=true→E2 (bA ρ m)=E' m:=fun m hm=>by
  rw[hE2]
  simp only
  cases hp:pre ρ os' (bA ρ m) with
  |none=>exact absurd rfl (yh hp hm)
  |some m' =>
   obtain ⟨h1,h2⟩:=lV hp
   rw[hb.inj m' m h1 hm h2]
 have E2o:∀ n,pre ρ os' n=none→E2 n=E n:=fun n hn=>by rw[hE2];simp only[hn]
 -- a name that has a new meaning: one that was handed over,or one that was free
 have cas:∀ n m,pre ρ os' n=some m→(ao os m=true∧∃ e e',E n=some e∧E' m=some e'∧e.le e')∨(ao os m=false∧E n=none∧c.dE n=none):=fun n m hp=>by
  obtain ⟨h1,h2⟩:=lV hp
  cases hm:ao os m with
  |true =>
   obtain ⟨y,e,k1,k2,k3,_⟩:=hs.given hg hm
   rw[h2] at k3
   obtain ⟨e',q1,q2⟩:=hbox m e k2 h1
   exact .inl ⟨rfl,e,e',k3,q1,q2⟩
  |false =>
   obtain ⟨k1,k2⟩:=hb.pO m h1 hm
   rw[h2] at k1 k2
   have ho:=hs.bQ n
   simp only[aq,k1] at ho
   exact .inr ⟨rfl,ho,hs.j8 (.inr k2)⟩
 have hl:dN w D E w' D2 E2:=by
  have fN:∀ n e,E n=some e→∃ e',E2 n=some e'∧e.le e':=fun n e he=>by
   cases hp:pre ρ os' n with
   |none=>exact ⟨e,by rw[E2o n hp];exact he,.refl e⟩
   |some m =>
    rw[hE2];simp only[hp]
    rcases cas n m hp with ⟨_,e1,e2,k1,k2,k3⟩ | ⟨_,k1,_⟩
    ·rw[he] at k1;cases k1;exact ⟨e2,k2,k3⟩
    ·rw[he] at k1;cases k1
  have keepf:∀ n e,E n=some e→e.eO=true→E2 n=some e:=fun n e he hf=>by
   obtain ⟨e',k1,k2⟩:=fN n e he
   rw[k1,k2.eq hf]
  refine ⟨fun b o h=>by rw[hD2];exact .inl h,fun b o v' hd hv=>hst.cell b o v' (hD b o hd) hv,fun n b aR he=>keepf n _ he rfl,fun n aD l he =>?_,fun n b he=>keepf n _ he rfl,fun n b he=>keepf n _ he rfl,fun b es ck hd hm=>hst.jw b es ck (hD b 0 hd) hm⟩
  obtain ⟨e',k1,k2⟩:=fN n _ he
  rcases k2 with rfl | ⟨_,_,blk',l',e,rfl,k3,k4⟩
  ·exact ⟨aD,l,k1,Nat.le_refl _,fun _=>rfl⟩
  ·cases e;exact ⟨blk',l',k1,k3,k4⟩
 -- blocks of names that were not handed over
 have other:∀ n e b,pre ρ os' n=none→E n=some e→e.aD=some b→¬ M1 b:=fun n e b hp he hb' hm=>by
  rw[hM1] at hm
  rcases hm with h | h
  ·exact absurd (hs.fQ he hb') (by omega)
  ·obtain ⟨m,e',h1,h2,h3,_⟩:=hs.sZ hg h
   have:=hs.cS n (bA ρ m) e _ b he h2 hb' h3
   exact yh hp (hb.old m h1) this.symm
 have toD2:∀ {x:I} {cs:List Value},(aB=true→x.cY=true)→af w' D' E2 x cs→af w' D2 E2 x cs:=fun {x cs} hx h=>by
  cases hbb:aB with
  |true=>exact af.cY x cs (hx hbb) h
  |false =>
   refine af.bJ (E:=E2) ⟨fun b o hd =>?_,fun _ _ _ _ h=>h,fun _ _ _ h=>h,fun _ aD l h=>⟨aD,l,h,Nat.le_refl _,fun _=>rfl⟩,fun _ _ h=>h,fun _ _ h=>h,fun _ _ _ _ h=>h⟩ x cs h
   rw[hD2]
   by_cases hm:M1 b
   ·exact .inr ⟨hm,hd⟩
   ·rw[hM1] at hm
    exact .inl (hbx hbb b o (hold b o hd (Nat.lt_of_not_le fun h=>hm (.inl h)) fun h=>hm (.inr h)))
 have toD2c:∀ {xs:List I} {cs:List Value},I.bP (ao os') xs=true→(aB=true→I.jc xs=true)→aJ w' D' E' xs cs→aJ w' D2 E2 (I.cR (bA ρ) xs) cs:=fun {xs cs} ho hx h=>by
  cases hbb:aB with
  |true=>exact (aJ.aM (w:=w') (D:=D2) (p:=ao os') (ρ:=bA ρ) (E:=E') (E':=E2) (fun n hn=>E2m n hn) xs cs ho).2 (aJ.cY xs cs (hx hbb) h)
  |false =>
   have h2:=(aJ.aM (w:=w') (D:=D') (p:=ao os') (ρ:=bA ρ) (E:=E') (E':=E2) (fun n hn=>E2m n hn) xs cs ho).2 h
   refine aJ.bJ (E:=E2) ⟨fun b o hd =>?_,fun _ _ _ _ h=>h,fun _ _ _ h=>h,fun _ aD l h=>⟨aD,l,h,Nat.le_refl _,fun _=>rfl⟩,fun _ _ h=>h,fun _ _ h=>h,fun _ _ _ _ h=>h⟩ _ cs h2
   rw[hD2]
   by_cases hm:M1 b
   ·exact .inr ⟨hm,hd⟩
   ·rw[hM1] at hm
    exact .inl (hbx hbb b o (hold b o hd (Nat.lt_of_not_le fun h=>hm (.inl h)) fun h=>hm (.inr h)))
 have toD2s:∀ {xs:List I} {cs:List Value},I.bP (ao os') xs=true→(aB=true→I.jc xs=true)→aI w' D' E' xs cs→aI w' D2 E2 (I.cR (bA ρ) xs) cs:=fun {xs cs} ho hx h=>by
  cases hbb:aB with
  |true=>exact (aI.aM (w:=w') (D:=D2) (p:=ao os') (ρ:=bA ρ) (E:=E') (E':=E2) (fun n hn=>E2m n hn) xs cs ho).2 (aI.cY xs cs (hx hbb) h)
  |false =>
   have h2:=(aI.aM (w:=w') (D:=D') (p:=ao os') (ρ:=bA ρ) (E:=E') (E':=E2) (fun n hn=>E2m n hn) xs cs ho).2 h
   refine aI.bJ (E:=E2) ⟨fun b o hd =>?_,fun _ _ _ _ h=>h,fun _ _ _ h=>h,fun _ aD l h=>⟨aD,l,h,Nat.le_refl _,fun _=>rfl⟩,fun _ _ h=>h,fun _ _ h=>h,fun _ _ _ _ h=>h⟩ _ cs h2
   rw[hD2]
   by_cases hm:M1 b
   ·exact .inr ⟨hm,hd⟩
   ·rw[hM1] at hm
    exact .inl (hbx hbb b o (hold b o hd (Nat.lt_of_not_le fun h=>hm (.inl h)) fun h=>hm (.inr h)))
 refine ⟨D2,E2,⟨hs.sz,hs.eQ.mono fun B _ hB =>?_,fun t=>aT.bJ hl (hs.dZ t),hs.dO.trans ⟨hk.os,hk.tape,hk.output,hk.size,fun k hk'=>hk.block k fun h=>hk' (mD k h)⟩,fun b o hd hm =>?_,fun b o hd =>?_,fun n =>?_,?_,fun n e hn =>?_,hs.eV,
  fun b o hd=>hl.c5 b o (hs.cF b o hd),hs.eX,hs.kZ hl⟩,?_,fun m e k1 k3=>by rw[E2m m k3];exact hbox m e k1 k3⟩
 ·refine (hk.block B fun hm =>?_).trans hB
  rw[hM1] at hm
  rcases hm with h | h
  ·exact absurd (Array.getElem?_eq_some_iff.1 hB).1 (by omega)
  ·obtain ⟨m,e,_,_,_,_,⟨o,h4,h5⟩,_⟩:=hs.sZ hg h
   rw[hB] at h4;cases h4
   cases h5
 ·rw[hD2] at hd
  rcases hd with hd | ⟨h1,_⟩
  ·exact hs.c5 b o hd hm
  ·exact absurd (mD b h1) hm
 ·rw[hD2] at hd
  rcases hd with hd | ⟨_,h1⟩
  ·exact Nat.lt_of_lt_of_le (hs.c9 b o hd) hk.size
  ·exact hlive b o h1
 ·simp only[aq,q0]
  cases hp:pre ρ os' n with
  |none =>
   simp only
   refine (hs.bQ n).bJ hl (E2o n hp) fun e b he hb'=>⟨hk.block b (other n e b hp he hb'),fun o ho =>?_⟩
   rw[hD2] at ho
   rcases ho with ho | ⟨h1,_⟩
   ·exact ho
   ·exact absurd h1 (other n e b hp he hb')
  |some m =>
   simp only
   obtain ⟨h1,h2⟩:=lV hp
   cases hx:ai os' m with
   |none=>simp[ao,hx] at h1
   |some x =>
    obtain ⟨k1,kf,k2⟩:=hb.cW m x hx
    have ho:=hh.bQ m
    rw[hx] at ho
    have noD:∀ b,(∀ o,¬ D' b o)→∀ o,¬ D2 b o:=fun b hno o ho=>by
     rw[hD2] at ho
     rcases ho with ho | ⟨_,ho⟩
     ·exact hno o (upD b o ho)
     ·exact hno o ho
    cases x with
    |bT T sz es =>
     obtain ⟨aD,q1,q2,q3⟩:=ho
     simp only[Option.map_some,ah.aM,c8,rD]
     refine ⟨aD,by rw[←h2,E2m m h1];exact q1,fun e he =>?_,?_⟩
     ·rw[oG] at he
      obtain ⟨e',he',rfl⟩:=List.mem_map.1 he
      rw[rC];exact q2 e' he'
     ·cases aD with
      |none=>simp only at q3 ⊢;rw[q3];rfl
      |some bc =>
       obtain ⟨b,cap⟩:=bc
       obtain ⟨cs,pr,rest,g1,g2,g3,g4,g5,g6,g7,g8⟩:=q3
       refine ⟨cs,pr,rest,mD b g1,g2,g3,toD2c (by simpa[ah.only] using k1) (fun h=>by simpa[ah.cY] using k2 h) g4,g5,g6,g7,fun o ho =>?_⟩
       rw[hD2] at ho
       rcases ho with ho | ⟨_,ho⟩
       ·exact g8 o (upD b o ho)
       ·exact g8 o ho
    |cM T xs =>
     obtain ⟨aD,q1,q2,q3⟩:=ho
     simp only[Option.map_some,ah.aM,c8]
     refine ⟨aD,by rw[←h2,E2m m h1];exact q1,q2,?_⟩
     cases aD with
     |none=>exact q3
     |some bc =>
      obtain ⟨b,cap⟩:=bc
      obtain ⟨cs,r,g1,g2,g3,g4,g5,g6,g7⟩:=q3
      exact ⟨cs,r,mD b g1,g2,g3,g4,g5,g6,noD b g7⟩
    |dL x =>
     obtain ⟨b,q1,q2,q3,q4,q5⟩:=ho
     simp only[Option.map_some,ah.aM,c8]
     exact ⟨b,by rw[←h2,E2m m h1];exact q1,mD b q2,q3,q4,noD b q5⟩
    |it ks vs left cur=>cases kf
    |ct ks vs =>
     obtain ⟨b,es,ck,q1,q2,q3,q4,q5,q6,q7⟩:=ho
     simp only[Option.map_some,ah.aM,c8]
     simp only[ah.only,Bool.and_eq_true] at k1
     simp only[ah.cY,Bool.and_eq_true] at k2
     exact ⟨b,es,ck,by rw[←h2,E2m m h1];exact q1,mD b q2,q3,q4,toD2s k1.1 (fun h=>(k2 h).1) q5,toD2s k1.2 (fun h=>(k2 h).2) q6,noD b q7⟩
    |box y =>
     obtain ⟨b,cs,T,q1,q2,q3,q4,q5⟩:=ho
     simp only[Option.map_some,ah.aM,c8]
     refine ⟨b,cs,T,by rw[yz,←h2,E2m m h1];exact q1,mD b q2,q3,?_,noD b q5⟩
     have h3:=(af.aM (w:=w') (D:=D') (p:=ao os') (ρ:=bA ρ) (E:=E') (E':=E2) (fun n hn=>E2m n hn) y cs.toList (by simpa[ah.only] using k1)).2 q4
     cases hbb:aB with
     |true =>
      have h4:af w' D2 E' y cs.toList:=af.cY y _ (k2 hbb) q4
      exact (af.aM (w:=w') (D:=D2) (p:=ao os') (ρ:=bA ρ) (E:=E') (E':=E2) (fun n hn=>E2m n hn) y cs.toList (by simpa[ah.only] using k1)).2 h4
     |false=>exact toD2 (fun h=>by rw[hbb] at h;cases h) h3
 ·intro n m e e' b h1 h2 h3 h4
  have blk':∀ n m e,pre ρ os' n=some m→E2 n=some e→e.aD=some b→M1 b∧E' m=some e:=fun n m e hp he hb'=>by
   obtain ⟨k1,k2⟩:=lV hp
   rw[←k2,E2m m k1] at he
   cases hx:ai os' m with
   |none=>simp[ao,hx] at k1
   |some x =>
    obtain ⟨_,kf,_⟩:=hb.cW m x hx
    have ho:=hh.bQ m
    rw[hx] at ho
    cases x with
    |bT T sz es =>
     obtain ⟨aD,q1,q2,q3⟩:=ho
     rw[q1,Option.some.injEq] at he
     subst he
     cases aD with
     |none=>cases hb'
     |some bc =>
      obtain ⟨b',cap⟩:=bc
      cases hb'
      obtain ⟨cs,pr,rest,g1,_⟩:=q3
      exact ⟨g1,q1⟩
    |it ks vs left cur=>cases kf
    |cM T xs =>
     obtain ⟨aD,q1,q2,q3⟩:=ho
     rw[q1,Option.some.injEq] at he
     subst he
     cases aD with
     |none=>cases hb'
     |some bc =>
      obtain ⟨b',cap⟩:=bc
      cases hb'
      obtain ⟨cs,r,g1,_⟩:=q3
      exact ⟨g1,q1⟩
    |ct ks vs =>
     obtain ⟨b',es,ck,q1,q2,_⟩:=ho
     rw[q1,Option.some.injEq] at he
     subst he
     cases hb'
     exact ⟨q2,q1⟩
    |dL x =>
     obtain ⟨b',q1,q2,_⟩:=ho
     rw[q1,Option.some.injEq] at he
     subst he
     cases hb'
     exact ⟨q2,q1⟩
    |box y =>
     obtain ⟨b',cs,T,q1,q2,_⟩:=ho
     rw[q1,Option.some.injEq] at he
     subst he
     cases hb'
     exact ⟨q2,q1⟩
  cases hn:pre ρ os' n with
  |none =>
   have g1:E n=some e:=by rw[←E2o n hn];exact h1
   cases hm:pre ρ os' m with
   |none=>exact hs.cS n m e e' b g1 (by rw[←E2o m hm];exact h2) h3 h4
   |some m'=>exact absurd (blk' m m' e' hm h2 h4).1 (other n e b hn g1 h3)
  |some n' =>
   have g1:=blk' n n' e hn h1 h3
   cases hm:pre ρ os' m with
   |none=>exact absurd g1.1 (other m e' b hm (by rw[←E2o m hm];exact h2) h4)
   |some m' =>
    have g2:=blk' m m' e' hm h2 h4
    have:=hh.cS n' m' e e' b g1.2 g2.2 h3 h4
    rw[←(lV hn).2,←(lV hm).2,this]
 ·cases hp:pre ρ os' n with
  |none=>rw[E2o n hp];exact hs.dR n e hn
  |some m =>
   rcases cas n m hp with ⟨_,e1,e2,k1,k2,k3⟩ | ⟨_,_,k1⟩
   ·rcases hs.dR n e hn with h | ⟨e3,h,h'⟩
    ·rw[h] at k1;cases k1
    ·rw[k1,Option.some.injEq] at h
     subst h
     right
     rw[hE2];simp only[hp];exact ⟨e2,k2,h'.trans k3⟩
   ·rw[hn] at k1;cases k1
 ·have h3:=(aT.aM (w:=w') (p:=ao os') (ρ:=bA ρ) (E:=E') (E':=E2) (D:=D') (fun n hn=>E2m n hn) (v:=v) hb.yA.1).2 hr
  cases hbb:aB with
  |true=>exact (aT.aM (w:=w') (p:=ao os') (ρ:=bA ρ) (E:=E') (E':=E2) (D:=D2) (fun n hn=>E2m n hn) (v:=v) hb.yA.1).2 (aT.cY (hb.yA.2 hbb) hr)
  |false =>
   refine aT.bJ (E:=E2) ⟨fun b o hd =>?_,fun _ _ _ _ h=>h,fun _ _ _ h=>h,fun _ aD l h=>⟨aD,l,h,Nat.le_refl _,fun _=>rfl⟩,fun _ _ h=>h,fun _ _ h=>h,fun _ _ _ _ h=>h⟩ h3
   rw[hD2]
   by_cases hm:M1 b
   ·exact .inr ⟨hm,hd⟩
   ·rw[hM1] at hm
    exact .inl (hbx hbb b o (hold b o hd (Nat.lt_of_not_le fun h=>hm (.inl h)) fun h=>hm (.inr h)))
end
theorem uD(z:Array Value):∀ n:Nat,(Builtin.zeroCells z n).toList=(List.replicate n z.toList).flatten
 |0=>by simp[Builtin.zeroCells]
 |n+1=>by
  rw[List.replicate_succ,List.flatten_cons,←uD z n]
  apply List.ext_getElem?
  intro i
  by_cases hz:z.size=0
  ·have hz':z = #[]:=Array.eq_empty_of_size_eq_zero hz
   subst hz'
   simp[Builtin.zeroCells]
  have hpos:0<z.size:=Nat.pos_of_ne_zero hz
  by_cases hi:i<z.toList.length
  ·rw[List.getElem?_append_left hi]
   have hi':i<z.size:=by simpa using hi
   have h1:i<(n+1)*z.size:=by rw[Nat.succ_mul];omega
   simp only[Builtin.zeroCells,Array.toList_map,Array.toList_range,List.getElem?_map,List.getElem?_range h1,Option.map_some,Nat.mod_eq_of_lt hi']
   simp[hi']
  ·rw[List.getElem?_append_right (by omega)]
   have hi':z.size≤i:=by simpa using hi
   simp only[Builtin.zeroCells,Array.toList_map,Array.toList_range,List.getElem?_map,Array.length_toList]
   by_cases h2:i<(n+1)*z.size
   ·have h3:i-z.size<n*z.size:=by rw[Nat.succ_mul] at h2;omega
    rw[List.getElem?_range h2,List.getElem?_range h3]
    simp only[Option.map_some]
    rw[←Nat.mod_eq_sub_mod hi']
   ·have h3:¬ i-z.size<n*z.size:=by rw[Nat.succ_mul] at h2;omega
    rw[List.getElem?_eq_none (by simpa using h2),List.getElem?_eq_none (by simpa using h3)]
theorem rz{w:World}{D:aQ}{E:aU}{z:I}{cs:List Value}(h:af w D E z cs):∀ n:Nat,aJ w D E (List.replicate n z) (List.replicate n cs).flatten
 |0=>by simp[aJ]
 |n+1=>by
  simp only[List.replicate_succ,List.flatten_cons,aJ]
  exact ⟨cs,_,rfl,h,rz h n⟩
def eC(A:ab)(sz:Nat):I→Option (List I)
 | .slice z es=>if z=sz then some es else none
 | .nils _=>some []
 | .c0 _=>some []
 | .own n l=>match A.o n with
  |some (.bT _ z es)=>if l=es.length∧z=sz then some es else none
  |_=>none
 | .view n p z lo k=>match cu A (.ptr n p) with
  |some (.agg fs)=>if lo+k≤fs.length∧z=sz then some ((fs.drop lo).take k) else none
  |_=>none
 |_=>none
section
variable {c:cJ} {A:ab} {a:Act} {w:World} {D:aQ} {E:aU}
theorem aS.view(h:aS c A a w D E){n:Nat}{p:List Nat}{sz lo k:Nat}{v:Value}{fs:List I}(hv:aT w D E (.view n p sz lo k) v)(hx:cu A (.ptr n p)=some (.agg fs)) :
  ∃ y b cs T off c1 c2 c3,A.o n=some (.box y)∧E n=some (.aB b y.aR)∧w.heap[b]?=some (.cells cs T (0,0))∧y.at p=some (.agg fs)∧y.aR.off p=some off∧cs.toList=c1++c2++c3∧c1.length=off∧aJ w D E fs c2 ∧
   af w D E y cs.toList∧(∀ f∈fs,f.size=sz)∧lo+k≤fs.length∧fs.length≤maxLen∧v=.slice (some ⟨b,off+lo*sz,none⟩) k (fs.length-lo):=by
 obtain ⟨z,b',cs',T,off',c1,c2,c3,k1,k2,_,k3,k4,k5,k6,k7,k8,k9,_⟩:=h.at hx
 obtain ⟨vs,g1,g2⟩:=hv
 simp only[af] at g2
 obtain ⟨b,aR,off,l,h1,h2,h3,h4,h5,h6,h7⟩:=g2
 rw[k2] at h1
 simp only[Option.some.injEq,bR.aB.injEq] at h1
 obtain ⟨rfl,rfl⟩:=h1
 rw[k5,Option.some.injEq] at h2
 subst h2
 rw[mU p z _ k4] at h3
 simp only[I.aR,Option.some.injEq,cO.eh.injEq] at h3
 subst h3
 rw[I.dq,List.length_map] at h4 h5 h6
 refine ⟨z,b',cs',T,off',c1,c2,c3,k1,k2,k3,k4,k5,k6,k7,by simpa only[af] using k8,k9,MD h7,h6,h5,?_⟩
 simpa[bK,I.isAgg,h4] using g1.symm
theorem aS.nL(h:aS c A a w D E){sz:Nat}{x:I}{v:Value}{ys:List I}(hv:aT w D E x v)(hs:eC A sz x=some ys) :
  ∃ ad cp news,v=.slice ad ys.length cp∧ys.length≤cp∧cp≤maxLen∧aJ w D E ys news∧(∀ y∈ys,y.size=sz)∧(ys≠[]→∃ b o,ad=some ⟨b,o,none⟩∧∀ j u,news[j]?=some u→w.cell? ⟨b,o+j,none⟩=some u):=by
 cases x <;>simp only[eC] at hs <;>try (cases hs;done)
 case nils z =>
  simp only[Option.some.injEq] at hs;subst hs
  obtain ⟨cs,q1,q2⟩:=hv
  simp only[af] at q2
  exact ⟨none,0,[],by simpa[bK,I.isAgg,q2] using q1.symm,by simp,by simp[maxLen],by simp[aJ],by simp,fun h=>absurd rfl h⟩
 case c0 z =>
  simp only[Option.some.injEq] at hs;subst hs
  obtain ⟨cs,q1,q2⟩:=hv
  simp only[af] at q2
  obtain ⟨ad,q2⟩:=q2
  exact ⟨ad,0,[],by simpa[bK,I.isAgg,q2] using q1.symm,by simp,by simp[maxLen],by simp[aJ],by simp,fun h=>absurd rfl h⟩
 case slice z es =>
  split at hs
  ·rename_i hz
   simp only[Option.some.injEq] at hs;subst hs hz
   obtain ⟨ad,cap,e1,e2,e3,e4,e5⟩:=nJ hv
   rcases e4 with rfl | ⟨b,off,cs,rfl,q1,q2⟩
   ·exact ⟨ad,cap,[],e1,e2,e3,by simp[aJ],by simp,fun h=>absurd rfl h⟩
   ·exact ⟨_,cap,cs,e1,e2,e3,q2,e5,fun _=>⟨b,off,rfl,fun j u hj=>(q1 j u hj).1⟩⟩
  ·cases hs
 case own n l =>
  split at hs
  ·rename_i T z es hn
   split at hs
   ·rename_i hz
    obtain ⟨hz1,rfl⟩:=hz
    simp only[Option.some.injEq] at hs;subst hs
    obtain ⟨aD,k1,k2,k3⟩:=h.bT hn
    obtain ⟨cs,q1,q2⟩:=hv
    simp only[af] at q2
    obtain ⟨blk',l',g1,g2,_,g4⟩:=q2
    rw[k1] at g1
    simp only[Option.some.injEq,bR.rw.injEq] at g1
    obtain ⟨rfl,rfl⟩:=g1
    replace g4:=g4 hz1
    cases aD with
    |none =>
     simp only at k3 g4
     subst k3
     have hv':v=.slice none 0 0:=by rw[g4] at q1;simpa[bK,I.isAgg] using q1.symm
     exact ⟨none,0,[],hv',by simp,by simp[maxLen],by simp[aJ],by simp,fun h=>absurd rfl h⟩
    |some bc =>
     obtain ⟨b,cap⟩:=bc
     simp only at g4
     obtain ⟨cs',pre,rest,k4,k5,k6,k7,k8,k9,k10,k11⟩:=k3
     refine ⟨some ⟨b,0,none⟩,cap,pre,by rw[←hz1];simpa[bK,I.isAgg,g4] using q1.symm,k9,k10,k7,k2,fun _=>⟨b,0,rfl,fun j u hj =>?_⟩⟩
     have:=(oD (D:=fun _ _=>True) (c1:=[]) (c2:=pre) (c3:=rest) k5 (by simpa using k6) (fun _ _=>trivial)) j u hj
     simpa using this.1
   ·cases hs
  ·cases hs
 case view n p z lo k =>
  split at hs
  ·rename_i fs hx
   split at hs
   ·rename_i hk
    obtain ⟨hk,rfl⟩:=hk
    simp only[Option.some.injEq] at hs;subst hs
    obtain ⟨y,b,cs,T,off,c1,c2,c3,k1,k2,k3,k4,k5,k6,k7,k8,k9,k10,k11,k12,rfl⟩:=h.view hv hx
    obtain ⟨d1,d2,d3,rfl,q1,q2,q3⟩:=tZ k8 k10 lo k hk
    have hlen:((fs.drop lo).take k).length=k:=by rw[List.length_take,List.length_drop];omega
    refine ⟨some ⟨b,off+lo*z,none⟩,fs.length-lo,d2,by rw[hlen],by rw[hlen];omega,by omega,q2,fun y hy=>k10 y (List.mem_of_mem_drop (List.mem_of_mem_take hy)),fun _=>⟨b,_,rfl,fun j u hj =>?_⟩⟩
    have:=(oD (D:=fun _ _=>True) (c1:=c1++d1) (c2:=d2) (c3:=d3++c3) k3 (by rw[k6];simp) (fun _ _=>trivial)) j u hj
    rw[List.length_append,k7,q1] at this
    exact this.1
   ·cases hs
  ·cases hs
theorem aS.iI(h:aS c A a w D E){n:Nat}{p:List Nat}{sz j:Nat}{y:I}{fs ys:List I}{b off:Nat}{cs:Array Value}{T:TypeId}{c1 c2 c3 ds:List Value}(hn:A.o n=some (.box y))(ar:E n=some (.aB b y.aR))(hb:w.heap[b]?=some (.cells cs T (0,0)))
  (hat:y.at p=some (.agg fs)) (hoff:y.aR.off p=some off) (hcs:cs.toList=c1++c2++c3) (hc1:c1.length=off) (hfs:aJ w D E fs c2) (hy:af w D E y cs.toList) (hsz:∀ f∈fs,f.size=sz) (hys:aJ w D E ys ds) (hj:j+ys.length≤fs.length)
  (hsh:I.cT ys=I.cT ((fs.drop j).take ys.length)) (P:Program) :
  ∃ w',(storeCells ⟨b,off+j*sz,none⟩ ds 0).run P w=.ok () w'∧aS c (A.aN n (.box (y.dH p (.agg (fs.take j++(ys++fs.drop (j+ys.length))))))) a w' D E:=by
 obtain ⟨d1,d2,d3,rfl,q1,q2,q3⟩:=tZ hfs hsz j ys.length hj
 have hd1:aJ w D E (fs.take j) d1:=by
  have e1:fs=fs.take j++fs.drop j:=(List.take_append_drop j fs).symm
  rw[e1] at hfs
  obtain ⟨e1,e2,he,k1,k2⟩:=tY _ _ _ hfs
  have hl:e1.length=d1.length:=by
   rw[aJ.length _ _ k1,I.iJ _ (fun x hx=>hsz x (List.mem_of_mem_take hx)),q1,List.length_take];congr 1;omega
  have:e1=d1:=by
   have:=congrArg (List.take d1.length) he
   rw[List.take_left,←hl,List.take_left] at this
   exact this.symm
  rw[←this];exact k1
 have hlen:ds.length=d2.length:=by rw[aJ.length _ _ hys,aJ.length _ _ q2,←I.mV,←I.mV,hsh]
 have hds:af w D E (.agg (fs.take j++(ys++fs.drop (j+ys.length)))) (d1++(ds++d3)):=by
  simp only[af]
  refine ki _ _ _ _ hd1 (ki _ _ _ _ hys ?_)
  rw[List.drop_drop] at q3
  exact q3
 have hshape:(I.agg (fs.take j++(ys++fs.drop (j+ys.length)))).aR=(I.agg fs).aR:=by
  simp only[I.aR,cO.eh.injEq,I.dq,List.map_append]
  rw[←I.dq ys,hsh,I.dq,←List.map_append,←List.map_append]
  congr 1
  rw[←List.drop_drop,List.take_append_drop,List.take_append_drop]
 obtain ⟨off',g1,g2,g3,g4⟩:=tW p y _ _ _ _ hy hat hds hshape
 rw[hoff,Option.some.injEq] at g1
 subst g1
 have hst:=run_storeCells_at P b (off+j*sz) T ds 0 cs w hb (by
  have:cs.size=cs.toList.length:=by simp
  rw[this,hcs];simp only[List.length_append];omega) (aJ.mH _ _ hys)
 simp only[Nat.add_zero] at hst
 refine ⟨_,hst,?_⟩
 refine h.Mz hn ar g4 ?_
 have e:cs.toList.take (off+j*sz)++ds++cs.toList.drop (off+j*sz+ds.length)=cs.toList.take off++(d1++(ds++d3))++cs.toList.drop (off+(d1++(ds++d3)).length):=by
  rw[hcs]
  have t1:(c1++(d1++(d2++d3))++c3).take (off+j*sz)=c1++d1:=by
   rw[←hc1,←q1,List.append_assoc,List.take_length_add_append,List.append_assoc,List.take_left]
  have t2:(c1++(d1++(d2++d3))++c3).drop (off+j*sz+ds.length)=d3++c3:=by
   rw[←hc1,←q1,hlen,List.append_assoc,Nat.add_assoc,List.drop_length_add_append,List.append_assoc,List.drop_length_add_append,List.append_assoc,List.drop_left]
  have t3:(c1++(d1++(d2++d3))++c3).take off=c1:=by rw[←hc1,List.append_assoc,List.take_left]
  have t4:(c1++(d1++(d2++d3))++c3).drop (off+(d1++(ds++d3)).length)=c3:=by
   have:(d1++(ds++d3)).length=(d1++(d2++d3)).length:=by simp[hlen]
   rw[this,←hc1,List.append_assoc,List.drop_length_add_append,List.drop_left]
  rw[t1,t2,t3,t4]
  simp
 rw[e]
 simpa using g3
end
section
variable {c:cJ} {A:ab} {o:Oper} {x:I}
theorem mR{P:Program}{w:World}(k:IntKind)(n:Int)(y:Nat)(code:BoundsCode)(g1:0≤n)(g2:n≤y):(Instr.sliceBound (.int k n) y code).run P w=.ok n.toNat w:=by
 simp[Instr.sliceBound,asIntOf,g1,g2]
theorem ahM{t e:TypeId}{y:Operand}{y':aL}{lo hi mx:Option Operand}{lo' hi' mx':Option aL}{i:TypeInfo}{fs:List I}{n:Nat}{p:List Nat}{sz l0 k:Nat}(ho:o.op=.slice t y lo hi mx)(hu:c.P.underlying t=some (.slice e))(hi0:c.P.info? e=some i)
  (hy:bG c.P 0 y=some y') (h1:iP c.P lo=some lo') (h2:iP c.P hi=some hi') (h3:iP c.P mx=some mx') (hmh:mx'.isSome=true→hi'.isSome=true) (hsz:sz=c.P.cellsOf e)
  (h:ae A y'=.view n p sz l0 k) (hd:cu A (.ptr n p)=some (.agg fs)) (hx:hU n p sz l0 k fs.length (lo'.map (ae A)) (hi'.map (ae A)) (mx'.map (ae A))=some x):dM c A o x :=
 .same fun a w D E hs=>by
  have opt:∀ {q:Option Operand} {q':Option aL},iP c.P q=some q'→iF w D E (q'.map (ae A)) (q.map a.eval):=by
   intro q q' hq
   cases q with
   |none=>simp only[iP,Option.some.injEq] at hq;subst hq;simp[iF]
   |some z =>
    simp only[iP,Option.map_eq_some_iff] at hq
    obtain ⟨z',hz,rfl⟩:=hq
    simpa[iF] using b9 hs hz
  have h0:=b9 hs hy
  rw[h] at h0
  obtain ⟨yy,b,cs,T,off,c1,c2,c3,k1,k2,k3,k4,k5,k6,k7,k8,k9,k10,k11,k12,hval⟩:=hs.view h0 hd
  have hmh':(mx'.map (ae A)).isSome=true→(hi'.map (ae A)).isSome=true:=by simpa using hmh
  unfold hU at hx
  split at hx
  ·cases hx
  rename_i hh hbh
  split at hx
  ·cases hx
  rename_i ll hbl
  have d1:=rn (opt h1) hbl
  have d2:=rn (opt h2) hbh
  have o3:=opt h3
  split at hx
  ·rename_i hmx
   split at hx
   case isFalse=>cases hx
   rename_i hb
   obtain ⟨b1,b2,b3⟩:=hb
   have hvmx:mx.map a.eval=none:=by
    rw[hmx] at o3
    cases hq:mx.map a.eval with
    |none=>rfl
    |some v=>rw[hq] at o3;simp[iF] at o3
   have hsb:(Instr.sliceBounds true k (fs.length-l0) (lo.map a.eval) (hi.map a.eval) (mx.map a.eval)).run c.P w=.ok (ll.toNat,hh.toNat,fs.length-l0) w:=by
    rw[hvmx]
    rcases d2 with ⟨_,g2,hm2⟩ | ⟨_,q2,g2⟩ <;>rcases d1 with ⟨_,g1,hm1⟩ | ⟨_,q1,g1⟩ <;>rw[g1,g2]
    ·subst hm1 hm2;simp[Instr.sliceBounds]
    ·subst hm2;simp[Instr.sliceBounds,mR q1 ll k _ b1 (by omega)]
    ·subst hm1;simp[Instr.sliceBounds,mR q2 hh (fs.length-l0) _ (by omega) (by omega)]
    ·simp[Instr.sliceBounds,mR q2 hh (fs.length-l0) _ (by omega) (by omega),mR q1 ll hh.toNat _ b1 (by omega)]
   have hrun:(Instr.sliceAt t (a.eval y) (lo.map a.eval) (hi.map a.eval) (mx.map a.eval)).run c.P w =
     .ok (.slice (if fs.length-l0=ll.toNat then some ⟨b,off+l0*sz,none⟩ else some ⟨b,off+l0*sz+ll.toNat*c.P.cellsOf e,none⟩) (hh.toNat-ll.toNat) (fs.length-l0-ll.toNat)) w:=by
    rw[hval]
    simp only[Instr.sliceAt,Instr.slice,Sem.run_bind,run_underlying hu,Result.andThen_ok,hsb,jl hi0,Sem.run_pure,Option.map_some,m5]
   refine ⟨_,by simp only[execOp,ho,Sem.run_bind,hrun];rfl,?_⟩
   split at hx
   ·rename_i hl
    simp only[Option.some.injEq] at hx
    subst hx
    have e1:fs.length-l0=ll.toNat:=by omega
    have e2:hh.toNat-ll.toNat=0:=by omega
    rw[if_pos e1,e2,e1,Nat.sub_self]
    exact ⟨_,by simp[bK,I.isAgg];rfl,by simp only[af];exact ⟨_,rfl⟩⟩
   ·rename_i hl
    simp only[Option.some.injEq] at hx
    subst hx
    rw[if_neg (by omega)]
    refine ⟨_,by simp[bK,I.isAgg];rfl,?_⟩
    simp only[af]
    refine ⟨b,yy.aR,off,I.cT fs,k2,k5,mU p yy _ k4,?_,?_,?_,?_⟩
    ·rw[I.dq,List.length_map,Nat.add_mul,Nat.add_assoc,hsz,Nat.sub_sub]
    ·rw[I.dq,List.length_map];exact k12
    ·rw[I.dq,List.length_map];omega
    ·rw[I.dq]
     intro s hs'
     obtain ⟨f,hf,rfl⟩:=List.mem_map.1 hs'
     rw[I.l6];exact k10 f hf
  ·rename_i kk m hmx
   split at hx
   case isFalse=>cases hx
   rename_i hb
   obtain ⟨b1,b2,b3,b4⟩:=hb
   simp only[Option.some.injEq] at hx
   subst hx
   obtain ⟨vmx,hvmx,hvm⟩:∃ v,mx.map a.eval=some v∧v=.int kk m:=by
    rw[hmx] at o3
    cases hq:mx.map a.eval with
    |none=>rw[hq] at o3;simp[iF] at o3
    |some v=>rw[hq] at o3;simp only[iF] at o3;exact ⟨v,rfl,(fB o3).1⟩
   subst hvm
   have hsb:∃ r,(Instr.sliceBounds true k (fs.length-l0) (lo.map a.eval) (hi.map a.eval) (mx.map a.eval)).run c.P w=.ok r w:=by
    rw[hvmx]
    rcases d2 with ⟨fY,g2,hm2⟩ | ⟨_,q2,g2⟩
    ·rw[hmx,fY] at hmh';simp at hmh'
    ·rcases d1 with ⟨_,g1,hm1⟩ | ⟨_,q1,g1⟩ <;>rw[g1,g2]
     ·exact ⟨_,by simp[Instr.sliceBounds,mR kk m (fs.length-l0) _ (by omega) b4,mR q2 hh m.toNat _ (by omega) (by omega)];rfl⟩
     ·exact ⟨_,by simp[Instr.sliceBounds,mR kk m (fs.length-l0) _ (by omega) b4,mR q2 hh m.toNat _ (by omega) (by omega),mR q1 ll hh.toNat _ b1 (by omega)];rfl⟩
   obtain ⟨⟨r1,dV,tT⟩,hsb⟩:=hsb
   have hrun:∃ v,(Instr.sliceAt t (a.eval y) (lo.map a.eval) (hi.map a.eval) (mx.map a.eval)).run c.P w=.ok v w:=by
    rw[hval]
    exact ⟨_,by simp only[Instr.sliceAt,Instr.slice,Sem.run_bind,run_underlying hu,Result.andThen_ok,hsb,jl hi0,Sem.run_pure,Option.map_some];rfl⟩
   obtain ⟨v,hrun⟩:=hrun
   exact ⟨v,by simp only[execOp,ho,Sem.run_bind,hrun];rfl,by simp[aT]⟩
  ·cases hx
theorem ahD{t e:TypeId}{y z:Operand}{y' z':aL}{i:TypeInfo}{fs:List I}{n:Nat}{p:List Nat}{sz lo k:Nat}{kk:IntKind}{j:Int}(ho:o.op=.indexAddr t y z)(hu:c.P.underlying t=some (.slice e))(hi:c.P.info? e=some i)
  (hy:bG c.P 0 y=some y') (hz:bG c.P 0 z=some z') (hsz:sz=c.P.cellsOf e) (h:ae A y'=.view n p sz lo k) (hd:cu A (.ptr n p)=some (.agg fs)) (h':ae A z'=.int kk j) (hj:0≤j∧j<k):dM c A o (.ptr n (p++[lo+j.toNat])) :=
 .same fun a w D E hs=>by
  have h0:=b9 hs hy
  rw[h] at h0
  have h1':=b9 hs hz
  rw[h'] at h1'
  obtain ⟨yy,b,cs,T,off,c1,c2,c3,k1,k2,k3,k4,k5,k6,k7,k8,k9,k10,k11,k12,hval⟩:=hs.view h0 hd
  refine ⟨.pointer (some ⟨b,off+lo*sz+j.toNat*c.P.cellsOf e,none⟩),by simp only[execOp,ho,hval,(fB h1').1,Sem.run_bind,yJ hu hi hj];rfl,?_⟩
  refine ⟨_,by simp[bK,I.isAgg];rfl,?_⟩
  simp only[af]
  refine ⟨b,yy.aR,off+(lo+j.toNat)*sz,k2,?_,by rw[Nat.add_mul,←Nat.add_assoc,hsz]⟩
  have hl:lo+j.toNat<fs.length:=by omega
  rw[cO.tI p yy.aR off (lo+j.toNat) _ k5 (mU p yy _ k4) (by rw[I.dq];simpa using hl),I.dq,←List.map_take,←I.dq,I.mV,oM fs _ k10 (by omega)]
theorem xf{ty:TypeId}{y:Operand}{y':aL}{n:Nat}{e:TypeId}(ho:o.op=.call { callee:=.builtin .cap,args := #[y],argTypes := #[ty] })(hu:c.P.underlying ty=some (.slice e))
  (hy:bG c.P ty y=some y') (h:∀ a w D E,aS c A a w D E→∀ v,aT w D E (ae A y') v→n≤maxLen∧∃ ad l,v=.slice ad l n):dM c A o (.int .i64 n) :=
 .same fun a w D E hs=>by
  obtain ⟨h0,ad,l,hv⟩:=h a w D E hs _ (b9 hs hy)
  exact ⟨.int .i64 n,by simp[execOp,ho,resolve,invoke,builtin,Builtin.cap_,run_underlying hu,hv,goInt],kQ (xN h0)⟩
theorem ahq{t e:TypeId}{i:TypeInfo}(ho:o.op=.buildSlice t 0 #[])(hu:c.P.underlying t=some (.slice e))(hi:c.P.info? e=some i):dM c A o (.c0 (c.P.cellsOf e)):=by
 intro a w D E hs
 have hs':=hs.newRow (.cells #[] e)
 refine ⟨.slice (some ⟨w.heap.size,0,none⟩) 0 0,_,_,?_,hs',⟨_,by simp[bK,I.isAgg];rfl,by simp only[af];exact ⟨_,rfl⟩⟩⟩
 simp[execOp,ho,Instr.buildSlice,run_underlying hu,jl hi,newRow,Instr.fill,show (Array.range 0) = #[] from rfl]
theorem ai1{neg:Bool}{t e:TypeId}{y z:Operand}{y':aL}{yt:TypeId}{s:Nat}(ho:o.op=.binOp (if neg then .neq else .eql) t y z yt)(hu:c.P.underlying t=some (.slice e))(hy:bG c.P 0 y=some y')(hz:bG c.P 0 z=some (.c (.nils s)))
  (h:∃ sz,ae A y'=.slice sz []∨ae A y'=.c0 sz) {a:Act} {w:World} {D:aQ} {E:aU} (hs:aS c A a w D E):∃ b,(execOp a.eval o).run c.P w=.ok (.value (.bool b)) w:=by
 have h0:=b9 hs hy
 have h1:aT w D E (.nils s) (a.eval z):=b9 hs hz
 have hv:∃ ad cp,a.eval y=.slice ad 0 cp:=by
  obtain ⟨sz,h | h⟩:=h <;>rw[h] at h0
  ·obtain ⟨ad,cap,e1,_⟩:=nJ h0
   exact ⟨ad,cap,by simpa using e1⟩
  ·obtain ⟨cs,q1,q2⟩:=h0
   simp only[af] at q2
   obtain ⟨ad,q2⟩:=q2
   exact ⟨ad,0,by simpa[bK,I.isAgg,q2] using q1.symm⟩
 obtain ⟨ad,cp,hyv⟩:=hv
 have hv:a.eval z=.slice none 0 0:=by
  obtain ⟨cs,q1,q2⟩:=h1
  simp only[af] at q2
  simpa[bK,I.isAgg,q2] using q1.symm
 have he:∀ d,(Op.equalIn (d+1) t (.slice ad 0 cp) (.slice none 0 0)).run c.P w=.ok ad.isNone w:=fun d=>by
  cases ad <;>simp[Op.equalIn,run_underlying hu]
 refine ⟨if neg then !ad.isNone else ad.isNone,?_⟩
 cases neg <;>simp only[execOp,ho,hyv,hv,if_true,Bool.false_eq_true,if_false,Sem.run_bind,eqGuard] <;>simp[binOp,Op.equal,Op.maxDepth,he]
def iI(y:I)(p:List Nat)(j:Nat)(fs ys:List I):I:=y.dH p (.agg (fs.take j++(ys++fs.drop (j+ys.length))))
theorem W8{t e:TypeId}{y:Operand}{y':aL}{z:I}{n:Nat}{p:List Nat}{lo k:Nat}{b:I}{fs:List I}(ho:o.op=.call { callee:=.builtin .clear,args := #[y],argTypes := #[t] })(hu:c.P.underlying t=some (.slice e))(hy:bG c.P t y=some y')
  (hz:fT c.P e=some z) (hv:ae A y'=.view n p (c.P.cellsOf e) lo k) (hn:A.o n=some (.box b)) (hat:b.at p=some (.agg fs)) (hsh:I.cT (List.replicate k z)=I.cT ((fs.drop lo).take k)) (hd:o.dst=none) :
  iL c A o (A.aN n (.box (iI b p lo fs (List.replicate k z)))):=by
 intro a w D E hs
 obtain ⟨i,zv,hi,hzv,hzr⟩:=l9 hz
 have h0:=b9 hs hy
 rw[hv] at h0
 have hx:cu A (.ptr n p)=some (.agg fs):=by simp only[cu,hn,hat]
 obtain ⟨yy,bk,cs,T,off,c1,c2,c3,k1,k2,k3,k4,k5,k6,k7,k8,k9,k10,k11,k12,hval⟩:=hs.view h0 hx
 rw[hn] at k1
 simp only[Option.some.injEq,ah.box.injEq] at k1
 subst k1
 have hr:aJ w D E (List.replicate k z) (Builtin.zeroCells zv.cells k).toList:=by
  rw[uD];exact rz (hzr w D E) k
 obtain ⟨w',h1,h2⟩:=hs.iI (j:=lo) (ys:=List.replicate k z) hn k2 k3 k4 k5 k6 k7 k8 k9 k10 hr (by simpa using k11) (by simpa using hsh) c.P
 cases k with
 |zero =>
  refine ⟨w,.inl ⟨.tuple #[],?_,D,E,?_⟩⟩
  ·simp[execOp,ho,resolve,invoke,builtin,Builtin.clear_,run_underlying hu,hval]
  ·rw[hd]
   have:iI b p lo fs (List.replicate 0 z)=b.dH p (.agg fs):=by simp[iI]
   have hw:w'=w:=by
    simp[Builtin.zeroCells,storeCells] at h1
    exact h1.symm
   rw[hw] at h2
   exact h2
 |succ k =>
  refine ⟨w',.inl ⟨.tuple #[],?_,D,E,?_⟩⟩
  ·simp[execOp,ho,resolve,invoke,builtin,Builtin.clear_,run_underlying hu,hval,zeroValue,typeInfo,hi,hzv,h1]
  ·rw[hd];exact h2
theorem W9{t e:TypeId}{y x:Operand}{y' x':aL}{n:Nat}{p:List Nat}{lo k m:Nat}{b:I}{fs ys:List I}(ho:o.op=.call { callee:=.builtin .copy,args := #[y,x],argTypes := #[t,t] })(hu:c.P.underlying t=some (.slice e))(hi:(c.P.info? e).isSome=true)
  (hy:bG c.P t y=some y') (hx:bG c.P t x=some x') (hv:ae A y'=.view n p (c.P.cellsOf e) lo k) (hn:A.o n=some (.box b)) (hat:b.at p=some (.agg fs)) (hs:eC A (c.P.cellsOf e) (ae A x')=some ys) (hm:m=min ys.length k)
  (hsh:I.cT (ys.take m)=I.cT ((fs.drop lo).take m)) (hdn:∀ k,o.dst=some k→k<c.n) :
  iL c A o ((A.aN n (.box (iI b p lo fs (ys.take m)))).aP o.dst (.int .i64 m)):=by
 intro a w D E hsim
 obtain ⟨i,hi⟩:=Option.isSome_iff_exists.1 hi
 have h0:=b9 hsim hy
 rw[hv] at h0
 have hxx:cu A (.ptr n p)=some (.agg fs):=by simp only[cu,hn,hat]
 obtain ⟨yy,bk,cs,T,off,c1,c2,c3,k1,k2,k3,k4,k5,k6,k7,k8,k9,k10,k11,k12,hval⟩:=hsim.view h0 hxx
 rw[hn] at k1
 simp only[Option.some.injEq,ah.box.injEq] at k1
 subst k1
 obtain ⟨ad,cp,news,s1,s2,s3,s4,s5,s6⟩:=hsim.nL (b9 hsim hx) hs
 have hmy:m≤ys.length:=by omega
 have hci:c.P.cellsOf e=i.size:=by simp[Program.cellsOf,hi]
 obtain ⟨d1,d2,d3,e1,e2,e3,e4⟩:=tZ s4 s5 0 m (by omega)
 simp only[Nat.zero_mul,List.drop_zero] at e2 e3
 have e2':d1=[]:=List.eq_nil_of_length_eq_zero e2
 subst e2'
 simp only[List.nil_append] at e1
 have hlen:(ys.take m).length=m:=by rw[List.length_take];omega
 have hd2:d2.length=m*i.size:=by rw[aJ.length _ _ e3,I.iJ (sz:=c.P.cellsOf e) _ (fun y hy=>s5 y (List.mem_of_mem_take hy)),hlen,hci]
 obtain ⟨w',h1,h2⟩:=hsim.iI (j:=lo) (ys:=ys.take m) hn k2 k3 k4 k5 k6 k7 k8 k9 k10 e3 (by rw[hlen];omega) (by rw[hlen];exact hsh) c.P
 have hf:(Builtin.firstCells i.size m (.slice ad ys.length cp)).run c.P w=.ok d2.toArray w:=by
  by_cases hm0:m=0
  ·have:d2=[]:=List.eq_nil_of_length_eq_zero (by rw[hd2,hm0];simp)
   subst this
   cases ad with
   |none=>exact run_firstCells_none _ _ _ _ _
   |some ad=>exact run_firstCells_some w i.size m ad ys.length cp [] (by simp[hm0]) (by simp)
  ·obtain ⟨b2,o2,rfl,hr⟩:=s6 (fun h=>by rw[h] at hmy;simp at hmy;omega)
   refine run_firstCells_some w i.size m _ ys.length cp d2 hd2 fun j v hj =>?_
   rw[Addr.add_lit]
   refine hr j v ?_
   rw[e1,List.getElem?_append_left (List.getElem?_eq_some_iff.1 hj).1]
   exact hj
 have h63:m≤maxLen:=by omega
 refine ⟨w',.inl ⟨.int .i64 m,?_,D,E,h2.aP hdn (kQ (xN h63))⟩⟩
 have hmin:Nat.min ys.length k=m:=hm.symm
 rw[←hci] at hf
 simp only[execOp,ho,resolve,invoke,builtin,Sem.run_bind,Sem.run_pure,Result.andThen_ok,List.map_toArray,List.map_cons,List.map_nil,hval,s1]
 simp[Builtin.copy_,run_underlying hu,Builtin.lenOf,hmin,jl hi,hf,h1,goInt]
theorem pd{a:Act}{w:World}{D:aQ}{E:aU}(hs:aS c A a w D E){sz:Nat}{x:I}{v:Value}{es:List I}(hv:aT w D E x v)(he:eC A sz x=some es) :
  ∃ ad cp olds,v=.slice ad es.length cp∧es.length≤cp∧cp≤maxLen∧aJ w D E es olds∧(∀ y∈es,y.size=sz)∧∀ (P:Program) (w':World),(∀ p u,w.cell? p=some u→w'.cell? p=some u)→(Builtin.firstCells sz es.length v).run P w'=.ok olds.toArray w':=by
 obtain ⟨ad,cp,news,s1,s2,s3,s4,s5,s6⟩:=hs.nL hv he
 refine ⟨ad,cp,news,s1,s2,s3,s4,s5,fun P w' hw =>?_⟩
 have hl:news.length=es.length*sz:=by rw[aJ.length _ _ s4,I.iJ _ s5]
 rw[s1]
 by_cases h0:es=[]
 ·subst h0
  have:news=[]:=List.eq_nil_of_length_eq_zero (by rw[hl];simp)
  subst this
  cases ad with
  |none=>exact run_firstCells_none _ _ _ _ _
  |some ad=>exact run_firstCells_some w' sz _ ad _ cp [] (by simp) (by simp)
 ·obtain ⟨b,o',rfl,hr⟩:=s6 h0
  exact run_firstCells_some w' sz _ _ _ cp news hl fun j v hj=>by rw[Addr.add_lit];exact hw _ _ (hr j v hj)
theorem Po{t e:TypeId}{s x:Operand}{s' x':aL}{es ys:List I}{z:I}{d:Nat}(ho:o.op=.call { callee:=.builtin .append,args := #[s,x],argTypes := #[t,t] })(hu:c.P.underlying t=some (.slice e))(hs':bG c.P t s=some s')(hx':bG c.P t x=some x')
  (hz:fT c.P e=some z) (hzs:z.size=c.P.cellsOf e) (hse:eC A (c.P.cellsOf e) (ae A s')=some es) (hsx:eC A (c.P.cellsOf e) (ae A x')=some ys) (hby:(es.length+ys.length)*c.P.bytesOf e≤140737488355328)
  (hd:o.dst=some d) (hdn:d<c.n) (hf:A.o d=none) (hne:ys≠[]) {a:Act} {w:World} {D:aQ} {E:aU} (hsim:aS c A a w D E) (hfull:∀ ad l cp,a.eval s=.slice ad l cp→cp<l+ys.length) (hml:es.length+ys.length≤maxLen) :
  ∃ v w' m,(execOp a.eval o).run c.P w=.ok (.value v) w'∧es.length+ys.length+m≤maxLen ∧
   cj c ((A.aN d (.box (.agg (es++(ys++List.replicate m z))))).aP o.dst (.view d [] (c.P.cellsOf e) 0 (es.length+ys.length))) (a.put o.dst v) w':=by
 obtain ⟨i,zv,hi,hzv,hzr⟩:=l9 hz
 have hci:c.P.cellsOf e=i.size:=by simp[Program.cellsOf,hi]
 have hbi:c.P.bytesOf e=i.bytes:=by simp[Program.bytesOf,hi]
 obtain ⟨ad1,cp1,olds,s1,s2,s3,s4,s5,s6⟩:=pd hsim (b9 hsim hs') hse
 obtain ⟨ad2,cp2,news,t1,t2,t3,t4,t5,t6⟩:=pd hsim (b9 hsim hx') hsx
 have hlt:=hfull _ _ _ s1
 obtain ⟨m,hm⟩:∃ m,m=grownCap w (es.length+ys.length) cp1 e-(es.length+ys.length):=⟨_,rfl⟩
 have hge:=grownCap_ge w (es.length+ys.length) cp1 e
 have hle:=grownCap_le_maxLen w (es.length+ys.length) cp1 e hml
 obtain ⟨cells,hcells⟩:∃ cells:Array Value,cells=olds.toArray++news.toArray++Builtin.zeroCells zv.cells m:=⟨_,rfl⟩
 have hrun:(Builtin.append_ #[t,t] o.type #[a.eval s,a.eval x]).run c.P w=.ok (.slice (some ⟨w.heap.size,0,none⟩) (es.length+ys.length) (grownCap w (es.length+ys.length) cp1 e)) (w.drew.alloc (.cells cells e)):=by
  have hn:¬ (es.length+ys.length≤cp1):=by omega
  have h63:¬ (9223372036854775807<((es.length:Int)+(ys.length:Int))):=by simp only[maxLen] at hml;omega
  have h48:¬ (281474976710656<Builtin.nextslicecap (es.length+ys.length) cp1*i.bytes):=by
   have h3:(es.length+ys.length)*i.bytes≤140737488355328:=by rw[←hbi];exact hby
   have:=growslice_fits hlt h3
   omega
  have g1:=s6 c.P w.drew (fun _ _ h=>h)
  have g2:=t6 c.P w.drew (fun _ _ h=>h)
  rw[s1,hci] at g1
  rw[t1,hci] at g2
  rw[s1,t1,hcells,hm]
  simp[Builtin.append_,run_underlying hu,sizeOf,typeInfo,zeroValue,hi,hzv,Builtin.lenOf,hn,h63,h48,Question.forced,g1,g2,newRow,grownCap]
  congr 2
  apply Array.ext'
  simp[List.append_assoc]
 have hcl:cells.toList=olds++(news++(List.replicate m zv.cells.toList).flatten):=by
  rw[hcells];simp[uD]
 have hrc:af w D E (.agg (es++(ys++List.replicate m z))) cells.toList:=by
  rw[hcl]
  simp only[af]
  exact ki _ _ _ _ s4 (ki _ _ _ _ t4 (rz (hzr w D E) m))
 have hsim':aS c A a w.drew D E:=hsim.grow ⟨rfl,rfl,rfl,Nat.le_refl _,fun _ _=>rfl⟩ (fun _ _ h=>h) (fun _ _ h _=>h) (fun b o h=>hsim.c9 b o h)
 have hrc':af w.drew D E (.agg (es++(ys++List.replicate m z))) cells.toList:=af.bJ (w:=w) (w':=w.drew) (D:=D) (E:=E) ⟨fun _ _ h=>h,fun _ _ _ _ h=>h,fun _ _ _ h=>h,fun _ aD l h=>⟨aD,l,h,Nat.le_refl _,fun _=>rfl⟩,fun _ _ h=>h,fun _ _ h=>h,fun _ _ _ _ h=>h⟩ _ _ hrc
 have h1:=hsim'.rh (T:=e) (.inl hdn) hf hrc'
 have hall:∀ y∈es++(ys++List.replicate m z),y.size=c.P.cellsOf e:=by
  intro y hy
  rcases List.mem_append.1 hy with hy | hy
  ·exact s5 y hy
  ·rcases List.mem_append.1 hy with hy | hy
   ·exact t5 y hy
   ·rw[List.eq_of_mem_replicate hy];exact hzs
 have hlen:(es++(ys++List.replicate m z)).length=es.length+ys.length+m:=by simp[Nat.add_assoc]
 have h2:=h1.put (d:=d) (x:=.view d [] (c.P.cellsOf e) 0 (es.length+ys.length)) (v:=.slice (some ⟨w.heap.size,0,none⟩) (es.length+ys.length) (grownCap w (es.length+ys.length) cp1 e)) hdn ⟨_,by simp[bK,I.isAgg];rfl,by
  simp only[af,if_true]
  refine ⟨w.heap.size,(I.agg (es++(ys++List.replicate m z))).aR,0,I.cT (es++(ys++List.replicate m z)),rfl,by cases (I.agg (es++(ys++List.replicate m z))).aR <;>simp[cO.off],by simp only[I.aR,cO.part],?_,?_,?_,?_⟩
  ·rw[I.dq,List.length_map,hlen,hm];simp;omega
  ·rw[I.dq,List.length_map,hlen];omega
  ·rw[I.dq,List.length_map,hlen];omega
  ·rw[I.dq]
   intro s hs
   obtain ⟨f,hf,rfl⟩:=List.mem_map.1 hs
   rw[I.l6];exact hall f hf⟩
 refine ⟨.slice (some ⟨w.heap.size,0,none⟩) (es.length+ys.length) (grownCap w (es.length+ys.length) cp1 e),w.drew.alloc (.cells cells e),m,?_,by omega,?_⟩
 ·unfold execOp
  simp only[ho,resolve,invoke,builtin,Sem.run_bind,Sem.run_pure,Result.andThen_ok,List.map_toArray,List.map_cons,List.map_nil,hrun]
 ·rw[hd]
  exact ⟨D,_,h2⟩
theorem Ps{t t' e:TypeId}{s x:Operand}{s' x':aL}{es:List I}{k:Nat}{kx kt:IntKind}{aV:Int}{z:I}{d:Nat}(ho:o.op=.call { callee:=.builtin .append,args := #[s,x],argTypes := #[t,t'] })(hu:c.P.underlying t=some (.slice e))(hs':bG c.P t s=some s')(hx':bG c.P t' x=some x')(ht':c.P.underlying t'=some (.int kt))(hvx:ae A x'=.int kx aV)(hk:aV.toNat=k)(hk0:0<k)(hpos:0<c.P.cellsOf e)
  (hz:fT c.P e=some z) (hzs:z.size=c.P.cellsOf e) (hse:eC A (c.P.cellsOf e) (ae A s')=some es) (hby:(es.length+k)*c.P.bytesOf e≤140737488355328)
  (hd:o.dst=some d) (hdn:d<c.n) (hf:A.o d=none) {a:Act} {w:World} {D:aQ} {E:aU} (hsim:aS c A a w D E) (hfull:∀ ad l cp,a.eval s=.slice ad l cp→cp<l+k) (hml:es.length+k≤maxLen) :
  ∃ v w' m,(execOp a.eval o).run c.P w=.ok (.value v) w'∧es.length+k+m≤maxLen ∧
   cj c ((A.aN d (.box (.agg (es++(List.replicate k z++List.replicate m z))))).aP o.dst (.view d [] (c.P.cellsOf e) 0 (es.length+k))) (a.put o.dst v) w':=by
 obtain ⟨i,zv,hi,hzv,hzr⟩:=l9 hz
 have hci:c.P.cellsOf e=i.size:=by simp[Program.cellsOf,hi]
 have hbi:c.P.bytesOf e=i.bytes:=by simp[Program.bytesOf,hi]
 obtain ⟨ad1,cp1,olds,s1,s2,s3,s4,s5,s6⟩:=pd hsim (b9 hsim hs') hse
 have v2:=b9 hsim hx'
 rw[hvx] at v2
 have t1:a.eval x=.int kx ((k:Nat):Int):=by rw[(fB v2).1];congr 1;omega
 have t4:aJ w D E (List.replicate k z) (List.replicate k zv.cells.toList).flatten:=rz (hzr w D E) k
 have t5:∀ y∈List.replicate k z,y.size=c.P.cellsOf e:=fun y hy=>by rw[List.eq_of_mem_replicate hy];exact hzs
 have hlt:=hfull _ _ _ s1
 obtain ⟨m,hm⟩:∃ m,m=grownCap w (es.length+k) cp1 e-(es.length+k):=⟨_,rfl⟩
 have hge:=grownCap_ge w (es.length+k) cp1 e
 have hle:=grownCap_le_maxLen w (es.length+k) cp1 e hml
 obtain ⟨cells,hcells⟩:∃ cells:Array Value,cells=olds.toArray++Builtin.zeroCells zv.cells k++Builtin.zeroCells zv.cells m:=⟨_,rfl⟩
 have hrun:(Builtin.append_ #[t,t'] o.type #[a.eval s,a.eval x]).run c.P w=.ok (.slice (some ⟨w.heap.size,0,none⟩) (es.length+k) (grownCap w (es.length+k) cp1 e)) (w.drew.alloc (.cells cells e)):=by
  have h3:(es.length+k)*i.bytes≤140737488355328:=by rw[←hbi];exact hby
  have g1:=s6 c.P w.drew (fun _ _ h=>h)
  rw[s1,hci] at g1
  have hfit:=growslice_fits hlt h3
  have hkb:k*i.bytes≤(es.length+k)*i.bytes:=Nat.mul_le_mul_right _ (by omega)
  rw[s1,t1,hcells,hm]
  exact Lib.run_append_grow_zeros w t t' o.type e i zv kx kt hu ht' hi hzv ad1 es.length cp1 olds g1 k hk0 (by rw[←hci];exact hpos) hlt (by simp only[maxLen] at hml;omega) (by omega) (by omega)
 have hcl:cells.toList=olds++((List.replicate k zv.cells.toList).flatten++(List.replicate m zv.cells.toList).flatten):=by
  rw[hcells];simp[uD]
 have hrc:af w D E (.agg (es++(List.replicate k z++List.replicate m z))) cells.toList:=by
  rw[hcl]
  simp only[af]
  exact ki _ _ _ _ s4 (ki _ _ _ _ t4 (rz (hzr w D E) m))
 have hsim':aS c A a w.drew D E:=hsim.grow ⟨rfl,rfl,rfl,Nat.le_refl _,fun _ _=>rfl⟩ (fun _ _ h=>h) (fun _ _ h _=>h) (fun b o h=>hsim.c9 b o h)
 have hrc':af w.drew D E (.agg (es++(List.replicate k z++List.replicate m z))) cells.toList:=af.bJ (w:=w) (w':=w.drew) (D:=D) (E:=E) ⟨fun _ _ h=>h,fun _ _ _ _ h=>h,fun _ _ _ h=>h,fun _ aD l h=>⟨aD,l,h,Nat.le_refl _,fun _=>rfl⟩,fun _ _ h=>h,fun _ _ h=>h,fun _ _ _ _ h=>h⟩ _ _ hrc
 have h1:=hsim'.rh (T:=e) (.inl hdn) hf hrc'
 have hall:∀ y∈es++(List.replicate k z++List.replicate m z),y.size=c.P.cellsOf e:=by
  intro y hy
  rcases List.mem_append.1 hy with hy | hy
  ·exact s5 y hy
  ·rcases List.mem_append.1 hy with hy | hy
   ·exact t5 y hy
   ·rw[List.eq_of_mem_replicate hy];exact hzs
 have hlen:(es++(List.replicate k z++List.replicate m z)).length=es.length+k+m:=by simp[Nat.add_assoc]
 have h2:=h1.put (d:=d) (x:=.view d [] (c.P.cellsOf e) 0 (es.length+k)) (v:=.slice (some ⟨w.heap.size,0,none⟩) (es.length+k) (grownCap w (es.length+k) cp1 e)) hdn ⟨_,by simp[bK,I.isAgg];rfl,by
  simp only[af,if_true]
  refine ⟨w.heap.size,(I.agg (es++(List.replicate k z++List.replicate m z))).aR,0,I.cT (es++(List.replicate k z++List.replicate m z)),rfl,by cases (I.agg (es++(List.replicate k z++List.replicate m z))).aR <;>simp[cO.off],by simp only[I.aR,cO.part],?_,?_,?_,?_⟩
  ·rw[I.dq,List.length_map,hlen,hm];simp;omega
  ·rw[I.dq,List.length_map,hlen];omega
  ·rw[I.dq,List.length_map,hlen];omega
  ·rw[I.dq]
   intro s hs
   obtain ⟨f,hf,rfl⟩:=List.mem_map.1 hs
   rw[I.l6];exact hall f hf⟩
 refine ⟨.slice (some ⟨w.heap.size,0,none⟩) (es.length+k) (grownCap w (es.length+k) cp1 e),w.drew.alloc (.cells cells e),m,?_,by omega,?_⟩
 ·unfold execOp
  simp only[ho,resolve,invoke,builtin,Sem.run_bind,Sem.run_pure,Result.andThen_ok,List.map_toArray,List.map_cons,List.map_nil,hrun]
 ·rw[hd]
  exact ⟨D,_,h2⟩
theorem W5{t e:TypeId}{s x:Operand}{s' x':aL}{ys:List I}{n:Nat}{p:List Nat}{lo k:Nat}{b:I}{fs:List I}(ho:o.op=.call { callee:=.builtin .append,args := #[s,x],argTypes := #[t,t] })(hu:c.P.underlying t=some (.slice e))(hi:(c.P.info? e).isSome=true)
  (hs':bG c.P t s=some s') (hx':bG c.P t x=some x') (hv:ae A s'=.view n p (c.P.cellsOf e) lo k) (hn:A.o n=some (.box b)) (hat:b.at p=some (.agg fs)) (hsx:eC A (c.P.cellsOf e) (ae A x')=some ys) (hroom:lo+k+ys.length≤fs.length)
  (hsh:I.cT ys=I.cT ((fs.drop (lo+k)).take ys.length)) (hdn:∀ k,o.dst=some k→k<c.n) :
  iL c A o ((A.aN n (.box (iI b p (lo+k) fs ys))).aP o.dst (.view n p (c.P.cellsOf e) lo (k+ys.length))):=by
 intro a w D E hsim
 obtain ⟨i,hi⟩:=Option.isSome_iff_exists.1 hi
 have hci:c.P.cellsOf e=i.size:=by simp[Program.cellsOf,hi]
 have h0:=b9 hsim hs'
 rw[hv] at h0
 have hxx:cu A (.ptr n p)=some (.agg fs):=by simp only[cu,hn,hat]
 obtain ⟨yy,bk,cs,T,off,c1,c2,c3,k1,k2,k3,k4,k5,k6,k7,k8,k9,k10,k11,k12,hval⟩:=hsim.view h0 hxx
 rw[hn] at k1
 simp only[Option.some.injEq,ah.box.injEq] at k1
 subst k1
 obtain ⟨ad2,cp2,news,t1,t2,t3,t4,t5,t6⟩:=pd hsim (b9 hsim hx') hsx
 obtain ⟨w',h1,h2⟩:=hsim.iI (j:=lo+k) (ys:=ys) hn k2 k3 k4 k5 k6 k7 k8 k9 k10 t4 hroom hsh c.P
 have g2:=t6 c.P w (fun _ _ h=>h)
 rw[t1,hci] at g2
 have hr:k+ys.length≤fs.length-lo:=by omega
 refine ⟨w',.inl ⟨.slice (some ⟨bk,off+lo*c.P.cellsOf e,none⟩) (k+ys.length) (fs.length-lo),?_,D,E,h2.aP hdn ?_⟩⟩
 ·have e1:off+lo*i.size+k*i.size=off+(lo+k)*c.P.cellsOf e:=by rw[hci,Nat.add_mul];omega
  unfold execOp
  simp only[ho,resolve,invoke,builtin,Sem.run_bind,Sem.run_pure,Result.andThen_ok,List.map_toArray,List.map_cons,List.map_nil,hval,t1]
  simp[Builtin.append_,run_underlying hu,sizeOf,typeInfo,hi,Builtin.lenOf,hr,g2,Addr.add_lit,hci,e1]
  rw[hci] at h1
  simp[h1]
 ·refine ⟨_,by simp[bK,I.isAgg];rfl,?_⟩
  simp only[af]
  refine ⟨bk,b.aR,off,I.cT fs,k2,k5,mU p b _ k4,?_,?_,?_,?_⟩
  ·rw[I.dq,List.length_map]
  ·rw[I.dq,List.length_map];exact k12
  ·rw[I.dq,List.length_map];omega
  ·rw[I.dq]
   intro s hs
   obtain ⟨f,hf,rfl⟩:=List.mem_map.1 hs
   rw[I.l6];exact k10 f hf
theorem W6{t e:TypeId}{s x:Operand}{s' x':aL}{es:List I}(ho:o.op=.call { callee:=.builtin .append,args := #[s,x],argTypes := #[t,t] })(hu:c.P.underlying t=some (.slice e))(hi:(c.P.info? e).isSome=true)(hs':bG c.P t s=some s')(hx':bG c.P t x=some x')
  (hse:eC A (c.P.cellsOf e) (ae A s')=some es) (hsx:eC A (c.P.cellsOf e) (ae A x')=some []):dM c A o (ae A s') :=
 .same fun a w D E hsim=>by
  obtain ⟨i,hi⟩:=Option.isSome_iff_exists.1 hi
  have hci:c.P.cellsOf e=i.size:=by simp[Program.cellsOf,hi]
  obtain ⟨ad1,cp1,olds,s1,s2,s3,s4,s5,s6⟩:=pd hsim (b9 hsim hs') hse
  obtain ⟨ad2,cp2,news,t1,t2,t3,t4,t5,t6⟩:=pd hsim (b9 hsim hx') hsx
  have g2:=t6 c.P w (fun _ _ h=>h)
  rw[t1,hci] at g2
  simp only[aJ] at t4
  subst t4
  refine ⟨a.eval s,?_,b9 hsim hs'⟩
  simp only[List.length_nil] at g2 t1
  unfold execOp
  simp only[ho,resolve,invoke,builtin,Sem.run_bind,Sem.run_pure,Result.andThen_ok,List.map_toArray,List.map_cons,List.map_nil,s1,t1]
  cases ad1 <;>simp[Builtin.append_,run_underlying hu,sizeOf,typeInfo,hi,Builtin.lenOf,s2,g2,storeCells]
end
end Go.Abs
