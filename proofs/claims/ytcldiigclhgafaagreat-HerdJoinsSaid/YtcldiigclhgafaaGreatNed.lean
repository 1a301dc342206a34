/-
  A part of the proof that the law HerdJoins returns true for every input; conditions: none beyond the statement's own. (part 4 of 7)
-/
import Derived.Shelf.Sort.Plain
import Derived.Shelf.Slices.In.SortNone
import Derived.Test.YtcldiigclhgafaaGreatNec
set_option linter.unusedSimpArgs false
set_option linter.unusedVariables false
set_option maxHeartbeats 16000000
set_option maxRecDepth 100000
namespace Go.Proofs.YtcldiigclhgafaaGreat
open Go Go.Abs
open Go.Abs.Enc (enc)
theorem Ar(n lo hi:Int):aA Tryz.prog 94 [enc n,enc lo,enc hi] (enc (decide (lo≤n)&&decide (n≤hi))):=by
 refine aA.bA Tryz.func94 TE Vz XH (Nat.le_of_ble_eq_true rfl) (fun hwf W0 D0 E1 =>?_)
 simp only[CJ,NU,bp,Nat.zero_add,Nat.reduceAdd]
 refine .ao (by decide +kernel) fun K hK =>?_
 simp only[JL,U,simprocAttr]
 refine .done (hK _ ?_);clear hK K
 refine .ao (by decide +kernel) fun K hK =>?_
 simp only[JM,U,simprocAttr]
 refine .guard (fun h =>?_) (fun h =>?_)
 ·simp only[U,simprocAttr,h]
  refine .done (hK _ ?_);clear hK K
  refine ab.ret ?_
  simp only[U,simprocAttr]
  simp_all
 ·simp only[U,simprocAttr,h]
  refine .done (hK _ ?_);clear hK K
  refine ab.ret ?_
  simp only[U,simprocAttr]
  simp at h
  simp;omega
theorem amj(l:List Int)(n:Int):aA Tryz.prog 36 [enc l,enc n] (enc (decide (n∈l))):=by
 refine aA.bA Tryz.func36 Td U9 Xh (Nat.le_of_ble_eq_true rfl) (fun hwf W0 D0 E1 =>?_)
 simp only[Ck,Nt,bp,Nat.zero_add]
 have hlen:l.length≤maxLen:=((kJ l).1 hwf.1).1
 simp only[maxLen] at hlen
 refine .ao (by decide +kernel) fun K hK =>?_
 simp only[IM,U,simprocAttr]
 refine .done (hK _ ?_);clear hK K
 refine ab.seq ?_
 refine .ao (by decide +kernel) fun K hK =>?_
 simp only[IN,U,simprocAttr]
 refine .done (hK _ ?_);clear hK K
 refine ab.block (ab.loop (fun i:Nat=>av [(0,enc l),(1,.int .i64 n),(4,.bool false),(5,.int .i64 i)] []) (fun i=>i≤l.length∧n∉l.take i) (fun i=>l.length-i) 0 ⟨Nat.zero_le _,by simp⟩ ?_ (fun i hi =>?_))
 ·refine aD.bM ?_ ?_ ?_ ?_ <;>simp[aV,bF,bE,a7,aY,I.only,bh]
 ·refine ab.seq (ab.seq ?_)
  refine .bl (by decide +kernel) fun K hK =>?_
  simp only[IP,U,simprocAttr]
  try simp only[bn,U,simprocAttr]
  refine .done (hK _ ?_);clear hK K;try simp only[aq]
  refine ab.bC ?_
  simp only[ar,U,simprocAttr]
  refine ⟨fun h =>?_,fun h =>?_⟩
  ·have hlt:i<l.length:=by simpa using h
   refine ab.skip ?_;try simp only[aq,simprocAttr]
   refine ab.seq (ab.block ?_)
   refine .ao (by decide +kernel) fun K hK =>?_
   simp only[IQ,U,simprocAttr]
   try simp only[fI 1 hlt rfl,U,simprocAttr]
   refine .done (hK _ ?_);clear hK K
   refine ab.bC ?_
   simp only[ar,U,simprocAttr]
   refine ⟨fun h =>?_,fun h =>?_⟩
   ·refine .ao (by decide +kernel) fun K hK =>?_
    simp only[IS,U,simprocAttr]
    refine .done (hK _ ?_);clear hK K
    refine ab.ret ?_
    simp only[bN,aq,U,simprocAttr]
    simp at h
    simp[←h]
   ·refine ab.skip ?_;try simp only[aq,bN,simprocAttr]
    refine .bl (by decide +kernel) fun K hK =>?_
    simp only[IT,U,simprocAttr]
    refine .done (hK _ ?_);clear hK K;try simp only[aq]
    refine ⟨i+1,⟨by omega,fun hm =>?_⟩,by omega,?_⟩
    ·rw[List.take_succ_eq_append_getElem hlt] at hm
     rcases List.mem_append.1 hm with hm | hm
     ·exact hi.2 hm
     ·simp at h hm;exact h hm.symm
    ·rw[cA _ (by omega) (by omega)]
     refine aD.bM ?_ ?_ ?_ ?_ <;>simp[aV,bF,bE,a7,aY,I.only,bh]
  ·have hge:i=l.length:=by simp at h;omega
   refine ab.exit ?_;try simp only[aq,bN,simprocAttr]
   refine .ao (by decide +kernel) fun K hK =>?_
   simp only[IU,U,simprocAttr]
   refine .done (hK _ ?_);clear hK K
   refine ab.ret ?_
   simp only[U,simprocAttr]
   simp[hge] at hi
   simp[hi]
theorem zL(n d:Int)(h0:0<d)(h1:d≤4611686018427387904):IntKind.i64.wrap (n.tmod d+d)=n.tmod d+d∧(n.tmod d+d).tmod d=n%d:=by
 have a1:n.tmod d<d:=Int.tmod_lt_of_pos n h0
 have a2:-d<n.tmod d:=by
  have:=Int.tmod_lt_of_pos (-n) h0
  rw[Int.neg_tmod] at this
  omega
 refine ⟨cA _ (by omega) (by omega),?_⟩
 rw[Int.tmod_eq_emod_of_nonneg (by omega),Int.add_emod_right]
 rw[Int.tmod_def,Int.sub_mul_emod_self_left]
theorem gI(n d:Int)(h0:0<d)(h1:d≤4611686018427387904):aA Tryz.prog 25 [enc n,enc d] (enc (n%d)):=by
 refine aA.bA Tryz.func25 S7 U3 Xb (Nat.le_of_ble_eq_true rfl) (fun hwf W0 D0 E1 =>?_)
 simp only[Ce,Nl,bp,Nat.zero_add]
 have hd:¬ d=0:=by omega
 refine .ao (by decide +kernel) fun K hK =>?_
 simp only[It,U,simprocAttr]
 refine .done (hK _ ?_);clear hK K
 refine .ao (by decide +kernel) fun K hK =>?_
 simp only[Iu,U,simprocAttr]
 try simp only[hd,U,simprocAttr]
 refine .done (hK _ ?_);clear hK K
 refine ab.ret ?_
 simp only[U,simprocAttr]
 rw[(zL n d h0 h1).1,(zL n d h0 h1).2]
def aX(c:List Int)(i:Int):Int:=if c=[] then 0 else c.getD (i%c.length).toNat 0
theorem lx(c:List Int)(i:Int)(hc:c.length≤4611686018427387904):aA Tryz.prog 34 [enc c,enc i] (enc (aX c i)):=by
 refine aA.bA Tryz.func34 Tb U7 Xf (Nat.le_of_ble_eq_true rfl) (fun hwf W0 D0 E1 =>?_)
 simp only[Ci,Nr,bp,Nat.zero_add]
 refine .ao (by decide +kernel) fun K hK =>?_
 simp only[Iv,U,simprocAttr]
 refine .done (hK _ ?_);clear hK K
 refine ab.seq (ab.seq ?_)
 refine .bl (by decide +kernel) fun K hK =>?_
 simp only[Iw,U,simprocAttr]
 try simp only[bn,U,simprocAttr]
 refine .done (hK _ ?_);clear hK K;try simp only[aq]
 refine ab.bC ?_
 simp only[ar,U,simprocAttr]
 refine ⟨fun h =>?_,fun h =>?_⟩
 ·refine .ao (by decide +kernel) fun K hK =>?_
  simp only[Iy,U,simprocAttr]
  refine .done (hK _ ?_);clear hK K
  refine ab.ret ?_
  simp only[aq,U,simprocAttr]
  simp at h
  simp[aX,h]
 ·simp at h
  have hpos:0<c.length:=List.length_pos_iff.2 h
  have k1:0≤i%(c.length:Int):=Int.emod_nonneg _ (by omega)
  have k2:i%(c.length:Int)<c.length:=Int.emod_lt_of_pos _ (by omega)
  have k3:(i%(c.length:Int)).toNat<c.length:=by omega
  refine ab.skip ?_;try simp only[aq,simprocAttr]
  refine .ao (by decide +kernel) fun K hK =>?_
  simp only[Iz,U,simprocAttr]
  try simp only[bn,List.map_cons,List.map_nil,U,simprocAttr]
  refine .flat _ (gI i c.length (by omega) (by omega)) rfl ?_
  try simp only[U,simprocAttr]
  try simp only[Kv 1 ⟨k1,k3⟩ rfl,U,simprocAttr]
  refine .done (hK _ ?_);clear hK K
  refine ab.ret ?_
  simp only[U,simprocAttr]
  simp[aX,h,List.getD_eq_getElem?_getD,k3]
def cq(lo hi n:Int):Bool:=decide (lo≤n)&&decide (n≤hi)
def oj(a b:Int):Int:=IntKind.i64.wrap ((BitVec.ofInt IntKind.i64.bits a &&& BitVec.ofInt IntKind.i64.bits b).toNat:Int)
def shl(a:Int)(k:Nat):Int:=IntKind.i64.wrap (a*2^min k IntKind.i64.bits)
theorem Pl(m:aS 6 Int):aA Tryz.prog 100 [enc m] (enc (if (List.range 6).all (fun i=>cq 0 4 (m.g i)) then (0:Int) else 10)):=by
 refine aA.bA Tryz.func100 RT TM VT (Nat.le_of_ble_eq_true rfl) (fun hwf W0 D0 E1 =>?_)
 simp only[AV,L4,bp]
 refine .ao (by decide +kernel) fun K hK =>?_
 simp only[D9,U,simprocAttr]
 refine .done (hK _ ?_);clear hK K
 refine ab.seq ?_
 refine .ao (by decide +kernel) fun K hK =>?_
 simp only[Ea,U,simprocAttr]
 refine .done (hK _ ?_);clear hK K
 refine ab.block (ab.loop (fun i:Nat=>av [(1,.ptr 1 []),(2,.int .i64 0),(3,.int .i64 i)] [(1,.box (enc m))]) (fun j=>j≤6∧∀ i,i<j→cq 0 4 (m.g i)=true) (fun i=>6-i) 0 ⟨by omega,fun k h=>by omega⟩ ?_ (fun i hi =>?_))
 ·refine aD.bM ?_ ?_ ?_ ?_ <;>simp[aV,bF,bE,a7,au,aY,ct,I.only,ai.only,bh]
 ·refine ab.seq (ab.seq ?_)
  refine .bl (by decide +kernel) fun K hK =>?_
  simp only[Eb,U,simprocAttr]
  refine .done (hK _ ?_);clear hK K;try simp only[aq]
  refine ab.bC ?_
  simp only[ar,U,simprocAttr]
  refine ⟨fun h =>?_,fun h =>?_⟩
  ·have hlt:i<6:=by simp at h;omega
   refine ab.skip ?_;try simp only[aq,simprocAttr]
   refine ab.seq (ab.block ?_)
   refine .ao (by decide +kernel) fun K hK =>?_
   simp only[Ec,U,simprocAttr]
   try simp only[bn,jy 1 m hlt rfl,eP m hlt,U,simprocAttr]
   refine .flat _ (Ar _ 0 4) rfl ?_
   try simp only[U,simprocAttr]
   refine .done (hK _ ?_);clear hK K
   refine ab.bC ?_
   simp only[ar,U,simprocAttr]
   refine ⟨fun h =>?_,fun h =>?_⟩
   ·refine .ao (by decide +kernel) fun K hK =>?_
    simp only[Ed,U,simprocAttr]
    refine .done (hK _ ?_);clear hK K
    refine ab.ret ?_
    simp only[bN,aq,U,simprocAttr]
    rw[oh i hlt]
    ·simp
    ·simp at h;simp[cq];omega
   ·refine ab.skip ?_;try simp only[aq,bN,simprocAttr]
    refine .bl (by decide +kernel) fun K hK =>?_
    simp only[Ee,U,simprocAttr]
    refine .done (hK _ ?_);clear hK K;try simp only[aq]
    refine ⟨i+1,⟨by omega,fun k hk =>?_⟩,by omega,?_⟩
    ·by_cases hk':k=i
     ·subst hk'
      simpa[cq] using h
     ·exact hi.2 k (by omega)
    ·rw[cA _ (by omega) (by omega)]
     refine aD.bM ?_ ?_ ?_ ?_ <;>simp[aV,bF,bE,a7,au,aY,ct,I.only,ai.only,bh]
  ·have hge:i=6:=by simp at h;omega
   subst hge
   refine ab.exit ?_;try simp only[aq,bN,simprocAttr]
   refine .ao (by decide +kernel) fun K hK =>?_
   simp only[Ef,U,simprocAttr]
   refine .done (hK _ ?_);clear hK K
   refine ab.ret ?_
   simp only[U,simprocAttr]
   rw[qH hi.2]
   simp
structure b9 where
 bP:Int
 mark:aS 6 Int
instance:Enc b9 where
 enc g:=.agg [.int .i64 g.bP,enc g.mark]
 sz:=7
 aP:=.ej [.one,.ej (List.replicate 6 .one)]
 gn:=true
 done g:=by simp only[I.done,I.e9,Enc.done,Bool.and_self]
 size g:=by simp only[I.size,I.sizes,fG,kR,kS]
 kG g:=by simp only[I.aP,I.cK,eQ,sT,sU]
 agg _:=rfl
structure bZ where
 eL:aS 5 Int
 eH:Int
 given:List b9
instance:Enc bZ where
 enc m:=.agg [enc m.eL,.int .i64 m.eH,enc m.given]
 sz:=7
 aP:=.ej [.ej (List.replicate 5 .one),.one,.one]
 gn:=true
 done m:=by simp only[I.done,I.e9,Enc.done,Bool.and_self]
 size m:=by simp only[I.size,I.sizes,fG,kR,kS,pG]
 kG m:=by simp only[I.aP,I.cK,eQ,sT,sU,Dw]
 agg _:=rfl
theorem l5{fs:List I}{f off:Nat}{v:I}(h1:f<fs.length)(h:I.sizes (fs.take f)=off):ec fs f off v=some v:=by simp[ec,h,h1]
theorem cD :
  (∀ m:bZ,(enc m).du=some [enc m.eL,.int .i64 m.eH,enc m.given])∧(∀ g:b9,(enc g).du=some [.int .i64 g.bP,enc g.mark]) ∧
  (∀ (w:aS 5 Int) (n:Int) (g:List b9) v,ec [enc w,.int .i64 n,enc g] 0 0 v=some v)∧(∀ (w:aS 5 Int) (n:Int) (g:List b9) v,ec [enc w,.int .i64 n,enc g] 1 5 v=some v)∧(∀ (w:aS 5 Int) (n:Int) (g:List b9) v,ec [enc w,.int .i64 n,enc g] 2 6 v=some v) ∧
  (∀ (n:Int) (m:aS 6 Int) v,ec [.int .i64 n,enc m] 0 0 v=some v)∧(∀ (n:Int) (m:aS 6 Int) v,ec [.int .i64 n,enc m] 1 1 v=some v) ∧
  (∀ (g:List b9),bY none (enc g)=true)∧(∀ (g:List Int),bY none (enc g)=true)∧(∀ (g:aS 5 Int),bY (some 5) (enc g)=true)∧(∀ (g:aS 6 Int),bY (some 6) (enc g)=true)∧(∀ (g:b9),bY (some 7) (enc g)=true)∧(∀ (g:bZ),bY (some 7) (enc g)=true) ∧
  (∀ (fs:List I) x,(x::fs)[0]?=some x)∧(∀ (fs:List I) x n,(x::fs)[n+1]?=fs[n]?)∧(∀ (fs:List I) x,(x::fs)[1]?=fs[0]?)∧(∀ (fs:List I) x,(x::fs)[2]?=fs[1]?) :=
 ⟨fun _=>rfl,fun _=>rfl,fun _ _ _ _=>l5 (Nat.le_of_ble_eq_true rfl) rfl,fun w n g v=>l5 (Nat.le_of_ble_eq_true rfl) (by simp[I.sizes,fG,kR,kS]),fun w n g v=>l5 (Nat.le_of_ble_eq_true rfl) (by simp[I.sizes,I.size,fG,kR,kS]),fun _ _ _=>l5 (Nat.le_of_ble_eq_true rfl) rfl,fun _ _ _=>l5 (Nat.le_of_ble_eq_true rfl) (by simp[I.sizes,I.size]),
  fun _=>by simp[mD,ny],fun _=>by simp[mD,ny],fun _=>by simp[fZ,wa,kR,kS],fun _=>by simp[fZ,wa,kR,kS],fun _=>by rw[fZ];rfl,fun _=>by rw[fZ];rfl,
  fun _ _=>rfl,fun _ _ _=>rfl,fun _ _=>rfl,fun _ _=>rfl⟩
theorem sh(n lo hi:Int):aA Tryz.prog 121 [enc n,enc lo,enc hi] (enc (cq lo hi n)):=by
 refine aA.bA Tryz.func121 R4 TX V4 (Nat.le_of_ble_eq_true rfl) (fun hwf W0 D0 E1 =>?_)
 simp only[A8,Mf,bp,Nat.zero_add,Nat.reduceAdd]
 refine .ao (by decide +kernel) fun K hK =>?_
 simp only[EP,U,simprocAttr]
 refine .done (hK _ ?_);clear hK K
 refine .ao (by decide +kernel) fun K hK =>?_
 simp only[ER,U,simprocAttr]
 refine .guard (fun h =>?_) (fun h =>?_)
 ·simp only[U,simprocAttr,h]
  refine .done (hK _ ?_);clear hK K
  refine ab.ret ?_
  simp only[U,simprocAttr]
  simp_all[cq]
 ·simp only[U,simprocAttr,h]
  refine .done (hK _ ?_);clear hK K
  refine ab.ret ?_
  simp only[U,simprocAttr]
  simp at h
  simp[cq];omega
theorem Ab(n:Int):aA Tryz.prog 160 [enc n] (enc (cq 0 31 n)):=by
 refine aA.bA Tryz.func160 Sx Us Wx (Nat.le_of_ble_eq_true rfl) (fun hwf W0 D0 E1 =>?_)
 simp only[BC,MI,bp]
 refine .ao (by decide +kernel) fun K hK =>?_
 simp only[Gi,U,simprocAttr]
 refine .done (hK _ ?_);clear hK K
 refine .ao (by decide +kernel) fun K hK =>?_
 simp only[Gj,U,simprocAttr]
 refine .flat _ (sh n 0 31) rfl ?_
 try simp only[U,simprocAttr]
 refine .done (hK _ ?_);clear hK K
 refine ab.ret ?_
 simp only[U,simprocAttr]
theorem Ae(a b:Int):aA Tryz.prog 196 [enc a,enc b] (enc (oj a b != 0)):=by
 refine aA.bA Tryz.func196 SR UN WU (Nat.le_of_ble_eq_true rfl) (fun hwf W0 D0 E1 =>?_)
 simp only[BX,M5,bp,Nat.zero_add]
 refine .ao (by decide +kernel) fun K hK =>?_
 simp only[Hc,U,simprocAttr]
 refine .done (hK _ ?_);clear hK K
 refine .ao (by decide +kernel) fun K hK =>?_
 simp only[Hd,U,simprocAttr]
 refine .done (hK _ ?_);clear hK K
 refine ab.ret ?_
 simp only[U,simprocAttr]
 rfl
theorem vc(w:aS 5 Int)(m:aS 6 Int)(i:Nat)(hi:i<6)(h0:0≤m.g i)(h5:m.g i<5):aA Tryz.prog 199 [enc w,enc m,enc (i:Int)] (enc (w.g (m.g i).toNat)):=by
 refine aA.bA Tryz.func199 SV UQ WX (Nat.le_of_ble_eq_true rfl) (fun hwf W0 D0 E1 =>?_)
 simp only[B1,M8,bp,Nat.zero_add,Nat.reduceAdd]
 refine .ao (by decide +kernel) fun K hK =>?_
 simp only[Ho,U,simprocAttr]
 refine .done (hK _ ?_);clear hK K
 refine .ao (by decide +kernel) fun K hK =>?_
 simp only[Hp,U,simprocAttr]
 have hk:(m.g i).toNat<5:=by omega
 try simp only[bn,jy 1 m hi rfl,eP m hi,U,simprocAttr]
 try simp only[bn,gm 1 w ⟨h0,h5⟩ rfl,eP w hk,U,simprocAttr]
 refine .done (hK _ ?_);clear hK K
 refine ab.ret ?_
 simp only[U,simprocAttr]
def eG(p:Nat→Bool):Nat→Nat
 |0=>0
 |n+1=>eG p n+if p n then 1 else 0
theorem vR(p:Nat→Bool):∀ n,eG p n≤n
 |0=>Nat.le_refl _
 |n+1=>by have:=vR p n;simp only[eG];split <;>omega
def iV(w:aS 5 Int)(a b:aS 6 Int)(i:Nat):Bool:=oj (w.g (a.g i).toNat) (w.g (b.g i).toNat)==0
def dT(m:aS 6 Int):Bool:=(List.range 6).all fun i=>cq 0 4 (m.g i)
theorem nR{m:aS 6 Int}(h:dT m=true){i:Nat}(hi:i<6):0≤m.g i∧m.g i<5:=by
 simp only[dT,List.all_eq_true,List.mem_range] at h
 have:=h i hi
 simp[cq] at this
 omega
theorem Px(w:aS 5 Int)(a b:aS 6 Int)(ha:dT a=true)(hb:dT b=true):aA Tryz.prog 129 [enc w,enc a,enc b] (enc (eG (iV w a b) 6:Int)):=by
 refine aA.bA Tryz.func129 Sc T7 Wc (Nat.le_of_ble_eq_true rfl) (fun hwf W0 D0 E1 =>?_)
 simp only[Bg,Mn,bp,Nat.zero_add,Nat.reduceAdd]
 refine .ao (by decide +kernel) fun K hK =>?_
 simp only[Fb,U,simprocAttr]
 refine .done (hK _ ?_);clear hK K
 refine .ao (by decide +kernel) fun K hK =>?_
 simp only[Fc,U,simprocAttr]
 refine .done (hK _ ?_);clear hK K
 refine ab.seq (ab.seq ?_)
 refine .bl (by decide +kernel) fun K hK =>?_
 simp only[Fe,U,simprocAttr]
 refine .done (hK _ ?_);clear hK K;try simp only[aq]
 refine ab.block (ab.loop (fun i:Nat=>av [(3,.ptr 3 []),(4,.ptr 4 []),(5,.ptr 5 []),(7,.int .i64 (eG (iV w a b) i)),(8,.int .i64 i)] [(3,.box (enc w)),(4,.box (enc a)),(5,.box (enc b))]) (fun i=>i≤6) (fun i=>6-i) 0 (by omega) ?_ (fun i hi =>?_))
 ·simp only[eG]
  refine aD.bM ?_ ?_ ?_ ?_ <;>simp[aV,bF,bE,a7,au,aY,ct,I.only,ai.only,bh]
 ·have hc:=vR (iV w a b) i
  refine ab.seq (ab.seq ?_)
  refine .bl (by decide +kernel) fun K hK =>?_
  simp only[Ff,U,simprocAttr]
  refine .done (hK _ ?_);clear hK K;try simp only[aq]
  refine ab.bC ?_
  simp only[ar,U,simprocAttr]
  refine ⟨fun h =>?_,fun h =>?_⟩
  ·have hlt:i<6:=by simp at h;omega
   have h1:=nR ha hlt
   have h2:=nR hb hlt
   refine ab.skip ?_;try simp only[aq,simprocAttr]
   refine ab.seq (ab.block ?_)
   refine .ao (by decide +kernel) fun K hK =>?_
   simp only[Fg,U,simprocAttr]
   have k1:(a.g i).toNat<5:=by omega
   have k2:(b.g i).toNat<5:=by omega
   try simp only[bn,jy 1 a hlt rfl,eP a hlt,U,simprocAttr]
   try simp only[bn,gm 1 w h1 rfl,eP w k1,U,simprocAttr]
   try simp only[bn,jy 1 b hlt rfl,eP b hlt,U,simprocAttr]
   try simp only[bn,gm 1 w h2 rfl,eP w k2,U,simprocAttr]
   refine .done (hK _ ?_);clear hK K
   refine ab.bC ?_
   simp only[ar,U,simprocAttr]
   refine ⟨fun h =>?_,fun h =>?_⟩
   ·have hap:iV w a b i=true:=h
    refine .bl (by decide +kernel) fun K hK =>?_
    simp only[Fh,U,simprocAttr]
    refine .done (hK _ ?_);clear hK K;try simp only[aq,bN]
    refine .bl (by decide +kernel) fun K hK =>?_
    simp only[wP,U,simprocAttr]
    refine .done (hK _ ?_);clear hK K;try simp only[aq]
    refine ⟨i+1,by omega,by omega,?_⟩
    rw[cA _ (by omega) (by omega),cA _ (by omega) (by omega)]
    simp only[eG,hap,if_true]
    refine aD.bM ?_ ?_ ?_ ?_ <;>simp[aV,bF,bE,a7,au,aY,ct,I.only,ai.only,bh]
   ·have hap:iV w a b i=false:=h
    refine ab.skip ?_;try simp only[aq,bN,simprocAttr]
    refine .bl (by decide +kernel) fun K hK =>?_
    simp only[wP,U,simprocAttr]
    refine .done (hK _ ?_);clear hK K;try simp only[aq]
    refine ⟨i+1,by omega,by omega,?_⟩
    rw[cA _ (by omega) (by omega)]
    simp only[eG,hap,Bool.false_eq_true,if_false]
    refine aD.bM ?_ ?_ ?_ ?_ <;>simp[aV,bF,bE,a7,au,aY,ct,I.only,ai.only,bh]
  ·have hge:i=6:=by simp at h;omega
   subst hge
   refine ab.exit ?_;try simp only[aq,bN,simprocAttr]
   refine .ao (by decide +kernel) fun K hK =>?_
   simp only[Fi,U,simprocAttr]
   refine .done (hK _ ?_);clear hK K
   refine ab.ret ?_
   simp only[U,simprocAttr]
def hE(w:Int)(k:Nat):Bool:=oj w (shl 1 k) != 0
def gP(w:Int):Nat→List Int
 |0=>[]
 |k+1=>gP w k++if hE w k then [(k:Int)] else []
theorem yl(w:Int):∀ k,(gP w k).length≤k
 |0=>Nat.le_refl _
 |k+1=>by
  have:=yl w k
  simp only[gP,List.length_append]
  split <;>simp <;>omega
theorem PD(w:Int):aA Tryz.prog 141 [enc w] (enc (gP w 5)):=by
 refine aA.bA Tryz.func141 Sl Ug Wl (Nat.le_of_ble_eq_true rfl) (fun hwf W0 D0 E1 =>?_)
 simp only[Bp,Mw,bp]
 refine .ao (by decide +kernel) fun K hK =>?_
 simp only[Fu,U,simprocAttr]
 refine .done (hK _ ?_);clear hK K
 refine .ao (by decide +kernel) fun K hK =>?_
 simp only[Fv,U,simprocAttr]
 refine .done (hK _ ?_);clear hK K
 refine ab.seq (ab.seq ?_)
 refine .bl (by decide +kernel) fun K hK =>?_
 simp only[Fw,U,simprocAttr]
 refine .done (hK _ ?_);clear hK K;try simp only[aq]
 refine ab.block (ab.loop (fun i:Nat=>av [(0,.int .i64 w),(2,.nils 1),(3,.own 3 (gP w i).length),(4,.int .i64 i)] [(3,.bT 3 1 ((gP w i).map enc))]) (fun i=>i≤5) (fun i=>5-i) 0 (by omega) ?_ (fun i hi =>?_))
 ·refine aD.qG 3 3 3 1 1 ?_ ?_ ?_
  ·simp only[po,Nat.reduceEqDiff,reduceIte]
  ·simp only[po]
  ·simp only[gP,List.map_nil,List.length_nil]
   refine aD.bM ?_ ?_ ?_ ?_ <;>simp[aV,bF,bE,a7,au,aY,ct,I.only,I.bR,ai.only]
 ·refine ab.seq (ab.seq ?_)
  refine .bl (by decide +kernel) fun K hK =>?_
  simp only[Fx,U,simprocAttr]
  refine .done (hK _ ?_);clear hK K;try simp only[aq]
  refine ab.bC ?_
  simp only[ar,U,simprocAttr]
  refine ⟨fun h =>?_,fun h =>?_⟩
  ·have hlt:i<5:=by simp at h;omega
   have hml:=yl w i
   refine ab.skip ?_;try simp only[aq,simprocAttr]
   refine ab.seq (ab.block ?_)
   refine .ao (by decide +kernel) fun K hK =>?_
   simp only[Fy,U,simprocAttr]
   refine .done (hK _ ?_);clear hK K
   refine ab.bC ?_
   simp only[ar,U,simprocAttr]
   refine ⟨fun h =>?_,fun h =>?_⟩
   ·have hb:hE w i=true:=h
    refine .bl (by decide +kernel) fun K hK =>?_
    simp only[Fz,U,simprocAttr]
    rw[lB 3 1 8 3 rfl rfl (by simp) (by simp[maxLen];omega) (by simp;omega)]
    try simp only[U,simprocAttr]
    refine .done (hK _ ?_);clear hK K;try simp only[aq,bN]
    refine .bl (by decide +kernel) fun K hK =>?_
    simp only[wV,U,simprocAttr]
    refine .done (hK _ ?_);clear hK K;try simp only[aq]
    refine ⟨i+1,by omega,by omega,?_⟩
    rw[cA _ (by omega) (by omega)]
    simp only[gP,hb,reduceIte]
    refine aD.bM ?_ ?_ ?_ ?_ <;>simp[aV,bF,bE,a7,au,aY,ct,I.only,I.bR,ai.only,dN,gG,jw]
   ·have hb:hE w i=false:=h
    refine ab.skip ?_;try simp only[aq,bN,simprocAttr]
    refine .bl (by decide +kernel) fun K hK =>?_
    simp only[wV,U,simprocAttr]
    refine .done (hK _ ?_);clear hK K;try simp only[aq]
    refine ⟨i+1,by omega,by omega,?_⟩
    rw[cA _ (by omega) (by omega)]
    simp only[gP,hb,reduceIte,Bool.false_eq_true,List.append_nil]
    refine aD.bM ?_ ?_ ?_ ?_ <;>simp[aV,bF,bE,a7,au,aY,ct,I.only,ai.only,dN]
  ·have hge:i=5:=by simp at h;omega
   subst hge
   refine ab.exit ?_;try simp only[aq,bN,simprocAttr]
   refine .ao (by decide +kernel) fun K hK =>?_
   simp only[FA,U,simprocAttr]
   refine .done (hK _ ?_);clear hK K
   refine ab.ret ?_
   try simp only[U,simprocAttr]
theorem QA(m:aS 5 Int):aA Tryz.prog 99 [enc m] (enc (if (List.range 5).all (fun i=>cq 0 31 (m.g i)&&hE (m.g i) i) then (0:Int) else 11)):=by
 refine aA.bA Tryz.func99 TG VB XJ (Nat.le_of_ble_eq_true rfl) (fun hwf W0 D0 E1 =>?_)
 simp only[CL,NW,bp]
 refine .ao (by decide +kernel) fun K hK =>?_
 simp only[JZ,U,simprocAttr]
 refine .done (hK _ ?_);clear hK K
 refine ab.seq ?_
 refine .ao (by decide +kernel) fun K hK =>?_
 simp only[J0,U,simprocAttr]
 refine .done (hK _ ?_);clear hK K
 refine ab.block (ab.loop (fun i:Nat=>av [(1,.ptr 1 []),(2,.int .i64 0),(3,.int .i64 i)] [(1,.box (enc m))]) (fun j=>j≤5∧∀ i,i<j→(cq 0 31 (m.g i)&&hE (m.g i) i)=true) (fun i=>5-i) 0 ⟨by omega,fun k h=>by omega⟩ ?_ (fun i hi =>?_))
 ·refine aD.bM ?_ ?_ ?_ ?_ <;>simp[aV,bF,bE,a7,au,aY,ct,I.only,ai.only,bh]
 ·refine ab.seq (ab.seq ?_)
  refine .bl (by decide +kernel) fun K hK =>?_
  simp only[J1,U,simprocAttr]
  refine .done (hK _ ?_);clear hK K;try simp only[aq]
  refine ab.bC ?_
  simp only[ar,U,simprocAttr]
  refine ⟨fun h =>?_,fun h =>?_⟩
  ·have hlt:i<5:=by simp at h;omega
   refine ab.skip ?_;try simp only[aq,simprocAttr]
   refine ab.seq (ab.block ?_)
   refine .ao (by decide +kernel) fun K hK =>?_
   simp only[J2,U,simprocAttr]
   try simp only[bn,jy 1 m hlt rfl,eP m hlt,U,simprocAttr]
   refine .flat _ (Ar _ 0 31) rfl ?_
   generalize hb:(decide (0≤m.g i)&&decide (m.g i≤31))=b
   cases b
   ·try simp only[U,simprocAttr]
    refine .done (hK _ ?_);clear hK K
    refine ab.bC ?_
    simp only[ar,U,simprocAttr]
    refine ⟨fun h =>?_,fun h =>?_⟩
    ·refine .ao (by decide +kernel) fun K hK =>?_
     simp only[xv,U,simprocAttr]
     refine .done (hK _ ?_);clear hK K
     refine ab.ret ?_
     simp only[bN,aq,U,simprocAttr]
     rw[oh i hlt]
     ·simp
     ·simp only[cq,hb,Bool.false_and]
    ·cases h
   ·try simp only[bn,jy 1 m hlt rfl,eP m hlt,U,simprocAttr]
    refine .done (hK _ ?_);clear hK K
    refine ab.bC ?_
    simp only[ar,U,simprocAttr]
    refine ⟨fun h =>?_,fun h =>?_⟩
    ·refine .ao (by decide +kernel) fun K hK =>?_
     simp only[xv,U,simprocAttr]
     refine .done (hK _ ?_);clear hK K
     refine ab.ret ?_
     simp only[bN,aq,U,simprocAttr]
     rw[oh i hlt]
     ·simp
     ·simp only[cq,hb,Bool.true_and,hE,oj,shl]
      simpa using h
    ·refine ab.skip ?_;try simp only[aq,bN,simprocAttr]
     refine .bl (by decide +kernel) fun K hK =>?_
     simp only[J3,U,simprocAttr]
     refine .done (hK _ ?_);clear hK K;try simp only[aq]
     refine ⟨i+1,⟨by omega,fun k hk =>?_⟩,by omega,?_⟩
     ·by_cases hk':k=i
      ·subst hk'
       simp only[cq,hb,Bool.true_and,hE,oj,shl]
       simpa using h
      ·exact hi.2 k (by omega)
     ·rw[cA _ (by omega) (by omega)]
      refine aD.bM ?_ ?_ ?_ ?_ <;>simp[aV,bF,bE,a7,au,aY,ct,I.only,ai.only,bh]
  ·have hge:i=5:=by simp at h;omega
   subst hge
   refine ab.exit ?_;try simp only[aq,bN,simprocAttr]
   refine .ao (by decide +kernel) fun K hK =>?_
   simp only[J4,U,simprocAttr]
   refine .done (hK _ ?_);clear hK K
   refine ab.ret ?_
   simp only[U,simprocAttr]
   rw[qH hi.2]
   simp
theorem Ag(a b:List Int):aA Tryz.prog 20 [enc a,enc b] (enc (decide (a=b))):=by
 refine aA.bA Tryz.func20 SW UR WY (Nat.le_of_ble_eq_true rfl) (fun hwf W0 D0 E1 =>?_)
 simp only[B3,M9,bp,Nat.zero_add]
 have hlen:a.length≤maxLen:=((kJ a).1 hwf.1).1
 simp only[maxLen] at hlen
 refine .ao (by decide +kernel) fun K hK =>?_
 simp only[HU,U,simprocAttr]
 refine .done (hK _ ?_);clear hK K
 refine ab.seq (ab.seq ?_)
 refine .bl (by decide +kernel) fun K hK =>?_
 simp only[HV,U,simprocAttr]
 try simp only[bn,U,simprocAttr]
 refine .done (hK _ ?_);clear hK K;try simp only[aq]
 refine ab.bC ?_
 simp only[ar,U,simprocAttr]
 refine ⟨fun h =>?_,fun h =>?_⟩
 ·refine .ao (by decide +kernel) fun K hK =>?_
  simp only[HW,U,simprocAttr]
  refine .done (hK _ ?_);clear hK K
  refine ab.ret ?_
  simp only[aq,U,simprocAttr]
  simp at h
  have:a≠b:=fun e=>h (by rw[e])
  simp[this]
 ·have hab:a.length=b.length:=by simp at h;omega
  refine ab.skip ?_;try simp only[aq,simprocAttr]
  refine ab.seq ?_
  refine .ao (by decide +kernel) fun K hK =>?_
  simp only[HX,U,simprocAttr]
  refine .done (hK _ ?_);clear hK K
  refine ab.block (ab.loop (fun i:Nat=>av [(0,enc a),(1,enc b),(5,.int .i64 i)] []) (fun i=>i≤a.length∧a.take i=b.take i) (fun i=>a.length-i) 0 ⟨Nat.zero_le _,by simp⟩ ?_ (fun i hi =>?_))
  ·refine aD.bM ?_ ?_ ?_ ?_ <;>simp[aV,bF,bE,a7,aY,I.only,bh]
  ·refine ab.seq (ab.seq ?_)
   refine .bl (by decide +kernel) fun K hK =>?_
   simp only[HY,U,simprocAttr]
   try simp only[bn,U,simprocAttr]
   refine .done (hK _ ?_);clear hK K;try simp only[aq]
   refine ab.bC ?_
   simp only[ar,U,simprocAttr]
   refine ⟨fun h =>?_,fun h =>?_⟩
   ·have hlt:i<a.length:=by simpa using h
    have hlb:i<b.length:=by omega
    refine ab.skip ?_;try simp only[aq,simprocAttr]
    refine ab.seq (ab.block ?_)
    refine .ao (by decide +kernel) fun K hK =>?_
    simp only[HZ,U,simprocAttr]
    try simp only[fI 1 hlt rfl,fI 1 hlb rfl,U,simprocAttr]
    refine .done (hK _ ?_);clear hK K
    refine ab.bC ?_
    simp only[ar,U,simprocAttr]
    refine ⟨fun h =>?_,fun h =>?_⟩
    ·refine .ao (by decide +kernel) fun K hK =>?_
     simp only[H0,U,simprocAttr]
     refine .done (hK _ ?_);clear hK K
     refine ab.ret ?_
     simp only[bN,aq,U,simprocAttr]
     have hne:a≠b:=fun e=>by subst e;simp at h
     simp[hne]
    ·refine ab.skip ?_;try simp only[aq,bN,simprocAttr]
     refine .bl (by decide +kernel) fun K hK =>?_
     simp only[H2,U,simprocAttr]
     refine .done (hK _ ?_);clear hK K;try simp only[aq]
     refine ⟨i+1,⟨by omega,?_⟩,by omega,?_⟩
     ·rw[List.take_succ_eq_append_getElem hlt,List.take_succ_eq_append_getElem hlb,hi.2]
      simp at h
      rw[h]
     ·rw[cA _ (by omega) (by omega)]
      refine aD.bM ?_ ?_ ?_ ?_ <;>simp[aV,bF,bE,a7,aY,I.only,bh]
   ·have hge:i=a.length:=by simp at h;omega
    refine ab.exit ?_;try simp only[aq,bN,simprocAttr]
    refine .ao (by decide +kernel) fun K hK =>?_
    simp only[H3,U,simprocAttr]
    refine .done (hK _ ?_);clear hK K
    refine ab.ret ?_
    simp only[U,simprocAttr]
    have:a=b:=by
     have:=hi.2
     rw[hge,List.take_length] at this
     rw[hab,List.take_length] at this
     exact this
    simp[this]
def cZ(m:bZ)(i:Nat):b9:=m.given.getD i ⟨0,⟨List.replicate 6 0,rfl⟩⟩
theorem jx{m:bZ}{i:Nat}(h:i<m.given.length):m.given[i]=cZ m i:=by simp[cZ,List.getD_eq_getElem?_getD,h]
theorem xU{A:af}{m:bZ}{i:Nat}(h:i<m.given.length):iM A 7 (i:Int) (enc m.given)=some (.ref (enc (cZ m i))):=by
 rw[fI 7 h rfl,jx h]
def im(w:aS 5 Int):Bool:=(List.range 5).all (fun i=>cq 0 31 (w.g i)&&hE (w.g i) i)
theorem QB(w:aS 5 Int):aA Tryz.prog 99 [enc w] (enc (if im w then (0:Int) else 11)):=QA w
theorem Pm(m:aS 6 Int):aA Tryz.prog 100 [enc m] (enc (if dT m then (0:Int) else 10)):=Pl m
def kb(m:bZ)(a b:aS 6 Int):Bool:=decide ((eG (iV m.eL a b) 6:Int)≤IntKind.i64.wrap (2*m.eH))
def gR(m:bZ)(i:Nat):Bool:=cq 1 99 (cZ m i).bP&&(dT (cZ m i).mark&&((i==0||decide ((cZ m (i-1)).bP<(cZ m i).bP))&&(List.range i).all (fun j => !kb m (cZ m j).mark (cZ m i).mark)))
def en(m:bZ):Bool:=im m.eL&&(cq 0 2 m.eH&&(decide (m.given.length≤40)&&(List.range m.given.length).all (gR m)))
theorem yH{m:bZ}{i:Nat}(h:gR m i=true):dT (cZ m i).mark=true:=by
 simp only[gR,Bool.and_eq_true] at h
 exact h.2.1
def nv(w:aS 5 Int)(a:aS 6 Int)(r:aS 6 Int)(i:Nat):Bool:=oj (w.g (a.g i).toNat) (r.g i)==0
def lI(w:aS 5 Int)(a r:aS 6 Int):Int:=(eG (nv w a r) 6:Int)
theorem ami(w:aS 5 Int)(a b:aS 6 Int)(ha:dT a=true):aA Tryz.prog 102 [enc w,enc a,enc b] (enc (lI w a b)):=by
 refine aA.bA Tryz.func102 RU TN VU (Nat.le_of_ble_eq_true rfl) (fun hwf W0 D0 E1 =>?_)
 simp only[AW,L5,bp,Nat.zero_add,Nat.reduceAdd]
 refine .ao (by decide +kernel) fun K hK =>?_
 simp only[Eg,U,simprocAttr]
 refine .done (hK _ ?_);clear hK K
 refine .ao (by decide +kernel) fun K hK =>?_
 simp only[Ei,U,simprocAttr]
 refine .done (hK _ ?_);clear hK K
 refine ab.seq (ab.seq ?_)
 refine .bl (by decide +kernel) fun K hK =>?_
 simp only[Ej,U,simprocAttr]
 refine .done (hK _ ?_);clear hK K;try simp only[aq]
 refine ab.block (ab.loop (fun i:Nat=>av [(3,.ptr 3 []),(4,.ptr 4 []),(5,.ptr 5 []),(7,.int .i64 (eG (nv w a b) i)),(8,.int .i64 i)] [(3,.box (enc w)),(4,.box (enc a)),(5,.box (enc b))]) (fun i=>i≤6) (fun i=>6-i) 0 (by omega) ?_ (fun i hi =>?_))
 ·simp only[eG]
  refine aD.bM ?_ ?_ ?_ ?_ <;>simp[aV,bF,bE,a7,au,aY,ct,I.only,ai.only,bh]
 ·have hc:=vR (nv w a b) i
  refine ab.seq (ab.seq ?_)
  refine .bl (by decide +kernel) fun K hK =>?_
  simp only[Ek,U,simprocAttr]
  refine .done (hK _ ?_);clear hK K;try simp only[aq]
  refine ab.bC ?_
  simp only[ar,U,simprocAttr]
  refine ⟨fun h =>?_,fun h =>?_⟩
  ·have hlt:i<6:=by simp at h;omega
   have h1:=nR ha hlt
   refine ab.skip ?_;try simp only[aq,simprocAttr]
   refine ab.seq (ab.block ?_)
   refine .ao (by decide +kernel) fun K hK =>?_
   simp only[El,U,simprocAttr]
   have k1:(a.g i).toNat<5:=by omega
   try simp only[bn,jy 1 a hlt rfl,eP a hlt,U,simprocAttr]
   try simp only[bn,gm 1 w h1 rfl,eP w k1,U,simprocAttr]
   try simp only[bn,jy 1 b hlt rfl,eP b hlt,U,simprocAttr]
   refine .done (hK _ ?_);clear hK K
   refine ab.bC ?_
   simp only[ar,U,simprocAttr]
   refine ⟨fun h =>?_,fun h =>?_⟩
   ·have hap:nv w a b i=true:=h
    refine .bl (by decide +kernel) fun K hK =>?_
    simp only[Em,U,simprocAttr]
    refine .done (hK _ ?_);clear hK K;try simp only[aq,bN]
    refine .bl (by decide +kernel) fun K hK =>?_
    simp only[wB,U,simprocAttr]
    refine .done (hK _ ?_);clear hK K;try simp only[aq]
    refine ⟨i+1,by omega,by omega,?_⟩
    rw[cA _ (by omega) (by omega),cA _ (by omega) (by omega)]
    simp only[eG,hap,if_true]
    refine aD.bM ?_ ?_ ?_ ?_ <;>simp[aV,bF,bE,a7,au,aY,ct,I.only,ai.only,bh]
   ·have hap:nv w a b i=false:=h
    refine ab.skip ?_;try simp only[aq,bN,simprocAttr]
    refine .bl (by decide +kernel) fun K hK =>?_
    simp only[wB,U,simprocAttr]
    refine .done (hK _ ?_);clear hK K;try simp only[aq]
    refine ⟨i+1,by omega,by omega,?_⟩
    rw[cA _ (by omega) (by omega)]
    simp only[eG,hap,Bool.false_eq_true,if_false]
    refine aD.bM ?_ ?_ ?_ ?_ <;>simp[aV,bF,bE,a7,au,aY,ct,I.only,ai.only,bh]
  ·have hge:i=6:=by simp at h;omega
   subst hge
   refine ab.exit ?_;try simp only[aq,bN,simprocAttr]
   refine .ao (by decide +kernel) fun K hK =>?_
   simp only[En,U,simprocAttr]
   refine .done (hK _ ?_);clear hK K
   refine ab.ret ?_
   simp only[U,simprocAttr]
   rfl
structure yI (m:bZ):Prop where
 len:m.given.length≤1099511627776
 mark:∀ g∈m.given,dT g.mark=true
theorem Qw(m:bZ)(k:aS 6 Int)(hm:yI m)(hk:dT k=true):aA Tryz.prog 87 [enc m,enc k] (enc (m.given.any fun g=>decide ((eG (iV m.eL g.mark k) 6:Int)≤IntKind.i64.wrap (2*m.eH)))):=by
 refine aA.bA Tryz.func87 Tz Vu XC (Nat.le_of_ble_eq_true rfl) (fun hwf W0 D0 E1 =>?_)
 simp only[CE,NP,bp,Nat.zero_add]
 have hlen:=hm.len
 refine .ao (by decide +kernel) fun K hK =>?_
 simp only[Jx,U,simprocAttr]
 refine .done (hK _ ?_);clear hK K
 refine ab.seq ?_
 refine .ao (by decide +kernel) fun K hK =>?_
 simp only[Jy,U,simprocAttr]
 refine .done (hK _ ?_);clear hK K
 refine ab.block (ab.loop (fun i:Nat=>av [(2,.ptr 2 []),(3,.ptr 3 []),(5,.int .i64 i)] [(2,.box (enc m)),(3,.box (enc k))]) (fun i=>i≤m.given.length∧∀ j (h:j<m.given.length),j<i→(decide ((eG (iV m.eL m.given[j].mark k) 6:Int)≤IntKind.i64.wrap (2*m.eH)))=false) (fun i=>m.given.length-i) 0 ⟨by omega,fun k _ h=>by omega⟩ ?_ (fun i hi =>?_))
 ·refine aD.bM ?_ ?_ ?_ ?_ <;>simp[aV,bF,bE,a7,au,aY,ct,I.only,ai.only,bh]
 ·refine ab.seq (ab.seq ?_)
  refine .bl (by decide +kernel) fun K hK =>?_
  simp only[Jz,U,simprocAttr]
  try simp only[cD,bn,U,simprocAttr]
  refine .done (hK _ ?_);clear hK K;try simp only[aq]
  refine ab.bC ?_
  simp only[ar,U,simprocAttr]
  refine ⟨fun h =>?_,fun h =>?_⟩
  ·have hlt:i<m.given.length:=by simpa using h
   refine ab.skip ?_;try simp only[aq,simprocAttr]
   refine ab.seq (ab.block ?_)
   refine .ao (by decide +kernel) fun K hK =>?_
   simp only[JA,U,simprocAttr]
   try simp only[cD,fI 7 hlt rfl,cH,U,simprocAttr]
   refine .flat _ (Px m.eL m.given[i].mark k (hm.mark _ (List.getElem_mem _)) hk) rfl ?_
   try simp only[cD,U,simprocAttr]
   refine .done (hK _ ?_);clear hK K
   refine ab.bC ?_
   simp only[ar,U,simprocAttr]
   refine ⟨fun h =>?_,fun h =>?_⟩
   ·refine .ao (by decide +kernel) fun K hK =>?_
    simp only[JB,U,simprocAttr]
    refine .done (hK _ ?_);clear hK K
    refine ab.ret ?_
    simp only[bN,aq,U,simprocAttr]
    have:(m.given.any fun g=>decide ((eG (iV m.eL g.mark k) 6:Int)≤IntKind.i64.wrap (2*m.eH)))=true:=List.any_eq_true.2 ⟨_,List.getElem_mem hlt,h⟩
    rw[this]
   ·refine ab.skip ?_;try simp only[aq,bN,simprocAttr]
    refine .bl (by decide +kernel) fun K hK =>?_
    simp only[JC,U,simprocAttr]
    refine .done (hK _ ?_);clear hK K;try simp only[aq]
    refine ⟨i+1,⟨by omega,fun j hj hji =>?_⟩,by omega,?_⟩
    ·by_cases hj':j=i
     ·subst hj';exact h
     ·exact hi.2 j hj (by omega)
    ·rw[cA _ (by omega) (by omega)]
     refine aD.bM ?_ ?_ ?_ ?_ <;>simp[aV,bF,bE,a7,au,aY,ct,I.only,ai.only,bh]
  ·have hge:i=m.given.length:=by simp at h;omega
   refine ab.exit ?_;try simp only[aq,bN,simprocAttr]
   refine .ao (by decide +kernel) fun K hK =>?_
   simp only[JD,U,simprocAttr]
   refine .done (hK _ ?_);clear hK K
   refine ab.ret ?_
   simp only[U,simprocAttr]
   have:(m.given.any fun g=>decide ((eG (iV m.eL g.mark k) 6:Int)≤IntKind.i64.wrap (2*m.eH)))=false:=by
    rw[List.any_eq_false]
    intro x hx
    obtain ⟨j,hj,rfl⟩:=List.getElem_of_mem hx
    simpa using hi.2 j hj (by omega)
   rw[this]
theorem ajU{m:bZ}(h:en m=true):yI m:=by
 simp only[en,Bool.and_eq_true,decide_eq_true_eq,List.all_eq_true,List.mem_range] at h
 refine ⟨by omega,fun g hg =>?_⟩
 obtain ⟨i,hi,rfl⟩:=List.getElem_of_mem hg
 rw[jx hi]
 exact yH (h.2.2.2 i hi)
def il(r:aS 6 Int):Bool:=(List.range 6).all fun i=>cq 1 31 (r.g i)
theorem yw:I.slice 1 []=enc ([]:List Int):=rfl
def lv:aS 6 Int:=⟨List.replicate 6 0,rfl⟩
theorem ou:I.agg [.int .i64 0,.int .i64 0,.int .i64 0,.int .i64 0,.int .i64 0,.int .i64 0]=enc lv:=rfl
instance:oe b9:=⟨fun g=>by
 show (I.agg [.int .i64 g.bP,enc g.mark]).cP=true
 simp only[I.cP,I.jd,Du,Bool.and_self]⟩
def fC:b9:=⟨0,lv⟩
theorem v8:I.agg [.int .i64 0,.agg [.int .i64 0,.int .i64 0,.int .i64 0,.int .i64 0,.int .i64 0,.int .i64 0]]=enc fC:=rfl
theorem mL(p:Nat→Bool)(l:List b9):(I.agg (l.map enc)).only p=true:=by simp only[I.only];exact dN p l
theorem aiu(l:List b9):(I.agg (l.map enc)).cP=true:=by simp only[I.cP];exact x7 l
def iR(k:Nat)(l:List b9)(m:Nat):List (Nat×ai):=[(k,.box (.agg ((l++List.replicate m fC).map enc)))]
def vN(l:List b9):cR:=fun r os'=>(l=[]∧(r=.nils 7∨r=.c0 7)∧os'=[])∨(l≠[]∧∃ m,r=.view 7 [] 7 0 l.length∧os'=iR 7 l m)
theorem Ac(l:List b9)(hl:l.length≤1000):cF Tryz.prog 167 [enc l] [] (vN l):=by
 refine cF.bA Tryz.func167 SE Uz WE (Nat.le_of_ble_eq_true rfl) (Nat.le_of_ble_eq_true rfl) (fun m hm=>by simp[au,al] at hm) (fun hwf W0 D0 E1 =>?_)
 simp only[BJ,MQ,bp]
 refine .ao (by decide +kernel) fun K hK =>?_
 simp only[GF,U,simprocAttr]
 refine .done (hK _ ?_);clear hK K
 refine ab.seq (ab.seq ?_)
 by_cases hn:l=[]
 ·subst hn
  refine .bl (by decide +kernel) fun K hK =>?_
  simp only[wY,U,simprocAttr]
  simp only[uV,List.isEmpty_nil,qc]
  refine .any rfl fun b _ =>?_
  try simp only[U,simprocAttr]
  generalize (b==0)=t
  cases t
  ·refine .done (hK _ ?_);clear hK K;try simp only[aq]
   refine ab.bC ?_
   simp only[ar,U,simprocAttr]
   refine ⟨fun h =>?_,fun h =>?_⟩
   ·cases h
   refine ab.skip ?_;try simp only[aq,simprocAttr]
   refine .ao (by decide +kernel) fun K hK =>?_
   simp only[wZ,U,simprocAttr]
   try simp only[dp,v8,U,simprocAttr]
   refine .done (hK _ ?_);clear hK K
   refine ab.ret ?_
   simp only[eY]
   exact ⟨[],[.c0 7],rh,⟨⟨.c0 7,rfl,.inl ⟨rfl,rfl,rfl⟩⟩,trivial⟩,.inl ⟨rfl,.inr rfl,rfl⟩⟩
  ·refine .done (hK _ ?_);clear hK K
   refine ab.bC ?_
   simp only[ar,U,simprocAttr]
   refine ⟨fun h =>?_,fun h =>?_⟩
   ·refine .ao (by decide +kernel) fun K hK =>?_
    simp only[GG,U,simprocAttr]
    refine .done (hK _ ?_);clear hK K
    refine ab.ret ?_
    simp only[aq,eY]
    exact ⟨[],[.nils 7],rh,⟨⟨.nils 7,rfl,.inl ⟨rfl,rfl,rfl⟩⟩,trivial⟩,.inl ⟨rfl,.inl rfl,rfl⟩⟩
   ·cases h
 ·have hu:kc (enc l)=false:=by rw[uV];simpa using hn
  refine .bl (by decide +kernel) fun K hK =>?_
  simp only[wY,U,simprocAttr]
  try simp only[hu,K9 _ l hn,U,simprocAttr]
  refine .done (hK _ ?_);clear hK K;try simp only[aq]
  refine ab.bC ?_
  simp only[ar,U,simprocAttr]
  refine ⟨fun h =>?_,fun h =>?_⟩
  ·cases h
  refine ab.skip ?_;try simp only[aq,simprocAttr]
  refine .ao (by decide +kernel) fun K hK =>?_
  simp only[wZ,U,simprocAttr]
  try simp only[dp,v8,U,simprocAttr]
  refine a8.vp fC rfl hn rfl (by omega) (by simp only[maxLen];omega) fun m =>?_
  try simp only[U,simprocAttr]
  refine .done (hK _ ?_);clear hK K
  refine ab.ret ?_
  simp only[eY]
  exact ⟨iR 7 l m,[.view 7 [] 7 0 l.length],kp rfl (fun p=>mL p _),⟨⟨_,rfl,.inl ⟨rfl,rfl,rfl⟩⟩,trivial⟩,.inr ⟨hn,m,rfl,rfl⟩⟩
def gX{n:Nat}(x:aS n Int)(k:Nat)(v:Int):aS n Int:=⟨x.l.set k v,by simp[x.h]⟩
theorem oA{n:Nat}(x:aS n Int)(k j:Nat)(v:Int)(h:k<n):(gX x k v).g j=if k=j then v else x.g j:=by
 simp only[aS.g,gX,List.getD_eq_getElem?_getD,List.getElem?_set]
 by_cases hkj:k=j
 ·subst hkj;simp[x.lt h]
 ·simp[hkj]
theorem alf{n k:Nat}(x:aS n Int)(h:k<n)(v:Int):(enc x:I).dz [k] (.int .i64 v)=enc (gX x k v):=by
 have h1:(enc x:I).du=some (x.l.map enc):=rfl
 rw[Ow,h1]
 simp only[rY,rf x h,uN,gi]
 change I.agg _=I.agg ((x.l.set k v).map enc)
 rw[List.map_set];rfl
theorem o9{A:af}{n m k:Nat}(x:aS m Int)(h:k<m){v u:Int}{rest:List aB} : dQ A none n [k] (enc x) (.int .i64 v) rest (some (.int .i64 u))=az rest (A.aK n (.box (enc (gX x k v)))):=by
 rw[ev (s:=none) (v:=.int .i64 v) (old:=.int .i64 u) rfl rfl rfl,alf x h]
def ij(n:Int):Nat→Int
 |0=>n
 |k+1=>(ij n k).tdiv 5
def ki(n:Int):Nat→aS 6 Int
 |0=>lv
 |k+1=>gX (ki n k) (5-k) ((ij n k).tmod 5)
theorem K8(n:Int)(h:-9223372036854775808≤n∧n≤9223372036854775807):∀ k,-9223372036854775808≤ij n k∧ij n k≤9223372036854775807
 |0=>h
 |k+1=>by
  have:=K8 n h k
  simp only[ij]
  rcases Int.le_total 0 (ij n k) with h0 | h0
  ·rw[Int.tdiv_eq_ediv_of_nonneg h0];omega
  ·have:(ij n k).tdiv 5=-((-(ij n k)) / 5):=by
    rw[←Int.tdiv_eq_ediv_of_nonneg (by omega),Int.neg_tdiv,Int.neg_neg]
   omega
theorem Qv(n:Int):aA Tryz.prog 86 [enc n] (enc (ki n 6)):=by
 refine aA.bA Tryz.func86 Ty Vt XB (Nat.le_of_ble_eq_true rfl) (fun hwf W0 D0 E1 =>?_)
 simp only[CD,NO,bp]
 have hin:=K8 n ((al3 n).1 hwf.1)
 have h5:¬ (5:Int)=0:=by decide
 refine .ao (by decide +kernel) fun K hK =>?_
 simp only[Jp,U,simprocAttr]
 refine .done (hK _ ?_);clear hK K
 refine .ao (by decide +kernel) fun K hK =>?_
 simp only[Jq,U,simprocAttr]
 simp only[ou]
 refine .done (hK _ ?_);clear hK K
 refine ab.seq (ab.seq ?_)
 refine .bl (by decide +kernel) fun K hK =>?_
 simp only[Jr,U,simprocAttr]
 refine .done (hK _ ?_);clear hK K;try simp only[aq]
 refine ab.block (ab.loop (fun k:Nat=>av [(0,.int .i64 (ij n k)),(2,.ptr 2 []),(3,.ptr 3 []),(4,.int .i64 (5-k))] [(2,.box (enc lv)),(3,.box (enc (ki n k)))]) (fun k=>k≤6) (fun k=>6-k) 0 (by omega) ?_ (fun k hk =>?_))
 ·refine aD.bM ?_ ?_ ?_ ?_ <;>simp[aV,bF,bE,a7,au,aY,ct,I.only,ai.only,bh]
  all_goals rfl
 refine ab.seq (ab.seq ?_)
 refine .bl (by decide +kernel) fun K hK =>?_
 simp only[Js,U,simprocAttr]
 refine .done (hK _ ?_);clear hK K;try simp only[aq]
 refine ab.bC ?_
 simp only[ar,U,simprocAttr]
 refine ⟨fun h =>?_,fun h =>?_⟩
 ·have hlt:k<6:=by simp at h;omega
  have hd:=hin k
  have e1:((5:Int)-k).toNat=5-k:=by omega
  have hlt':5-k<6:=by omega
  refine ab.skip ?_;try simp only[aq,simprocAttr]
  refine ab.seq (ab.block ?_)
  refine .ao (by decide +kernel) fun K hK =>?_
  simp only[Jt,U,simprocAttr]
  try simp only[bn,gm 1 (ki n k) (show (0:Int)≤5-k∧(5:Int)-k<(6:Nat) by omega) rfl,e1,eP (ki n k) hlt',o9 (ki n k) hlt',U,simprocAttr]
  refine .done (hK _ ?_);clear hK K
  refine .bl (by decide +kernel) fun K hK =>?_
  simp only[Ju,U,simprocAttr]
  try simp only[h5,U,simprocAttr]
  refine .done (hK _ ?_);clear hK K;try simp only[aq,bN]
  refine .bl (by decide +kernel) fun K hK =>?_
  simp only[Jv,U,simprocAttr]
  refine .done (hK _ ?_);clear hK K;try simp only[aq]
  refine ⟨k+1,by omega,by omega,?_⟩
  have hq:=hin (k+1)
  simp only[ij] at hq
  rw[cA _ (by omega) (by omega),cA _ hq.1 hq.2]
  have e2:(5:Int)-k-1=5-((k+1:Nat):Int):=by omega
  rw[e2]
  simp only[ij,ki]
  refine aD.bM ?_ ?_ ?_ ?_ <;>simp[aV,bF,bE,a7,au,aY,ct,I.only,ai.only,bh]
 ·have hge:k=6:=by simp at h;omega
  subst hge
  refine ab.exit ?_;try simp only[aq,bN,simprocAttr]
  refine .ao (by decide +kernel) fun K hK =>?_
  simp only[Jw,U,simprocAttr]
  try simp only[cD,U,simprocAttr]
  rw[ev (dq _) (by rw[fZ];rfl) ((eQ _).trans (eQ _).symm)]
  try simp only[U,simprocAttr]
  refine .done (hK _ ?_);clear hK K
  refine ab.ret ?_
  simp only[U,simprocAttr]
  try simp only[cD,cH,U,simprocAttr]
theorem xT{A:af}{l:List Int}{i:Nat}(h:i<l.length):iM A 1 (i:Int) (enc l)=some (.ref (.int .i64 (l.getD i 0))):=by
 rw[fI 1 h rfl]
 simp[List.getD_eq_getElem?_getD,h,jw]
theorem ym{w:Int}{k:Nat}(h:hE w k=true):∀ n,k<n→(k:Int)∈gP w n
 |0,h=>absurd h (by omega)
 |n+1,hk=>by
  simp only[gP,List.mem_append]
  rcases Nat.lt_or_ge k n with h1 | h1
  ·exact .inl (ym h n h1)
  ·have:k=n:=by omega
   subst this
   right;simp[h]
theorem yk{w:Int} : ∀ n,∀ x∈gP w n,0≤x∧x<n
 |0=>by simp[gP]
 |n+1=>by
  intro x hx
  simp only[gP,List.mem_append] at hx
  rcases hx with hx | hx
  ·have:=yk n x hx;omega
  ·split at hx
   ·simp only[List.mem_singleton] at hx;omega
   ·cases hx
theorem Ly{w:aS 5 Int}(h:im w=true){k:Nat}(hk:k<5):(0≤w.g k∧w.g k≤31)∧hE (w.g k) k=true:=by
 simp only[im,List.all_eq_true,List.mem_range,Bool.and_eq_true] at h
 have:=h k hk
 simp only[cq,Bool.and_eq_true,decide_eq_true_eq] at this
 exact this
def lJ(cuts:List Int)(i n:Nat):Nat:=if 0<cuts.length then (((cuts.getD (i%cuts.length) 0).tmod n+n).tmod n).toNat else 0
def jl(w:aS 5 Int)(a:aS 6 Int)(i:Nat):List Int:=gP (w.g (a.g i).toNat) 5
def sa(w:aS 5 Int)(a:aS 6 Int)(cuts:List Int)(i:Nat):Int:=shl 1 ((jl w a i).getD (lJ cuts i (jl w a i).length) 0).toNat
def kd(w:aS 5 Int)(a:aS 6 Int)(cuts:List Int):Nat→aS 6 Int
 |0=>lv
 |i+1=>gX (kd w a cuts i) i (sa w a cuts i)
def ph(w:aS 5 Int)(a:aS 6 Int)(cuts:List Int):aS 6 Int×Int:=if im w then (if dT a then (kd w a cuts 6,0) else (lv,10)) else (lv,11)
theorem Dd(cuts:List Int)(i:Nat){n:Nat}(hn:0<n):lJ cuts i n<n:=by
 unfold lJ
 split
 ·have h1:-(n:Int)<(cuts.getD (i%cuts.length) 0).tmod n:=by
   have:=Int.tmod_lt_of_pos (-(cuts.getD (i%cuts.length) 0)) (show (0:Int)<n by omega)
   rw[Int.neg_tmod] at this;omega
  have h2:=Int.tmod_lt_of_pos ((cuts.getD (i%cuts.length) 0).tmod n+n) (show (0:Int)<n by omega)
  have h3:0≤((cuts.getD (i%cuts.length) 0).tmod n+n).tmod n:=Int.tmod_nonneg _ (by omega)
  omega
 ·exact hn
structure Item where
 fe:Int
 no:Int
 deriving DecidableEq
instance:Enc Item where
 enc x:=.agg [.int .i64 x.fe,.int .i64 x.no]
 sz:=2
 aP:=.ej [.one,.one]
 gn:=true
 done _:=rfl
 size _:=by simp[I.size,I.sizes]
 kG _:=by simp[I.aP,I.cK]
 agg _:=rfl
structure ak where
 aX:Item
 kind:Int
 day:Int
 known:Int
 ef:Int
 e7:Int
 dA:Int
 bP:Int
 cm:aS 6 Int
 j0:Item
instance:Enc ak where
 enc e:=.agg [enc e.aX,.int .i64 e.kind,.int .i64 e.day,.int .i64 e.known,.int .i64 e.ef,.int .i64 e.e7,.int .i64 e.dA,.int .i64 e.bP,enc e.cm,enc e.j0]
 sz:=17
 aP:=.ej [.ej [.one,.one],.one,.one,.one,.one,.one,.one,.one,.ej (List.replicate 6 .one),.ej [.one,.one]]
 gn:=true
 done e:=by simp only[I.done,I.e9,Enc.done,Bool.and_self]
 size e:=by simp only[I.size,I.sizes,fG,kR,kS];rfl
 kG e:=by simp only[I.aP,I.cK,eQ,sT,sU];rfl
 agg _:=rfl
structure aU where
 no:Int
 dA:Int
 e7:Int
 bP:Int
 jR:Int
 born:Int
 dU:Int
 found:Bool
 cm:List (aS 6 Int)
instance:Enc aU where
 enc b:=.agg [.int .i64 b.no,.int .i64 b.dA,.int .i64 b.e7,.int .i64 b.bP,.int .i64 b.jR,.int .i64 b.born,.int .i64 b.dU,.bool b.found,enc b.cm]
 sz:=9
 aP:=.ej [.one,.one,.one,.one,.one,.one,.one,.one,.one]
 gn:=true
 done e:=by simp only[I.done,I.e9,Enc.done,Bool.and_self]
 size e:=by simp only[I.size,I.sizes,fG,pG]
 kG e:=by simp only[I.aP,I.cK,eQ,Dw]
 agg _:=rfl
theorem qT:Enc.sz Item=2:=rfl
theorem Zd:Enc.sz ak=17:=rfl
theorem Dy:Enc.sz aU=9:=rfl
theorem Zb:Enc.gn Item=true:=rfl
theorem Za:Enc.gn ak=true:=rfl
theorem Y9:Enc.gn aU=true:=rfl
theorem ahW(fs:List I)(x:I):(x::fs)[0]?=some x:=rfl
theorem ah6(fs:List I)(x:I)(n:Nat):(x::fs)[n+1]?=fs[n]?:=rfl
theorem ahX(fs:List I)(x:I):(x::fs)[1]?=fs[0]?:=rfl
theorem ahY(fs:List I)(x:I):(x::fs)[2]?=fs[1]?:=rfl
theorem ahZ(fs:List I)(x:I):(x::fs)[3]?=fs[2]?:=rfl
theorem ah0(fs:List I)(x:I):(x::fs)[4]?=fs[3]?:=rfl
theorem ah1(fs:List I)(x:I):(x::fs)[5]?=fs[4]?:=rfl
theorem ah2(fs:List I)(x:I):(x::fs)[6]?=fs[5]?:=rfl
theorem ah3(fs:List I)(x:I):(x::fs)[7]?=fs[6]?:=rfl
theorem ah4(fs:List I)(x:I):(x::fs)[8]?=fs[7]?:=rfl
theorem ah5(fs:List I)(x:I):(x::fs)[9]?=fs[8]?:=rfl
theorem ajL(x:I)(fs:List I)(v:I):ec (x::fs) 0 0 v=some v:=l5 (by simp) (by simp[I.sizes])
theorem Lj(a b:Item)(n1 n2 n3 n4 n5 n6 n7:Int)(s:aS 6 Int)(v:I) :
  (ec [enc a,.int .i64 n1,.int .i64 n2,.int .i64 n3,.int .i64 n4,.int .i64 n5,.int .i64 n6,.int .i64 n7,enc s,enc b] 1 2 v=some v) ∧
  (ec [enc a,.int .i64 n1,.int .i64 n2,.int .i64 n3,.int .i64 n4,.int .i64 n5,.int .i64 n6,.int .i64 n7,enc s,enc b] 2 3 v=some v) ∧
  (ec [enc a,.int .i64 n1,.int .i64 n2,.int .i64 n3,.int .i64 n4,.int .i64 n5,.int .i64 n6,.int .i64 n7,enc s,enc b] 3 4 v=some v) ∧
  (ec [enc a,.int .i64 n1,.int .i64 n2,.int .i64 n3,.int .i64 n4,.int .i64 n5,.int .i64 n6,.int .i64 n7,enc s,enc b] 4 5 v=some v) ∧
  (ec [enc a,.int .i64 n1,.int .i64 n2,.int .i64 n3,.int .i64 n4,.int .i64 n5,.int .i64 n6,.int .i64 n7,enc s,enc b] 5 6 v=some v) ∧
  (ec [enc a,.int .i64 n1,.int .i64 n2,.int .i64 n3,.int .i64 n4,.int .i64 n5,.int .i64 n6,.int .i64 n7,enc s,enc b] 6 7 v=some v) ∧
  (ec [enc a,.int .i64 n1,.int .i64 n2,.int .i64 n3,.int .i64 n4,.int .i64 n5,.int .i64 n6,.int .i64 n7,enc s,enc b] 7 8 v=some v) ∧
  (ec [enc a,.int .i64 n1,.int .i64 n2,.int .i64 n3,.int .i64 n4,.int .i64 n5,.int .i64 n6,.int .i64 n7,enc s,enc b] 8 9 v=some v) ∧
  (ec [enc a,.int .i64 n1,.int .i64 n2,.int .i64 n3,.int .i64 n4,.int .i64 n5,.int .i64 n6,.int .i64 n7,enc s,enc b] 9 15 v=some v):=by
 refine ⟨?_,?_,?_,?_,?_,?_,?_,?_,?_⟩ <;>refine l5 (Nat.le_of_ble_eq_true rfl) ?_ <;>simp[I.sizes,I.size,fG,qT,kR,kS]
theorem ajK(n1 n2:Int)(v:I):ec [.int .i64 n1,.int .i64 n2] 1 1 v=some v:=l5 (Nat.le_of_ble_eq_true rfl) (by simp[I.sizes,I.size])
theorem Li(n0 n1 n2 n3 n4 n5 n6:Int)(f:Bool)(x:I)(v:I) :
  (ec [.int .i64 n0,.int .i64 n1,.int .i64 n2,.int .i64 n3,.int .i64 n4,.int .i64 n5,.int .i64 n6,.bool f,x] 1 1 v=some v) ∧
  (ec [.int .i64 n0,.int .i64 n1,.int .i64 n2,.int .i64 n3,.int .i64 n4,.int .i64 n5,.int .i64 n6,.bool f,x] 2 2 v=some v) ∧
  (ec [.int .i64 n0,.int .i64 n1,.int .i64 n2,.int .i64 n3,.int .i64 n4,.int .i64 n5,.int .i64 n6,.bool f,x] 3 3 v=some v) ∧
  (ec [.int .i64 n0,.int .i64 n1,.int .i64 n2,.int .i64 n3,.int .i64 n4,.int .i64 n5,.int .i64 n6,.bool f,x] 4 4 v=some v) ∧
  (ec [.int .i64 n0,.int .i64 n1,.int .i64 n2,.int .i64 n3,.int .i64 n4,.int .i64 n5,.int .i64 n6,.bool f,x] 5 5 v=some v) ∧
  (ec [.int .i64 n0,.int .i64 n1,.int .i64 n2,.int .i64 n3,.int .i64 n4,.int .i64 n5,.int .i64 n6,.bool f,x] 6 6 v=some v) ∧
  (ec [.int .i64 n0,.int .i64 n1,.int .i64 n2,.int .i64 n3,.int .i64 n4,.int .i64 n5,.int .i64 n6,.bool f,x] 7 7 v=some v) ∧
  (ec [.int .i64 n0,.int .i64 n1,.int .i64 n2,.int .i64 n3,.int .i64 n4,.int .i64 n5,.int .i64 n6,.bool f,x] 8 8 v=some v):=by
 refine ⟨?_,?_,?_,?_,?_,?_,?_,?_⟩ <;>refine l5 (Nat.le_of_ble_eq_true rfl) ?_ <;>simp[I.sizes,I.size]
theorem Zt(x:Item):(enc x).du=some [.int .i64 x.fe,.int .i64 x.no]:=rfl
theorem Zs(e:ak):(enc e).du=some [enc e.aX,.int .i64 e.kind,.int .i64 e.day,.int .i64 e.known,.int .i64 e.ef,.int .i64 e.e7,.int .i64 e.dA,.int .i64 e.bP,enc e.cm,enc e.j0]:=rfl
theorem Zr(b:aU):(enc b).du=some [.int .i64 b.no,.int .i64 b.dA,.int .i64 b.e7,.int .i64 b.bP,.int .i64 b.jR,.int .i64 b.born,.int .i64 b.dU,.bool b.found,enc b.cm]:=rfl
theorem LB(x:Item):bY (some 2) (enc x)=true:=by simp[fZ,Zb,qT]
theorem LA(x:ak):bY (some 17) (enc x)=true:=by simp[fZ,Za,Zd]
theorem ajZ(x:aU):bY (some 9) (enc x)=true:=by simp[fZ,Y9,Dy]
theorem Lz(x:aS 6 Int):bY (some 6) (enc x)=true:=by simp[fZ,wa,kR,kS]
theorem aj0(x:List ak):bY none (enc x)=true:=by simp[mD,ny]
theorem aj1(x:List Int):bY none (enc x)=true:=by simp[mD,ny]
theorem aj3(x:List (aS 6 Int)):bY none (enc x)=true:=by simp[mD,ny]
theorem aj2(x:List Item):bY none (enc x)=true:=by simp[mD,ny]
theorem qy :
  (∀ x:Item,(enc x).du=some [.int .i64 x.fe,.int .i64 x.no])∧(∀ e:ak,(enc e).du=some [enc e.aX,.int .i64 e.kind,.int .i64 e.day,.int .i64 e.known,.int .i64 e.ef,.int .i64 e.e7,.int .i64 e.dA,.int .i64 e.bP,enc e.cm,enc e.j0]) ∧
  (∀ b:aU,(enc b).du=some [.int .i64 b.no,.int .i64 b.dA,.int .i64 b.e7,.int .i64 b.bP,.int .i64 b.jR,.int .i64 b.born,.int .i64 b.dU,.bool b.found,enc b.cm]) ∧
  (∀ (x:I) fs v,ec (x::fs) 0 0 v=some v)∧(∀ n1 n2 v,ec [.int .i64 n1,.int .i64 n2] 1 1 v=some v) ∧
  (∀ x:Item,bY (some 2) (enc x)=true)∧(∀ x:ak,bY (some 17) (enc x)=true)∧(∀ x:aU,bY (some 9) (enc x)=true)∧(∀ x:aS 6 Int,bY (some 6) (enc x)=true)∧(∀ x:List ak,bY none (enc x)=true)∧(∀ x:List Int,bY none (enc x)=true) ∧
  (∀ x:List (aS 6 Int),bY none (enc x)=true)∧(∀ x:List Item,bY none (enc x)=true) ∧
  (∀ (fs:List I) x,(x::fs)[0]?=some x)∧(∀ (fs:List I) x n,(x::fs)[n+1]?=fs[n]?)∧(∀ (fs:List I) x,(x::fs)[1]?=fs[0]?)∧(∀ (fs:List I) x,(x::fs)[2]?=fs[1]?)∧(∀ (fs:List I) x,(x::fs)[3]?=fs[2]?)∧(∀ (fs:List I) x,(x::fs)[4]?=fs[3]?) ∧
  (∀ (fs:List I) x,(x::fs)[5]?=fs[4]?)∧(∀ (fs:List I) x,(x::fs)[6]?=fs[5]?)∧(∀ (fs:List I) x,(x::fs)[7]?=fs[6]?)∧(∀ (fs:List I) x,(x::fs)[8]?=fs[7]?)∧(∀ (fs:List I) x,(x::fs)[9]?=fs[8]?) :=
 ⟨Zt,Zs,Zr,fun x fs v=>ajL x fs v,ajK,LB,LA,ajZ,Lz,aj0,aj1,aj3,aj2,ahW,ah6,ahX,ahY,ahZ,ah0,ah1,ah2,ah3,ah4,ah5⟩
theorem Item.wi(a b:Item):a=b↔a.fe=b.fe∧a.no=b.no:=by cases a;cases b;simp
theorem qU(x y:Item):cu (.bu [.i .i64,.i .i64]) (enc x) (enc y)=some (decide (x=y)):=by
 show cu (.bu [.i .i64,.i .i64]) (.agg [.int .i64 x.fe,.int .i64 x.no]) (.agg [.int .i64 y.fe,.int .i64 y.no])=_
 simp[cu,iY,iF,Item.wi];rfl
theorem Ad(x:Int):aA Tryz.prog 194 [enc x] (enc false):=by
 refine aA.bA Tryz.func194 SP UL WS (Nat.le_of_ble_eq_true rfl) (fun hwf W0 D0 E1 =>?_)
 simp only[BV,M3,bp]
 refine .ao (by decide +kernel) fun K hK =>?_
 simp only[G2,U,simprocAttr]
 refine .done (hK _ ?_);clear hK K
 refine .ao (by decide +kernel) fun K hK =>?_
 simp only[G3,U,simprocAttr]
 refine .done (hK _ ?_);clear hK K
 refine ab.ret ?_
 simp only[U,simprocAttr]
 simp
def jv(x y:Int):Int:=if x<y then -1 else if y<x then 1 else 0
theorem Aa(x y:Int):aA Tryz.prog 159 [enc x,enc y] (enc (jv x y)):=by
 refine aA.bA Tryz.func159 Sv Uq Wv (Nat.le_of_ble_eq_true rfl) (fun hwf W0 D0 E1 =>?_)
 simp only[BA,MG,bp,Nat.zero_add]
 refine .ao (by decide +kernel) fun K hK =>?_
 simp only[F8,U,simprocAttr]
 refine .done (hK _ ?_);clear hK K
 refine .ao (by decide +kernel) fun K hK =>?_
 simp only[F9,U,simprocAttr]
 refine .flat _ (Ad x) rfl ?_
 try simp only[U,simprocAttr]
 refine .done (hK _ ?_);clear hK K
 refine .ao (by decide +kernel) fun K hK =>?_
 simp only[Ge,U,simprocAttr]
 refine .flat _ (Ad y) rfl ?_
 try simp only[U,simprocAttr]
 refine .done (hK _ ?_);clear hK K
 refine ab.seq ?_
 refine .ao (by decide +kernel) fun K hK =>?_
 simp only[Gf,U,simprocAttr]
 refine .done (hK _ ?_);clear hK K
 refine ab.bC ?_
 simp only[ar,U,simprocAttr]
 refine ⟨fun h =>?_,fun h =>?_⟩
 ·cases h
 refine ab.skip ?_;try simp only[aq,simprocAttr]
 refine ab.seq ?_
 refine .ao (by decide +kernel) fun K hK =>?_
 simp only[Gg,U,simprocAttr]
 refine .done (hK _ ?_);clear hK K
 refine ab.bC ?_
 simp only[ar,U,simprocAttr]
 refine ⟨fun h =>?_,fun h =>?_⟩
 ·cases h
 refine ab.skip ?_;try simp only[aq,simprocAttr]
 refine ab.seq ?_
 refine .ao (by decide +kernel) fun K hK =>?_
 simp only[Gh,U,simprocAttr]
 refine .done (hK _ ?_);clear hK K
 refine ab.bC ?_
 simp only[ar,U,simprocAttr]
 refine ⟨fun h =>?_,fun h =>?_⟩
 ·refine .ao (by decide +kernel) fun K hK =>?_
  simp only[Ga,U,simprocAttr]
  refine .done (hK _ ?_);clear hK K
  refine ab.ret ?_
  simp only[aq,U,simprocAttr]
  have:x<y:=by simpa using h
  simp[jv,this]
 have h1:¬ x<y:=by simpa using h
 refine ab.skip ?_;try simp only[aq,simprocAttr]
 refine ab.seq ?_
 refine .ao (by decide +kernel) fun K hK =>?_
 simp only[Gb,U,simprocAttr]
 refine .done (hK _ ?_);clear hK K
 refine ab.bC ?_
 simp only[ar,U,simprocAttr]
 refine ⟨fun h =>?_,fun h =>?_⟩
 ·refine .ao (by decide +kernel) fun K hK =>?_
  simp only[Gc,U,simprocAttr]
  refine .done (hK _ ?_);clear hK K
  refine ab.ret ?_
  simp only[aq,U,simprocAttr]
  have:y<x:=by simpa using h
  simp[jv,this,h1]
 have h2:¬ y<x:=by simpa using h
 refine ab.skip ?_;try simp only[aq,simprocAttr]
 refine .ao (by decide +kernel) fun K hK =>?_
 simp only[Gd,U,simprocAttr]
 refine .done (hK _ ?_);clear hK K
 refine ab.ret ?_
 simp only[U,simprocAttr]
 simp[jv,h1,h2]
theorem AQ(a b:Int):dY [.int .i64 0,.int .i64 0] [(0,.int .i64 a),(1,.int .i64 b)]=some [.int .i64 a,.int .i64 b]:=by simp[dY,I.cj,I.size]
theorem mq(n lo hi:Int):aA Tryz.prog 114 [enc n,enc lo,enc hi] (enc (cq lo hi n)):=by
 refine aA.bA Tryz.func114 RZ TS VZ (Nat.le_of_ble_eq_true rfl) (fun hwf W0 D0 E1 =>?_)
 simp only[A2,Ma,bp,Nat.zero_add,Nat.reduceAdd]
 refine .ao (by decide +kernel) fun K hK =>?_
 simp only[Ew,U,simprocAttr]
 refine .done (hK _ ?_);clear hK K
 refine .ao (by decide +kernel) fun K hK =>?_
 simp only[Ey,U,simprocAttr]
 refine .guard (fun h =>?_) (fun h =>?_)
 ·simp only[U,simprocAttr,h]
  refine .done (hK _ ?_);clear hK K
  refine ab.ret ?_
  simp only[U,simprocAttr]
  simp_all[cq]
 ·simp only[U,simprocAttr,h]
  refine .done (hK _ ?_);clear hK K
  refine ab.ret ?_
  simp only[U,simprocAttr]
  simp at h
  simp[cq];omega
def pS(x:Item):Bool:=cq 0 5 x.fe&&cq 0 9999 x.no
theorem u7(n:Int):aA Tryz.prog 127 [enc n] (enc (cq 0 100000 n)):=by
 refine aA.bA Tryz.func127 Sa T5 Wa (Nat.le_of_ble_eq_true rfl) (fun hwf W0 D0 E1 =>?_)
 simp only[Be,Ml,bp]
 refine .ao (by decide +kernel) fun K hK =>?_
 simp only[E0,U,simprocAttr]
 refine .done (hK _ ?_);clear hK K
 refine .ao (by decide +kernel) fun K hK =>?_
 simp only[E4,U,simprocAttr]
 refine .flat _ (mq n 0 100000) rfl ?_
 try simp only[U,simprocAttr]
 refine .done (hK _ ?_);clear hK K
 refine ab.ret ?_
 simp only[U,simprocAttr]
theorem PI(n:Int):aA Tryz.prog 154 [enc n] (enc (cq 1 9999 n)):=by
 refine aA.bA Tryz.func154 Sq Ul Wq (Nat.le_of_ble_eq_true rfl) (fun hwf W0 D0 E1 =>?_)
 simp only[Bv,MB,bp]
 refine .ao (by decide +kernel) fun K hK =>?_
 simp only[FO,U,simprocAttr]
 refine .done (hK _ ?_);clear hK K
 refine .ao (by decide +kernel) fun K hK =>?_
 simp only[FP,U,simprocAttr]
 refine .flat _ (mq n 1 9999) rfl ?_
 try simp only[U,simprocAttr]
 refine .done (hK _ ?_);clear hK K
 refine ab.ret ?_
 simp only[U,simprocAttr]
theorem PJ(n:Int):aA Tryz.prog 155 [enc n] (enc (cq 1 9 n)):=by
 refine aA.bA Tryz.func155 Sr Um Wr (Nat.le_of_ble_eq_true rfl) (fun hwf W0 D0 E1 =>?_)
 simp only[Bw,MC,bp]
 refine .ao (by decide +kernel) fun K hK =>?_
 simp only[FQ,U,simprocAttr]
 refine .done (hK _ ?_);clear hK K
 refine .ao (by decide +kernel) fun K hK =>?_
 simp only[FR,U,simprocAttr]
 refine .flat _ (mq n 1 9) rfl ?_
 try simp only[U,simprocAttr]
 refine .done (hK _ ?_);clear hK K
 refine ab.ret ?_
 simp only[U,simprocAttr]
theorem PK(n:Int):aA Tryz.prog 156 [enc n] (enc (cq 1 99 n)):=by
 refine aA.bA Tryz.func156 Ss Un Ws (Nat.le_of_ble_eq_true rfl) (fun hwf W0 D0 E1 =>?_)
 simp only[Bx,MD,bp]
 refine .ao (by decide +kernel) fun K hK =>?_
 simp only[FT,U,simprocAttr]
 refine .done (hK _ ?_);clear hK K
 refine .ao (by decide +kernel) fun K hK =>?_
 simp only[FU,U,simprocAttr]
 refine .flat _ (mq n 1 99) rfl ?_
 try simp only[U,simprocAttr]
 refine .done (hK _ ?_);clear hK K
 refine ab.ret ?_
 simp only[U,simprocAttr]
theorem zW(x:Item):aA Tryz.prog 115 [enc x] (enc (pS x)):=by
 refine aA.bA Tryz.func115 R0 TT V0 (Nat.le_of_ble_eq_true rfl) (fun hwf W0 D0 E1 =>?_)
 simp only[A4,Mb,bp]
 refine .ao (by decide +kernel) fun K hK =>?_
 simp only[Ez,U,simprocAttr]
 try simp only[dq,U,simprocAttr]
 refine .done (hK _ ?_);clear hK K
 refine .ao (by decide +kernel) fun K hK =>?_
 simp only[EA,U,simprocAttr]
 try simp only[qy,U,simprocAttr]
 refine .flat _ (mq x.fe 0 5) rfl ?_
 try simp only[U,simprocAttr]
 cases h1:cq 0 5 x.fe with
 |false =>
  try simp only[U,simprocAttr]
  refine .done (hK _ ?_);clear hK K
  refine ab.ret ?_
  simp only[U,simprocAttr]
  simp[pS,h1]
 |true =>
  try simp only[qy,U,simprocAttr]
  refine .flat _ (mq x.no 0 9999) rfl ?_
  try simp only[U,simprocAttr]
  refine .done (hK _ ?_);clear hK K
  refine ab.ret ?_
  simp only[U,simprocAttr]
  simp[pS,h1]
def before(a b:Item):Bool:=decide (a.fe<b.fe)||(decide (a.fe=b.fe)&&decide (a.no<b.no))
def l6:List Int→Int
 | []=>0
 |x::l=>if x≠0 then x else l6 l
theorem LN{l:List Int}{i:Nat}(hi:i≤l.length)(h:∀ k,k<i→l.getD k 0=0):l6 (l.drop i)=l6 l:=by
 induction i with
 |zero=>simp
 |succ i ih =>
  have hlt:i<l.length:=by omega
  rw[←ih (by omega) (fun k hk=>h k (by omega)),List.drop_eq_getElem_cons hlt]
  have:=h i (by omega)
  rw[List.getD_eq_getElem?_getD,List.getElem?_eq_getElem hlt] at this
  simp at this
  simp[l6,this]
theorem PL(l:List Int):aA Tryz.prog 158 [enc l] (enc (l6 l)):=by
 refine aA.bA Tryz.func158 Su Up Wu (Nat.le_of_ble_eq_true rfl) (fun hwf W0 D0 E1 =>?_)
 simp only[Bz,MF,bp]
 have hlen:l.length≤maxLen:=((kJ l).1 hwf.1).1
 simp only[maxLen] at hlen
 refine .ao (by decide +kernel) fun K hK =>?_
 simp only[FZ,U,simprocAttr]
 refine .done (hK _ ?_);clear hK K
 refine .ao (by decide +kernel) fun K hK =>?_
 simp only[F0,U,simprocAttr]
 refine .done (hK _ ?_);clear hK K
 refine ab.seq (ab.seq ?_)
 refine .bl (by decide +kernel) fun K hK =>?_
 simp only[F1,U,simprocAttr]
 try simp only[bn,U,simprocAttr]
 refine .done (hK _ ?_);clear hK K;try simp only[aq]
 refine ab.block (ab.loop (fun i:Nat=>av [(3,.int .i64 0),(6,enc l),(7,.int .i64 l.length),(8,.int .i64 i)] []) (fun i=>i≤l.length∧∀ k,k<i→l.getD k 0=0) (fun i=>l.length-i) 0 ⟨Nat.zero_le _,by intro k hk;omega⟩ ?_ (fun i hi =>?_))
 ·refine aD.bM ?_ ?_ ?_ ?_ <;>simp[aV,bF,bE,a7,aY,I.only,bh]
 refine .ao (by decide +kernel) fun K hK =>?_
 simp only[F2,U,simprocAttr]
 refine .done (hK _ ?_);clear hK K
 refine ab.seq ?_
 refine ab.bC ?_
 simp only[ar,U,simprocAttr]
 refine ⟨fun h =>?_,fun h =>?_⟩
 ·have hlt:i<l.length:=by simpa using h
  refine ab.skip ?_;try simp only[aq,simprocAttr]
  refine ab.seq (ab.block ?_)
  refine .ao (by decide +kernel) fun K hK =>?_
  simp only[F3,U,simprocAttr]
  try simp only[fI 1 hlt rfl,U,simprocAttr]
  refine .done (hK _ ?_);clear hK K
  refine ab.seq ?_
  refine .bl (by decide +kernel) fun K hK =>?_
  simp only[F4,U,simprocAttr]
  refine .done (hK _ ?_);clear hK K;try simp only[aq]
  refine ab.bC ?_
  simp only[ar,U,simprocAttr]
  refine ⟨fun h =>?_,fun h =>?_⟩
  ·refine .ao (by decide +kernel) fun K hK =>?_
   simp only[F5,U,simprocAttr]
   refine .done (hK _ ?_);clear hK K
   refine ab.ret ?_
   simp only[bN,aq,U,simprocAttr]
   rw[←LN hi.1 hi.2,List.drop_eq_getElem_cons hlt]
   simp at h
   simp[l6,h]
  ·refine ab.skip ?_;try simp only[aq,bN,simprocAttr]
   refine .bl (by decide +kernel) fun K hK =>?_
   simp only[F6,U,simprocAttr]
   refine .done (hK _ ?_);clear hK K;try simp only[aq]
   refine ⟨i+1,⟨by omega,fun k hk =>?_⟩,by omega,?_⟩
   ·by_cases e:k=i
    ·subst e
     simp at h
     simp[List.getD_eq_getElem?_getD,hlt,h]
    ·exact hi.2 k (by omega)
   ·rw[cA _ (by omega) (by omega)]
    refine aD.bM ?_ ?_ ?_ ?_ <;>simp[aV,bF,bE,a7,aY,I.only,bh]
 have hie:i=l.length:=by simp at h;omega
 refine ab.exit ?_;try simp only[aq,bN,simprocAttr]
 refine .ao (by decide +kernel) fun K hK =>?_
 simp only[F7,U,simprocAttr]
 refine .done (hK _ ?_);clear hK K
 refine ab.ret ?_
 simp only[U,simprocAttr]
 rw[←LN hi.1 hi.2,hie]
 simp[l6]
def lG(a b:Item):Int:=l6 [jv a.fe b.fe,jv a.no b.no]
theorem u5(a b:Item):aA Tryz.prog 118 [enc a,enc b] (enc (lG a b)):=by
 refine aA.bA Tryz.func118 R2 TV V2 (Nat.le_of_ble_eq_true rfl) (fun hwf W0 D0 E1 =>?_)
 simp only[A6,Md,bp,Nat.zero_add]
 refine .ao (by decide +kernel) fun K hK =>?_
 simp only[EE,U,simprocAttr]
 try simp only[dq,U,simprocAttr]
 refine .done (hK _ ?_);clear hK K
 refine .ao (by decide +kernel) fun K hK =>?_
 simp only[EF,U,simprocAttr]
 try simp only[qy,U,simprocAttr]
 refine .flat _ (Aa a.fe b.fe) rfl ?_
 try simp only[qy,U,simprocAttr]
 refine .flat _ (Aa a.no b.no) rfl ?_
 try simp only[U,simprocAttr]
 have hb:iG 1 (some [.int .i64 (jv a.fe b.fe),.int .i64 (jv a.no b.no)])=some (enc [jv a.fe b.fe,jv a.no b.no]):=np (ys:=[jv a.fe b.fe,jv a.no b.no]) 1 rfl
 try simp only[hb,cH,U,simprocAttr]
 refine .flat _ (PL _) rfl ?_
 try simp only[U,simprocAttr]
 refine .done (hK _ ?_);clear hK K
 refine ab.ret ?_
 simp only[U,simprocAttr]
 rfl
deriving instance DecidableEq for aS
deriving instance DecidableEq for ak
deriving instance DecidableEq for aU
def oc:aS 6 Int:=⟨List.replicate 6 0,rfl⟩
instance:Inhabited ak:=⟨⟨⟨0,0⟩,0,0,0,0,0,0,0,oc,⟨0,0⟩⟩⟩
instance:Inhabited aU:=⟨⟨0,0,0,0,0,0,0,false,[]⟩⟩
def jQ(x:ak):ak where
 aX:=x.aX
 kind:=x.kind
 day:=x.day
 known:=x.known
 ef:=if x.kind=0 then 0 else x.ef
 e7:=if x.kind=1 then x.e7 else 0
 dA:=if x.kind=1∨x.kind=2 then x.dA else 0
 bP:=if x.kind=1∨x.kind=3∨x.kind=5 then x.bP else 0
 cm:=if x.kind=4 then x.cm else oc
 j0:=if x.kind=0 then x.j0 else ⟨0,0⟩
def pM(x:ak):Bool :=
 if x.kind=0 then (x.day==0)&&(pS x.j0&&((x.j0.fe==x.aX.fe)&&decide (x.j0.no<x.aX.no)))
 else cq 1 9999 x.ef&&(
  if x.kind=1 then cq 1 9 x.dA&&(cq 1 99 x.bP&&(cq 0 9999 x.e7&&(x.e7 != x.ef)))
  else if x.kind=2 then cq 1 9 x.dA
  else if x.kind=3∨x.kind=5 then cq 1 99 x.bP
  else if x.kind=4 then il x.cm
  else decide (x.kind=6))
def gS(x:ak):Bool:=pM x&&(decide (x=jQ x)&&(pS x.aX&&(cq 0 100000 x.day&&cq 0 100000 x.known)))
def ae(l:List ak)(i:Nat):ak:=l.getD i default
def kz(l:List ak)(i:Nat):Bool:=gS (ae l i)&&(decide (i=0)||before (ae l (i-1)).aX (ae l i).aX)
def dc(l:List ak):Bool:=decide (l.length≤60)&&(List.range l.length).all (kz l)
def eF(l:List ak)(a:Item):Nat:=l.findIdx fun x => !before x.aX a
def jT(l:List ak)(a:Item):Bool:=l.any fun x=>decide (x.aX=a)
def jK(known:Int):List ak→List Bool×List Item
 | []=>([],[])
 |x::l =>
  let b:=decide (x.known≤known) && !(jK known l).2.contains x.aX
  (b::(jK known l).1,if b&&decide (x.kind=0) then x.j0::(jK known l).2 else (jK known l).2)
def lq(l:List ak)(known:Int):List Bool:=(jK known l).1
def ir(l:List ak)(known:Int):List Nat:=(List.range l.length).filter fun i=>(lq l known).getD i false
def ku(key:Nat→Int)(i:Nat)(l:List Nat):List Nat:=(l.takeWhile fun k=>decide (key k≤key i))++i::l.dropWhile fun k=>decide (key k≤key i)
def akd(key:Nat→Int)(l:List Nat):List Nat:=l.foldl (fun o i=>ku key i o) []
def kj(l:List ak)(day known:Int):List Nat:=(ir l known).filter fun i=>decide ((ae l i).kind≠0)&&decide ((ae l i).day≤day)
def j8(l:List ak)(day known:Int):List Nat:=akd (fun i=>(ae l i).day) (kj l day known)
def dF(bs:List aU)(no:Int):Option aU:=bs.find? fun b=>decide (b.no=no)
def mf(bs:List aU)(x:aU):List aU:=bs.map fun b=>if b.no=x.no then x else b
def fV(x:ak):aU:=⟨x.ef,x.dA,x.e7,x.bP,x.bP,x.day,-1,false,[]⟩
def iJ(bs:List aU)(x:ak):Bool:=decide (x.e7≤0)||match dF bs x.e7 with
 |some d=>decide (d.dA=x.dA) && !(decide (0≤d.dU)&&decide (d.dU<x.day))
 |none=>false
def kI(b:aU)(x:ak):Option aU :=
 if x.kind=3 then (if b.dU≥0∨b.bP=0∨b.bP=x.bP then none else some { b with bP:=x.bP })
 else if x.kind=4 then some { b with cm:=b.cm++[x.cm] }
 else if x.kind=5 then some { b with bP:=x.bP,found:=true }
 else (if b.dU≥0 then none else some { b with dU:=x.day })
def eO(add:List aU→aU→List aU)(bs:List aU)(x:ak):Option (List aU) :=
 if x.kind=1∨x.kind=2 then (if dF bs x.ef=none∧iJ bs x=true then some (add bs (fV x)) else none)
 else match dF bs x.ef with
  |none=>none
  |some b=>(kI b x).map (mf bs)
def fo(bs:List aU)(b:aU):List aU:=bs++[b]
def nh(add:List aU→aU→List aU)(l:List ak)(s:List aU×List Nat)(i:Nat):List aU×List Nat:=match eO add s.1 (ae l i) with
 |some bs=>(bs,s.2)
 |none=>(s.1,s.2++[i])
def rN(add:List aU→aU→List aU)(l:List ak)(order:List Nat):List aU×List Nat:=order.foldl (nh add l) ([],[])
theorem alh(bs:List aU)(x:aU):(mf bs x).map (·.no)=bs.map (·.no):=by
 simp only[mf,List.map_map]
 refine List.map_congr_left fun b _ =>?_
 simp only[Function.comp]
 split
 ·rename_i h;exact h.symm
 ·rfl
theorem J7{bs:List aU}{no:Int}{b:aU}(h:dF bs no=some b):b∈bs∧b.no=no:=⟨List.mem_of_find?_eq_some h,by simpa using List.find?_some h⟩
theorem J6{bs:List aU}{no:Int} : dF bs no=none↔no∉bs.map (·.no):=by
 simp[dF]
theorem ag4{bs:List aU}(hd:(bs.map (·.no)).Nodup){b:aU}(h:b∈bs):dF bs b.no=some b:=by
 induction bs with
 |nil=>cases h
 |cons a bs ih =>
  simp only[dF,List.find?_cons]
  simp only[List.map_cons,List.nodup_cons] at hd
  by_cases e:a.no=b.no
  ·rcases List.mem_cons.1 h with rfl | h
   ·simp
   ·exact absurd (List.mem_map.2 ⟨b,h,e.symm⟩) hd.1
  ·rcases List.mem_cons.1 h with rfl | h
   ·exact absurd rfl e
   ·simp only[decide_eq_false e];exact ih hd.2 h
def zT(add:List aU→aU→List aU):Prop:=∀ bs b,(add bs b).Perm (b::bs)
theorem QN:zT fo:=fun bs b=>List.perm_append_comm
theorem Q9{add:List aU→aU→List aU}(ha:zT add){bs bs':List aU}{x:ak}(hd:(bs.map (·.no)).Nodup)(h:eO add bs x=some bs'):(bs'.map (·.no)).Nodup:=by
 simp only[eO] at h
 split at h
 ·split at h
  ·rename_i h2
   simp only[Option.some.injEq] at h
   subst h
   rw[((ha bs (fV x)).map _).nodup_iff]
   simp only[List.map_cons,List.nodup_cons]
   exact ⟨J6.1 h2.1,hd⟩
  ·cases h
 ·split at h
  ·cases h
  ·simp only[Option.map_eq_some_iff] at h
   obtain ⟨b',_,rfl⟩:=h
   rw[alh];exact hd
theorem Kh{A:af}{k k':Nat}{c c':I}(h1:A.o k=some (.box c))(h2:∀ p,c.only p=true)(h1':A.o k'=some (.box c'))(h2':∀ p,c'.only p=true):∀ n x,al [(k,.box c),(k',.box c')] n=some x→A.o n=some x∧x.only (au [(k,.box c),(k',.box c')])=true∧x.eS=true:=fun n x h=>by
 simp only[al] at h
 split at h
 ·rename_i hn
  subst hn
  simp only[Option.some.injEq] at h
  subst h
  exact ⟨h1,h2 _,rfl⟩
 ·split at h
  ·rename_i hn
   subst hn
   simp only[Option.some.injEq] at h
   subst h
   exact ⟨h1',h2' _,rfl⟩
  ·cases h
theorem alq{n:Nat}{p:List Nat}{sz k total i j:Nat}(h:i≤j)(hj:j≤k)(hk:k≤total):iq n p sz 0 k total (some (.int .i64 i)) (some (.int .i64 j)) (some (.int .i64 k))=some .df:=by
 simp only[iq,iw]
 rw[if_pos ⟨by omega,by omega,by omega,by omega⟩]
theorem OE{n:Nat}{p:List Nat}{sz k total i j:Nat}(h:i≤j)(hk:j≤total)(h0:i<total):iq n p sz 0 k total (some (.int .i64 i)) (some (.int .i64 j)) none=some (.view n p sz i (j-i)):=by
 simp only[iq,iw]
 rw[if_pos ⟨by omega,by omega,by omega⟩,if_neg (by omega)]
 simp
theorem Q6{α:Type}[Enc α]{A:af}{rest:List aB}{esz bytes:Nat}{d:Option Nat}{e:Nat}(z x:I){n l:Nat}{xs ys:List α}(hx:er A esz x=some (ys.map enc))(hy:ys≠[])(ho:A.o n=some (.box (.agg (xs.map enc))))(hr:l+ys.length≤xs.length) :
  gY A d e esz bytes z x rest (.view n [] esz 0 l)=az rest ((A.aK n (.box (.agg ((xs.take l++(ys++xs.drop (l+ys.length))).map enc)))).aJ d (.view n [] esz 0 (l+ys.length))):=by
 have h1:=ng (A:=A) (esz:=esz) (lo:=0) (k:=l) ho (by omega)
 have h2:(I.agg (xs.map (enc (α:=α)))).at []=some (.agg (xs.map enc)):=rfl
 have h3:I.cK (ys.map (enc (α:=α)))=I.cK (((xs.map (enc (α:=α))).drop l).take ys.length):=by
  rw[←List.map_drop,←List.map_take]
  exact zB (by rw[List.length_take,List.length_drop];omega)
 simp only[gY,h1,hx,fp]
 rw[if_neg (by simpa using hy)]
 simp only[ho,h2,List.length_map,Nat.zero_add]
 rw[if_pos hr,if_pos ⟨rfl,by rw[List.length_map,Nat.zero_add];exact h3⟩]
 simp only[iA,gi,List.length_map,List.map_append,List.map_take,List.map_drop]
theorem Q5{α:Type}[Enc α]{A:af}{rest:List aB}{esz bytes:Nat}{d:Option Nat}{e:Nat}(z x:I){n l:Nat}{xs:List α}(hx:er A esz x=some [])(ho:A.o n=some (.box (.agg (xs.map enc))))(hr:l≤xs.length) :
  gY A d e esz bytes z x rest (.view n [] esz 0 l)=az rest (A.aJ d (.view n [] esz 0 l)):=by
 have h1:=ng (A:=A) (esz:=esz) (lo:=0) (k:=l) ho (by omega)
 simp only[gY,h1,hx,fp,if_true]
theorem Zf(a b:Int):cu (.i .i64) (enc a) (enc b)=some (a==b):=by simp[jw,cu]
theorem D5:∀ (x y:List Int),x.length=y.length→((x.map (enc (α:=Int))).zip (y.map (enc (α:=Int)))).foldr (fun p acc=>iF (cu (.i .i64) p.1 p.2) acc) (some true)=some (decide (x=y))
 | [],[],_=>by simp
 |a::x,b::y,h=>by
  have ih:=D5 x y (by simpa using h)
  rw[List.map_cons,List.map_cons,List.zip_cons_cons,List.foldr_cons,ih,Zf]
  by_cases hab:a=b <;>by_cases hxy:x=y <;>simp[iF,hab,hxy]
theorem sV{n:Nat}(x y:aS n Int):cu (.jO n (.i .i64)) (enc x) (enc y)=some (decide (x.l=y.l)):=by
 change cu (.jO n (.i .i64)) (.agg (x.l.map enc)) (.agg (y.l.map enc))=_
 rw[cu,if_pos ⟨by simp[x.h],by simp[y.h]⟩]
 exact D5 x.l y.l (by rw[x.h,y.h])
theorem PO(n:Int):aA Tryz.prog 162 [enc n] (enc (!cq 0 4 n)):=by
 refine aA.bA Tryz.func162 Sz Uu Wz (Nat.le_of_ble_eq_true rfl) (fun hwf W0 D0 E1 =>?_)
 simp only[BE,MK,bp]
 refine .ao (by decide +kernel) fun K hK =>?_
 simp only[Gm,U,simprocAttr]
 refine .done (hK _ ?_);clear hK K
 refine .ao (by decide +kernel) fun K hK =>?_
 simp only[Gn,U,simprocAttr]
 refine .flat _ (sh n 0 4) rfl ?_
 try simp only[U,simprocAttr]
 refine .done (hK _ ?_);clear hK K
 refine ab.ret ?_
 simp only[U,simprocAttr]
theorem Qg(n:Int):aA Tryz.prog 211 [enc n] (enc (!cq 1 31 n)):=by
 refine aA.bA Tryz.func211 S0 UW W4 (Nat.le_of_ble_eq_true rfl) (fun hwf W0 D0 E1 =>?_)
 simp only[B7,Nd,bp]
 refine .ao (by decide +kernel) fun K hK =>?_
 simp only[H4,U,simprocAttr]
 refine .done (hK _ ?_);clear hK K
 refine .ao (by decide +kernel) fun K hK =>?_
 simp only[H5,U,simprocAttr]
 generalize hz:(n==0)=z
 cases z
 ·try simp only[U,simprocAttr]
  refine .flat _ (Ab n) rfl ?_
  try simp only[U,simprocAttr]
  refine .done (hK _ ?_);clear hK K
  refine ab.ret ?_
  simp only[U,simprocAttr]
  simp at hz
  have e:(0≤n)↔(1≤n):=by omega
  simp[cq,e]
 ·try simp only[U,simprocAttr]
  refine .done (hK _ ?_);clear hK K
  refine ab.ret ?_
  simp only[U,simprocAttr]
  simp at hz
  simp[cq,hz]
def nH(p:Int→Bool)(l:List Int):Int:=match l.findIdx? p with
 |some i=>i
 |none=>-1
theorem wy{α:Type}{p:α→Bool}{l:List α}(h:∀ x∈l,p x=false):l.findIdx? p=none:=by
 rw[List.findIdx?_eq_none_iff];exact h
theorem wz{α:Type}{p:α→Bool}{l:List α}{i:Nat}(hi:i<l.length)(h:∀ x∈l.take i,p x=false)(hp:p l[i]=true):l.findIdx? p=some i:=by
 rw[List.findIdx?_eq_some_iff_getElem]
 refine ⟨hi,hp,fun j hj =>?_⟩
 have:l[j]∈l.take i:=by
  rw[List.mem_take_iff_getElem]
  exact ⟨j,by omega,rfl⟩
 simp[h _ this]
theorem PT(l:List Int)(f:FuncId)(caps:List I)(hcaps:I.e9 caps=true)(p:Int→Bool)(hf:∀ x∈l,aA Tryz.prog f (enc x::caps) (enc (p x))):aA Tryz.prog 166 [enc l,.func f caps] (enc (nH p l)):=by
 refine aA.bA Tryz.func166 SD Uy WD (Nat.le_of_ble_eq_true rfl) (fun hwf W0 D0 E1 =>?_)
 simp only[BI,MP,bp,Nat.zero_add]
 have hlen:l.length≤maxLen:=((kJ l).1 hwf.1).1
 simp only[maxLen] at hlen
 have hcl:I.bX caps=true:=kQ caps hcaps
 have hfc:∀ aC A,b7 aC A caps=some caps:=fun aC A=>kU aC A caps hcaps
 have hon:∀ q,I.bR q caps=true:=fun q=>kA q caps hcl
 refine .ao (by decide +kernel) fun K hK =>?_
 simp only[Gw,U,simprocAttr]
 refine .done (hK _ ?_);clear hK K
 refine ab.seq ?_
 refine ab.seq (ab.bl (by decide +kernel) fun K hK =>?_)
 try simp only[Gx,bn,U,simprocAttr]
 refine .done (hK _ ?_);clear hK K
 refine ab.block (ab.loop (fun i:Nat=>av [(0,enc l),(1,.func f caps),(7,.int .i64 l.length),(8,.int .i64 i)] []) (fun i=>i≤l.length∧∀ x∈l.take i,p x=false) (fun i=>l.length-i) 0 ⟨Nat.zero_le _,by simp⟩ ?_ (fun i hi =>?_))
 ·refine aD.bM ?_ ?_ ?_ ?_ <;>simp[aV,bF,bE,a7,aY,I.only,bh,hon]
 ·refine .ao (by decide +kernel) fun K hK =>?_
  simp only[Gy,U,simprocAttr]
  refine .done (hK _ ?_);clear hK K
  refine ab.seq ?_
  refine ab.bC ?_
  simp only[ar,U,simprocAttr]
  refine ⟨fun h =>?_,fun h =>?_⟩
  ·have hlt:i<l.length:=by simpa using h
   refine ab.skip ?_;try simp only[aq,simprocAttr]
   refine ab.seq (ab.block ?_)
   refine .ao (by decide +kernel) fun K hK =>?_
   simp only[Gz,U,simprocAttr]
   refine .done (hK _ ?_);clear hK K
   refine .ao (by decide +kernel) fun K hK =>?_
   simp only[GA,U,simprocAttr]
   try simp only[fI 1 hlt rfl,List.cons_append,hfc,U,simprocAttr]
   refine .flat _ (hf _ (List.getElem_mem hlt)) rfl ?_
   try simp only[U,simprocAttr]
   refine .done (hK _ ?_);clear hK K
   refine ab.bC ?_
   simp only[ar,U,simprocAttr]
   refine ⟨fun h =>?_,fun h =>?_⟩
   ·refine .ao (by decide +kernel) fun K hK =>?_
    simp only[GB,U,simprocAttr]
    refine .done (hK _ ?_);clear hK K
    refine ab.ret ?_
    simp only[bN,aq,U,simprocAttr]
    simp[nH,wz hlt hi.2 h]
   ·refine ab.skip ?_;try simp only[aq,bN,simprocAttr]
    refine .bl (by decide +kernel) fun K hK =>?_
    simp only[GC,U,simprocAttr]
    refine .done (hK _ ?_);clear hK K;try simp only[aq]
    refine ⟨i+1,⟨by omega,fun x hm =>?_⟩,by omega,?_⟩
    ·rw[List.take_succ_eq_append_getElem hlt] at hm
     rcases List.mem_append.1 hm with hm | hm
     ·exact hi.2 x hm
     ·simp at hm;rw[hm];exact h
    ·rw[cA _ (by omega) (by omega)]
     refine aD.bM ?_ ?_ ?_ ?_ <;>simp[aV,bF,bE,a7,aY,I.only,bh,hon]
  ·have hge:i=l.length:=by simp at h;omega
   refine ab.exit ?_;try simp only[aq,bN,simprocAttr]
   refine .ao (by decide +kernel) fun K hK =>?_
   simp only[GD,U,simprocAttr]
   refine .done (hK _ ?_);clear hK K
   refine ab.ret ?_
   simp only[U,simprocAttr]
   simp[hge] at hi
   simp[nH,wy hi]
theorem Kl(p:Int→Bool)(l:List Int):decide (0≤nH p l)=l.any p:=by
 unfold nH
 cases h:l.findIdx? p with
 |none =>
  rw[List.findIdx?_eq_none_iff] at h
  have:l.any p=false:=by rw[List.any_eq_false];intro x hx;simp[h x hx]
  simp[this]
 |some i =>
  rw[List.findIdx?_eq_some_iff_getElem] at h
  obtain ⟨h1,h2,_⟩:=h
  have:l.any p=true:=by rw[List.any_eq_true];exact ⟨_,List.getElem_mem h1,h2⟩
  rw[this]
  exact decide_eq_true (Int.natCast_nonneg i)
theorem u6(l:List Int)(f:FuncId)(caps:List I)(hcaps:I.e9 caps=true)(p:Int→Bool)(hf:∀ x∈l,aA Tryz.prog f (enc x::caps) (enc (p x))):aA Tryz.prog 125 [enc l,.func f caps] (enc (l.any p)):=by
 refine aA.bA Tryz.func125 R8 T3 V8 (Nat.le_of_ble_eq_true rfl) (fun hwf W0 D0 E1 =>?_)
 simp only[Bc,Mj,bp,Nat.zero_add]
 have hcl:I.bX caps=true:=kQ caps hcaps
 have hfc:∀ aC A,b7 aC A caps=some caps:=fun aC A=>kU aC A caps hcaps
 refine .ao (by decide +kernel) fun K hK =>?_
 simp only[EY,U,simprocAttr]
 refine .done (hK _ ?_);clear hK K
 refine .ao (by decide +kernel) fun K hK =>?_
 simp only[EZ,U,simprocAttr]
 try simp only[cH,hfc,U,simprocAttr]
 refine .flat _ (PT l f caps hcaps p hf) rfl ?_
 try simp only[U,simprocAttr]
 refine .done (hK _ ?_);clear hK K
 refine ab.ret ?_
 simp only[U,simprocAttr]
 rw[Kl]
theorem DP{α:Type}[Enc α]{n sz:Nat}(x:aS n α)(hs:Enc.sz α=sz):lQ sz 0 n (some (x.l.map enc))=some (enc x.l):=by
 have h:((x.l.map (enc (α:=α))).drop 0).take n=x.l.map enc:=by
  rw[List.drop_zero,List.take_of_length_le];simp[x.h]
 simp only[lQ,h]
 rw[if_pos (kh x.l),gA,hs]
theorem O7{α:Type}[Enc α]{n sz:Nat}(x:aS n α)(hs:Enc.sz α=sz)(h1:n≤maxLen)(h0:n≠0)(y:I):pf n sz (x.l.map enc) y=some y:=by
 simp only[pf];rw[if_pos ⟨wg n sz x.l x.h hs,h1,h0⟩]
theorem AB(p:Int→Bool)(x:aS 6 Int):x.l.any (fun v => !p v) = !(List.range 6).all (fun i=>p (x.g i)):=by
 have h:(List.range 6).all (fun i=>p (x.g i))=x.l.all p:=by
  rw[Bool.eq_iff_iff]
  simp only[List.all_eq_true,List.mem_range]
  constructor
  ·intro h v hv
   obtain ⟨i,hi,rfl⟩:=List.getElem_of_mem hv
   have:=h i (by rw[x.h] at hi;exact hi)
   rwa [←x.tp (by rw[x.h] at hi;exact hi)] at this
  ·intro h i hi
   rw[←x.tp hi]
   exact h _ (List.getElem_mem _)
 rw[h,List.not_all_eq_any_not]
theorem Pu(m:aS 6 Int):aA Tryz.prog 123 [enc m] (enc (dT m)):=by
 refine aA.bA Tryz.func123 R6 TZ V6 (Nat.le_of_ble_eq_true rfl) (fun hwf W0 D0 E1 =>?_)
 simp only[Ba,Mh,bp]
 refine .ao (by decide +kernel) fun K hK =>?_
 simp only[EU,U,simprocAttr]
 refine .done (hK _ ?_);clear hK K
 refine .ao (by decide +kernel) fun K hK =>?_
 simp only[EV,U,simprocAttr]
 try simp only[bn,O7 (sz:=1) m rfl (Nat.le_of_ble_eq_true rfl) (Nat.succ_ne_zero 5),DP (sz:=1) m rfl,U,simprocAttr]
 refine .flat _ (u6 m.l 162 [] rfl (fun n => !cq 0 4 n) (fun x _=>PO x)) rfl ?_
 try simp only[U,simprocAttr]
 refine .done (hK _ ?_);clear hK K
 refine ab.ret ?_
 simp only[U,simprocAttr]
 rw[AB (cq 0 4)];simp[dT]
theorem P5(m:aS 6 Int):aA Tryz.prog 193 [enc m] (enc (il m)):=by
 refine aA.bA Tryz.func193 SO UK WR (Nat.le_of_ble_eq_true rfl) (fun hwf W0 D0 E1 =>?_)
 simp only[BU,M2,bp]
 refine .ao (by decide +kernel) fun K hK =>?_
 simp only[G0,U,simprocAttr]
 refine .done (hK _ ?_);clear hK K
 refine .ao (by decide +kernel) fun K hK =>?_
 simp only[G1,U,simprocAttr]
 try simp only[bn,O7 (sz:=1) m rfl (Nat.le_of_ble_eq_true rfl) (Nat.succ_ne_zero 5),DP (sz:=1) m rfl,U,simprocAttr]
 refine .flat _ (u6 m.l 211 [] rfl (fun n => !cq 1 31 n) (fun x _=>Qg x)) rfl ?_
 try simp only[U,simprocAttr]
 refine .done (hK _ ?_);clear hK K
 refine ab.ret ?_
 simp only[U,simprocAttr]
 rw[AB (cq 1 31)];simp[il]
theorem Pt(n:Int):aA Tryz.prog 122 [enc n] (enc (cq 1 99 n)):=by
 refine aA.bA Tryz.func122 R5 TY V5 (Nat.le_of_ble_eq_true rfl) (fun hwf W0 D0 E1 =>?_)
 simp only[A9,Mg,bp]
 refine .ao (by decide +kernel) fun K hK =>?_
 simp only[ES,U,simprocAttr]
 refine .done (hK _ ?_);clear hK K
 refine .ao (by decide +kernel) fun K hK =>?_
 simp only[ET,U,simprocAttr]
 refine .flat _ (sh n 1 99) rfl ?_
 try simp only[U,simprocAttr]
 refine .done (hK _ ?_);clear hK K
 refine ab.ret ?_
 simp only[U,simprocAttr]
theorem z8(m:aS 6 Int):aA Tryz.prog 157 [enc m] (enc (if il m then (0:Int) else 12)):=by
 refine aA.bA Tryz.func157 St Uo Wt (Nat.le_of_ble_eq_true rfl) (fun hwf W0 D0 E1 =>?_)
 simp only[By,ME,bp]
 refine .ao (by decide +kernel) fun K hK =>?_
 simp only[FV,U,simprocAttr]
 refine .done (hK _ ?_);clear hK K
 refine ab.seq (ab.seq ?_)
 refine .bl (by decide +kernel) fun K hK =>?_
 simp only[FW,U,simprocAttr]
 try simp only[cD,cH,U,simprocAttr]
 refine .flat _ (P5 m) rfl ?_
 generalize hm:il m=b
 cases b
 ·try simp only[U,simprocAttr]
  refine .done (hK _ ?_);clear hK K;try simp only[aq]
  refine ab.bC ?_
  simp only[ar,U,simprocAttr]
  refine ⟨fun h =>?_,fun h =>?_⟩
  ·refine .ao (by decide +kernel) fun K hK =>?_
   simp only[FX,U,simprocAttr]
   refine .done (hK _ ?_);clear hK K
   refine ab.ret ?_
   simp only[aq,U,simprocAttr]
   simp[hm]
  ·cases h
 ·try simp only[U,simprocAttr]
  refine .done (hK _ ?_);clear hK K
  refine ab.bC ?_
  simp only[ar,U,simprocAttr]
  refine ⟨fun h =>?_,fun h =>?_⟩
  ·cases h
  ·refine ab.skip ?_;try simp only[aq,simprocAttr]
   refine .ao (by decide +kernel) fun K hK =>?_
   simp only[FY,U,simprocAttr]
   refine .done (hK _ ?_);clear hK K
   refine ab.ret ?_
   simp only[U,simprocAttr]
   simp[hm]
def xH(s:Int)(k:Nat):Bool:=oj (s.fdiv (2^min k IntKind.i64.bits)) 1==1
theorem PN(s:Int)(k:Nat):aA Tryz.prog 161 [enc s,enc (k:Int)] (enc (xH s k)):=by
 refine aA.bA Tryz.func161 Sy Ut Wy (Nat.le_of_ble_eq_true rfl) (fun hwf W0 D0 E1 =>?_)
 simp only[BD,MJ,bp,Nat.zero_add]
 refine .ao (by decide +kernel) fun K hK =>?_
 simp only[Gk,U,simprocAttr]
 refine .done (hK _ ?_);clear hK K
 refine .ao (by decide +kernel) fun K hK =>?_
 simp only[Gl,U,simprocAttr]
 refine .done (hK _ ?_);clear hK K
 refine ab.ret ?_
 simp only[U,simprocAttr]
 rfl
theorem ahx(s:Int)(h0:0≤s)(h1:s≤31)(k:Nat)(hk:k<5):xH s k=hE s k:=by
 have key:∀ s:Fin 32,∀ k:Fin 5,xH (s.1:Int) k.1=hE (s.1:Int) k.1:=by decide +kernel
 have:=key ⟨s.toNat,by omega⟩ ⟨k,hk⟩
 simpa[Int.toNat_of_nonneg h0] using this
theorem Ps(m:aS 5 Int):aA Tryz.prog 120 [enc m] (enc (im m)):=by
 refine aA.bA Tryz.func120 R3 TW V3 (Nat.le_of_ble_eq_true rfl) (fun hwf W0 D0 E1 =>?_)
 simp only[A7,Me,bp]
 refine .ao (by decide +kernel) fun K hK =>?_
 simp only[EH,U,simprocAttr]
 refine .done (hK _ ?_);clear hK K
 refine ab.seq ?_
 refine ab.seq (ab.bl (by decide +kernel) fun K hK =>?_)
 try simp only[EI,cD,U,simprocAttr]
 refine .done (hK _ ?_);clear hK K
 refine ab.block (ab.loop (fun i:Nat=>av [(2,.bool false),(6,enc m),(7,.int .i64 i)] []) (fun j=>j≤5∧∀ i,i<j→(cq 0 31 (m.g i)&&hE (m.g i) i)=true) (fun i=>5-i) 0 ⟨by omega,fun k h=>by omega⟩ ?_ (fun i hi =>?_))
 ·refine aD.bM ?_ ?_ ?_ ?_ <;>simp[aV,bF,bE,a7,aY,I.only,bh]
 ·refine .ao (by decide +kernel) fun K hK =>?_
  simp only[EJ,U,simprocAttr]
  refine .done (hK _ ?_);clear hK K
  refine ab.seq ?_
  refine ab.bC ?_
  simp only[ar,U,simprocAttr]
  refine ⟨fun h =>?_,fun h =>?_⟩
  ·have hlt:i<5:=by simp at h;omega
   refine ab.skip ?_;try simp only[aq,simprocAttr]
   refine ab.seq (ab.block ?_)
   refine .ao (by decide +kernel) fun K hK =>?_
   simp only[EK,U,simprocAttr]
   try simp only[ru,bn,jy 1 m hlt rfl,rf m hlt,U,simprocAttr]
   refine .done (hK _ ?_);clear hK K
   refine .ao (by decide +kernel) fun K hK =>?_
   simp only[EL,U,simprocAttr]
   refine .done (hK _ ?_);clear hK K
   refine .ao (by decide +kernel) fun K hK =>?_
   simp only[EM,U,simprocAttr]
   refine .flat _ (Ab _) rfl ?_
   generalize hb:cq 0 31 (m.g i)=b
   cases b
   ·try simp only[U,simprocAttr]
    refine .done (hK _ ?_);clear hK K
    refine ab.bC ?_
    simp only[ar,U,simprocAttr]
    refine ⟨fun h =>?_,fun h =>?_⟩
    ·refine .ao (by decide +kernel) fun K hK =>?_
     simp only[wG,U,simprocAttr]
     refine .done (hK _ ?_);clear hK K
     refine ab.ret ?_
     simp only[bN,aq,U,simprocAttr]
     rw[im,oh i hlt]
     simp[hb]
    ·cases h
   ·have hr:0≤m.g i∧m.g i≤31:=by simpa[cq] using hb
    try simp only[U,simprocAttr]
    refine .flat _ (PN (m.g i) i) rfl ?_
    rw[ahx _ hr.1 hr.2 i hlt]
    try simp only[U,simprocAttr]
    refine .done (hK _ ?_);clear hK K
    refine ab.bC ?_
    simp only[ar,U,simprocAttr]
    refine ⟨fun h =>?_,fun h =>?_⟩
    ·refine .ao (by decide +kernel) fun K hK =>?_
     simp only[wG,U,simprocAttr]
     refine .done (hK _ ?_);clear hK K
     refine ab.ret ?_
     simp only[bN,aq,U,simprocAttr]
     rw[im,oh i hlt]
     simp at h
     simp[h]
    ·refine ab.skip ?_;try simp only[aq,bN,simprocAttr]
     refine .bl (by decide +kernel) fun K hK =>?_
     simp only[EN,U,simprocAttr]
     refine .done (hK _ ?_);clear hK K;try simp only[aq]
     refine ⟨i+1,⟨by omega,fun k hk =>?_⟩,by omega,?_⟩
     ·by_cases hk':k=i
      ·subst hk'
       simp at h
       simp[hb,h]
      ·exact hi.2 k (by omega)
     ·rw[cA _ (by omega) (by omega)]
      refine aD.bM ?_ ?_ ?_ ?_ <;>simp[aV,bF,bE,a7,aY,I.only,bh]
  ·have hge:i=5:=by simp at h;omega
   subst hge
   refine ab.exit ?_;try simp only[aq,bN,simprocAttr]
   refine .ao (by decide +kernel) fun K hK =>?_
   simp only[EO,U,simprocAttr]
   refine .done (hK _ ?_);clear hK K
   refine ab.ret ?_
   simp only[U,simprocAttr]
   rw[im,qH hi.2]
theorem Af(f:FuncId)(caps:List I)(hcaps:I.e9 caps=true)(p:Nat→Bool)(hf:∀ i:Nat,i<6→aA Tryz.prog f (enc (i:Int)::caps) (enc (p i))):aA Tryz.prog 197 [.func f caps] (enc (eG (fun i => !p i) 6:Int)):=by
 refine aA.bA Tryz.func197 SS UO WV (Nat.le_of_ble_eq_true rfl) (fun hwf W0 D0 E1 =>?_)
 simp only[BY,M6,bp]
 have hcl:I.bX caps=true:=kQ caps hcaps
 have hfc:∀ aC A,b7 aC A caps=some caps:=fun aC A=>kU aC A caps hcaps
 have hon:∀ q,I.bR q caps=true:=fun q=>kA q caps hcl
 refine .ao (by decide +kernel) fun K hK =>?_
 simp only[He,U,simprocAttr]
 refine .done (hK _ ?_);clear hK K
 refine .ao (by decide +kernel) fun K hK =>?_
 simp only[Hf,U,simprocAttr]
 refine .done (hK _ ?_);clear hK K
 refine ab.seq ?_
 refine .ao (by decide +kernel) fun K hK =>?_
 simp only[Hg,U,simprocAttr]
 refine .done (hK _ ?_);clear hK K
 refine ab.block (ab.loop (fun i:Nat=>av [(0,.func f caps),(3,.int .i64 (eG (fun i => !p i) i:Int)),(5,.int .i64 i)] []) (fun i=>i≤6∧eG (fun i => !p i) i≤i) (fun i=>6-i) 0 ⟨by omega,by simp[eG]⟩ ?_ (fun i hi =>?_))
 ·refine aD.bM ?_ ?_ ?_ ?_ <;>simp[aV,bF,bE,a7,aY,I.only,hon,eG]
 ·refine .ao (by decide +kernel) fun K hK =>?_
  simp only[Hh,U,simprocAttr]
  refine .done (hK _ ?_);clear hK K
  refine ab.seq ?_
  refine ab.bC ?_
  simp only[ar,U,simprocAttr]
  refine ⟨fun h =>?_,fun h =>?_⟩
  ·have hlt:i<6:=by simp at h;omega
   refine ab.skip ?_;try simp only[aq,simprocAttr]
   refine ab.seq (ab.block ?_)
   refine .ao (by decide +kernel) fun K hK =>?_
   simp only[Hi,U,simprocAttr]
   refine .done (hK _ ?_);clear hK K
   refine .ao (by decide +kernel) fun K hK =>?_
   simp only[Hj,U,simprocAttr]
   try simp only[List.cons_append,hfc,U,simprocAttr]
   refine .flat _ (hf i hlt) rfl ?_
   try simp only[U,simprocAttr]
   refine .done (hK _ ?_);clear hK K
   refine ab.bC ?_
   simp only[ar,U,simprocAttr]
   refine ⟨fun h =>?_,fun h =>?_⟩
   ·simp at h
    refine .bl (by decide +kernel) fun K hK =>?_
    simp only[Hk,U,simprocAttr]
    refine .done (hK _ ?_);clear hK K;try simp only[aq,bN]
    refine .bl (by decide +kernel) fun K hK =>?_
    simp only[xd,U,simprocAttr]
    refine .done (hK _ ?_);clear hK K;try simp only[aq]
    refine ⟨i+1,⟨by omega,?_⟩,by omega,?_⟩
    ·simp only[eG];split <;>omega
    ·rw[cA _ (by omega) (by omega),cA _ (by omega) (by omega)]
     refine aD.bM ?_ ?_ ?_ ?_ <;>simp[aV,bF,bE,a7,aY,I.only,hon,eG,h]
   ·simp at h
    refine ab.skip ?_;try simp only[aq,bN,simprocAttr]
    refine .bl (by decide +kernel) fun K hK =>?_
    simp only[xd,U,simprocAttr]
    refine .done (hK _ ?_);clear hK K;try simp only[aq]
    refine ⟨i+1,⟨by omega,?_⟩,by omega,?_⟩
    ·simp only[eG];split <;>omega
    ·rw[cA _ (by omega) (by omega)]
     refine aD.bM ?_ ?_ ?_ ?_ <;>simp[aV,bF,bE,a7,aY,I.only,hon,eG,h]
  ·have hge:i=6:=by simp at h;omega
   subst hge
   refine ab.exit ?_;try simp only[aq,bN,simprocAttr]
   refine .ao (by decide +kernel) fun K hK =>?_
   simp only[Hl,U,simprocAttr]
   refine .done (hK _ ?_);clear hK K
   refine ab.ret ?_
   simp only[U,simprocAttr]
theorem Qh(w:aS 5 Int)(m r:aS 6 Int)(hm:dT m=true)(i:Nat)(hi:i<6):aA Tryz.prog 212 (enc (i:Int)::[.ref (.func 196 []),.ref (enc w),.ref (enc m),.ref (enc r)]) (enc (!nv w m r i)):=by
 obtain ⟨h0,h5⟩:=nR hm hi
 refine aA.bA Tryz.func212 S1 UX W5 (Nat.le_of_ble_eq_true rfl) (fun hwf W0 D0 E1 =>?_)
 simp only[B8,Nf,bp,Nat.zero_add,Nat.reduceAdd]
 refine .ao (by decide +kernel) fun K hK =>?_
 simp only[H6,U,simprocAttr]
 refine .done (hK _ ?_);clear hK K
 refine .ao (by decide +kernel) fun K hK =>?_
 simp only[H7,U,simprocAttr]
 try simp only[cD,cH,U,simprocAttr]
 refine .flat _ (vc w m i hi h0 h5) rfl ?_
 try simp only[bn,jy 1 r hi rfl,rn,rf r hi,List.append_nil,U,simprocAttr]
 refine .flat _ (Ae _ _) rfl ?_
 try simp only[U,simprocAttr]
 refine .done (hK _ ?_);clear hK K
 refine ab.ret ?_
 simp only[U,simprocAttr]
 simp[nv,bne]
theorem P6(w:aS 5 Int)(a b:aS 6 Int)(ha:dT a=true)(hb:dT b=true)(i:Nat)(hi:i<6):aA Tryz.prog 198 (enc (i:Int)::[.ref (.func 196 []),.ref (enc w),.ref (enc a),.ref (enc b)]) (enc (!iV w a b i)):=by
 obtain ⟨h0,h5⟩:=nR ha hi
 obtain ⟨k0,k5⟩:=nR hb hi
 refine aA.bA Tryz.func198 SU UP WW (Nat.le_of_ble_eq_true rfl) (fun hwf W0 D0 E1 =>?_)
 simp only[BZ,M7,bp,Nat.zero_add,Nat.reduceAdd]
 refine .ao (by decide +kernel) fun K hK =>?_
 simp only[Hm,U,simprocAttr]
 refine .done (hK _ ?_);clear hK K
 refine .ao (by decide +kernel) fun K hK =>?_
 simp only[Hn,U,simprocAttr]
 try simp only[cD,cH,U,simprocAttr]
 refine .flat _ (vc w a i hi h0 h5) rfl ?_
 try simp only[cD,cH,U,simprocAttr]
 refine .flat _ (vc w b i hi k0 k5) rfl ?_
 try simp only[List.append_nil,U,simprocAttr]
 refine .flat _ (Ae _ _) rfl ?_
 try simp only[U,simprocAttr]
 refine .done (hK _ ?_);clear hK K
 refine ab.ret ?_
 simp only[U,simprocAttr]
 simp[iV,bne]
theorem OP{A:af}{n:Nat}{b:I}{f:FuncId}{caps:List I}{rest:List aB} : dQ A none n [] b (.func f caps) rest (some .dh)=az rest (A.aK n (.box (b.dz [] (.func f caps)))):=ev rfl rfl (by simp[I.aP])
theorem Qa(w:aS 5 Int)(m r:aS 6 Int)(hm:dT m=true):aA Tryz.prog 202 [enc w,enc m,enc r] (enc (lI w m r)):=by
 refine aA.bA Tryz.func202 SY UT W2 (Nat.le_of_ble_eq_true rfl) (fun hwf W0 D0 E1 =>?_)
 simp only[B5,Nb,bp,Nat.zero_add,Nat.reduceAdd]
 refine .ao (by decide +kernel) fun K hK =>?_
 simp only[HA,U,simprocAttr]
 try simp only[dq,U,simprocAttr]
 refine .done (hK _ ?_);clear hK K
 refine .ao (by decide +kernel) fun K hK =>?_
 simp only[HB,U,simprocAttr]
 try simp only[OP,U,simprocAttr]
 refine .done (hK _ ?_);clear hK K
 refine .ao (by decide +kernel) fun K hK =>?_
 simp only[HC,U,simprocAttr]
 try simp only[List.all_cons,List.all_nil,I.cj,Bool.and_self,dV,U,simprocAttr]
 refine .flat _ (Af 212 [.ref (.func 196 []),.ref (enc w),.ref (enc m),.ref (enc r)] ?_ (fun i => !nv w m r i) (fun i hi=>Qh w m r hm i hi)) rfl ?_
 ·simp only[I.e9,I.done,I.bB,I.bX,dV,Bool.and_self]
 try simp only[U,simprocAttr]
 refine .done (hK _ ?_);clear hK K
 refine ab.ret ?_
 simp only[U,simprocAttr]
 simp only[lI,Bool.not_not]
theorem PS(w:aS 5 Int)(a b:aS 6 Int)(ha:dT a=true)(hb:dT b=true):aA Tryz.prog 165 [enc w,enc a,enc b] (enc (eG (iV w a b) 6:Int)):=by
 refine aA.bA Tryz.func165 SC Ux WC (Nat.le_of_ble_eq_true rfl) (fun hwf W0 D0 E1 =>?_)
 simp only[BH,MO,bp,Nat.zero_add,Nat.reduceAdd]
 refine .ao (by decide +kernel) fun K hK =>?_
 simp only[Gt,U,simprocAttr]
 try simp only[dq,U,simprocAttr]
 refine .done (hK _ ?_);clear hK K
 refine .ao (by decide +kernel) fun K hK =>?_
 simp only[Gu,U,simprocAttr]
 try simp only[OP,U,simprocAttr]
 refine .done (hK _ ?_);clear hK K
 refine .ao (by decide +kernel) fun K hK =>?_
 simp only[Gv,U,simprocAttr]
 try simp only[List.all_cons,List.all_nil,I.cj,Bool.and_self,dV,U,simprocAttr]
 refine .flat _ (Af 198 [.ref (.func 196 []),.ref (enc w),.ref (enc a),.ref (enc b)] ?_ (fun i => !iV w a b i) (fun i hi=>P6 w a b ha hb i hi)) rfl ?_
 ·simp only[I.e9,I.done,I.bB,I.bX,dV,Bool.and_self]
 try simp only[U,simprocAttr]
 refine .done (hK _ ?_);clear hK K
 refine ab.ret ?_
 simp only[U,simprocAttr]
 simp only[Bool.not_not]
theorem PR(m:bZ)(g:b9)(k:aS 6 Int)(hg:dT g.mark=true)(hk:dT k=true):aA Tryz.prog 164 (enc g::[.ref (enc m),.ref (enc k)]) (enc (kb m g.mark k)):=by
 refine aA.bA Tryz.func164 SB Uw WB (Nat.le_of_ble_eq_true rfl) (fun hwf W0 D0 E1 =>?_)
 simp only[BG,MN,bp,Nat.zero_add,Nat.reduceAdd]
 refine .ao (by decide +kernel) fun K hK =>?_
 simp only[Gr,U,simprocAttr]
 try simp only[dq,U,simprocAttr]
 refine .done (hK _ ?_);clear hK K
 refine .ao (by decide +kernel) fun K hK =>?_
 simp only[Gs,U,simprocAttr]
 try simp only[cD,cH,U,simprocAttr]
 refine .flat _ (PS m.eL g.mark k hg hk) rfl ?_
 try simp only[cD,U,simprocAttr]
 refine .done (hK _ ?_);clear hK K
 refine ab.ret ?_
 simp only[U,simprocAttr]
 rfl
theorem vb(l:List b9)(f:FuncId)(caps:List I)(hcaps:I.e9 caps=true)(p:b9→Bool)(hf:∀ x∈l,aA Tryz.prog f (enc x::caps) (enc (p x))):aA Tryz.prog 195 [enc l,.func f caps] (enc (match l.findIdx? p with | some i=>(i:Int) | none=>-1)):=by
 refine aA.bA Tryz.func195 SQ UM WT (Nat.le_of_ble_eq_true rfl) (fun hwf W0 D0 E1 =>?_)
 simp only[BW,M4,bp,Nat.zero_add]
 have hlen:l.length≤maxLen:=((kJ l).1 hwf.1).1
 simp only[maxLen] at hlen
 have hcl:I.bX caps=true:=kQ caps hcaps
 have hfc:∀ aC A,b7 aC A caps=some caps:=fun aC A=>kU aC A caps hcaps
 have hon:∀ q,I.bR q caps=true:=fun q=>kA q caps hcl
 refine .ao (by decide +kernel) fun K hK =>?_
 simp only[G4,U,simprocAttr]
 refine .done (hK _ ?_);clear hK K
 refine ab.seq ?_
 refine ab.seq (ab.bl (by decide +kernel) fun K hK =>?_)
 try simp only[G5,bn,U,simprocAttr]
 refine .done (hK _ ?_);clear hK K
 refine ab.block (ab.loop (fun i:Nat=>av [(0,enc l),(1,.func f caps),(7,.int .i64 l.length),(8,.int .i64 i)] []) (fun i=>i≤l.length∧∀ x∈l.take i,p x=false) (fun i=>l.length-i) 0 ⟨Nat.zero_le _,by simp⟩ ?_ (fun i hi =>?_))
 ·refine aD.bM ?_ ?_ ?_ ?_ <;>simp[aV,bF,bE,a7,aY,I.only,bh,hon]
 ·refine .ao (by decide +kernel) fun K hK =>?_
  simp only[G6,U,simprocAttr]
  refine .done (hK _ ?_);clear hK K
  refine ab.seq ?_
  refine ab.bC ?_
  simp only[ar,U,simprocAttr]
  refine ⟨fun h =>?_,fun h =>?_⟩
  ·have hlt:i<l.length:=by simpa using h
   refine ab.skip ?_;try simp only[aq,simprocAttr]
   refine ab.seq (ab.block ?_)
   refine .ao (by decide +kernel) fun K hK =>?_
   simp only[G7,U,simprocAttr]
   refine .done (hK _ ?_);clear hK K
   refine .ao (by decide +kernel) fun K hK =>?_
   simp only[G8,U,simprocAttr]
   try simp only[fI 7 hlt rfl,cD,List.cons_append,hfc,cH,U,simprocAttr]
   refine .flat _ (hf _ (List.getElem_mem hlt)) rfl ?_
   try simp only[U,simprocAttr]
   refine .done (hK _ ?_);clear hK K
   refine ab.bC ?_
   simp only[ar,U,simprocAttr]
   refine ⟨fun h =>?_,fun h =>?_⟩
   ·refine .ao (by decide +kernel) fun K hK =>?_
    simp only[G9,U,simprocAttr]
    refine .done (hK _ ?_);clear hK K
    refine ab.ret ?_
    simp only[bN,aq,U,simprocAttr]
    simp[wz hlt hi.2 h]
   ·refine ab.skip ?_;try simp only[aq,bN,simprocAttr]
    refine .bl (by decide +kernel) fun K hK =>?_
    simp only[Ha,U,simprocAttr]
    refine .done (hK _ ?_);clear hK K;try simp only[aq]
    refine ⟨i+1,⟨by omega,fun x hm =>?_⟩,by omega,?_⟩
    ·rw[List.take_succ_eq_append_getElem hlt] at hm
     rcases List.mem_append.1 hm with hm | hm
     ·exact hi.2 x hm
     ·simp at hm;rw[hm];exact h
    ·rw[cA _ (by omega) (by omega)]
     refine aD.bM ?_ ?_ ?_ ?_ <;>simp[aV,bF,bE,a7,aY,I.only,bh,hon]
  ·have hge:i=l.length:=by simp at h;omega
   refine ab.exit ?_;try simp only[aq,bN,simprocAttr]
   refine .ao (by decide +kernel) fun K hK =>?_
   simp only[Hb,U,simprocAttr]
   refine .done (hK _ ?_);clear hK K
   refine ab.ret ?_
   simp only[U,simprocAttr]
   simp[hge] at hi
   simp[wy hi]
theorem ZL{α:Type}(p:α→Bool)(l:List α):decide (0≤(match l.findIdx? p with | some i=>(i:Int) | none=>-1))=l.any p:=by
 cases h:l.findIdx? p with
 |none =>
  rw[List.findIdx?_eq_none_iff] at h
  have:l.any p=false:=by rw[List.any_eq_false];intro x hx;simp[h x hx]
  simp[this]
 |some i =>
  rw[List.findIdx?_eq_some_iff_getElem] at h
  obtain ⟨h1,h2,_⟩:=h
  have:l.any p=true:=by rw[List.any_eq_true];exact ⟨_,List.getElem_mem h1,h2⟩
  rw[this]
  exact decide_eq_true (Int.natCast_nonneg i)
theorem PQ(l:List b9)(f:FuncId)(caps:List I)(hcaps:I.e9 caps=true)(p:b9→Bool)(hf:∀ x∈l,aA Tryz.prog f (enc x::caps) (enc (p x))):aA Tryz.prog 163 [enc l,.func f caps] (enc (l.any p)):=by
 refine aA.bA Tryz.func163 SA Uv WA (Nat.le_of_ble_eq_true rfl) (fun hwf W0 D0 E1 =>?_)
 simp only[BF,ML,bp,Nat.zero_add]
 have hcl:I.bX caps=true:=kQ caps hcaps
 have hfc:∀ aC A,b7 aC A caps=some caps:=fun aC A=>kU aC A caps hcaps
 refine .ao (by decide +kernel) fun K hK =>?_
 simp only[Gp,U,simprocAttr]
 refine .done (hK _ ?_);clear hK K
 refine .ao (by decide +kernel) fun K hK =>?_
 simp only[Gq,U,simprocAttr]
 try simp only[cH,hfc,U,simprocAttr]
 refine .flat _ (vb l f caps hcaps p hf) rfl ?_
 try simp only[U,simprocAttr]
 refine .done (hK _ ?_);clear hK K
 refine ab.ret ?_
 simp only[U,simprocAttr]
 rw[ZL]
theorem zX(m:bZ)(l:List b9)(k:aS 6 Int)(hl:∀ g∈l,dT g.mark=true)(hk:dT k=true):aA Tryz.prog 124 [enc m,enc l,enc k] (enc (!l.any fun g=>kb m g.mark k)):=by
 refine aA.bA Tryz.func124 R7 T0 V7 (Nat.le_of_ble_eq_true rfl) (fun hwf W0 D0 E1 =>?_)
 simp only[Bb,Mi,bp,Nat.zero_add,Nat.reduceAdd]
 refine .ao (by decide +kernel) fun K hK =>?_
 simp only[EW,U,simprocAttr]
 try simp only[dq,U,simprocAttr]
 refine .done (hK _ ?_);clear hK K
 refine .ao (by decide +kernel) fun K hK =>?_
 simp only[EX,U,simprocAttr]
 try simp only[List.all_cons,List.all_nil,I.cj,Bool.and_self,dV,cH,U,simprocAttr]
 refine .flat _ (PQ l 164 [.ref (enc m),.ref (enc k)] ?_ (fun g=>kb m g.mark k) (fun g hg=>PR m g k (hl g hg) hk)) rfl ?_
 ·simp only[I.e9,I.done,dV,Bool.and_self]
 try simp only[U,simprocAttr]
 refine .done (hK _ ?_);clear hK K
 refine ab.ret ?_
 simp only[U,simprocAttr]
theorem OC{α:Type}[Enc α]{A:af}(esz:Nat){l:List α}{i:Nat}(h:i≤l.length)(hs:Enc.sz α=esz):mh A esz none (some (.int .i64 i)) none (enc l)=some (enc (l.take i)):=by
 simp only[mh,gA,hs,if_true,jJ,iw,List.length_map]
 rw[if_pos ⟨by omega,by omega,by omega,by omega⟩]
 simp
theorem AE(m:bZ)(k:aS 6 Int){i:Nat}(h:i≤m.given.length):(!(m.given.take i).any fun g=>kb m g.mark k)=(List.range i).all (fun j => !kb m (cZ m j).mark k):=by
 rw[Bool.eq_iff_iff]
 simp only[Bool.not_eq_true',List.any_eq_false,List.all_eq_true,List.mem_range]
 constructor
 ·intro h1 j hj
  have hjl:j<m.given.length:=by omega
  have:=h1 m.given[j] (by rw[List.mem_take_iff_getElem];exact ⟨j,by omega,rfl⟩)
  rw[jx hjl] at this
  simpa using this
 ·intro h1 g hg
  rw[List.mem_take_iff_getElem] at hg
  obtain ⟨j,hj,rfl⟩:=hg
  have hjl:j<m.given.length:=by omega
  rw[jx hjl]
  simpa using h1 j (by omega)
theorem vf(m:bZ):aA Tryz.prog 66 [enc m] (enc (if en m then (0:Int) else 13)):=by
 refine aA.bA Tryz.func66 Tk Vg Xo (Nat.le_of_ble_eq_true rfl) (fun hwf W0 D0 E1 =>?_)
 simp only[Cq,NA,bp]
 refine .ao (by decide +kernel) fun K hK =>?_
 simp only[IY,U,simprocAttr]
 try simp only[dq,U,simprocAttr]
 refine .done (hK _ ?_);clear hK K
 refine ab.seq (ab.seq ?_)
 refine .bl (by decide +kernel) fun K hK =>?_
 simp only[IZ,U,simprocAttr]
 try simp only[cD,cH,U,simprocAttr]
 refine .flat _ (Ps m.eL) rfl ?_
 generalize hw:im m.eL=bw
 cases bw
 ·try simp only[U,simprocAttr]
  refine .done (hK _ ?_);clear hK K;try simp only[aq]
  refine ab.bC ?_
  simp only[ar,U,simprocAttr]
  refine ⟨fun h =>?_,fun h =>?_⟩
  ·refine .ao (by decide +kernel) fun K hK =>?_
   simp only[tl,U,simprocAttr]
   refine .done (hK _ ?_);clear hK K
   refine ab.ret ?_
   simp only[aq,U,simprocAttr]
   simp[en,hw]
  ·cases h
 try simp only[cD,U,simprocAttr]
 refine .flat _ (sh m.eH 0 2) rfl ?_
 generalize hf:cq 0 2 m.eH=bf
 cases bf
 ·try simp only[U,simprocAttr]
  refine .done (hK _ ?_);clear hK K
  refine ab.bC ?_
  simp only[ar,U,simprocAttr]
  refine ⟨fun h =>?_,fun h =>?_⟩
  ·refine .ao (by decide +kernel) fun K hK =>?_
   simp only[tl,U,simprocAttr]
   refine .done (hK _ ?_);clear hK K
   refine ab.ret ?_
   simp only[aq,U,simprocAttr]
   simp[en,hw,hf]
  ·cases h
 try simp only[cD,bn,U,simprocAttr]
 refine .done (hK _ ?_);clear hK K
 refine ab.bC ?_
 simp only[ar,U,simprocAttr]
 refine ⟨fun h =>?_,fun h =>?_⟩
 ·refine .ao (by decide +kernel) fun K hK =>?_
  simp only[tl,U,simprocAttr]
  refine .done (hK _ ?_);clear hK K
  refine ab.ret ?_
  simp only[aq,U,simprocAttr]
  have:¬ m.given.length≤40:=by simp at h;omega
  simp[en,hw,hf,this]
 have hlen:m.given.length≤40:=by simp at h;omega
 refine ab.skip ?_;try simp only[aq,simprocAttr]
 refine ab.seq (ab.seq ?_)
 refine ab.bl (by decide +kernel) fun K hK =>?_
 try simp only[I0,cD,bn,U,simprocAttr]
 refine .done (hK _ ?_);clear hK K
 refine ab.block (ab.loop (fun i:Nat=>av [(1,.ptr 1 []),(22,enc m.given),(23,.int .i64 m.given.length),(24,.int .i64 i)] [(1,.box (enc m))]) (fun i=>i≤m.given.length∧∀ j,j<i→gR m j=true) (fun i=>m.given.length-i) 0 ⟨by omega,fun k h=>by omega⟩ ?_ (fun i hi =>?_))
 ·refine aD.bM ?_ ?_ ?_ ?_ <;>simp[aV,bF,bE,a7,au,aY,ct,I.only,ai.only,bh]
 refine .ao (by decide +kernel) fun K hK =>?_
 simp only[I1,U,simprocAttr]
 refine .done (hK _ ?_);clear hK K
 refine ab.seq ?_
 refine ab.bC ?_
 simp only[ar,U,simprocAttr]
 refine ⟨fun h =>?_,fun h =>?_⟩
 case refine_2.refine_2 =>
  have hge:i=m.given.length:=by simp at h;omega
  subst hge
  refine ab.exit ?_;try simp only[aq,bN,simprocAttr]
  refine .ao (by decide +kernel) fun K hK =>?_
  simp only[I4,U,simprocAttr]
  refine .done (hK _ ?_);clear hK K
  refine ab.ret ?_
  simp only[U,simprocAttr]
  have:(List.range m.given.length).all (gR m)=true:=qH hi.2
  simp[en,hw,hf,this,hlen]
 have hlt:i<m.given.length:=by simpa using h
 refine ab.skip ?_;try simp only[aq,simprocAttr]
 refine ab.seq (ab.block ?_)
 refine .ao (by decide +kernel) fun K hK =>?_
 simp only[I2,U,simprocAttr]
 try simp only[cD,xU hlt,U,simprocAttr]
 rw[ev (dq _) (by rw[fZ];rfl) ((eQ _).trans rfl)]
 try simp only[U,simprocAttr]
 refine .done (hK _ ?_);clear hK K
 have bad:∀ b,gR m i=b→b=false→(if en m then (0:Int) else 13)=13:=fun b h1 h2=>by
  have:(List.range m.given.length).all (gR m)=false:=oh i hlt (by rw[h1,h2])
  simp[en,this]
 have htake:∀ g∈m.given.take i,dT g.mark=true:=fun g hg=>by
  rw[List.mem_take_iff_getElem] at hg
  obtain ⟨j,hj,rfl⟩:=hg
  have hjl:j<m.given.length:=by omega
  rw[jx hjl]
  exact yH (hi.2 j (by omega))
 refine .ao (by decide +kernel) fun K hK =>?_
 simp only[I3,U,simprocAttr]
 try simp only[cD,U,simprocAttr]
 refine .flat _ (Pt (cZ m i).bP) rfl ?_
 generalize ho:cq 1 99 (cZ m i).bP=bo
 cases bo
 ·try simp only[U,simprocAttr]
  refine .done (hK _ ?_);clear hK K
  refine ab.bC ?_
  simp only[ar,U,simprocAttr]
  refine ⟨fun h =>?_,fun h =>?_⟩
  ·refine .ao (by decide +kernel) fun K hK =>?_
   simp only[pO,U,simprocAttr]
   refine .done (hK _ ?_);clear hK K
   refine ab.ret ?_
   simp only[bN,aq,U,simprocAttr]
   rw[bad _ rfl (by simp[gR,ho])]
  ·cases h
 try simp only[cD,cH,U,simprocAttr]
 refine .flat _ (Pu (cZ m i).mark) rfl ?_
 generalize hk:dT (cZ m i).mark=bk
 cases bk
 ·try simp only[U,simprocAttr]
  refine .done (hK _ ?_);clear hK K
  refine ab.bC ?_
  simp only[ar,U,simprocAttr]
  refine ⟨fun h =>?_,fun h =>?_⟩
  ·refine .ao (by decide +kernel) fun K hK =>?_
   simp only[pO,U,simprocAttr]
   refine .done (hK _ ?_);clear hK K
   refine ab.ret ?_
   simp only[bN,aq,U,simprocAttr]
   rw[bad _ rfl (by simp[gR,ho,hk])]
  ·cases h
 try simp only[U,simprocAttr]
 generalize hz:decide (0<(i:Int))=bz
 cases bz
 ·have hprev:(i==0||decide ((cZ m (i-1)).bP<(cZ m i).bP))=true:=by simp at hz;simp[hz]
  try simp only[cD,U,simprocAttr]
  try simp only[cD,cH,OC 7 (Nat.le_of_lt hlt) rfl,Option.map_none,U,simprocAttr]
  refine .flat _ (zX m (m.given.take i) (cZ m i).mark htake hk) rfl ?_
  rw[AE m (cZ m i).mark (Nat.le_of_lt hlt)]
  generalize hap:(List.range i).all (fun j => !kb m (cZ m j).mark (cZ m i).mark)=ba
  cases ba
  ·try simp only[U,simprocAttr]
   refine .done (hK _ ?_);clear hK K
   refine ab.bC ?_
   simp only[ar,U,simprocAttr]
   refine ⟨fun h =>?_,fun h =>?_⟩
   ·refine .ao (by decide +kernel) fun K hK =>?_
    simp only[pO,U,simprocAttr]
    refine .done (hK _ ?_);clear hK K
    refine ab.ret ?_
    simp only[bN,aq,U,simprocAttr]
    rw[bad _ rfl (by simp only[gR,hap,Bool.and_false])]
   ·cases h
  ·try simp only[U,simprocAttr]
   refine .done (hK _ ?_);clear hK K
   refine ab.bC ?_
   simp only[ar,U,simprocAttr]
   refine ⟨fun h =>?_,fun h =>?_⟩
   ·cases h
   refine ab.skip ?_;try simp only[aq,bN,simprocAttr]
   refine .bl (by decide +kernel) fun K hK =>?_
   simp only[xl,U,simprocAttr]
   refine .done (hK _ ?_);clear hK K;try simp only[aq]
   refine ⟨i+1,⟨by omega,fun k hk' =>?_⟩,by omega,?_⟩
   ·by_cases hki:k=i
    ·rw[hki]
     simp only[gR,ho,hk,hprev,hap,Bool.and_self]
    ·exact hi.2 k (by omega)
   ·rw[cA _ (by omega) (by omega)]
    refine aD.bM ?_ ?_ ?_ ?_ <;>simp[aV,bF,bE,a7,au,aY,ct,I.only,ai.only,bh]
 ·have hpos:0<i:=by simpa using hz
  have hpl:i-1<m.given.length:=by omega
  have hpred:IntKind.i64.wrap ((i:Int)-1)=((i-1:Nat):Int):=by rw[cA _ (by omega) (by omega)];omega
  try simp only[cD,hpred,xU hpl,U,simprocAttr]
  generalize hq:decide ((cZ m i).bP≤(cZ m (i-1)).bP)=bq
  cases bq
  ·have hprev:(i==0||decide ((cZ m (i-1)).bP<(cZ m i).bP))=true:=by simp at hq;simp;omega
   try simp only[cD,U,simprocAttr]
   try simp only[cD,cH,OC 7 (Nat.le_of_lt hlt) rfl,Option.map_none,U,simprocAttr]
   refine .flat _ (zX m (m.given.take i) (cZ m i).mark htake hk) rfl ?_
   rw[AE m (cZ m i).mark (Nat.le_of_lt hlt)]
   generalize hap:(List.range i).all (fun j => !kb m (cZ m j).mark (cZ m i).mark)=ba
   cases ba
   ·try simp only[U,simprocAttr]
    refine .done (hK _ ?_);clear hK K;try simp only[aq,bN]
    refine ab.bC ?_
    simp only[ar,U,simprocAttr]
    refine ⟨fun h =>?_,fun h =>?_⟩
    ·refine .ao (by decide +kernel) fun K hK =>?_
     simp only[pO,U,simprocAttr]
     refine .done (hK _ ?_);clear hK K
     refine ab.ret ?_
     simp only[bN,aq,U,simprocAttr]
     rw[bad _ rfl (by simp only[gR,hap,Bool.and_false])]
    ·cases h
   ·try simp only[U,simprocAttr]
    refine .done (hK _ ?_);clear hK K
    refine ab.bC ?_
    simp only[ar,U,simprocAttr]
    refine ⟨fun h =>?_,fun h =>?_⟩
    ·cases h
    refine ab.skip ?_;try simp only[aq,bN,simprocAttr]
    refine .bl (by decide +kernel) fun K hK =>?_
    simp only[xl,U,simprocAttr]
    refine .done (hK _ ?_);clear hK K;try simp only[aq]
    refine ⟨i+1,⟨by omega,fun k hk' =>?_⟩,by omega,?_⟩
    ·by_cases hki:k=i
     ·rw[hki]
      simp only[gR,ho,hk,hprev,hap,Bool.and_self]
     ·exact hi.2 k (by omega)
    ·rw[cA _ (by omega) (by omega)]
     refine aD.bM ?_ ?_ ?_ ?_ <;>simp[aV,bF,bE,a7,au,aY,ct,I.only,ai.only,bh]
  ·try simp only[U,simprocAttr]
   refine .done (hK _ ?_);clear hK K;try simp only[aq,bN]
   refine ab.bC ?_
   simp only[ar,U,simprocAttr]
   refine ⟨fun h =>?_,fun h =>?_⟩
   ·refine .ao (by decide +kernel) fun K hK =>?_
    simp only[pO,U,simprocAttr]
    refine .done (hK _ ?_);clear hK K
    refine ab.ret ?_
    simp only[bN,aq,U,simprocAttr]
    have:(i==0||decide ((cZ m (i-1)).bP<(cZ m i).bP))=false:=by simp at hq;simp;omega
    rw[bad _ rfl (by simp only[gR,this,Bool.and_false,Bool.false_and])]
   ·cases h
theorem P8(f:FuncId)(caps:List I)(hcaps:I.e9 caps=true):aA Tryz.prog 200 [enc ([]:List b9),.func f caps] (enc ([]:List b9)):=by
 refine aA.bA Tryz.func200 CR CY Da (Nat.le_of_ble_eq_true rfl) (fun hwf W0 D0 E1 =>?_)
 simp only[vA,zc,bp,Nat.zero_add]
 have hcl:I.bX caps=true:=kQ caps hcaps
 have hfc:∀ aC A,b7 aC A caps=some caps:=fun aC A=>kU aC A caps hcaps
 refine .ao (by decide +kernel) fun K hK =>?_
 simp only[xe,U,simprocAttr]
 refine .done (hK _ ?_);clear hK K
 refine .ao (by decide +kernel) fun K hK =>?_
 simp only[xf,U,simprocAttr]
 try simp only[cH,hfc,U,simprocAttr]
 refine .flat _ (vb [] f caps hcaps (fun _=>false) (fun x hx=>by cases hx)) rfl ?_
 try simp only[List.findIdx?_nil,U,simprocAttr]
 refine .done (hK _ ?_);clear hK K
 refine ab.seq (ab.seq ?_)
 refine .bl (by decide +kernel) fun K hK =>?_
 simp only[th,U,simprocAttr]
 refine .done (hK _ ?_);clear hK K;try simp only[aq]
 refine ab.bC ?_
 simp only[ar,U,simprocAttr]
 refine ⟨fun h =>?_,fun h =>?_⟩
 ·refine .ao (by decide +kernel) fun K hK =>?_
  simp only[xh,U,simprocAttr]
  refine .done (hK _ ?_);clear hK K
  refine ab.ret ?_
  simp only[aq,U,simprocAttr]
  try simp only[cH,U,simprocAttr]
 ·cases h
def fT(p:b9→Bool)(l:List b9):List b9:=l.filter fun x => !p x
def Dg(k:Nat)(l:List b9):cR:=fun r os'=>∃ m,r=.view k [] 7 0 l.length∧os'=iR k l m
theorem yT(p:Nat→Bool)(m:Nat)(x:b9):I.bR p (List.replicate m (enc x))=true:=by
 have:List.replicate m (enc x)=(List.replicate m x).map (enc (α:=b9)):=by simp
 rw[this];exact dN p _
theorem aj9(p:Nat→Bool)(xs:List b9)(i:Nat)(v:b9):I.bR p ((xs.map enc).set i (enc v))=true:=by
 rw[←List.map_set];exact dN p _
theorem zl{xs:List b9}{m j:Nat}(h:j<xs.length):((xs++List.replicate m fC).map (enc (α:=b9)))[0+j]?=some (enc xs[j]):=by
 rw[Nat.zero_add,List.getElem?_map,List.getElem?_append_left h,List.getElem?_eq_getElem h];rfl
theorem ak8{xs:List b9}{m i:Nat}(h:i<xs.length)(v:b9):((xs++List.replicate m fC).map (enc (α:=b9))).set (0+i) (enc v)=(xs.set i v++List.replicate m fC).map enc:=by
 rw[Nat.zero_add,←List.map_set,List.set_append_left _ _ h]
theorem zK(l:List b9)(m:Nat):(l++List.replicate m fC).take l.length=l:=List.take_left
theorem wm(p:b9→Bool)(l:List b9){j:Nat}(h:j<l.length):fT p (l.take (j+1))=fT p (l.take j)++(if p l[j] then [] else [l[j]]):=by
 rw[List.take_succ_eq_append_getElem h]
 simp only[fT,List.filter_append,List.filter_cons,List.filter_nil]
 cases p l[j] <;>simp
theorem P7(l:List b9)(f:FuncId)(caps:List I)(hcaps:I.e9 caps=true)(p:b9→Bool)(hf:∀ x∈l,aA Tryz.prog f (enc x::caps) (enc (p x)))(hlen:l.length≤1000)(m:Nat) :
  cF Tryz.prog 200 [.view 1000000 [] 7 0 l.length,.func f caps] (iR 1000000 l m) (Dg 1000000 (fT p l)):=by
 refine cF.bA Tryz.func200 CR CY Da (Nat.le_of_ble_eq_true rfl) (Nat.le_of_ble_eq_true rfl) (fun m hm=>by rw[cW.1 hm];exact Nat.le_refl _) (fun hwf W0 D0 E1 =>?_)
 simp only[vA,zc,bp,Nat.zero_add]
 have hcl:I.bX caps=true:=kQ caps hcaps
 have hfc:∀ aC A,b7 aC A caps=some caps:=fun aC A=>kU aC A caps hcaps
 have hon:∀ q,I.bR q caps=true:=fun q=>kA q caps hcl
 simp only[iR]
 refine .ao (by decide +kernel) fun K hK =>?_
 simp only[xe,U,simprocAttr]
 refine .done (hK _ ?_);clear hK K
 refine .ao (by decide +kernel) fun K hK =>?_
 simp only[xf,U,simprocAttr]
 try simp only[hfc,qY (α:=b9) (sz:=7) rfl,zK,U,simprocAttr]
 refine .flat _ (vb l f caps hcaps p hf) rfl ?_
 try simp only[U,simprocAttr]
 refine .done (hK _ ?_);clear hK K
 generalize hfi:l.findIdx? p=fi
 cases fi with
 |none =>
  rw[List.findIdx?_eq_none_iff] at hfi
  have hk:fT p l=l:=by
   simp only[fT,List.filter_eq_self];intro x hx;simp[hfi x hx]
  refine ab.seq (ab.seq ?_)
  refine .bl (by decide +kernel) fun K hK =>?_
  simp only[th,U,simprocAttr]
  refine .done (hK _ ?_);clear hK K;try simp only[aq]
  refine ab.bC ?_
  simp only[ar,U,simprocAttr]
  refine ⟨fun h =>?_,fun h =>?_⟩
  ·refine .ao (by decide +kernel) fun K hK =>?_
   simp only[xh,U,simprocAttr]
   refine .done (hK _ ?_);clear hK K
   refine ab.ret ?_
   simp only[aq,eY]
   rw[hk]
   exact ⟨iR 1000000 l m,[.view 1000000 [] 7 0 l.length],kp rfl (fun p=>mL p _),⟨⟨_,rfl,.inl ⟨rfl,rfl,rfl⟩⟩,trivial⟩,m,rfl,rfl⟩
  ·cases h
 |some i0 =>
  obtain ⟨q1,q2,q3⟩:=List.findIdx?_eq_some_iff_getElem.1 hfi
  have hstart:l.take i0=fT p (l.take (i0+1)):=by
   rw[wm p l q1,q2]
   simp only[if_true,List.append_nil,fT]
   symm
   rw[List.filter_eq_self]
   intro x hx
   rw[List.mem_take_iff_getElem] at hx
   obtain ⟨j,hj,rfl⟩:=hx
   have:=q3 j (by omega)
   simpa using this
  refine ab.seq (ab.seq ?_)
  refine .bl (by decide +kernel) fun K hK =>?_
  simp only[th,U,simprocAttr]
  refine .done (hK _ ?_);clear hK K;try simp only[aq]
  refine ab.bC ?_
  simp only[ar,U,simprocAttr]
  refine ⟨fun h =>?_,fun h =>?_⟩
  ·simp at h
  refine ab.skip ?_;try simp only[aq,simprocAttr]
  refine ab.seq (ab.seq ?_)
  refine .bl (by decide +kernel) fun K hK =>?_
  simp only[Hs,U,simprocAttr]
  refine .done (hK _ ?_);clear hK K;try simp only[aq]
  refine ab.block (ab.loop (fun s:List b9×Nat×Nat=>av [(0,.view 1000000 [] 7 0 l.length),(1,.func f caps),(5,.int .i64 s.2.1),(6,.int .i64 s.2.2)] [(1000000,.box (.agg ((s.1++List.replicate m fC).map enc)))])
   (fun s=>s.1.length=l.length∧s.2.1<s.2.2∧s.2.2≤l.length∧s.1.take s.2.1=fT p (l.take s.2.2)∧s.1.drop s.2.2=l.drop s.2.2) (fun s=>l.length-s.2.2) (l,i0,i0+1) ⟨rfl,by simp only;omega,by simp only;omega,hstart,rfl⟩ ?_ ?_)
  ·rw[cA _ (by omega) (by omega)]
   refine aD.bM ?_ ?_ ?_ ?_ <;>simp[aV,bF,bE,a7,au,aY,ct,I.only,ai.only,dN,gG,hon,yT]
  ·rintro ⟨xs,i,j⟩ ⟨c1,c2,c3,iy,lD⟩
   simp only at c1 c2 c3 iy lD ⊢
   refine ab.seq (ab.seq ?_)
   refine .bl (by decide +kernel) fun K hK =>?_
   simp only[Ht,U,simprocAttr]
   try simp only[dp,U,simprocAttr]
   refine .done (hK _ ?_);clear hK K;try simp only[aq]
   refine ab.bC ?_
   simp only[ar,U,simprocAttr]
   refine ⟨fun h =>?_,fun h =>?_⟩
   ·have hj:j<l.length:=by simpa using h
    have hjx:j<xs.length:=by omega
    have hix:i<xs.length:=by omega
    have hxj:xs[j]=l[j]:=by
     have h1:(xs.drop j)[0]?=(l.drop j)[0]?:=by rw[lD]
     simpa[hj,hjx] using h1
    refine ab.skip ?_;try simp only[aq,simprocAttr]
    refine ab.seq (ab.block ?_)
    refine .ao (by decide +kernel) fun K hK =>?_
    simp only[Hu,U,simprocAttr]
    try simp only[dp,xX (sz:=7) hj,List.nil_append,U,simprocAttr]
    try simp only[zl hjx,hxj,cD,U,simprocAttr]
    rw[ev (dq _) (by rw[fZ];rfl) ((eQ _).trans rfl)]
    try simp only[U,simprocAttr]
    refine .done (hK _ ?_);clear hK K
    refine .ao (by decide +kernel) fun K hK =>?_
    simp only[Hv,U,simprocAttr]
    try simp only[cD,cH,hfc,List.cons_append,List.nil_append,U,simprocAttr]
    refine .flat _ (hf _ (List.getElem_mem hj)) rfl ?_
    try simp only[U,simprocAttr]
    refine .done (hK _ ?_);clear hK K
    refine ab.bC ?_
    simp only[ar,U,simprocAttr]
    refine ⟨fun h =>?_,fun h =>?_⟩
    ·have hpj:p l[j]=false:=by simpa using h
     refine .ao (by decide +kernel) fun K hK =>?_
     simp only[Hw,U,simprocAttr]
     try simp only[cD,dp,xX (sz:=7) (show i<l.length by omega),List.nil_append,U,simprocAttr]
     try simp only[zl hix,U,simprocAttr]
     rw[ev (dq _) (by rw[fZ];rfl) ((eQ _).trans (eQ _).symm)]
     try simp only[zl hix,ak8 hix,U,simprocAttr]
     refine .done (hK _ ?_);clear hK K
     refine .bl (by decide +kernel) fun K hK =>?_
     simp only[Hx,U,simprocAttr]
     refine .done (hK _ ?_);clear hK K;try simp only[aq,bN]
     refine .bl (by decide +kernel) fun K hK =>?_
     simp only[xg,U,simprocAttr]
     refine .done (hK _ ?_);clear hK K;try simp only[aq]
     refine ⟨(xs.set i l[j],i+1,j+1),⟨by simp[c1],by simp only;omega,by simp only;omega,?_,?_⟩,by simp only;omega,?_⟩
     ·simp only
      rw[wm p l hj,hpj,←iy]
      simp only[Bool.false_eq_true,if_false]
      rw[List.take_succ_eq_append_getElem (by simpa using hix),List.take_set_of_le (Nat.le_refl _)]
      simp
     ·simp only
      rw[List.drop_set_of_lt (by omega)]
      have:(xs.drop j).drop 1=(l.drop j).drop 1:=by rw[lD]
      simpa[List.drop_drop] using this
     ·simp only
      rw[cA _ (by omega) (by omega),cA _ (by omega) (by omega)]
      refine aD.bM ?_ ?_ ?_ ?_ <;>simp[aV,bF,bE,a7,au,aY,ct,I.only,ai.only,gG,hon,yT,aj9]
    ·have hpj:p l[j]=true:=by simpa using h
     refine ab.skip ?_;try simp only[aq,bN,simprocAttr]
     refine .bl (by decide +kernel) fun K hK =>?_
     simp only[xg,U,simprocAttr]
     refine .done (hK _ ?_);clear hK K;try simp only[aq]
     refine ⟨(xs,i,j+1),⟨c1,by simp only;omega,by simp only;omega,?_,?_⟩,by simp only;omega,?_⟩
     ·simp only
      rw[wm p l hj,hpj,←iy]
      simp
     ·simp only
      have:(xs.drop j).drop 1=(l.drop j).drop 1:=by rw[lD]
      simpa[List.drop_drop] using this
     ·simp only
      rw[cA _ (by omega) (by omega)]
      refine aD.bM ?_ ?_ ?_ ?_ <;>simp[aV,bF,bE,a7,au,aY,ct,I.only,ai.only,dN,gG,hon,yT]
   ·have hj:j=l.length:=by simp at h;omega
    subst hj
    rw[List.take_length] at iy
    have hlk:(fT p l).length=i:=by rw[←iy,List.length_take];omega
    have htot:((xs++List.replicate m fC).map (enc (α:=b9))).length=l.length+m:=by simp[c1]
    refine ab.exit ?_;try simp only[aq,bN,simprocAttr]
    refine .ao (by decide +kernel) fun K hK =>?_
    simp only[Hq,U,simprocAttr]
    try simp only[dp,htot,Option.map_none,mi (show i≤l.length by omega) (show l.length≤l.length+m by omega) (show i<l.length+m by omega),v8,U,simprocAttr]
    rw[vP fC rfl (by simp[c1];omega)]
    have hcont:(xs++List.replicate m fC).take i++(List.replicate (l.length-i) fC++(xs++List.replicate m fC).drop (i+(l.length-i)))=fT p l++List.replicate (l.length-i+m) fC:=by
     rw[List.take_append_of_le_length (by omega),iy]
     have e1:i+(l.length-i)=xs.length:=by omega
     rw[e1,List.drop_left,List.replicate_append_replicate]
    rw[hcont]
    try simp only[U,simprocAttr]
    refine .done (hK _ ?_);clear hK K
    have htot2:((fT p l++List.replicate (l.length-i+m) fC).map (enc (α:=b9))).length=l.length+m:=by simp[hlk];omega
    refine .ao (by decide +kernel) fun K hK =>?_
    simp only[Hr,U,simprocAttr]
    try simp only[dp,htot2,Option.map_none,r3 (show i≤l.length+m by omega) (show 0<l.length+m by omega),U,simprocAttr]
    refine .done (hK _ ?_);clear hK K
    refine ab.ret ?_
    simp only[eY]
    exact ⟨iR 1000000 (fT p l) (l.length-i+m),[.view 1000000 [] 7 0 i],kp rfl (fun p=>mL p _),⟨⟨_,rfl,.inl ⟨rfl,rfl,rfl⟩⟩,trivial⟩,l.length-i+m,by rw[hlk];rfl,rfl⟩
def p5(a:Item)(k d kn b:Int):ak:=⟨a,k,d,kn,b,0,0,0,oc,⟨0,0⟩⟩
theorem Dq:I.agg [.agg [.int .i64 0,.int .i64 0],.int .i64 0,.int .i64 0,.int .i64 0,.int .i64 0,.int .i64 0,.int .i64 0,.int .i64 0,.agg [.int .i64 0,.int .i64 0,.int .i64 0,.int .i64 0,.int .i64 0,.int .i64 0],.agg [.int .i64 0,.int .i64 0]]=enc (p5 ⟨0,0⟩ 0 0 0 0):=rfl
theorem AP(a:Item)(k d kn b:Int):(dY [.agg [.int .i64 0,.int .i64 0],.int .i64 0,.int .i64 0,.int .i64 0,.int .i64 0,.int .i64 0,.int .i64 0,.int .i64 0,.agg [.int .i64 0,.int .i64 0,.int .i64 0,.int .i64 0,.int .i64 0,.int .i64 0],.agg [.int .i64 0,.int .i64 0]] [(0,enc a),(1,.int .i64 k),(2,.int .i64 d),(3,.int .i64 kn),(4,.int .i64 b)]).map .agg=some (enc (p5 a k d kn b)):=by
 simp[dY,I.cj,I.size,I.sizes,fG,qT];rfl
theorem AO(a:Item)(k d kn:Int):(dY [.agg [.int .i64 0,.int .i64 0],.int .i64 0,.int .i64 0,.int .i64 0,.int .i64 0,.int .i64 0,.int .i64 0,.int .i64 0,.agg [.int .i64 0,.int .i64 0,.int .i64 0,.int .i64 0,.int .i64 0,.int .i64 0],.agg [.int .i64 0,.int .i64 0]] [(0,enc a),(1,.int .i64 k),(2,.int .i64 d),(3,.int .i64 kn)]).map .agg=some (enc (p5 a k d kn 0)):=by
 simp[dY,I.cj,I.size,I.sizes,fG,qT];rfl
theorem OL(A:af)(n:Nat)(b:I)(x y:ak)(rest:List aB):dQ A (some 17) n [] b (enc x) rest (some (enc y))=az rest (A.aK n (.box (enc x))):=ev (dq _) (LA x) ((eQ x).trans (eQ y).symm)
theorem o8(A:af)(n:Nat)(p:List Nat)(b:I)(k:IntKind)(x y:Int)(rest:List aB):dQ A none n p b (.int k x) rest (some (.int k y))=az rest (A.aK n (.box (b.dz p (.int k x)))):=ev rfl rfl rfl
theorem alz(A:af)(n:Nat)(p:List Nat)(b:I)(x y:aS 6 Int)(rest:List aB):dQ A (some 6) n p b (enc x) rest (some (enc y))=az rest (A.aK n (.box (b.dz p (enc x)))):=ev (dq _) (Lz x) ((eQ x).trans (eQ y).symm)
theorem OR(A:af)(n:Nat)(p:List Nat)(b:I)(x y:Item)(rest:List aB):dQ A (some 2) n p b (enc x) rest (some (enc y))=az rest (A.aK n (.box (b.dz p (enc x)))):=ev (dq _) (LB x) ((eQ x).trans (eQ y).symm)
theorem Oy :
  (∀ (A:af) (n:Nat) (rest:List aB) (e:ak) v y,dQ A (some 2) n [0] (enc e) (enc (v:Item)) rest (some (enc (y:Item)))=az rest (A.aK n (.box (enc { e with aX:=v })))) ∧
  (∀ (A:af) (n:Nat) (rest:List aB) (e:ak) v y,dQ A none n [1] (enc e) (.int .i64 v) rest (some (.int .i64 y))=az rest (A.aK n (.box (enc { e with kind:=v })))) ∧
  (∀ (A:af) (n:Nat) (rest:List aB) (e:ak) v y,dQ A none n [2] (enc e) (.int .i64 v) rest (some (.int .i64 y))=az rest (A.aK n (.box (enc { e with day:=v })))) ∧
  (∀ (A:af) (n:Nat) (rest:List aB) (e:ak) v y,dQ A none n [3] (enc e) (.int .i64 v) rest (some (.int .i64 y))=az rest (A.aK n (.box (enc { e with known:=v })))) ∧
  (∀ (A:af) (n:Nat) (rest:List aB) (e:ak) v y,dQ A none n [4] (enc e) (.int .i64 v) rest (some (.int .i64 y))=az rest (A.aK n (.box (enc { e with ef:=v })))) ∧
  (∀ (A:af) (n:Nat) (rest:List aB) (e:ak) v y,dQ A none n [5] (enc e) (.int .i64 v) rest (some (.int .i64 y))=az rest (A.aK n (.box (enc { e with e7:=v })))) ∧
  (∀ (A:af) (n:Nat) (rest:List aB) (e:ak) v y,dQ A none n [6] (enc e) (.int .i64 v) rest (some (.int .i64 y))=az rest (A.aK n (.box (enc { e with dA:=v })))) ∧
  (∀ (A:af) (n:Nat) (rest:List aB) (e:ak) v y,dQ A none n [7] (enc e) (.int .i64 v) rest (some (.int .i64 y))=az rest (A.aK n (.box (enc { e with bP:=v })))) ∧
  (∀ (A:af) (n:Nat) (rest:List aB) (e:ak) v y,dQ A (some 6) n [8] (enc e) (enc (v:aS 6 Int)) rest (some (enc (y:aS 6 Int)))=az rest (A.aK n (.box (enc { e with cm:=v })))) ∧
  (∀ (A:af) (n:Nat) (rest:List aB) (e:ak) v y,dQ A (some 2) n [9] (enc e) (enc (v:Item)) rest (some (enc (y:Item)))=az rest (A.aK n (.box (enc { e with j0:=v })))) :=
 ⟨fun _ _ _ _ _ _=>by rw[OR];rfl,fun _ _ _ _ _ _=>by rw[o8];rfl,fun _ _ _ _ _ _=>by rw[o8];rfl,fun _ _ _ _ _ _=>by rw[o8];rfl,fun _ _ _ _ _ _=>by rw[o8];rfl,fun _ _ _ _ _ _=>by rw[o8];rfl,fun _ _ _ _ _ _=>by rw[o8];rfl,fun _ _ _ _ _ _=>by rw[o8];rfl,fun _ _ _ _ _ _=>by rw[alz];rfl,fun _ _ _ _ _ _=>by rw[OR];rfl⟩
theorem Pk(x y:aS 6 Int):x=y↔x.l=y.l:=by cases x;cases y;simp
theorem amk(p q:Prop)[Decidable p][Decidable q]:iF (some (decide p)) (some (decide q))=some (decide (p∧q)):=by simp[iF]
theorem DB(a b:Int):cu (.i .i64) (.int .i64 a) (.int .i64 b)=some (decide (a=b)):=by simp[cu];rfl
theorem DA(x y:ak):cu (.bu [(.bu [(.i .i64),(.i .i64)]),(.i .i64),(.i .i64),(.i .i64),(.i .i64),(.i .i64),(.i .i64),(.i .i64),(.jO 6 (.i .i64)),(.bu [(.i .i64),(.i .i64)])]) (enc x) (enc y)=some (decide (x=y)):=by
 obtain ⟨a1,k1,d1,n1,b1,m1,s1,o1,r1,f1⟩:=x
 obtain ⟨a2,k2,d2,n2,b2,m2,s2,o2,dH,f2⟩:=y
 show cu _ (.agg [enc a1,.int .i64 k1,.int .i64 d1,.int .i64 n1,.int .i64 b1,.int .i64 m1,.int .i64 s1,.int .i64 o1,enc r1,enc f1]) (.agg [enc a2,.int .i64 k2,.int .i64 d2,.int .i64 n2,.int .i64 b2,.int .i64 m2,.int .i64 s2,.int .i64 o2,enc dH,enc f2])=_
 have hr:cu (.jO 6 (.i .i64)) (enc r1) (enc dH)=some (decide (r1=dH)):=by
  rw[sV]
  congr 1
  exact decide_eq_decide.2 (Pk r1 dH).symm
 rw[cu]
 simp only[iY,qU,DB,hr,ak.mk.injEq]
 simp[iF]
theorem a6:(type_of% @qy)∧(type_of% @Lj)∧(type_of% @gq)∧(∀ {α:Type} [Enc α] (aC:Bool) (A:af) (x:α),br aC A (enc x)=some (enc x))∧(∀ {α:Type} [Enc α] (x:α),(enc x).cj=true)∧(type_of% @Dq)∧(type_of% @AP)∧(type_of% @AO)∧(type_of% @OL) ∧
  (type_of% @Oy)∧(type_of% @DA)∧(type_of% @qU)∧(∀ (a:Nat) l m,(a::l)++m=a::(l++m))∧(∀ b:Bool,((if b=true then (0:Int) else 12)==0)=b)∧(∀ b:Bool,((if b=true then (0:Int) else 12) != 0) = !b) :=
 ⟨qy,Lj,gq,@cH,@dq,Dq,AP,AO,OL,Oy,DA,qU,fun _ _ _=>rfl,fun b=>by cases b <;>rfl,fun b=>by cases b <;>rfl⟩
theorem sr(x:ak):aA Tryz.prog 84 [enc x] (enc (jQ x)):=by
 refine aA.bA Tryz.func84 Tw Vr Xz (Nat.le_of_ble_eq_true rfl) (fun hwf W0 D0 E1 =>?_)
 simp only[CB,NM,bp]
 have R:=And.intro @a6 @U
 repeat' ((first
  |(with_reducible refine .guard (fun hb =>?_) (fun hb =>?_) <;>try simp only[hb])
  |refine ab.aO (by decide +kernel) rfl fun K hK =>?_
  |(refine .aI [0,1,2,3,15,24,25,36,41,47] hK ?_;clear hK K)
  |(with_reducible refine .done (hK _ ?_);clear hK K)
  |refine ab.of rfl ?_
  |(with_reducible refine ar.aL (fun h =>?_) (fun h =>?_) <;>try simp only[h])) <;>try simp only[aQ,R,simprocAttr])
 all_goals clear R
 all_goals (congr 1;simp_all[jQ,p5])
theorem u4(x:ak):aA Tryz.prog 117 [enc x] (enc (gS x)):=by
 refine aA.bA Tryz.func117 R1 TU V1 (Nat.le_of_ble_eq_true rfl) (fun hwf W0 D0 E1 =>?_)
 simp only[A5,Mc,bp]
 refine .ao (by decide +kernel) fun K hK =>?_
 simp only[EB,U,simprocAttr]
 try simp only[a6,U,simprocAttr]
 refine .done (hK _ ?_);clear hK K
 refine .ao (by decide +kernel) fun K hK =>?_
 simp only[EC,U,simprocAttr]
 try simp only[a6,U,simprocAttr]
 refine .done (hK _ ?_);clear hK K
 refine .ao (by decide +kernel) fun K hK =>?_
 simp only[ED,U,simprocAttr]
 try simp only[a6,U,simprocAttr]
 refine .flat _ (PI _) rfl ?_
 try simp only[U,simprocAttr]
 refine .done (hK _ ?_);clear hK K
 refine ab.fT [1,2,3,4] ?_
 simp only[x4,reduceIte,Nat.reduceBEq]
 by_cases hk:0≤x.kind∧x.kind≤6
 ·refine ab.seq (ab.zO (av [(1,.ptr 1 []),(3,.ptr 3 []),(4,.bool (pM x))] [(1,.box (enc x)),(3,.box (enc (jQ x)))]) ?_ fun B hB=>ab.sub hB ?_)
  ·clear hwf
   obtain hk | hk | hk | hk | hk | hk | hk:x.kind=0∨x.kind=1∨x.kind=2∨x.kind=3∨x.kind=4∨x.kind=5∨x.kind=6:=by omega
   all_goals
    have R:=And.intro @hk (And.intro @a6 @U)
    repeat' ((first
     |(with_reducible refine .guard (fun hb =>?_) (fun hb =>?_) <;>try simp only[hb])
     |refine ab.aO (by decide +kernel) rfl fun K hK =>?_
     |refine .flat _ (zW _) rfl ?_
     |refine .flat _ (PJ _) rfl ?_
     |refine .flat _ (PK _) rfl ?_
     |refine .flat _ (mq _ _ _) rfl ?_
     |refine .flat _ (z8 _) rfl ?_
     |refine .flat _ (u7 _) rfl ?_
     |(refine ab.ql (gs:=wC) [] [(1,[1]),(3,[3]),(23,[1]),(25,[3]),(26,[3])] [0,1,2,3,4,5] (by decide +kernel) (eU.of (by simp[nJ,aY,KS,I.only])) fun K hK =>?_;simp only[nU,wC,List.getD_cons_zero,List.getD_cons_succ,R,simprocAttr])
     |(refine ab.ql (gs:=wD) [] [(1,[1]),(3,[3]),(55,[1]),(57,[1]),(59,[1]),(61,[3]),(62,[3]),(63,[3])] [0,1,2,3,4,5,6,7,8,9,10,11] (by decide +kernel) (eU.of (by simp[nJ,aY,KS,I.only])) fun K hK =>?_;simp only[nU,wD,List.getD_cons_zero,List.getD_cons_succ,R,simprocAttr])
     |(refine .aI [0,1,2,3,4,20,21,53,87,98,110,122] hK ?_;clear hK K)
     |(with_reducible refine .done (hK _ ?_);clear hK K)
     |refine ab.of rfl ?_
     |(with_reducible refine ar.aL (fun h =>?_) (fun h =>?_) <;>try simp only[h])) <;>try simp only[aQ,R,simprocAttr])
    all_goals clear R
   all_goals
    refine aD.bM ?_ ?_ ?_ ?_ <;>simp[*,aV,bF,bE,a7,au,aY,ct,I.only,ai.only,bh,pM,jQ,p5]
  ·have R:=And.intro @a6 @U
   repeat' ((first
    |(with_reducible refine .guard (fun hb =>?_) (fun hb =>?_) <;>try simp only[hb])
    |refine ab.aO (by decide +kernel) rfl fun K hK =>?_
    |refine .flat _ (zW _) rfl ?_
    |refine .flat _ (u7 _) rfl ?_
    |(refine .aI [0,1,2,3,4,20,21,53,87,98,110,122] hK ?_;clear hK K)
    |(with_reducible refine .done (hK _ ?_);clear hK K)
    |refine ab.of rfl ?_
    |(with_reducible refine ar.aL (fun h =>?_) (fun h =>?_) <;>try simp only[h])) <;>try simp only[aQ,R,simprocAttr])
   all_goals clear R
   all_goals simp[gS, *]
 ·have h0:(x.kind==0)=false:=by simp;omega
  have h1:(x.kind==1)=false:=by simp;omega
  have h2:(x.kind==2)=false:=by simp;omega
  have h3:(x.kind==3)=false:=by simp;omega
  have h4:(x.kind==4)=false:=by simp;omega
  have h5:(x.kind==5)=false:=by simp;omega
  have h6:(x.kind==6)=false:=by simp;omega
  have R:=And.intro @h0 (And.intro @h1 (And.intro @h2 (And.intro @h3 (And.intro @h4 (And.intro @h5 (And.intro @h6 (And.intro @a6 @U)))))))
  repeat' ((first
   |(with_reducible refine .guard (fun hb =>?_) (fun hb =>?_) <;>try simp only[hb])
   |refine ab.aO (by decide +kernel) rfl fun K hK =>?_
   |(refine .aI [0,1,2,3,4,20,21,53,87,98,110,122] hK ?_;clear hK K)
   |(with_reducible refine .done (hK _ ?_);clear hK K)
   |refine ab.of rfl ?_
   |(with_reducible refine ar.aL (fun h =>?_) (fun h =>?_) <;>try simp only[h])) <;>try simp only[aQ,R,simprocAttr])
  all_goals clear R
  simp at h0 h1 h2 h3 h4 h5 h6
  simp[gS,pM, *]
def cE:ak:=p5 ⟨0,0⟩ 0 0 0 0
theorem mC:I.agg [.agg [.int .i64 0,.int .i64 0],.int .i64 0,.int .i64 0,.int .i64 0,.int .i64 0,.int .i64 0,.int .i64 0,.int .i64 0,.agg [.int .i64 0,.int .i64 0,.int .i64 0,.int .i64 0,.int .i64 0,.int .i64 0],.agg [.int .i64 0,.int .i64 0]]=enc cE:=rfl
theorem fK(p:Nat→Bool)(l:List ak):(I.agg (l.map enc)).only p=true:=by simp only[I.only];exact dN p l
def dG(k:Nat)(l:List ak)(m:Nat):List (Nat×ai):=[(k,.box (.agg ((l++List.replicate m cE).map enc)))]
def vO(l:List ak):cR:=fun r os'=>(l=[]∧(r=.nils 17∨r=.c0 17)∧os'=[])∨(l≠[]∧∃ m,r=.view 7 [] 17 0 l.length∧os'=dG 7 l m)
theorem zZ(l:List ak)(hl:l.length≤1000):cF Tryz.prog 136 [enc l] [] (vO l):=by
 refine cF.bA Tryz.func136 Sh Uc Wh (Nat.le_of_ble_eq_true rfl) (Nat.le_of_ble_eq_true rfl) (fun m hm=>by simp[au,al] at hm) (fun hwf W0 D0 E1 =>?_)
 simp only[Bl,Ms,bp]
 refine .ao (by decide +kernel) fun K hK =>?_
 simp only[Fo,U]
 refine .done (hK _ ?_);clear hK K
 refine ab.seq (ab.seq ?_)
 by_cases hn:l=[]
 ·subst hn
  refine .bl (by decide +kernel) fun K hK =>?_
  simp only[wT,U,Nat.reduceEqDiff,reduceIte]
  simp only[uV,List.isEmpty_nil,qc]
  refine .any rfl fun b _ =>?_
  try simp only[U]
  generalize (b==0)=t
  cases t
  ·refine .done (hK _ ?_);clear hK K;try simp only[aq]
   refine ab.bC ?_
   simp only[ar,U,Nat.reduceEqDiff,reduceIte]
   refine ⟨fun h =>?_,fun h =>?_⟩
   ·cases h
   refine ab.skip ?_;try simp only[aq]
   refine .ao (by decide +kernel) fun K hK =>?_
   simp only[wU,U]
   try simp only[dp,mC,U,Nat.reduceEqDiff,reduceIte]
   refine .done (hK _ ?_);clear hK K
   refine ab.ret ?_
   simp only[eY]
   exact ⟨[],[.c0 17],rh,⟨⟨.c0 17,rfl,.inl ⟨rfl,rfl,rfl⟩⟩,trivial⟩,.inl ⟨rfl,.inr rfl,rfl⟩⟩
  ·refine .done (hK _ ?_);clear hK K
   refine ab.bC ?_
   simp only[ar,U,Nat.reduceEqDiff,reduceIte]
   refine ⟨fun h =>?_,fun h =>?_⟩
   ·refine .ao (by decide +kernel) fun K hK =>?_
    simp only[Fp,U]
    refine .done (hK _ ?_);clear hK K
    refine ab.ret ?_
    simp only[aq,eY]
    exact ⟨[],[.nils 17],rh,⟨⟨.nils 17,rfl,.inl ⟨rfl,rfl,rfl⟩⟩,trivial⟩,.inl ⟨rfl,.inl rfl,rfl⟩⟩
   ·cases h
 ·have hu:kc (enc l)=false:=by rw[uV];simpa using hn
  refine .bl (by decide +kernel) fun K hK =>?_
  simp only[wT,U,Nat.reduceEqDiff,reduceIte]
  try simp only[hu,K9 _ l hn,U]
  refine .done (hK _ ?_);clear hK K;try simp only[aq]
  refine ab.bC ?_
  simp only[ar,U,Nat.reduceEqDiff,reduceIte]
  refine ⟨fun h =>?_,fun h =>?_⟩
  ·cases h
  refine ab.skip ?_;try simp only[aq]
  refine .ao (by decide +kernel) fun K hK =>?_
  simp only[wU,U]
  try simp only[dp,mC,U,Nat.reduceEqDiff,reduceIte]
  refine a8.vp cE rfl hn rfl (by omega) (by simp only[maxLen];omega) fun m =>?_
  try simp only[U,Nat.reduceEqDiff,reduceIte]
  refine .done (hK _ ?_);clear hK K
  refine ab.ret ?_
  simp only[eY]
  exact ⟨dG 7 l m,[.view 7 [] 17 0 l.length],kp rfl (fun p=>fK p _),⟨⟨_,rfl,.inl ⟨rfl,rfl,rfl⟩⟩,trivial⟩,.inr ⟨hn,m,rfl,rfl⟩⟩
def fH(l:List ak)(i:Nat)(g:ak):List ak:=l.take i++g::l.drop i
theorem ahK{l:List ak}{i:Nat}(g:ak)(h:i≤l.length):(fH l i g).length=l.length+1:=by
 simp only[fH,List.length_append,List.length_take,List.length_cons,List.length_drop];omega
def xR(l:List ak)(i:Nat)(g:ak)(k:Nat):cR:=fun r os' =>
 (∃ q,r=.view 1000000 [] 17 0 (l.length+1)∧os'=dG 1000000 (fH l i g) q)∨∃ d q,(d=25∨d=40)∧r=.view d [] 17 0 (l.length+1)∧os'=dG d (fH l i g) q++dG 1000000 l k
theorem aij(l:List ak)(i q:Nat)(g:ak)(h:i<l.length)(xs:List ak)(hx:xs=l.take i++(List.replicate (l.length+1-i) cE++List.replicate q cE))(ys:List ak)(hy:ys=xs.take i++([g].take 1++xs.drop (i+1))) :
  ys.take (i+1)++((((l++List.replicate 0 cE).drop i).take (l.length-i)).take (l.length-i)++ys.drop (i+1+(l.length-i)))=fH l i g++List.replicate q cE:=by
 have e1:xs.take i=l.take i:=by rw[hx,List.take_append_of_le_length (by rw[List.length_take];omega),List.take_take,Nat.min_self]
 have e2:xs.drop (i+1)=List.replicate (l.length-i+q) cE:=by
  have hl:(l.take i).length=i:=by rw[List.length_take];omega
  rw[hx,List.replicate_append_replicate,List.drop_append,hl,List.drop_eq_nil_of_le (by rw[hl];omega),List.nil_append,List.drop_replicate]
  congr 1;omega
 have e3:ys=(l.take i++[g])++List.replicate (l.length-i+q) cE:=by rw[hy,e1,e2];simp
 have hl2:(l.take i++[g]).length=i+1:=by rw[List.length_append,List.length_take];simp;omega
 have e4:ys.take (i+1)=l.take i++[g]:=by rw[e3,←hl2,List.take_left]
 have e5:ys.drop (i+1+(l.length-i))=List.replicate q cE:=by
  rw[e3,List.drop_append,hl2,List.drop_eq_nil_of_le (by rw[hl2];omega),List.nil_append,List.drop_replicate]
  congr 1;omega
 have e6:(((l++List.replicate 0 cE).drop i).take (l.length-i)).take (l.length-i)=l.drop i:=by
  rw[List.replicate_zero,List.append_nil,List.take_take,Nat.min_self,List.take_of_length_le (by rw[List.length_drop];omega)]
 rw[e4,e5,e6]
 simp[fH]
theorem aii(l:List ak)(i k:Nat)(g:ak)(h:i<l.length)(hk:1≤k)(xs:List ak)(hx:xs=l++List.replicate k cE)(ys:List ak)(hy:ys=xs.take (i+1)++(((xs.drop i).take (l.length+1-i)).take (l.length-i)++xs.drop (i+1+(l.length-i)))) :
  ys.take i++([g].take 1++ys.drop (i+1))=fH l i g++List.replicate (k-1) cE:=by
 have e1:((xs.drop i).take (l.length+1-i)).take (l.length-i)=l.drop i:=by
  rw[List.take_take,Nat.min_eq_left (by omega),hx,List.drop_append_of_le_length (by omega),List.take_append_of_le_length (by rw[List.length_drop];omega),List.take_of_length_le (by rw[List.length_drop];omega)]
 have e2:xs.drop (i+1+(l.length-i))=List.replicate (k-1) cE:=by
  rw[hx,List.drop_append,List.drop_eq_nil_of_le (by omega),List.nil_append,List.drop_replicate]
  congr 1;omega
 have hl:(xs.take (i+1)).length=i+1:=by rw[List.length_take,hx,List.length_append];omega
 have e3:ys.take i=l.take i:=by
  rw[hy,List.take_append_of_le_length (by omega),List.take_take,Nat.min_eq_left (by omega),hx,List.take_append_of_le_length (by omega)]
 have e4:ys.drop (i+1)=l.drop i++List.replicate (k-1) cE:=by
  rw[hy,e1,e2]
  exact List.drop_left' hl
 rw[e3,e4]
 simp[fH]
theorem PH(l:List ak)(i:Nat)(g:ak)(k:Nat)(hi:i≤l.length)(hn:l≠[])(hlen:l.length≤1000) :
  cF Tryz.prog 153 [.view 1000000 [] 17 0 l.length,enc (i:Int),enc [g]] (dG 1000000 l k) (xR l i g k):=by
 refine cF.bA Tryz.func153 vE vH vT (Nat.le_of_ble_eq_true rfl) (Nat.le_of_ble_eq_true rfl) (fun m hm=>by rw[cW.1 hm];exact Nat.le_refl _) (fun hwf W0 D0 E1 =>?_)
 simp only[sJ,uu,bp,Nat.zero_add,Nat.reduceAdd]
 simp only[dG]
 have hl0:0<l.length:=List.length_pos_iff.2 hn
 have htot:((l++List.replicate k cE).map (enc (α:=ak))).length=l.length+k:=by simp
 refine .ao (by decide +kernel) fun K hK =>?_
 simp only[ta,U]
 refine .done (hK _ ?_);clear hK K
 obtain ⟨y,hy⟩:=OD (n:=1000000) (p:=[]) (sz:=17) hi (show l.length≤l.length+k by omega)
 refine .ao (by decide +kernel) fun K hK =>?_
 simp only[tc,U,Nat.reduceEqDiff,reduceIte]
 try simp only[dp,htot,Option.map_none,hy,U,reduceIte]
 refine .done (hK _ ?_);clear hK K
 refine .ao (by decide +kernel) fun K hK =>?_
 simp only[td,U,Nat.reduceEqDiff,reduceIte]
 try simp only[bn,U,Nat.reduceEqDiff,reduceIte]
 refine .done (hK _ ?_);clear hK K
 refine ab.seq (ab.seq ?_)
 refine .bl (by decide +kernel) fun K hK =>?_
 simp only[te,U,Nat.reduceEqDiff,reduceIte]
 try simp only[cD,bn,gq,cH,U,Nat.reduceEqDiff,reduceIte,Int.reduceBNe,Int.reduceBEq]
 refine .done (hK _ ?_);clear hK K;try simp only[aq]
 refine ab.bC ?_
 simp only[ar,U,Nat.reduceEqDiff,reduceIte]
 refine ⟨fun h =>?_,fun h =>?_⟩
 ·first | cases h | simp at h
 refine ab.skip ?_;try simp only[aq]
 refine .ao (by decide +kernel) fun K hK =>?_
 simp only[tf,U,Nat.reduceEqDiff,reduceIte]
 try simp only[dp,U,Nat.reduceEqDiff,reduceIte]
 refine .done (hK _ ?_);clear hK K
 refine ab.seq (ab.seq ?_)
 refine .bl (by decide +kernel) fun K hK =>?_
 simp only[tg,U,Nat.reduceEqDiff,reduceIte]
 try simp only[cD,bn,gq,cH,U,Nat.reduceEqDiff,reduceIte,Int.reduceBNe,Int.reduceBEq]
 refine .done (hK _ ?_);clear hK K;try simp only[aq]
 have hA:∀ ts,(av ts [(1000000,.box (.agg ((l++List.replicate k cE).map (enc (α:=ak)))))]).o 1000000=some (.box (.agg ((l++List.replicate k cE).map enc))):=fun _=>rfl
 have hN:∀ ts (d:Nat),d≠1000000→(av ts [(1000000,.box (.agg ((l++List.replicate k cE).map (enc (α:=ak)))))]).o d=none:=fun ts d hd=>by
  have:¬ d=1000000:=hd
  simp[av,al,this]
 refine ab.bC ?_
 simp only[ar,U,Nat.reduceEqDiff,reduceIte]
 refine ⟨fun h =>?_,fun h =>?_⟩
 ·have hil:i=l.length:=by
   have:(i:Int)=l.length:=by simpa using h
   omega
  subst hil
  by_cases hk:k=0
  ·subst hk
   refine .ao (by decide +kernel) fun K hK =>?_
   simp only[re,U,Nat.reduceEqDiff,reduceIte]
   try simp only[mC]
   refine a8.Q0 (esz:=17) cE rfl (xs:=l++List.replicate 0 cE) (ys:=[g]) (by simp) (hA _) (by simp) (by simp) (hN _ 25 (by decide)) (by simp;omega) (by simp[maxLen];omega) fun q =>?_
   have hc:(l++List.replicate 0 cE).take l.length++([g]++List.replicate q cE)=fH l l.length g++List.replicate q cE:=by simp[fH]
   rw[hc]
   try simp only[List.length_singleton,U,Nat.reduceEqDiff,reduceIte]
   refine .done (hK _ ?_);clear hK K
   refine ab.ret ?_
   simp only[aq,eY]
   exact ⟨dG 25 (fH l l.length g) q++dG 1000000 l 0,[.view 25 [] 17 0 (l.length+1)],Kh rfl (fun p=>fK p _) rfl (fun p=>fK p _),⟨⟨_,rfl,.inl ⟨rfl,rfl,rfl⟩⟩,trivial⟩,.inr ⟨25,q,.inl rfl,rfl,rfl⟩⟩
  ·refine .ao (by decide +kernel) fun K hK =>?_
   simp only[re,U,Nat.reduceEqDiff,reduceIte]
   try simp only[mC]
   rw[Q4 (esz:=17) _ rfl (xs:=l++List.replicate k cE) (ys:=[g]) (by simp) (hA _) (by simp;omega)]
   have hc:(l++List.replicate k cE).take l.length++([g]++(l++List.replicate k cE).drop (l.length+[g].length))=fH l l.length g++List.replicate (k-1) cE:=by
    simp[fH,List.drop_append]
   rw[hc]
   try simp only[List.length_singleton,U,Nat.reduceEqDiff,reduceIte]
   refine .done (hK _ ?_);clear hK K
   refine ab.ret ?_
   simp only[aq,eY]
   exact ⟨dG 1000000 (fH l l.length g) (k-1),[.view 1000000 [] 17 0 (l.length+1)],kp rfl (fun p=>fK p _),⟨⟨_,rfl,.inl ⟨rfl,rfl,rfl⟩⟩,trivial⟩,.inl ⟨k-1,rfl,rfl⟩⟩
 have hlt:i<l.length:=by
  have:¬ (i:Int)=l.length:=by simpa using h
  omega
 refine ab.skip ?_;try simp only[aq]
 refine ab.seq (ab.seq ?_)
 refine .bl (by decide +kernel) fun K hK =>?_
 simp only[FM,U,Nat.reduceEqDiff,reduceIte]
 try simp only[ajc,List.length_singleton,U,Nat.reduceEqDiff,reduceIte]
 rw[TL (xs:=l++List.replicate k cE) (hA _)]
 try simp only[U,Nat.reduceEqDiff,reduceIte]
 rw[cA _ (by simp;omega) (by simp;omega)]
 refine .done (hK _ ?_);clear hK K;try simp only[aq]
 have hgt:decide ((((l++List.replicate k cE).length-0:Nat):Int)<(l.length:Int)+((1:Nat):Int))=decide (k=0):=by
  by_cases hk:k=0 <;>simp[hk] <;>omega
 simp only[hgt]
 by_cases hk:k=0
 ·subst hk
  refine ab.bC ?_
  simp only[ar,U,Nat.reduceEqDiff,reduceIte]
  refine ⟨fun h =>?_,fun h =>?_⟩
  ·have htot0:((l++List.replicate 0 cE).map (enc (α:=ak))).length=l.length:=by simp
   refine .ao (by decide +kernel) fun K hK =>?_
   simp only[FN,U,Nat.reduceEqDiff,reduceIte]
   try simp only[dp,htot0,Option.map_none,r3 (show i≤l.length by omega) hl0,mC,ai5,U,Nat.reduceEqDiff,reduceIte]
   rw[cA ((l.length:Int)+((1:Nat):Int)) (by omega) (by omega),cA ((l.length:Int)+((1:Nat):Int)-i) (by omega) (by omega)]
   have hm:(l.length:Int)+((1:Nat):Int)-i=((l.length+1-i:Nat):Int):=by omega
   rw[hm]
   refine a8.Rb (esz:=17) cE rfl (xs:=l++List.replicate 0 cE) (hA _) (by simp;omega) (by omega) (by simp;omega) (hN _ 40 (by decide)) (by omega) (by simp only[maxLen];omega) fun q =>?_
   obtain ⟨xs,hxs⟩:∃ xs,xs=l.take i++(List.replicate (l.length+1-i) cE++List.replicate q cE):=⟨_,rfl⟩
   have hxs':(l++List.replicate 0 cE).take i++(List.replicate (l.length+1-i) cE++List.replicate q cE)=xs:=by rw[hxs,List.take_append_of_le_length (by omega)]
   have hxl:xs.length=l.length+1+q:=by rw[hxs];simp;omega
   have hle:i+(l.length+1-i)=l.length+1:=by omega
   rw[hxs',hle]
   try simp only[U,Nat.reduceEqDiff,reduceIte]
   refine .done (hK _ ?_);clear hK K
   have hxm:(xs.map (enc (α:=ak))).length=l.length+1+q:=by rw[List.length_map];exact hxl
   have hA2:∀ ts,(av ts [(40,.box (.agg (xs.map (enc (α:=ak))))),(1000000,.box (.agg ((l++List.replicate 0 cE).map (enc (α:=ak)))))]).o 40=some (.box (.agg (xs.map enc))):=fun _=>rfl
   refine .ao (by decide +kernel) fun K hK =>?_
   simp only[FE,U,Nat.reduceEqDiff,reduceIte]
   try simp only[dp,hxm,Option.map_none,mi (show i≤l.length+1 by omega) (show l.length+1≤l.length+1+q by omega) (show i<l.length+1+q by omega),uc,U,Nat.reduceEqDiff,reduceIte]
   rw[o7 _ 17 [g] rfl,sP (xs:=xs) (c:=1) (hA2 _) (by omega) (by simp;omega)]
   obtain ⟨ys,hys⟩:∃ ys,ys=xs.take i++([g].take 1++xs.drop (i+1)):=⟨_,rfl⟩
   have hyl:ys.length=l.length+1+q:=by rw[hys];simp;omega
   rw[←hys]
   try simp only[U]
   refine .done (hK _ ?_);clear hK K
   have hym:(ys.map (enc (α:=ak))).length=l.length+1+q:=by rw[List.length_map];exact hyl
   have hA3:∀ ts z,(av ts [(40,.box (.agg (ys.map (enc (α:=ak))))),(40,z),(1000000,.box (.agg ((l++List.replicate 0 cE).map (enc (α:=ak)))))]).o 40=some (.box (.agg (ys.map enc))):=fun _ _=>rfl
   have hA4:∀ ts z,(av ts [(40,.box (.agg (ys.map (enc (α:=ak))))),(40,z),(1000000,.box (.agg ((l++List.replicate 0 cE).map (enc (α:=ak)))))]).o 1000000=some (.box (.agg ((l++List.replicate 0 cE).map enc))):=fun _ _=>rfl
   refine .ao (by decide +kernel) fun K hK =>?_
   simp only[FF,U,Nat.reduceEqDiff,reduceIte]
   rw[cA ((i:Int)+((1:Nat):Int)) (by omega) (by omega)]
   have hi1:(i:Int)+((1:Nat):Int)=((i+1:Nat):Int):=by omega
   try simp only[dp,hym,htot0,hi1,Option.map_none,Option.map_some,mi (show i+1≤l.length+1 by omega) (show l.length+1≤l.length+1+q by omega) (show i+1<l.length+1+q by omega),mi (show i≤l.length by omega) (Nat.le_refl l.length) hlt,uc,U,Nat.reduceEqDiff,reduceIte]
   have hd1:l.length+1-(i+1)=l.length-i:=by omega
   rw[hd1,ng (xs:=l++List.replicate 0 cE) (hA4 _ _) (by simp;omega),sP (xs:=ys) (c:=l.length-i) (hA3 _ _) (by omega) (by simp)]
   rw[aij l i q g hlt xs hxs ys hys]
   try simp only[U]
   refine .done (hK _ ?_);clear hK K
   refine .ao (by decide +kernel) fun K hK =>?_
   simp only[FG,U,Nat.reduceEqDiff,reduceIte]
   refine .done (hK _ ?_);clear hK K
   refine ab.ret ?_
   simp only[aq,eY]
   exact ⟨dG 40 (fH l i g) q++dG 1000000 l 0,[.view 40 [] 17 0 (l.length+1)],Kh rfl (fun p=>fK p _) rfl (fun p=>fK p _),⟨⟨_,rfl,.inl ⟨rfl,rfl,rfl⟩⟩,trivial⟩,.inr ⟨40,q,.inr rfl,rfl,rfl⟩⟩
  ·simp at h
 ·refine ab.bC ?_
  simp only[ar,U,Nat.reduceEqDiff,reduceIte]
  refine ⟨fun h =>?_,fun h =>?_⟩
  ·simp at h;omega
  refine ab.skip ?_;try simp only[aq]
  have hk1:1≤k:=by omega
  have hn1:(l.length:Int)+((1:Nat):Int)=((l.length+1:Nat):Int):=by omega
  refine .ao (by decide +kernel) fun K hK =>?_
  simp only[FH,U,Nat.reduceEqDiff,reduceIte]
  rw[cA ((l.length:Int)+((1:Nat):Int)) (by omega) (by omega)]
  try simp only[dp,htot,hn1,Option.map_none,r3 (show l.length+1≤l.length+k by omega) (show 0<l.length+k by omega),U,Nat.reduceEqDiff,reduceIte]
  refine .done (hK _ ?_);clear hK K
  have hi1:(i:Int)+((1:Nat):Int)=((i+1:Nat):Int):=by omega
  have hd1:l.length+1-(i+1)=l.length-i:=by omega
  refine ab.seq (ab.seq ?_)
  refine .bl (by decide +kernel) fun K hK =>?_
  simp only[FI,U,Nat.reduceEqDiff,reduceIte]
  rw[cA ((i:Int)+((1:Nat):Int)) (by omega) (by omega)]
  try simp only[dp,htot,hi1,hd1,Option.map_none,mi (show i+1≤l.length+1 by omega) (show l.length+1≤l.length+k by omega) (show i+1<l.length+k by omega),ajG,U,Nat.reduceEqDiff,reduceIte]
  refine .ext (.bool false) rfl (amc (tS:=27) (tR:=4) (e:=68) Tryz.func191 (by kernel_rfl) (by kernel_rfl) (by kernel_rfl) (by kernel_rfl) (by kernel_rfl) (by kernel_rfl) (hA _) rfl ?_ (by decide)) ?_
  ·show I.sizes ((l++List.replicate k cE).map enc)≠0
   rw[I.iB (sz:=17) _ (fun e he=>by obtain ⟨x,_,rfl⟩:=List.mem_map.1 he;rw[fG];rfl)]
   rw[htot];omega
  try simp only[U,Nat.reduceEqDiff,reduceIte]
  refine .done (hK _ ?_);clear hK K;try simp only[aq]
  refine ab.bC ?_
  simp only[ar,U,Nat.reduceEqDiff,reduceIte]
  refine ⟨fun h =>?_,fun h =>?_⟩
  case neg.refine_2.refine_2.refine_2=>cases h
  have hd2:l.length+1-i=l.length+1-i:=rfl
  obtain ⟨xs,hxs⟩:∃ xs,xs=l++List.replicate k cE:=⟨_,rfl⟩
  have hxl:xs.length=l.length+k:=by rw[hxs];simp
  have hxm:(xs.map (enc (α:=ak))).length=l.length+k:=by rw[List.length_map];exact hxl
  rw[←hxs]
  have hB:∀ ts,(av ts [(1000000,.box (.agg (xs.map (enc (α:=ak)))))]).o 1000000=some (.box (.agg (xs.map enc))):=fun _=>rfl
  refine .ao (by decide +kernel) fun K hK =>?_
  simp only[FJ,U,Nat.reduceEqDiff,reduceIte]
  rw[cA ((i:Int)+((1:Nat):Int)) (by omega) (by omega)]
  try simp only[dp,hxm,hi1,hd1,Option.map_none,Option.map_some,mi (show i+1≤l.length+1 by omega) (show l.length+1≤l.length+k by omega) (show i+1<l.length+k by omega),mi (show i≤l.length+1 by omega) (show l.length+1≤l.length+k by omega) (show i<l.length+k by omega),uc,U,Nat.reduceEqDiff,reduceIte]
  rw[ng (xs:=xs) (hB _) (by omega),sP (xs:=xs) (c:=l.length-i) (hB _) (by omega) (by simp;omega)]
  obtain ⟨ys,hys⟩:∃ ys,ys=xs.take (i+1)++(((xs.drop i).take (l.length+1-i)).take (l.length-i)++xs.drop (i+1+(l.length-i))):=⟨_,rfl⟩
  have hyl:ys.length=l.length+k:=by rw[hys];simp;omega
  have hym:(ys.map (enc (α:=ak))).length=l.length+k:=by rw[List.length_map];exact hyl
  rw[←hys]
  try simp only[U]
  refine .done (hK _ ?_);clear hK K
  have hC:∀ ts z,(av ts [(1000000,.box (.agg (ys.map (enc (α:=ak))))),(1000000,z)]).o 1000000=some (.box (.agg (ys.map enc))):=fun _ _=>rfl
  refine .ao (by decide +kernel) fun K hK =>?_
  simp only[FK,U,Nat.reduceEqDiff,reduceIte]
  try simp only[dp,hym,Option.map_none,mi (show i≤l.length+1 by omega) (show l.length+1≤l.length+k by omega) (show i<l.length+k by omega),uc,U,Nat.reduceEqDiff,reduceIte]
  rw[o7 _ 17 [g] rfl,sP (xs:=ys) (c:=1) (hC _ _) (by omega) (by simp;omega)]
  rw[aii l i k g hlt hk1 xs hxs ys hys]
  try simp only[U]
  refine .done (hK _ ?_);clear hK K
  refine .ao (by decide +kernel) fun K hK =>?_
  simp only[FL,U,Nat.reduceEqDiff,reduceIte]
  refine .done (hK _ ?_);clear hK K
  refine ab.ret ?_
  simp only[aq,eY]
  exact ⟨dG 1000000 (fH l i g) (k-1),[.view 1000000 [] 17 0 (l.length+1)],kp rfl (fun p=>fK p _),⟨⟨_,rfl,.inl ⟨rfl,rfl,rfl⟩⟩,trivial⟩,.inl ⟨k-1,rfl,rfl⟩⟩
def e8(l:List ak)(i:Nat):List ak:=l.take i++l.drop (i+1)
theorem Di{l:List ak}{i:Nat}(h:i<l.length):(e8 l i).length=l.length-1:=by
 simp only[e8,List.length_append,List.length_take,List.length_drop];omega
def Df(l:List ak)(i:Nat):cR:=fun r os'=>∃ q,r=.view 1000000 [] 17 0 (l.length-1)∧os'=dG 1000000 (e8 l i) q
theorem aif(l:List ak)(i k:Nat)(h:i+1<l.length)(xs:List ak)(hx:xs=l++List.replicate k cE)(a:List ak)(ha:a=xs.take i++(l.drop (i+1)++xs.drop (i+(l.drop (i+1)).length))) :
  a.take (l.length-1)++(List.replicate 1 cE++a.drop (l.length-1+1))=e8 l i++List.replicate (k+1) cE:=by
 have e1:xs.take i=l.take i:=by rw[hx,List.take_append_of_le_length (by omega)]
 have e0:i+(l.drop (i+1)).length=l.length-1:=by rw[List.length_drop];omega
 have e2:a=e8 l i++xs.drop (l.length-1):=by rw[ha,e1,e0,e8,List.append_assoc]
 have hl:=Di (l:=l) (i:=i) (by omega)
 have e3:a.take (l.length-1)=e8 l i:=by rw[e2,←hl,List.take_left]
 have e4:a.drop (l.length-1+1)=List.replicate k cE:=by
  rw[e2,List.drop_append,hl,List.drop_eq_nil_of_le (by omega),List.nil_append,List.drop_drop]
  have:l.length-1+(l.length-1+1-(l.length-1))=l.length:=by omega
  rw[this,hx,List.drop_left]
 rw[e3,e4,List.replicate_append_replicate,Nat.add_comm 1 k]
theorem aih(l:List ak)(k:Nat)(i:Nat)(h:i+1=l.length)(xs:List ak)(hx:xs=l++List.replicate k cE):xs.take (l.length-1)++(List.replicate 1 cE++xs.drop (l.length-1+1))=e8 l i++List.replicate (k+1) cE:=by
 have e1:l.length-1=i:=by omega
 have e2:xs.drop (l.length-1+1)=List.replicate k cE:=by rw[show l.length-1+1=l.length by omega,hx,List.drop_left]
 have e3:xs.take (l.length-1)=e8 l i:=by
  rw[e1,hx,List.take_append_of_le_length (by omega),e8,List.drop_eq_nil_of_le (by omega),List.append_nil]
 rw[e2,e3,List.replicate_append_replicate,Nat.add_comm 1 k]
theorem PA(l:List ak)(i:Nat)(k:Nat)(hi:i<l.length)(hlen:l.length≤1000) :
  cF Tryz.prog 135 [.view 1000000 [] 17 0 l.length,enc (i:Int),enc ((i+1:Nat):Int)] (dG 1000000 l k) (Df l i):=by
 refine cF.bA Tryz.func135 Sg Ub Wg (Nat.le_of_ble_eq_true rfl) (Nat.le_of_ble_eq_true rfl) (fun m hm=>by rw[cW.1 hm];exact Nat.le_refl _) (fun hwf W0 D0 E1 =>?_)
 simp only[Bk,Mr,bp,Nat.zero_add,Nat.reduceAdd]
 simp only[dG]
 obtain ⟨xs,hxs⟩:∃ xs,xs=l++List.replicate k cE:=⟨_,rfl⟩
 have hxl:xs.length=l.length+k:=by rw[hxs];simp
 have htot:(xs.map (enc (α:=ak))).length=l.length+k:=by rw[List.length_map];exact hxl
 rw[←hxs]
 have hA:∀ ts,(av ts [(1000000,.box (.agg (xs.map (enc (α:=ak)))))]).o 1000000=some (.box (.agg (xs.map enc))):=fun _=>rfl
 refine .ao (by decide +kernel) fun K hK =>?_
 simp only[Fj,U]
 refine .done (hK _ ?_);clear hK K
 refine .ao (by decide +kernel) fun K hK =>?_
 simp only[Fk,U,Nat.reduceEqDiff,reduceIte]
 try simp only[dp,htot,Option.map_some,alq (show i≤i+1 by omega) (show i+1≤l.length by omega) (show l.length≤l.length+k by omega),U,Nat.reduceEqDiff,reduceIte]
 refine .done (hK _ ?_);clear hK K
 refine ab.seq (ab.seq ?_)
 refine .bl (by decide +kernel) fun K hK =>?_
 simp only[Fl,U,Nat.reduceEqDiff,reduceIte]
 try simp only[cD,bn,gq,cH,U,Nat.reduceEqDiff,reduceIte,Int.reduceBNe,Int.reduceBEq]
 refine .done (hK _ ?_);clear hK K;try simp only[aq]
 refine ab.bC ?_
 simp only[ar,U,Nat.reduceEqDiff,reduceIte]
 refine ⟨fun h =>?_,fun h =>?_⟩
 ·exfalso
  have:(i:Int)=((i+1:Nat):Int):=by simpa using h
  omega
 refine ab.skip ?_;try simp only[aq]
 refine .ao (by decide +kernel) fun K hK =>?_
 simp only[Fm,U,Nat.reduceEqDiff,reduceIte]
 try simp only[dp,U,Nat.reduceEqDiff,reduceIte]
 refine .done (hK _ ?_);clear hK K
 by_cases hl1:i+1<l.length
 ·have hd:(xs.drop (i+1)).take (l.length-(i+1))=l.drop (i+1):=by
   rw[hxs,List.drop_append_of_le_length (by omega),List.take_append_of_le_length (by rw[List.length_drop];omega),List.take_of_length_le (by rw[List.length_drop];omega)]
  have hdl:i+(l.drop (i+1)).length=l.length-1:=by rw[List.length_drop];omega
  obtain ⟨b,hb⟩:∃ b,b=xs.take i++(l.drop (i+1)++xs.drop (i+(l.drop (i+1)).length)):=⟨_,rfl⟩
  have hbl:b.length=l.length+k:=by rw[hb];simp;omega
  have hcont:=aif l i k hl1 xs hxs b hb
  refine .ao (by decide +kernel) fun K hK =>?_
  simp only[wQ,U,Nat.reduceEqDiff,reduceIte]
  try simp only[dp,htot,Option.map_none,Option.map_some,r3 (show i≤l.length+k by omega) (show 0<l.length+k by omega),mi (show i+1≤l.length by omega) (show l.length≤l.length+k by omega) (show i+1<l.length+k by omega),U,Nat.reduceEqDiff,reduceIte]
  rw[Q6 (esz:=17) (xs:=xs) (ys:=l.drop (i+1)) _ _ (by rw[ng (xs:=xs) (hA _) (by omega),hd]) (by simp;omega) (hA _) (by rw[List.length_drop];omega)]
  rw[←hb,hdl]
  try simp only[U,Nat.reduceEqDiff,reduceIte]
  refine .done (hK _ ?_);clear hK K
  have htb:(b.map (enc (α:=ak))).length=l.length+k:=by rw[List.length_map];exact hbl
  have hB:∀ ts os,(av ts ((1000000,.box (.agg (b.map (enc (α:=ak)))))::os)).o 1000000=some (.box (.agg (b.map enc))):=fun _ _=>rfl
  refine .ao (by decide +kernel) fun K hK =>?_
  simp only[wR,U,Nat.reduceEqDiff,reduceIte]
  try simp only[dp,htb,Option.map_none,Option.map_some,mC,U,Nat.reduceEqDiff,reduceIte]
  rw[OE (show l.length-1≤l.length by omega) (show l.length≤l.length+k by omega) (by omega)]
  try simp only[dp,U,Nat.reduceEqDiff,reduceIte]
  rw[vP (xs:=b) cE (hB _ _) (by omega)]
  have hone:l.length-(l.length-1)=1:=by omega
  try simp only[hone,hcont,U]
  refine .done (hK _ ?_);clear hK K
  refine .ao (by decide +kernel) fun K hK =>?_
  simp only[wS,U,Nat.reduceEqDiff,reduceIte]
  refine .done (hK _ ?_);clear hK K
  refine ab.ret ?_
  simp only[eY]
  exact ⟨dG 1000000 (e8 l i) (k+1),[.view 1000000 [] 17 0 (l.length-1)],kp rfl (fun p=>fK p _),⟨⟨_,rfl,.inl ⟨rfl,rfl,rfl⟩⟩,trivial⟩,k+1,rfl,rfl⟩
 ·have hie:i+1=l.length:=by omega
  obtain ⟨b,hb⟩:∃ b,b=xs:=⟨_,rfl⟩
  have hbl:b.length=l.length+k:=by rw[hb];exact hxl
  have hcont:=aih l k i hie xs hxs
  rw[←hb] at hcont
  have hi1:i=l.length-1:=by omega
  obtain ⟨y,hy⟩:=OD (n:=1000000) (p:=[]) (sz:=17) (show i+1≤l.length by omega) (show l.length≤l.length+k by omega)
  have hye:∀ ts,er (av ts [(1000000,.box (.agg (xs.map (enc (α:=ak)))))]) 17 y=some []:=fun ts=>by
   by_cases hk:k=0
   ·have:iq 1000000 [] 17 0 l.length (l.length+k) (some (.int .i64 ((i+1:Nat):Int))) none none=some (.c0 17):=by
     simp only[iq,iw]
     rw[if_pos ⟨by omega,by omega,by omega⟩,if_pos (by omega)]
    rw[this] at hy;cases hy;rfl
   ·rw[mi (show i+1≤l.length by omega) (show l.length≤l.length+k by omega) (by omega)] at hy
    cases hy
    rw[ng (xs:=xs) (hA _) (by omega),hie]
    simp
  refine .ao (by decide +kernel) fun K hK =>?_
  simp only[wQ,U,Nat.reduceEqDiff,reduceIte]
  try simp only[dp,htot,Option.map_none,Option.map_some,r3 (show i≤l.length+k by omega) (show 0<l.length+k by omega),hy,U,Nat.reduceEqDiff,reduceIte]
  rw[Q5 (esz:=17) (xs:=xs) _ _ (hye _) (hA _) (by omega)]
  rw[hi1,←hb]
  try simp only[U,Nat.reduceEqDiff,reduceIte]
  refine .done (hK _ ?_);clear hK K
  have htb:(b.map (enc (α:=ak))).length=l.length+k:=by rw[List.length_map];exact hbl
  have hB:∀ ts os,(av ts ((1000000,.box (.agg (b.map (enc (α:=ak)))))::os)).o 1000000=some (.box (.agg (b.map enc))):=fun _ _=>rfl
  refine .ao (by decide +kernel) fun K hK =>?_
  simp only[wR,U,Nat.reduceEqDiff,reduceIte]
  try simp only[dp,htb,Option.map_none,Option.map_some,mC,U,Nat.reduceEqDiff,reduceIte]
  rw[OE (show l.length-1≤l.length by omega) (show l.length≤l.length+k by omega) (by omega)]
  try simp only[dp,U,Nat.reduceEqDiff,reduceIte]
  rw[vP (xs:=b) cE (hB _ _) (by omega)]
  have hone:l.length-(l.length-1)=1:=by omega
  try simp only[hone,hcont,U]
  refine .done (hK _ ?_);clear hK K
  refine .ao (by decide +kernel) fun K hK =>?_
  simp only[wS,U,Nat.reduceEqDiff,reduceIte]
  refine .done (hK _ ?_);clear hK K
  refine ab.ret ?_
  simp only[eY]
  exact ⟨dG 1000000 (e8 l i) (k+1),[.view 1000000 [] 17 0 (l.length-1)],kp rfl (fun p=>fK p _),⟨⟨_,rfl,.inl ⟨rfl,rfl,rfl⟩⟩,trivial⟩,k+1,rfl,rfl⟩
def eA(b:aU)(s:I):I:=.agg [.agg [.int .i64 b.no,.int .i64 b.dA,.int .i64 b.e7,.int .i64 b.bP,.int .i64 b.jR,.int .i64 b.born,.int .i64 b.dU,.bool b.found,s]]
structure eM where
 b:aU
instance:Enc eM where
 enc x:=.agg [enc x.b]
 sz:=9
 aP:=.ej [.ej [.one,.one,.one,.one,.one,.one,.one,.one,.one]]
 gn:=true
 done e:=by simp only[I.done,I.e9,Enc.done,Bool.and_self]
 size e:=by simp only[I.size,I.sizes,fG,Dy]
 kG e:=by simp only[I.aP,I.cK,eQ];rfl
 agg _:=rfl
def eX(B:Nat):Nat→List aU→List (Nat×ai)
 |_,[]=>[]
 |i,b::bs=>(B+2+2*i,.box (eA b (.own (B+3+2*i) b.cm.length)))::(B+3+2*i,.bT 66 6 (b.cm.map enc))::eX B (i+1) bs
def ep(B n:Nat):List I:=(List.range n).map fun i=>.ptr (B+2+2*i) []
def dj(bs:List aU):List I:=(bs.map (·.no)).map enc
def cv(B:Nat)(bs:List aU):List (Nat×ai):=(B,.box (.agg [.mref (B+1)]))::(B+1,.cz (dj bs) (ep B bs.length))::eX B 0 bs
theorem tG(B:Nat):∀ (bs:List aU) (i n:Nat),n<B+2+2*i→al (eX B i bs) n=none
 | [],_,_,_=>rfl
 |b::bs,i,n,h=>by
  simp only[eX,al]
  rw[if_neg (by omega),if_neg (by omega)]
  exact tG B bs (i+1) n (by omega)
theorem tE(B:Nat):∀ (bs:List aU) (i n:Nat),B+2+2*(i+bs.length)≤n→al (eX B i bs) n=none
 | [],_,_,_=>rfl
 |b::bs,i,n,h=>by
  simp only[List.length_cons] at h
  simp only[eX,al]
  rw[if_neg (by omega),if_neg (by omega)]
  exact tE B bs (i+1) n (by omega)
theorem tF(B:Nat):∀ (bs:List aU) (i k:Nat) (h:k<bs.length),al (eX B i bs) (B+2+2*(i+k))=some (.box (eA bs[k] (.own (B+3+2*(i+k)) (bs[k]).cm.length)))
 | [],_,_,h=>by simp at h
 |b::bs,i,0,_=>by simp[eX,al]
 |b::bs,i,k+1,h=>by
  simp only[eX,al]
  rw[if_neg (by omega),if_neg (by omega)]
  have:=tF B bs (i+1) k (by simpa using h)
  rw[show i+1+k=i+(k+1) by omega] at this
  exact this
theorem tH(B:Nat):∀ (bs:List aU) (i k:Nat) (h:k<bs.length),al (eX B i bs) (B+3+2*(i+k))=some (.bT 66 6 ((bs[k]).cm.map enc))
 | [],_,_,h=>by simp at h
 |b::bs,i,0,_=>by
  simp only[eX,al]
  rw[if_neg (by omega),if_pos (by omega)];rfl
 |b::bs,i,k+1,h=>by
  simp only[eX,al]
  rw[if_neg (by omega),if_neg (by omega)]
  have:=tH B bs (i+1) k (by simpa using h)
  rw[show i+1+k=i+(k+1) by omega] at this
  exact this
theorem tY(B n m:Nat):n<B∨n=B∨n=B+1∨(∃ k,k<m∧n=B+2+2*k)∨(∃ k,k<m∧n=B+3+2*k)∨B+2+2*m≤n:=by
 by_cases h1:n<B
 ·exact .inl h1
 by_cases h2:n=B
 ·exact .inr (.inl h2)
 by_cases h3:n=B+1
 ·exact .inr (.inr (.inl h3))
 by_cases h4:B+2+2*m≤n
 ·exact .inr (.inr (.inr (.inr (.inr h4))))
 rcases Nat.mod_two_eq_zero_or_one (n-B) with h5 | h5
 ·exact .inr (.inr (.inr (.inl ⟨(n-B-2) / 2,by omega,by omega⟩)))
 ·exact .inr (.inr (.inr (.inr (.inl ⟨(n-B-3) / 2,by omega,by omega⟩))))
section
variable {B:Nat} {bs:List aU}
theorem kr{n:Nat}(h:n<B):al (cv B bs) n=none:=by
 simp only[cv,al]
 rw[if_neg (by omega),if_neg (by omega)]
 exact tG B bs 0 n (by omega)
theorem tu{n:Nat}(h:B+2+2*bs.length≤n):al (cv B bs) n=none:=by
 simp only[cv,al]
 rw[if_neg (by omega),if_neg (by omega)]
 exact tE B bs 0 n (by omega)
theorem kq:al (cv B bs) B=some (.box (.agg [.mref (B+1)])):=by simp[cv,al]
theorem kV:al (cv B bs) (B+1)=some (.cz (dj bs) (ep B bs.length)):=by simp[cv,al]
theorem mH{k:Nat}(h:k<bs.length):al (cv B bs) (B+2+2*k)=some (.box (eA bs[k] (.own (B+3+2*k) (bs[k]).cm.length))):=by
 simp only[cv,al]
 rw[if_neg (by omega),if_neg (by omega)]
 have:=tF B bs 0 k h
 rwa [Nat.zero_add] at this
theorem lS{k:Nat}(h:k<bs.length):al (cv B bs) (B+3+2*k)=some (.bT 66 6 ((bs[k]).cm.map enc)):=by
 simp only[cv,al]
 rw[if_neg (by omega),if_neg (by omega)]
 have:=tH B bs 0 k h
 rwa [Nat.zero_add] at this
theorem nG{n:Nat} : au (cv B bs) n=decide (B≤n∧n<B+2+2*bs.length):=by
 rcases tY B n bs.length with h | h | h | ⟨k,hk,h⟩ | ⟨k,hk,h⟩ | h
 ·simp only[au,kr h];simp;omega
 ·subst h;simp only[au,kq];simp;omega
 ·subst h;simp only[au,kV];simp;omega
 ·subst h;simp only[au,mH hk];simp;omega
 ·subst h;simp only[au,lS hk];simp;omega
 ·simp only[au,tu h];simp;omega
theorem yS(p:Nat→Bool){n:Nat}(h:∀ i,i<n→p (B+2+2*i)=true):I.bR p (ep B n)=true:=by
 unfold ep
 induction n with
 |zero=>rfl
 |succ n ih =>
  rw[List.range_succ,List.map_append,gG,ih fun i hi=>h i (by omega)]
  simp[I.bR,I.only,h n (by omega)]
theorem fx{n:Nat}{x:ai}(h:al (cv B bs) n=some x):x.only (au (cv B bs))=true∧x.eS=true:=by
 rcases tY B n bs.length with h2 | h2 | h2 | ⟨k,hk,h2⟩ | ⟨k,hk,h2⟩ | h2
 ·rw[kr h2] at h;cases h
 ·subst h2;rw[kq] at h;cases h
  simp[ai.only,I.only,I.bR,nG,ai.eS];omega
 ·subst h2;rw[kV] at h;cases h
  refine ⟨?_,rfl⟩
  simp only[ai.only,Bool.and_eq_true]
  exact ⟨dN _ _,yS _ fun i hi=>by rw[nG];simp;omega⟩
 ·subst h2;rw[mH hk] at h;cases h
  simp[ai.only,I.only,I.bR,nG,ai.eS,eA];omega
 ·subst h2;rw[lS hk] at h;cases h
  exact ⟨dN _ _,rfl⟩
 ·rw[tu h2] at h;cases h
theorem Kk{i:Nat}(hi:i<bs.length)(b:aU)(hno:b.no=(bs[i]).no)(n:Nat):al (cv B (bs.set i b)) n =
  if n=B+2+2*i then some (.box (eA b (.own (B+3+2*i) b.cm.length))) else if n=B+3+2*i then some (.bT 66 6 (b.cm.map enc)) else al (cv B bs) n:=by
 have hl:(bs.set i b).length=bs.length:=List.length_set
 have hnos:dj (bs.set i b)=dj bs:=by
  simp only[dj,List.map_set,hno]
  congr 1
  exact List.ext_getElem (by simp) fun j h1 h2=>by
   simp only[List.getElem_set,List.getElem_map]
   split
   ·rename_i e;subst e;rfl
   ·rfl
 rcases tY B n bs.length with h2 | h2 | h2 | ⟨k,hk,h2⟩ | ⟨k,hk,h2⟩ | h2
 ·rw[kr h2,kr h2,if_neg (by omega),if_neg (by omega)]
 ·subst h2;rw[kq,kq,if_neg (by omega),if_neg (by omega)]
 ·subst h2;rw[kV,kV,hl,hnos,if_neg (by omega),if_neg (by omega)]
 ·subst h2
  rw[mH (by omega),mH hk]
  by_cases e:k=i
  ·subst e;simp
  ·rw[if_neg (by omega),if_neg (by omega)]
   simp[Ne.symm e]
 ·subst h2
  rw[lS (by omega),lS hk]
  by_cases e:k=i
  ·subst e
   rw[if_neg (by omega),if_pos rfl]
   simp
  ·rw[if_neg (by omega),if_neg (by omega)]
   simp[Ne.symm e]
 ·rw[tu (by omega),tu h2,if_neg (by omega),if_neg (by omega)]
end
theorem L1{B n i:Nat}(h:i<n):(ep B n)[i]?=some (.ptr (B+2+2*i) []):=by simp[ep,h]
theorem we(a b:Int):cu (.i .i64) (enc a) (enc b)=some (decide (a=b)):=DB a b
theorem xz{bs:List aU}{no:Int} : match (bs.map (·.no)).findIdx? fun x=>decide (no=x) with
  |some i=>∃ h:i<bs.length,dF bs no=some bs[i]∧(bs[i]).no=no
  |none=>dF bs no=none:=by
 cases h:(bs.map (·.no)).findIdx? fun x=>decide (no=x) with
 |none =>
  rw[List.findIdx?_eq_none_iff] at h
  simp only
  rw[J6]
  intro hm
  have:=h no hm
  simp at this
 |some i =>
  obtain ⟨h1,h2,h3⟩:=List.findIdx?_eq_some_iff_getElem.1 h
  have hi:i<bs.length:=by simpa using h1
  have hno:(bs[i]).no=no:=by simpa using (of_decide_eq_true h2).symm
  refine ⟨hi,?_,hno⟩
  simp only[dF,List.find?_eq_some_iff_getElem]
  refine ⟨by simpa using hno,i,hi,rfl,fun j hj =>?_⟩
  have:=h3 j hj
  simp at this
  simpa using fun e=>this e.symm
theorem pW(B:Nat)(bs:List aU)(no:Int):(dF bs no=none∧gC (.i .i64) .nilp (.int .i64 no) (dj bs) (ep B bs.length)=some (.nilp,false)) ∨
  ∃ i,∃ h:i<bs.length,dF bs no=some bs[i]∧(bs[i]).no=no∧gC (.i .i64) .nilp (.int .i64 no) (dj bs) (ep B bs.length)=some (.ptr (B+2+2*i) [],true):=by
 have h1:=xz (bs:=bs) (no:=no)
 have h2:=x9 we .nilp no (bs.map (·.no)) (ep B bs.length)
 rw[jw] at h2
 unfold dj
 cases h:(bs.map (·.no)).findIdx? fun x=>decide (no=x) with
 |none=>rw[h] at h1 h2;exact .inl ⟨h1,h2⟩
 |some i =>
  rw[h] at h1 h2
  obtain ⟨hi,g1,g2⟩:=h1
  refine .inr ⟨i,hi,g1,g2,?_⟩
  rw[h2];simp only[L1 hi,Option.map_some]
theorem alg{bs:List aU}(hd:(bs.map (·.no)).Nodup){i:Nat}(hi:i<bs.length){b:aU}(hno:b.no=(bs[i]).no):mf bs b=bs.set i b:=by
 refine List.ext_getElem (by simp[mf]) fun j h1 h2 =>?_
 simp only[mf,List.getElem_map,List.getElem_set]
 have hj:j<bs.length:=by simpa using h2
 by_cases e:i=j
 ·subst e;rw[if_pos hno.symm,if_pos rfl]
 ·rw[if_neg e,if_neg]
  intro he
  have he:=he.trans hno
  have:=(List.getElem_inj (h₀:=by simpa using hj) (h₁:=by simpa using hi) hd).1 (by simpa using he)
  exact e this.symm
theorem DK(x:eM):(enc x).du=some [enc x.b]:=rfl
theorem DL(b:aU)(s:I):(eA b s).du=some [.agg [.int .i64 b.no,.int .i64 b.dA,.int .i64 b.e7,.int .i64 b.bP,.int .i64 b.jR,.int .i64 b.born,.int .i64 b.dU,.bool b.found,s]]:=rfl
theorem C4(b:aU)(n k:Nat):(eA b (.own n k)).bB=false:=by simp[eA,I.bB,I.bX]
theorem mF{A:af}{m n:Nat}{b:aU}(ho:A.o n=some (.bT 66 6 (b.cm.map enc))):dL A (m+3) (eA b (.own n b.cm.length))=some (enc (⟨b⟩:eM)):=by
 have h1:dL A (m+1) (.own n b.cm.length)=some (enc b.cm):=by
  simp only[dL,I.bB,Bool.false_eq_true,if_false,ho,List.length_map,kh,and_self,if_true];rfl
 have hi:∀ (k:IntKind) (v:Int),dL A (m+1) (.int k v)=some (.int k v):=fun _ _=>by simp[dL,I.bB]
 have hb:∀ v:Bool,dL A (m+1) (.bool v)=some (.bool v):=fun _=>by simp[dL,I.bB]
 have h2:dL A (m+2) (.agg [.int .i64 b.no,.int .i64 b.dA,.int .i64 b.e7,.int .i64 b.bP,.int .i64 b.jR,.int .i64 b.born,.int .i64 b.dU,.bool b.found,.own n b.cm.length])=some (enc b):=by
  rw[dL]
  simp only[I.bB,I.bX,Bool.and_false,Bool.and_true,Bool.false_eq_true,if_false,fJ,hi,hb,h1,Option.map_some]
  rfl
 rw[eA,dL]
 simp only[I.bB,I.bX,Bool.and_false,Bool.and_true,Bool.false_eq_true,if_false,fJ,h2,Option.map_some]
 rfl
theorem ON :
  (∀ (A:af) n b s (v u:Int) rest,dQ A none n [0,3] (eA b s) (.int .i64 v) rest (some (.int .i64 u))=az rest (A.aK n (.box (eA { b with bP:=v } s)))) ∧
  (∀ (A:af) n b s (v u:Int) rest,dQ A none n [0,6] (eA b s) (.int .i64 v) rest (some (.int .i64 u))=az rest (A.aK n (.box (eA { b with dU:=v } s)))) ∧
  (∀ (A:af) n b s (v u:Bool) rest,dQ A none n [0,7] (eA b s) (.bool v) rest (some (.bool u))=az rest (A.aK n (.box (eA { b with found:=v } s)))) ∧
  (∀ (A:af) n b s m k m' k' rest,dQ A none n [0,8] (eA b s) (.own m k) rest (some (.own m' k'))=az rest (A.aK n (.box (eA b (.own m k))))) :=
 ⟨fun _ _ _ _ v u _=>by rw[ev (s:=none) (v:=.int .i64 v) (old:=.int .i64 u) rfl rfl rfl];rfl,fun _ _ _ _ v u _=>by rw[ev (s:=none) (v:=.int .i64 v) (old:=.int .i64 u) rfl rfl rfl];rfl,
  fun _ _ _ _ v u _=>by rw[ev (s:=none) (v:=.bool v) (old:=.bool u) rfl rfl rfl];rfl,fun _ _ _ _ m k m' k' _=>by rw[ev (s:=none) (v:=.own m k) (old:=.own m' k') rfl rfl rfl];rfl⟩
theorem gW:(type_of% @DK)∧(type_of% @DL)∧(type_of% @C4)∧(type_of% @ON)∧(type_of% @Li)∧(∀ n:Nat,(n=n)=True)∧(∀ rs post A,nW rs post .ret A=lz rs post A):=⟨DK,DL,C4,ON,Li,fun _=>eq_self _,eY⟩
theorem jr(b:aU):aA Tryz.prog 90 [.ref (enc (⟨b⟩:eM))] (enc (decide (0≤b.dU))):=by
 refine aA.bA Tryz.func90 TC Vx XF (Nat.le_of_ble_eq_true rfl) (fun hwf W0 D0 E1 =>?_)
 simp only[CH,NS,bp]
 have R:=And.intro @gW (And.intro @eJ (And.intro @a6 @U))
 repeat' ((first
  |(with_reducible refine .guard (fun hb =>?_) (fun hb =>?_) <;>try simp only[hb])
  |refine ab.aO (by decide +kernel) rfl fun K hK =>?_
  |(refine .aI [0,2] hK ?_;clear hK K)
  |(with_reducible refine .done (hK _ ?_);clear hK K)
  |refine ab.of rfl ?_
  |(with_reducible refine ar.aL (fun h =>?_) (fun h =>?_) <;>try simp only[h])) <;>try simp only[aQ,R,simprocAttr])
 all_goals clear R
def ja(B d:Nat)(bs:List aU)(x:ak):cR:=fun r os'=>match eO fo bs x with
 |none=>r=.bool false∧os'=cv B bs
 |some bs'=>r=.bool true∧os'=if x.kind=1∨x.kind=2 then (B+1,.cz (dj bs') (ep B bs.length++[.ptr d []]))::(d,.box (eA (fV x) (.nils 6)))::cv B bs else cv B bs'
theorem kW{bs:List aU} : ∀ m,au (cv 1000000 bs) m=true→1000000≤m:=fun m hm=>by rw[nG] at hm;simp at hm;omega
theorem gv{ts:List (Nat×I)}{os os':List (Nat×ai)}{b:Bool}{post:cR}(ht:Abs.cn ts 4=.bool b)(ho:∀ n,au os' n=true→al os n=al os' n)(hg:∀ n x,al os' n=some x→x.only (au os')=true∧x.eS=true)(hp:post (.bool b) os'):lz [.tmp 4] post (av ts os):=by
 refine ⟨os',[.bool b],fun n x hx=>⟨?_,hg n x hx⟩,⟨⟨.bool b,?_,.inl ⟨rfl,rfl,rfl⟩⟩,trivial⟩,hp⟩
 ·show al os n=some x
  rw[ho n (by simp[au,hx])];exact hx
 ·show some (Abs.cn ts 4)=some _
  rw[ht]
theorem lT{bs:List aU}{z:ai} : ∀ n,au (cv 1000000 bs) n=true→al ((3,z)::cv 1000000 bs) n=al (cv 1000000 bs) n:=fun n h=>by
 have:=kW n h
 simp only[al];rw[if_neg (by omega)]
theorem xL{bs:List aU}{i:Nat}(hi:i<bs.length){b:aU}(hno:b.no=(bs[i]).no)(hs:b.cm=(bs[i]).cm){z:ai}{nl nr:Nat}(hnl:nl=1000000+2+2*i)(hnr:nr=1000000+3+2*i) :
  ∀ n,au (cv 1000000 (bs.set i b)) n=true→al ((nl,.box (eA b (.own nr (bs[i]).cm.length)))::(3,z)::cv 1000000 bs) n=al (cv 1000000 (bs.set i b)) n:=fun n h=>by
 have:=kW n h
 rw[Kk hi b hno]
 simp only[al,hs]
 subst hnl hnr
 rw[if_neg (show ¬ n=3 by omega)]
 split
 ·rfl
 ·split
  ·rename_i e;subst e;exact lS hi
  ·rfl
theorem jU{B d:Nat}{bs:List aU}{x:ak}(h:eO fo bs x=none):ja B d bs x (.bool false) (cv B bs):=by simp[ja,h]
theorem tw{B d:Nat}{bs:List aU}{x:ak}(hd:(bs.map (·.no)).Nodup)(hk:¬ (x.kind=1∨x.kind=2)){i:Nat}(hi:i<bs.length)(hg:dF bs x.ef=some bs[i]){b:aU}(ht:kI bs[i] x=some b)(hno:b.no=(bs[i]).no) :
  ja B d bs x (.bool true) (cv B (bs.set i b)):=by
 have:eO fo bs x=some (bs.set i b):=by
  simp only[eO,if_neg hk,hg,ht,Option.map_some,alg hd hi hno]
 simp only[ja,this,if_neg hk,and_self]
theorem sE{bs:List aU}{x:ak}(hk:¬ (x.kind=1∨x.kind=2))(hg:dF bs x.ef=none):eO fo bs x=none:=by
 simp only[eO,if_neg hk,hg]
theorem AH{bs:List aU}{x:ak}(hk:¬ (x.kind=1∨x.kind=2)){b:aU}(hg:dF bs x.ef=some b)(ht:kI b x=none):eO fo bs x=none:=by
 simp only[eO,if_neg hk,hg,ht,Option.map_none]
theorem PZ(bs:List aU)(x:ak)(d:Nat)(hk:x.kind=3)(hd:(bs.map (·.no)).Nodup):cF Tryz.prog 174 [.ptr 1000000 [],enc x] (cv 1000000 bs) (ja 1000000 d bs x):=by
 refine cF.bA Tryz.func174 SJ UE WK (Nat.le_of_ble_eq_true rfl) (Nat.le_of_ble_eq_true rfl) kW (fun hwf W0 D0 E1 =>?_)
 simp only[BO,MV,bp,Nat.zero_add]
 clear hwf
 have hk12:¬ (x.kind=1∨x.kind=2):=by omega
 have n3:al (cv 1000000 bs) 3=none:=kr (by omega)
 have h0:al (cv 1000000 bs) 1000000=some (.box (.agg [.mref 1000001])):=kq
 have h1:al (cv 1000000 bs) 1000001=some (.cz (dj bs) (ep 1000000 bs.length)):=kV
 rcases pW 1000000 bs x.ef with ⟨hg,hlk⟩ | ⟨i,hi,hg,hno,hlk⟩
 ·have R:=And.intro @n3 (And.intro @h0 (And.intro @h1 (And.intro @hlk (And.intro @eT (And.intro @gW (And.intro @eJ (And.intro @a6 @U)))))))
  repeat' ((first
   |(with_reducible refine .guard (fun hb =>?_) (fun hb =>?_) <;>try simp only[hb])
   |refine ab.aO (by decide +kernel) rfl fun K hK =>?_
   |refine .flat _ (jr _) rfl ?_
   |(refine .aI [0,1,3,4,5,36] hK ?_;clear hK K)
   |(with_reducible refine .done (hK _ ?_);clear hK K)
   |refine ab.of rfl ?_
   |(with_reducible refine ar.aL (fun h =>?_) (fun h =>?_) <;>try simp only[h])) <;>try simp only[aQ,R,simprocAttr])
  all_goals clear R
  exact gv rfl lT (fun n x h=>fx h) (jU (sE hk12 hg))
 ·have hl:=mH (B:=1000000) hi
  have hr:=lS (B:=1000000) hi
  obtain ⟨nl,hnl⟩:∃ nl,nl=1000000+2+2*i:=⟨_,rfl⟩
  obtain ⟨nr,hnr⟩:∃ nr,nr=1000000+3+2*i:=⟨_,rfl⟩
  rw[←hnl] at hl hlk
  rw[←hnr] at hl hr
  have e1:(nl=3)=False:=by simp;omega
  have e2:(nr=3)=False:=by simp;omega
  have e3:(3=nl)=False:=by simp;omega
  have e4:(nr=nl)=False:=by simp;omega
  have e5:(nl=nr)=False:=by simp;omega
  have e6:(3=nr)=False:=by simp;omega
  have R:=And.intro @n3 (And.intro @h0 (And.intro @h1 (And.intro @hl (And.intro @hr (And.intro @e1 (And.intro @e2 (And.intro @e3 (And.intro @hlk (And.intro @mF (And.intro @eT (And.intro @gW (And.intro @eJ (And.intro @a6 @U)))))))))))))
  repeat' ((first
   |(with_reducible refine .guard (fun hb =>?_) (fun hb =>?_) <;>try simp only[hb])
   |refine ab.aO (by decide +kernel) rfl fun K hK =>?_
   |refine .flat _ (jr _) rfl ?_
   |(refine .aI [0,1,3,4,5,36] hK ?_;clear hK K)
   |(with_reducible refine .done (hK _ ?_);clear hK K)
   |refine ab.of rfl ?_
   |(with_reducible refine ar.aL (fun h =>?_) (fun h =>?_) <;>try simp only[h])) <;>try simp only[aQ,R,simprocAttr])
  all_goals clear R
  all_goals first
   |exact gv rfl lT (fun n x h=>fx h) (jU (AH hk12 hg (by simp_all[kI])))
   |exact gv rfl (xL hi (b := { bs[i] with bP:=x.bP }) rfl rfl hnl hnr) (fun n x h=>fx h) (tw hd hk12 hi hg (by simp_all[kI]) rfl)
theorem P1(bs:List aU)(x:ak)(d:Nat)(hk:x.kind=5)(hd:(bs.map (·.no)).Nodup):cF Tryz.prog 176 [.ptr 1000000 [],enc x] (cv 1000000 bs) (ja 1000000 d bs x):=by
 refine cF.bA Tryz.func176 SL UG WM (Nat.le_of_ble_eq_true rfl) (Nat.le_of_ble_eq_true rfl) kW (fun hwf W0 D0 E1 =>?_)
 simp only[BQ,MX,bp,Nat.zero_add]
 clear hwf
 have hk12:¬ (x.kind=1∨x.kind=2):=by omega
 have n3:al (cv 1000000 bs) 3=none:=kr (by omega)
 have h0:al (cv 1000000 bs) 1000000=some (.box (.agg [.mref 1000001])):=kq
 have h1:al (cv 1000000 bs) 1000001=some (.cz (dj bs) (ep 1000000 bs.length)):=kV
 rcases pW 1000000 bs x.ef with ⟨hg,hlk⟩ | ⟨i,hi,hg,hno,hlk⟩
 ·have R:=And.intro @n3 (And.intro @h0 (And.intro @h1 (And.intro @hlk (And.intro @eT (And.intro @gW (And.intro @eJ (And.intro @a6 @U)))))))
  repeat' ((first
   |(with_reducible refine .guard (fun hb =>?_) (fun hb =>?_) <;>try simp only[hb])
   |refine ab.aO (by decide +kernel) rfl fun K hK =>?_
   |refine .flat _ (jr _) rfl ?_
   |(refine .aI [0,1,3,4,5,14] hK ?_;clear hK K)
   |(with_reducible refine .done (hK _ ?_);clear hK K)
   |refine ab.of rfl ?_
   |(with_reducible refine ar.aL (fun h =>?_) (fun h =>?_) <;>try simp only[h])) <;>try simp only[aQ,R,simprocAttr])
  all_goals clear R
  exact gv rfl lT (fun n x h=>fx h) (jU (sE hk12 hg))
 ·have hl:=mH (B:=1000000) hi
  have hr:=lS (B:=1000000) hi
  obtain ⟨nl,hnl⟩:∃ nl,nl=1000000+2+2*i:=⟨_,rfl⟩
  obtain ⟨nr,hnr⟩:∃ nr,nr=1000000+3+2*i:=⟨_,rfl⟩
  rw[←hnl] at hl hlk
  rw[←hnr] at hl hr
  have e1:(nl=3)=False:=by simp;omega
  have e2:(nr=3)=False:=by simp;omega
  have e3:(3=nl)=False:=by simp;omega
  have e4:(nr=nl)=False:=by simp;omega
  have e5:(nl=nr)=False:=by simp;omega
  have e6:(3=nr)=False:=by simp;omega
  have R:=And.intro @n3 (And.intro @h0 (And.intro @h1 (And.intro @hl (And.intro @hr (And.intro @e1 (And.intro @e2 (And.intro @e3 (And.intro @hlk (And.intro @mF (And.intro @eT (And.intro @gW (And.intro @eJ (And.intro @a6 @U)))))))))))))
  repeat' ((first
   |(with_reducible refine .guard (fun hb =>?_) (fun hb =>?_) <;>try simp only[hb])
   |refine ab.aO (by decide +kernel) rfl fun K hK =>?_
   |refine .flat _ (jr _) rfl ?_
   |(refine .aI [0,1,3,4,5,14] hK ?_;clear hK K)
   |(with_reducible refine .done (hK _ ?_);clear hK K)
   |refine ab.of rfl ?_
   |(with_reducible refine ar.aL (fun h =>?_) (fun h =>?_) <;>try simp only[h])) <;>try simp only[aQ,R,simprocAttr])
  all_goals clear R
  refine gv rfl (fun n h =>?_) (fun n x h=>fx h) (tw hd hk12 hi hg (b := { bs[i] with bP:=x.bP,found:=true }) (by simp[kI,hk]) rfl)
  rw[←xL hi (b := { bs[i] with bP:=x.bP,found:=true }) rfl rfl (z:=.box (enc x)) hnl hnr n h]
  simp only[al]
  split <;>rfl
theorem P2(bs:List aU)(x:ak)(d:Nat)(hk:x.kind=6)(hd:(bs.map (·.no)).Nodup):cF Tryz.prog 177 [.ptr 1000000 [],enc x] (cv 1000000 bs) (ja 1000000 d bs x):=by
 refine cF.bA Tryz.func177 SM UH WN (Nat.le_of_ble_eq_true rfl) (Nat.le_of_ble_eq_true rfl) kW (fun hwf W0 D0 E1 =>?_)
 simp only[BR,MY,bp,Nat.zero_add]
 clear hwf
 have hk12:¬ (x.kind=1∨x.kind=2):=by omega
 have n3:al (cv 1000000 bs) 3=none:=kr (by omega)
 have h0:al (cv 1000000 bs) 1000000=some (.box (.agg [.mref 1000001])):=kq
 have h1:al (cv 1000000 bs) 1000001=some (.cz (dj bs) (ep 1000000 bs.length)):=kV
 rcases pW 1000000 bs x.ef with ⟨hg,hlk⟩ | ⟨i,hi,hg,hno,hlk⟩
 ·have R:=And.intro @n3 (And.intro @h0 (And.intro @h1 (And.intro @hlk (And.intro @eT (And.intro @gW (And.intro @eJ (And.intro @a6 @U)))))))
  repeat' ((first
   |(with_reducible refine .guard (fun hb =>?_) (fun hb =>?_) <;>try simp only[hb])
   |refine ab.aO (by decide +kernel) rfl fun K hK =>?_
   |refine .flat _ (jr _) rfl ?_
   |(refine .aI [0,1,3,4,5,18] hK ?_;clear hK K)
   |(with_reducible refine .done (hK _ ?_);clear hK K)
   |refine ab.of rfl ?_
   |(with_reducible refine ar.aL (fun h =>?_) (fun h =>?_) <;>try simp only[h])) <;>try simp only[aQ,R,simprocAttr])
  all_goals clear R
  exact gv rfl lT (fun n x h=>fx h) (jU (sE hk12 hg))
 ·have hl:=mH (B:=1000000) hi
  have hr:=lS (B:=1000000) hi
  obtain ⟨nl,hnl⟩:∃ nl,nl=1000000+2+2*i:=⟨_,rfl⟩
  obtain ⟨nr,hnr⟩:∃ nr,nr=1000000+3+2*i:=⟨_,rfl⟩
  rw[←hnl] at hl hlk
  rw[←hnr] at hl hr
  have e1:(nl=3)=False:=by simp;omega
  have e2:(nr=3)=False:=by simp;omega
  have e3:(3=nl)=False:=by simp;omega
  have e4:(nr=nl)=False:=by simp;omega
  have e5:(nl=nr)=False:=by simp;omega
  have e6:(3=nr)=False:=by simp;omega
  have R:=And.intro @n3 (And.intro @h0 (And.intro @h1 (And.intro @hl (And.intro @hr (And.intro @e1 (And.intro @e2 (And.intro @e3 (And.intro @hlk (And.intro @mF (And.intro @eT (And.intro @gW (And.intro @eJ (And.intro @a6 @U)))))))))))))
  repeat' ((first
   |(with_reducible refine .guard (fun hb =>?_) (fun hb =>?_) <;>try simp only[hb])
   |refine ab.aO (by decide +kernel) rfl fun K hK =>?_
   |refine .flat _ (jr _) rfl ?_
   |(refine .aI [0,1,3,4,5,18] hK ?_;clear hK K)
   |(with_reducible refine .done (hK _ ?_);clear hK K)
   |refine ab.of rfl ?_
   |(with_reducible refine ar.aL (fun h =>?_) (fun h =>?_) <;>try simp only[h])) <;>try simp only[aQ,R,simprocAttr])
  all_goals clear R
  all_goals first
   |exact gv rfl lT (fun n x h=>fx h) (jU (AH hk12 hg (by simp_all[kI])))
   |exact gv rfl (xL hi (b := { bs[i] with dU:=x.day }) rfl rfl hnl hnr) (fun n x h=>fx h) (tw hd hk12 hi hg (by simp_all[kI]) rfl)
theorem ahE{bs:List aU}{i:Nat}(hi:i<bs.length){b:aU}(hno:b.no=(bs[i]).no){z:ai}{nl nr:Nat}(hnl:nl=1000000+2+2*i)(hnr:nr=1000000+3+2*i) :
  ∀ n,au (cv 1000000 (bs.set i b)) n=true→al ((nl,.box (eA b (.own nr b.cm.length)))::(nr,.bT 66 6 (b.cm.map enc))::(3,z)::cv 1000000 bs) n=al (cv 1000000 (bs.set i b)) n:=fun n h=>by
 have:=kW n h
 rw[Kk hi b hno]
 simp only[al]
 subst hnl hnr
 rw[if_neg (show ¬ n=3 by omega)]
theorem P0(bs:List aU)(x:ak)(d:Nat)(hk:x.kind=4)(hd:(bs.map (·.no)).Nodup)(hlen:∀ b∈bs,b.cm.length≤1000):cF Tryz.prog 175 [.ptr 1000000 [],enc x] (cv 1000000 bs) (ja 1000000 d bs x):=by
 refine cF.bA Tryz.func175 SK UF WL (Nat.le_of_ble_eq_true rfl) (Nat.le_of_ble_eq_true rfl) kW (fun hwf W0 D0 E1 =>?_)
 simp only[BP,MW,bp,Nat.zero_add]
 clear hwf
 have hk12:¬ (x.kind=1∨x.kind=2):=by omega
 have n3:al (cv 1000000 bs) 3=none:=kr (by omega)
 have h0:al (cv 1000000 bs) 1000000=some (.box (.agg [.mref 1000001])):=kq
 have h1:al (cv 1000000 bs) 1000001=some (.cz (dj bs) (ep 1000000 bs.length)):=kV
 rcases pW 1000000 bs x.ef with ⟨hg,hlk⟩ | ⟨i,hi,hg,hno,hlk⟩
 ·have R:=And.intro @n3 (And.intro @h0 (And.intro @h1 (And.intro @hlk (And.intro @eT (And.intro @gW (And.intro @eJ (And.intro @a6 @U)))))))
  repeat' ((first
   |(with_reducible refine .guard (fun hb =>?_) (fun hb =>?_) <;>try simp only[hb])
   |refine ab.aO (by decide +kernel) rfl fun K hK =>?_
   |refine .flat _ (jr _) rfl ?_
   |(refine .aI [0,1,3,4,5,14] hK ?_;clear hK K)
   |(with_reducible refine .done (hK _ ?_);clear hK K)
   |refine ab.of rfl ?_
   |(with_reducible refine ar.aL (fun h =>?_) (fun h =>?_) <;>try simp only[h])) <;>try simp only[aQ,R,simprocAttr])
  all_goals clear R
  exact gv rfl lT (fun n x h=>fx h) (jU (sE hk12 hg))
 ·have hl:=mH (B:=1000000) hi
  have hr:=lS (B:=1000000) hi
  obtain ⟨nl,hnl⟩:∃ nl,nl=1000000+2+2*i:=⟨_,rfl⟩
  obtain ⟨nr,hnr⟩:∃ nr,nr=1000000+3+2*i:=⟨_,rfl⟩
  rw[←hnl] at hl hlk
  rw[←hnr] at hl hr
  have e1:(nl=3)=False:=by simp;omega
  have e2:(nr=3)=False:=by simp;omega
  have e3:(3=nl)=False:=by simp;omega
  have e4:(nr=nl)=False:=by simp;omega
  have e5:(nl=nr)=False:=by simp;omega
  have e6:(3=nr)=False:=by simp;omega
  have hle:=hlen _ (List.getElem_mem hi)
  have happ:=fun (A:af) d rest=>lB (α:=aS 6 Int) (A:=A) (d:=d) 66 6 48 nr (l:=(bs[i]).cm.length) (es:=(bs[i]).cm) (ys:=[x.cm]) (rest:=rest) rfl rfl (by simp) (by simp[maxLen];omega) (by simp;omega)
  have hbs:=nq 6 x.cm rfl
  have R:=And.intro @n3 (And.intro @h0 (And.intro @h1 (And.intro @hl (And.intro @hr (And.intro @e1 (And.intro @e2 (And.intro @e3 (And.intro @e4 (And.intro @e5 (And.intro @e6 (And.intro @hlk (And.intro @happ (And.intro @hbs (And.intro @mF (And.intro @eT (And.intro @gW (And.intro @eJ (And.intro @a6 @U))))))))))))))))))
  repeat' ((first
   |(with_reducible refine .guard (fun hb =>?_) (fun hb =>?_) <;>try simp only[hb])
   |refine ab.aO (by decide +kernel) rfl fun K hK =>?_
   |(refine ab.ql (gs:=xc) [] [] [0,1,2,3,4,5,6,7,8,9,10,11,12,13] (by decide +kernel) (eU.of (by simp[nJ])) fun K hK =>?_;simp only[nU,xc,List.getD_cons_zero,List.getD_cons_succ,R,simprocAttr])
   |(refine .aI [0,1,3,4,5,14] hK ?_;clear hK K)
   |(with_reducible refine .done (hK _ ?_);clear hK K)
   |refine ab.of rfl ?_
   |(with_reducible refine ar.aL (fun h =>?_) (fun h =>?_) <;>try simp only[h])) <;>try simp only[aQ,R,simprocAttr])
  all_goals clear R
  refine gv rfl (fun n h =>?_) (fun n x h=>fx h) (tw hd hk12 hi hg (b := { bs[i] with cm:=(bs[i]).cm++[x.cm] }) (by simp[kI,hk]) rfl)
  rw[←ahE hi (b := { bs[i] with cm:=(bs[i]).cm++[x.cm] }) rfl (z:=.box (enc x)) hnl hnr n h]
  rfl
def gN(B d:Nat)(bs:List aU)(b:aU):List (Nat×ai):=(B+1,.cz (dj (bs++[b])) (ep B bs.length++[.ptr d []]))::(d,.box (eA b (.nils 6)))::cv B bs
theorem tv{B d:Nat}{bs:List aU}{x:ak}(hk:x.kind=1∨x.kind=2)(hg:dF bs x.ef=none)(hdam:iJ bs x=true):ja B d bs x (.bool true) (gN B d bs (fV x)):=by
 have:eO fo bs x=some (bs++[fV x]):=by simp only[eO,if_pos hk,hg,hdam,fo,and_self,if_true]
 simp only[ja,this,if_pos hk,gN,and_self]
def Kg(B d:Nat)(bs:List aU)(x:ak):cR:=fun r os' =>
 (dF bs x.ef≠none∧r=.bool false∧os'=cv B bs)∨(dF bs x.ef=none∧r=.bool true∧os'=gN B d bs (fV x))
theorem RJ(a b c d e f g:Int):(dY [.int .i64 0,.int .i64 0,.int .i64 0,.int .i64 0,.int .i64 0,.int .i64 0,.int .i64 0,.bool false,.nils 6] [(0,.int .i64 a),(1,.int .i64 b),(2,.int .i64 c),(3,.int .i64 d),(4,.int .i64 e),(5,.int .i64 f),(6,.int .i64 g)]).map I.agg=some (I.agg [.int .i64 a,.int .i64 b,.int .i64 c,.int .i64 d,.int .i64 e,.int .i64 f,.int .i64 g,.bool false,.nils 6]):=by
 simp[dY,I.cj,I.size]
theorem RK(a b c d e f g:Int):(dY [.agg [.int .i64 0,.int .i64 0,.int .i64 0,.int .i64 0,.int .i64 0,.int .i64 0,.int .i64 0,.bool false,.nils 6]] [(0,.agg [.int .i64 a,.int .i64 b,.int .i64 c,.int .i64 d,.int .i64 e,.int .i64 f,.int .i64 g,.bool false,.nils 6])]).map I.agg=some (eA ⟨a,b,c,d,e,f,g,false,[]⟩ (.nils 6)):=by
 simp[dY,I.cj,I.size,I.sizes];rfl
theorem ahQ(b:aU)(s:I):(eA b s).cj=true:=rfl
theorem aiO(B d:Nat)(bs:List aU)(x:ak)(hg:dF bs x.ef=none):gp (.i .i64) (.int .i64 x.ef) (.ptr d []) (dj bs) (ep B bs.length)=some (dj (bs++[fV x]),ep B bs.length++[.ptr d []]):=by
 have h2:=K7 we x.ef (.ptr d []) rfl (bs.map (·.no)) (ep B bs.length)
 rw[jw] at h2
 unfold dj
 rw[h2]
 have h1:=xz (bs:=bs) (no:=x.ef)
 cases h:(bs.map (·.no)).findIdx? fun y=>decide (x.ef=y) with
 |none=>simp only[List.map_append,List.map_cons,List.map_nil];rfl
 |some i=>rw[h] at h1;obtain ⟨hi,g,_⟩:=h1;rw[hg] at g;cases g
theorem nE{B d:Nat}{bs:List aU}{b:aU}{n:Nat} : au (gN B d bs b) n=(decide (n=d)||au (cv B bs) n):=by
 by_cases h1:n=B+1
 ·subst h1
  have:au (cv B bs) (B+1)=true:=by simp[au,kV]
  rw[this];simp[gN,au,al]
 ·by_cases h2:n=d
  ·subst h2;simp[gN,au,al,h1]
  ·simp[gN,au,al,h1,h2]
theorem nF{B d:Nat}{bs:List aU}{b:aU}{n:Nat}{x:ai}(h:al (gN B d bs b) n=some x):x.only (au (gN B d bs b))=true∧x.eS=true:=by
 have cL:∀ m,au (cv B bs) m=true→au (gN B d bs b) m=true:=fun m hm=>by rw[nE,hm,Bool.or_true]
 simp only[gN,al] at h
 split at h
 ·cases h
  refine ⟨?_,rfl⟩
  simp only[ai.only,Bool.and_eq_true,gG]
  refine ⟨dN _ _,yS _ fun i hi=>cL _ (by rw[nG];simp;omega),?_⟩
  simp[I.bR,I.only,nE]
 ·split at h
  ·cases h
   exact ⟨by simp[ai.only,I.only,I.bR,eA],rfl⟩
  ·obtain ⟨k1,k2⟩:=fx h
   exact ⟨ai.jg cL _ k1,k2⟩
theorem sk(bs:List aU)(x:ak):cF Tryz.prog 173 [.ptr 1000000 [],enc x] (cv 1000000 bs) (Kg 1000000 33 bs x):=by
 refine cF.bA Tryz.func173 SI UD WJ (Nat.le_of_ble_eq_true rfl) (Nat.le_of_ble_eq_true rfl) kW (fun hwf W0 D0 E1 =>?_)
 simp only[BN,MU,bp,Nat.zero_add]
 clear hwf
 have n3:al (cv 1000000 bs) 3=none:=kr (by omega)
 have n33:al (cv 1000000 bs) 33=none:=kr (by omega)
 have h0:al (cv 1000000 bs) 1000000=some (.box (.agg [.mref 1000001])):=kq
 have h1:al (cv 1000000 bs) 1000001=some (.cz (dj bs) (ep 1000000 bs.length)):=kV
 rcases pW 1000000 bs x.ef with ⟨hg,hlk⟩ | ⟨i,hi,hg,hno,hlk⟩
 ·have hup:=aiO 1000000 33 bs x hg
  have R:=And.intro @n3 (And.intro @n33 (And.intro @h0 (And.intro @h1 (And.intro @hlk (And.intro @hup (And.intro @RJ (And.intro @RK (And.intro @ahQ (And.intro @eT (And.intro @gW (And.intro @eJ (And.intro @a6 @U))))))))))))
  repeat' ((first
   |(with_reducible refine .guard (fun hb =>?_) (fun hb =>?_) <;>try simp only[hb])
   |refine ab.aO (by decide +kernel) rfl fun K hK =>?_
   |(refine .aI [0,1,3,4,12] hK ?_;clear hK K)
   |(with_reducible refine .done (hK _ ?_);clear hK K)
   |refine ab.of rfl ?_
   |(with_reducible refine ar.aL (fun h =>?_) (fun h =>?_) <;>try simp only[h])) <;>try simp only[aQ,R,simprocAttr])
  all_goals clear R
  refine gv (os':=gN 1000000 33 bs (fV x)) (b:=true) rfl (fun n h =>?_) (fun n x h=>nF h) (Or.inr ⟨hg,rfl,rfl⟩)
  rw[nE] at h
  simp only[gN,al]
  by_cases e:n=33
  ·subst e;simp;rfl
  ·have:=kW n (by simpa[e] using h)
   rw[if_neg (show ¬ n=33 by omega),if_neg (show ¬ n=3 by omega),if_neg (show ¬ n=33 by omega)]
 ·have R:=And.intro @n3 (And.intro @h0 (And.intro @h1 (And.intro @hlk (And.intro @eT (And.intro @gW (And.intro @eJ (And.intro @a6 @U)))))))
  repeat' ((first
   |(with_reducible refine .guard (fun hb =>?_) (fun hb =>?_) <;>try simp only[hb])
   |refine ab.aO (by decide +kernel) rfl fun K hK =>?_
   |(refine .aI [0,1,3,4,12] hK ?_;clear hK K)
   |(with_reducible refine .done (hK _ ?_);clear hK K)
   |refine ab.of rfl ?_
   |(with_reducible refine ar.aL (fun h =>?_) (fun h =>?_) <;>try simp only[h])) <;>try simp only[aQ,R,simprocAttr])
  all_goals clear R
  exact gv (b:=false) rfl lT (fun n x h=>fx h) (Or.inl ⟨by rw[hg];simp,rfl,rfl⟩)
theorem a8.xJ{K:af→Prop}{f:FuncId}{x:ak}{avs:List I}{a1 a2:Option (List I)}{dst:Option Nat}{rest:List aB}{ts:List (Nat×I)}{z:ai}{bs:List aU}(hc:cF Tryz.prog f [.ptr 1000000 [],enc x] (cv 1000000 bs) (Kg 1000000 33 bs x))(hav:avs=[.ptr 1000000 [],enc x])
  (h1:dF bs x.ef≠none→a8 Tryz.prog iN false K (az rest ((av ts (cv 1000000 bs++((3,z)::cv 1000000 bs))).aJ dst (.bool false))))
  (h2:dF bs x.ef=none→a8 Tryz.prog iN false K (az rest ((av ts (gN 1000000 33 bs (fV x)++((3,z)::cv 1000000 bs))).aJ dst (.bool true)))) :
  a8 Tryz.prog iN false K (.call f avs a1 a2 dst rest (av ts ((3,z)::cv 1000000 bs))):=by
 subst hav
 refine .bS false [] (cv 1000000 bs) [.ptr 1000000 [],enc x] _ rfl hc ⟨fun m y hy =>?_,fun m m' _ _ h=>h⟩ ⟨.inl ⟨?_,?_,rfl⟩,.inl ⟨(hX _ _).symm,bh _ _,dq _⟩,trivial⟩ ?_ ?_
 ·have hm:=kW (bs:=bs) m (by simp[au,hy])
  rw[ai.ma (ρ:=bD []) (fun n=>rfl)]
  refine ⟨?_,fx hy⟩
  show al ((3,z)::cv 1000000 bs) m=some y
  have h3:¬ m=3:=by omega
  simp only[al,if_neg h3];exact hy
 ·simp only[I.aR,bD]
 ·simp only[I.only];simp[au,kq]
 ·rintro r os' (⟨_,rfl,rfl⟩ | ⟨_,rfl,rfl⟩)
  ·exact ⟨fun m y hy=>⟨(fx hy).1,(fx hy).2,fun h=>by cases h⟩,fun m m' _ _ h=>h,fun m hm=>hm,(fun m a b=>by rw[a] at b;cases b),rfl,(fun h=>by cases h)⟩
  ·refine ⟨fun m y hy=>⟨(nF hy).1,(nF hy).2,fun h=>by cases h⟩,fun m m' _ _ h=>h,fun m hm=>by rw[nE,hm,Bool.or_true],fun m a b =>?_,rfl,fun h=>by cases h⟩
   rw[nE,b,Bool.or_false,decide_eq_true_eq] at a
   subst a
   have h3:¬ (33:Nat)=3:=by omega
   refine ⟨?_,by simp[bD]⟩
   show al ((3,z)::cv 1000000 bs) 33=none
   simp only[al,if_neg h3];exact kr (by omega)
 ·rintro r os' (⟨hg,rfl,rfl⟩ | ⟨hg,rfl,rfl⟩)
  ·rw[uE];exact h1 hg
  ·rw[uE];exact h2 hg
theorem pt{os os0:List (Nat×ai)} : ∀ n,au os n=true→al (os++os0) n=al os n:=fun n h=>by
 rw[kv]
 cases hx:al os n with
 |none=>simp[au,hx] at h
 |some y=>rfl
theorem PY(bs:List aU)(x:ak)(hk:x.kind=1):cF Tryz.prog 172 [.ptr 1000000 [],enc x] (cv 1000000 bs) (ja 1000000 33 bs x):=by
 refine cF.bA Tryz.func172 SH UC WI (Nat.le_of_ble_eq_true rfl) (Nat.le_of_ble_eq_true rfl) kW (fun hwf W0 D0 E1 =>?_)
 simp only[BM,MT,bp,Nat.zero_add]
 clear hwf
 have n3:al (cv 1000000 bs) 3=none:=kr (by omega)
 have h0:al (cv 1000000 bs) 1000000=some (.box (.agg [.mref 1000001])):=kq
 have h1:al (cv 1000000 bs) 1000001=some (.cz (dj bs) (ep 1000000 bs.length)):=kV
 by_cases hd0:x.e7≤0
 ·have hc:decide (0<x.e7)=false:=by simp;omega
  have hdam:iJ bs x=true:=by simp[iJ,hd0]
  have R:=And.intro @n3 (And.intro @h0 (And.intro @h1 (And.intro @hc (And.intro @eT (And.intro @gW (And.intro @eJ (And.intro @a6 @U)))))))
  repeat' ((first
   |(with_reducible refine .guard (fun hb =>?_) (fun hb =>?_) <;>try simp only[hb])
   |refine ab.aO (by decide +kernel) rfl fun K hK =>?_
   |(refine .aI [0,1,3,4,5,8,41] hK ?_;clear hK K)
   |(with_reducible refine .done (hK _ ?_);clear hK K)
   |refine ab.of rfl ?_
   |(with_reducible refine ar.aL (fun h =>?_) (fun h =>?_) <;>try simp only[h])) <;>try simp only[aQ,R,simprocAttr])
  all_goals clear R
  refine a8.xJ (sk bs x) rfl (fun hg =>?_) (fun hg =>?_)
  ·try simp only[U,simprocAttr]
   refine .done (hK _ ?_);clear hK K
   refine ab.ret ?_
   simp only[eY]
   exact gv (b:=false) rfl pt (fun n x h=>fx h) (jU (by simp[eO,hk,hg]))
  ·try simp only[U,simprocAttr]
   refine .done (hK _ ?_);clear hK K
   refine ab.ret ?_
   simp only[eY]
   exact gv (b:=true) rfl pt (fun n x h=>nF h) (tv (.inl hk) hg hdam)
 have hc:decide (0<x.e7)=true:=by simp;omega
 rcases pW 1000000 bs x.e7 with ⟨hg,hlk⟩ | ⟨i,hi,hg,hno,hlk⟩
 ·have hdam:iJ bs x=false:=by simp[iJ,hg];omega
  have R:=And.intro @n3 (And.intro @h0 (And.intro @h1 (And.intro @hc (And.intro @hlk (And.intro @eT (And.intro @gW (And.intro @eJ (And.intro @a6 @U))))))))
  repeat' ((first
   |(with_reducible refine .guard (fun hb =>?_) (fun hb =>?_) <;>try simp only[hb])
   |refine ab.aO (by decide +kernel) rfl fun K hK =>?_
   |(refine .aI [0,1,3,4,5,8,41] hK ?_;clear hK K)
   |(with_reducible refine .done (hK _ ?_);clear hK K)
   |refine ab.of rfl ?_
   |(with_reducible refine ar.aL (fun h =>?_) (fun h =>?_) <;>try simp only[h])) <;>try simp only[aQ,R,simprocAttr])
  all_goals clear R
  exact gv (b:=false) rfl lT (fun n x h=>fx h) (jU (by simp[eO,hk,hdam]))
 ·have hl:=mH (B:=1000000) hi
  have hr:=lS (B:=1000000) hi
  obtain ⟨nl,hnl⟩:∃ nl,nl=1000000+2+2*i:=⟨_,rfl⟩
  obtain ⟨nr,hnr⟩:∃ nr,nr=1000000+3+2*i:=⟨_,rfl⟩
  rw[←hnl] at hl hlk
  rw[←hnr] at hl hr
  have e1:(nl=3)=False:=by simp;omega
  have e2:(nr=3)=False:=by simp;omega
  cases hs:(bs[i]).dA != x.dA with
  |true =>
   have hdam:iJ bs x=false:=by simp at hs;simp[iJ,hg,hs];omega
   have R:=And.intro @n3 (And.intro @h0 (And.intro @h1 (And.intro @hl (And.intro @hr (And.intro @e1 (And.intro @e2 (And.intro @hc (And.intro @hlk (And.intro @hs (And.intro @mF (And.intro @eT (And.intro @gW (And.intro @eJ (And.intro @a6 @U))))))))))))))
   repeat' ((first
    |(with_reducible refine .guard (fun hb =>?_) (fun hb =>?_) <;>try simp only[hb])
    |refine ab.aO (by decide +kernel) rfl fun K hK =>?_
    |refine .flat _ (jr _) rfl ?_
    |(refine .aI [0,1,3,4,5,8,41] hK ?_;clear hK K)
    |(with_reducible refine .done (hK _ ?_);clear hK K)
    |refine ab.of rfl ?_
    |(with_reducible refine ar.aL (fun h =>?_) (fun h =>?_) <;>try simp only[h])) <;>try simp only[aQ,R,simprocAttr])
   all_goals clear R
   exact gv (b:=false) rfl lT (fun n x h=>fx h) (jU (by simp[eO,hk,hdam]))
  |false =>
   cases hdd:decide (0≤(bs[i]).dU) with
   |false =>
    have hdam:iJ bs x=true:=by simp at hs hdd;simp[iJ,hg,hs];omega
    have R:=And.intro @n3 (And.intro @h0 (And.intro @h1 (And.intro @hl (And.intro @hr (And.intro @e1 (And.intro @e2 (And.intro @hc (And.intro @hlk (And.intro @hs (And.intro @hdd (And.intro @mF (And.intro @eT (And.intro @gW (And.intro @eJ (And.intro @a6 @U)))))))))))))))
    repeat' ((first
     |(with_reducible refine .guard (fun hb =>?_) (fun hb =>?_) <;>try simp only[hb])
     |refine ab.aO (by decide +kernel) rfl fun K hK =>?_
     |refine .flat _ (jr _) rfl ?_
     |(refine .aI [0,1,3,4,5,8,41] hK ?_;clear hK K)
     |(with_reducible refine .done (hK _ ?_);clear hK K)
     |refine ab.of rfl ?_
     |(with_reducible refine ar.aL (fun h =>?_) (fun h =>?_) <;>try simp only[h])) <;>try simp only[aQ,R,simprocAttr])
    all_goals clear R
    refine a8.xJ (sk bs x) rfl (fun hg =>?_) (fun hg =>?_)
    ·try simp only[U,simprocAttr]
     refine .done (hK _ ?_);clear hK K
     refine ab.ret ?_
     simp only[eY]
     exact gv (b:=false) rfl pt (fun n x h=>fx h) (jU (by simp[eO,hk,hg]))
    ·try simp only[U,simprocAttr]
     refine .done (hK _ ?_);clear hK K
     refine ab.ret ?_
     simp only[eY]
     exact gv (b:=true) rfl pt (fun n x h=>nF h) (tv (.inl hk) hg hdam)
   |true =>
    cases hdy:decide ((bs[i]).dU<x.day) with
    |true =>
     have hdam:iJ bs x=false:=by simp at hs hdd hdy;simp[iJ,hg,hs];omega
     have R:=And.intro @n3 (And.intro @h0 (And.intro @h1 (And.intro @hl (And.intro @hr (And.intro @e1 (And.intro @e2 (And.intro @hc (And.intro @hlk (And.intro @hs (And.intro @hdd (And.intro @hdy (And.intro @mF (And.intro @eT (And.intro @gW (And.intro @eJ (And.intro @a6 @U))))))))))))))))
     repeat' ((first
      |(with_reducible refine .guard (fun hb =>?_) (fun hb =>?_) <;>try simp only[hb])
      |refine ab.aO (by decide +kernel) rfl fun K hK =>?_
      |refine .flat _ (jr _) rfl ?_
      |(refine .aI [0,1,3,4,5,8,41] hK ?_;clear hK K)
      |(with_reducible refine .done (hK _ ?_);clear hK K)
      |refine ab.of rfl ?_
      |(with_reducible refine ar.aL (fun h =>?_) (fun h =>?_) <;>try simp only[h])) <;>try simp only[aQ,R,simprocAttr])
     all_goals clear R
     exact gv (b:=false) rfl lT (fun n x h=>fx h) (jU (by simp[eO,hk,hdam]))
    |false =>
     have hdam:iJ bs x=true:=by simp at hs hdd hdy;simp[iJ,hg,hs];omega
     have R:=And.intro @n3 (And.intro @h0 (And.intro @h1 (And.intro @hl (And.intro @hr (And.intro @e1 (And.intro @e2 (And.intro @hc (And.intro @hlk (And.intro @hs (And.intro @hdd (And.intro @hdy (And.intro @mF (And.intro @eT (And.intro @gW (And.intro @eJ (And.intro @a6 @U))))))))))))))))
     repeat' ((first
      |(with_reducible refine .guard (fun hb =>?_) (fun hb =>?_) <;>try simp only[hb])
      |refine ab.aO (by decide +kernel) rfl fun K hK =>?_
      |refine .flat _ (jr _) rfl ?_
      |(refine .aI [0,1,3,4,5,8,41] hK ?_;clear hK K)
      |(with_reducible refine .done (hK _ ?_);clear hK K)
      |refine ab.of rfl ?_
      |(with_reducible refine ar.aL (fun h =>?_) (fun h =>?_) <;>try simp only[h])) <;>try simp only[aQ,R,simprocAttr])
     all_goals clear R
     refine a8.xJ (sk bs x) rfl (fun hg =>?_) (fun hg =>?_)
     ·try simp only[U,simprocAttr]
      refine .done (hK _ ?_);clear hK K
      refine ab.ret ?_
      simp only[eY]
      exact gv (b:=false) rfl pt (fun n x h=>fx h) (jU (by simp[eO,hk,hg]))
     ·try simp only[U,simprocAttr]
      refine .done (hK _ ?_);clear hK K
      refine ab.ret ?_
      simp only[eY]
      exact gv (b:=true) rfl pt (fun n x h=>nF h) (tv (.inl hk) hg hdam)
def kO:I:=.cT [.int .i64 1,.int .i64 2,.int .i64 3,.int .i64 4,.int .i64 5,.int .i64 6] [.func 172 [],.func 173 [],.func 174 [],.func 175 [],.func 176 [],.func 177 []]
theorem aiH:gp (.i .i64) (.int .i64 1) (.func 172 []) [] []=some ([.int .i64 1],[.func 172 []]):=by simp[gp,fc,cu,I.cj]
theorem aiI:gp (.i .i64) (.int .i64 2) (.func 173 []) [.int .i64 1] [.func 172 []]=some ([.int .i64 1,.int .i64 2],[.func 172 [],.func 173 []]):=by simp[gp,fc,cu,I.cj]
theorem aiJ:gp (.i .i64) (.int .i64 3) (.func 174 []) [.int .i64 1,.int .i64 2] [.func 172 [],.func 173 []]=some ([.int .i64 1,.int .i64 2,.int .i64 3],[.func 172 [],.func 173 [],.func 174 []]):=by simp[gp,fc,cu,I.cj]
theorem aiK:gp (.i .i64) (.int .i64 4) (.func 175 []) [.int .i64 1,.int .i64 2,.int .i64 3] [.func 172 [],.func 173 [],.func 174 []]=some ([.int .i64 1,.int .i64 2,.int .i64 3,.int .i64 4],[.func 172 [],.func 173 [],.func 174 [],.func 175 []]):=by simp[gp,fc,cu,I.cj]
theorem aiL:gp (.i .i64) (.int .i64 5) (.func 176 []) [.int .i64 1,.int .i64 2,.int .i64 3,.int .i64 4] [.func 172 [],.func 173 [],.func 174 [],.func 175 []]=some ([.int .i64 1,.int .i64 2,.int .i64 3,.int .i64 4,.int .i64 5],[.func 172 [],.func 173 [],.func 174 [],.func 175 [],.func 176 []]):=by simp[gp,fc,cu,I.cj]
theorem aiM:gp (.i .i64) (.int .i64 6) (.func 177 []) [.int .i64 1,.int .i64 2,.int .i64 3,.int .i64 4,.int .i64 5] [.func 172 [],.func 173 [],.func 174 [],.func 175 [],.func 176 []]=some ([.int .i64 1,.int .i64 2,.int .i64 3,.int .i64 4,.int .i64 5,.int .i64 6],[.func 172 [],.func 173 [],.func 174 [],.func 175 [],.func 176 [],.func 177 []]):=by simp[gp,fc,cu,I.cj]
theorem z1:aA Tryz.prog 139 [] kO:=by
 refine aA.bA Tryz.func139 Sj Ue Wj (Nat.le_of_ble_eq_true rfl) (fun hwf W0 D0 E1 =>?_)
 simp only[Bn,Mu,bp]
 refine .ao (by decide +kernel) fun K hK =>?_
 simp only[Fs,U,simprocAttr]
 refine .done (hK _ ?_);clear hK K
 refine .ao (by decide +kernel) fun K hK =>?_
 simp only[Ft,U,simprocAttr]
 try simp only[eJ,aiH,aiI,aiJ,aiK,aiL,aiM,U,simprocAttr]
 refine .done (hK _ ?_);clear hK K
 refine ab.ret ?_
 simp only[U,simprocAttr]
 simp[kO,br,av,ct,dL,fJ,I.bX,I.bB,lH,nX];rfl
def ea(bs:List aU):List (Nat×ai):=(43,.box (.agg [.mref 41]))::(41,.cz (dj bs) (ep 2000 bs.length))::eX 2000 0 bs
def nC(bs:List aU)(b:aU):List (Nat×ai):=(41,.cz (dj (bs++[b])) (ep 2000 bs.length++[.ptr (2002+2*bs.length) []]))::(2002+2*bs.length,.box (eA b (.nils 6)))::ea bs
def gH(n:Nat):List (Nat×Nat):=(33,2002+2*n)::(1000000,43)::(1000001,41)::(List.range' 0 200).map fun j=>(1000002+j,2002+j)
theorem Of(m:Nat):∀ k a,bD ((List.range' a k).map fun j=>(1000002+j,2002+j)) m=if 1000002+a≤m∧m<1000002+a+k then m-998000 else m
 |0,a=>by
  rw[if_neg (by omega)];rfl
 |k+1,a=>by
  rw[List.range'_succ,List.map_cons,bD,Of m k (a+1)]
  by_cases h:m=1000002+a
  ·rw[if_pos h,if_pos (by omega)];omega
  ·rw[if_neg h]
   by_cases h2:1000002+(a+1)≤m∧m<1000002+(a+1)+k
   ·rw[if_pos h2,if_pos (by omega)]
   ·rw[if_neg h2,if_neg (by omega)]
theorem mc(n m:Nat):bD (gH n) m=if m=33 then 2002+2*n else if m=1000000 then 43 else if m=1000001 then 41 else if 1000002≤m∧m<1000202 then m-998000 else m:=by
 simp only[gH,bD,Of]
theorem Oe{n i:Nat}(h:i≤80):bD (gH n) (1000000+2+2*i)=2000+2+2*i:=by
 rw[mc,if_neg (by omega),if_neg (by omega),if_neg (by omega),if_pos (by omega)];omega
theorem ak4{n i:Nat}(h:i≤80):bD (gH n) (1000000+3+2*i)=2000+3+2*i:=by
 rw[mc,if_neg (by omega),if_neg (by omega),if_neg (by omega),if_pos (by omega)];omega
theorem Ob(n:Nat):bD (gH n) 1000000=43:=by rw[mc];rfl
theorem Oc(n:Nat):bD (gH n) 1000001=41:=by rw[mc];rfl
theorem Od(n:Nat):bD (gH n) 33=2002+2*n:=by rw[mc];rfl
theorem zg(ρ:List (Nat×Nat))(k:Nat)(v:ai)(os:List (Nat×ai)):dJ ρ ((k,v)::os)=(bD ρ k,v.aR (bD ρ))::dJ ρ os:=rfl
theorem N5(n:Nat):∀ (bs:List aU) (i:Nat),i+bs.length≤80→dJ (gH n) (eX 1000000 i bs)=eX 2000 i bs
 | [],_,_=>rfl
 |b::bs,i,h=>by
  simp only[List.length_cons] at h
  have ih:=N5 n bs (i+1) (by omega)
  simp only[eX,zg,ih,Oe (n:=n) (i:=i) (by omega),ak4 (n:=n) (i:=i) (by omega),ai.aR,gu,eA,I.aR,I.cX]
theorem N7(n:Nat){k:Nat}(h:k≤80):I.cX (bD (gH n)) (ep 1000000 k)=ep 2000 k:=by
 simp only[ep,oT,List.map_map]
 refine List.map_congr_left fun i hi =>?_
 have:=List.mem_range.1 hi
 simp only[Function.comp,I.aR,Oe (n:=n) (i:=i) (by omega)]
theorem N6(ρ:Nat→Nat)(bs:List aU):I.cX ρ (dj bs)=dj bs:=by
 simp only[dj,gu]
theorem uF(n:Nat){bs:List aU}(h:bs.length≤80):dJ (gH n) (cv 1000000 bs)=ea bs:=by
 have h1:=N5 n bs 0 (by omega)
 simp only[cv,ea,zg,h1,ai.aR,I.aR,I.cX,N6,N7 n h,Ob,Oc,Nat.reduceAdd]
theorem akS(ρ:Nat→Nat)(xs ys:List I):I.cX ρ (xs++ys)=I.cX ρ xs++I.cX ρ ys:=by simp only[oT,List.map_append]
theorem akQ{bs:List aU}{b:aU}(h:bs.length≤80):dJ (gH bs.length) (gN 1000000 33 bs b)=nC bs b:=by
 have h1:=uF bs.length h
 simp only[gN,nC,zg,h1,ai.aR,I.aR,I.cX,N6,akS,N7 bs.length h,Oc,Od,eA,Nat.reduceAdd]
def tZ(n m:Nat):Prop:=m=33∨(1000000≤m∧m<1000002+2*n)
theorem uJ{n k m m':Nat}(hk:k≤80)(hm:1000000≤m∧m<1000002+2*k)(hm':1000000≤m'∧m'<1000002+2*k)(h:bD (gH n) m=bD (gH n) m'):m=m':=by
 rw[mc,mc] at h
 rw[if_neg (by omega),if_neg (show ¬ m'=33 by omega)] at h
 (repeat' split at h) <;>omega
theorem ak3{n m m':Nat}(hk:n≤80)(hm:tZ n m)(hm':tZ n m')(h:bD (gH n) m=bD (gH n) m'):m=m':=by
 simp only[tZ] at hm hm'
 rw[mc,mc] at h
 (repeat' split at h) <;>omega
theorem ain{ρ:List (Nat×Nat)}{os:List (Nat×ai)}{m:Nat}{y:ai}(inj:∀ m',au os m'=true→bD ρ m'=bD ρ m→m'=m)(h:al os m=some y):al (dJ ρ os) (bD ρ m)=some (y.aR (bD ρ)):=by
 have h1:=rD ρ os [] (bD ρ m)
 rw[List.append_nil] at h1
 rw[h1]
 cases hp:pre ρ os (bD ρ m) with
 |none=>exact absurd rfl (yZ hp (by simp[au,h]))
 |some m' =>
  obtain ⟨k1,k2⟩:=l9 hp
  have:=inj m' k1 k2
  subst this
  simp only[h,Option.map_some]
theorem xK{bs:List aU}{n:Nat} : au (ea bs) n=decide (n=43∨n=41∨(2002≤n∧n<2002+2*bs.length)):=by
 have h2:au (eX 2000 0 bs) n=decide (2002≤n∧n<2002+2*bs.length):=by
  by_cases h1:n<2002
  ·simp only[au,tG 2000 bs 0 n (by omega)];simp;omega
  by_cases h3:2002+2*bs.length≤n
  ·simp only[au,tE 2000 bs 0 n (by omega)];simp;omega
  ·rcases tY 2000 n bs.length with h | h | h | ⟨k,hk,h⟩ | ⟨k,hk,h⟩ | h
   ·omega
   ·omega
   ·omega
   ·have:=tF 2000 bs 0 k hk
    rw[Nat.zero_add] at this
    rw[h];simp only[au,this];simp;omega
   ·have:=tH 2000 bs 0 k hk
    rw[Nat.zero_add] at this
    rw[h];simp only[au,this];simp;omega
   ·omega
 simp only[au,ea,al] at h2 ⊢
 by_cases h3:n=43
 ·simp[h3]
 by_cases h4:n=41
 ·simp[h4]
 simp only[h3,h4,if_false,h2,false_or]
theorem cF.post{P:Program}{f:FuncId}{args:List I}{os:List (Nat×ai)}{post post':cR}(h:cF P f args os post)(hp:∀ r os',post r os'→post' r os'):cF P f args os post' :=
 ⟨h.1,fun w D E vs hs hD ho hv=>(h.2 w D E vs hs hD ho hv).mono fun _ _ ⟨v,D',E',r,os',k1,k2,k⟩=>⟨v,D',E',r,os',k1,hp _ _ k2,k⟩⟩
def nw:List I:=[.int .i64 1,.int .i64 2,.int .i64 3,.int .i64 4,.int .i64 5,.int .i64 6]
def nx:List I:=[.func 172 [],.func 173 [],.func 174 [],.func 175 [],.func 176 [],.func 177 []]
theorem ahU{x:ak}(h:gS x=true):0≤x.kind∧x.kind≤6∧(x.kind=2→x.e7=0):=by
 simp only[gS,Bool.and_eq_true,decide_eq_true_eq] at h
 obtain ⟨h1,h2,_⟩:=h
 have h3:x.kind=2→x.e7=0:=fun hk=>by rw[h2];simp[jQ,hk]
 simp only[pM] at h1
 refine ⟨?_,?_,h3⟩
 all_goals
  split at h1
  ·omega
  ·simp only[Bool.and_eq_true] at h1
   obtain ⟨-,h1⟩:=h1
   repeat' split at h1
   all_goals first | omega | (simp only[decide_eq_true_eq] at h1;omega)
theorem vW{bs:List aU}{x:ak}(hok:gS x=true)(hk0:x.kind≠0)(hd:(bs.map (·.no)).Nodup)(hlen:∀ b∈bs,b.cm.length≤1000) :
  ∃ f,gC (.i .i64) .dh (.int .i64 x.kind) nw nx=some (.func f [],true)∧[172,173,174,175,176,177].contains f=true∧cF Tryz.prog f [.ptr 1000000 [],enc x] (cv 1000000 bs) (ja 1000000 33 bs x):=by
 obtain ⟨h1,h2,h3⟩:=ahU hok
 have h4:x.kind=1∨x.kind=2∨x.kind=3∨x.kind=4∨x.kind=5∨x.kind=6:=by omega
 rcases h4 with h | h | h | h | h | h
 ·exact ⟨172,by rw[h];simp[gC,fc,cu,nw,nx],rfl,PY bs x h⟩
 ·refine ⟨173,by rw[h];simp[gC,fc,cu,nw,nx],rfl,cF.post (sk bs x) ?_⟩
  have hdam:iJ bs x=true:=by simp[iJ,h3 h]
  rintro r os' (⟨k1,rfl,rfl⟩ | ⟨k1,rfl,rfl⟩)
  ·exact jU (by simp[eO,h,k1])
  ·exact tv (.inr h) k1 hdam
 ·exact ⟨174,by rw[h];simp[gC,fc,cu,nw,nx],rfl,PZ bs x 33 h hd⟩
 ·exact ⟨175,by rw[h];simp[gC,fc,cu,nw,nx],rfl,P0 bs x 33 h hd hlen⟩
 ·exact ⟨176,by rw[h];simp[gC,fc,cu,nw,nx],rfl,P1 bs x 33 h hd⟩
 ·exact ⟨177,by rw[h];simp[gC,fc,cu,nw,nx],rfl,P2 bs x 33 h hd⟩
theorem vq{bs bs':List aU}{x:ak}(hk:¬ (x.kind=1∨x.kind=2))(h:eO fo bs x=some bs'):bs'.length=bs.length:=by
 simp only[eO,if_neg hk] at h
 split at h
 ·cases h
 ·simp only[Option.map_eq_some_iff] at h
  obtain ⟨b',_,rfl⟩:=h
  simp[mf]
theorem cG.vW{hs:List FuncId}{K:af→Prop}{f:FuncId}{x:ak}{avs:List I}{a1 a2:Option (List I)}{dst:Option Nat}{rest:List aB}{ts:List (Nat×I)}{z y:ai}{bs:List aU}(hlen:bs.length≤60)(hf:hs.contains f=true)
  (hc:cF Tryz.prog f [.ptr 1000000 [],enc x] (cv 1000000 bs) (ja 1000000 33 bs x)) (hav:avs=[.ptr 43 [],enc x])
  (h1:eO fo bs x=none→cG Tryz.prog hs K (az rest ((av ts (ea bs++((900,z)::(ea bs++[(3,y)])))).aJ dst (.bool false))))
  (h2:∀ bs',eO fo bs x=some bs'→¬ (x.kind=1∨x.kind=2)→cG Tryz.prog hs K (az rest ((av ts (ea bs'++((900,z)::(ea bs++[(3,y)])))).aJ dst (.bool true))))
  (h3:eO fo bs x=some (bs++[fV x])→cG Tryz.prog hs K (az rest ((av ts (nC bs (fV x)++((900,z)::(ea bs++[(3,y)])))).aJ dst (.bool true)))) :
  cG Tryz.prog hs K (.call f avs a1 a2 dst rest (av ts ((900,z)::(ea bs++[(3,y)])))):=by
 subst hav
 have nm:∀ {bs:List aU} {m},au (cv 1000000 bs) m=true→1000000≤m∧m<1000002+2*bs.length:=fun {bs m} h=>by
  rw[nG] at h;simpa using h
 have hlow:∀ {bs':List aU},bs'.length≤60→∀ {m y},al (cv 1000000 bs') m=some y→al (ea bs') (bD (gH bs.length) m)=some (y.aR (bD (gH bs.length))):=fun {bs'} hl {m y} hy=>by
  rw[←uF bs.length (bs:=bs') (by omega)]
  exact ain (fun m' hm' he=>uJ (by omega) (nm hm') (nm (by simp[au,hy])) he) hy
 refine .yC false (gH bs.length) (cv 1000000 bs) [.ptr 1000000 [],enc x] _ hf hc ⟨fun m y' hy =>?_,fun m m' h h' e=>uJ (n:=bs.length) (by omega) (nm h) (nm h') e⟩ ⟨.inl ⟨?_,?_,rfl⟩,.inl ⟨(hX _ _).symm,bh _ _,dq _⟩,trivial⟩ ?_ ?_
 ·have hm:=nm (bs:=bs) (m:=m) (by simp[au,hy])
  refine ⟨?_,fx hy⟩
  have h9:bD (gH bs.length) m≠900:=fun e=>by
   rw[mc] at e
   (repeat' split at e) <;>omega
  simp only[al,if_neg h9,kv,hlow hlen hy]
 ·simp only[I.aR,Ob]
 ·simp only[I.only];simp[au,kq]
 ·intro r os' hp
  simp only[ja] at hp
  split at hp
  ·obtain ⟨rfl,rfl⟩:=hp
   exact ⟨fun m y hy=>⟨(fx hy).1,(fx hy).2,fun h=>by cases h⟩,fun m m' h h' e=>uJ (n:=bs.length) (k:=bs.length) (by omega) (nm h) (nm h') e,fun m hm=>hm,(fun m a b=>by rw[a] at b;cases b),rfl,(fun h=>by cases h)⟩
  ·rename_i bs' hb
   obtain ⟨rfl,rfl⟩:=hp
   split
   ·rename_i hk
    have hbs:bs'=bs++[fV x]:=by
     simp only[eO,if_pos hk] at hb
     split at hb
     ·simpa[fo] using hb.symm
     ·cases hb
    subst hbs
    have hN:∀ {m},au (gN 1000000 33 bs (fV x)) m=true→tZ bs.length m:=fun {m} h=>by
     rw[nE] at h
     simp only[Bool.or_eq_true,decide_eq_true_eq] at h
     rcases h with h | h
     ·exact .inl h
     ·exact .inr (nm h)
    refine ⟨fun m y hy=>⟨(nF hy).1,(nF hy).2,fun h=>by cases h⟩,fun m m' h h' e=>ak3 (by omega) (hN h) (hN h') e,fun m hm =>?_,fun m a b =>?_,rfl,fun h=>by cases h⟩
    ·show au (gN 1000000 33 bs (fV x)) m=true
     rw[nE,hm,Bool.or_true]
    ·have a':au (gN 1000000 33 bs (fV x)) m=true:=a
     rw[nE,b,Bool.or_false,decide_eq_true_eq] at a'
     subst a'
     rw[Od]
     refine ⟨?_,by omega⟩
     have h9:¬ 2002+2*bs.length=900:=by omega
     have h3:¬ 2002+2*bs.length=3:=by omega
     have hno:al (ea bs) (2002+2*bs.length)=none:=by
      have:=xK (bs:=bs) (n:=2002+2*bs.length)
      rw[decide_eq_false (by omega)] at this
      simpa[au] using this
     simp only[al,if_neg h9,kv,hno,if_neg h3]
   ·rename_i hk
    have hl:=vq hk hb
    refine ⟨fun m y hy=>⟨(fx hy).1,(fx hy).2,fun h=>by cases h⟩,fun m m' h h' e=>uJ (n:=bs.length) (k:=bs'.length) (by omega) (nm h) (nm h') e,fun m hm =>?_,fun m a b =>?_,rfl,fun h=>by cases h⟩
    ·rw[nG] at hm ⊢;rw[hl];exact hm
    ·rw[nG] at a b;rw[hl] at a;rw[a] at b;cases b
 ·intro r os' hp
  simp only[ja] at hp
  split at hp
  ·rename_i hb
   obtain ⟨rfl,rfl⟩:=hp
   rw[uF bs.length (by omega)]
   exact h1 hb
  ·rename_i bs' hb
   obtain ⟨rfl,rfl⟩:=hp
   split
   ·rename_i hk
    have hbs:bs'=bs++[fV x]:=by
     simp only[eO,if_pos hk] at hb
     split at hb
     ·simpa[fo] using hb.symm
     ·cases hb
    subst hbs
    have e:dJ (gH bs.length) ((1000000+1,ai.cz (dj (bs++[fV x])) (ep 1000000 bs.length++[.ptr 33 []]))::(33,.box (eA (fV x) (.nils 6)))::cv 1000000 bs)=nC bs (fV x):=akQ (by omega)
    rw[e]
    exact h3 hb
   ·rename_i hk
    have hl:=vq hk hb
    rw[uF bs.length (by omega)]
    exact h2 bs' hb hk
def vk(a b c d e f:Int):aS 6 Int:=⟨[a,b,c,d,e,f],rfl⟩
def a5(a b c d e:Int):aS 5 Int:=⟨[a,b,c,d,e],rfl⟩
theorem Dr(a b c d e:Int):I.agg [.int .i64 a,.int .i64 b,.int .i64 c,.int .i64 d,.int .i64 e]=enc (a5 a b c d e):=rfl
theorem Ds(a b c d e f:Int):I.agg [.int .i64 a,.int .i64 b,.int .i64 c,.int .i64 d,.int .i64 e,.int .i64 f]=enc (vk a b c d e f):=rfl
theorem oY{zs:List I}{i:Nat}{v z:I}{rest:List (Nat×I)}(h:zs[i]?=some z)(h1:v.cj=true)(h2:v.size=z.size):dY zs ((i,v)::rest)=dY (zs.set i v) rest:=by
 simp only[dY,h];rw[if_pos ⟨h1,h2⟩]
theorem RH(o:Int)(m:aS 6 Int):dY [.int .i64 0,enc (vk 0 0 0 0 0 0)] [(0,.int .i64 o),(1,enc m)]=some [.int .i64 o,enc m]:=by
 have h2:((enc m:I).cj=true∧(enc m:I).size=(enc (vk 0 0 0 0 0 0)).size):=⟨dq _,by rw[fG,fG]⟩
 have h1:((I.int .i64 o).cj=true∧(I.int .i64 o).size=(I.int .i64 0).size):=⟨rfl,rfl⟩
 rw[oY rfl h1.1 h1.2,oY rfl h2.1 h2.2];rfl
theorem Y8(o:Int)(m:aS 6 Int):I.agg [.int .i64 o,enc m]=enc (⟨o,m⟩:b9):=rfl
theorem qR(w:aS 5 Int)(n:Int)(l:List b9):I.agg [enc w,.int .i64 n,enc l]=enc (⟨w,n,l⟩:bZ):=rfl
theorem Qm(x:ak):aA Tryz.prog 62 [enc x] (enc (if gS x then (0:Int) else 40)):=by
 refine aA.bA Tryz.func62 Ti Ve Xm (Nat.le_of_ble_eq_true rfl) (fun hwf W0 D0 E1 =>?_)
 simp only[Co,Ny,bp]
 have R:=And.intro @a6 @U
 repeat' ((first
  |(with_reducible refine .guard (fun hb =>?_) (fun hb =>?_) <;>try simp only[hb])
  |refine ab.aO (by decide +kernel) rfl fun K hK =>?_
  |refine .flat _ (u4 _) rfl ?_
  |(refine .aI [0,1,2,5] hK ?_;clear hK K)
  |(with_reducible refine .done (hK _ ?_);clear hK K)
  |refine ab.of rfl ?_
  |(with_reducible refine ar.aL (fun h =>?_) (fun h =>?_) <;>try simp only[h])) <;>try simp only[aQ,R,simprocAttr])
 all_goals clear R
 all_goals simp_all
theorem C5(a b:Item):decide (lG a b<0)=before a b:=by
 simp only[lG,l6,jv,before]
 repeat' split
 all_goals simp_all
 all_goals omega
theorem VQ(a b:Item):(lG a b==0)=decide (a=b):=by
 rw[Bool.eq_iff_iff,beq_iff_eq,decide_eq_true_eq,Item.wi]
 simp only[lG,l6,jv]
 repeat' split
 all_goals (simp_all <;>try omega)
theorem pB{a b c:Item}(h:before a b=true)(k:before b c=true):before a c=true:=by
 simp only[before,Bool.or_eq_true,decide_eq_true_eq,Bool.and_eq_true] at *
 omega
theorem pA(a:Item):before a a=false:=by simp[before]
theorem Rk{a b:Item}(h:before a b=false):before b a=true∨a=b:=by
 rw[Item.wi]
 simp only[before,Bool.or_eq_false_iff,Bool.and_eq_false_iff,decide_eq_false_iff_not,Bool.or_eq_true,decide_eq_true_eq,Bool.and_eq_true] at *
 omega
theorem C6(a b:Item):decide (0≤lG a b) = !before a b:=by
 rw[←C5]
 by_cases h:lG a b<0
 ·have:¬ 0≤lG a b:=by omega
  simp[h,this]
 ·have:0≤lG a b:=by omega
  simp[h,this]
theorem fb{l:List ak}{i:Nat}(h:i<l.length):l[i]=ae l i:=by simp[ae,h]
theorem jV{l:List ak}{i:Nat}(h:i<l.length)(A:af):iM A 17 (i:Int) (enc l)=some (.ref (enc (ae l i))):=by
 rw[fI 17 h rfl,fb h]
theorem gD{i n:Nat}(h:i<n):decide ((i:Int)<(n:Int))=true:=by simp;omega
theorem ib{i n:Nat}(h:¬ i<n):decide ((i:Int)<(n:Int))=false:=by simp;omega
theorem sc{n:Nat}(h:n≤9223372036854775807):IntKind.i64.wrap (n:Int)=(n:Int):=cA _ (by omega) (by omega)
theorem ft{i:Nat}(h:i<9223372036854775807):IntKind.i64.wrap ((i:Int)+1)=((i+1:Nat):Int):=by rw[cA _ (by omega) (by omega)];rfl
theorem amb{i:Nat}(h:0<i)(h2:i<9223372036854775807):IntKind.i64.wrap ((i:Int)-1)=((i-1:Nat):Int):=by rw[cA _ (by omega) (by omega)];omega
theorem kY{l:List ak}(h:dc l=true):l.length≤60:=by simp[dc] at h;exact h.1
theorem yJ{l:List ak}(h:dc l=true){i:Nat}(hi:i<l.length):kz l i=true:=by
 simp only[dc,Bool.and_eq_true,List.all_eq_true,List.mem_range] at h
 exact h.2 i hi
theorem Ll{l:List ak}{i:Nat}(hi:i<l.length)(h:kz l i=false):dc l=false:=by
 cases hk:dc l with
 |false=>rfl
 |true=>rw[yJ hk hi] at h;cases h
theorem Lm{l:List ak}(hl:l.length≤60)(h:∀ i,i<l.length→kz l i=true):dc l=true:=by
 simp only[dc,Bool.and_eq_true,List.all_eq_true,List.mem_range,decide_eq_true_eq]
 exact ⟨hl,h⟩
theorem yK{l:List ak}(h:dc l=true){i:Nat}(hi:i<l.length):gS (ae l i)=true:=by
 have:=yJ h hi
 simp only[kz,Bool.and_eq_true] at this
 exact this.1
theorem Lo{l:List ak}(h:dc l=true):∀ {j i:Nat},i<j→j<l.length→before (ae l i).aX (ae l j).aX=true
 |0,i,hij,_=>by omega
 |j+1,i,hij,hj=>by
  have h1:=yJ h hj
  simp only[kz,Bool.and_eq_true,Bool.or_eq_true,decide_eq_true_eq,Nat.add_sub_cancel] at h1
  have h2:=h1.2.resolve_left (by omega)
  by_cases e:i=j
  ·rw[e];exact h2
  ·exact pB (Lo h (j:=j) (by omega) (by omega)) h2
theorem KT{p:Nat→Prop}{i:Nat}(h:∀ j,j<i→p j)(hi:p i):∀ j,j<i+1→p j:=fun j hj=>by
 by_cases e:j=i
 ·exact e▸hi
 ·exact h j (by omega)
theorem sm(l:List ak):aA Tryz.prog 64 [enc l] (enc (if dc l then (0:Int) else 41)):=by
 refine aA.bA Tryz.func64 Tj Vf Xn (Nat.le_of_ble_eq_true rfl) (fun hwf W0 D0 E1 =>?_)
 simp only[Cp,Nz,bp]
 have hlen:l.length≤maxLen:=((kJ l).1 hwf.1).1
 simp only[maxLen] at hlen
 clear hwf
 refine .ao (by decide +kernel) fun K hK =>?_
 simp only[IV,U,simprocAttr]
 refine .done (hK _ ?_);clear hK K
 refine ab.seq (ab.seq ?_)
 refine .bl (by decide +kernel) fun K hK =>?_
 simp only[IW,U,simprocAttr]
 try simp only[bn,U,simprocAttr]
 refine .done (hK _ ?_);clear hK K;try simp only[aq]
 refine ab.bC ?_
 simp only[ar,U,simprocAttr]
 refine ⟨fun h =>?_,fun h =>?_⟩
 ·have R:=And.intro @a6 @U
  repeat' ((first
   |(with_reducible refine .guard (fun hb =>?_) (fun hb =>?_) <;>try simp only[hb])
   |refine ab.aO (by decide +kernel) rfl fun K hK =>?_
   |(refine .aI [0,2,3,4,7,8,9,10,11,33] hK ?_;clear hK K)
   |(with_reducible refine .done (hK _ ?_);clear hK K)
   |refine ab.of rfl ?_
   |(with_reducible refine ar.aL (fun h =>?_) (fun h =>?_) <;>try simp only[h])) <;>try simp only[aQ,R,simprocAttr])
  all_goals clear R
  have:¬ l.length≤60:=by simp at h;omega
  simp[dc,this]
 have hl6:l.length≤60:=by simp at h;omega
 refine ab.skip ?_;try simp only[aq,simprocAttr]
 refine ab.seq (ab.seq ?_)
 refine .bl (by decide +kernel) fun K hK =>?_
 simp only[IX,U,simprocAttr]
 try simp only[bn,U,simprocAttr]
 refine .done (hK _ ?_);clear hK K;try simp only[aq]
 refine ab.block (ab.loop (fun i:Nat=>av [(0,enc l),(8,enc l),(9,.int .i64 l.length),(10,.int .i64 i)] []) (fun i=>i≤l.length∧∀ j,j<i→kz l j=true) (fun i=>l.length-i) 0 ⟨by omega,fun k h=>by omega⟩ ?_ (fun i hi =>?_))
 ·refine aD.bM ?_ ?_ ?_ ?_ <;>simp[aV,bF,bE,a7,aY,I.only,bh]
 by_cases hlt:i<l.length
 ·have he:=jV hlt
  have hc:=gD hlt
  have hw:=ft (i:=i) (by omega)
  by_cases h0:i=0
  ·have hc0:decide ((0:Int)<(i:Int))=false:=by simp;omega
   have R:=And.intro @he (And.intro @hc (And.intro @hw (And.intro @hc0 (And.intro @C6 (And.intro @a6 @U)))))
   repeat' ((first
    |(with_reducible refine .guard (fun hb =>?_) (fun hb =>?_) <;>try simp only[hb])
    |refine ab.aO (by decide +kernel) rfl fun K hK =>?_
    |refine .flat _ (u4 _) rfl ?_
    |refine .flat _ (u5 _ _) rfl ?_
    |(refine .aI [0,2,3,4,7,8,9,10,11,33] hK ?_;clear hK K)
    |(with_reducible refine .done (hK _ ?_);clear hK K)
    |refine ab.of rfl ?_
    |(with_reducible refine ar.aL (fun h =>?_) (fun h =>?_) <;>try simp only[h])) <;>try simp only[aQ,R,simprocAttr])
   all_goals clear R
   all_goals first
    |(refine ⟨i+1,⟨by omega,KT hi.2 (by simp_all[kz])⟩,by omega,?_⟩;(refine aD.bM ?_ ?_ ?_ ?_ <;>simp[aV,bF,bE,a7,aY,I.only,bh]))
    |(rw[Ll hlt (by simp_all[kz])];rfl)
  ·have he2:=jV (l:=l) (i:=i-1) (by omega)
   have hw2:=amb (i:=i) (by omega) (by omega)
   have hc0:decide ((0:Int)<(i:Int))=true:=by simp;omega
   have R:=And.intro @he (And.intro @hc (And.intro @hw (And.intro @he2 (And.intro @hw2 (And.intro @hc0 (And.intro @C6 (And.intro @a6 @U)))))))
   repeat' ((first
    |(with_reducible refine .guard (fun hb =>?_) (fun hb =>?_) <;>try simp only[hb])
    |refine ab.aO (by decide +kernel) rfl fun K hK =>?_
    |refine .flat _ (u4 _) rfl ?_
    |refine .flat _ (u5 _ _) rfl ?_
    |(refine .aI [0,2,3,4,7,8,9,10,11,33] hK ?_;clear hK K)
    |(with_reducible refine .done (hK _ ?_);clear hK K)
    |refine ab.of rfl ?_
    |(with_reducible refine ar.aL (fun h =>?_) (fun h =>?_) <;>try simp only[h])) <;>try simp only[aQ,R,simprocAttr])
   all_goals clear R
   all_goals first
    |(refine ⟨i+1,⟨by omega,KT hi.2 (by simp_all[kz])⟩,by omega,?_⟩;(refine aD.bM ?_ ?_ ?_ ?_ <;>simp[aV,bF,bE,a7,aY,I.only,bh]))
    |(rw[Ll hlt (by simp_all[kz])];rfl)
 ·have hc:=ib hlt
  have R:=And.intro @hc (And.intro @a6 @U)
  repeat' ((first
   |(with_reducible refine .guard (fun hb =>?_) (fun hb =>?_) <;>try simp only[hb])
   |refine ab.aO (by decide +kernel) rfl fun K hK =>?_
   |(refine .aI [0,2,3,4,7,8,9,10,11,33] hK ?_;clear hK K)
   |(with_reducible refine .done (hK _ ?_);clear hK K)
   |refine ab.of rfl ?_
   |(with_reducible refine ar.aL (fun h =>?_) (fun h =>?_) <;>try simp only[h])) <;>try simp only[aQ,R,simprocAttr])
  all_goals clear R
  rw[Lm hl6 fun j hj=>hi.2 j (by omega)];rfl
theorem Kf{l:List ak}{a:Item}{i:Nat}(hi:i<l.length)(h:(ae l i).aX=a):jT l a=true:=by
 simp only[jT,List.any_eq_true,decide_eq_true_eq]
 exact ⟨ae l i,by rw[←fb hi];exact List.getElem_mem _,h⟩
def cB(k:Nat)(ws:List Int):List (Nat×ai):=[(k,.box (.agg (ws.map enc)))]
theorem oJ(p:Nat→Bool)(l:List Int):(I.agg (l.map enc)).only p=true:=by simp only[I.only];exact dN p l
theorem aio(l:List Int):(I.agg (l.map enc)).cP=true:=by simp only[I.cP];exact x7 l
theorem nY{ws:List Int} : ∀ m,au (cB 1000000 ws) m=true→1000000≤m:=fun m hm=>by rw[cW.1 hm];exact Nat.le_refl _
def kH(ws:List Int)(i j:Nat):List Int:=(ws.set i (ws.getD j 0)).set j (ws.getD i 0)
theorem O1{A B C:List Int}{x y:Int}{i j:Nat}(hi:A.length=i)(hj:A.length+1+B.length=j):kH (A++x::B++y::C) i j=A++y::B++x::C:=by
 subst hi hj
 have e1:(A++x::B++y::C).getD A.length 0=x:=by simp[List.getD_eq_getElem?_getD,List.append_assoc]
 have e2:(A++x::B++y::C).getD (A.length+1+B.length) 0=y:=by
  rw[List.getD_eq_getElem?_getD,List.getElem?_append_right (by simp;omega)]
  simp[]
  have:A.length+1+B.length-(A.length+(B.length+1))=0:=by omega
  rw[this];rfl
 simp only[kH,e1,e2]
 rw[List.append_assoc,List.set_append_right _ _ (Nat.le_refl _),Nat.sub_self,List.cons_append,List.set_cons_zero]
 rw[List.set_append_right _ _ (by omega)]
 have:A.length+1+B.length-A.length=(B.length)+1:=by omega
 rw[this,List.set_cons_succ,List.set_append_right _ _ (Nat.le_refl _),Nat.sub_self,List.set_cons_zero]
 simp
theorem jA{n i:Nat}(h:i<n)(fs:List I):lW 1000000 [] 1 0 n 1 (i:Int) (some fs)=some (.ptr 1000000 [i]):=by
 have:=xY (m:=1000000) (sz:=1) (lo:=0) (l:=n) (i:=i) (fs:=fs) h
 rwa [Nat.zero_add] at this
theorem ke(x y:Nat)(h:x+y<9223372036854775807):IntKind.i64.wrap ((x:Int)+(y:Int))=((x+y:Nat):Int):=by rw[cA _ (by omega) (by omega)];omega
theorem iT{x y:Nat}(h:y≤x)(hx:x<9223372036854775807):IntKind.i64.wrap ((x:Int)-(y:Int))=((x-y:Nat):Int):=by rw[cA _ (by omega) (by omega)];omega
def ka(p x y z q:List Int)(i:Nat):List Int:=p++(z.take i++x.drop i)++y++(x.take i++z.drop i)++q
theorem alO{p x y z q:List Int}{i a b:Nat}(hx:i<x.length)(hz:z.length=x.length)(ha:p.length=a)(hb:a+x.length+y.length=b):kH (ka p x y z q i) (a+i) (b+i)=ka p x y z q (i+1):=by
 have e1:ka p x y z q i=(p++z.take i)++x[i]::(x.drop (i+1)++y++x.take i)++z[i]::(z.drop (i+1)++q):=by
  simp only[ka]
  rw[List.drop_eq_getElem_cons hx,List.drop_eq_getElem_cons (l:=z) (by omega)]
  simp only[List.append_assoc,List.cons_append]
 have e2:ka p x y z q (i+1)=(p++z.take i)++z[i]::(x.drop (i+1)++y++x.take i)++x[i]::(z.drop (i+1)++q):=by
  simp only[ka]
  rw[List.take_succ_eq_append_getElem hx,List.take_succ_eq_append_getElem (l:=z) (by omega)]
  simp only[List.append_assoc,List.cons_append,List.nil_append]
 rw[e1,e2]
 refine O1 ?_ ?_
 ·simp;omega
 ·simp;omega
theorem alN(p x y z q:List Int)(i:Nat)(hz:z.length=x.length)(hi:i≤x.length):(ka p x y z q i).length=p.length+x.length+y.length+x.length+q.length:=by
 simp only[ka,List.length_append,List.length_take,List.length_drop];omega
def zm(ws:List Int):cR:=fun r os'=>r=.tuple []∧os'=cB 1000000 ws
theorem nV{ts:List (Nat×I)}{ws ws':List Int}{os:List (Nat×ai)}{post:cR}(hl:al os 1000000=some (.box (.agg (ws.map enc))))(he:ws=ws')(hp:post (.tuple []) (cB 1000000 ws')):lz [] post (av ts os):=by
 subst he
 exact ⟨cB 1000000 ws,[],kp hl (fun p=>oJ p _),trivial,hp⟩
theorem ve(p x y z q:List Int)(a b n k:Nat)(f:I)(hz:z.length=x.length)(ha:p.length=a)(hb:a+x.length+y.length=b)(hk:x.length=k)(hn:b+k≤n)(hN:n≤1000) :
  cF Tryz.prog 216 [.view 1000000 [] 1 0 n,enc (a:Int),enc (b:Int),enc (k:Int),f] (cB 1000000 (p++x++y++z++q)) (zm (p++z++y++x++q)):=by
 refine cF.bA Tryz.func216 S3 UZ W7 (Nat.le_of_ble_eq_true rfl) (Nat.le_of_ble_eq_true rfl) nY (fun hwf W0 D0 E1 =>?_)
 simp only[Ca,Nh,bp,Nat.zero_add,Nat.reduceAdd]
 clear hwf
 refine .ao (by decide +kernel) fun K hK =>?_
 simp only[Ii,U,simprocAttr]
 refine .done (hK _ ?_);clear hK K
 refine ab.block (ab.loop (fun i:Nat=>av [(0,.view 1000000 [] 1 0 n),(1,.int .i64 a),(2,.int .i64 b),(3,.int .i64 k),(10,.int .i64 i)] (cB 1000000 (ka p x y z q i))) (fun i=>i≤k) (fun i=>k-i) 0 (by omega) ?_ (fun i hi =>?_))
 ·have e:ka p x y z q 0=p++x++y++z++q:=by simp[ka]
  rw[e]
  simp only[cB]
  refine aD.bM ?_ ?_ ?_ ?_ <;>simp[aV,bF,bE,a7,au,aY,ct,I.only,ai.only,dN,gG]
 by_cases hlt:i<k
 ·have hc:=gD hlt
  have hw:=ft (i:=i) (by omega)
  have w1:=ke a i (by omega)
  have w2:=ke b i (by omega)
  have hst:=alO (p:=p) (q:=q) (i:=i) (by omega) hz ha hb
  have hl:=alN p x y z q i hz (by omega)
  simp only[cB]
  generalize ka p x y z q i=ws at hst hl
  have v1:=jA (n:=n) (i:=a+i) (by omega)
  have v2:=jA (n:=n) (i:=b+i) (by omega)
  have l1:=gZ (xs:=ws) (i:=a+i) (by omega)
  have l2:=gZ (xs:=ws) (i:=b+i) (by omega)
  have s1:=fun (A:af) v u rest=>n9 (A:=A) (n:=1000000) (xs:=ws) (i:=a+i) (by omega) v u rest
  obtain ⟨ws2,hws2⟩:∃ ws2,ws2=ws.set (a+i) (ws.getD (b+i) 0):=⟨_,rfl⟩
  have s2:=fun (A:af) v u rest=>n9 (A:=A) (n:=1000000) (xs:=ws2) (i:=b+i) (by rw[hws2];simp;omega) v u rest
  have l3:=gZ (xs:=ws2) (i:=b+i) (by rw[hws2];simp;omega)
  have R:=And.intro @hc (And.intro @hw (And.intro @w1 (And.intro @w2 (And.intro @v1 (And.intro @v2 (And.intro @l1 (And.intro @l2 (And.intro @s1 (And.intro @s2 (And.intro @l3 (And.intro @dp (And.intro @a6 @U))))))))))))
  repeat' ((first
   |(with_reducible refine .guard (fun hb =>?_) (fun hb =>?_) <;>try simp only[hb])
   |refine ab.aO (by decide +kernel) rfl fun K hK =>?_
   |(refine .aI [0,1,2,3,10,13] hK ?_;clear hK K)
   |(with_reducible refine .done (hK _ ?_);clear hK K)
   |refine ab.of rfl ?_
   |(with_reducible refine ar.aL (fun h =>?_) (fun h =>?_) <;>try simp only[h])) <;>try simp only[aQ,R,←hws2,simprocAttr])
  all_goals clear R
  refine ⟨i+1,by omega,by omega,?_⟩
  rw[←hst]
  simp only[kH,←hws2]
  generalize ws2.set _ _=ws3
  refine aD.bM ?_ ?_ ?_ ?_ <;>simp[aV,bF,bE,a7,au,aY,ct,I.only,ai.only,dN]
 ·have hc:=ib hlt
  have he:i=k:=by omega
  subst he
  have R:=And.intro @hc (And.intro @a6 @U)
  repeat' ((first
   |(with_reducible refine .guard (fun hb =>?_) (fun hb =>?_) <;>try simp only[hb])
   |refine ab.aO (by decide +kernel) rfl fun K hK =>?_
   |(refine .aI [0,1,2,3,10,13] hK ?_;clear hK K)
   |(with_reducible refine .done (hK _ ?_);clear hK K)
   |refine ab.of rfl ?_
   |(with_reducible refine ar.aL (fun h =>?_) (fun h =>?_) <;>try simp only[h])) <;>try simp only[aQ,R,simprocAttr])
  all_goals clear R
  rw[mb]
  refine nV rfl ?_ ⟨rfl,rfl⟩
  have h1:z.take i=z:=List.take_of_length_le (by omega)
  have h2:x.take i=x:=List.take_of_length_le (by omega)
  have h3:z.drop i=[]:=List.drop_eq_nil_of_le (by omega)
  have h4:x.drop i=[]:=List.drop_eq_nil_of_le (by omega)
  simp only[ka,h1,h2,h3,h4,List.append_nil]
end Go.Proofs.YtcldiigclhgafaaGreat
namespace Go.Proofs.YtcldiigclhgafaaGreat
open Go Go.Abs Go.Shelf
open Go.Abs.Enc (enc)
def ah8:Go.Shelf.Ren:=⟨fun | 189=>107 | 125=>148 | 257=>147 | 128=>188 | 129=>189 | 294=>179 | 295=>180 | 296=>181 | 297=>182 | 298=>183 | 299=>184 | 216=>185 | 300=>186 | 301=>187 | 328=>205 | 329=>206 | 330=>207 | 331=>208 | 332=>209 | 215=>194 | 343=>214 | n=>n,fun | 28=>29 | 3=>3 | 46=>193 | 0=>0 | 51=>217 | 53=>219 | 4=>4 | 183=>210 | 182=>209 | 131=>150 | 5=>5 | 9=>9 | 218=>230 | 222=>234 | 228=>236 | 229=>237 | n=>n,fun | n=>n⟩
theorem KD:Go.Proofs.Lays.n189 Tryz.prog ah8 := {
 mixed:=by kernel_rfl
 f125:=Tryz.func148.trans (congrArg some (by kernel_rfl))
 f128:=Tryz.func188.trans (congrArg some (by kernel_rfl))
 f129:=Tryz.func189.trans (congrArg some (by kernel_rfl))
 f189:=Tryz.func107.trans (congrArg some (by kernel_rfl))
 f215:=Tryz.func194.trans (congrArg some (by kernel_rfl))
 f216:=Tryz.func185.trans (congrArg some (by kernel_rfl))
 f257:=Tryz.func147.trans (congrArg some (by kernel_rfl))
 f294:=Tryz.func179.trans (congrArg some (by kernel_rfl))
 f295:=Tryz.func180.trans (congrArg some (by kernel_rfl))
 f296:=Tryz.func181.trans (congrArg some (by kernel_rfl))
 f297:=Tryz.func182.trans (congrArg some (by kernel_rfl))
 f298:=Tryz.func183.trans (congrArg some (by kernel_rfl))
 f299:=Tryz.func184.trans (congrArg some (by kernel_rfl))
 f300:=Tryz.func186.trans (congrArg some (by kernel_rfl))
 f301:=Tryz.func187.trans (congrArg some (by kernel_rfl))
 f328:=Tryz.func205.trans (congrArg some (by kernel_rfl))
 f329:=Tryz.func206.trans (congrArg some (by kernel_rfl))
 f330:=Tryz.func207.trans (congrArg some (by kernel_rfl))
 f331:=Tryz.func208.trans (congrArg some (by kernel_rfl))
 f332:=Tryz.func209.trans (congrArg some (by kernel_rfl))
 f343:=Tryz.func214.trans (congrArg some (by kernel_rfl))
 t0:=Tryz.underlying0
 a0:=Tryz.isAgg0
 z0:=Tryz.sizeOf0
 v0:=Tryz.zeroValue0
 t3:=Tryz.underlying3
 a3:=Tryz.isAgg3
 z3:=Tryz.sizeOf3
 v3:=Tryz.zeroValue3
 t4:=Tryz.underlying4
 a4:=Tryz.isAgg4
 z4:=Tryz.sizeOf4
 v4:=Tryz.zeroValue4
 t5:=Tryz.underlying5
 a5:=Tryz.isAgg5
 z5:=Tryz.sizeOf5
 v5:=Tryz.zeroValue5
 t9:=Tryz.underlying9
 a9:=Tryz.isAgg9
 z9:=Tryz.sizeOf9
 v9:=Tryz.zeroValue9
 t28:=Tryz.underlying29
 a28:=Tryz.isAgg29
 z28:=Tryz.sizeOf29
 v28:=Tryz.zeroValue29
 t46:=Tryz.underlying193
 a46:=Tryz.isAgg193
 z46:=Tryz.sizeOf193
 v46:=Tryz.zeroValue193
 t51:=Tryz.underlying217
 a51:=Tryz.isAgg217
 z51:=Tryz.sizeOf217
 v51:=Tryz.zeroValue217
 t53:=Tryz.underlying219
 a53:=Tryz.isAgg219
 z53:=Tryz.sizeOf219
 v53:=Tryz.zeroValue219
 t131:=Tryz.underlying150
 a131:=Tryz.isAgg150
 z131:=Tryz.sizeOf150
 v131:=Tryz.zeroValue150
 t182:=Tryz.underlying209
 a182:=Tryz.isAgg209
 z182:=Tryz.sizeOf209
 v182:=Tryz.zeroValue209
 t183:=Tryz.underlying210
 a183:=Tryz.isAgg210
 z183:=Tryz.sizeOf210
 v183:=Tryz.zeroValue210
 t218:=Tryz.underlying230
 a218:=Tryz.isAgg230
 z218:=Tryz.sizeOf230
 v218:=Tryz.zeroValue230
 t222:=Tryz.underlying234
 a222:=Tryz.isAgg234
 z222:=Tryz.sizeOf234
 v222:=Tryz.zeroValue234
 t228:=Tryz.underlying236
 a228:=Tryz.isAgg236
 z228:=Tryz.sizeOf236
 v228:=Tryz.zeroValue236
 t229:=Tryz.underlying237
 a229:=Tryz.isAgg237
 z229:=Tryz.sizeOf237
 v229:=Tryz.zeroValue237 }
def dP(xs:List Int):List Int:=xs.mergeSort fun x y=>decide (x≤y)
theorem N0{w:World}{D:aN}{E:aZ} : ∀ {xs:List Int} {cs:List Value},aG w D E (xs.map enc) cs→cs=xs.map (Value.int .i64)∧∀ x∈xs,IntKind.i64.min≤x∧x≤IntKind.i64.max
 | [],cs,h=>by
  simp only[List.map_nil,aG] at h
  subst h;exact ⟨rfl,by simp⟩
 |x::xs,cs,h=>by
  simp only[List.map_cons,aG] at h
  obtain ⟨c1,c2,rfl,h1,h2⟩:=h
  obtain ⟨rfl,h3⟩:=N0 h2
  have h1':c1=[.int .i64 x]∧IntKind.i64.min≤x∧x≤IntKind.i64.max:=h1
  obtain ⟨rfl,h4⟩:=h1'
  refine ⟨rfl,fun y hy =>?_⟩
  rcases List.mem_cons.1 hy with rfl | hy
  ·exact h4
  ·exact h3 y hy
theorem rQ{w:World}{D:aN}{E:aZ} : ∀ {xs:List Int},(∀ x∈xs,IntKind.i64.min≤x∧x≤IntKind.i64.max)→aG w D E (xs.map enc) (xs.map (Value.int .i64))
 | [],_=>rfl
 |x::xs,h=>⟨[.int .i64 x],xs.map (Value.int .i64),rfl,⟨rfl,h x (by simp)⟩,rQ fun y hy=>h y (by simp[hy])⟩
theorem rZ(xs:List Int):(I.agg (xs.map enc)).aP=.ej (List.replicate xs.length .one):=by
 show cO.ej (I.cK _)=_
 congr 1
 induction xs with
 |nil=>rfl
 |cons x xs ih=>simp only[List.map_cons,I.cK,ih,List.length_cons,List.replicate_succ];rfl
theorem akH{xs ys q:List Int}(hl:ys.length=xs.length){cs:Array Value}(hc:cs.toList=(xs++q).map (Value.int .i64)):(Sort.putCells (Value.int .i64) 0 ys.toArray cs).toList=(ys++q).map (Value.int .i64):=by
 apply List.ext_getElem?
 intro k
 have h1:cs[k]?=((xs++q).map (Value.int .i64))[k]?:=by rw[←hc,Array.getElem?_toList]
 rw[Array.getElem?_toList,Sort.putCells,Array.getElem?_mapIdx,h1]
 simp only[List.getElem?_map,List.size_toArray,Nat.zero_le,true_and,Nat.zero_add,Nat.sub_zero]
 by_cases hk:k<ys.length
 ·simp only[hk,if_true]
  rw[List.getElem?_append_left (by omega),List.getElem?_append_left hk,List.getElem?_eq_getElem (by omega),List.getElem?_eq_getElem hk]
  simp[hk]
 ·simp only[hk,if_false]
  rw[List.getElem?_append_right (by omega),List.getElem?_append_right (by omega),hl]
  cases (q[k-xs.length]?) <;>rfl
open Go.Sort Go.RowKit in
theorem Pp(xs q:List Int)(hn:xs.length≤60):cF Tryz.prog 107 [.view 1000000 [] 1 0 xs.length] (cB 1000000 (xs++q)) (zm (dP xs++q)):=by
 refine ⟨CM,fun w D E vs _ hD hO hv =>?_⟩
 have ho:=hO.bS 1000000
 simp only[cB,al,if_true] at ho
 obtain ⟨b,cs,T,aw,-,hb,hr,hnD⟩:=ho
 have hEn:∀ n,n≠1000000→E n=none:=fun n hn=>by
  have:=hO.bS n
  simpa only[cB,al,if_neg hn,c9] using this
 simp only[aF] at hv
 obtain ⟨v,rest,cs',rfl,hp,hr',rfl⟩:=hv
 obtain ⟨b',aP,off,l,hE',hoff,hpart,rfl,hl1,hl2,hl3⟩:=hr'
 rw[aw] at hE'
 simp only[Option.some.injEq,bU.aC.injEq] at hE'
 obtain ⟨rfl,rfl⟩:=hE'
 have hoff':off=0:=by
  have:(some 0:Option Nat)=some off:=by rw[←hoff];rw[rZ];rfl
  injection this with this;exact this.symm
 subst hoff'
 have hp':v=.slice (some ⟨b,0,none⟩) xs.length (l.length-0):=by
  have:[Value.slice (some ⟨b,0+0*1,none⟩) xs.length (l.length-0)]=[v]:=hp
  simpa using this.symm
 subst hp'
 obtain ⟨hcs,hrg⟩:=N0 hr
 have hbs:b<w.heap.size:=(Array.getElem?_eq_some_iff.1 hb).1
 have hH:Holds (Value.int .i64) w b 0 xs.toArray:=fun j hj=>by
  simp only[List.size_toArray] at hj
  constructor
  ·simp only[World.cell?,hb,Option.isSome_none,Bool.false_eq_true,if_false,Nat.zero_add]
   rw[←Array.getElem?_toList,hcs]
   rw[List.map_append,List.getElem?_append_left (by simpa using hj)]
   simp[hj]
  ·simp[World.frozen?,hb]
 have hlen:(dP xs).length=xs.length:=by simp[dP]
 refine (Any.slices_Sort_int KD b 0 (l.length-0) xs w hH hbs (by omega)).mono ?_
 rintro e w' ⟨rfl,n,os,rfl⟩
 have hb1:(putRow (Value.int .i64) (Sort.ahead w n) b 0 (dP xs).toArray).heap[b]?=some (.cells (putCells (Value.int .i64) 0 (dP xs).toArray cs) T (0,0)):=by
  simp[putRow,mapBlock,Sort.ahead,Array.getElem?_modify,hb,onCells]
 have hother:∀ k,k<w.heap.size→k≠b→(grow (putRow (Value.int .i64) (Sort.ahead w n) b 0 (dP xs).toArray) os).heap[k]?=w.heap[k]?:=fun k hk hkb=>by
  rw[heap_grow_old _ _ (by simpa[Sort.ahead] using hk)]
  simp[putRow,mapBlock,Sort.ahead,Array.getElem?_modify,Ne.symm hkb]
 have hb2:(grow (putRow (Value.int .i64) (Sort.ahead w n) b 0 (dP xs).toArray) os).heap[b]?=some (.cells (putCells (Value.int .i64) 0 (dP xs).toArray cs) T (0,0)):=by
  rw[heap_grow_old _ _ (by simpa[Sort.ahead] using hbs)];exact hb1
 have hsz:w.heap.size≤(grow (putRow (Value.int .i64) (Sort.ahead w n) b 0 (dP xs).toArray) os).heap.size:=by simp[Sort.ahead]
 have hshow:(grow (putRow (Value.int .i64) (Sort.ahead w n) b 0 (xs.mergeSort fun x y=>decide (x≤y)).toArray) os)=(grow (putRow (Value.int .i64) (Sort.ahead w n) b 0 (dP xs).toArray) os):=rfl
 rw[hshow]
 have hw1:(grow (putRow (Value.int .i64) (Sort.ahead w n) b 0 (dP xs).toArray) os).os=w.os:=rfl
 have hw2:(grow (putRow (Value.int .i64) (Sort.ahead w n) b 0 (dP xs).toArray) os).tape=w.tape:=rfl
 have hw3:(grow (putRow (Value.int .i64) (Sort.ahead w n) b 0 (dP xs).toArray) os).output=w.output:=rfl
 revert hother hb2 hsz hw1 hw2 hw3
 generalize grow (putRow (Value.int .i64) (Sort.ahead w n) b 0 (dP xs).toArray) os=w2
 intro hother hb2 hsz hw1 hw2 hw3
 have hmem:∀ x∈dP xs++q,IntKind.i64.min≤x∧x≤IntKind.i64.max:=fun x hx=>hrg x (by
  rcases List.mem_append.1 hx with h | h
  ·exact List.mem_append_left _ (by simpa[dP] using h)
  ·exact List.mem_append_right _ h)
 refine ⟨.tuple #[],D,E,.tuple [],cB 1000000 (dP xs++q),rfl,⟨rfl,rfl⟩,⟨[],rfl,rfl⟩,⟨fun m =>?_,hO.cU⟩,⟨hw1,hw2,hw3,hsz,fun k hk =>?_⟩,fun _ _ h=>h,fun b0 o h=>Nat.lt_of_lt_of_le (hD b0 o h) hsz,fun _ _ h _ _=>h,fun m e h _=>⟨e,h,bU.le.refl e⟩,⟨fun b0 o u hd hc =>?_,fun b0 es ck hd hc =>?_⟩⟩
 ·by_cases hm:m=1000000
  ·subst hm
   simp only[cB,al,if_true]
   refine ⟨b,_,T,?_,.inr ⟨1000000,_,aw,rfl⟩,hb2,?_,hnD⟩
   ·rw[aw,rZ,rZ,List.length_append,List.length_append,hlen]
   ·show aG w2 D E _ _
    rw[akH hlen hcs]
    exact rQ hmem
  ·simp only[cB,al,if_neg hm,c9]
   exact hEn m hm
 ·by_cases hk2:k<w.heap.size
  ·exact hother k hk2 fun e=>hk (.inr ⟨1000000,_,aw,by rw[e];rfl⟩)
  ·exact absurd (.inl (Nat.le_of_not_lt hk2)) hk
 ·have hne:b0≠b:=fun e=>hnD o (e▸hd)
  simp only[World.cell?,hother b0 (hD b0 o hd) hne] at hc ⊢
  exact hc
 ·have hne:b0≠b:=fun e=>hnD 0 (e▸hd)
  rw[hother b0 (hD b0 0 hd) hne];exact hc
theorem Pq(v:I)(hv0:v=.nils 1∨v=enc ([]:List Int)):aA Tryz.prog 107 [v] (.tuple []):=by
 refine ⟨CM,fun w D vs hD hv =>?_⟩
 simp only[aF] at hv
 obtain ⟨u,rest,cs',rfl,hp,hr',rfl⟩:=hv
 have hu:∃ a cap,u=.slice a 0 cap:=by
  rcases hv0 with rfl | rfl
  ·have h1:cs'=[.slice none 0 0]:=hr'
   have h2:cs'=[u]:=hp
   rw[h1] at h2
   exact ⟨none,0,by simpa using h2.symm⟩
  ·obtain ⟨a,cap,h1,_⟩:=hr'
   have h2:cs'=[u]:=hp
   rw[h1] at h2
   exact ⟨a,cap,by simpa using h2.symm⟩
 obtain ⟨a,cap,rfl⟩:=hu
 refine (Any.slices_Sort_int_none KD a cap w).mono ?_
 rintro e w' ⟨rfl,rfl⟩
 exact ⟨.tuple #[],D,rfl,⟨[],rfl,rfl⟩,⟨rfl,rfl,rfl,Nat.le_refl _,fun _ _=>rfl⟩,hD,fun _ _ h _=>h⟩
end Go.Proofs.YtcldiigclhgafaaGreat
namespace Go.Proofs.YtcldiigclhgafaaGreat
open Go Go.Abs
open Go.Abs.Enc (enc)
theorem tt{os os2 ow:List (Nat×ai)}{ts:List (Nat×I)}(h:fA os os2)(how:∀ m,au ow m=true→m<1000000):∀ n x,al os2 n=some x→(av ts (ow++os2)).o n=some x∧x.only (au os2)=true∧x.eS=true:=fun n x hx=>by
 have hn:au os2 n=true:=by simp[au,hx]
 have hg:=h.oB n (by rw[←h.same];exact hn)
 refine ⟨?_,h.ok n x hx⟩
 simp only[av,kv]
 cases hw:al ow n with
 |none=>exact hx
 |some y=>have:=how n (by simp[au,hw]);omega
def zS:aS 5 Int:=⟨List.replicate 5 0,rfl⟩
theorem Ze:I.agg [.int .i64 0,.int .i64 0,.int .i64 0,.int .i64 0,.int .i64 0]=enc zS:=rfl
def kg(a b:Int):Int:=IntKind.i64.wrap ((BitVec.ofInt IntKind.i64.bits a ||| BitVec.ofInt IntKind.i64.bits b).toNat:Int)
def uY(c:List Int)(k:Nat)(x:aS 5 Int):aS 5 Int :=
 if aX c k%12<5 then gX (gX x k (shl 1 k)) k (kg ((gX x k (shl 1 k)).g k) (shl 1 (aX c k%12).toNat)) else gX x k (shl 1 k)
def fO(c:List Int):Nat→aS 5 Int
 |0=>zS
 |k+1=>uY c k (fO c k)
theorem Qu(c:List Int)(hc:c.length≤4611686018427387904):aA Tryz.prog 85 [enc c] (enc (fO c 5)):=by
 refine aA.bA Tryz.func85 Tx Vs XA (Nat.le_of_ble_eq_true rfl) (fun hwf W0 D0 E1 =>?_)
 simp only[CC,NN,bp]
 refine .ao (by decide +kernel) fun K hK =>?_
 simp only[Jg,U,simprocAttr]
 refine .done (hK _ ?_);clear hK K
 refine .ao (by decide +kernel) fun K hK =>?_
 simp only[Jh,U,simprocAttr]
 simp only[Ze]
 refine .done (hK _ ?_);clear hK K
 refine ab.seq (ab.seq ?_)
 refine .bl (by decide +kernel) fun K hK =>?_
 simp only[Ji,U,simprocAttr]
 refine .done (hK _ ?_);clear hK K;try simp only[aq]
 refine ab.block (ab.loop (fun k:Nat=>av [(0,enc c),(2,.ptr 2 []),(3,.ptr 3 []),(4,.int .i64 k)] [(2,.box (enc zS)),(3,.box (enc (fO c k)))]) (fun k=>k≤5) (fun k=>5-k) 0 (by omega) ?_ (fun k hk =>?_))
 ·refine aD.bM ?_ ?_ ?_ ?_ <;>simp[aV,bF,bE,a7,au,aY,ct,I.only,ai.only,bh]
  all_goals rfl
 refine ab.seq (ab.seq ?_)
 refine .bl (by decide +kernel) fun K hK =>?_
 simp only[Jj,U,simprocAttr]
 refine .done (hK _ ?_);clear hK K;try simp only[aq]
 refine ab.bC ?_
 simp only[ar,U,simprocAttr]
 refine ⟨fun h =>?_,fun h =>?_⟩
 ·have hlt:k<5:=by simp at h;omega
  refine ab.skip ?_;try simp only[aq,simprocAttr]
  refine ab.seq (ab.block ?_)
  refine .ao (by decide +kernel) fun K hK =>?_
  simp only[Jk,U,simprocAttr]
  try simp only[bn,jy 1 (fO c k) hlt rfl,eP (fO c k) hlt,o9 (fO c k) hlt,U,simprocAttr]
  refine .done (hK _ ?_);clear hK K
  refine .ao (by decide +kernel) fun K hK =>?_
  simp only[Jl,U,simprocAttr]
  try simp only[cH,U,simprocAttr]
  refine .flat _ (lx c k hc) rfl ?_
  try simp only[U,simprocAttr]
  refine .flat _ (gI (aX c k) 12 (by omega) (by omega)) rfl ?_
  try simp only[U,simprocAttr]
  refine .done (hK _ ?_);clear hK K
  refine .ao (by decide +kernel) fun K hK =>?_
  simp only[Jm,U,simprocAttr]
  refine .done (hK _ ?_);clear hK K
  have h0:0≤aX c k%12:=Int.emod_nonneg _ (by omega)
  refine ab.bC ?_
  simp only[ar,U,simprocAttr]
  refine ⟨fun h =>?_,fun h =>?_⟩
  ·have h5:aX c k%12<5:=by simpa using h
   have e1:IntKind.i64.wrap (1*2^min k IntKind.i64.bits)=shl 1 k:=rfl
   refine .bl (by decide +kernel) fun K hK =>?_
   simp only[Jn,U,simprocAttr]
   try simp only[e1,bn,jy 1 (gX (fO c k) k (shl 1 k)) hlt rfl,eP (gX (fO c k) k (shl 1 k)) hlt,h0,U,simprocAttr]
   try simp only[o9 (gX (fO c k) k (shl 1 k)) hlt,U,simprocAttr]
   refine .done (hK _ ?_);clear hK K;try simp only[aq,bN]
   refine .bl (by decide +kernel) fun K hK =>?_
   simp only[xn,U,simprocAttr]
   refine .done (hK _ ?_);clear hK K;try simp only[aq]
   refine ⟨k+1,by omega,by omega,?_⟩
   rw[cA _ (by omega) (by omega)]
   simp only[fO,uY,if_pos h5]
   refine aD.bM ?_ ?_ ?_ ?_ <;>simp[aV,bF,bE,a7,au,aY,ct,I.only,ai.only,bh]
   all_goals simp[kg,shl]
  ·have h5:¬ aX c k%12<5:=by simpa using h
   refine ab.skip ?_;try simp only[aq,bN,simprocAttr]
   refine .bl (by decide +kernel) fun K hK =>?_
   simp only[xn,U,simprocAttr]
   refine .done (hK _ ?_);clear hK K;try simp only[aq]
   refine ⟨k+1,by omega,by omega,?_⟩
   rw[cA _ (by omega) (by omega)]
   simp only[fO,uY,if_neg h5]
   refine aD.bM ?_ ?_ ?_ ?_ <;>simp[aV,bF,bE,a7,au,aY,ct,I.only,ai.only,bh]
   all_goals simp[shl]
 ·have hge:k=5:=by simp at h;omega
  subst hge
  refine ab.exit ?_;try simp only[aq,bN,simprocAttr]
  refine .ao (by decide +kernel) fun K hK =>?_
  simp only[Jo,U,simprocAttr]
  try simp only[cD,U,simprocAttr]
  rw[ev (dq _) (by rw[fZ];rfl) ((eQ _).trans (eQ _).symm)]
  try simp only[U,simprocAttr]
  refine .done (hK _ ?_);clear hK K
  refine ab.ret ?_
  simp only[U,simprocAttr]
  try simp only[cD,cH,U,simprocAttr]
def kP(k:Nat):Nat→Int
 |0=>((k / 5 / 5 / 5 / 5 / 5%5:Nat):Int)
 |1=>((k / 5 / 5 / 5 / 5%5:Nat):Int)
 |2=>((k / 5 / 5 / 5%5:Nat):Int)
 |3=>((k / 5 / 5%5:Nat):Int)
 |4=>((k / 5%5:Nat):Int)
 |5=>((k%5:Nat):Int)
 |_=>0
def sQ(k:Nat):aS 6 Int:=⟨[kP k 0,kP k 1,kP k 2,kP k 3,kP k 4,kP k 5],rfl⟩
theorem YK(k i:Nat):0≤kP k i∧kP k i≤4:=by
 unfold kP;split <;>omega
theorem Rf{n:Nat}{x y:aS n Int}(h:x.l=y.l):x=y:=by
 cases x;cases y;simp only at h;subst h;rfl
theorem ajV(k:Nat):dT (sQ k)=true:=by
 simp only[dT,List.all_eq_true,List.mem_range]
 intro i hi
 have:(sQ k).g i=kP k i:=by
  match i,hi with
  |0,_ | 1,_ | 2,_ | 3,_ | 4,_ | 5,_=>rfl
  |n+6,h=>exact absurd h (by omega)
 rw[this]
 have:=YK k i
 simp[cq,this.1,this.2]
theorem qu{A:af}{n:Nat}{b:I}{v u:aS 6 Int}{rest:List aB} : dQ A (some 6) n [] b (enc v) rest (some (enc u))=az rest (A.aK n (.box (enc v))):=by
 rw[ev (dq _) (by rw[fZ];rfl) ((eQ _).trans (eQ _).symm),gi]
theorem alF{A:af}{n:Nat}{b:I}{v u:b9}{rest:List aB} : dQ A (some 7) n [] b (enc v) rest (some (enc u))=az rest (A.aK n (.box (enc v))):=by
 rw[ev (dq _) (by rw[fZ];rfl) ((eQ _).trans (eQ _).symm),gi]
theorem Pa:∀ k j:Fin 5,(0≤shl 1 k.1∧shl 1 k.1≤31∧hE (shl 1 k.1) k.1=true)∧(0≤kg (shl 1 k.1) (shl 1 j.1)∧kg (shl 1 k.1) (shl 1 j.1)≤31∧hE (kg (shl 1 k.1) (shl 1 j.1)) k.1=true):=by decide +kernel
theorem Pb(c:List Int):∀ n,n≤5→∀ j,j<n→0≤(fO c n).g j∧(fO c n).g j≤31∧hE ((fO c n).g j) j=true
 |0,_=>fun j h=>absurd h (by omega)
 |n+1,hn=>fun j hj=>by
  have ih:=Pb c n (by omega)
  have hn5:n<5:=by omega
  simp only[fO,uY]
  have h0:0≤aX c n%12:=Int.emod_nonneg _ (by decide)
  split
  ·rename_i h12
   rw[oA _ _ _ _ hn5]
   split
   ·rename_i e
    subst e
    rw[oA _ _ _ _ hn5,if_pos rfl]
    exact (Pa ⟨n,hn5⟩ ⟨(aX c n%12).toNat,by omega⟩).2
   ·rw[oA _ _ _ _ hn5,if_neg (by assumption)]
    exact ih j (by omega)
  ·rw[oA _ _ _ _ hn5]
   split
   ·rename_i e
    subst e
    exact (Pa ⟨n,hn5⟩ ⟨0,by decide⟩).1
   ·exact ih j (by omega)
theorem ajY(c:List Int):im (fO c 5)=true:=by
 simp only[im,List.all_eq_true,List.mem_range,Bool.and_eq_true]
 intro k hk
 obtain ⟨h1,h2,h3⟩:=Pb c 5 (Nat.le_refl _) k hk
 simp[cq,h1,h2,h3]
theorem aiP(k:Nat):ij (k:Int) 1=((k / 5:Nat):Int)∧ij (k:Int) 2=((k / 5 / 5:Nat):Int)∧ij (k:Int) 3=((k / 5 / 5 / 5:Nat):Int)∧ij (k:Int) 4=((k / 5 / 5 / 5 / 5:Nat):Int)∧ij (k:Int) 5=((k / 5 / 5 / 5 / 5 / 5:Nat):Int):=by
 have h:∀ n:Nat,(n:Int).tdiv 5=((n / 5:Nat):Int):=fun n=>Int.ofNat_tdiv n 5
 simp only[ij,h,and_self]
theorem YL(k:Nat):ki (k:Int) 6=sQ k:=by
 obtain ⟨h1,h2,h3,h4,h5⟩:=aiP k
 have h:∀ n:Nat,(n:Int).tmod 5=((n%5:Nat):Int):=fun n=>Int.ofNat_tmod n 5
 have h0:ij (k:Int) 0=k:=rfl
 refine Rf ?_
 simp only[ki,gX,sQ,kP,h0,h1,h2,h3,h4,h5,h]
 rfl
theorem Lv(n:Int):dT (ki (n%15625) 6)=true:=by
 have h0:0≤n%15625:=Int.emod_nonneg _ (by decide)
 have e:n%15625=(((n%15625).toNat:Nat):Int):=by omega
 rw[e,YL]
 exact ajV _
theorem alm:∀ k:Fin 5,1≤shl 1 k.1∧shl 1 k.1≤31:=by decide +kernel
theorem Lk{m:bZ}{i:Nat} : gR m i=true↔(1≤(cZ m i).bP∧(cZ m i).bP≤99)∧dT (cZ m i).mark=true∧(i=0∨(cZ m (i-1)).bP<(cZ m i).bP)∧∀ j,j<i→kb m (cZ m j).mark (cZ m i).mark=false:=by
 simp only[gR,cq,Bool.and_eq_true,Bool.or_eq_true,decide_eq_true_eq,beq_iff_eq,List.all_eq_true,List.mem_range,Bool.not_eq_true']
theorem pQ{w:aS 5 Int}{f:Int}{l:List b9}{g:b9}{i:Nat}(h:i<l.length):cZ ⟨w,f,l++[g]⟩ i=cZ ⟨w,f,l⟩ i:=by
 simp only[cZ,List.getD_eq_getElem?_getD,List.getElem?_append_left h]
theorem Kd{w:aS 5 Int}{f:Int}{l:List b9}{g:b9} : cZ ⟨w,f,l++[g]⟩ l.length=g:=by
 simp[cZ,List.getD_eq_getElem?_getD]
def lY(c:List Int)(i:Nat)(o:Int):b9:=⟨o,ki (IntKind.i64.wrap (IntKind.i64.wrap (c.getD i 0*7)+i*2503)%15625) 6⟩
def rE(c:List Int)(i:Nat)(p:Int×List b9):Int×List b9 :=
 (p.1+(1+c.getD i 0%4),if p.2.any (fun h=>kb ⟨fO c 5,aX c 5%2,p.2⟩ h.mark (lY c i 0).mark) then p.2 else p.2++[lY c i (p.1+(1+c.getD i 0%4))])
def c4(c:List Int):Nat→Int×List b9
 |0=>(0,[])
 |i+1=>if i<c.length∧(c4 c i).2.length<9 then rE c i (c4 c i) else c4 c i
def jW(c:List Int)(n:Nat):bZ:=⟨fO c 5,aX c 5%2,(c4 c n).2⟩
def mK(c:List Int):bZ:=jW c 12
theorem KV{c:List Int}{i:Nat}(h:¬ (i<c.length∧(c4 c i).2.length<9)):∀ n,i≤n→c4 c n=c4 c i
 |0,hn=>by
   have:i=0:=by omega
   subst this;rfl
 |n+1,hn=>by
  by_cases e:i=n+1
  ·subst e;rfl
  ·have ih:=KV h n (by omega)
   simp only[c4,ih]
   rw[if_neg]
   intro hh;exact h ⟨by omega,hh.2⟩
theorem K4(n:Int):0≤n%4∧n%4<4:=⟨Int.emod_nonneg _ (by decide),Int.emod_lt_of_pos _ (by decide)⟩
theorem yh(c:List Int):∀ n,(0≤(c4 c n).1∧(c4 c n).1≤4*n)∧(c4 c n).2.length≤9∧(c4 c n).2.length≤n∧(∀ i,i<(c4 c n).2.length→(cZ (jW c n) i).bP≤(c4 c n).1)∧(n≤12→∀ i,i<(c4 c n).2.length→gR (jW c n) i=true)
 |0=>by simp[c4]
 |n+1=>by
  obtain ⟨h1,h2,h3,h4,h5⟩:=yh c n
  have m4:=K4 (c.getD n 0)
  by_cases hc:n<c.length∧(c4 c n).2.length<9
  ·have hM:jW c n=⟨fO c 5,aX c 5%2,(c4 c n).2⟩:=rfl
   have hM1:jW c (n+1)=⟨fO c 5,aX c 5%2,(c4 c (n+1)).2⟩:=rfl
   have hU:c4 c (n+1)=rE c n (c4 c n):=by simp only[c4,if_pos hc]
   rw[hM1,hU]
   rw[hM] at h4 h5
   generalize c4 c n=p at h1 h2 h3 h4 h5 hc
   obtain ⟨o,l⟩:=p
   simp only at h1 h2 h3 h4 h5 hc
   simp only[rE]
   split
   ·refine ⟨by omega,h2,by omega,fun i hi =>?_,fun hn i hi =>?_⟩
    ·have:=h4 i hi;omega
    ·exact h5 (by omega) i hi
   ·rename_i hany
    have hnear:∀ g∈l,kb ⟨fO c 5,aX c 5%2,l⟩ g.mark (lY c n 0).mark=false:=by
     intro g hg
     cases hh:kb ⟨fO c 5,aX c 5%2,l⟩ g.mark (lY c n 0).mark with
     |false=>rfl
     |true=>exact absurd (List.any_eq_true.2 ⟨g,hg,hh⟩) hany
    have ow:(lY c n (o+(1+c.getD n 0%4))).bP=o+(1+c.getD n 0%4):=rfl
    have mk:(lY c n (o+(1+c.getD n 0%4))).mark=(lY c n 0).mark:=rfl
    generalize hg:lY c n (o+(1+c.getD n 0%4))=g at ow mk
    have hmk:dT g.mark=true:=by rw[mk];exact Lv _
    refine ⟨by omega,by simp;omega,by simp;omega,fun i hi =>?_,fun hn i hi =>?_⟩
    ·simp only[List.length_append,List.length_singleton] at hi
     by_cases e:i=l.length
     ·subst e;rw[Kd];omega
     ·rw[pQ (by omega)];have:=h4 i (by omega);omega
    ·simp only[List.length_append,List.length_singleton] at hi
     by_cases e:i=l.length
     ·subst e
      rw[Lk,Kd]
      refine ⟨by omega,hmk,?_,fun j hj =>?_⟩
      ·by_cases e0:l.length=0
       ·exact .inl e0
       ·right
        rw[pQ (by omega),ow]
        have:=h4 (l.length-1) (by omega)
        omega
      ·rw[pQ hj,mk]
       have:=hnear (cZ ⟨fO c 5,aX c 5%2,l⟩ j) (by rw[←jx hj];exact List.getElem_mem hj)
       exact this
     ·have hi':i<l.length:=by omega
      have:=h5 (by omega) i hi'
      rw[Lk] at this ⊢
      rw[pQ hi']
      refine ⟨this.1,this.2.1,?_,fun j hj =>?_⟩
      ·rcases this.2.2.1 with h | h
       ·exact .inl h
       ·right;rw[pQ (by omega)];exact h
      ·rw[pQ (by omega)];exact this.2.2.2 j hj
  ·have hU:c4 c (n+1)=c4 c n:=by simp only[c4,if_neg hc]
   have hM:jW c (n+1)=jW c n:=by simp only[jW,hU]
   rw[hU,hM]
   exact ⟨by omega,h2,by omega,h4,fun hn=>h5 (by omega)⟩
theorem Lt(c:List Int){n:Nat}(hn:n≤12):en (jW c n)=true:=by
 obtain ⟨h1,h2,h3,h4,h5⟩:=yh c n
 have m2:0≤aX c 5%2∧aX c 5%2<2:=⟨Int.emod_nonneg _ (by decide),Int.emod_lt_of_pos _ (by decide)⟩
 have e1:cq 0 2 (aX c 5%2)=true:=by simp[cq,m2.1];omega
 have e2:decide ((c4 c n).2.length≤40)=true:=by simp;omega
 have e3:(List.range (c4 c n).2.length).all (gR (jW c n))=true:=by
  simp only[List.all_eq_true,List.mem_range];exact h5 hn
 simp only[jW] at e3
 simp only[en,jW,ajY,e1,e3,Bool.true_and,Bool.and_true]
 exact e2
theorem Ls(c:List Int):en (mK c)=true:=Lt c (Nat.le_refl _)
theorem yN{α:Type}[Enc α](l:List α):bY none (enc l)=true:=by simp[mD,ny]
theorem p6:(∀ (x:I) xs (f:I→Bool),(x::xs).all f=(f x&&xs.all f))∧(∀ f:I→Bool,([]:List I).all f=true)∧(∀ n p,(I.ptr n p).cj=true)∧(∀ b,(true&&b)=b) :=
 ⟨fun _ _ _=>List.all_cons,fun _=>List.all_nil,fun _ _=>rfl,fun _=>rfl⟩
theorem qi:∀ m,au [] m=true→m<1000000:=fun m h=>by simp[au,al] at h
theorem P3(l:List ak)(hl:l.length≤60):vi Tryz.prog 178 [.ref (enc l)] l.length (fun k=>[.int .i64 ((l.length-1-k:Nat):Int),enc (ae l (l.length-1-k))]):=by
 intro Y v aj Ix os hv hY hI hIx h0
 have hG:=hI 0 os h0
 refine kK.bA Tryz.func178 CQ UI WO (Nat.le_of_ble_eq_true rfl) (Nat.le_of_ble_eq_true rfl) hG.oB (fun hwf W0 D0 E1 =>?_)
 simp only[BS,MZ,bp,Nat.zero_add]
 refine .ao (by decide +kernel) fun K hK =>?_
 simp only[GW,U,simprocAttr]
 try simp only[bn,a6,U,simprocAttr]
 rw[cA ((l.length:Int)-1) (by omega) (by omega)]
 refine .done (hK _ ?_);clear hK K
 refine ab.block (ab.loop (fun s:Nat×List (Nat×ai)=>av [(0,.raw v),(1,.ref (enc l)),(3,.int .i64 ((l.length:Int)-1-s.1))] s.2) (fun s=>s.1≤l.length∧aj s.1 s.2) (fun s=>l.length-s.1) (0,os) ⟨Nat.zero_le _,h0⟩ ?_ ?_)
 ·refine aD.da ?_ (fun n=>rfl)
  simp[aV,aY]
 rintro ⟨k,osk⟩ ⟨hk,hIk⟩
 simp only at hk hIk ⊢
 have gk:=hI k osk hIk
 refine ab.seq (ab.seq ?_)
 refine .bl (by decide +kernel) fun K hK =>?_
 simp only[GX,U,simprocAttr]
 refine .done (hK _ ?_);clear hK K;try simp only[aq]
 refine ab.bC ?_
 simp only[ar,U,simprocAttr]
 refine ⟨fun h =>?_,fun h =>?_⟩
 ·have hlt:k<l.length:=by simp at h;omega
  have hix:((l.length:Int)-1-k)=((l.length-1-k:Nat):Int):=by omega
  rw[hix]
  refine ab.skip ?_;try simp only[aq,simprocAttr]
  refine ab.seq (ab.block (ab.seq ?_))
  refine .bl (by decide +kernel) fun K hK =>?_
  simp only[GY,U,simprocAttr]
  try simp only[a6,jV (l:=l) (i:=l.length-1-k) (by omega),CV,U,simprocAttr]
  refine a8.Pf (ow:=[]) (In:=aj (k+1)) (Ix:=Ix) (hY k osk _ hlt hIk (fun r os2 h=>h)) gk (hI _) hIx (by simp[I.bX,dV,I.bB]) qi (fun os2 h2 =>?_) (fun os2 h2 =>?_)
  ·try simp only[List.nil_append,U,simprocAttr]
   refine .done (hK _ ?_);clear hK K;try simp only[aq]
   refine ab.bC ?_
   simp only[ar,U,simprocAttr]
   refine ⟨fun h =>?_,fun h =>?_⟩
   ·cases h
   refine ab.skip ?_;try simp only[aq,bN,simprocAttr]
   refine .bl (by decide +kernel) fun K hK =>?_
   simp only[GZ,U,simprocAttr]
   refine .done (hK _ ?_);clear hK K;try simp only[aq]
   refine ⟨(k+1,os2),⟨by simp only;omega,h2⟩,by simp only;omega,?_⟩
   simp only
   rw[cA _ (by omega) (by omega)]
   have e:(((l.length-1-k:Nat):Int)-1)=((l.length:Int)-1-((k+1:Nat):Int)):=by omega
   rw[e]
   refine aD.da ?_ (fun n=>rfl)
   simp[aV,aY]
  ·try simp only[List.nil_append,U,simprocAttr]
   refine .done (hK _ ?_);clear hK K;try simp only[aq]
   refine ab.bC ?_
   simp only[ar,U,simprocAttr]
   refine ⟨fun h =>?_,fun h =>?_⟩
   ·refine ab.ret ?_
    simp only[aq,bN]
    rw[eY]
    exact ⟨os2,[],tt (ow:=[]) (hIx os2 h2) qi,trivial,rfl,.inr h2⟩
   ·cases h
 ·have he:k=l.length:=by simp at h;omega
  subst he
  refine ab.exit ?_;try simp only[aq,bN,simprocAttr]
  rw[mb]
  exact ⟨osk,[],tt (ow:=[]) gk qi,trivial,rfl,.inl hIk⟩
def jo(p:Nat→Bool)(n:Nat):List Nat:=(List.range n).filter p
theorem O5(p:Nat→Bool)(n:Nat):jo p (n+1)=jo p n++(if p n then [n] else []):=by
 simp only[jo,List.range_succ,List.filter_append,List.filter_cons,List.filter_nil]
theorem alX{p:Nat→Bool}{i n:Nat}(hp:p i=true)(hi:i<n):(jo p i).length<(jo p n).length∧(jo p n).getD (jo p i).length 0=i:=by
 induction n with
 |zero=>omega
 |succ n ih =>
  rw[O5]
  by_cases e:i=n
  ·subst e
   simp[hp]
  ·obtain ⟨h1,h2⟩:=ih (by omega)
   refine ⟨by rw[List.length_append];omega,?_⟩
   rw[List.getD_eq_getElem?_getD,List.getElem?_append_left h1,←List.getD_eq_getElem?_getD]
   exact h2
theorem PG(l:List ak)(bs:List Bool)(hl:l.length≤60)(hb:bs.length=l.length) :
  vi Tryz.prog 146 [.ref (enc l),.ref (enc bs)] (jo (fun i=>bs.getD i false) l.length).length (fun k=>[.int .i64 (((jo (fun i=>bs.getD i false) l.length).getD k 0:Nat):Int)]):=by
 intro Y v aj Ix os hv hY hI hIx h0
 have hG:=hI 0 os h0
 refine kK.bA Tryz.func146 CO Uk Wp (Nat.le_of_ble_eq_true rfl) (Nat.le_of_ble_eq_true rfl) hG.oB (fun hwf W0 D0 E1 =>?_)
 simp only[Bu,MA,bp,Nat.zero_add,Nat.reduceAdd]
 refine .ao (by decide +kernel) fun K hK =>?_
 simp only[FB,U,simprocAttr]
 try simp only[bn,a6,U,simprocAttr]
 refine .done (hK _ ?_);clear hK K
 refine ab.block (ab.loop (fun s:Nat×List (Nat×ai)=>av [(0,.raw v),(1,.ref (enc l)),(2,.ref (enc bs)),(6,.int .i64 l.length),(7,.int .i64 s.1)] s.2) (fun s=>s.1≤l.length∧aj (jo (fun i=>bs.getD i false) s.1).length s.2) (fun s=>l.length-s.1) (0,os) ⟨Nat.zero_le _,h0⟩ ?_ ?_)
 ·refine aD.da ?_ (fun n=>rfl)
  simp[aV,aY]
 rintro ⟨i,osk⟩ ⟨hi,hIk⟩
 simp only at hi hIk ⊢
 have gk:=hI _ osk hIk
 refine .ao (by decide +kernel) fun K hK =>?_
 simp only[FC,U,simprocAttr]
 refine .done (hK _ ?_);clear hK K
 refine ab.seq ?_
 by_cases hlt:i<l.length
 ·have hc:=gD hlt
  have hbi:∀ A,iM A 1 (i:Int) (enc bs)=some (.ref (.bool (bs.getD i false))):=fun A=>by
   rw[fI 1 (by omega) rfl,List.getD_eq_getElem?_getD,List.getElem?_eq_getElem (by omega)];rfl
  simp only[hc]
  refine ab.bC ?_
  simp only[ar,U,simprocAttr]
  refine ⟨fun h =>?_,fun h =>?_⟩
  case refine_2=>cases h
  refine ab.skip ?_;try simp only[aq,simprocAttr]
  refine ab.seq (ab.block ?_)
  refine .ao (by decide +kernel) fun K hK =>?_
  simp only[FD,U,simprocAttr]
  refine .done (hK _ ?_);clear hK K
  refine ab.seq ?_
  have hsu:=O5 (fun i=>bs.getD i false) i
  cases hbv:bs.getD i false with
  |false =>
   rw[hbv] at hbi
   refine .bl (by decide +kernel) fun K hK =>?_
   simp only[wW,U,simprocAttr]
   try simp only[hbi,yN,U,simprocAttr]
   refine .done (hK _ ?_);clear hK K;try simp only[aq]
   refine ab.bC ?_
   simp only[ar,U,simprocAttr]
   refine ⟨fun h =>?_,fun h =>?_⟩
   ·cases h
   refine ab.skip ?_;try simp only[aq,bN,simprocAttr]
   refine .bl (by decide +kernel) fun K hK =>?_
   simp only[wX,U,simprocAttr]
   refine .done (hK _ ?_);clear hK K;try simp only[aq]
   refine ⟨(i+1,osk),⟨by simp only;omega,?_⟩,by simp only;omega,?_⟩
   ·simp only[hsu,hbv,Bool.false_eq_true,if_false,List.append_nil];exact hIk
   ·simp only
    rw[ft (by omega)]
    refine aD.da ?_ (fun n=>rfl)
    simp[aV,aY]
  |true =>
   rw[hbv] at hbi
   obtain ⟨g1,g2⟩:=alX (p:=fun i=>bs.getD i false) hbv hlt
   have hsl:(jo (fun i=>bs.getD i false) (i+1)).length=(jo (fun i=>bs.getD i false) i).length+1:=by rw[hsu,hbv];simp
   have hy:=hY _ osk _ g1 hIk (fun r os2 h=>h)
   simp only at hy
   rw[g2] at hy
   refine .bl (by decide +kernel) fun K hK =>?_
   simp only[wW,U,simprocAttr]
   try simp only[hbi,yN,CV,U,simprocAttr]
   refine a8.Pf (ow:=[]) (In:=aj ((jo (fun i=>bs.getD i false) i).length+1)) (Ix:=Ix) hy gk (hI _) hIx rfl qi (fun os2 h2 =>?_) (fun os2 h2 =>?_)
   ·try simp only[List.nil_append,U,simprocAttr]
    refine .done (hK _ ?_);clear hK K;try simp only[aq]
    refine ab.bC ?_
    simp only[ar,U,simprocAttr]
    refine ⟨fun h =>?_,fun h =>?_⟩
    ·cases h
    refine ab.skip ?_;try simp only[aq,bN,simprocAttr]
    refine .bl (by decide +kernel) fun K hK =>?_
    simp only[wX,U,simprocAttr]
    refine .done (hK _ ?_);clear hK K;try simp only[aq]
    refine ⟨(i+1,os2),⟨by simp only;omega,?_⟩,by simp only;omega,?_⟩
    ·simp only[hsl];exact h2
    ·simp only
     rw[ft (by omega)]
     refine aD.da ?_ (fun n=>rfl)
     simp[aV,aY]
   ·try simp only[List.nil_append,U,simprocAttr]
    refine .done (hK _ ?_);clear hK K;try simp only[aq]
    refine ab.bC ?_
    simp only[ar,U,simprocAttr]
    refine ⟨fun h =>?_,fun h =>?_⟩
    ·refine ab.ret ?_
     simp only[aq,bN]
     rw[eY]
     exact ⟨os2,[],tt (ow:=[]) (hIx os2 h2) qi,trivial,rfl,.inr h2⟩
    ·cases h
 ·have hc:=ib hlt
  simp only[hc]
  refine ab.bC ?_
  simp only[ar,U,simprocAttr]
  refine ⟨fun h =>?_,fun h =>?_⟩
  ·cases h
  have he:i=l.length:=by omega
  subst he
  refine ab.exit ?_;try simp only[aq,bN,simprocAttr]
  rw[mb]
  exact ⟨osk,[],tt (ow:=[]) gk qi,trivial,rfl,.inl hIk⟩
theorem PF(l:List ak):aA Tryz.prog 145 [enc l] (.func 178 [.ref (enc l)]):=by
 refine aA.bA Tryz.func145 Sp Uj Wo (Nat.le_of_ble_eq_true rfl) (fun hwf W0 D0 E1 =>?_)
 simp only[Bt,Mz,bp]
 have R:=And.intro @p6 (And.intro @a6 (And.intro @dV @U))
 repeat' ((first
  |(with_reducible refine .guard (fun hb =>?_) (fun hb =>?_) <;>try simp only[hb])
  |refine ab.aO (by decide +kernel) rfl fun K hK =>?_
  |(refine .aI [0,1,2] hK ?_;clear hK K)
  |(with_reducible refine .done (hK _ ?_);clear hK K)
  |refine ab.of rfl ?_
  |(with_reducible refine ar.aL (fun h =>?_) (fun h =>?_) <;>try simp only[h])) <;>try simp only[aQ,R,simprocAttr])
 all_goals clear R
 all_goals rfl
def iC(l:List ak)(known:Int)(ks:List Item)(bs:List Bool):List (Nat×ai) :=
 [(1000002,.box (enc l)),(1000003,.box (.int .i64 known)),(1000005,.box (.mref 1000009)),(1000006,.box (.view 1000012 [] 1 0 l.length)),(1000009,.cz (ks.map enc) (List.replicate ks.length (.bool true))),(1000012,.box (.agg (bs.map enc)))]
theorem yU(p:Nat→Bool)(n:Nat)(b:Bool):I.bR p (List.replicate n (.bool b))=true:=by
 induction n with
 |zero=>rfl
 |succ n ih=>simp[List.replicate_succ,I.bR,I.only,ih]
theorem akT(ρ:Nat→Nat)(n:Nat)(b:Bool):I.cX ρ (List.replicate n (.bool b))=List.replicate n (.bool b):=by
 induction n with
 |zero=>rfl
 |succ n ih=>simp only[List.replicate_succ,I.cX,I.aR,ih]
theorem alC(l:List ak)(known:Int)(ks:List Item)(bs:List Bool)(l':List ak)(known':Int)(ks':List Item)(bs':List Bool):fA (iC l known ks bs) (iC l' known' ks' bs'):=by
 refine ⟨fun n=>by simp only[iC,au,al];(repeat' split) <;>rfl,fun n x h =>?_,fun n h =>?_⟩
 ·simp only[iC,al] at h
  repeat' split at h
  all_goals first | (cases h;done) | (simp only[Option.some.injEq] at h;subst h;exact ⟨by simp[iC,au,al,ai.only,bh,I.only,dN,yU],rfl⟩)
 ·simp only[iC,au,al] at h
  repeat' split at h
  all_goals first | omega | (simp at h;done)
def uR(l:List ak)(known:Int)(k:Nat)(ks:List Item)(bs:List Bool):Prop :=
 bs=List.replicate (l.length-k) false++(jK known (l.drop (l.length-k))).1∧∀ a,a∈ks↔a∈(jK known (l.drop (l.length-k))).2
theorem zE:(∀ (A:af) n b m rest,dQ A none n [] b (.mref m) rest (some (.raw (.map none)))=az rest (A.aK n (.box (.mref m))))∧(∀ (A:af) n b m p z lo k z2 rest,dQ A none n [] b (.view m p z lo k) rest (some (.nils z2))=az rest (A.aK n (.box (.view m p z lo k)))) ∧
  (∀ (A:af) n b m p z lo k m' p' z' lo' k' rest,dQ A none n [] b (.view m p z lo k) rest (some (.view m' p' z' lo' k'))=az rest (A.aK n (.box (.view m p z lo k)))) :=
 ⟨fun _ _ _ _ _=>by rw[ev (s:=none) (v:=.mref _) (old:=.raw _) rfl rfl rfl,gi],fun _ _ _ _ _ _ _ _ _ _=>by rw[ev (s:=none) (v:=.view ..) (old:=.nils _) rfl rfl rfl,gi],fun _ _ _ m p z lo k m' p' z' lo' k' _=>by rw[ev (s:=none) (v:=.view m p z lo k) (old:=.view m' p' z' lo' k') rfl rfl rfl,gi]⟩
theorem zF(known:Int):∀ l:List ak,(jK known l).1.length=l.length
 | []=>rfl
 |x::l=>by simp only[jK,List.length_cons,zF known l]
theorem OM{l:List ak}{known:Int}{k:Nat}{ks:List Item}{bs:List Bool}(h:uR l known k ks bs)(hk:k≤l.length):bs.length=l.length:=by
 rw[h.1,List.length_append,List.length_replicate,zF,List.length_drop];omega
def rH(l:List ak)(known:Int)(i:Nat)(ks:List Item):Bool:=decide ((ae l i).known≤known) && !decide ((ae l i).aX∈ks)
theorem alA{l:List ak}{known:Int}{k i:Nat}{ks:List Item}{bs:List Bool}(hk:k<l.length)(hi:i=l.length-1-k)(h:uR l known k ks bs) :
  uR l known (k+1) (if (rH l known i ks&&((ae l i).kind==0))=true then nj ks (ae l i).j0 else ks) (bs.set i (rH l known i ks)):=by
 have hkd:((ae l i).kind==0)=decide ((ae l i).kind=0):=rfl
 rw[hkd]
 obtain ⟨h1,h2⟩:=h
 have e1:l.length-k=i+1:=by omega
 have e2:l.length-(k+1)=i:=by omega
 rw[e1] at h1 h2
 have hil:i<l.length:=by omega
 have hd:l.drop i=ae l i::l.drop (i+1):=by rw[List.drop_eq_getElem_cons hil,fb hil]
 have hb:rH l known i ks=(decide ((ae l i).known≤known) && !(jK known (l.drop (i+1))).2.contains (ae l i).aX):=by
  simp only[rH]
  congr 2
  rw[Bool.eq_iff_iff,decide_eq_true_eq,List.contains_iff_mem]
  exact h2 _
 refine ⟨?_,fun a =>?_⟩
 ·rw[e2,hd,h1]
  simp only[jK,←hb]
  rw[List.replicate_succ',List.append_assoc,List.set_append_right _ _ (by simp)]
  simp
 ·rw[e2,hd]
  simp only[jK,←hb]
  split
  ·rw[aiA,List.mem_cons,h2]
  ·exact h2 a
theorem Po(l:List ak)(known:Int)(hl:l.length≤60):aA Tryz.prog 105 [enc l,enc known] (.func 146 [.ref (enc l),.ref (enc (lq l known))]):=by
 refine aA.bA Tryz.func105 RW TP VW (Nat.le_of_ble_eq_true rfl) (fun hwf W0 D0 E1 =>?_)
 simp only[AY,L7,bp,Nat.zero_add]
 clear hwf
 refine .ao (by decide +kernel) fun K hK =>?_
 simp only[Eo,U,simprocAttr]
 try simp only[a6,U,simprocAttr]
 refine .done (hK _ ?_);clear hK K
 refine .ao (by decide +kernel) fun K hK =>?_
 simp only[Ep,U,simprocAttr]
 try simp only[eJ,zE,U,simprocAttr]
 refine .done (hK _ ?_);clear hK K
 refine .ao (by decide +kernel) fun K hK =>?_
 simp only[Er,U,simprocAttr]
 try simp only[eJ,bn,a6,U,simprocAttr]
 rw[aiG (by omega) (by simp[maxLen];omega)]
 try simp only[zE,U,simprocAttr]
 refine .done (hK _ ?_);clear hK K
 refine ab.seq (ab.seq ?_)
 refine .bl (by decide +kernel) fun K hK =>?_
 simp only[Es,U,simprocAttr]
 try simp only[a6,U,simprocAttr]
 refine .lead _ (PF l) ?_
 try simp only[U,simprocAttr]
 refine .done (hK _ ?_);clear hK K;try simp only[aq]
 refine ab.block (ab.lh (osb0:=iC l known [] (List.replicate l.length false)) (tsR:=[(2,.ptr 1000002 []),(3,.ptr 1000003 []),(5,.ptr 1000005 []),(6,.ptr 1000006 [])]) (ρ:=[(1999999,999999),(1000002,2),(1000003,3),(1000005,5),(1000006,6),(1000009,9),(1000012,12)])
  (fun k os=>∃ ks bs,os=iC l known ks bs∧uR l known k ks bs)
  (fun _ _=>False)
  rfl (Nat.le_of_ble_eq_true rfl) (by simp only[U,simprocAttr]) (by simp[I.bX,I.bB,dV]) CQ (P3 l hl) (fun _=>rfl) rfl rfl rfl (fun o=>⟨?_,?_⟩) ?_ ?_ ?_ ⟨[],_,rfl,?_⟩ ?_ ?_ ?_)
 ·intro n x hx
  simp only[dI,iC,al] at hx
  repeat' split at hx
  all_goals first | (cases hx;done) | (subst_vars;simp only[Option.some.injEq] at hx;subst hx;simp[dI,iC,au,bD,al,ai.aR,I.aR,I.cX,hX,ai.only,I.only,I.bR,bh,ai.eS,yU,akT,Dt])
 ·intro a b ha hb
  simp only[dI,iC,au,al] at ha hb
  repeat' split at ha
  all_goals first | (simp at ha;done) | skip
  all_goals (repeat' split at hb)
  all_goals first | (simp at hb;done) | (subst_vars;simp[bD])
 ·simp[nd,aY,I.aR,bD,I.only,iC,au,al]
 ·rintro k os ⟨ks,bs,rfl,_⟩;exact alC ..
 ·rintro e os h;exact h.elim
 ·exact ⟨by simp[jK],fun a=>by simp[jK]⟩
 ·rintro k osb hk ⟨ks,bs,rfl,hst⟩ W1 D1 E1 ah7 o1 o2
  have hbl:=OM hst (Nat.le_of_lt hk)
  obtain ⟨i,hi⟩:∃ i,i=l.length-1-k:=⟨_,rfl⟩
  have hil:i<bs.length:=by omega
  have hil2:i<l.length:=by omega
  have hstep:=alA hk hi hst
  have hv:∀ fs,lW 1000012 [] 1 0 l.length 1 (i:Int) (some fs)=some (.ptr 1000012 [i]):=fun fs=>by
   have:=xY (m:=1000012) (sz:=1) (lo:=0) (l:=l.length) (i:=i) (fs:=fs) hil2
   rwa [Nat.zero_add] at this
  have hat2:∀ b,fB i [] (some ((bs.set i b).map enc))=some (.bool b):=fun b=>by
   rw[AK (by simpa using hil)]
   simp[List.getD_eq_getElem?_getD,hil]
  have hset:=fun (A:af) v u rest=>alG (A:=A) (n:=1000012) hil v u rest
  have hat:=AK hil
  have hlk:=aik qU (ae l i).aX ks
  simp only[rP,dI,iC,←hi]
  have R:=And.intro @a6 @U
  repeat' ((first
   |(with_reducible refine .guard (fun hb =>?_) (fun hb =>?_) <;>try simp only[hb])
   |refine ab.aO (by decide +kernel) rfl fun K hK =>?_
   |(refine .aI [0,1,2,3,4,5,6,7,8,14,15,16,39] hK ?_;clear hK K)
   |(with_reducible refine .done (hK _ ?_);clear hK K)
   |refine ab.of rfl ?_
   |(with_reducible refine ar.aL (fun h =>?_) (fun h =>?_) <;>try simp only[h])) <;>try simp only[aQ,R,simprocAttr])
  all_goals clear R
  refine ⟨by simp[],?_⟩
  rcases h1:decide ((ae l i).known≤known) <;>rcases h2:decide ((ae l i).aX∈ks) <;>rcases h3:(ae l i).kind==0
  all_goals
   simp only[rH,h1,h2,h3,Bool.not_true,Bool.not_false,Bool.and_true,Bool.and_false,Bool.false_eq_true,if_true,if_false] at hstep
   have hup:=aiN qU (ae l i).j0 ks
   try simp only[U,simprocAttr]
   have R:=And.intro @h1 (And.intro @h2 (And.intro @h3 (And.intro @hv (And.intro @hset (And.intro @hat (And.intro @hat2 (And.intro @hlk (And.intro @hup (And.intro @eT (And.intro @zE (And.intro @eJ (And.intro @dp (And.intro @bn (And.intro @a6 @U))))))))))))))
   repeat' ((first
    |(with_reducible refine .guard (fun hb =>?_) (fun hb =>?_) <;>try simp only[hb])
    |refine ab.aO (by decide +kernel) rfl fun K hK =>?_
    |(refine .aI [0,1,2,3,4,5,6,7,8,14,15,16,39] hK ?_;clear hK K)
    |(with_reducible refine .done (hK _ ?_);clear hK K)
    |refine ab.of rfl ?_
    |(with_reducible refine ar.aL (fun h =>?_) (fun h =>?_) <;>try simp only[h])) <;>try simp only[aQ,R,simprocAttr])
   all_goals clear R
   generalize bs.set i _=amm at hstep ⊢
   try generalize nj ks _=ks2 at hstep ⊢
   refine ⟨iC l known _ _,?_,_,_,rfl,hstep⟩
   intro n x hx
   simp only[dI,iC,al] at hx
   (repeat' split at hx) <;>first
    |(cases hx;done)
    |(subst_vars;simp only[Option.some.injEq] at hx;subst hx;simp[iC,dI,au,av,al,ai.only,I.only,bh,ai.eS,dN,yU])
 ·rintro os ⟨ks,bs,rfl,hst⟩
  have hbs:bs=lq l known:=by
   have:=hst.1
   simpa[lq] using this
  have hbl:=OM hst (Nat.le_refl _)
  try simp only[iC,gh,hX,gu,List.cons_append,List.nil_append,aq,bN,simprocAttr]
  have R:=And.intro @p6 (And.intro @a6 @U)
  repeat' ((first
   |(with_reducible refine .guard (fun hb =>?_) (fun hb =>?_) <;>try simp only[hb])
   |refine ab.aO (by decide +kernel) rfl fun K hK =>?_
   |(refine .aI [0,1,2,3,4,5,6,7,8,14,15,16,39] hK ?_;clear hK K)
   |(with_reducible refine .done (hK _ ?_);clear hK K)
   |refine ab.of rfl ?_
   |(with_reducible refine ar.aL (fun h =>?_) (fun h =>?_) <;>try simp only[h])) <;>try simp only[aQ,R,simprocAttr])
  all_goals clear R
  have hfd:=fun A (ho:A.o 12=some (.box (.agg (bs.map enc))))=>Zw (A:=A) (m:=8) (n:=12) (sz:=1) ho rfl hbl.symm
  try simp only[iH,U,simprocAttr]
  rw[hfd _ rfl]
  try simp only[hbs,U,simprocAttr]
 ·rintro e os h;exact h.elim
end Go.Proofs.YtcldiigclhgafaaGreat
