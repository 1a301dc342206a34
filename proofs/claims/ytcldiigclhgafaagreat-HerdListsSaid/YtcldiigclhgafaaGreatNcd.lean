/-
  A part of the proof that the law HerdLists returns true for every input; conditions: none beyond the statement's own. (part 4 of 7)
-/
import Derived.Shelf.Sort.Plain
import Derived.Shelf.Slices.In.SortNone
import Derived.Test.YtcldiigclhgafaaGreatNcc
set_option linter.unusedSimpArgs false
set_option linter.unusedVariables false
set_option maxHeartbeats 16000000
set_option maxRecDepth 100000
namespace Go.Proofs.YtcldiigclhgafaaGreat
open Go Go.Abs
open Go.Abs.Enc (enc)
def b6(lo hi n:Int):Bool:=decide (lo≤n)&&decide (n≤hi)
def ng(a b:Int):Int:=IntKind.i64.wrap ((BitVec.ofInt IntKind.i64.bits a &&& BitVec.ofInt IntKind.i64.bits b).toNat:Int)
def shl(a:Int)(k:Nat):Int:=IntKind.i64.wrap (a*2^min k IntKind.i64.bits)
theorem aj7(m:bL 6 Int):az Tryz.prog 100 [enc m] (enc (if (List.range 6).all (fun i=>b6 0 4 (m.g i)) then (0:Int) else 10)):=by
 refine az.bn Tryz.func100 Ph Rf Tp (Nat.le_of_ble_eq_true rfl) (fun hwf W0 D0 E1 =>?_)
 simp only[zo,Js,bg]
 refine .ar (by decide +kernel) fun K hK =>?_
 simp only[CF,ab,simprocAttr]
 refine .done (hK _ ?_);clear hK K
 refine U.seq ?_
 refine .ar (by decide +kernel) fun K hK =>?_
 simp only[CG,ab,simprocAttr]
 refine .done (hK _ ?_);clear hK K
 refine U.block (U.loop (fun i:Nat=>av [(1,.ptr 1 []),(2,.int .i64 0),(3,.int .i64 i)] [(1,.box (enc m))]) (fun j=>j≤6∧∀ i,i<j→b6 0 4 (m.g i)=true) (fun i=>6-i) 0 ⟨by omega,fun k h=>by omega⟩ ?_ (fun i hi =>?_))
 ·refine aI.b9 ?_ ?_ ?_ ?_ <;>simp[bd,bT,bS,bD,au,bh,cI,I.only,ai.only,bG]
 ·refine U.seq (U.seq ?_)
  refine .bP (by decide +kernel) fun K hK =>?_
  simp only[CH,ab,simprocAttr]
  refine .done (hK _ ?_);clear hK K;try simp only[ay]
  refine U.bM ?_
  simp only[ao,ab,simprocAttr]
  refine ⟨fun h =>?_,fun h =>?_⟩
  ·have hlt:i<6:=by simp at h;omega
   refine U.skip ?_;try simp only[ay,simprocAttr]
   refine U.seq (U.block ?_)
   refine .ar (by decide +kernel) fun K hK =>?_
   simp only[CI,ab,simprocAttr]
   try simp only[bI,ny 1 m hlt rfl,oB m hlt,ab,simprocAttr]
   refine .flat _ (rh _ 0 4) rfl ?_
   try simp only[ab,simprocAttr]
   refine .done (hK _ ?_);clear hK K
   refine U.bM ?_
   simp only[ao,ab,simprocAttr]
   refine ⟨fun h =>?_,fun h =>?_⟩
   ·refine .ar (by decide +kernel) fun K hK =>?_
    simp only[CJ,ab,simprocAttr]
    refine .done (hK _ ?_);clear hK K
    refine U.ret ?_
    simp only[cg,ay,ab,simprocAttr]
    rw[mC i hlt]
    ·simp
    ·simp at h;simp[b6];omega
   ·refine U.skip ?_;try simp only[ay,cg,simprocAttr]
    refine .bP (by decide +kernel) fun K hK =>?_
    simp only[CK,ab,simprocAttr]
    refine .done (hK _ ?_);clear hK K;try simp only[ay]
    refine ⟨i+1,⟨by omega,fun k hk =>?_⟩,by omega,?_⟩
    ·by_cases hk':k=i
     ·subst hk'
      simpa[b6] using h
     ·exact hi.2 k (by omega)
    ·rw[cN _ (by omega) (by omega)]
     refine aI.b9 ?_ ?_ ?_ ?_ <;>simp[bd,bT,bS,bD,au,bh,cI,I.only,ai.only,bG]
  ·have hge:i=6:=by simp at h;omega
   subst hge
   refine U.exit ?_;try simp only[ay,cg,simprocAttr]
   refine .ar (by decide +kernel) fun K hK =>?_
   simp only[CL,ab,simprocAttr]
   refine .done (hK _ ?_);clear hK K
   refine U.ret ?_
   simp only[ab,simprocAttr]
   rw[ov hi.2]
   simp
theorem MA(m:bL 6 Int):az Tryz.prog 101 [enc m] (enc (if (List.range 6).all (fun i=>b6 1 31 (m.g i)) then (0:Int) else 12)):=by
 refine az.bn Tryz.func101 Pj Rg Tq (Nat.le_of_ble_eq_true rfl) (fun hwf W0 D0 E1 =>?_)
 simp only[zp,Jt,bg]
 refine .ar (by decide +kernel) fun K hK =>?_
 simp only[CM,ab,simprocAttr]
 refine .done (hK _ ?_);clear hK K
 refine U.seq ?_
 refine .ar (by decide +kernel) fun K hK =>?_
 simp only[CN,ab,simprocAttr]
 refine .done (hK _ ?_);clear hK K
 refine U.block (U.loop (fun i:Nat=>av [(1,.ptr 1 []),(2,.int .i64 0),(3,.int .i64 i)] [(1,.box (enc m))]) (fun j=>j≤6∧∀ i,i<j→b6 1 31 (m.g i)=true) (fun i=>6-i) 0 ⟨by omega,fun k h=>by omega⟩ ?_ (fun i hi =>?_))
 ·refine aI.b9 ?_ ?_ ?_ ?_ <;>simp[bd,bT,bS,bD,au,bh,cI,I.only,ai.only,bG]
 ·refine U.seq (U.seq ?_)
  refine .bP (by decide +kernel) fun K hK =>?_
  simp only[CO,ab,simprocAttr]
  refine .done (hK _ ?_);clear hK K;try simp only[ay]
  refine U.bM ?_
  simp only[ao,ab,simprocAttr]
  refine ⟨fun h =>?_,fun h =>?_⟩
  ·have hlt:i<6:=by simp at h;omega
   refine U.skip ?_;try simp only[ay,simprocAttr]
   refine U.seq (U.block ?_)
   refine .ar (by decide +kernel) fun K hK =>?_
   simp only[CP,ab,simprocAttr]
   try simp only[bI,ny 1 m hlt rfl,oB m hlt,ab,simprocAttr]
   refine .flat _ (rh _ 1 31) rfl ?_
   try simp only[ab,simprocAttr]
   refine .done (hK _ ?_);clear hK K
   refine U.bM ?_
   simp only[ao,ab,simprocAttr]
   refine ⟨fun h =>?_,fun h =>?_⟩
   ·refine .ar (by decide +kernel) fun K hK =>?_
    simp only[CQ,ab,simprocAttr]
    refine .done (hK _ ?_);clear hK K
    refine U.ret ?_
    simp only[cg,ay,ab,simprocAttr]
    rw[mC i hlt]
    ·simp
    ·simp at h;simp[b6];omega
   ·refine U.skip ?_;try simp only[ay,cg,simprocAttr]
    refine .bP (by decide +kernel) fun K hK =>?_
    simp only[CR,ab,simprocAttr]
    refine .done (hK _ ?_);clear hK K;try simp only[ay]
    refine ⟨i+1,⟨by omega,fun k hk =>?_⟩,by omega,?_⟩
    ·by_cases hk':k=i
     ·subst hk'
      simpa[b6] using h
     ·exact hi.2 k (by omega)
    ·rw[cN _ (by omega) (by omega)]
     refine aI.b9 ?_ ?_ ?_ ?_ <;>simp[bd,bT,bS,bD,au,bh,cI,I.only,ai.only,bG]
  ·have hge:i=6:=by simp at h;omega
   subst hge
   refine U.exit ?_;try simp only[ay,cg,simprocAttr]
   refine .ar (by decide +kernel) fun K hK =>?_
   simp only[CS,ab,simprocAttr]
   refine .done (hK _ ?_);clear hK K
   refine U.ret ?_
   simp only[ab,simprocAttr]
   rw[ov hi.2]
   simp
structure cz where
 cB:Int
 mark:bL 6 Int
instance:Enc cz where
 enc g:=.agg [.int .i64 g.cB,enc g.mark]
 sz:=7
 aT:=.ej [.one,.ej (List.replicate 6 .one)]
 fP:=true
 done g:=by simp only[I.done,I.eO,Enc.done,Bool.and_self]
 size g:=by simp only[I.size,I.sizes,jd,lM,lN]
 j4 g:=by simp only[I.aT,I.cM,fm,uY,uZ]
 agg _:=rfl
structure cH where
 gi:bL 5 Int
 gM:Int
 given:List cz
instance:Enc cH where
 enc m:=.agg [enc m.gi,.int .i64 m.gM,enc m.given]
 sz:=7
 aT:=.ej [.ej (List.replicate 5 .one),.one,.one]
 fP:=true
 done m:=by simp only[I.done,I.eO,Enc.done,Bool.and_self]
 size m:=by simp only[I.size,I.sizes,jd,lM,lN,u5]
 j4 m:=by simp only[I.aT,I.cM,fm,uY,uZ,B9]
 agg _:=rfl
theorem lZ{fs:List I}{f off:Nat}{v:I}(h1:f<fs.length)(h:I.sizes (fs.take f)=off):dX fs f off v=some v:=by simp[dX,h,h1]
theorem dB :
  (∀ m:cH,(enc m).du=some [enc m.gi,.int .i64 m.gM,enc m.given])∧(∀ g:cz,(enc g).du=some [.int .i64 g.cB,enc g.mark]) ∧
  (∀ (w:bL 5 Int) (n:Int) (g:List cz) v,dX [enc w,.int .i64 n,enc g] 0 0 v=some v)∧(∀ (w:bL 5 Int) (n:Int) (g:List cz) v,dX [enc w,.int .i64 n,enc g] 1 5 v=some v)∧(∀ (w:bL 5 Int) (n:Int) (g:List cz) v,dX [enc w,.int .i64 n,enc g] 2 6 v=some v) ∧
  (∀ (n:Int) (m:bL 6 Int) v,dX [.int .i64 n,enc m] 0 0 v=some v)∧(∀ (n:Int) (m:bL 6 Int) v,dX [.int .i64 n,enc m] 1 1 v=some v) ∧
  (∀ (g:List cz),bZ none (enc g)=true)∧(∀ (g:List Int),bZ none (enc g)=true)∧(∀ (g:bL 5 Int),bZ (some 5) (enc g)=true)∧(∀ (g:bL 6 Int),bZ (some 6) (enc g)=true)∧(∀ (g:cz),bZ (some 7) (enc g)=true)∧(∀ (g:cH),bZ (some 7) (enc g)=true) ∧
  (∀ (fs:List I) x,(x::fs)[0]?=some x)∧(∀ (fs:List I) x n,(x::fs)[n+1]?=fs[n]?)∧(∀ (fs:List I) x,(x::fs)[1]?=fs[0]?)∧(∀ (fs:List I) x,(x::fs)[2]?=fs[1]?) :=
 ⟨fun _=>rfl,fun _=>rfl,fun _ _ _ _=>lZ (Nat.le_of_ble_eq_true rfl) rfl,fun w n g v=>lZ (Nat.le_of_ble_eq_true rfl) (by simp[I.sizes,jd,lM,lN]),fun w n g v=>lZ (Nat.le_of_ble_eq_true rfl) (by simp[I.sizes,I.size,jd,lM,lN]),fun _ _ _=>lZ (Nat.le_of_ble_eq_true rfl) rfl,fun _ _ _=>lZ (Nat.le_of_ble_eq_true rfl) (by simp[I.sizes,I.size]),
  fun _=>by simp[lL,mI],fun _=>by simp[lL,mI],fun _=>by simp[gK,uX,lM,lN],fun _=>by simp[gK,uX,lM,lN],fun _=>by rw[gK];rfl,fun _=>by rw[gK];rfl,
  fun _ _=>rfl,fun _ _ _=>rfl,fun _ _=>rfl,fun _ _=>rfl⟩
theorem qV(n lo hi:Int):az Tryz.prog 121 [enc n,enc lo,enc hi] (enc (b6 lo hi n)):=by
 refine az.bn Tryz.func121 Px Ru TE (Nat.le_of_ble_eq_true rfl) (fun hwf W0 D0 E1 =>?_)
 simp only[zG,JH,bg,Nat.zero_add,Nat.reduceAdd]
 refine .ar (by decide +kernel) fun K hK =>?_
 simp only[Dp,ab,simprocAttr]
 refine .done (hK _ ?_);clear hK K
 refine .ar (by decide +kernel) fun K hK =>?_
 simp only[Dq,ab,simprocAttr]
 refine .guard (fun h =>?_) (fun h =>?_)
 ·simp only[ab,simprocAttr,h]
  refine .done (hK _ ?_);clear hK K
  refine U.ret ?_
  simp only[ab,simprocAttr]
  simp_all[b6]
 ·simp only[ab,simprocAttr,h]
  refine .done (hK _ ?_);clear hK K
  refine U.ret ?_
  simp only[ab,simprocAttr]
  simp at h
  simp[b6];omega
theorem yJ(n:Int):az Tryz.prog 160 [enc n] (enc (b6 0 31 n)):=by
 refine az.bn Tryz.func160 PZ RW T8 (Nat.le_of_ble_eq_true rfl) (fun hwf W0 D0 E1 =>?_)
 simp only[Ae,J9,bg]
 refine .ar (by decide +kernel) fun K hK =>?_
 simp only[EM,ab,simprocAttr]
 refine .done (hK _ ?_);clear hK K
 refine .ar (by decide +kernel) fun K hK =>?_
 simp only[EN,ab,simprocAttr]
 refine .flat _ (qV n 0 31) rfl ?_
 try simp only[ab,simprocAttr]
 refine .done (hK _ ?_);clear hK K
 refine U.ret ?_
 simp only[ab,simprocAttr]
theorem yM(a b:Int):az Tryz.prog 196 [enc a,enc b] (enc (ng a b != 0)):=by
 refine az.bn Tryz.func196 Qj Sh Ut (Nat.le_of_ble_eq_true rfl) (fun hwf W0 D0 E1 =>?_)
 simp only[AA,Ku,bg,Nat.zero_add]
 refine .ar (by decide +kernel) fun K hK =>?_
 simp only[FK,ab,simprocAttr]
 refine .done (hK _ ?_);clear hK K
 refine .ar (by decide +kernel) fun K hK =>?_
 simp only[FL,ab,simprocAttr]
 refine .done (hK _ ?_);clear hK K
 refine U.ret ?_
 simp only[ab,simprocAttr]
 rfl
theorem tY(w:bL 5 Int)(m:bL 6 Int)(i:Nat)(hi:i<6)(h0:0≤m.g i)(h5:m.g i<5):az Tryz.prog 199 [enc w,enc m,enc (i:Int)] (enc (w.g (m.g i).toNat)):=by
 refine az.bn Tryz.func199 Qm Sk Uw (Nat.le_of_ble_eq_true rfl) (fun hwf W0 D0 E1 =>?_)
 simp only[AE,Ky,bg,Nat.zero_add,Nat.reduceAdd]
 refine .ar (by decide +kernel) fun K hK =>?_
 simp only[FX,ab,simprocAttr]
 refine .done (hK _ ?_);clear hK K
 refine .ar (by decide +kernel) fun K hK =>?_
 simp only[FY,ab,simprocAttr]
 have hk:(m.g i).toNat<5:=by omega
 try simp only[bI,ny 1 m hi rfl,oB m hi,ab,simprocAttr]
 try simp only[bI,wG 1 w ⟨h0,h5⟩ rfl,oB w hk,ab,simprocAttr]
 refine .done (hK _ ?_);clear hK K
 refine U.ret ?_
 simp only[ab,simprocAttr]
def jy(p:Nat→Bool):Nat→Nat
 |0=>0
 |n+1=>jy p n+if p n then 1 else 0
def pM(w:bL 5 Int)(a b:bL 6 Int)(i:Nat):Bool:=ng (w.g (a.g i).toNat) (w.g (b.g i).toNat)==0
def fR(m:bL 6 Int):Bool:=(List.range 6).all fun i=>b6 0 4 (m.g i)
theorem xv{m:bL 6 Int}(h:fR m=true){i:Nat}(hi:i<6):0≤m.g i∧m.g i<5:=by
 simp only[fR,List.all_eq_true,List.mem_range] at h
 have:=h i hi
 simp[b6] at this
 omega
def kc(w:Int)(k:Nat):Bool:=ng w (shl 1 k) != 0
def lU(w:Int):Nat→List Int
 |0=>[]
 |k+1=>lU w k++if kc w k then [(k:Int)] else []
theorem IE(w:Int):∀ k,(lU w k).length≤k
 |0=>Nat.le_refl _
 |k+1=>by
  have:=IE w k
  simp only[lU,List.length_append]
  split <;>simp <;>omega
theorem aj8(w:Int):az Tryz.prog 141 [enc w] (enc (lU w 5)):=by
 refine az.bn Tryz.func141 PN RK TU (Nat.le_of_ble_eq_true rfl) (fun hwf W0 D0 E1 =>?_)
 simp only[zW,JX,bg]
 refine .ar (by decide +kernel) fun K hK =>?_
 simp only[DS,ab,simprocAttr]
 refine .done (hK _ ?_);clear hK K
 refine .ar (by decide +kernel) fun K hK =>?_
 simp only[DT,ab,simprocAttr]
 refine .done (hK _ ?_);clear hK K
 refine U.seq (U.seq ?_)
 refine .bP (by decide +kernel) fun K hK =>?_
 simp only[DU,ab,simprocAttr]
 refine .done (hK _ ?_);clear hK K;try simp only[ay]
 refine U.block (U.loop (fun i:Nat=>av [(0,.int .i64 w),(2,.nils 1),(3,.own 3 (lU w i).length),(4,.int .i64 i)] [(3,.bX 3 1 ((lU w i).map enc))]) (fun i=>i≤5) (fun i=>5-i) 0 (by omega) ?_ (fun i hi =>?_))
 ·refine aI.pK 3 3 3 1 1 ?_ ?_ ?_
  ·simp only[ot,Nat.reduceEqDiff,reduceIte]
  ·simp only[ot]
  ·simp only[lU,List.map_nil,List.length_nil]
   refine aI.b9 ?_ ?_ ?_ ?_ <;>simp[bd,bT,bS,bD,au,bh,cI,I.only,I.bU,ai.only]
 ·refine U.seq (U.seq ?_)
  refine .bP (by decide +kernel) fun K hK =>?_
  simp only[DV,ab,simprocAttr]
  refine .done (hK _ ?_);clear hK K;try simp only[ay]
  refine U.bM ?_
  simp only[ao,ab,simprocAttr]
  refine ⟨fun h =>?_,fun h =>?_⟩
  ·have hlt:i<5:=by simp at h;omega
   have hml:=IE w i
   refine U.skip ?_;try simp only[ay,simprocAttr]
   refine U.seq (U.block ?_)
   refine .ar (by decide +kernel) fun K hK =>?_
   simp only[DW,ab,simprocAttr]
   refine .done (hK _ ?_);clear hK K
   refine U.bM ?_
   simp only[ao,ab,simprocAttr]
   refine ⟨fun h =>?_,fun h =>?_⟩
   ·have hb:kc w i=true:=h
    refine .bP (by decide +kernel) fun K hK =>?_
    simp only[DX,ab,simprocAttr]
    rw[oy 3 1 8 3 rfl rfl (by simp) (by simp[maxLen];omega) (by simp;omega)]
    try simp only[ab,simprocAttr]
    refine .done (hK _ ?_);clear hK K;try simp only[ay,cg]
    refine .bP (by decide +kernel) fun K hK =>?_
    simp only[vF,ab,simprocAttr]
    refine .done (hK _ ?_);clear hK K;try simp only[ay]
    refine ⟨i+1,by omega,by omega,?_⟩
    rw[cN _ (by omega) (by omega)]
    simp only[lU,hb,reduceIte]
    refine aI.b9 ?_ ?_ ?_ ?_ <;>simp[bd,bT,bS,bD,au,bh,cI,I.only,I.bU,ai.only,ev,jF,jN]
   ·have hb:kc w i=false:=h
    refine U.skip ?_;try simp only[ay,cg,simprocAttr]
    refine .bP (by decide +kernel) fun K hK =>?_
    simp only[vF,ab,simprocAttr]
    refine .done (hK _ ?_);clear hK K;try simp only[ay]
    refine ⟨i+1,by omega,by omega,?_⟩
    rw[cN _ (by omega) (by omega)]
    simp only[lU,hb,reduceIte,Bool.false_eq_true,List.append_nil]
    refine aI.b9 ?_ ?_ ?_ ?_ <;>simp[bd,bT,bS,bD,au,bh,cI,I.only,ai.only,ev]
  ·have hge:i=5:=by simp at h;omega
   subst hge
   refine U.exit ?_;try simp only[ay,cg,simprocAttr]
   refine .ar (by decide +kernel) fun K hK =>?_
   simp only[DY,ab,simprocAttr]
   refine .done (hK _ ?_);clear hK K
   refine U.ret ?_
   try simp only[ab,simprocAttr]
theorem aka(m:bL 5 Int):az Tryz.prog 99 [enc m] (enc (if (List.range 5).all (fun i=>b6 0 31 (m.g i)&&kc (m.g i) i) then (0:Int) else 11)):=by
 refine az.bn Tryz.func99 Q8 S8 Vi (Nat.le_of_ble_eq_true rfl) (fun hwf W0 D0 E1 =>?_)
 simp only[Br,Lj,bg]
 refine .ar (by decide +kernel) fun K hK =>?_
 simp only[HL,ab,simprocAttr]
 refine .done (hK _ ?_);clear hK K
 refine U.seq ?_
 refine .ar (by decide +kernel) fun K hK =>?_
 simp only[HM,ab,simprocAttr]
 refine .done (hK _ ?_);clear hK K
 refine U.block (U.loop (fun i:Nat=>av [(1,.ptr 1 []),(2,.int .i64 0),(3,.int .i64 i)] [(1,.box (enc m))]) (fun j=>j≤5∧∀ i,i<j→(b6 0 31 (m.g i)&&kc (m.g i) i)=true) (fun i=>5-i) 0 ⟨by omega,fun k h=>by omega⟩ ?_ (fun i hi =>?_))
 ·refine aI.b9 ?_ ?_ ?_ ?_ <;>simp[bd,bT,bS,bD,au,bh,cI,I.only,ai.only,bG]
 ·refine U.seq (U.seq ?_)
  refine .bP (by decide +kernel) fun K hK =>?_
  simp only[HN,ab,simprocAttr]
  refine .done (hK _ ?_);clear hK K;try simp only[ay]
  refine U.bM ?_
  simp only[ao,ab,simprocAttr]
  refine ⟨fun h =>?_,fun h =>?_⟩
  ·have hlt:i<5:=by simp at h;omega
   refine U.skip ?_;try simp only[ay,simprocAttr]
   refine U.seq (U.block ?_)
   refine .ar (by decide +kernel) fun K hK =>?_
   simp only[HO,ab,simprocAttr]
   try simp only[bI,ny 1 m hlt rfl,oB m hlt,ab,simprocAttr]
   refine .flat _ (rh _ 0 31) rfl ?_
   generalize hb:(decide (0≤m.g i)&&decide (m.g i≤31))=b
   cases b
   ·try simp only[ab,simprocAttr]
    refine .done (hK _ ?_);clear hK K
    refine U.bM ?_
    simp only[ao,ab,simprocAttr]
    refine ⟨fun h =>?_,fun h =>?_⟩
    ·refine .ar (by decide +kernel) fun K hK =>?_
     simp only[wc,ab,simprocAttr]
     refine .done (hK _ ?_);clear hK K
     refine U.ret ?_
     simp only[cg,ay,ab,simprocAttr]
     rw[mC i hlt]
     ·simp
     ·simp only[b6,hb,Bool.false_and]
    ·cases h
   ·try simp only[bI,ny 1 m hlt rfl,oB m hlt,ab,simprocAttr]
    refine .done (hK _ ?_);clear hK K
    refine U.bM ?_
    simp only[ao,ab,simprocAttr]
    refine ⟨fun h =>?_,fun h =>?_⟩
    ·refine .ar (by decide +kernel) fun K hK =>?_
     simp only[wc,ab,simprocAttr]
     refine .done (hK _ ?_);clear hK K
     refine U.ret ?_
     simp only[cg,ay,ab,simprocAttr]
     rw[mC i hlt]
     ·simp
     ·simp only[b6,hb,Bool.true_and,kc,ng,shl]
      simpa using h
    ·refine U.skip ?_;try simp only[ay,cg,simprocAttr]
     refine .bP (by decide +kernel) fun K hK =>?_
     simp only[HP,ab,simprocAttr]
     refine .done (hK _ ?_);clear hK K;try simp only[ay]
     refine ⟨i+1,⟨by omega,fun k hk =>?_⟩,by omega,?_⟩
     ·by_cases hk':k=i
      ·subst hk'
       simp only[b6,hb,Bool.true_and,kc,ng,shl]
       simpa using h
      ·exact hi.2 k (by omega)
     ·rw[cN _ (by omega) (by omega)]
      refine aI.b9 ?_ ?_ ?_ ?_ <;>simp[bd,bT,bS,bD,au,bh,cI,I.only,ai.only,bG]
  ·have hge:i=5:=by simp at h;omega
   subst hge
   refine U.exit ?_;try simp only[ay,cg,simprocAttr]
   refine .ar (by decide +kernel) fun K hK =>?_
   simp only[HQ,ab,simprocAttr]
   refine .done (hK _ ?_);clear hK K
   refine U.ret ?_
   simp only[ab,simprocAttr]
   rw[ov hi.2]
   simp
theorem yO(a b:List Int):az Tryz.prog 20 [enc a,enc b] (enc (decide (a=b))):=by
 refine az.bn Tryz.func20 Qn Sl Ux (Nat.le_of_ble_eq_true rfl) (fun hwf W0 D0 E1 =>?_)
 simp only[AF,Kz,bg,Nat.zero_add]
 have hlen:a.length≤maxLen:=((j6 a).1 hwf.1).1
 simp only[maxLen] at hlen
 refine .ar (by decide +kernel) fun K hK =>?_
 simp only[Gt,ab,simprocAttr]
 refine .done (hK _ ?_);clear hK K
 refine U.seq (U.seq ?_)
 refine .bP (by decide +kernel) fun K hK =>?_
 simp only[Gu,ab,simprocAttr]
 try simp only[bI,ab,simprocAttr]
 refine .done (hK _ ?_);clear hK K;try simp only[ay]
 refine U.bM ?_
 simp only[ao,ab,simprocAttr]
 refine ⟨fun h =>?_,fun h =>?_⟩
 ·refine .ar (by decide +kernel) fun K hK =>?_
  simp only[Gv,ab,simprocAttr]
  refine .done (hK _ ?_);clear hK K
  refine U.ret ?_
  simp only[ay,ab,simprocAttr]
  simp at h
  have:a≠b:=fun e=>h (by rw[e])
  simp[this]
 ·have hab:a.length=b.length:=by simp at h;omega
  refine U.skip ?_;try simp only[ay,simprocAttr]
  refine U.seq ?_
  refine .ar (by decide +kernel) fun K hK =>?_
  simp only[Gw,ab,simprocAttr]
  refine .done (hK _ ?_);clear hK K
  refine U.block (U.loop (fun i:Nat=>av [(0,enc a),(1,enc b),(5,.int .i64 i)] []) (fun i=>i≤a.length∧a.take i=b.take i) (fun i=>a.length-i) 0 ⟨Nat.zero_le _,by simp⟩ ?_ (fun i hi =>?_))
  ·refine aI.b9 ?_ ?_ ?_ ?_ <;>simp[bd,bT,bS,bD,bh,I.only,bG]
  ·refine U.seq (U.seq ?_)
   refine .bP (by decide +kernel) fun K hK =>?_
   simp only[Gx,ab,simprocAttr]
   try simp only[bI,ab,simprocAttr]
   refine .done (hK _ ?_);clear hK K;try simp only[ay]
   refine U.bM ?_
   simp only[ao,ab,simprocAttr]
   refine ⟨fun h =>?_,fun h =>?_⟩
   ·have hlt:i<a.length:=by simpa using h
    have hlb:i<b.length:=by omega
    refine U.skip ?_;try simp only[ay,simprocAttr]
    refine U.seq (U.block ?_)
    refine .ar (by decide +kernel) fun K hK =>?_
    simp only[Gy,ab,simprocAttr]
    try simp only[gw 1 hlt rfl,gw 1 hlb rfl,ab,simprocAttr]
    refine .done (hK _ ?_);clear hK K
    refine U.bM ?_
    simp only[ao,ab,simprocAttr]
    refine ⟨fun h =>?_,fun h =>?_⟩
    ·refine .ar (by decide +kernel) fun K hK =>?_
     simp only[Gz,ab,simprocAttr]
     refine .done (hK _ ?_);clear hK K
     refine U.ret ?_
     simp only[cg,ay,ab,simprocAttr]
     have hne:a≠b:=fun e=>by subst e;simp at h
     simp[hne]
    ·refine U.skip ?_;try simp only[ay,cg,simprocAttr]
     refine .bP (by decide +kernel) fun K hK =>?_
     simp only[GA,ab,simprocAttr]
     refine .done (hK _ ?_);clear hK K;try simp only[ay]
     refine ⟨i+1,⟨by omega,?_⟩,by omega,?_⟩
     ·rw[List.take_succ_eq_append_getElem hlt,List.take_succ_eq_append_getElem hlb,hi.2]
      simp at h
      rw[h]
     ·rw[cN _ (by omega) (by omega)]
      refine aI.b9 ?_ ?_ ?_ ?_ <;>simp[bd,bT,bS,bD,bh,I.only,bG]
   ·have hge:i=a.length:=by simp at h;omega
    refine U.exit ?_;try simp only[ay,cg,simprocAttr]
    refine .ar (by decide +kernel) fun K hK =>?_
    simp only[GB,ab,simprocAttr]
    refine .done (hK _ ?_);clear hK K
    refine U.ret ?_
    simp only[ab,simprocAttr]
    have:a=b:=by
     have:=hi.2
     rw[hge,List.take_length] at this
     rw[hab,List.take_length] at this
     exact this
    simp[this]
def ep(m:cH)(i:Nat):cz:=m.given.getD i ⟨0,⟨List.replicate 6 0,rfl⟩⟩
theorem km{m:cH}{i:Nat}(h:i<m.given.length):m.given[i]=ep m i:=by simp[ep,List.getD_eq_getElem?_getD,h]
theorem Ie{A:af}{m:cH}{i:Nat}(h:i<m.given.length):jf A 7 (i:Int) (enc m.given)=some (.ref (enc (ep m i))):=by
 rw[gw 7 h rfl,km h]
def ph(w:bL 5 Int):Bool:=(List.range 5).all (fun i=>b6 0 31 (w.g i)&&kc (w.g i) i)
def m8(m:cH)(a b:bL 6 Int):Bool:=decide ((jy (pM m.gi a b) 6:Int)≤IntKind.i64.wrap (2*m.gM))
def iM(m:cH)(i:Nat):Bool:=b6 1 99 (ep m i).cB&&(fR (ep m i).mark&&((i==0||decide ((ep m (i-1)).cB<(ep m i).cB))&&(List.range i).all (fun j => !m8 m (ep m j).mark (ep m i).mark)))
def gD(m:cH):Bool:=ph m.gi&&(b6 0 2 m.gM&&(decide (m.given.length≤40)&&(List.range m.given.length).all (iM m)))
theorem IW{m:cH}{i:Nat}(h:iM m i=true):fR (ep m i).mark=true:=by
 simp only[iM,Bool.and_eq_true] at h
 exact h.2.1
def rI(w:bL 5 Int)(a:bL 6 Int)(r:bL 6 Int)(i:Nat):Bool:=ng (w.g (a.g i).toNat) (r.g i)==0
def lJ(w:bL 5 Int)(a r:bL 6 Int):Int:=(jy (rI w a r) 6:Int)
def lp(r:bL 6 Int):Bool:=(List.range 6).all fun i=>b6 1 31 (r.g i)
theorem MB(m:bL 6 Int):az Tryz.prog 101 [enc m] (enc (if lp m then (0:Int) else 12)):=MA m
theorem xi:I.slice 1 []=enc ([]:List Int):=rfl
def Mx:bL 6 Int:=⟨List.replicate 6 0,rfl⟩
instance:nc cz:=⟨fun g=>by
 show (I.agg [.int .i64 g.cB,enc g.mark]).cP=true
 simp only[I.cP,I.iK,B8,Bool.and_self]⟩
def fO:cz:=⟨0,Mx⟩
theorem uW:I.agg [.int .i64 0,.agg [.int .i64 0,.int .i64 0,.int .i64 0,.int .i64 0,.int .i64 0,.int .i64 0]]=enc fO:=rfl
theorem lT(p:Nat→Bool)(l:List cz):(I.agg (l.map enc)).only p=true:=by simp only[I.only];exact ev p l
theorem agE(l:List cz):(I.agg (l.map enc)).cP=true:=by simp only[I.cP];exact wX l
def iv(k:Nat)(l:List cz)(m:Nat):List (Nat×ai):=[(k,.box (.agg ((l++List.replicate m fO).map enc)))]
def uJ(l:List cz):cR:=fun r os'=>(l=[]∧(r=.nils 7∨r=.c0 7)∧os'=[])∨(l≠[]∧∃ m,r=.view 7 [] 7 0 l.length∧os'=iv 7 l m)
theorem yK(l:List cz)(hl:l.length≤1000):cA Tryz.prog 167 [enc l] [] (uJ l):=by
 refine cA.bn Tryz.func167 P6 R3 Uf (Nat.le_of_ble_eq_true rfl) (Nat.le_of_ble_eq_true rfl) (fun m hm=>by simp[au,al] at hm) (fun hwf W0 D0 E1 =>?_)
 simp only[Al,Kg,bg]
 refine .ar (by decide +kernel) fun K hK =>?_
 simp only[Fb,ab,simprocAttr]
 refine .done (hK _ ?_);clear hK K
 refine U.seq (U.seq ?_)
 by_cases hn:l=[]
 ·subst hn
  refine .bP (by decide +kernel) fun K hK =>?_
  simp only[vI,ab,simprocAttr]
  simp only[tG,List.isEmpty_nil,pc]
  refine .any rfl fun b _ =>?_
  try simp only[ab,simprocAttr]
  generalize (b==0)=t
  cases t
  ·refine .done (hK _ ?_);clear hK K;try simp only[ay]
   refine U.bM ?_
   simp only[ao,ab,simprocAttr]
   refine ⟨fun h =>?_,fun h =>?_⟩
   ·cases h
   refine U.skip ?_;try simp only[ay,simprocAttr]
   refine .ar (by decide +kernel) fun K hK =>?_
   simp only[vJ,ab,simprocAttr]
   try simp only[c9,uW,ab,simprocAttr]
   refine .done (hK _ ?_);clear hK K
   refine U.ret ?_
   simp only[eL]
   exact ⟨[],[.c0 7],p8,⟨⟨.c0 7,rfl,.inl ⟨rfl,rfl,rfl⟩⟩,trivial⟩,.inl ⟨rfl,.inr rfl,rfl⟩⟩
  ·refine .done (hK _ ?_);clear hK K
   refine U.bM ?_
   simp only[ao,ab,simprocAttr]
   refine ⟨fun h =>?_,fun h =>?_⟩
   ·refine .ar (by decide +kernel) fun K hK =>?_
    simp only[Fc,ab,simprocAttr]
    refine .done (hK _ ?_);clear hK K
    refine U.ret ?_
    simp only[ay,eL]
    exact ⟨[],[.nils 7],p8,⟨⟨.nils 7,rfl,.inl ⟨rfl,rfl,rfl⟩⟩,trivial⟩,.inl ⟨rfl,.inl rfl,rfl⟩⟩
   ·cases h
 ·have hu:jK (enc l)=false:=by rw[tG];simpa using hn
  refine .bP (by decide +kernel) fun K hK =>?_
  simp only[vI,ab,simprocAttr]
  try simp only[hu,II _ l hn,ab,simprocAttr]
  refine .done (hK _ ?_);clear hK K;try simp only[ay]
  refine U.bM ?_
  simp only[ao,ab,simprocAttr]
  refine ⟨fun h =>?_,fun h =>?_⟩
  ·cases h
  refine U.skip ?_;try simp only[ay,simprocAttr]
  refine .ar (by decide +kernel) fun K hK =>?_
  simp only[vJ,ab,simprocAttr]
  try simp only[c9,uW,ab,simprocAttr]
  refine a6.pN fO rfl hn rfl (by omega) (by simp only[maxLen];omega) fun m =>?_
  try simp only[ab,simprocAttr]
  refine .done (hK _ ?_);clear hK K
  refine U.ret ?_
  simp only[eL]
  exact ⟨iv 7 l m,[.view 7 [] 7 0 l.length],jQ rfl (fun p=>lT p _),⟨⟨_,rfl,.inl ⟨rfl,rfl,rfl⟩⟩,trivial⟩,.inr ⟨hn,m,rfl,rfl⟩⟩
structure Item where
 dP:Int
 no:Int
 deriving DecidableEq
instance:Enc Item where
 enc x:=.agg [.int .i64 x.dP,.int .i64 x.no]
 sz:=2
 aT:=.ej [.one,.one]
 fP:=true
 done _:=rfl
 size _:=by simp[I.size,I.sizes]
 j4 _:=by simp[I.aT,I.cM]
 agg _:=rfl
structure ak where
 bj:Item
 kind:Int
 day:Int
 known:Int
 eF:Int
 fb:Int
 fj:Int
 cB:Int
 cd:bL 6 Int
 jW:Item
instance:Enc ak where
 enc e:=.agg [enc e.bj,.int .i64 e.kind,.int .i64 e.day,.int .i64 e.known,.int .i64 e.eF,.int .i64 e.fb,.int .i64 e.fj,.int .i64 e.cB,enc e.cd,enc e.jW]
 sz:=17
 aT:=.ej [.ej [.one,.one],.one,.one,.one,.one,.one,.one,.one,.ej (List.replicate 6 .one),.ej [.one,.one]]
 fP:=true
 done e:=by simp only[I.done,I.eO,Enc.done,Bool.and_self]
 size e:=by simp only[I.size,I.sizes,jd,lM,lN];rfl
 j4 e:=by simp only[I.aT,I.cM,fm,uY,uZ];rfl
 agg _:=rfl
structure aY where
 no:Int
 fj:Int
 fb:Int
 cB:Int
 jx:Int
 born:Int
 fc:Int
 found:Bool
 cd:List (bL 6 Int)
instance:Enc aY where
 enc b:=.agg [.int .i64 b.no,.int .i64 b.fj,.int .i64 b.fb,.int .i64 b.cB,.int .i64 b.jx,.int .i64 b.born,.int .i64 b.fc,.bool b.found,enc b.cd]
 sz:=9
 aT:=.ej [.one,.one,.one,.one,.one,.one,.one,.one,.one]
 fP:=true
 done e:=by simp only[I.done,I.eO,Enc.done,Bool.and_self]
 size e:=by simp only[I.size,I.sizes,jd,u5]
 j4 e:=by simp only[I.aT,I.cM,fm,B9]
 agg _:=rfl
theorem rP:Enc.sz Item=2:=rfl
theorem WH:Enc.sz ak=17:=rfl
theorem Ca:Enc.sz aY=9:=rfl
theorem WG:Enc.fP Item=true:=rfl
theorem WE:Enc.fP ak=true:=rfl
theorem WD:Enc.fP aY=true:=rfl
theorem af6(fs:List I)(x:I):(x::fs)[0]?=some x:=rfl
theorem agh(fs:List I)(x:I)(n:Nat):(x::fs)[n+1]?=fs[n]?:=rfl
theorem af7(fs:List I)(x:I):(x::fs)[1]?=fs[0]?:=rfl
theorem af8(fs:List I)(x:I):(x::fs)[2]?=fs[1]?:=rfl
theorem af9(fs:List I)(x:I):(x::fs)[3]?=fs[2]?:=rfl
theorem aga(fs:List I)(x:I):(x::fs)[4]?=fs[3]?:=rfl
theorem agb(fs:List I)(x:I):(x::fs)[5]?=fs[4]?:=rfl
theorem agc(fs:List I)(x:I):(x::fs)[6]?=fs[5]?:=rfl
theorem agd(fs:List I)(x:I):(x::fs)[7]?=fs[6]?:=rfl
theorem age(fs:List I)(x:I):(x::fs)[8]?=fs[7]?:=rfl
theorem agf(fs:List I)(x:I):(x::fs)[9]?=fs[8]?:=rfl
theorem ahL(x:I)(fs:List I)(v:I):dX (x::fs) 0 0 v=some v:=lZ (by simp) (by simp[I.sizes])
theorem IV(a b:Item)(n1 n2 n3 n4 n5 n6 n7:Int)(s:bL 6 Int)(v:I) :
  (dX [enc a,.int .i64 n1,.int .i64 n2,.int .i64 n3,.int .i64 n4,.int .i64 n5,.int .i64 n6,.int .i64 n7,enc s,enc b] 1 2 v=some v) ∧
  (dX [enc a,.int .i64 n1,.int .i64 n2,.int .i64 n3,.int .i64 n4,.int .i64 n5,.int .i64 n6,.int .i64 n7,enc s,enc b] 2 3 v=some v) ∧
  (dX [enc a,.int .i64 n1,.int .i64 n2,.int .i64 n3,.int .i64 n4,.int .i64 n5,.int .i64 n6,.int .i64 n7,enc s,enc b] 3 4 v=some v) ∧
  (dX [enc a,.int .i64 n1,.int .i64 n2,.int .i64 n3,.int .i64 n4,.int .i64 n5,.int .i64 n6,.int .i64 n7,enc s,enc b] 4 5 v=some v) ∧
  (dX [enc a,.int .i64 n1,.int .i64 n2,.int .i64 n3,.int .i64 n4,.int .i64 n5,.int .i64 n6,.int .i64 n7,enc s,enc b] 5 6 v=some v) ∧
  (dX [enc a,.int .i64 n1,.int .i64 n2,.int .i64 n3,.int .i64 n4,.int .i64 n5,.int .i64 n6,.int .i64 n7,enc s,enc b] 6 7 v=some v) ∧
  (dX [enc a,.int .i64 n1,.int .i64 n2,.int .i64 n3,.int .i64 n4,.int .i64 n5,.int .i64 n6,.int .i64 n7,enc s,enc b] 7 8 v=some v) ∧
  (dX [enc a,.int .i64 n1,.int .i64 n2,.int .i64 n3,.int .i64 n4,.int .i64 n5,.int .i64 n6,.int .i64 n7,enc s,enc b] 8 9 v=some v) ∧
  (dX [enc a,.int .i64 n1,.int .i64 n2,.int .i64 n3,.int .i64 n4,.int .i64 n5,.int .i64 n6,.int .i64 n7,enc s,enc b] 9 15 v=some v):=by
 refine ⟨?_,?_,?_,?_,?_,?_,?_,?_,?_⟩ <;>refine lZ (Nat.le_of_ble_eq_true rfl) ?_ <;>simp[I.sizes,I.size,jd,rP,lM,lN]
theorem ahK(n1 n2:Int)(v:I):dX [.int .i64 n1,.int .i64 n2] 1 1 v=some v:=lZ (Nat.le_of_ble_eq_true rfl) (by simp[I.sizes,I.size])
theorem IU(n0 n1 n2 n3 n4 n5 n6:Int)(f:Bool)(x:I)(v:I) :
  (dX [.int .i64 n0,.int .i64 n1,.int .i64 n2,.int .i64 n3,.int .i64 n4,.int .i64 n5,.int .i64 n6,.bool f,x] 1 1 v=some v) ∧
  (dX [.int .i64 n0,.int .i64 n1,.int .i64 n2,.int .i64 n3,.int .i64 n4,.int .i64 n5,.int .i64 n6,.bool f,x] 2 2 v=some v) ∧
  (dX [.int .i64 n0,.int .i64 n1,.int .i64 n2,.int .i64 n3,.int .i64 n4,.int .i64 n5,.int .i64 n6,.bool f,x] 3 3 v=some v) ∧
  (dX [.int .i64 n0,.int .i64 n1,.int .i64 n2,.int .i64 n3,.int .i64 n4,.int .i64 n5,.int .i64 n6,.bool f,x] 4 4 v=some v) ∧
  (dX [.int .i64 n0,.int .i64 n1,.int .i64 n2,.int .i64 n3,.int .i64 n4,.int .i64 n5,.int .i64 n6,.bool f,x] 5 5 v=some v) ∧
  (dX [.int .i64 n0,.int .i64 n1,.int .i64 n2,.int .i64 n3,.int .i64 n4,.int .i64 n5,.int .i64 n6,.bool f,x] 6 6 v=some v) ∧
  (dX [.int .i64 n0,.int .i64 n1,.int .i64 n2,.int .i64 n3,.int .i64 n4,.int .i64 n5,.int .i64 n6,.bool f,x] 7 7 v=some v) ∧
  (dX [.int .i64 n0,.int .i64 n1,.int .i64 n2,.int .i64 n3,.int .i64 n4,.int .i64 n5,.int .i64 n6,.bool f,x] 8 8 v=some v):=by
 refine ⟨?_,?_,?_,?_,?_,?_,?_,?_⟩ <;>refine lZ (Nat.le_of_ble_eq_true rfl) ?_ <;>simp[I.sizes,I.size]
theorem WX(x:Item):(enc x).du=some [.int .i64 x.dP,.int .i64 x.no]:=rfl
theorem WW(e:ak):(enc e).du=some [enc e.bj,.int .i64 e.kind,.int .i64 e.day,.int .i64 e.known,.int .i64 e.eF,.int .i64 e.fb,.int .i64 e.fj,.int .i64 e.cB,enc e.cd,enc e.jW]:=rfl
theorem WV(b:aY):(enc b).du=some [.int .i64 b.no,.int .i64 b.fj,.int .i64 b.fb,.int .i64 b.cB,.int .i64 b.jx,.int .i64 b.born,.int .i64 b.fc,.bool b.found,enc b.cd]:=rfl
theorem nI(x:Item):bZ (some 2) (enc x)=true:=by simp[gK,WG,rP]
theorem I1(x:ak):bZ (some 17) (enc x)=true:=by simp[gK,WE,WH]
theorem ahW(x:aY):bZ (some 9) (enc x)=true:=by simp[gK,WD,Ca]
theorem I0(x:bL 6 Int):bZ (some 6) (enc x)=true:=by simp[gK,uX,lM,lN]
theorem ahX(x:List ak):bZ none (enc x)=true:=by simp[lL,mI]
theorem ahY(x:List Int):bZ none (enc x)=true:=by simp[lL,mI]
theorem ah0(x:List (bL 6 Int)):bZ none (enc x)=true:=by simp[lL,mI]
theorem ahZ(x:List Item):bZ none (enc x)=true:=by simp[lL,mI]
theorem iV :
  (∀ x:Item,(enc x).du=some [.int .i64 x.dP,.int .i64 x.no])∧(∀ e:ak,(enc e).du=some [enc e.bj,.int .i64 e.kind,.int .i64 e.day,.int .i64 e.known,.int .i64 e.eF,.int .i64 e.fb,.int .i64 e.fj,.int .i64 e.cB,enc e.cd,enc e.jW]) ∧
  (∀ b:aY,(enc b).du=some [.int .i64 b.no,.int .i64 b.fj,.int .i64 b.fb,.int .i64 b.cB,.int .i64 b.jx,.int .i64 b.born,.int .i64 b.fc,.bool b.found,enc b.cd]) ∧
  (∀ (x:I) fs v,dX (x::fs) 0 0 v=some v)∧(∀ n1 n2 v,dX [.int .i64 n1,.int .i64 n2] 1 1 v=some v) ∧
  (∀ x:Item,bZ (some 2) (enc x)=true)∧(∀ x:ak,bZ (some 17) (enc x)=true)∧(∀ x:aY,bZ (some 9) (enc x)=true)∧(∀ x:bL 6 Int,bZ (some 6) (enc x)=true)∧(∀ x:List ak,bZ none (enc x)=true)∧(∀ x:List Int,bZ none (enc x)=true) ∧
  (∀ x:List (bL 6 Int),bZ none (enc x)=true)∧(∀ x:List Item,bZ none (enc x)=true) ∧
  (∀ (fs:List I) x,(x::fs)[0]?=some x)∧(∀ (fs:List I) x n,(x::fs)[n+1]?=fs[n]?)∧(∀ (fs:List I) x,(x::fs)[1]?=fs[0]?)∧(∀ (fs:List I) x,(x::fs)[2]?=fs[1]?)∧(∀ (fs:List I) x,(x::fs)[3]?=fs[2]?)∧(∀ (fs:List I) x,(x::fs)[4]?=fs[3]?) ∧
  (∀ (fs:List I) x,(x::fs)[5]?=fs[4]?)∧(∀ (fs:List I) x,(x::fs)[6]?=fs[5]?)∧(∀ (fs:List I) x,(x::fs)[7]?=fs[6]?)∧(∀ (fs:List I) x,(x::fs)[8]?=fs[7]?)∧(∀ (fs:List I) x,(x::fs)[9]?=fs[8]?) :=
 ⟨WX,WW,WV,fun x fs v=>ahL x fs v,ahK,nI,I1,ahW,I0,ahX,ahY,ah0,ahZ,af6,agh,af7,af8,af9,aga,agb,agc,agd,age,agf⟩
theorem Item.ve(a b:Item):a=b↔a.dP=b.dP∧a.no=b.no:=by cases a;cases b;simp
theorem pV(x y:Item):cj (.bx [.i .i64,.i .i64]) (enc x) (enc y)=some (decide (x=y)):=by
 show cj (.bx [.i .i64,.i .i64]) (.agg [.int .i64 x.dP,.int .i64 x.no]) (.agg [.int .i64 y.dP,.int .i64 y.no])=_
 simp[cj,iC,hT,Item.ve];rfl
theorem yL(x:Int):az Tryz.prog 194 [enc x] (enc false):=by
 refine az.bn Tryz.func194 Qh Sf Ur (Nat.le_of_ble_eq_true rfl) (fun hwf W0 D0 E1 =>?_)
 simp only[Ay,Ks,bg]
 refine .ar (by decide +kernel) fun K hK =>?_
 simp only[FA,ab,simprocAttr]
 refine .done (hK _ ?_);clear hK K
 refine .ar (by decide +kernel) fun K hK =>?_
 simp only[FB,ab,simprocAttr]
 refine .done (hK _ ?_);clear hK K
 refine U.ret ?_
 simp only[ab,simprocAttr]
 simp
def jc(x y:Int):Int:=if x<y then -1 else if y<x then 1 else 0
theorem yI(x y:Int):az Tryz.prog 159 [enc x,enc y] (enc (jc x y)):=by
 refine az.bn Tryz.func159 PX RU T6 (Nat.le_of_ble_eq_true rfl) (fun hwf W0 D0 E1 =>?_)
 simp only[Ac,J7,bg,Nat.zero_add]
 refine .ar (by decide +kernel) fun K hK =>?_
 simp only[EC,ab,simprocAttr]
 refine .done (hK _ ?_);clear hK K
 refine .ar (by decide +kernel) fun K hK =>?_
 simp only[ED,ab,simprocAttr]
 refine .flat _ (yL x) rfl ?_
 try simp only[ab,simprocAttr]
 refine .done (hK _ ?_);clear hK K
 refine .ar (by decide +kernel) fun K hK =>?_
 simp only[EI,ab,simprocAttr]
 refine .flat _ (yL y) rfl ?_
 try simp only[ab,simprocAttr]
 refine .done (hK _ ?_);clear hK K
 refine U.seq ?_
 refine .ar (by decide +kernel) fun K hK =>?_
 simp only[EJ,ab,simprocAttr]
 refine .done (hK _ ?_);clear hK K
 refine U.bM ?_
 simp only[ao,ab,simprocAttr]
 refine ⟨fun h =>?_,fun h =>?_⟩
 ·cases h
 refine U.skip ?_;try simp only[ay,simprocAttr]
 refine U.seq ?_
 refine .ar (by decide +kernel) fun K hK =>?_
 simp only[EK,ab,simprocAttr]
 refine .done (hK _ ?_);clear hK K
 refine U.bM ?_
 simp only[ao,ab,simprocAttr]
 refine ⟨fun h =>?_,fun h =>?_⟩
 ·cases h
 refine U.skip ?_;try simp only[ay,simprocAttr]
 refine U.seq ?_
 refine .ar (by decide +kernel) fun K hK =>?_
 simp only[EL,ab,simprocAttr]
 refine .done (hK _ ?_);clear hK K
 refine U.bM ?_
 simp only[ao,ab,simprocAttr]
 refine ⟨fun h =>?_,fun h =>?_⟩
 ·refine .ar (by decide +kernel) fun K hK =>?_
  simp only[EE,ab,simprocAttr]
  refine .done (hK _ ?_);clear hK K
  refine U.ret ?_
  simp only[ay,ab,simprocAttr]
  have:x<y:=by simpa using h
  simp[jc,this]
 have h1:¬ x<y:=by simpa using h
 refine U.skip ?_;try simp only[ay,simprocAttr]
 refine U.seq ?_
 refine .ar (by decide +kernel) fun K hK =>?_
 simp only[EF,ab,simprocAttr]
 refine .done (hK _ ?_);clear hK K
 refine U.bM ?_
 simp only[ao,ab,simprocAttr]
 refine ⟨fun h =>?_,fun h =>?_⟩
 ·refine .ar (by decide +kernel) fun K hK =>?_
  simp only[EG,ab,simprocAttr]
  refine .done (hK _ ?_);clear hK K
  refine U.ret ?_
  simp only[ay,ab,simprocAttr]
  have:y<x:=by simpa using h
  simp[jc,this,h1]
 have h2:¬ y<x:=by simpa using h
 refine U.skip ?_;try simp only[ay,simprocAttr]
 refine .ar (by decide +kernel) fun K hK =>?_
 simp only[EH,ab,simprocAttr]
 refine .done (hK _ ?_);clear hK K
 refine U.ret ?_
 simp only[ab,simprocAttr]
 simp[jc,h1,h2]
theorem rO(a b:Int):I.agg [.int .i64 a,.int .i64 b]=enc (⟨a,b⟩:Item):=rfl
theorem tE{A:af}{n:Nat}{b:I}{x y:Item}{rest:List aB} : dY A (some 2) n [] b (enc x) rest (some (enc y))=aC rest (A.aR n (.box (b.dK [] (enc x)))):=fq (dz _) (by rw[gK];rfl) ((fm x).trans (fm y).symm)
theorem rz(a b:Int):eB [.int .i64 0,.int .i64 0] [(0,.int .i64 a),(1,.int .i64 b)]=some [.int .i64 a,.int .i64 b]:=by simp[eB,I.cq,I.size]
theorem kF(n lo hi:Int):az Tryz.prog 114 [enc n,enc lo,enc hi] (enc (b6 lo hi n)):=by
 refine az.bn Tryz.func114 Pp Rm Tw (Nat.le_of_ble_eq_true rfl) (fun hwf W0 D0 E1 =>?_)
 simp only[zx,Jz,bg,Nat.zero_add,Nat.reduceAdd]
 refine .ar (by decide +kernel) fun K hK =>?_
 simp only[C2,ab,simprocAttr]
 refine .done (hK _ ?_);clear hK K
 refine .ar (by decide +kernel) fun K hK =>?_
 simp only[C3,ab,simprocAttr]
 refine .guard (fun h =>?_) (fun h =>?_)
 ·simp only[ab,simprocAttr,h]
  refine .done (hK _ ?_);clear hK K
  refine U.ret ?_
  simp only[ab,simprocAttr]
  simp_all[b6]
 ·simp only[ab,simprocAttr,h]
  refine .done (hK _ ?_);clear hK K
  refine U.ret ?_
  simp only[ab,simprocAttr]
  simp at h
  simp[b6];omega
theorem mz(n lo hi:Int):az Tryz.prog 94 [enc n,enc lo,enc hi] (enc (b6 lo hi n)):=rh n lo hi
def jg(x:Item):Bool:=b6 0 5 x.dP&&b6 0 9999 x.no
theorem tV(n:Int):az Tryz.prog 127 [enc n] (enc (b6 0 100000 n)):=by
 refine az.bn Tryz.func127 PD RA TK (Nat.le_of_ble_eq_true rfl) (fun hwf W0 D0 E1 =>?_)
 simp only[zM,JN,bg]
 refine .ar (by decide +kernel) fun K hK =>?_
 simp only[DA,ab,simprocAttr]
 refine .done (hK _ ?_);clear hK K
 refine .ar (by decide +kernel) fun K hK =>?_
 simp only[DB,ab,simprocAttr]
 refine .flat _ (kF n 0 100000) rfl ?_
 try simp only[ab,simprocAttr]
 refine .done (hK _ ?_);clear hK K
 refine U.ret ?_
 simp only[ab,simprocAttr]
theorem MV(n:Int):az Tryz.prog 154 [enc n] (enc (b6 1 9999 n)):=by
 refine az.bn Tryz.func154 PS RP TZ (Nat.le_of_ble_eq_true rfl) (fun hwf W0 D0 E1 =>?_)
 simp only[z6,J2,bg]
 refine .ar (by decide +kernel) fun K hK =>?_
 simp only[Eg,ab,simprocAttr]
 refine .done (hK _ ?_);clear hK K
 refine .ar (by decide +kernel) fun K hK =>?_
 simp only[Ei,ab,simprocAttr]
 refine .flat _ (kF n 1 9999) rfl ?_
 try simp only[ab,simprocAttr]
 refine .done (hK _ ?_);clear hK K
 refine U.ret ?_
 simp only[ab,simprocAttr]
theorem MW(n:Int):az Tryz.prog 155 [enc n] (enc (b6 1 9 n)):=by
 refine az.bn Tryz.func155 PT RQ T0 (Nat.le_of_ble_eq_true rfl) (fun hwf W0 D0 E1 =>?_)
 simp only[z7,J3,bg]
 refine .ar (by decide +kernel) fun K hK =>?_
 simp only[Ej,ab,simprocAttr]
 refine .done (hK _ ?_);clear hK K
 refine .ar (by decide +kernel) fun K hK =>?_
 simp only[Ek,ab,simprocAttr]
 refine .flat _ (kF n 1 9) rfl ?_
 try simp only[ab,simprocAttr]
 refine .done (hK _ ?_);clear hK K
 refine U.ret ?_
 simp only[ab,simprocAttr]
theorem MX(n:Int):az Tryz.prog 156 [enc n] (enc (b6 1 99 n)):=by
 refine az.bn Tryz.func156 PU RR T3 (Nat.le_of_ble_eq_true rfl) (fun hwf W0 D0 E1 =>?_)
 simp only[z8,J4,bg]
 refine .ar (by decide +kernel) fun K hK =>?_
 simp only[El,ab,simprocAttr]
 refine .done (hK _ ?_);clear hK K
 refine .ar (by decide +kernel) fun K hK =>?_
 simp only[Em,ab,simprocAttr]
 refine .flat _ (kF n 1 99) rfl ?_
 try simp only[ab,simprocAttr]
 refine .done (hK _ ?_);clear hK K
 refine U.ret ?_
 simp only[ab,simprocAttr]
theorem NR(n:Int):az Tryz.prog 75 [enc n] (enc (b6 0 100000 n)):=by
 refine az.bn Tryz.func75 QW SW U6 (Nat.le_of_ble_eq_true rfl) (fun hwf W0 D0 E1 =>?_)
 simp only[Bf,K7,bg]
 refine .ar (by decide +kernel) fun K hK =>?_
 simp only[Ht,ab,simprocAttr]
 refine .done (hK _ ?_);clear hK K
 refine .ar (by decide +kernel) fun K hK =>?_
 simp only[Hu,ab,simprocAttr]
 refine .flat _ (mz n 0 100000) rfl ?_
 try simp only[ab,simprocAttr]
 refine .done (hK _ ?_);clear hK K
 refine U.ret ?_
 simp only[ab,simprocAttr]
theorem tO(x:Item):az Tryz.prog 115 [enc x] (enc (jg x)):=by
 refine az.bn Tryz.func115 Pq Rn Tx (Nat.le_of_ble_eq_true rfl) (fun hwf W0 D0 E1 =>?_)
 simp only[zy,JA,bg]
 refine .ar (by decide +kernel) fun K hK =>?_
 simp only[C4,ab,simprocAttr]
 try simp only[dz,ab,simprocAttr]
 refine .done (hK _ ?_);clear hK K
 refine .ar (by decide +kernel) fun K hK =>?_
 simp only[C5,ab,simprocAttr]
 try simp only[iV,ab,simprocAttr]
 refine .flat _ (kF x.dP 0 5) rfl ?_
 try simp only[ab,simprocAttr]
 cases h1:b6 0 5 x.dP with
 |false =>
  try simp only[ab,simprocAttr]
  refine .done (hK _ ?_);clear hK K
  refine U.ret ?_
  simp only[ab,simprocAttr]
  simp[jg,h1]
 |true =>
  try simp only[iV,ab,simprocAttr]
  refine .flat _ (kF x.no 0 9999) rfl ?_
  try simp only[ab,simprocAttr]
  refine .done (hK _ ?_);clear hK K
  refine U.ret ?_
  simp only[ab,simprocAttr]
  simp[jg,h1]
theorem tP(x:Item):az Tryz.prog 116 [enc x] (enc (jg x)):=by
 refine az.bn Tryz.func116 Pr Ro Ty (Nat.le_of_ble_eq_true rfl) (fun hwf W0 D0 E1 =>?_)
 simp only[zA,JB,bg]
 refine .ar (by decide +kernel) fun K hK =>?_
 simp only[C6,ab,simprocAttr]
 try simp only[dz,ab,simprocAttr]
 refine .done (hK _ ?_);clear hK K
 refine .ar (by decide +kernel) fun K hK =>?_
 simp only[C7,ab,simprocAttr]
 try simp only[iV,ab,simprocAttr]
 refine .flat _ (mz x.dP 0 5) rfl ?_
 try simp only[ab,simprocAttr]
 cases h1:b6 0 5 x.dP with
 |false =>
  try simp only[ab,simprocAttr]
  refine .done (hK _ ?_);clear hK K
  refine U.ret ?_
  simp only[ab,simprocAttr]
  simp[jg,h1]
 |true =>
  try simp only[iV,ab,simprocAttr]
  refine .flat _ (mz x.no 0 9999) rfl ?_
  try simp only[ab,simprocAttr]
  refine .done (hK _ ?_);clear hK K
  refine U.ret ?_
  simp only[ab,simprocAttr]
  simp[jg,h1]
def pz(x:Item):Int:=if jg x then 10000*x.dP+x.no+1 else 0
theorem Ih{x:Item}(h:jg x=true):0≤x.dP∧x.dP≤5∧0≤x.no∧x.no≤9999:=by simp[jg,b6] at h;omega
theorem NN(x:Item):az Tryz.prog 60 [enc x] (enc (pz x)):=by
 refine az.bn Tryz.func60 QI SI US (Nat.le_of_ble_eq_true rfl) (fun hwf W0 D0 E1 =>?_)
 simp only[A1,KU,bg]
 refine .ar (by decide +kernel) fun K hK =>?_
 simp only[G2,ab,simprocAttr]
 try simp only[dz,ab,simprocAttr]
 refine .done (hK _ ?_);clear hK K
 refine U.seq (U.seq ?_)
 refine .bP (by decide +kernel) fun K hK =>?_
 simp only[G3,ab,simprocAttr]
 try simp only[iV,dC,ab,simprocAttr]
 refine .flat _ (tO x) rfl ?_
 cases h1:jg x with
 |false =>
  try simp only[ab,simprocAttr]
  refine .done (hK _ ?_);clear hK K;try simp only[ay]
  refine U.bM ?_
  simp only[ao,ab,simprocAttr]
  refine ⟨fun h =>?_,fun h =>?_⟩
  ·refine .ar (by decide +kernel) fun K hK =>?_
   simp only[G4,ab,simprocAttr]
   refine .done (hK _ ?_);clear hK K
   refine U.ret ?_
   simp only[ay,ab,simprocAttr]
   simp[pz,h1]
  ·cases h
 |true =>
  try simp only[ab,simprocAttr]
  refine .done (hK _ ?_);clear hK K
  refine U.bM ?_
  simp only[ao,ab,simprocAttr]
  refine ⟨fun h =>?_,fun h =>?_⟩
  ·cases h
  refine U.skip ?_;try simp only[ay,simprocAttr]
  obtain ⟨h2,h3,h4,h5⟩:=Ih h1
  refine .ar (by decide +kernel) fun K hK =>?_
  simp only[G5,ab,simprocAttr]
  try simp only[iV,ab,simprocAttr]
  rw[cN (10000*x.dP) (by omega) (by omega),cN (10000*x.dP+x.no) (by omega) (by omega),cN _ (by omega) (by omega)]
  refine .done (hK _ ?_);clear hK K
  refine U.ret ?_
  simp only[ab,simprocAttr]
  simp[pz,h1]
theorem NO(x:Item):az Tryz.prog 61 [enc x] (enc (pz x)):=by
 refine az.bn Tryz.func61 QJ SJ UT (Nat.le_of_ble_eq_true rfl) (fun hwf W0 D0 E1 =>?_)
 simp only[A2,KV,bg]
 refine .ar (by decide +kernel) fun K hK =>?_
 simp only[G6,ab,simprocAttr]
 try simp only[dz,ab,simprocAttr]
 refine .done (hK _ ?_);clear hK K
 refine U.seq (U.seq ?_)
 refine .bP (by decide +kernel) fun K hK =>?_
 simp only[G7,ab,simprocAttr]
 try simp only[iV,dC,ab,simprocAttr]
 refine .flat _ (tP x) rfl ?_
 cases h1:jg x with
 |false =>
  try simp only[ab,simprocAttr]
  refine .done (hK _ ?_);clear hK K;try simp only[ay]
  refine U.bM ?_
  simp only[ao,ab,simprocAttr]
  refine ⟨fun h =>?_,fun h =>?_⟩
  ·refine .ar (by decide +kernel) fun K hK =>?_
   simp only[G8,ab,simprocAttr]
   refine .done (hK _ ?_);clear hK K
   refine U.ret ?_
   simp only[ay,ab,simprocAttr]
   simp[pz,h1]
  ·cases h
 |true =>
  try simp only[ab,simprocAttr]
  refine .done (hK _ ?_);clear hK K
  refine U.bM ?_
  simp only[ao,ab,simprocAttr]
  refine ⟨fun h =>?_,fun h =>?_⟩
  ·cases h
  refine U.skip ?_;try simp only[ay,simprocAttr]
  obtain ⟨h2,h3,h4,h5⟩:=Ih h1
  refine .ar (by decide +kernel) fun K hK =>?_
  simp only[G9,ab,simprocAttr]
  try simp only[iV,ab,simprocAttr]
  rw[cN (10000*x.dP) (by omega) (by omega),cN (10000*x.dP+x.no) (by omega) (by omega),cN _ (by omega) (by omega)]
  refine .done (hK _ ?_);clear hK K
  refine U.ret ?_
  simp only[ab,simprocAttr]
  simp[pz,h1]
def lS(s:Int):Item×Int:=if b6 1 60000 s then (⟨(s-1).tdiv 10000,(s-1).tmod 10000⟩,0) else (⟨0,0⟩,44)
theorem NL(s:Int):az Tryz.prog 58 [enc s] (.tuple [enc (lS s).1,enc (lS s).2]):=by
 refine az.bn Tryz.func58 QG SG UQ (Nat.le_of_ble_eq_true rfl) (fun hwf W0 D0 E1 =>?_)
 simp only[AY,KS,bg]
 refine .ar (by decide +kernel) fun K hK =>?_
 simp only[GU,ab,simprocAttr]
 refine .done (hK _ ?_);clear hK K
 refine U.seq (U.seq ?_)
 refine .bP (by decide +kernel) fun K hK =>?_
 simp only[GV,ab,simprocAttr]
 refine .flat _ (kF s 1 60000) rfl ?_
 cases h1:b6 1 60000 s with
 |false =>
  try simp only[ab,simprocAttr]
  refine .done (hK _ ?_);clear hK K;try simp only[ay]
  refine U.bM ?_
  simp only[ao,ab,simprocAttr]
  refine ⟨fun h =>?_,fun h =>?_⟩
  ·refine .ar (by decide +kernel) fun K hK =>?_
   simp only[GW,ab,simprocAttr]
   try simp only[rO,tE,eB,gh,Option.map_some,ab,simprocAttr]
   refine .done (hK _ ?_);clear hK K
   refine U.ret ?_
   simp only[ay,ab,simprocAttr]
   try simp only[nI,dC,ab,simprocAttr]
   simp[lS,h1]
  ·cases h
 |true =>
  try simp only[ab,simprocAttr]
  refine .done (hK _ ?_);clear hK K
  refine U.bM ?_
  simp only[ao,ab,simprocAttr]
  refine ⟨fun h =>?_,fun h =>?_⟩
  ·cases h
  refine U.skip ?_;try simp only[ay,simprocAttr]
  have hs:1≤s∧s≤60000:=by simpa[b6] using h1
  have hw:IntKind.i64.wrap (s-1)=s-1:=cN _ (by omega) (by omega)
  have hq:IntKind.i64.wrap ((s-1).tdiv 10000)=(s-1).tdiv 10000:=cN _ (by have:=Int.tdiv_nonneg (show 0≤s-1 by omega) (show (0:Int)≤10000 by omega);omega) (by have:=Int.tdiv_le_self 10000 (show 0≤s-1 by omega);omega)
  have hz:((10000:Int)=0)=False:=eq_false (by decide)
  refine .ar (by decide +kernel) fun K hK =>?_
  simp only[GX,ab,simprocAttr]
  try simp only[hw,hq,rz,rO,tE,gh,Option.map_some,ab,simprocAttr]
  refine .done (hK _ ?_);clear hK K
  refine U.ret ?_
  simp only[ab,simprocAttr]
  try simp only[nI,dC,ab,simprocAttr]
  simp[lS,h1]
theorem NM(s:Int):az Tryz.prog 59 [enc s] (.tuple [enc (lS s).1,enc (lS s).2]):=by
 refine az.bn Tryz.func59 QH SH UR (Nat.le_of_ble_eq_true rfl) (fun hwf W0 D0 E1 =>?_)
 simp only[AZ,KT,bg]
 refine .ar (by decide +kernel) fun K hK =>?_
 simp only[GY,ab,simprocAttr]
 refine .done (hK _ ?_);clear hK K
 refine U.seq (U.seq ?_)
 refine .bP (by decide +kernel) fun K hK =>?_
 simp only[GZ,ab,simprocAttr]
 refine .flat _ (mz s 1 60000) rfl ?_
 cases h1:b6 1 60000 s with
 |false =>
  try simp only[ab,simprocAttr]
  refine .done (hK _ ?_);clear hK K;try simp only[ay]
  refine U.bM ?_
  simp only[ao,ab,simprocAttr]
  refine ⟨fun h =>?_,fun h =>?_⟩
  ·refine .ar (by decide +kernel) fun K hK =>?_
   simp only[G0,ab,simprocAttr]
   try simp only[rO,tE,eB,gh,Option.map_some,ab,simprocAttr]
   refine .done (hK _ ?_);clear hK K
   refine U.ret ?_
   simp only[ay,ab,simprocAttr]
   try simp only[nI,dC,ab,simprocAttr]
   simp[lS,h1]
  ·cases h
 |true =>
  try simp only[ab,simprocAttr]
  refine .done (hK _ ?_);clear hK K
  refine U.bM ?_
  simp only[ao,ab,simprocAttr]
  refine ⟨fun h =>?_,fun h =>?_⟩
  ·cases h
  refine U.skip ?_;try simp only[ay,simprocAttr]
  have hs:1≤s∧s≤60000:=by simpa[b6] using h1
  have hw:IntKind.i64.wrap (s-1)=s-1:=cN _ (by omega) (by omega)
  have hq:IntKind.i64.wrap ((s-1).tdiv 10000)=(s-1).tdiv 10000:=cN _ (by have:=Int.tdiv_nonneg (show 0≤s-1 by omega) (show (0:Int)≤10000 by omega);omega) (by have:=Int.tdiv_le_self 10000 (show 0≤s-1 by omega);omega)
  have hz:((10000:Int)=0)=False:=eq_false (by decide)
  refine .ar (by decide +kernel) fun K hK =>?_
  simp only[G1,ab,simprocAttr]
  try simp only[hw,hq,rz,rO,tE,gh,Option.map_some,ab,simprocAttr]
  refine .done (hK _ ?_);clear hK K
  refine U.ret ?_
  simp only[ab,simprocAttr]
  try simp only[nI,dC,ab,simprocAttr]
  simp[lS,h1]
def before(a b:Item):Bool:=decide (a.dP<b.dP)||(decide (a.dP=b.dP)&&decide (a.no<b.no))
theorem pG(a b:Item):az Tryz.prog 119 [enc a,enc b] (enc (before a b)):=by
 refine az.bn Tryz.func119 Pu Rr TB (Nat.le_of_ble_eq_true rfl) (fun hwf W0 D0 E1 =>?_)
 simp only[zD,JE,bg,Nat.zero_add]
 refine .ar (by decide +kernel) fun K hK =>?_
 simp only[Dd,ab,simprocAttr]
 try simp only[dz,ab,simprocAttr]
 refine .done (hK _ ?_);clear hK K
 refine .ar (by decide +kernel) fun K hK =>?_
 simp only[De,ab,simprocAttr]
 try simp only[iV,ab,simprocAttr]
 cases h1:decide (a.dP<b.dP) with
 |true =>
  try simp only[ab,simprocAttr]
  refine .done (hK _ ?_);clear hK K
  refine U.ret ?_
  simp only[ab,simprocAttr]
  simp[before,h1]
 |false =>
  try simp only[iV,ab,simprocAttr]
  cases h2:(a.dP==b.dP) with
  |false =>
   try simp only[ab,simprocAttr]
   refine .done (hK _ ?_);clear hK K
   refine U.ret ?_
   simp only[ab,simprocAttr]
   simp at h1 h2
   simp[before];omega
  |true =>
   try simp only[iV,ab,simprocAttr]
   refine .done (hK _ ?_);clear hK K
   refine U.ret ?_
   simp only[ab,simprocAttr]
   simp at h1 h2
   simp[before,h2]
def lq:List Int→Int
 | []=>0
 |x::l=>if x≠0 then x else lq l
theorem Jc{l:List Int}{i:Nat}(hi:i≤l.length)(h:∀ k,k<i→l.getD k 0=0):lq (l.drop i)=lq l:=by
 induction i with
 |zero=>simp
 |succ i ih =>
  have hlt:i<l.length:=by omega
  rw[←ih (by omega) (fun k hk=>h k (by omega)),List.drop_eq_getElem_cons hlt]
  have:=h i (by omega)
  rw[List.getD_eq_getElem?_getD,List.getElem?_eq_getElem hlt] at this
  simp at this
  simp[lq,this]
theorem MY(l:List Int):az Tryz.prog 158 [enc l] (enc (lq l)):=by
 refine az.bn Tryz.func158 PW RT T5 (Nat.le_of_ble_eq_true rfl) (fun hwf W0 D0 E1 =>?_)
 simp only[Ab,J6,bg]
 have hlen:l.length≤maxLen:=((j6 l).1 hwf.1).1
 simp only[maxLen] at hlen
 refine .ar (by decide +kernel) fun K hK =>?_
 simp only[Es,ab,simprocAttr]
 refine .done (hK _ ?_);clear hK K
 refine .ar (by decide +kernel) fun K hK =>?_
 simp only[Et,ab,simprocAttr]
 refine .done (hK _ ?_);clear hK K
 refine U.seq (U.seq ?_)
 refine .bP (by decide +kernel) fun K hK =>?_
 simp only[Eu,ab,simprocAttr]
 try simp only[bI,ab,simprocAttr]
 refine .done (hK _ ?_);clear hK K;try simp only[ay]
 refine U.block (U.loop (fun i:Nat=>av [(3,.int .i64 0),(6,enc l),(7,.int .i64 l.length),(8,.int .i64 i)] []) (fun i=>i≤l.length∧∀ k,k<i→l.getD k 0=0) (fun i=>l.length-i) 0 ⟨Nat.zero_le _,by intro k hk;omega⟩ ?_ (fun i hi =>?_))
 ·refine aI.b9 ?_ ?_ ?_ ?_ <;>simp[bd,bT,bS,bD,bh,I.only,bG]
 refine .ar (by decide +kernel) fun K hK =>?_
 simp only[Ev,ab,simprocAttr]
 refine .done (hK _ ?_);clear hK K
 refine U.seq ?_
 refine U.bM ?_
 simp only[ao,ab,simprocAttr]
 refine ⟨fun h =>?_,fun h =>?_⟩
 ·have hlt:i<l.length:=by simpa using h
  refine U.skip ?_;try simp only[ay,simprocAttr]
  refine U.seq (U.block ?_)
  refine .ar (by decide +kernel) fun K hK =>?_
  simp only[Ew,ab,simprocAttr]
  try simp only[gw 1 hlt rfl,ab,simprocAttr]
  refine .done (hK _ ?_);clear hK K
  refine U.seq ?_
  refine .bP (by decide +kernel) fun K hK =>?_
  simp only[Ey,ab,simprocAttr]
  refine .done (hK _ ?_);clear hK K;try simp only[ay]
  refine U.bM ?_
  simp only[ao,ab,simprocAttr]
  refine ⟨fun h =>?_,fun h =>?_⟩
  ·refine .ar (by decide +kernel) fun K hK =>?_
   simp only[Ez,ab,simprocAttr]
   refine .done (hK _ ?_);clear hK K
   refine U.ret ?_
   simp only[cg,ay,ab,simprocAttr]
   rw[←Jc hi.1 hi.2,List.drop_eq_getElem_cons hlt]
   simp at h
   simp[lq,h]
  ·refine U.skip ?_;try simp only[ay,cg,simprocAttr]
   refine .bP (by decide +kernel) fun K hK =>?_
   simp only[EA,ab,simprocAttr]
   refine .done (hK _ ?_);clear hK K;try simp only[ay]
   refine ⟨i+1,⟨by omega,fun k hk =>?_⟩,by omega,?_⟩
   ·by_cases e:k=i
    ·subst e
     simp at h
     simp[List.getD_eq_getElem?_getD,hlt,h]
    ·exact hi.2 k (by omega)
   ·rw[cN _ (by omega) (by omega)]
    refine aI.b9 ?_ ?_ ?_ ?_ <;>simp[bd,bT,bS,bD,bh,I.only,bG]
 have hie:i=l.length:=by simp at h;omega
 refine U.exit ?_;try simp only[ay,cg,simprocAttr]
 refine .ar (by decide +kernel) fun K hK =>?_
 simp only[EB,ab,simprocAttr]
 refine .done (hK _ ?_);clear hK K
 refine U.ret ?_
 simp only[ab,simprocAttr]
 rw[←Jc hi.1 hi.2,hie]
 simp[lq]
def kO(a b:Item):Int:=lq [jc a.dP b.dP,jc a.no b.no]
theorem tT(a b:Item):az Tryz.prog 118 [enc a,enc b] (enc (kO a b)):=by
 refine az.bn Tryz.func118 Pt Rq TA (Nat.le_of_ble_eq_true rfl) (fun hwf W0 D0 E1 =>?_)
 simp only[zC,JD,bg,Nat.zero_add]
 refine .ar (by decide +kernel) fun K hK =>?_
 simp only[Db,ab,simprocAttr]
 try simp only[dz,ab,simprocAttr]
 refine .done (hK _ ?_);clear hK K
 refine .ar (by decide +kernel) fun K hK =>?_
 simp only[Dc,ab,simprocAttr]
 try simp only[iV,ab,simprocAttr]
 refine .flat _ (yI a.dP b.dP) rfl ?_
 try simp only[iV,ab,simprocAttr]
 refine .flat _ (yI a.no b.no) rfl ?_
 try simp only[ab,simprocAttr]
 have hb:hX 1 (some [.int .i64 (jc a.dP b.dP),.int .i64 (jc a.no b.no)])=some (enc [jc a.dP b.dP,jc a.no b.no]):=mD (ys:=[jc a.dP b.dP,jc a.no b.no]) 1 rfl
 try simp only[hb,dC,ab,simprocAttr]
 refine .flat _ (MY _) rfl ?_
 try simp only[ab,simprocAttr]
 refine .done (hK _ ?_);clear hK K
 refine U.ret ?_
 simp only[ab,simprocAttr]
 rfl
deriving instance DecidableEq for bL
deriving instance DecidableEq for ak
deriving instance DecidableEq for aY
def yr:bL 6 Int:=⟨List.replicate 6 0,rfl⟩
instance:Inhabited ak:=⟨⟨⟨0,0⟩,0,0,0,0,0,0,0,yr,⟨0,0⟩⟩⟩
instance:Inhabited aY:=⟨⟨0,0,0,0,0,0,0,false,[]⟩⟩
def nh(x:ak):ak where
 bj:=x.bj
 kind:=x.kind
 day:=x.day
 known:=x.known
 eF:=if x.kind=0 then 0 else x.eF
 fb:=if x.kind=1 then x.fb else 0
 fj:=if x.kind=1∨x.kind=2 then x.fj else 0
 cB:=if x.kind=1∨x.kind=3∨x.kind=5 then x.cB else 0
 cd:=if x.kind=4 then x.cd else yr
 jW:=if x.kind=0 then x.jW else ⟨0,0⟩
def kj(x:ak):Bool :=
 if x.kind=0 then (x.day==0)&&(jg x.jW&&((x.jW.dP==x.bj.dP)&&decide (x.jW.no<x.bj.no)))
 else b6 1 9999 x.eF&&(
  if x.kind=1 then b6 1 9 x.fj&&(b6 1 99 x.cB&&(b6 0 9999 x.fb&&(x.fb != x.eF)))
  else if x.kind=2 then b6 1 9 x.fj
  else if x.kind=3∨x.kind=5 then b6 1 99 x.cB
  else if x.kind=4 then lp x.cd
  else decide (x.kind=6))
def gB(x:ak):Bool:=kj x&&(decide (x=nh x)&&(jg x.bj&&(b6 0 100000 x.day&&b6 0 100000 x.known)))
def ae(l:List ak)(i:Nat):ak:=l.getD i default
def gU(l:List ak)(i:Nat):Bool:=gB (ae l i)&&(decide (i=0)||before (ae l (i-1)).bj (ae l i).bj)
def c6(l:List ak):Bool:=decide (l.length≤60)&&(List.range l.length).all (gU l)
def wE(l:List ak)(a:Item):Nat:=l.findIdx fun x=>decide (x.bj=a)
def cG(l:List ak)(a:Item):Nat:=l.findIdx fun x => !before x.bj a
def eD(l:List ak)(a:Item):Bool:=l.any fun x=>decide (x.bj=a)
def jt(known:Int):List ak→List Bool×List Item
 | []=>([],[])
 |x::l =>
  let b:=decide (x.known≤known) && !(jt known l).2.contains x.bj
  (b::(jt known l).1,if b&&decide (x.kind=0) then x.jW::(jt known l).2 else (jt known l).2)
def kD(l:List ak)(known:Int):List Bool:=(jt known l).1
def gQ(l:List ak)(known:Int):List Nat:=(List.range l.length).filter fun i=>(kD l known).getD i false
def jT(key:Nat→Int)(i:Nat)(l:List Nat):List Nat:=(l.takeWhile fun k=>decide (key k≤key i))++i::l.dropWhile fun k=>decide (key k≤key i)
def aie(key:Nat→Int)(l:List Nat):List Nat:=l.foldl (fun o i=>jT key i o) []
def jM(l:List ak)(day known:Int):List Nat:=(gQ l known).filter fun i=>decide ((ae l i).kind≠0)&&decide ((ae l i).day≤day)
def jH(l:List ak)(day known:Int):List Nat:=aie (fun i=>(ae l i).day) (jM l day known)
def dD(bs:List aY)(no:Int):Option aY:=bs.find? fun b=>decide (b.no=no)
def mi(bs:List aY)(x:aY):List aY:=bs.map fun b=>if b.no=x.no then x else b
def fJ(x:ak):aY:=⟨x.eF,x.fj,x.fb,x.cB,x.cB,x.day,-1,false,[]⟩
def ic(bs:List aY)(x:ak):Bool:=decide (x.fb≤0)||match dD bs x.fb with
 |some d=>decide (d.fj=x.fj) && !(decide (0≤d.fc)&&decide (d.fc<x.day))
 |none=>false
def lE(b:aY)(x:ak):Option aY :=
 if x.kind=3 then (if b.fc≥0∨b.cB=0∨b.cB=x.cB then none else some { b with cB:=x.cB })
 else if x.kind=4 then some { b with cd:=b.cd++[x.cd] }
 else if x.kind=5 then some { b with cB:=x.cB,found:=true }
 else (if b.fc≥0 then none else some { b with fc:=x.day })
def eE(add:List aY→aY→List aY)(bs:List aY)(x:ak):Option (List aY) :=
 if x.kind=1∨x.kind=2 then (if dD bs x.eF=none∧ic bs x=true then some (add bs (fJ x)) else none)
 else match dD bs x.eF with
  |none=>none
  |some b=>(lE b x).map (mi bs)
def ft(bs:List aY)(b:aY):List aY:=bs++[b]
def n9(add:List aY→aY→List aY)(l:List ak)(s:List aY×List Nat)(i:Nat):List aY×List Nat:=match eE add s.1 (ae l i) with
 |some bs=>(bs,s.2)
 |none=>(s.1,s.2++[i])
def qy(add:List aY→aY→List aY)(l:List ak)(order:List Nat):List aY×List Nat:=order.foldl (n9 add l) ([],[])
theorem ajd(bs:List aY)(x:aY):(mi bs x).map (·.no)=bs.map (·.no):=by
 simp only[mi,List.map_map]
 refine List.map_congr_left fun b _ =>?_
 simp only[Function.comp]
 split
 ·rename_i h;exact h.symm
 ·rfl
theorem ae8{bs:List aY}{no:Int}{b:aY}(h:dD bs no=some b):b∈bs∧b.no=no:=⟨List.mem_of_find?_eq_some h,by simpa using List.find?_some h⟩
theorem HS{bs:List aY}{no:Int} : dD bs no=none↔no∉bs.map (·.no):=by
 simp[dD]
theorem akd{bs:List aY}(hd:(bs.map (·.no)).Nodup){b:aY}(h:b∈bs):dD bs b.no=some b:=by
 induction bs with
 |nil=>cases h
 |cons a bs ih =>
  simp only[dD,List.find?_cons]
  simp only[List.map_cons,List.nodup_cons] at hd
  by_cases e:a.no=b.no
  ·rcases List.mem_cons.1 h with rfl | h
   ·simp
   ·exact absurd (List.mem_map.2 ⟨b,h,e.symm⟩) hd.1
  ·rcases List.mem_cons.1 h with rfl | h
   ·exact absurd rfl e
   ·simp only[decide_eq_false e];exact ih hd.2 h
def yw(add:List aY→aY→List aY):Prop:=∀ bs b,(add bs b).Perm (b::bs)
theorem N9:yw ft:=fun bs b=>List.perm_append_comm
theorem OB{add:List aY→aY→List aY}(ha:yw add){bs bs':List aY}{x:ak}(hd:(bs.map (·.no)).Nodup)(h:eE add bs x=some bs'):(bs'.map (·.no)).Nodup:=by
 simp only[eE] at h
 split at h
 ·split at h
  ·rename_i h2
   simp only[Option.some.injEq] at h
   subst h
   rw[((ha bs (fJ x)).map _).nodup_iff]
   simp only[List.map_cons,List.nodup_cons]
   exact ⟨HS.1 h2.1,hd⟩
  ·cases h
 ·split at h
  ·cases h
  ·simp only[Option.map_eq_some_iff] at h
   obtain ⟨b',_,rfl⟩:=h
   rw[ajd];exact hd
theorem H0{A:af}{k k':Nat}{c c':I}(h1:A.o k=some (.box c))(h2:∀ p,c.only p=true)(h1':A.o k'=some (.box c'))(h2':∀ p,c'.only p=true):∀ n x,al [(k,.box c),(k',.box c')] n=some x→A.o n=some x∧x.only (au [(k,.box c),(k',.box c')])=true∧x.eC=true:=fun n x h=>by
 simp only[al] at h
 split at h
 ·rename_i hn
  subst hn
  simp only[Option.some.injEq] at h
  subst h
  exact ⟨h1,h2 _,rfl⟩
 ·split at h
  ·rename_i hn
   subst hn
   simp only[Option.some.injEq] at h
   subst h
   exact ⟨h1',h2' _,rfl⟩
  ·cases h
theorem ajk{n:Nat}{p:List Nat}{sz k total i j:Nat}(h:i≤j)(hj:j≤k)(hk:k≤total):gP n p sz 0 k total (some (.int .i64 i)) (some (.int .i64 j)) (some (.int .i64 k))=some .db:=by
 simp only[gP,gT]
 rw[if_pos ⟨by omega,by omega,by omega,by omega⟩]
theorem LX{n:Nat}{p:List Nat}{sz k total i j:Nat}(h:i≤j)(hk:j≤total)(h0:i<total):gP n p sz 0 k total (some (.int .i64 i)) (some (.int .i64 j)) none=some (.view n p sz i (j-i)):=by
 simp only[gP,gT]
 rw[if_pos ⟨by omega,by omega,by omega⟩,if_neg (by omega)]
 simp
theorem Oy{α:Type}[Enc α]{A:af}{rest:List aB}{esz bytes:Nat}{d:Option Nat}{e:Nat}(z x:I){n l:Nat}{xs ys:List α}(hx:ec A esz x=some (ys.map enc))(hy:ys≠[])(ho:A.o n=some (.box (.agg (xs.map enc))))(hr:l+ys.length≤xs.length) :
  gG A d e esz bytes z x rest (.view n [] esz 0 l)=aC rest ((A.aR n (.box (.agg ((xs.take l++(ys++xs.drop (l+ys.length))).map enc)))).aO d (.view n [] esz 0 (l+ys.length))):=by
 have h1:=mw (A:=A) (esz:=esz) (lo:=0) (k:=l) ho (by omega)
 have h2:(I.agg (xs.map (enc (α:=α)))).at []=some (.agg (xs.map enc)):=rfl
 have h3:I.cM (ys.map (enc (α:=α)))=I.cM (((xs.map (enc (α:=α))).drop l).take ys.length):=by
  rw[←List.map_drop,←List.map_take]
  exact ye (by rw[List.length_take,List.length_drop];omega)
 simp only[gG,h1,hx,eY]
 rw[if_neg (by simpa using hy)]
 simp only[ho,h2,List.length_map,Nat.zero_add]
 rw[if_pos hr,if_pos ⟨rfl,by rw[List.length_map,Nat.zero_add];exact h3⟩]
 simp only[gV,gh,List.length_map,List.map_append,List.map_take,List.map_drop]
theorem Ox{α:Type}[Enc α]{A:af}{rest:List aB}{esz bytes:Nat}{d:Option Nat}{e:Nat}(z x:I){n l:Nat}{xs:List α}(hx:ec A esz x=some [])(ho:A.o n=some (.box (.agg (xs.map enc))))(hr:l≤xs.length) :
  gG A d e esz bytes z x rest (.view n [] esz 0 l)=aC rest (A.aO d (.view n [] esz 0 l)):=by
 have h1:=mw (A:=A) (esz:=esz) (lo:=0) (k:=l) ho (by omega)
 simp only[gG,h1,hx,eY,if_true]
theorem WI(a b:Int):cj (.i .i64) (enc a) (enc b)=some (a==b):=by simp[jN,cj]
theorem CB:∀ (x y:List Int),x.length=y.length→((x.map (enc (α:=Int))).zip (y.map (enc (α:=Int)))).foldr (fun p acc=>hT (cj (.i .i64) p.1 p.2) acc) (some true)=some (decide (x=y))
 | [],[],_=>by simp
 |a::x,b::y,h=>by
  have ih:=CB x y (by simpa using h)
  rw[List.map_cons,List.map_cons,List.zip_cons_cons,List.foldr_cons,ih,WI]
  by_cases hab:a=b <;>by_cases hxy:x=y <;>simp[hT,hab,hxy]
theorem rQ{n:Nat}(x y:bL n Int):cj (.hU n (.i .i64)) (enc x) (enc y)=some (decide (x.l=y.l)):=by
 change cj (.hU n (.i .i64)) (.agg (x.l.map enc)) (.agg (y.l.map enc))=_
 rw[cj,if_pos ⟨by simp[x.h],by simp[y.h]⟩]
 exact CB x.l y.l (by rw[x.h,y.h])
theorem M2(n:Int):az Tryz.prog 162 [enc n] (enc (!b6 0 4 n)):=by
 refine az.bn Tryz.func162 P1 RY Ua (Nat.le_of_ble_eq_true rfl) (fun hwf W0 D0 E1 =>?_)
 simp only[Ag,Kb,bg]
 refine .ar (by decide +kernel) fun K hK =>?_
 simp only[ER,ab,simprocAttr]
 refine .done (hK _ ?_);clear hK K
 refine .ar (by decide +kernel) fun K hK =>?_
 simp only[ES,ab,simprocAttr]
 refine .flat _ (qV n 0 4) rfl ?_
 try simp only[ab,simprocAttr]
 refine .done (hK _ ?_);clear hK K
 refine U.ret ?_
 simp only[ab,simprocAttr]
theorem Nw(n:Int):az Tryz.prog 211 [enc n] (enc (!b6 1 31 n)):=by
 refine az.bn Tryz.func211 Qr Sq UB (Nat.le_of_ble_eq_true rfl) (fun hwf W0 D0 E1 =>?_)
 simp only[AJ,KD,bg]
 refine .ar (by decide +kernel) fun K hK =>?_
 simp only[GC,ab,simprocAttr]
 refine .done (hK _ ?_);clear hK K
 refine .ar (by decide +kernel) fun K hK =>?_
 simp only[GD,ab,simprocAttr]
 generalize hz:(n==0)=z
 cases z
 ·try simp only[ab,simprocAttr]
  refine .flat _ (yJ n) rfl ?_
  try simp only[ab,simprocAttr]
  refine .done (hK _ ?_);clear hK K
  refine U.ret ?_
  simp only[ab,simprocAttr]
  simp at hz
  have e:(0≤n)↔(1≤n):=by omega
  simp[b6,e]
 ·try simp only[ab,simprocAttr]
  refine .done (hK _ ?_);clear hK K
  refine U.ret ?_
  simp only[ab,simprocAttr]
  simp at hz
  simp[b6,hz]
def mO(p:Int→Bool)(l:List Int):Int:=match l.findIdx? p with
 |some i=>i
 |none=>-1
theorem vk{α:Type}{p:α→Bool}{l:List α}(h:∀ x∈l,p x=false):l.findIdx? p=none:=by
 rw[List.findIdx?_eq_none_iff];exact h
theorem vl{α:Type}{p:α→Bool}{l:List α}{i:Nat}(hi:i<l.length)(h:∀ x∈l.take i,p x=false)(hp:p l[i]=true):l.findIdx? p=some i:=by
 rw[List.findIdx?_eq_some_iff_getElem]
 refine ⟨hi,hp,fun j hj =>?_⟩
 have:l[j]∈l.take i:=by
  rw[List.mem_take_iff_getElem]
  exact ⟨j,by omega,rfl⟩
 simp[h _ this]
theorem M6(l:List Int)(f:FuncId)(caps:List I)(hcaps:I.eO caps=true)(p:Int→Bool)(hf:∀ x∈l,az Tryz.prog f (enc x::caps) (enc (p x))):az Tryz.prog 166 [enc l,.func f caps] (enc (mO p l)):=by
 refine az.bn Tryz.func166 P5 R2 Ue (Nat.le_of_ble_eq_true rfl) (fun hwf W0 D0 E1 =>?_)
 simp only[Ak,Kf,bg,Nat.zero_add]
 have hlen:l.length≤maxLen:=((j6 l).1 hwf.1).1
 simp only[maxLen] at hlen
 have hcl:I.bV caps=true:=kh caps hcaps
 have hfc:∀ aD A,bY aD A caps=some caps:=fun aD A=>kl aD A caps hcaps
 have hon:∀ q,I.bU q caps=true:=fun q=>jX q caps hcl
 refine .ar (by decide +kernel) fun K hK =>?_
 simp only[E0,ab,simprocAttr]
 refine .done (hK _ ?_);clear hK K
 refine U.seq ?_
 refine U.seq (U.bP (by decide +kernel) fun K hK =>?_)
 try simp only[E4,bI,ab,simprocAttr]
 refine .done (hK _ ?_);clear hK K
 refine U.block (U.loop (fun i:Nat=>av [(0,enc l),(1,.func f caps),(7,.int .i64 l.length),(8,.int .i64 i)] []) (fun i=>i≤l.length∧∀ x∈l.take i,p x=false) (fun i=>l.length-i) 0 ⟨Nat.zero_le _,by simp⟩ ?_ (fun i hi =>?_))
 ·refine aI.b9 ?_ ?_ ?_ ?_ <;>simp[bd,bT,bS,bD,bh,I.only,bG,hon]
 ·refine .ar (by decide +kernel) fun K hK =>?_
  simp only[E5,ab,simprocAttr]
  refine .done (hK _ ?_);clear hK K
  refine U.seq ?_
  refine U.bM ?_
  simp only[ao,ab,simprocAttr]
  refine ⟨fun h =>?_,fun h =>?_⟩
  ·have hlt:i<l.length:=by simpa using h
   refine U.skip ?_;try simp only[ay,simprocAttr]
   refine U.seq (U.block ?_)
   refine .ar (by decide +kernel) fun K hK =>?_
   simp only[E6,ab,simprocAttr]
   refine .done (hK _ ?_);clear hK K
   refine .ar (by decide +kernel) fun K hK =>?_
   simp only[E7,ab,simprocAttr]
   try simp only[gw 1 hlt rfl,List.cons_append,hfc,ab,simprocAttr]
   refine .flat _ (hf _ (List.getElem_mem hlt)) rfl ?_
   try simp only[ab,simprocAttr]
   refine .done (hK _ ?_);clear hK K
   refine U.bM ?_
   simp only[ao,ab,simprocAttr]
   refine ⟨fun h =>?_,fun h =>?_⟩
   ·refine .ar (by decide +kernel) fun K hK =>?_
    simp only[E8,ab,simprocAttr]
    refine .done (hK _ ?_);clear hK K
    refine U.ret ?_
    simp only[cg,ay,ab,simprocAttr]
    simp[mO,vl hlt hi.2 h]
   ·refine U.skip ?_;try simp only[ay,cg,simprocAttr]
    refine .bP (by decide +kernel) fun K hK =>?_
    simp only[E9,ab,simprocAttr]
    refine .done (hK _ ?_);clear hK K;try simp only[ay]
    refine ⟨i+1,⟨by omega,fun x hm =>?_⟩,by omega,?_⟩
    ·rw[List.take_succ_eq_append_getElem hlt] at hm
     rcases List.mem_append.1 hm with hm | hm
     ·exact hi.2 x hm
     ·simp at hm;rw[hm];exact h
    ·rw[cN _ (by omega) (by omega)]
     refine aI.b9 ?_ ?_ ?_ ?_ <;>simp[bd,bT,bS,bD,bh,I.only,bG,hon]
  ·have hge:i=l.length:=by simp at h;omega
   refine U.exit ?_;try simp only[ay,cg,simprocAttr]
   refine .ar (by decide +kernel) fun K hK =>?_
   simp only[Fa,ab,simprocAttr]
   refine .done (hK _ ?_);clear hK K
   refine U.ret ?_
   simp only[ab,simprocAttr]
   simp[hge] at hi
   simp[mO,vk hi]
theorem H5(p:Int→Bool)(l:List Int):decide (0≤mO p l)=l.any p:=by
 unfold mO
 cases h:l.findIdx? p with
 |none =>
  rw[List.findIdx?_eq_none_iff] at h
  have:l.any p=false:=by rw[List.any_eq_false];intro x hx;simp[h x hx]
  simp[this]
 |some i =>
  rw[List.findIdx?_eq_some_iff_getElem] at h
  obtain ⟨h1,h2,_⟩:=h
  have:l.any p=true:=by rw[List.any_eq_true];exact ⟨_,List.getElem_mem h1,h2⟩
  rw[this]
  exact decide_eq_true (Int.natCast_nonneg i)
theorem tU(l:List Int)(f:FuncId)(caps:List I)(hcaps:I.eO caps=true)(p:Int→Bool)(hf:∀ x∈l,az Tryz.prog f (enc x::caps) (enc (p x))):az Tryz.prog 125 [enc l,.func f caps] (enc (l.any p)):=by
 refine az.bn Tryz.func125 PB Ry TI (Nat.le_of_ble_eq_true rfl) (fun hwf W0 D0 E1 =>?_)
 simp only[zK,JL,bg,Nat.zero_add]
 have hcl:I.bV caps=true:=kh caps hcaps
 have hfc:∀ aD A,bY aD A caps=some caps:=fun aD A=>kl aD A caps hcaps
 refine .ar (by decide +kernel) fun K hK =>?_
 simp only[Dy,ab,simprocAttr]
 refine .done (hK _ ?_);clear hK K
 refine .ar (by decide +kernel) fun K hK =>?_
 simp only[Dz,ab,simprocAttr]
 try simp only[dC,hfc,ab,simprocAttr]
 refine .flat _ (M6 l f caps hcaps p hf) rfl ?_
 try simp only[ab,simprocAttr]
 refine .done (hK _ ?_);clear hK K
 refine U.ret ?_
 simp only[ab,simprocAttr]
 rw[H5]
theorem Cq{α:Type}[Enc α]{n sz:Nat}(x:bL n α)(hs:Enc.sz α=sz):kW sz 0 n (some (x.l.map enc))=some (enc x.l):=by
 have h:((x.l.map (enc (α:=α))).drop 0).take n=x.l.map enc:=by
  rw[List.drop_zero,List.take_of_length_le];simp[x.h]
 simp only[kW,h]
 rw[if_pos (ke x.l),gJ,hs]
theorem Mo{α:Type}[Enc α]{n sz:Nat}(x:bL n α)(hs:Enc.sz α=sz)(h1:n≤maxLen)(h0:n≠0)(y:I):od n sz (x.l.map enc) y=some y:=by
 simp only[od];rw[if_pos ⟨vb n sz x.l x.h hs,h1,h0⟩]
theorem y8(p:Int→Bool)(x:bL 6 Int):x.l.any (fun v => !p v) = !(List.range 6).all (fun i=>p (x.g i)):=by
 have h:(List.range 6).all (fun i=>p (x.g i))=x.l.all p:=by
  rw[Bool.eq_iff_iff]
  simp only[List.all_eq_true,List.mem_range]
  constructor
  ·intro h v hv
   obtain ⟨i,hi,rfl⟩:=List.getElem_of_mem hv
   have:=h i (by rw[x.h] at hi;exact hi)
   rwa [←x.sd (by rw[x.h] at hi;exact hi)] at this
  ·intro h i hi
   rw[←x.sd hi]
   exact h _ (List.getElem_mem _)
 rw[h,List.not_all_eq_any_not]
theorem MI(m:bL 6 Int):az Tryz.prog 123 [enc m] (enc (fR m)):=by
 refine az.bn Tryz.func123 Pz Rw TG (Nat.le_of_ble_eq_true rfl) (fun hwf W0 D0 E1 =>?_)
 simp only[zI,JJ,bg]
 refine .ar (by decide +kernel) fun K hK =>?_
 simp only[Dt,ab,simprocAttr]
 refine .done (hK _ ?_);clear hK K
 refine .ar (by decide +kernel) fun K hK =>?_
 simp only[Du,ab,simprocAttr]
 try simp only[bI,Mo (sz:=1) m rfl (Nat.le_of_ble_eq_true rfl) (Nat.succ_ne_zero 5),Cq (sz:=1) m rfl,ab,simprocAttr]
 refine .flat _ (tU m.l 162 [] rfl (fun n => !b6 0 4 n) (fun x _=>M2 x)) rfl ?_
 try simp only[ab,simprocAttr]
 refine .done (hK _ ?_);clear hK K
 refine U.ret ?_
 simp only[ab,simprocAttr]
 rw[y8 (b6 0 4)];simp[fR]
theorem Nj(m:bL 6 Int):az Tryz.prog 193 [enc m] (enc (lp m)):=by
 refine az.bn Tryz.func193 Qg Se Uq (Nat.le_of_ble_eq_true rfl) (fun hwf W0 D0 E1 =>?_)
 simp only[Ax,Kr,bg]
 refine .ar (by decide +kernel) fun K hK =>?_
 simp only[Fy,ab,simprocAttr]
 refine .done (hK _ ?_);clear hK K
 refine .ar (by decide +kernel) fun K hK =>?_
 simp only[Fz,ab,simprocAttr]
 try simp only[bI,Mo (sz:=1) m rfl (Nat.le_of_ble_eq_true rfl) (Nat.succ_ne_zero 5),Cq (sz:=1) m rfl,ab,simprocAttr]
 refine .flat _ (tU m.l 211 [] rfl (fun n => !b6 1 31 n) (fun x _=>Nw x)) rfl ?_
 try simp only[ab,simprocAttr]
 refine .done (hK _ ?_);clear hK K
 refine U.ret ?_
 simp only[ab,simprocAttr]
 rw[y8 (b6 1 31)];simp[lp]
theorem MH(n:Int):az Tryz.prog 122 [enc n] (enc (b6 1 99 n)):=by
 refine az.bn Tryz.func122 Py Rv TF (Nat.le_of_ble_eq_true rfl) (fun hwf W0 D0 E1 =>?_)
 simp only[zH,JI,bg]
 refine .ar (by decide +kernel) fun K hK =>?_
 simp only[Dr,ab,simprocAttr]
 refine .done (hK _ ?_);clear hK K
 refine .ar (by decide +kernel) fun K hK =>?_
 simp only[Ds,ab,simprocAttr]
 refine .flat _ (qV n 1 99) rfl ?_
 try simp only[ab,simprocAttr]
 refine .done (hK _ ?_);clear hK K
 refine U.ret ?_
 simp only[ab,simprocAttr]
theorem yH(m:bL 6 Int):az Tryz.prog 157 [enc m] (enc (if lp m then (0:Int) else 12)):=by
 refine az.bn Tryz.func157 PV RS T4 (Nat.le_of_ble_eq_true rfl) (fun hwf W0 D0 E1 =>?_)
 simp only[Aa,J5,bg]
 refine .ar (by decide +kernel) fun K hK =>?_
 simp only[En,ab,simprocAttr]
 refine .done (hK _ ?_);clear hK K
 refine U.seq (U.seq ?_)
 refine .bP (by decide +kernel) fun K hK =>?_
 simp only[Eo,ab,simprocAttr]
 try simp only[dB,dC,ab,simprocAttr]
 refine .flat _ (Nj m) rfl ?_
 generalize hm:lp m=b
 cases b
 ·try simp only[ab,simprocAttr]
  refine .done (hK _ ?_);clear hK K;try simp only[ay]
  refine U.bM ?_
  simp only[ao,ab,simprocAttr]
  refine ⟨fun h =>?_,fun h =>?_⟩
  ·refine .ar (by decide +kernel) fun K hK =>?_
   simp only[Ep,ab,simprocAttr]
   refine .done (hK _ ?_);clear hK K
   refine U.ret ?_
   simp only[ay,ab,simprocAttr]
   simp[hm]
  ·cases h
 ·try simp only[ab,simprocAttr]
  refine .done (hK _ ?_);clear hK K
  refine U.bM ?_
  simp only[ao,ab,simprocAttr]
  refine ⟨fun h =>?_,fun h =>?_⟩
  ·cases h
  ·refine U.skip ?_;try simp only[ay,simprocAttr]
   refine .ar (by decide +kernel) fun K hK =>?_
   simp only[Er,ab,simprocAttr]
   refine .done (hK _ ?_);clear hK K
   refine U.ret ?_
   simp only[ab,simprocAttr]
   simp[hm]
def wy(s:Int)(k:Nat):Bool:=ng (s.fdiv (2^min k IntKind.i64.bits)) 1==1
theorem M0(s:Int)(k:Nat):az Tryz.prog 161 [enc s,enc (k:Int)] (enc (wy s k)):=by
 refine az.bn Tryz.func161 P0 RX T9 (Nat.le_of_ble_eq_true rfl) (fun hwf W0 D0 E1 =>?_)
 simp only[Af,Ka,bg,Nat.zero_add]
 refine .ar (by decide +kernel) fun K hK =>?_
 simp only[EO,ab,simprocAttr]
 refine .done (hK _ ?_);clear hK K
 refine .ar (by decide +kernel) fun K hK =>?_
 simp only[EP,ab,simprocAttr]
 refine .done (hK _ ?_);clear hK K
 refine U.ret ?_
 simp only[ab,simprocAttr]
 rfl
theorem afC(s:Int)(h0:0≤s)(h1:s≤31)(k:Nat)(hk:k<5):wy s k=kc s k:=by
 have key:∀ s:Fin 32,∀ k:Fin 5,wy (s.1:Int) k.1=kc (s.1:Int) k.1:=by decide +kernel
 have:=key ⟨s.toNat,by omega⟩ ⟨k,hk⟩
 simpa[Int.toNat_of_nonneg h0] using this
theorem MG(m:bL 5 Int):az Tryz.prog 120 [enc m] (enc (ph m)):=by
 refine az.bn Tryz.func120 Pw Rt TD (Nat.le_of_ble_eq_true rfl) (fun hwf W0 D0 E1 =>?_)
 simp only[zF,JG,bg]
 refine .ar (by decide +kernel) fun K hK =>?_
 simp only[Df,ab,simprocAttr]
 refine .done (hK _ ?_);clear hK K
 refine U.seq ?_
 refine U.seq (U.bP (by decide +kernel) fun K hK =>?_)
 try simp only[Dg,dB,ab,simprocAttr]
 refine .done (hK _ ?_);clear hK K
 refine U.block (U.loop (fun i:Nat=>av [(2,.bool false),(6,enc m),(7,.int .i64 i)] []) (fun j=>j≤5∧∀ i,i<j→(b6 0 31 (m.g i)&&kc (m.g i) i)=true) (fun i=>5-i) 0 ⟨by omega,fun k h=>by omega⟩ ?_ (fun i hi =>?_))
 ·refine aI.b9 ?_ ?_ ?_ ?_ <;>simp[bd,bT,bS,bD,bh,I.only,bG]
 ·refine .ar (by decide +kernel) fun K hK =>?_
  simp only[Di,ab,simprocAttr]
  refine .done (hK _ ?_);clear hK K
  refine U.seq ?_
  refine U.bM ?_
  simp only[ao,ab,simprocAttr]
  refine ⟨fun h =>?_,fun h =>?_⟩
  ·have hlt:i<5:=by simp at h;omega
   refine U.skip ?_;try simp only[ay,simprocAttr]
   refine U.seq (U.block ?_)
   refine .ar (by decide +kernel) fun K hK =>?_
   simp only[Dj,ab,simprocAttr]
   try simp only[qh,bI,ny 1 m hlt rfl,sf m hlt,ab,simprocAttr]
   refine .done (hK _ ?_);clear hK K
   refine .ar (by decide +kernel) fun K hK =>?_
   simp only[Dk,ab,simprocAttr]
   refine .done (hK _ ?_);clear hK K
   refine .ar (by decide +kernel) fun K hK =>?_
   simp only[Dl,ab,simprocAttr]
   refine .flat _ (yJ _) rfl ?_
   generalize hb:b6 0 31 (m.g i)=b
   cases b
   ·try simp only[ab,simprocAttr]
    refine .done (hK _ ?_);clear hK K
    refine U.bM ?_
    simp only[ao,ab,simprocAttr]
    refine ⟨fun h =>?_,fun h =>?_⟩
    ·refine .ar (by decide +kernel) fun K hK =>?_
     simp only[vq,ab,simprocAttr]
     refine .done (hK _ ?_);clear hK K
     refine U.ret ?_
     simp only[cg,ay,ab,simprocAttr]
     rw[ph,mC i hlt]
     simp[hb]
    ·cases h
   ·have hr:0≤m.g i∧m.g i≤31:=by simpa[b6] using hb
    try simp only[ab,simprocAttr]
    refine .flat _ (M0 (m.g i) i) rfl ?_
    rw[afC _ hr.1 hr.2 i hlt]
    try simp only[ab,simprocAttr]
    refine .done (hK _ ?_);clear hK K
    refine U.bM ?_
    simp only[ao,ab,simprocAttr]
    refine ⟨fun h =>?_,fun h =>?_⟩
    ·refine .ar (by decide +kernel) fun K hK =>?_
     simp only[vq,ab,simprocAttr]
     refine .done (hK _ ?_);clear hK K
     refine U.ret ?_
     simp only[cg,ay,ab,simprocAttr]
     rw[ph,mC i hlt]
     simp at h
     simp[h]
    ·refine U.skip ?_;try simp only[ay,cg,simprocAttr]
     refine .bP (by decide +kernel) fun K hK =>?_
     simp only[Dm,ab,simprocAttr]
     refine .done (hK _ ?_);clear hK K;try simp only[ay]
     refine ⟨i+1,⟨by omega,fun k hk =>?_⟩,by omega,?_⟩
     ·by_cases hk':k=i
      ·subst hk'
       simp at h
       simp[hb,h]
      ·exact hi.2 k (by omega)
     ·rw[cN _ (by omega) (by omega)]
      refine aI.b9 ?_ ?_ ?_ ?_ <;>simp[bd,bT,bS,bD,bh,I.only,bG]
  ·have hge:i=5:=by simp at h;omega
   subst hge
   refine U.exit ?_;try simp only[ay,cg,simprocAttr]
   refine .ar (by decide +kernel) fun K hK =>?_
   simp only[Dn,ab,simprocAttr]
   refine .done (hK _ ?_);clear hK K
   refine U.ret ?_
   simp only[ab,simprocAttr]
   rw[ph,ov hi.2]
theorem yN(f:FuncId)(caps:List I)(hcaps:I.eO caps=true)(p:Nat→Bool)(hf:∀ i:Nat,i<6→az Tryz.prog f (enc (i:Int)::caps) (enc (p i))):az Tryz.prog 197 [.func f caps] (enc (jy (fun i => !p i) 6:Int)):=by
 refine az.bn Tryz.func197 Qk Si Uu (Nat.le_of_ble_eq_true rfl) (fun hwf W0 D0 E1 =>?_)
 simp only[AB,Kv,bg]
 have hcl:I.bV caps=true:=kh caps hcaps
 have hfc:∀ aD A,bY aD A caps=some caps:=fun aD A=>kl aD A caps hcaps
 have hon:∀ q,I.bU q caps=true:=fun q=>jX q caps hcl
 refine .ar (by decide +kernel) fun K hK =>?_
 simp only[FM,ab,simprocAttr]
 refine .done (hK _ ?_);clear hK K
 refine .ar (by decide +kernel) fun K hK =>?_
 simp only[FN,ab,simprocAttr]
 refine .done (hK _ ?_);clear hK K
 refine U.seq ?_
 refine .ar (by decide +kernel) fun K hK =>?_
 simp only[FO,ab,simprocAttr]
 refine .done (hK _ ?_);clear hK K
 refine U.block (U.loop (fun i:Nat=>av [(0,.func f caps),(3,.int .i64 (jy (fun i => !p i) i:Int)),(5,.int .i64 i)] []) (fun i=>i≤6∧jy (fun i => !p i) i≤i) (fun i=>6-i) 0 ⟨by omega,by simp[jy]⟩ ?_ (fun i hi =>?_))
 ·refine aI.b9 ?_ ?_ ?_ ?_ <;>simp[bd,bT,bS,bD,bh,I.only,hon,jy]
 ·refine .ar (by decide +kernel) fun K hK =>?_
  simp only[FP,ab,simprocAttr]
  refine .done (hK _ ?_);clear hK K
  refine U.seq ?_
  refine U.bM ?_
  simp only[ao,ab,simprocAttr]
  refine ⟨fun h =>?_,fun h =>?_⟩
  ·have hlt:i<6:=by simp at h;omega
   refine U.skip ?_;try simp only[ay,simprocAttr]
   refine U.seq (U.block ?_)
   refine .ar (by decide +kernel) fun K hK =>?_
   simp only[FQ,ab,simprocAttr]
   refine .done (hK _ ?_);clear hK K
   refine .ar (by decide +kernel) fun K hK =>?_
   simp only[FR,ab,simprocAttr]
   try simp only[List.cons_append,hfc,ab,simprocAttr]
   refine .flat _ (hf i hlt) rfl ?_
   try simp only[ab,simprocAttr]
   refine .done (hK _ ?_);clear hK K
   refine U.bM ?_
   simp only[ao,ab,simprocAttr]
   refine ⟨fun h =>?_,fun h =>?_⟩
   ·simp at h
    refine .bP (by decide +kernel) fun K hK =>?_
    simp only[FT,ab,simprocAttr]
    refine .done (hK _ ?_);clear hK K;try simp only[ay,cg]
    refine .bP (by decide +kernel) fun K hK =>?_
    simp only[vO,ab,simprocAttr]
    refine .done (hK _ ?_);clear hK K;try simp only[ay]
    refine ⟨i+1,⟨by omega,?_⟩,by omega,?_⟩
    ·simp only[jy];split <;>omega
    ·rw[cN _ (by omega) (by omega),cN _ (by omega) (by omega)]
     refine aI.b9 ?_ ?_ ?_ ?_ <;>simp[bd,bT,bS,bD,bh,I.only,hon,jy,h]
   ·simp at h
    refine U.skip ?_;try simp only[ay,cg,simprocAttr]
    refine .bP (by decide +kernel) fun K hK =>?_
    simp only[vO,ab,simprocAttr]
    refine .done (hK _ ?_);clear hK K;try simp only[ay]
    refine ⟨i+1,⟨by omega,?_⟩,by omega,?_⟩
    ·simp only[jy];split <;>omega
    ·rw[cN _ (by omega) (by omega)]
     refine aI.b9 ?_ ?_ ?_ ?_ <;>simp[bd,bT,bS,bD,bh,I.only,hon,jy,h]
  ·have hge:i=6:=by simp at h;omega
   subst hge
   refine U.exit ?_;try simp only[ay,cg,simprocAttr]
   refine .ar (by decide +kernel) fun K hK =>?_
   simp only[FU,ab,simprocAttr]
   refine .done (hK _ ?_);clear hK K
   refine U.ret ?_
   simp only[ab,simprocAttr]
theorem Nx(w:bL 5 Int)(m r:bL 6 Int)(hm:fR m=true)(i:Nat)(hi:i<6):az Tryz.prog 212 (enc (i:Int)::[.ref (.func 196 []),.ref (enc w),.ref (enc m),.ref (enc r)]) (enc (!rI w m r i)):=by
 obtain ⟨h0,h5⟩:=xv hm hi
 refine az.bn Tryz.func212 Qs Sr UC (Nat.le_of_ble_eq_true rfl) (fun hwf W0 D0 E1 =>?_)
 simp only[AK,KE,bg,Nat.zero_add,Nat.reduceAdd]
 refine .ar (by decide +kernel) fun K hK =>?_
 simp only[GF,ab,simprocAttr]
 refine .done (hK _ ?_);clear hK K
 refine .ar (by decide +kernel) fun K hK =>?_
 simp only[GG,ab,simprocAttr]
 try simp only[dB,dC,ab,simprocAttr]
 refine .flat _ (tY w m i hi h0 h5) rfl ?_
 try simp only[bI,ny 1 r hi rfl,qc,sf r hi,List.append_nil,ab,simprocAttr]
 refine .flat _ (yM _ _) rfl ?_
 try simp only[ab,simprocAttr]
 refine .done (hK _ ?_);clear hK K
 refine U.ret ?_
 simp only[ab,simprocAttr]
 simp[rI,bne]
theorem Nk(w:bL 5 Int)(a b:bL 6 Int)(ha:fR a=true)(hb:fR b=true)(i:Nat)(hi:i<6):az Tryz.prog 198 (enc (i:Int)::[.ref (.func 196 []),.ref (enc w),.ref (enc a),.ref (enc b)]) (enc (!pM w a b i)):=by
 obtain ⟨h0,h5⟩:=xv ha hi
 obtain ⟨k0,k5⟩:=xv hb hi
 refine az.bn Tryz.func198 Ql Sj Uv (Nat.le_of_ble_eq_true rfl) (fun hwf W0 D0 E1 =>?_)
 simp only[AD,Kx,bg,Nat.zero_add,Nat.reduceAdd]
 refine .ar (by decide +kernel) fun K hK =>?_
 simp only[FV,ab,simprocAttr]
 refine .done (hK _ ?_);clear hK K
 refine .ar (by decide +kernel) fun K hK =>?_
 simp only[FW,ab,simprocAttr]
 try simp only[dB,dC,ab,simprocAttr]
 refine .flat _ (tY w a i hi h0 h5) rfl ?_
 try simp only[dB,dC,ab,simprocAttr]
 refine .flat _ (tY w b i hi k0 k5) rfl ?_
 try simp only[List.append_nil,ab,simprocAttr]
 refine .flat _ (yM _ _) rfl ?_
 try simp only[ab,simprocAttr]
 refine .done (hK _ ?_);clear hK K
 refine U.ret ?_
 simp only[ab,simprocAttr]
 simp[pM,bne]
theorem L7{A:af}{n:Nat}{b:I}{f:FuncId}{caps:List I}{rest:List aB} : dY A none n [] b (.func f caps) rest (some .de)=aC rest (A.aR n (.box (b.dK [] (.func f caps)))):=fq rfl rfl (by simp[I.aT])
theorem Nq(w:bL 5 Int)(m r:bL 6 Int)(hm:fR m=true):az Tryz.prog 202 [enc w,enc m,enc r] (enc (lJ w m r)):=by
 refine az.bn Tryz.func202 Qp Sn Uz (Nat.le_of_ble_eq_true rfl) (fun hwf W0 D0 E1 =>?_)
 simp only[AH,KB,bg,Nat.zero_add,Nat.reduceAdd]
 refine .ar (by decide +kernel) fun K hK =>?_
 simp only[F9,ab,simprocAttr]
 try simp only[dz,ab,simprocAttr]
 refine .done (hK _ ?_);clear hK K
 refine .ar (by decide +kernel) fun K hK =>?_
 simp only[Ga,ab,simprocAttr]
 try simp only[L7,ab,simprocAttr]
 refine .done (hK _ ?_);clear hK K
 refine .ar (by decide +kernel) fun K hK =>?_
 simp only[Gb,ab,simprocAttr]
 try simp only[List.all_cons,List.all_nil,I.cq,Bool.and_self,dO,ab,simprocAttr]
 refine .flat _ (yN 212 [.ref (.func 196 []),.ref (enc w),.ref (enc m),.ref (enc r)] ?_ (fun i => !rI w m r i) (fun i hi=>Nx w m r hm i hi)) rfl ?_
 ·simp only[I.eO,I.done,I.bu,I.bV,dO,Bool.and_self]
 try simp only[ab,simprocAttr]
 refine .done (hK _ ?_);clear hK K
 refine U.ret ?_
 simp only[ab,simprocAttr]
 simp only[lJ,Bool.not_not]
theorem M5(w:bL 5 Int)(a b:bL 6 Int)(ha:fR a=true)(hb:fR b=true):az Tryz.prog 165 [enc w,enc a,enc b] (enc (jy (pM w a b) 6:Int)):=by
 refine az.bn Tryz.func165 P4 R1 Ud (Nat.le_of_ble_eq_true rfl) (fun hwf W0 D0 E1 =>?_)
 simp only[Aj,Ke,bg,Nat.zero_add,Nat.reduceAdd]
 refine .ar (by decide +kernel) fun K hK =>?_
 simp only[EX,ab,simprocAttr]
 try simp only[dz,ab,simprocAttr]
 refine .done (hK _ ?_);clear hK K
 refine .ar (by decide +kernel) fun K hK =>?_
 simp only[EY,ab,simprocAttr]
 try simp only[L7,ab,simprocAttr]
 refine .done (hK _ ?_);clear hK K
 refine .ar (by decide +kernel) fun K hK =>?_
 simp only[EZ,ab,simprocAttr]
 try simp only[List.all_cons,List.all_nil,I.cq,Bool.and_self,dO,ab,simprocAttr]
 refine .flat _ (yN 198 [.ref (.func 196 []),.ref (enc w),.ref (enc a),.ref (enc b)] ?_ (fun i => !pM w a b i) (fun i hi=>Nk w a b ha hb i hi)) rfl ?_
 ·simp only[I.eO,I.done,I.bu,I.bV,dO,Bool.and_self]
 try simp only[ab,simprocAttr]
 refine .done (hK _ ?_);clear hK K
 refine U.ret ?_
 simp only[ab,simprocAttr]
 simp only[Bool.not_not]
theorem M4(m:cH)(g:cz)(k:bL 6 Int)(hg:fR g.mark=true)(hk:fR k=true):az Tryz.prog 164 (enc g::[.ref (enc m),.ref (enc k)]) (enc (m8 m g.mark k)):=by
 refine az.bn Tryz.func164 P3 R0 Uc (Nat.le_of_ble_eq_true rfl) (fun hwf W0 D0 E1 =>?_)
 simp only[Ai,Kd,bg,Nat.zero_add,Nat.reduceAdd]
 refine .ar (by decide +kernel) fun K hK =>?_
 simp only[EV,ab,simprocAttr]
 try simp only[dz,ab,simprocAttr]
 refine .done (hK _ ?_);clear hK K
 refine .ar (by decide +kernel) fun K hK =>?_
 simp only[EW,ab,simprocAttr]
 try simp only[dB,dC,ab,simprocAttr]
 refine .flat _ (M5 m.gi g.mark k hg hk) rfl ?_
 try simp only[dB,ab,simprocAttr]
 refine .done (hK _ ?_);clear hK K
 refine U.ret ?_
 simp only[ab,simprocAttr]
 rfl
theorem tX(l:List cz)(f:FuncId)(caps:List I)(hcaps:I.eO caps=true)(p:cz→Bool)(hf:∀ x∈l,az Tryz.prog f (enc x::caps) (enc (p x))):az Tryz.prog 195 [enc l,.func f caps] (enc (match l.findIdx? p with | some i=>(i:Int) | none=>-1)):=by
 refine az.bn Tryz.func195 Qi Sg Us (Nat.le_of_ble_eq_true rfl) (fun hwf W0 D0 E1 =>?_)
 simp only[Az,Kt,bg,Nat.zero_add]
 have hlen:l.length≤maxLen:=((j6 l).1 hwf.1).1
 simp only[maxLen] at hlen
 have hcl:I.bV caps=true:=kh caps hcaps
 have hfc:∀ aD A,bY aD A caps=some caps:=fun aD A=>kl aD A caps hcaps
 have hon:∀ q,I.bU q caps=true:=fun q=>jX q caps hcl
 refine .ar (by decide +kernel) fun K hK =>?_
 simp only[FC,ab,simprocAttr]
 refine .done (hK _ ?_);clear hK K
 refine U.seq ?_
 refine U.seq (U.bP (by decide +kernel) fun K hK =>?_)
 try simp only[FD,bI,ab,simprocAttr]
 refine .done (hK _ ?_);clear hK K
 refine U.block (U.loop (fun i:Nat=>av [(0,enc l),(1,.func f caps),(7,.int .i64 l.length),(8,.int .i64 i)] []) (fun i=>i≤l.length∧∀ x∈l.take i,p x=false) (fun i=>l.length-i) 0 ⟨Nat.zero_le _,by simp⟩ ?_ (fun i hi =>?_))
 ·refine aI.b9 ?_ ?_ ?_ ?_ <;>simp[bd,bT,bS,bD,bh,I.only,bG,hon]
 ·refine .ar (by decide +kernel) fun K hK =>?_
  simp only[FE,ab,simprocAttr]
  refine .done (hK _ ?_);clear hK K
  refine U.seq ?_
  refine U.bM ?_
  simp only[ao,ab,simprocAttr]
  refine ⟨fun h =>?_,fun h =>?_⟩
  ·have hlt:i<l.length:=by simpa using h
   refine U.skip ?_;try simp only[ay,simprocAttr]
   refine U.seq (U.block ?_)
   refine .ar (by decide +kernel) fun K hK =>?_
   simp only[FF,ab,simprocAttr]
   refine .done (hK _ ?_);clear hK K
   refine .ar (by decide +kernel) fun K hK =>?_
   simp only[FG,ab,simprocAttr]
   try simp only[gw 7 hlt rfl,dB,List.cons_append,hfc,dC,ab,simprocAttr]
   refine .flat _ (hf _ (List.getElem_mem hlt)) rfl ?_
   try simp only[ab,simprocAttr]
   refine .done (hK _ ?_);clear hK K
   refine U.bM ?_
   simp only[ao,ab,simprocAttr]
   refine ⟨fun h =>?_,fun h =>?_⟩
   ·refine .ar (by decide +kernel) fun K hK =>?_
    simp only[FH,ab,simprocAttr]
    refine .done (hK _ ?_);clear hK K
    refine U.ret ?_
    simp only[cg,ay,ab,simprocAttr]
    simp[vl hlt hi.2 h]
   ·refine U.skip ?_;try simp only[ay,cg,simprocAttr]
    refine .bP (by decide +kernel) fun K hK =>?_
    simp only[FI,ab,simprocAttr]
    refine .done (hK _ ?_);clear hK K;try simp only[ay]
    refine ⟨i+1,⟨by omega,fun x hm =>?_⟩,by omega,?_⟩
    ·rw[List.take_succ_eq_append_getElem hlt] at hm
     rcases List.mem_append.1 hm with hm | hm
     ·exact hi.2 x hm
     ·simp at hm;rw[hm];exact h
    ·rw[cN _ (by omega) (by omega)]
     refine aI.b9 ?_ ?_ ?_ ?_ <;>simp[bd,bT,bS,bD,bh,I.only,bG,hon]
  ·have hge:i=l.length:=by simp at h;omega
   refine U.exit ?_;try simp only[ay,cg,simprocAttr]
   refine .ar (by decide +kernel) fun K hK =>?_
   simp only[FJ,ab,simprocAttr]
   refine .done (hK _ ?_);clear hK K
   refine U.ret ?_
   simp only[ab,simprocAttr]
   simp[hge] at hi
   simp[vk hi]
theorem Xg{α:Type}(p:α→Bool)(l:List α):decide (0≤(match l.findIdx? p with | some i=>(i:Int) | none=>-1))=l.any p:=by
 cases h:l.findIdx? p with
 |none =>
  rw[List.findIdx?_eq_none_iff] at h
  have:l.any p=false:=by rw[List.any_eq_false];intro x hx;simp[h x hx]
  simp[this]
 |some i =>
  rw[List.findIdx?_eq_some_iff_getElem] at h
  obtain ⟨h1,h2,_⟩:=h
  have:l.any p=true:=by rw[List.any_eq_true];exact ⟨_,List.getElem_mem h1,h2⟩
  rw[this]
  exact decide_eq_true (Int.natCast_nonneg i)
theorem M3(l:List cz)(f:FuncId)(caps:List I)(hcaps:I.eO caps=true)(p:cz→Bool)(hf:∀ x∈l,az Tryz.prog f (enc x::caps) (enc (p x))):az Tryz.prog 163 [enc l,.func f caps] (enc (l.any p)):=by
 refine az.bn Tryz.func163 P2 RZ Ub (Nat.le_of_ble_eq_true rfl) (fun hwf W0 D0 E1 =>?_)
 simp only[Ah,Kc,bg,Nat.zero_add]
 have hcl:I.bV caps=true:=kh caps hcaps
 have hfc:∀ aD A,bY aD A caps=some caps:=fun aD A=>kl aD A caps hcaps
 refine .ar (by decide +kernel) fun K hK =>?_
 simp only[ET,ab,simprocAttr]
 refine .done (hK _ ?_);clear hK K
 refine .ar (by decide +kernel) fun K hK =>?_
 simp only[EU,ab,simprocAttr]
 try simp only[dC,hfc,ab,simprocAttr]
 refine .flat _ (tX l f caps hcaps p hf) rfl ?_
 try simp only[ab,simprocAttr]
 refine .done (hK _ ?_);clear hK K
 refine U.ret ?_
 simp only[ab,simprocAttr]
 rw[Xg]
theorem yB(m:cH)(l:List cz)(k:bL 6 Int)(hl:∀ g∈l,fR g.mark=true)(hk:fR k=true):az Tryz.prog 124 [enc m,enc l,enc k] (enc (!l.any fun g=>m8 m g.mark k)):=by
 refine az.bn Tryz.func124 PA Rx TH (Nat.le_of_ble_eq_true rfl) (fun hwf W0 D0 E1 =>?_)
 simp only[zJ,JK,bg,Nat.zero_add,Nat.reduceAdd]
 refine .ar (by decide +kernel) fun K hK =>?_
 simp only[Dv,ab,simprocAttr]
 try simp only[dz,ab,simprocAttr]
 refine .done (hK _ ?_);clear hK K
 refine .ar (by decide +kernel) fun K hK =>?_
 simp only[Dw,ab,simprocAttr]
 try simp only[List.all_cons,List.all_nil,I.cq,Bool.and_self,dO,dC,ab,simprocAttr]
 refine .flat _ (M3 l 164 [.ref (enc m),.ref (enc k)] ?_ (fun g=>m8 m g.mark k) (fun g hg=>M4 m g k (hl g hg) hk)) rfl ?_
 ·simp only[I.eO,I.done,dO,Bool.and_self]
 try simp only[ab,simprocAttr]
 refine .done (hK _ ?_);clear hK K
 refine U.ret ?_
 simp only[ab,simprocAttr]
theorem LV{α:Type}[Enc α]{A:af}(esz:Nat){l:List α}{i:Nat}(h:i≤l.length)(hs:Enc.sz α=esz):lC A esz none (some (.int .i64 i)) none (enc l)=some (enc (l.take i)):=by
 simp only[lC,gJ,hs,if_true,js,gT,List.length_map]
 rw[if_pos ⟨by omega,by omega,by omega,by omega⟩]
 simp
theorem za(m:cH)(k:bL 6 Int){i:Nat}(h:i≤m.given.length):(!(m.given.take i).any fun g=>m8 m g.mark k)=(List.range i).all (fun j => !m8 m (ep m j).mark k):=by
 rw[Bool.eq_iff_iff]
 simp only[Bool.not_eq_true',List.any_eq_false,List.all_eq_true,List.mem_range]
 constructor
 ·intro h1 j hj
  have hjl:j<m.given.length:=by omega
  have:=h1 m.given[j] (by rw[List.mem_take_iff_getElem];exact ⟨j,by omega,rfl⟩)
  rw[km hjl] at this
  simpa using this
 ·intro h1 g hg
  rw[List.mem_take_iff_getElem] at hg
  obtain ⟨j,hj,rfl⟩:=hg
  have hjl:j<m.given.length:=by omega
  rw[km hjl]
  simpa using h1 j (by omega)
theorem ua(m:cH):az Tryz.prog 66 [enc m] (enc (if gD m then (0:Int) else 13)):=by
 refine az.bn Tryz.func66 QO SO UZ (Nat.le_of_ble_eq_true rfl) (fun hwf W0 D0 E1 =>?_)
 simp only[A8,K0,bg]
 refine .ar (by decide +kernel) fun K hK =>?_
 simp only[Hh,ab,simprocAttr]
 try simp only[dz,ab,simprocAttr]
 refine .done (hK _ ?_);clear hK K
 refine U.seq (U.seq ?_)
 refine .bP (by decide +kernel) fun K hK =>?_
 simp only[Hi,ab,simprocAttr]
 try simp only[dB,dC,ab,simprocAttr]
 refine .flat _ (MG m.gi) rfl ?_
 generalize hw:ph m.gi=bw
 cases bw
 ·try simp only[ab,simprocAttr]
  refine .done (hK _ ?_);clear hK K;try simp only[ay]
  refine U.bM ?_
  simp only[ao,ab,simprocAttr]
  refine ⟨fun h =>?_,fun h =>?_⟩
  ·refine .ar (by decide +kernel) fun K hK =>?_
   simp only[r9,ab,simprocAttr]
   refine .done (hK _ ?_);clear hK K
   refine U.ret ?_
   simp only[ay,ab,simprocAttr]
   simp[gD,hw]
  ·cases h
 try simp only[dB,ab,simprocAttr]
 refine .flat _ (qV m.gM 0 2) rfl ?_
 generalize hf:b6 0 2 m.gM=bf
 cases bf
 ·try simp only[ab,simprocAttr]
  refine .done (hK _ ?_);clear hK K
  refine U.bM ?_
  simp only[ao,ab,simprocAttr]
  refine ⟨fun h =>?_,fun h =>?_⟩
  ·refine .ar (by decide +kernel) fun K hK =>?_
   simp only[r9,ab,simprocAttr]
   refine .done (hK _ ?_);clear hK K
   refine U.ret ?_
   simp only[ay,ab,simprocAttr]
   simp[gD,hw,hf]
  ·cases h
 try simp only[dB,bI,ab,simprocAttr]
 refine .done (hK _ ?_);clear hK K
 refine U.bM ?_
 simp only[ao,ab,simprocAttr]
 refine ⟨fun h =>?_,fun h =>?_⟩
 ·refine .ar (by decide +kernel) fun K hK =>?_
  simp only[r9,ab,simprocAttr]
  refine .done (hK _ ?_);clear hK K
  refine U.ret ?_
  simp only[ay,ab,simprocAttr]
  have:¬ m.given.length≤40:=by simp at h;omega
  simp[gD,hw,hf,this]
 have hlen:m.given.length≤40:=by simp at h;omega
 refine U.skip ?_;try simp only[ay,simprocAttr]
 refine U.seq (U.seq ?_)
 refine U.bP (by decide +kernel) fun K hK =>?_
 try simp only[Hj,dB,bI,ab,simprocAttr]
 refine .done (hK _ ?_);clear hK K
 refine U.block (U.loop (fun i:Nat=>av [(1,.ptr 1 []),(22,enc m.given),(23,.int .i64 m.given.length),(24,.int .i64 i)] [(1,.box (enc m))]) (fun i=>i≤m.given.length∧∀ j,j<i→iM m j=true) (fun i=>m.given.length-i) 0 ⟨by omega,fun k h=>by omega⟩ ?_ (fun i hi =>?_))
 ·refine aI.b9 ?_ ?_ ?_ ?_ <;>simp[bd,bT,bS,bD,au,bh,cI,I.only,ai.only,bG]
 refine .ar (by decide +kernel) fun K hK =>?_
 simp only[Hk,ab,simprocAttr]
 refine .done (hK _ ?_);clear hK K
 refine U.seq ?_
 refine U.bM ?_
 simp only[ao,ab,simprocAttr]
 refine ⟨fun h =>?_,fun h =>?_⟩
 case refine_2.refine_2 =>
  have hge:i=m.given.length:=by simp at h;omega
  subst hge
  refine U.exit ?_;try simp only[ay,cg,simprocAttr]
  refine .ar (by decide +kernel) fun K hK =>?_
  simp only[Hn,ab,simprocAttr]
  refine .done (hK _ ?_);clear hK K
  refine U.ret ?_
  simp only[ab,simprocAttr]
  have:(List.range m.given.length).all (iM m)=true:=ov hi.2
  simp[gD,hw,hf,this,hlen]
 have hlt:i<m.given.length:=by simpa using h
 refine U.skip ?_;try simp only[ay,simprocAttr]
 refine U.seq (U.block ?_)
 refine .ar (by decide +kernel) fun K hK =>?_
 simp only[Hl,ab,simprocAttr]
 try simp only[dB,Ie hlt,ab,simprocAttr]
 rw[fq (dz _) (by rw[gK];rfl) ((fm _).trans rfl)]
 try simp only[ab,simprocAttr]
 refine .done (hK _ ?_);clear hK K
 have bad:∀ b,iM m i=b→b=false→(if gD m then (0:Int) else 13)=13:=fun b h1 h2=>by
  have:(List.range m.given.length).all (iM m)=false:=mC i hlt (by rw[h1,h2])
  simp[gD,this]
 have htake:∀ g∈m.given.take i,fR g.mark=true:=fun g hg=>by
  rw[List.mem_take_iff_getElem] at hg
  obtain ⟨j,hj,rfl⟩:=hg
  have hjl:j<m.given.length:=by omega
  rw[km hjl]
  exact IW (hi.2 j (by omega))
 refine .ar (by decide +kernel) fun K hK =>?_
 simp only[Hm,ab,simprocAttr]
 try simp only[dB,ab,simprocAttr]
 refine .flat _ (MH (ep m i).cB) rfl ?_
 generalize ho:b6 1 99 (ep m i).cB=bo
 cases bo
 ·try simp only[ab,simprocAttr]
  refine .done (hK _ ?_);clear hK K
  refine U.bM ?_
  simp only[ao,ab,simprocAttr]
  refine ⟨fun h =>?_,fun h =>?_⟩
  ·refine .ar (by decide +kernel) fun K hK =>?_
   simp only[oQ,ab,simprocAttr]
   refine .done (hK _ ?_);clear hK K
   refine U.ret ?_
   simp only[cg,ay,ab,simprocAttr]
   rw[bad _ rfl (by simp[iM,ho])]
  ·cases h
 try simp only[dB,dC,ab,simprocAttr]
 refine .flat _ (MI (ep m i).mark) rfl ?_
 generalize hk:fR (ep m i).mark=bk
 cases bk
 ·try simp only[ab,simprocAttr]
  refine .done (hK _ ?_);clear hK K
  refine U.bM ?_
  simp only[ao,ab,simprocAttr]
  refine ⟨fun h =>?_,fun h =>?_⟩
  ·refine .ar (by decide +kernel) fun K hK =>?_
   simp only[oQ,ab,simprocAttr]
   refine .done (hK _ ?_);clear hK K
   refine U.ret ?_
   simp only[cg,ay,ab,simprocAttr]
   rw[bad _ rfl (by simp[iM,ho,hk])]
  ·cases h
 try simp only[ab,simprocAttr]
 generalize hz:decide (0<(i:Int))=bz
 cases bz
 ·have hprev:(i==0||decide ((ep m (i-1)).cB<(ep m i).cB))=true:=by simp at hz;simp[hz]
  try simp only[dB,ab,simprocAttr]
  try simp only[dB,dC,LV 7 (Nat.le_of_lt hlt) rfl,Option.map_none,ab,simprocAttr]
  refine .flat _ (yB m (m.given.take i) (ep m i).mark htake hk) rfl ?_
  rw[za m (ep m i).mark (Nat.le_of_lt hlt)]
  generalize hap:(List.range i).all (fun j => !m8 m (ep m j).mark (ep m i).mark)=ba
  cases ba
  ·try simp only[ab,simprocAttr]
   refine .done (hK _ ?_);clear hK K
   refine U.bM ?_
   simp only[ao,ab,simprocAttr]
   refine ⟨fun h =>?_,fun h =>?_⟩
   ·refine .ar (by decide +kernel) fun K hK =>?_
    simp only[oQ,ab,simprocAttr]
    refine .done (hK _ ?_);clear hK K
    refine U.ret ?_
    simp only[cg,ay,ab,simprocAttr]
    rw[bad _ rfl (by simp only[iM,hap,Bool.and_false])]
   ·cases h
  ·try simp only[ab,simprocAttr]
   refine .done (hK _ ?_);clear hK K
   refine U.bM ?_
   simp only[ao,ab,simprocAttr]
   refine ⟨fun h =>?_,fun h =>?_⟩
   ·cases h
   refine U.skip ?_;try simp only[ay,cg,simprocAttr]
   refine .bP (by decide +kernel) fun K hK =>?_
   simp only[vV,ab,simprocAttr]
   refine .done (hK _ ?_);clear hK K;try simp only[ay]
   refine ⟨i+1,⟨by omega,fun k hk' =>?_⟩,by omega,?_⟩
   ·by_cases hki:k=i
    ·rw[hki]
     simp only[iM,ho,hk,hprev,hap,Bool.and_self]
    ·exact hi.2 k (by omega)
   ·rw[cN _ (by omega) (by omega)]
    refine aI.b9 ?_ ?_ ?_ ?_ <;>simp[bd,bT,bS,bD,au,bh,cI,I.only,ai.only,bG]
 ·have hpos:0<i:=by simpa using hz
  have hpl:i-1<m.given.length:=by omega
  have hpred:IntKind.i64.wrap ((i:Int)-1)=((i-1:Nat):Int):=by rw[cN _ (by omega) (by omega)];omega
  try simp only[dB,hpred,Ie hpl,ab,simprocAttr]
  generalize hq:decide ((ep m i).cB≤(ep m (i-1)).cB)=bq
  cases bq
  ·have hprev:(i==0||decide ((ep m (i-1)).cB<(ep m i).cB))=true:=by simp at hq;simp;omega
   try simp only[dB,ab,simprocAttr]
   try simp only[dB,dC,LV 7 (Nat.le_of_lt hlt) rfl,Option.map_none,ab,simprocAttr]
   refine .flat _ (yB m (m.given.take i) (ep m i).mark htake hk) rfl ?_
   rw[za m (ep m i).mark (Nat.le_of_lt hlt)]
   generalize hap:(List.range i).all (fun j => !m8 m (ep m j).mark (ep m i).mark)=ba
   cases ba
   ·try simp only[ab,simprocAttr]
    refine .done (hK _ ?_);clear hK K;try simp only[ay,cg]
    refine U.bM ?_
    simp only[ao,ab,simprocAttr]
    refine ⟨fun h =>?_,fun h =>?_⟩
    ·refine .ar (by decide +kernel) fun K hK =>?_
     simp only[oQ,ab,simprocAttr]
     refine .done (hK _ ?_);clear hK K
     refine U.ret ?_
     simp only[cg,ay,ab,simprocAttr]
     rw[bad _ rfl (by simp only[iM,hap,Bool.and_false])]
    ·cases h
   ·try simp only[ab,simprocAttr]
    refine .done (hK _ ?_);clear hK K
    refine U.bM ?_
    simp only[ao,ab,simprocAttr]
    refine ⟨fun h =>?_,fun h =>?_⟩
    ·cases h
    refine U.skip ?_;try simp only[ay,cg,simprocAttr]
    refine .bP (by decide +kernel) fun K hK =>?_
    simp only[vV,ab,simprocAttr]
    refine .done (hK _ ?_);clear hK K;try simp only[ay]
    refine ⟨i+1,⟨by omega,fun k hk' =>?_⟩,by omega,?_⟩
    ·by_cases hki:k=i
     ·rw[hki]
      simp only[iM,ho,hk,hprev,hap,Bool.and_self]
     ·exact hi.2 k (by omega)
    ·rw[cN _ (by omega) (by omega)]
     refine aI.b9 ?_ ?_ ?_ ?_ <;>simp[bd,bT,bS,bD,au,bh,cI,I.only,ai.only,bG]
  ·try simp only[ab,simprocAttr]
   refine .done (hK _ ?_);clear hK K;try simp only[ay,cg]
   refine U.bM ?_
   simp only[ao,ab,simprocAttr]
   refine ⟨fun h =>?_,fun h =>?_⟩
   ·refine .ar (by decide +kernel) fun K hK =>?_
    simp only[oQ,ab,simprocAttr]
    refine .done (hK _ ?_);clear hK K
    refine U.ret ?_
    simp only[cg,ay,ab,simprocAttr]
    have:(i==0||decide ((ep m (i-1)).cB<(ep m i).cB))=false:=by simp at hq;simp;omega
    rw[bad _ rfl (by simp only[iM,this,Bool.and_false,Bool.false_and])]
   ·cases h
theorem Nn(f:FuncId)(caps:List I)(hcaps:I.eO caps=true):az Tryz.prog 200 [enc ([]:List cz),.func f caps] (enc ([]:List cz)):=by
 refine az.bn Tryz.func200 By BF BQ (Nat.le_of_ble_eq_true rfl) (fun hwf W0 D0 E1 =>?_)
 simp only[uw,xQ,bg,Nat.zero_add]
 have hcl:I.bV caps=true:=kh caps hcaps
 have hfc:∀ aD A,bY aD A caps=some caps:=fun aD A=>kl aD A caps hcaps
 refine .ar (by decide +kernel) fun K hK =>?_
 simp only[vP,ab,simprocAttr]
 refine .done (hK _ ?_);clear hK K
 refine .ar (by decide +kernel) fun K hK =>?_
 simp only[vQ,ab,simprocAttr]
 try simp only[dC,hfc,ab,simprocAttr]
 refine .flat _ (tX [] f caps hcaps (fun _=>false) (fun x hx=>by cases hx)) rfl ?_
 try simp only[List.findIdx?_nil,ab,simprocAttr]
 refine .done (hK _ ?_);clear hK K
 refine U.seq (U.seq ?_)
 refine .bP (by decide +kernel) fun K hK =>?_
 simp only[r7,ab,simprocAttr]
 refine .done (hK _ ?_);clear hK K;try simp only[ay]
 refine U.bM ?_
 simp only[ao,ab,simprocAttr]
 refine ⟨fun h =>?_,fun h =>?_⟩
 ·refine .ar (by decide +kernel) fun K hK =>?_
  simp only[vS,ab,simprocAttr]
  refine .done (hK _ ?_);clear hK K
  refine U.ret ?_
  simp only[ay,ab,simprocAttr]
  try simp only[dC,ab,simprocAttr]
 ·cases h
def fC(p:cz→Bool)(l:List cz):List cz:=l.filter fun x => !p x
def BV(k:Nat)(l:List cz):cR:=fun r os'=>∃ m,r=.view k [] 7 0 l.length∧os'=iv k l m
theorem xE(p:Nat→Bool)(m:Nat)(x:cz):I.bU p (List.replicate m (enc x))=true:=by
 have:List.replicate m (enc x)=(List.replicate m x).map (enc (α:=cz)):=by simp
 rw[this];exact ev p _
theorem ah6(p:Nat→Bool)(xs:List cz)(i:Nat)(v:cz):I.bU p ((xs.map enc).set i (enc v))=true:=by
 rw[←List.map_set];exact ev p _
theorem xZ{xs:List cz}{m j:Nat}(h:j<xs.length):((xs++List.replicate m fO).map (enc (α:=cz)))[0+j]?=some (enc xs[j]):=by
 rw[Nat.zero_add,List.getElem?_map,List.getElem?_append_left h,List.getElem?_eq_getElem h];rfl
theorem ai4{xs:List cz}{m i:Nat}(h:i<xs.length)(v:cz):((xs++List.replicate m fO).map (enc (α:=cz))).set (0+i) (enc v)=(xs.set i v++List.replicate m fO).map enc:=by
 rw[Nat.zero_add,←List.map_set,List.set_append_left _ _ h]
theorem ym(l:List cz)(m:Nat):(l++List.replicate m fO).take l.length=l:=List.take_left
theorem vg(p:cz→Bool)(l:List cz){j:Nat}(h:j<l.length):fC p (l.take (j+1))=fC p (l.take j)++(if p l[j] then [] else [l[j]]):=by
 rw[List.take_succ_eq_append_getElem h]
 simp only[fC,List.filter_append,List.filter_cons,List.filter_nil]
 cases p l[j] <;>simp
theorem Nl(l:List cz)(f:FuncId)(caps:List I)(hcaps:I.eO caps=true)(p:cz→Bool)(hf:∀ x∈l,az Tryz.prog f (enc x::caps) (enc (p x)))(hlen:l.length≤1000)(m:Nat) :
  cA Tryz.prog 200 [.view 1000000 [] 7 0 l.length,.func f caps] (iv 1000000 l m) (BV 1000000 (fC p l)):=by
 refine cA.bn Tryz.func200 By BF BQ (Nat.le_of_ble_eq_true rfl) (Nat.le_of_ble_eq_true rfl) (fun m hm=>by rw[cV.1 hm];exact Nat.le_refl _) (fun hwf W0 D0 E1 =>?_)
 simp only[uw,xQ,bg,Nat.zero_add]
 have hcl:I.bV caps=true:=kh caps hcaps
 have hfc:∀ aD A,bY aD A caps=some caps:=fun aD A=>kl aD A caps hcaps
 have hon:∀ q,I.bU q caps=true:=fun q=>jX q caps hcl
 simp only[iv]
 refine .ar (by decide +kernel) fun K hK =>?_
 simp only[vP,ab,simprocAttr]
 refine .done (hK _ ?_);clear hK K
 refine .ar (by decide +kernel) fun K hK =>?_
 simp only[vQ,ab,simprocAttr]
 try simp only[hfc,pZ (α:=cz) (sz:=7) rfl,ym,ab,simprocAttr]
 refine .flat _ (tX l f caps hcaps p hf) rfl ?_
 try simp only[ab,simprocAttr]
 refine .done (hK _ ?_);clear hK K
 generalize hfi:l.findIdx? p=fi
 cases fi with
 |none =>
  rw[List.findIdx?_eq_none_iff] at hfi
  have hk:fC p l=l:=by
   simp only[fC,List.filter_eq_self];intro x hx;simp[hfi x hx]
  refine U.seq (U.seq ?_)
  refine .bP (by decide +kernel) fun K hK =>?_
  simp only[r7,ab,simprocAttr]
  refine .done (hK _ ?_);clear hK K;try simp only[ay]
  refine U.bM ?_
  simp only[ao,ab,simprocAttr]
  refine ⟨fun h =>?_,fun h =>?_⟩
  ·refine .ar (by decide +kernel) fun K hK =>?_
   simp only[vS,ab,simprocAttr]
   refine .done (hK _ ?_);clear hK K
   refine U.ret ?_
   simp only[ay,eL]
   rw[hk]
   exact ⟨iv 1000000 l m,[.view 1000000 [] 7 0 l.length],jQ rfl (fun p=>lT p _),⟨⟨_,rfl,.inl ⟨rfl,rfl,rfl⟩⟩,trivial⟩,m,rfl,rfl⟩
  ·cases h
 |some i0 =>
  obtain ⟨q1,q2,q3⟩:=List.findIdx?_eq_some_iff_getElem.1 hfi
  have hstart:l.take i0=fC p (l.take (i0+1)):=by
   rw[vg p l q1,q2]
   simp only[if_true,List.append_nil,fC]
   symm
   rw[List.filter_eq_self]
   intro x hx
   rw[List.mem_take_iff_getElem] at hx
   obtain ⟨j,hj,rfl⟩:=hx
   have:=q3 j (by omega)
   simpa using this
  refine U.seq (U.seq ?_)
  refine .bP (by decide +kernel) fun K hK =>?_
  simp only[r7,ab,simprocAttr]
  refine .done (hK _ ?_);clear hK K;try simp only[ay]
  refine U.bM ?_
  simp only[ao,ab,simprocAttr]
  refine ⟨fun h =>?_,fun h =>?_⟩
  ·simp at h
  refine U.skip ?_;try simp only[ay,simprocAttr]
  refine U.seq (U.seq ?_)
  refine .bP (by decide +kernel) fun K hK =>?_
  simp only[F1,ab,simprocAttr]
  refine .done (hK _ ?_);clear hK K;try simp only[ay]
  refine U.block (U.loop (fun s:List cz×Nat×Nat=>av [(0,.view 1000000 [] 7 0 l.length),(1,.func f caps),(5,.int .i64 s.2.1),(6,.int .i64 s.2.2)] [(1000000,.box (.agg ((s.1++List.replicate m fO).map enc)))])
   (fun s=>s.1.length=l.length∧s.2.1<s.2.2∧s.2.2≤l.length∧s.1.take s.2.1=fC p (l.take s.2.2)∧s.1.drop s.2.2=l.drop s.2.2) (fun s=>l.length-s.2.2) (l,i0,i0+1) ⟨rfl,by simp only;omega,by simp only;omega,hstart,rfl⟩ ?_ ?_)
  ·rw[cN _ (by omega) (by omega)]
   refine aI.b9 ?_ ?_ ?_ ?_ <;>simp[bd,bT,bS,bD,au,bh,cI,I.only,ai.only,ev,jF,hon,xE]
  ·rintro ⟨xs,i,j⟩ ⟨c1,c2,c3,ja,kL⟩
   simp only at c1 c2 c3 ja kL ⊢
   refine U.seq (U.seq ?_)
   refine .bP (by decide +kernel) fun K hK =>?_
   simp only[F2,ab,simprocAttr]
   try simp only[c9,ab,simprocAttr]
   refine .done (hK _ ?_);clear hK K;try simp only[ay]
   refine U.bM ?_
   simp only[ao,ab,simprocAttr]
   refine ⟨fun h =>?_,fun h =>?_⟩
   ·have hj:j<l.length:=by simpa using h
    have hjx:j<xs.length:=by omega
    have hix:i<xs.length:=by omega
    have hxj:xs[j]=l[j]:=by
     have h1:(xs.drop j)[0]?=(l.drop j)[0]?:=by rw[kL]
     simpa[hj,hjx] using h1
    refine U.skip ?_;try simp only[ay,simprocAttr]
    refine U.seq (U.block ?_)
    refine .ar (by decide +kernel) fun K hK =>?_
    simp only[F3,ab,simprocAttr]
    try simp only[c9,wR (sz:=7) hj,List.nil_append,ab,simprocAttr]
    try simp only[xZ hjx,hxj,dB,ab,simprocAttr]
    rw[fq (dz _) (by rw[gK];rfl) ((fm _).trans rfl)]
    try simp only[ab,simprocAttr]
    refine .done (hK _ ?_);clear hK K
    refine .ar (by decide +kernel) fun K hK =>?_
    simp only[F4,ab,simprocAttr]
    try simp only[dB,dC,hfc,List.cons_append,List.nil_append,ab,simprocAttr]
    refine .flat _ (hf _ (List.getElem_mem hj)) rfl ?_
    try simp only[ab,simprocAttr]
    refine .done (hK _ ?_);clear hK K
    refine U.bM ?_
    simp only[ao,ab,simprocAttr]
    refine ⟨fun h =>?_,fun h =>?_⟩
    ·have hpj:p l[j]=false:=by simpa using h
     refine .ar (by decide +kernel) fun K hK =>?_
     simp only[F5,ab,simprocAttr]
     try simp only[dB,c9,wR (sz:=7) (show i<l.length by omega),List.nil_append,ab,simprocAttr]
     try simp only[xZ hix,ab,simprocAttr]
     rw[fq (dz _) (by rw[gK];rfl) ((fm _).trans (fm _).symm)]
     try simp only[xZ hix,ai4 hix,ab,simprocAttr]
     refine .done (hK _ ?_);clear hK K
     refine .bP (by decide +kernel) fun K hK =>?_
     simp only[F6,ab,simprocAttr]
     refine .done (hK _ ?_);clear hK K;try simp only[ay,cg]
     refine .bP (by decide +kernel) fun K hK =>?_
     simp only[vR,ab,simprocAttr]
     refine .done (hK _ ?_);clear hK K;try simp only[ay]
     refine ⟨(xs.set i l[j],i+1,j+1),⟨by simp[c1],by simp only;omega,by simp only;omega,?_,?_⟩,by simp only;omega,?_⟩
     ·simp only
      rw[vg p l hj,hpj,←ja]
      simp only[Bool.false_eq_true,if_false]
      rw[List.take_succ_eq_append_getElem (by simpa using hix),List.take_set_of_le (Nat.le_refl _)]
      simp
     ·simp only
      rw[List.drop_set_of_lt (by omega)]
      have:(xs.drop j).drop 1=(l.drop j).drop 1:=by rw[kL]
      simpa[List.drop_drop] using this
     ·simp only
      rw[cN _ (by omega) (by omega),cN _ (by omega) (by omega)]
      refine aI.b9 ?_ ?_ ?_ ?_ <;>simp[bd,bT,bS,bD,au,bh,cI,I.only,ai.only,jF,hon,xE,ah6]
    ·have hpj:p l[j]=true:=by simpa using h
     refine U.skip ?_;try simp only[ay,cg,simprocAttr]
     refine .bP (by decide +kernel) fun K hK =>?_
     simp only[vR,ab,simprocAttr]
     refine .done (hK _ ?_);clear hK K;try simp only[ay]
     refine ⟨(xs,i,j+1),⟨c1,by simp only;omega,by simp only;omega,?_,?_⟩,by simp only;omega,?_⟩
     ·simp only
      rw[vg p l hj,hpj,←ja]
      simp
     ·simp only
      have:(xs.drop j).drop 1=(l.drop j).drop 1:=by rw[kL]
      simpa[List.drop_drop] using this
     ·simp only
      rw[cN _ (by omega) (by omega)]
      refine aI.b9 ?_ ?_ ?_ ?_ <;>simp[bd,bT,bS,bD,au,bh,cI,I.only,ai.only,ev,jF,hon,xE]
   ·have hj:j=l.length:=by simp at h;omega
    subst hj
    rw[List.take_length] at ja
    have hlk:(fC p l).length=i:=by rw[←ja,List.length_take];omega
    have htot:((xs++List.replicate m fO).map (enc (α:=cz))).length=l.length+m:=by simp[c1]
    refine U.exit ?_;try simp only[ay,cg,simprocAttr]
    refine .ar (by decide +kernel) fun K hK =>?_
    simp only[FZ,ab,simprocAttr]
    try simp only[c9,htot,Option.map_none,lD (show i≤l.length by omega) (show l.length≤l.length+m by omega) (show i<l.length+m by omega),uW,ab,simprocAttr]
    rw[uL fO rfl (by simp[c1];omega)]
    have hcont:(xs++List.replicate m fO).take i++(List.replicate (l.length-i) fO++(xs++List.replicate m fO).drop (i+(l.length-i)))=fC p l++List.replicate (l.length-i+m) fO:=by
     rw[List.take_append_of_le_length (by omega),ja]
     have e1:i+(l.length-i)=xs.length:=by omega
     rw[e1,List.drop_left,List.replicate_append_replicate]
    rw[hcont]
    try simp only[ab,simprocAttr]
    refine .done (hK _ ?_);clear hK K
    have htot2:((fC p l++List.replicate (l.length-i+m) fO).map (enc (α:=cz))).length=l.length+m:=by simp[hlk];omega
    refine .ar (by decide +kernel) fun K hK =>?_
    simp only[F0,ab,simprocAttr]
    try simp only[c9,htot2,Option.map_none,qK (show i≤l.length+m by omega) (show 0<l.length+m by omega),ab,simprocAttr]
    refine .done (hK _ ?_);clear hK K
    refine U.ret ?_
    simp only[eL]
    exact ⟨iv 1000000 (fC p l) (l.length-i+m),[.view 1000000 [] 7 0 i],jQ rfl (fun p=>lT p _),⟨⟨_,rfl,.inl ⟨rfl,rfl,rfl⟩⟩,trivial⟩,l.length-i+m,by rw[hlk];rfl,rfl⟩
def oZ(a:Item)(k d kn b:Int):ak:=⟨a,k,d,kn,b,0,0,0,yr,⟨0,0⟩⟩
theorem B6:I.agg [.agg [.int .i64 0,.int .i64 0],.int .i64 0,.int .i64 0,.int .i64 0,.int .i64 0,.int .i64 0,.int .i64 0,.int .i64 0,.agg [.int .i64 0,.int .i64 0,.int .i64 0,.int .i64 0,.int .i64 0,.int .i64 0],.agg [.int .i64 0,.int .i64 0]]=enc (oZ ⟨0,0⟩ 0 0 0 0):=rfl
theorem zl(a:Item)(k d kn b:Int):(eB [.agg [.int .i64 0,.int .i64 0],.int .i64 0,.int .i64 0,.int .i64 0,.int .i64 0,.int .i64 0,.int .i64 0,.int .i64 0,.agg [.int .i64 0,.int .i64 0,.int .i64 0,.int .i64 0,.int .i64 0,.int .i64 0],.agg [.int .i64 0,.int .i64 0]] [(0,enc a),(1,.int .i64 k),(2,.int .i64 d),(3,.int .i64 kn),(4,.int .i64 b)]).map .agg=some (enc (oZ a k d kn b)):=by
 simp[eB,I.cq,I.size,I.sizes,jd,rP];rfl
theorem zk(a:Item)(k d kn:Int):(eB [.agg [.int .i64 0,.int .i64 0],.int .i64 0,.int .i64 0,.int .i64 0,.int .i64 0,.int .i64 0,.int .i64 0,.int .i64 0,.agg [.int .i64 0,.int .i64 0,.int .i64 0,.int .i64 0,.int .i64 0,.int .i64 0],.agg [.int .i64 0,.int .i64 0]] [(0,enc a),(1,.int .i64 k),(2,.int .i64 d),(3,.int .i64 kn)]).map .agg=some (enc (oZ a k d kn 0)):=by
 simp[eB,I.cq,I.size,I.sizes,jd,rP];rfl
theorem L3(A:af)(n:Nat)(b:I)(x y:ak)(rest:List aB):dY A (some 17) n [] b (enc x) rest (some (enc y))=aC rest (A.aR n (.box (enc x))):=fq (dz _) (I1 x) ((fm x).trans (fm y).symm)
theorem nZ(A:af)(n:Nat)(p:List Nat)(b:I)(k:IntKind)(x y:Int)(rest:List aB):dY A none n p b (.int k x) rest (some (.int k y))=aC rest (A.aR n (.box (b.dK p (.int k x)))):=fq rfl rfl rfl
theorem ajt(A:af)(n:Nat)(p:List Nat)(b:I)(x y:bL 6 Int)(rest:List aB):dY A (some 6) n p b (enc x) rest (some (enc y))=aC rest (A.aR n (.box (b.dK p (enc x)))):=fq (dz _) (I0 x) ((fm x).trans (fm y).symm)
theorem L9(A:af)(n:Nat)(p:List Nat)(b:I)(x y:Item)(rest:List aB):dY A (some 2) n p b (enc x) rest (some (enc y))=aC rest (A.aR n (.box (b.dK p (enc x)))):=fq (dz _) (nI x) ((fm x).trans (fm y).symm)
theorem LQ :
  (∀ (A:af) (n:Nat) (rest:List aB) (e:ak) v y,dY A (some 2) n [0] (enc e) (enc (v:Item)) rest (some (enc (y:Item)))=aC rest (A.aR n (.box (enc { e with bj:=v })))) ∧
  (∀ (A:af) (n:Nat) (rest:List aB) (e:ak) v y,dY A none n [1] (enc e) (.int .i64 v) rest (some (.int .i64 y))=aC rest (A.aR n (.box (enc { e with kind:=v })))) ∧
  (∀ (A:af) (n:Nat) (rest:List aB) (e:ak) v y,dY A none n [2] (enc e) (.int .i64 v) rest (some (.int .i64 y))=aC rest (A.aR n (.box (enc { e with day:=v })))) ∧
  (∀ (A:af) (n:Nat) (rest:List aB) (e:ak) v y,dY A none n [3] (enc e) (.int .i64 v) rest (some (.int .i64 y))=aC rest (A.aR n (.box (enc { e with known:=v })))) ∧
  (∀ (A:af) (n:Nat) (rest:List aB) (e:ak) v y,dY A none n [4] (enc e) (.int .i64 v) rest (some (.int .i64 y))=aC rest (A.aR n (.box (enc { e with eF:=v })))) ∧
  (∀ (A:af) (n:Nat) (rest:List aB) (e:ak) v y,dY A none n [5] (enc e) (.int .i64 v) rest (some (.int .i64 y))=aC rest (A.aR n (.box (enc { e with fb:=v })))) ∧
  (∀ (A:af) (n:Nat) (rest:List aB) (e:ak) v y,dY A none n [6] (enc e) (.int .i64 v) rest (some (.int .i64 y))=aC rest (A.aR n (.box (enc { e with fj:=v })))) ∧
  (∀ (A:af) (n:Nat) (rest:List aB) (e:ak) v y,dY A none n [7] (enc e) (.int .i64 v) rest (some (.int .i64 y))=aC rest (A.aR n (.box (enc { e with cB:=v })))) ∧
  (∀ (A:af) (n:Nat) (rest:List aB) (e:ak) v y,dY A (some 6) n [8] (enc e) (enc (v:bL 6 Int)) rest (some (enc (y:bL 6 Int)))=aC rest (A.aR n (.box (enc { e with cd:=v })))) ∧
  (∀ (A:af) (n:Nat) (rest:List aB) (e:ak) v y,dY A (some 2) n [9] (enc e) (enc (v:Item)) rest (some (enc (y:Item)))=aC rest (A.aR n (.box (enc { e with jW:=v })))) :=
 ⟨fun _ _ _ _ _ _=>by rw[L9];rfl,fun _ _ _ _ _ _=>by rw[nZ];rfl,fun _ _ _ _ _ _=>by rw[nZ];rfl,fun _ _ _ _ _ _=>by rw[nZ];rfl,fun _ _ _ _ _ _=>by rw[nZ];rfl,fun _ _ _ _ _ _=>by rw[nZ];rfl,fun _ _ _ _ _ _=>by rw[nZ];rfl,fun _ _ _ _ _ _=>by rw[nZ];rfl,fun _ _ _ _ _ _=>by rw[ajt];rfl,fun _ _ _ _ _ _=>by rw[L9];rfl⟩
theorem Mz(x y:bL 6 Int):x=y↔x.l=y.l:=by cases x;cases y;simp
theorem akb(p q:Prop)[Decidable p][Decidable q]:hT (some (decide p)) (some (decide q))=some (decide (p∧q)):=by simp[hT]
theorem Cd(a b:Int):cj (.i .i64) (.int .i64 a) (.int .i64 b)=some (decide (a=b)):=by simp[cj];rfl
theorem Cc(x y:ak):cj (.bx [(.bx [(.i .i64),(.i .i64)]),(.i .i64),(.i .i64),(.i .i64),(.i .i64),(.i .i64),(.i .i64),(.i .i64),(.hU 6 (.i .i64)),(.bx [(.i .i64),(.i .i64)])]) (enc x) (enc y)=some (decide (x=y)):=by
 obtain ⟨a1,k1,d1,n1,b1,m1,s1,o1,r1,f1⟩:=x
 obtain ⟨a2,k2,d2,n2,b2,m2,s2,o2,dN,f2⟩:=y
 show cj _ (.agg [enc a1,.int .i64 k1,.int .i64 d1,.int .i64 n1,.int .i64 b1,.int .i64 m1,.int .i64 s1,.int .i64 o1,enc r1,enc f1]) (.agg [enc a2,.int .i64 k2,.int .i64 d2,.int .i64 n2,.int .i64 b2,.int .i64 m2,.int .i64 s2,.int .i64 o2,enc dN,enc f2])=_
 have hr:cj (.hU 6 (.i .i64)) (enc r1) (enc dN)=some (decide (r1=dN)):=by
  rw[rQ]
  congr 1
  exact decide_eq_decide.2 (Mz r1 dN).symm
 rw[cj]
 simp only[iC,pV,Cd,hr,ak.mk.injEq]
 simp[hT]
theorem aP:(type_of% @iV)∧(type_of% @IV)∧(type_of% @gb)∧(∀ {α:Type} [Enc α] (aD:Bool) (A:af) (x:α),bp aD A (enc x)=some (enc x))∧(∀ {α:Type} [Enc α] (x:α),(enc x).cq=true)∧(type_of% @B6)∧(type_of% @zl)∧(type_of% @zk)∧(type_of% @L3) ∧
  (type_of% @LQ)∧(type_of% @Cc)∧(type_of% @pV)∧(∀ (a:Nat) l m,(a::l)++m=a::(l++m))∧(∀ b:Bool,((if b=true then (0:Int) else 12)==0)=b)∧(∀ b:Bool,((if b=true then (0:Int) else 12) != 0) = !b) :=
 ⟨iV,IV,gb,@dC,@dz,B6,zl,zk,L3,LQ,Cc,pV,fun _ _ _=>rfl,fun b=>by cases b <;>rfl,fun b=>by cases b <;>rfl⟩
theorem NW(x:ak):az Tryz.prog 84 [enc x] (enc (nh x)):=by
 refine az.bn Tryz.func84 Q1 S1 Vb (Nat.le_of_ble_eq_true rfl) (fun hwf W0 D0 E1 =>?_)
 simp only[Bk,Lc,bg]
 have R:=And.intro @aP @ab
 repeat' ((first
  |(with_reducible refine .guard (fun hb =>?_) (fun hb =>?_) <;>try simp only[hb])
  |refine U.aL (by decide +kernel) rfl fun K hK =>?_
  |(refine .aF [0,1,2,3,15,24,25,36,41,47] hK ?_;clear hK K)
  |(with_reducible refine .done (hK _ ?_);clear hK K)
  |refine U.of rfl ?_
  |(with_reducible refine ao.aK (fun h =>?_) (fun h =>?_) <;>try simp only[h])) <;>try simp only[aM,R,simprocAttr])
 all_goals clear R
 all_goals (congr 1;simp_all[nh,oZ])
theorem tQ(x:ak):az Tryz.prog 117 [enc x] (enc (gB x)):=by
 refine az.bn Tryz.func117 Ps Rp Tz (Nat.le_of_ble_eq_true rfl) (fun hwf W0 D0 E1 =>?_)
 simp only[zB,JC,bg]
 refine .ar (by decide +kernel) fun K hK =>?_
 simp only[C8,ab,simprocAttr]
 try simp only[aP,ab,simprocAttr]
 refine .done (hK _ ?_);clear hK K
 refine .ar (by decide +kernel) fun K hK =>?_
 simp only[C9,ab,simprocAttr]
 try simp only[aP,ab,simprocAttr]
 refine .done (hK _ ?_);clear hK K
 refine .ar (by decide +kernel) fun K hK =>?_
 simp only[Da,ab,simprocAttr]
 try simp only[aP,ab,simprocAttr]
 refine .flat _ (MV _) rfl ?_
 try simp only[ab,simprocAttr]
 refine .done (hK _ ?_);clear hK K
 refine U.fC [1,2,3,4] ?_
 simp only[wU,reduceIte,Nat.reduceBEq]
 by_cases hk:0≤x.kind∧x.kind≤6
 ·refine U.seq (U.og (av [(1,.ptr 1 []),(3,.ptr 3 []),(4,.bool (kj x))] [(1,.box (enc x)),(3,.box (enc (nh x)))]) ?_ fun B hB=>U.sub hB ?_)
  ·clear hwf
   obtain hk | hk | hk | hk | hk | hk | hk:x.kind=0∨x.kind=1∨x.kind=2∨x.kind=3∨x.kind=4∨x.kind=5∨x.kind=6:=by omega
   all_goals
    have R:=And.intro @hk (And.intro @aP @ab)
    repeat' ((first
     |(with_reducible refine .guard (fun hb =>?_) (fun hb =>?_) <;>try simp only[hb])
     |refine U.aL (by decide +kernel) rfl fun K hK =>?_
     |refine .flat _ (tO _) rfl ?_
     |refine .flat _ (MW _) rfl ?_
     |refine .flat _ (MX _) rfl ?_
     |refine .flat _ (kF _ _ _) rfl ?_
     |refine .flat _ (yH _) rfl ?_
     |refine .flat _ (tV _) rfl ?_
     |(refine U.tl (gs:=vn) [] [(1,[1]),(3,[3]),(23,[1]),(25,[3]),(26,[3])] [0,1,2,3,4,5] (by decide +kernel) (eW.of (by simp[oS,bh,IB,I.only])) fun K hK =>?_;simp only[pn,vn,List.getD_cons_zero,List.getD_cons_succ,R,simprocAttr])
     |(refine U.tl (gs:=vp) [] [(1,[1]),(3,[3]),(55,[1]),(57,[1]),(59,[1]),(61,[3]),(62,[3]),(63,[3])] [0,1,2,3,4,5,6,7,8,9,10,11] (by decide +kernel) (eW.of (by simp[oS,bh,IB,I.only])) fun K hK =>?_;simp only[pn,vp,List.getD_cons_zero,List.getD_cons_succ,R,simprocAttr])
     |(refine .aF [0,1,2,3,4,20,21,53,87,98,110,122] hK ?_;clear hK K)
     |(with_reducible refine .done (hK _ ?_);clear hK K)
     |refine U.of rfl ?_
     |(with_reducible refine ao.aK (fun h =>?_) (fun h =>?_) <;>try simp only[h])) <;>try simp only[aM,R,simprocAttr])
    all_goals clear R
   all_goals
    refine aI.b9 ?_ ?_ ?_ ?_ <;>simp[*,bd,bT,bS,bD,au,bh,cI,I.only,ai.only,bG,kj,nh,oZ]
  ·have R:=And.intro @aP @ab
   repeat' ((first
    |(with_reducible refine .guard (fun hb =>?_) (fun hb =>?_) <;>try simp only[hb])
    |refine U.aL (by decide +kernel) rfl fun K hK =>?_
    |refine .flat _ (tO _) rfl ?_
    |refine .flat _ (tV _) rfl ?_
    |(refine .aF [0,1,2,3,4,20,21,53,87,98,110,122] hK ?_;clear hK K)
    |(with_reducible refine .done (hK _ ?_);clear hK K)
    |refine U.of rfl ?_
    |(with_reducible refine ao.aK (fun h =>?_) (fun h =>?_) <;>try simp only[h])) <;>try simp only[aM,R,simprocAttr])
   all_goals clear R
   all_goals simp[gB, *]
 ·have h0:(x.kind==0)=false:=by simp;omega
  have h1:(x.kind==1)=false:=by simp;omega
  have h2:(x.kind==2)=false:=by simp;omega
  have h3:(x.kind==3)=false:=by simp;omega
  have h4:(x.kind==4)=false:=by simp;omega
  have h5:(x.kind==5)=false:=by simp;omega
  have h6:(x.kind==6)=false:=by simp;omega
  have R:=And.intro @h0 (And.intro @h1 (And.intro @h2 (And.intro @h3 (And.intro @h4 (And.intro @h5 (And.intro @h6 (And.intro @aP @ab)))))))
  repeat' ((first
   |(with_reducible refine .guard (fun hb =>?_) (fun hb =>?_) <;>try simp only[hb])
   |refine U.aL (by decide +kernel) rfl fun K hK =>?_
   |(refine .aF [0,1,2,3,4,20,21,53,87,98,110,122] hK ?_;clear hK K)
   |(with_reducible refine .done (hK _ ?_);clear hK K)
   |refine U.of rfl ?_
   |(with_reducible refine ao.aK (fun h =>?_) (fun h =>?_) <;>try simp only[h])) <;>try simp only[aM,R,simprocAttr])
  all_goals clear R
  simp at h0 h1 h2 h3 h4 h5 h6
  simp[gB,kj, *]
def cw:ak:=oZ ⟨0,0⟩ 0 0 0 0
theorem ki:I.agg [.agg [.int .i64 0,.int .i64 0],.int .i64 0,.int .i64 0,.int .i64 0,.int .i64 0,.int .i64 0,.int .i64 0,.int .i64 0,.agg [.int .i64 0,.int .i64 0,.int .i64 0,.int .i64 0,.int .i64 0,.int .i64 0],.agg [.int .i64 0,.int .i64 0]]=enc cw:=rfl
theorem fu(p:Nat→Bool)(l:List ak):(I.agg (l.map enc)).only p=true:=by simp only[I.only];exact ev p l
def dA(k:Nat)(l:List ak)(m:Nat):List (Nat×ai):=[(k,.box (.agg ((l++List.replicate m cw).map enc)))]
def uK(l:List ak):cR:=fun r os'=>(l=[]∧(r=.nils 17∨r=.c0 17)∧os'=[])∨(l≠[]∧∃ m,r=.view 7 [] 17 0 l.length∧os'=dA 7 l m)
theorem yD(l:List ak)(hl:l.length≤1000):cA Tryz.prog 136 [enc l] [] (uK l):=by
 refine cA.bn Tryz.func136 PJ RG TQ (Nat.le_of_ble_eq_true rfl) (Nat.le_of_ble_eq_true rfl) (fun m hm=>by simp[au,al] at hm) (fun hwf W0 D0 E1 =>?_)
 simp only[zS,JT,bg]
 refine .ar (by decide +kernel) fun K hK =>?_
 simp only[DN,ab]
 refine .done (hK _ ?_);clear hK K
 refine U.seq (U.seq ?_)
 by_cases hn:l=[]
 ·subst hn
  refine .bP (by decide +kernel) fun K hK =>?_
  simp only[vD,ab,Nat.reduceEqDiff,reduceIte]
  simp only[tG,List.isEmpty_nil,pc]
  refine .any rfl fun b _ =>?_
  try simp only[ab]
  generalize (b==0)=t
  cases t
  ·refine .done (hK _ ?_);clear hK K;try simp only[ay]
   refine U.bM ?_
   simp only[ao,ab,Nat.reduceEqDiff,reduceIte]
   refine ⟨fun h =>?_,fun h =>?_⟩
   ·cases h
   refine U.skip ?_;try simp only[ay]
   refine .ar (by decide +kernel) fun K hK =>?_
   simp only[vE,ab]
   try simp only[c9,ki,ab,Nat.reduceEqDiff,reduceIte]
   refine .done (hK _ ?_);clear hK K
   refine U.ret ?_
   simp only[eL]
   exact ⟨[],[.c0 17],p8,⟨⟨.c0 17,rfl,.inl ⟨rfl,rfl,rfl⟩⟩,trivial⟩,.inl ⟨rfl,.inr rfl,rfl⟩⟩
  ·refine .done (hK _ ?_);clear hK K
   refine U.bM ?_
   simp only[ao,ab,Nat.reduceEqDiff,reduceIte]
   refine ⟨fun h =>?_,fun h =>?_⟩
   ·refine .ar (by decide +kernel) fun K hK =>?_
    simp only[DO,ab]
    refine .done (hK _ ?_);clear hK K
    refine U.ret ?_
    simp only[ay,eL]
    exact ⟨[],[.nils 17],p8,⟨⟨.nils 17,rfl,.inl ⟨rfl,rfl,rfl⟩⟩,trivial⟩,.inl ⟨rfl,.inl rfl,rfl⟩⟩
   ·cases h
 ·have hu:jK (enc l)=false:=by rw[tG];simpa using hn
  refine .bP (by decide +kernel) fun K hK =>?_
  simp only[vD,ab,Nat.reduceEqDiff,reduceIte]
  try simp only[hu,II _ l hn,ab]
  refine .done (hK _ ?_);clear hK K;try simp only[ay]
  refine U.bM ?_
  simp only[ao,ab,Nat.reduceEqDiff,reduceIte]
  refine ⟨fun h =>?_,fun h =>?_⟩
  ·cases h
  refine U.skip ?_;try simp only[ay]
  refine .ar (by decide +kernel) fun K hK =>?_
  simp only[vE,ab]
  try simp only[c9,ki,ab,Nat.reduceEqDiff,reduceIte]
  refine a6.pN cw rfl hn rfl (by omega) (by simp only[maxLen];omega) fun m =>?_
  try simp only[ab,Nat.reduceEqDiff,reduceIte]
  refine .done (hK _ ?_);clear hK K
  refine U.ret ?_
  simp only[eL]
  exact ⟨dA 7 l m,[.view 7 [] 17 0 l.length],jQ rfl (fun p=>fu p _),⟨⟨_,rfl,.inl ⟨rfl,rfl,rfl⟩⟩,trivial⟩,.inr ⟨hn,m,rfl,rfl⟩⟩
def eI(l:List ak)(i:Nat)(g:ak):List ak:=l.take i++g::l.drop i
theorem wO{l:List ak}{i:Nat}(g:ak)(h:i≤l.length):(eI l i g).length=l.length+1:=by
 simp only[eI,List.length_append,List.length_take,List.length_cons,List.length_drop];omega
def wM(l:List ak)(i:Nat)(g:ak)(k:Nat):cR:=fun r os' =>
 (∃ q,r=.view 1000000 [] 17 0 (l.length+1)∧os'=dA 1000000 (eI l i g) q)∨∃ d q,(d=25∨d=40)∧r=.view d [] 17 0 (l.length+1)∧os'=dA d (eI l i g) q++dA 1000000 l k
theorem agt(l:List ak)(i q:Nat)(g:ak)(h:i<l.length)(xs:List ak)(hx:xs=l.take i++(List.replicate (l.length+1-i) cw++List.replicate q cw))(ys:List ak)(hy:ys=xs.take i++([g].take 1++xs.drop (i+1))) :
  ys.take (i+1)++((((l++List.replicate 0 cw).drop i).take (l.length-i)).take (l.length-i)++ys.drop (i+1+(l.length-i)))=eI l i g++List.replicate q cw:=by
 have e1:xs.take i=l.take i:=by rw[hx,List.take_append_of_le_length (by rw[List.length_take];omega),List.take_take,Nat.min_self]
 have e2:xs.drop (i+1)=List.replicate (l.length-i+q) cw:=by
  have hl:(l.take i).length=i:=by rw[List.length_take];omega
  rw[hx,List.replicate_append_replicate,List.drop_append,hl,List.drop_eq_nil_of_le (by rw[hl];omega),List.nil_append,List.drop_replicate]
  congr 1;omega
 have e3:ys=(l.take i++[g])++List.replicate (l.length-i+q) cw:=by rw[hy,e1,e2];simp
 have hl2:(l.take i++[g]).length=i+1:=by rw[List.length_append,List.length_take];simp;omega
 have e4:ys.take (i+1)=l.take i++[g]:=by rw[e3,←hl2,List.take_left]
 have e5:ys.drop (i+1+(l.length-i))=List.replicate q cw:=by
  rw[e3,List.drop_append,hl2,List.drop_eq_nil_of_le (by rw[hl2];omega),List.nil_append,List.drop_replicate]
  congr 1;omega
 have e6:(((l++List.replicate 0 cw).drop i).take (l.length-i)).take (l.length-i)=l.drop i:=by
  rw[List.replicate_zero,List.append_nil,List.take_take,Nat.min_self,List.take_of_length_le (by rw[List.length_drop];omega)]
 rw[e4,e5,e6]
 simp[eI]
theorem ags(l:List ak)(i k:Nat)(g:ak)(h:i<l.length)(hk:1≤k)(xs:List ak)(hx:xs=l++List.replicate k cw)(ys:List ak)(hy:ys=xs.take (i+1)++(((xs.drop i).take (l.length+1-i)).take (l.length-i)++xs.drop (i+1+(l.length-i)))) :
  ys.take i++([g].take 1++ys.drop (i+1))=eI l i g++List.replicate (k-1) cw:=by
 have e1:((xs.drop i).take (l.length+1-i)).take (l.length-i)=l.drop i:=by
  rw[List.take_take,Nat.min_eq_left (by omega),hx,List.drop_append_of_le_length (by omega),List.take_append_of_le_length (by rw[List.length_drop];omega),List.take_of_length_le (by rw[List.length_drop];omega)]
 have e2:xs.drop (i+1+(l.length-i))=List.replicate (k-1) cw:=by
  rw[hx,List.drop_append,List.drop_eq_nil_of_le (by omega),List.nil_append,List.drop_replicate]
  congr 1;omega
 have hl:(xs.take (i+1)).length=i+1:=by rw[List.length_take,hx,List.length_append];omega
 have e3:ys.take i=l.take i:=by
  rw[hy,List.take_append_of_le_length (by omega),List.take_take,Nat.min_eq_left (by omega),hx,List.take_append_of_le_length (by omega)]
 have e4:ys.drop (i+1)=l.drop i++List.replicate (k-1) cw:=by
  rw[hy,e1,e2]
  exact List.drop_left' hl
 rw[e3,e4]
 simp[eI]
theorem MU(l:List ak)(i:Nat)(g:ak)(k:Nat)(hi:i≤l.length)(hn:l≠[])(hlen:l.length≤1000) :
  cA Tryz.prog 153 [.view 1000000 [] 17 0 l.length,enc (i:Int),enc [g]] (dA 1000000 l k) (wM l i g k):=by
 refine cA.bn Tryz.func153 uA uD uO (Nat.le_of_ble_eq_true rfl) (Nat.le_of_ble_eq_true rfl) (fun m hm=>by rw[cV.1 hm];exact Nat.le_refl _) (fun hwf W0 D0 E1 =>?_)
 simp only[rC,s9,bg,Nat.zero_add,Nat.reduceAdd]
 simp only[dA]
 have hl0:0<l.length:=List.length_pos_iff.2 hn
 have htot:((l++List.replicate k cw).map (enc (α:=ak))).length=l.length+k:=by simp
 refine .ar (by decide +kernel) fun K hK =>?_
 simp only[r0,ab]
 refine .done (hK _ ?_);clear hK K
 obtain ⟨y,hy⟩:=LW (n:=1000000) (p:=[]) (sz:=17) hi (show l.length≤l.length+k by omega)
 refine .ar (by decide +kernel) fun K hK =>?_
 simp only[r2,ab,Nat.reduceEqDiff,reduceIte]
 try simp only[c9,htot,Option.map_none,hy,ab,reduceIte]
 refine .done (hK _ ?_);clear hK K
 refine .ar (by decide +kernel) fun K hK =>?_
 simp only[r3,ab,Nat.reduceEqDiff,reduceIte]
 try simp only[bI,ab,Nat.reduceEqDiff,reduceIte]
 refine .done (hK _ ?_);clear hK K
 refine U.seq (U.seq ?_)
 refine .bP (by decide +kernel) fun K hK =>?_
 simp only[r4,ab,Nat.reduceEqDiff,reduceIte]
 try simp only[dB,bI,gb,dC,ab,Nat.reduceEqDiff,reduceIte,Int.reduceBNe,Int.reduceBEq]
 refine .done (hK _ ?_);clear hK K;try simp only[ay]
 refine U.bM ?_
 simp only[ao,ab,Nat.reduceEqDiff,reduceIte]
 refine ⟨fun h =>?_,fun h =>?_⟩
 ·first | cases h | simp at h
 refine U.skip ?_;try simp only[ay]
 refine .ar (by decide +kernel) fun K hK =>?_
 simp only[r5,ab,Nat.reduceEqDiff,reduceIte]
 try simp only[c9,ab,Nat.reduceEqDiff,reduceIte]
 refine .done (hK _ ?_);clear hK K
 refine U.seq (U.seq ?_)
 refine .bP (by decide +kernel) fun K hK =>?_
 simp only[r6,ab,Nat.reduceEqDiff,reduceIte]
 try simp only[dB,bI,gb,dC,ab,Nat.reduceEqDiff,reduceIte,Int.reduceBNe,Int.reduceBEq]
 refine .done (hK _ ?_);clear hK K;try simp only[ay]
 have hA:∀ ts,(av ts [(1000000,.box (.agg ((l++List.replicate k cw).map (enc (α:=ak)))))]).o 1000000=some (.box (.agg ((l++List.replicate k cw).map enc))):=fun _=>rfl
 have hN:∀ ts (d:Nat),d≠1000000→(av ts [(1000000,.box (.agg ((l++List.replicate k cw).map (enc (α:=ak)))))]).o d=none:=fun ts d hd=>by
  have:¬ d=1000000:=hd
  simp[av,al,this]
 refine U.bM ?_
 simp only[ao,ab,Nat.reduceEqDiff,reduceIte]
 refine ⟨fun h =>?_,fun h =>?_⟩
 ·have hil:i=l.length:=by
   have:(i:Int)=l.length:=by simpa using h
   omega
  subst hil
  by_cases hk:k=0
  ·subst hk
   refine .ar (by decide +kernel) fun K hK =>?_
   simp only[p6,ab,Nat.reduceEqDiff,reduceIte]
   try simp only[ki]
   refine a6.Oo (esz:=17) cw rfl (xs:=l++List.replicate 0 cw) (ys:=[g]) (by simp) (hA _) (by simp) (by simp) (hN _ 25 (by decide)) (by simp;omega) (by simp[maxLen];omega) fun q =>?_
   have hc:(l++List.replicate 0 cw).take l.length++([g]++List.replicate q cw)=eI l l.length g++List.replicate q cw:=by simp[eI]
   rw[hc]
   try simp only[List.length_singleton,ab,Nat.reduceEqDiff,reduceIte]
   refine .done (hK _ ?_);clear hK K
   refine U.ret ?_
   simp only[ay,eL]
   exact ⟨dA 25 (eI l l.length g) q++dA 1000000 l 0,[.view 25 [] 17 0 (l.length+1)],H0 rfl (fun p=>fu p _) rfl (fun p=>fu p _),⟨⟨_,rfl,.inl ⟨rfl,rfl,rfl⟩⟩,trivial⟩,.inr ⟨25,q,.inl rfl,rfl,rfl⟩⟩
  ·refine .ar (by decide +kernel) fun K hK =>?_
   simp only[p6,ab,Nat.reduceEqDiff,reduceIte]
   try simp only[ki]
   rw[Ow (esz:=17) _ rfl (xs:=l++List.replicate k cw) (ys:=[g]) (by simp) (hA _) (by simp;omega)]
   have hc:(l++List.replicate k cw).take l.length++([g]++(l++List.replicate k cw).drop (l.length+[g].length))=eI l l.length g++List.replicate (k-1) cw:=by
    simp[eI,List.drop_append]
   rw[hc]
   try simp only[List.length_singleton,ab,Nat.reduceEqDiff,reduceIte]
   refine .done (hK _ ?_);clear hK K
   refine U.ret ?_
   simp only[ay,eL]
   exact ⟨dA 1000000 (eI l l.length g) (k-1),[.view 1000000 [] 17 0 (l.length+1)],jQ rfl (fun p=>fu p _),⟨⟨_,rfl,.inl ⟨rfl,rfl,rfl⟩⟩,trivial⟩,.inl ⟨k-1,rfl,rfl⟩⟩
 have hlt:i<l.length:=by
  have:¬ (i:Int)=l.length:=by simpa using h
  omega
 refine U.skip ?_;try simp only[ay]
 refine U.seq (U.seq ?_)
 refine .bP (by decide +kernel) fun K hK =>?_
 simp only[Ee,ab,Nat.reduceEqDiff,reduceIte]
 try simp only[ahc,List.length_singleton,ab,Nat.reduceEqDiff,reduceIte]
 rw[Re (xs:=l++List.replicate k cw) (hA _)]
 try simp only[ab,Nat.reduceEqDiff,reduceIte]
 rw[cN _ (by simp;omega) (by simp;omega)]
 refine .done (hK _ ?_);clear hK K;try simp only[ay]
 have hgt:decide ((((l++List.replicate k cw).length-0:Nat):Int)<(l.length:Int)+((1:Nat):Int))=decide (k=0):=by
  by_cases hk:k=0 <;>simp[hk] <;>omega
 simp only[hgt]
 by_cases hk:k=0
 ·subst hk
  refine U.bM ?_
  simp only[ao,ab,Nat.reduceEqDiff,reduceIte]
  refine ⟨fun h =>?_,fun h =>?_⟩
  ·have htot0:((l++List.replicate 0 cw).map (enc (α:=ak))).length=l.length:=by simp
   refine .ar (by decide +kernel) fun K hK =>?_
   simp only[Ef,ab,Nat.reduceEqDiff,reduceIte]
   try simp only[c9,htot0,Option.map_none,qK (show i≤l.length by omega) hl0,ki,ag5,ab,Nat.reduceEqDiff,reduceIte]
   rw[cN ((l.length:Int)+((1:Nat):Int)) (by omega) (by omega),cN ((l.length:Int)+((1:Nat):Int)-i) (by omega) (by omega)]
   have hm:(l.length:Int)+((1:Nat):Int)-i=((l.length+1-i:Nat):Int):=by omega
   rw[hm]
   refine a6.OD (esz:=17) cw rfl (xs:=l++List.replicate 0 cw) (hA _) (by simp;omega) (by omega) (by simp;omega) (hN _ 40 (by decide)) (by omega) (by simp only[maxLen];omega) fun q =>?_
   obtain ⟨xs,hxs⟩:∃ xs,xs=l.take i++(List.replicate (l.length+1-i) cw++List.replicate q cw):=⟨_,rfl⟩
   have hxs':(l++List.replicate 0 cw).take i++(List.replicate (l.length+1-i) cw++List.replicate q cw)=xs:=by rw[hxs,List.take_append_of_le_length (by omega)]
   have hxl:xs.length=l.length+1+q:=by rw[hxs];simp;omega
   have hle:i+(l.length+1-i)=l.length+1:=by omega
   rw[hxs',hle]
   try simp only[ab,Nat.reduceEqDiff,reduceIte]
   refine .done (hK _ ?_);clear hK K
   have hxm:(xs.map (enc (α:=ak))).length=l.length+1+q:=by rw[List.length_map];exact hxl
   have hA2:∀ ts,(av ts [(40,.box (.agg (xs.map (enc (α:=ak))))),(1000000,.box (.agg ((l++List.replicate 0 cw).map (enc (α:=ak)))))]).o 40=some (.box (.agg (xs.map enc))):=fun _=>rfl
   refine .ar (by decide +kernel) fun K hK =>?_
   simp only[D6,ab,Nat.reduceEqDiff,reduceIte]
   try simp only[c9,hxm,Option.map_none,lD (show i≤l.length+1 by omega) (show l.length+1≤l.length+1+q by omega) (show i<l.length+1+q by omega),sR,ab,Nat.reduceEqDiff,reduceIte]
   rw[nX _ 17 [g] rfl,rK (xs:=xs) (c:=1) (hA2 _) (by omega) (by simp;omega)]
   obtain ⟨ys,hys⟩:∃ ys,ys=xs.take i++([g].take 1++xs.drop (i+1)):=⟨_,rfl⟩
   have hyl:ys.length=l.length+1+q:=by rw[hys];simp;omega
   rw[←hys]
   try simp only[ab]
   refine .done (hK _ ?_);clear hK K
   have hym:(ys.map (enc (α:=ak))).length=l.length+1+q:=by rw[List.length_map];exact hyl
   have hA3:∀ ts z,(av ts [(40,.box (.agg (ys.map (enc (α:=ak))))),(40,z),(1000000,.box (.agg ((l++List.replicate 0 cw).map (enc (α:=ak)))))]).o 40=some (.box (.agg (ys.map enc))):=fun _ _=>rfl
   have hA4:∀ ts z,(av ts [(40,.box (.agg (ys.map (enc (α:=ak))))),(40,z),(1000000,.box (.agg ((l++List.replicate 0 cw).map (enc (α:=ak)))))]).o 1000000=some (.box (.agg ((l++List.replicate 0 cw).map enc))):=fun _ _=>rfl
   refine .ar (by decide +kernel) fun K hK =>?_
   simp only[D7,ab,Nat.reduceEqDiff,reduceIte]
   rw[cN ((i:Int)+((1:Nat):Int)) (by omega) (by omega)]
   have hi1:(i:Int)+((1:Nat):Int)=((i+1:Nat):Int):=by omega
   try simp only[c9,hym,htot0,hi1,Option.map_none,Option.map_some,lD (show i+1≤l.length+1 by omega) (show l.length+1≤l.length+1+q by omega) (show i+1<l.length+1+q by omega),lD (show i≤l.length by omega) (Nat.le_refl l.length) hlt,sR,ab,Nat.reduceEqDiff,reduceIte]
   have hd1:l.length+1-(i+1)=l.length-i:=by omega
   rw[hd1,mw (xs:=l++List.replicate 0 cw) (hA4 _ _) (by simp;omega),rK (xs:=ys) (c:=l.length-i) (hA3 _ _) (by omega) (by simp)]
   rw[agt l i q g hlt xs hxs ys hys]
   try simp only[ab]
   refine .done (hK _ ?_);clear hK K
   refine .ar (by decide +kernel) fun K hK =>?_
   simp only[D8,ab,Nat.reduceEqDiff,reduceIte]
   refine .done (hK _ ?_);clear hK K
   refine U.ret ?_
   simp only[ay,eL]
   exact ⟨dA 40 (eI l i g) q++dA 1000000 l 0,[.view 40 [] 17 0 (l.length+1)],H0 rfl (fun p=>fu p _) rfl (fun p=>fu p _),⟨⟨_,rfl,.inl ⟨rfl,rfl,rfl⟩⟩,trivial⟩,.inr ⟨40,q,.inr rfl,rfl,rfl⟩⟩
  ·simp at h
 ·refine U.bM ?_
  simp only[ao,ab,Nat.reduceEqDiff,reduceIte]
  refine ⟨fun h =>?_,fun h =>?_⟩
  ·simp at h;omega
  refine U.skip ?_;try simp only[ay]
  have hk1:1≤k:=by omega
  have hn1:(l.length:Int)+((1:Nat):Int)=((l.length+1:Nat):Int):=by omega
  refine .ar (by decide +kernel) fun K hK =>?_
  simp only[D9,ab,Nat.reduceEqDiff,reduceIte]
  rw[cN ((l.length:Int)+((1:Nat):Int)) (by omega) (by omega)]
  try simp only[c9,htot,hn1,Option.map_none,qK (show l.length+1≤l.length+k by omega) (show 0<l.length+k by omega),ab,Nat.reduceEqDiff,reduceIte]
  refine .done (hK _ ?_);clear hK K
  have hi1:(i:Int)+((1:Nat):Int)=((i+1:Nat):Int):=by omega
  have hd1:l.length+1-(i+1)=l.length-i:=by omega
  refine U.seq (U.seq ?_)
  refine .bP (by decide +kernel) fun K hK =>?_
  simp only[Ea,ab,Nat.reduceEqDiff,reduceIte]
  rw[cN ((i:Int)+((1:Nat):Int)) (by omega) (by omega)]
  try simp only[c9,htot,hi1,hd1,Option.map_none,lD (show i+1≤l.length+1 by omega) (show l.length+1≤l.length+k by omega) (show i+1<l.length+k by omega),ahG,ab,Nat.reduceEqDiff,reduceIte]
  refine .ext (.bool false) rfl (aj1 (tS:=27) (tR:=4) (e:=68) Tryz.func191 (by kernel_rfl) (by kernel_rfl) (by kernel_rfl) (by kernel_rfl) (by kernel_rfl) (by kernel_rfl) (hA _) rfl ?_ (by decide)) ?_
  ·show I.sizes ((l++List.replicate k cw).map enc)≠0
   rw[I.gW (sz:=17) _ (fun e he=>by obtain ⟨x,_,rfl⟩:=List.mem_map.1 he;rw[jd];rfl)]
   rw[htot];omega
  try simp only[ab,Nat.reduceEqDiff,reduceIte]
  refine .done (hK _ ?_);clear hK K;try simp only[ay]
  refine U.bM ?_
  simp only[ao,ab,Nat.reduceEqDiff,reduceIte]
  refine ⟨fun h =>?_,fun h =>?_⟩
  case neg.refine_2.refine_2.refine_2=>cases h
  have hd2:l.length+1-i=l.length+1-i:=rfl
  obtain ⟨xs,hxs⟩:∃ xs,xs=l++List.replicate k cw:=⟨_,rfl⟩
  have hxl:xs.length=l.length+k:=by rw[hxs];simp
  have hxm:(xs.map (enc (α:=ak))).length=l.length+k:=by rw[List.length_map];exact hxl
  rw[←hxs]
  have hB:∀ ts,(av ts [(1000000,.box (.agg (xs.map (enc (α:=ak)))))]).o 1000000=some (.box (.agg (xs.map enc))):=fun _=>rfl
  refine .ar (by decide +kernel) fun K hK =>?_
  simp only[Eb,ab,Nat.reduceEqDiff,reduceIte]
  rw[cN ((i:Int)+((1:Nat):Int)) (by omega) (by omega)]
  try simp only[c9,hxm,hi1,hd1,Option.map_none,Option.map_some,lD (show i+1≤l.length+1 by omega) (show l.length+1≤l.length+k by omega) (show i+1<l.length+k by omega),lD (show i≤l.length+1 by omega) (show l.length+1≤l.length+k by omega) (show i<l.length+k by omega),sR,ab,Nat.reduceEqDiff,reduceIte]
  rw[mw (xs:=xs) (hB _) (by omega),rK (xs:=xs) (c:=l.length-i) (hB _) (by omega) (by simp;omega)]
  obtain ⟨ys,hys⟩:∃ ys,ys=xs.take (i+1)++(((xs.drop i).take (l.length+1-i)).take (l.length-i)++xs.drop (i+1+(l.length-i))):=⟨_,rfl⟩
  have hyl:ys.length=l.length+k:=by rw[hys];simp;omega
  have hym:(ys.map (enc (α:=ak))).length=l.length+k:=by rw[List.length_map];exact hyl
  rw[←hys]
  try simp only[ab]
  refine .done (hK _ ?_);clear hK K
  have hC:∀ ts z,(av ts [(1000000,.box (.agg (ys.map (enc (α:=ak))))),(1000000,z)]).o 1000000=some (.box (.agg (ys.map enc))):=fun _ _=>rfl
  refine .ar (by decide +kernel) fun K hK =>?_
  simp only[Ec,ab,Nat.reduceEqDiff,reduceIte]
  try simp only[c9,hym,Option.map_none,lD (show i≤l.length+1 by omega) (show l.length+1≤l.length+k by omega) (show i<l.length+k by omega),sR,ab,Nat.reduceEqDiff,reduceIte]
  rw[nX _ 17 [g] rfl,rK (xs:=ys) (c:=1) (hC _ _) (by omega) (by simp;omega)]
  rw[ags l i k g hlt hk1 xs hxs ys hys]
  try simp only[ab]
  refine .done (hK _ ?_);clear hK K
  refine .ar (by decide +kernel) fun K hK =>?_
  simp only[Ed,ab,Nat.reduceEqDiff,reduceIte]
  refine .done (hK _ ?_);clear hK K
  refine U.ret ?_
  simp only[ay,eL]
  exact ⟨dA 1000000 (eI l i g) (k-1),[.view 1000000 [] 17 0 (l.length+1)],jQ rfl (fun p=>fu p _),⟨⟨_,rfl,.inl ⟨rfl,rfl,rfl⟩⟩,trivial⟩,.inl ⟨k-1,rfl,rfl⟩⟩
def dG(l:List ak)(i:Nat):List ak:=l.take i++l.drop (i+1)
theorem BX{l:List ak}{i:Nat}(h:i<l.length):(dG l i).length=l.length-1:=by
 simp only[dG,List.length_append,List.length_take,List.length_drop];omega
def BU(l:List ak)(i:Nat):cR:=fun r os'=>∃ q,r=.view 1000000 [] 17 0 (l.length-1)∧os'=dA 1000000 (dG l i) q
theorem agq(l:List ak)(i k:Nat)(h:i+1<l.length)(xs:List ak)(hx:xs=l++List.replicate k cw)(a:List ak)(ha:a=xs.take i++(l.drop (i+1)++xs.drop (i+(l.drop (i+1)).length))) :
  a.take (l.length-1)++(List.replicate 1 cw++a.drop (l.length-1+1))=dG l i++List.replicate (k+1) cw:=by
 have e1:xs.take i=l.take i:=by rw[hx,List.take_append_of_le_length (by omega)]
 have e0:i+(l.drop (i+1)).length=l.length-1:=by rw[List.length_drop];omega
 have e2:a=dG l i++xs.drop (l.length-1):=by rw[ha,e1,e0,dG,List.append_assoc]
 have hl:=BX (l:=l) (i:=i) (by omega)
 have e3:a.take (l.length-1)=dG l i:=by rw[e2,←hl,List.take_left]
 have e4:a.drop (l.length-1+1)=List.replicate k cw:=by
  rw[e2,List.drop_append,hl,List.drop_eq_nil_of_le (by omega),List.nil_append,List.drop_drop]
  have:l.length-1+(l.length-1+1-(l.length-1))=l.length:=by omega
  rw[this,hx,List.drop_left]
 rw[e3,e4,List.replicate_append_replicate,Nat.add_comm 1 k]
theorem agr(l:List ak)(k:Nat)(i:Nat)(h:i+1=l.length)(xs:List ak)(hx:xs=l++List.replicate k cw):xs.take (l.length-1)++(List.replicate 1 cw++xs.drop (l.length-1+1))=dG l i++List.replicate (k+1) cw:=by
 have e1:l.length-1=i:=by omega
 have e2:xs.drop (l.length-1+1)=List.replicate k cw:=by rw[show l.length-1+1=l.length by omega,hx,List.drop_left]
 have e3:xs.take (l.length-1)=dG l i:=by
  rw[e1,hx,List.take_append_of_le_length (by omega),dG,List.drop_eq_nil_of_le (by omega),List.append_nil]
 rw[e2,e3,List.replicate_append_replicate,Nat.add_comm 1 k]
theorem MO(l:List ak)(i:Nat)(k:Nat)(hi:i<l.length)(hlen:l.length≤1000) :
  cA Tryz.prog 135 [.view 1000000 [] 17 0 l.length,enc (i:Int),enc ((i+1:Nat):Int)] (dA 1000000 l k) (BU l i):=by
 refine cA.bn Tryz.func135 PI RF TP (Nat.le_of_ble_eq_true rfl) (Nat.le_of_ble_eq_true rfl) (fun m hm=>by rw[cV.1 hm];exact Nat.le_refl _) (fun hwf W0 D0 E1 =>?_)
 simp only[zR,JS,bg,Nat.zero_add,Nat.reduceAdd]
 simp only[dA]
 obtain ⟨xs,hxs⟩:∃ xs,xs=l++List.replicate k cw:=⟨_,rfl⟩
 have hxl:xs.length=l.length+k:=by rw[hxs];simp
 have htot:(xs.map (enc (α:=ak))).length=l.length+k:=by rw[List.length_map];exact hxl
 rw[←hxs]
 have hA:∀ ts,(av ts [(1000000,.box (.agg (xs.map (enc (α:=ak)))))]).o 1000000=some (.box (.agg (xs.map enc))):=fun _=>rfl
 refine .ar (by decide +kernel) fun K hK =>?_
 simp only[DJ,ab]
 refine .done (hK _ ?_);clear hK K
 refine .ar (by decide +kernel) fun K hK =>?_
 simp only[DK,ab,Nat.reduceEqDiff,reduceIte]
 try simp only[c9,htot,Option.map_some,ajk (show i≤i+1 by omega) (show i+1≤l.length by omega) (show l.length≤l.length+k by omega),ab,Nat.reduceEqDiff,reduceIte]
 refine .done (hK _ ?_);clear hK K
 refine U.seq (U.seq ?_)
 refine .bP (by decide +kernel) fun K hK =>?_
 simp only[DL,ab,Nat.reduceEqDiff,reduceIte]
 try simp only[dB,bI,gb,dC,ab,Nat.reduceEqDiff,reduceIte,Int.reduceBNe,Int.reduceBEq]
 refine .done (hK _ ?_);clear hK K;try simp only[ay]
 refine U.bM ?_
 simp only[ao,ab,Nat.reduceEqDiff,reduceIte]
 refine ⟨fun h =>?_,fun h =>?_⟩
 ·exfalso
  have:(i:Int)=((i+1:Nat):Int):=by simpa using h
  omega
 refine U.skip ?_;try simp only[ay]
 refine .ar (by decide +kernel) fun K hK =>?_
 simp only[DM,ab,Nat.reduceEqDiff,reduceIte]
 try simp only[c9,ab,Nat.reduceEqDiff,reduceIte]
 refine .done (hK _ ?_);clear hK K
 by_cases hl1:i+1<l.length
 ·have hd:(xs.drop (i+1)).take (l.length-(i+1))=l.drop (i+1):=by
   rw[hxs,List.drop_append_of_le_length (by omega),List.take_append_of_le_length (by rw[List.length_drop];omega),List.take_of_length_le (by rw[List.length_drop];omega)]
  have hdl:i+(l.drop (i+1)).length=l.length-1:=by rw[List.length_drop];omega
  obtain ⟨b,hb⟩:∃ b,b=xs.take i++(l.drop (i+1)++xs.drop (i+(l.drop (i+1)).length)):=⟨_,rfl⟩
  have hbl:b.length=l.length+k:=by rw[hb];simp;omega
  have hcont:=agq l i k hl1 xs hxs b hb
  refine .ar (by decide +kernel) fun K hK =>?_
  simp only[vA,ab,Nat.reduceEqDiff,reduceIte]
  try simp only[c9,htot,Option.map_none,Option.map_some,qK (show i≤l.length+k by omega) (show 0<l.length+k by omega),lD (show i+1≤l.length by omega) (show l.length≤l.length+k by omega) (show i+1<l.length+k by omega),ab,Nat.reduceEqDiff,reduceIte]
  rw[Oy (esz:=17) (xs:=xs) (ys:=l.drop (i+1)) _ _ (by rw[mw (xs:=xs) (hA _) (by omega),hd]) (by simp;omega) (hA _) (by rw[List.length_drop];omega)]
  rw[←hb,hdl]
  try simp only[ab,Nat.reduceEqDiff,reduceIte]
  refine .done (hK _ ?_);clear hK K
  have htb:(b.map (enc (α:=ak))).length=l.length+k:=by rw[List.length_map];exact hbl
  have hB:∀ ts os,(av ts ((1000000,.box (.agg (b.map (enc (α:=ak)))))::os)).o 1000000=some (.box (.agg (b.map enc))):=fun _ _=>rfl
  refine .ar (by decide +kernel) fun K hK =>?_
  simp only[vB,ab,Nat.reduceEqDiff,reduceIte]
  try simp only[c9,htb,Option.map_none,Option.map_some,ki,ab,Nat.reduceEqDiff,reduceIte]
  rw[LX (show l.length-1≤l.length by omega) (show l.length≤l.length+k by omega) (by omega)]
  try simp only[c9,ab,Nat.reduceEqDiff,reduceIte]
  rw[uL (xs:=b) cw (hB _ _) (by omega)]
  have hone:l.length-(l.length-1)=1:=by omega
  try simp only[hone,hcont,ab]
  refine .done (hK _ ?_);clear hK K
  refine .ar (by decide +kernel) fun K hK =>?_
  simp only[vC,ab,Nat.reduceEqDiff,reduceIte]
  refine .done (hK _ ?_);clear hK K
  refine U.ret ?_
  simp only[eL]
  exact ⟨dA 1000000 (dG l i) (k+1),[.view 1000000 [] 17 0 (l.length-1)],jQ rfl (fun p=>fu p _),⟨⟨_,rfl,.inl ⟨rfl,rfl,rfl⟩⟩,trivial⟩,k+1,rfl,rfl⟩
 ·have hie:i+1=l.length:=by omega
  obtain ⟨b,hb⟩:∃ b,b=xs:=⟨_,rfl⟩
  have hbl:b.length=l.length+k:=by rw[hb];exact hxl
  have hcont:=agr l k i hie xs hxs
  rw[←hb] at hcont
  have hi1:i=l.length-1:=by omega
  obtain ⟨y,hy⟩:=LW (n:=1000000) (p:=[]) (sz:=17) (show i+1≤l.length by omega) (show l.length≤l.length+k by omega)
  have hye:∀ ts,ec (av ts [(1000000,.box (.agg (xs.map (enc (α:=ak)))))]) 17 y=some []:=fun ts=>by
   by_cases hk:k=0
   ·have:gP 1000000 [] 17 0 l.length (l.length+k) (some (.int .i64 ((i+1:Nat):Int))) none none=some (.c0 17):=by
     simp only[gP,gT]
     rw[if_pos ⟨by omega,by omega,by omega⟩,if_pos (by omega)]
    rw[this] at hy;cases hy;rfl
   ·rw[lD (show i+1≤l.length by omega) (show l.length≤l.length+k by omega) (by omega)] at hy
    cases hy
    rw[mw (xs:=xs) (hA _) (by omega),hie]
    simp
  refine .ar (by decide +kernel) fun K hK =>?_
  simp only[vA,ab,Nat.reduceEqDiff,reduceIte]
  try simp only[c9,htot,Option.map_none,Option.map_some,qK (show i≤l.length+k by omega) (show 0<l.length+k by omega),hy,ab,Nat.reduceEqDiff,reduceIte]
  rw[Ox (esz:=17) (xs:=xs) _ _ (hye _) (hA _) (by omega)]
  rw[hi1,←hb]
  try simp only[ab,Nat.reduceEqDiff,reduceIte]
  refine .done (hK _ ?_);clear hK K
  have htb:(b.map (enc (α:=ak))).length=l.length+k:=by rw[List.length_map];exact hbl
  have hB:∀ ts os,(av ts ((1000000,.box (.agg (b.map (enc (α:=ak)))))::os)).o 1000000=some (.box (.agg (b.map enc))):=fun _ _=>rfl
  refine .ar (by decide +kernel) fun K hK =>?_
  simp only[vB,ab,Nat.reduceEqDiff,reduceIte]
  try simp only[c9,htb,Option.map_none,Option.map_some,ki,ab,Nat.reduceEqDiff,reduceIte]
  rw[LX (show l.length-1≤l.length by omega) (show l.length≤l.length+k by omega) (by omega)]
  try simp only[c9,ab,Nat.reduceEqDiff,reduceIte]
  rw[uL (xs:=b) cw (hB _ _) (by omega)]
  have hone:l.length-(l.length-1)=1:=by omega
  try simp only[hone,hcont,ab]
  refine .done (hK _ ?_);clear hK K
  refine .ar (by decide +kernel) fun K hK =>?_
  simp only[vC,ab,Nat.reduceEqDiff,reduceIte]
  refine .done (hK _ ?_);clear hK K
  refine U.ret ?_
  simp only[eL]
  exact ⟨dA 1000000 (dG l i) (k+1),[.view 1000000 [] 17 0 (l.length-1)],jQ rfl (fun p=>fu p _),⟨⟨_,rfl,.inl ⟨rfl,rfl,rfl⟩⟩,trivial⟩,k+1,rfl,rfl⟩
def ef(b:aY)(s:I):I:=.agg [.agg [.int .i64 b.no,.int .i64 b.fj,.int .i64 b.fb,.int .i64 b.cB,.int .i64 b.jx,.int .i64 b.born,.int .i64 b.fc,.bool b.found,s]]
structure ez where
 b:aY
instance:Enc ez where
 enc x:=.agg [enc x.b]
 sz:=9
 aT:=.ej [.ej [.one,.one,.one,.one,.one,.one,.one,.one,.one]]
 fP:=true
 done e:=by simp only[I.done,I.eO,Enc.done,Bool.and_self]
 size e:=by simp only[I.size,I.sizes,jd,Ca]
 j4 e:=by simp only[I.aT,I.cM,fm];rfl
 agg _:=rfl
def eJ(B:Nat):Nat→List aY→List (Nat×ai)
 |_,[]=>[]
 |i,b::bs=>(B+2+2*i,.box (ef b (.own (B+3+2*i) b.cd.length)))::(B+3+2*i,.bX 66 6 (b.cd.map enc))::eJ B (i+1) bs
def ea(B n:Nat):List I:=(List.range n).map fun i=>.ptr (B+2+2*i) []
def dh(bs:List aY):List I:=(bs.map (·.no)).map enc
def cm(B:Nat)(bs:List aY):List (Nat×ai):=(B,.box (.agg [.mref (B+1)]))::(B+1,.ct (dh bs) (ea B bs.length))::eJ B 0 bs
theorem sy(B:Nat):∀ (bs:List aY) (i n:Nat),n<B+2+2*i→al (eJ B i bs) n=none
 | [],_,_,_=>rfl
 |b::bs,i,n,h=>by
  simp only[eJ,al]
  rw[if_neg (by omega),if_neg (by omega)]
  exact sy B bs (i+1) n (by omega)
theorem sw(B:Nat):∀ (bs:List aY) (i n:Nat),B+2+2*(i+bs.length)≤n→al (eJ B i bs) n=none
 | [],_,_,_=>rfl
 |b::bs,i,n,h=>by
  simp only[List.length_cons] at h
  simp only[eJ,al]
  rw[if_neg (by omega),if_neg (by omega)]
  exact sw B bs (i+1) n (by omega)
theorem sx(B:Nat):∀ (bs:List aY) (i k:Nat) (h:k<bs.length),al (eJ B i bs) (B+2+2*(i+k))=some (.box (ef bs[k] (.own (B+3+2*(i+k)) (bs[k]).cd.length)))
 | [],_,_,h=>by simp at h
 |b::bs,i,0,_=>by simp[eJ,al]
 |b::bs,i,k+1,h=>by
  simp only[eJ,al]
  rw[if_neg (by omega),if_neg (by omega)]
  have:=sx B bs (i+1) k (by simpa using h)
  rw[show i+1+k=i+(k+1) by omega] at this
  exact this
theorem sA(B:Nat):∀ (bs:List aY) (i k:Nat) (h:k<bs.length),al (eJ B i bs) (B+3+2*(i+k))=some (.bX 66 6 ((bs[k]).cd.map enc))
 | [],_,_,h=>by simp at h
 |b::bs,i,0,_=>by
  simp only[eJ,al]
  rw[if_neg (by omega),if_pos (by omega)];rfl
 |b::bs,i,k+1,h=>by
  simp only[eJ,al]
  rw[if_neg (by omega),if_neg (by omega)]
  have:=sA B bs (i+1) k (by simpa using h)
  rw[show i+1+k=i+(k+1) by omega] at this
  exact this
theorem sN(B n m:Nat):n<B∨n=B∨n=B+1∨(∃ k,k<m∧n=B+2+2*k)∨(∃ k,k<m∧n=B+3+2*k)∨B+2+2*m≤n:=by
 by_cases h1:n<B
 ·exact .inl h1
 by_cases h2:n=B
 ·exact .inr (.inl h2)
 by_cases h3:n=B+1
 ·exact .inr (.inr (.inl h3))
 by_cases h4:B+2+2*m≤n
 ·exact .inr (.inr (.inr (.inr (.inr h4))))
 rcases Nat.mod_two_eq_zero_or_one (n-B) with h5 | h5
 ·exact .inr (.inr (.inr (.inl ⟨(n-B-2) / 2,by omega,by omega⟩)))
 ·exact .inr (.inr (.inr (.inr (.inl ⟨(n-B-3) / 2,by omega,by omega⟩))))
section
variable {B:Nat} {bs:List aY}
theorem jS{n:Nat}(h:n<B):al (cm B bs) n=none:=by
 simp only[cm,al]
 rw[if_neg (by omega),if_neg (by omega)]
 exact sy B bs 0 n (by omega)
theorem sm{n:Nat}(h:B+2+2*bs.length≤n):al (cm B bs) n=none:=by
 simp only[cm,al]
 rw[if_neg (by omega),if_neg (by omega)]
 exact sw B bs 0 n (by omega)
theorem jR:al (cm B bs) B=some (.box (.agg [.mref (B+1)])):=by simp[cm,al]
theorem kp:al (cm B bs) (B+1)=some (.ct (dh bs) (ea B bs.length)):=by simp[cm,al]
theorem lR{k:Nat}(h:k<bs.length):al (cm B bs) (B+2+2*k)=some (.box (ef bs[k] (.own (B+3+2*k) (bs[k]).cd.length))):=by
 simp only[cm,al]
 rw[if_neg (by omega),if_neg (by omega)]
 have:=sx B bs 0 k h
 rwa [Nat.zero_add] at this
theorem kY{k:Nat}(h:k<bs.length):al (cm B bs) (B+3+2*k)=some (.bX 66 6 ((bs[k]).cd.map enc)):=by
 simp only[cm,al]
 rw[if_neg (by omega),if_neg (by omega)]
 have:=sA B bs 0 k h
 rwa [Nat.zero_add] at this
theorem mN{n:Nat} : au (cm B bs) n=decide (B≤n∧n<B+2+2*bs.length):=by
 rcases sN B n bs.length with h | h | h | ⟨k,hk,h⟩ | ⟨k,hk,h⟩ | h
 ·simp only[au,jS h];simp;omega
 ·subst h;simp only[au,jR];simp;omega
 ·subst h;simp only[au,kp];simp;omega
 ·subst h;simp only[au,lR hk];simp;omega
 ·subst h;simp only[au,kY hk];simp;omega
 ·simp only[au,sm h];simp;omega
theorem xD(p:Nat→Bool){n:Nat}(h:∀ i,i<n→p (B+2+2*i)=true):I.bU p (ea B n)=true:=by
 unfold ea
 induction n with
 |zero=>rfl
 |succ n ih =>
  rw[List.range_succ,List.map_append,jF,ih fun i hi=>h i (by omega)]
  simp[I.bU,I.only,h n (by omega)]
theorem fg{n:Nat}{x:ai}(h:al (cm B bs) n=some x):x.only (au (cm B bs))=true∧x.eC=true:=by
 rcases sN B n bs.length with h2 | h2 | h2 | ⟨k,hk,h2⟩ | ⟨k,hk,h2⟩ | h2
 ·rw[jS h2] at h;cases h
 ·subst h2;rw[jR] at h;cases h
  simp[ai.only,I.only,I.bU,mN,ai.eC];omega
 ·subst h2;rw[kp] at h;cases h
  refine ⟨?_,rfl⟩
  simp only[ai.only,Bool.and_eq_true]
  exact ⟨ev _ _,xD _ fun i hi=>by rw[mN];simp;omega⟩
 ·subst h2;rw[lR hk] at h;cases h
  simp[ai.only,I.only,I.bU,mN,ai.eC,ef];omega
 ·subst h2;rw[kY hk] at h;cases h
  exact ⟨ev _ _,rfl⟩
 ·rw[sm h2] at h;cases h
theorem H3{i:Nat}(hi:i<bs.length)(b:aY)(hno:b.no=(bs[i]).no)(n:Nat):al (cm B (bs.set i b)) n =
  if n=B+2+2*i then some (.box (ef b (.own (B+3+2*i) b.cd.length))) else if n=B+3+2*i then some (.bX 66 6 (b.cd.map enc)) else al (cm B bs) n:=by
 have hl:(bs.set i b).length=bs.length:=List.length_set
 have hnos:dh (bs.set i b)=dh bs:=by
  simp only[dh,List.map_set,hno]
  congr 1
  exact List.ext_getElem (by simp) fun j h1 h2=>by
   simp only[List.getElem_set,List.getElem_map]
   split
   ·rename_i e;subst e;rfl
   ·rfl
 rcases sN B n bs.length with h2 | h2 | h2 | ⟨k,hk,h2⟩ | ⟨k,hk,h2⟩ | h2
 ·rw[jS h2,jS h2,if_neg (by omega),if_neg (by omega)]
 ·subst h2;rw[jR,jR,if_neg (by omega),if_neg (by omega)]
 ·subst h2;rw[kp,kp,hl,hnos,if_neg (by omega),if_neg (by omega)]
 ·subst h2
  rw[lR (by omega),lR hk]
  by_cases e:k=i
  ·subst e;simp
  ·rw[if_neg (by omega),if_neg (by omega)]
   simp[Ne.symm e]
 ·subst h2
  rw[kY (by omega),kY hk]
  by_cases e:k=i
  ·subst e
   rw[if_neg (by omega),if_pos rfl]
   simp
  ·rw[if_neg (by omega),if_neg (by omega)]
   simp[Ne.symm e]
 ·rw[sm (by omega),sm h2,if_neg (by omega),if_neg (by omega)]
end
theorem Jp{B n i:Nat}(h:i<n):(ea B n)[i]?=some (.ptr (B+2+2*i) []):=by simp[ea,h]
theorem u9(a b:Int):cj (.i .i64) (enc a) (enc b)=some (decide (a=b)):=Cd a b
theorem wh{bs:List aY}{no:Int} : match (bs.map (·.no)).findIdx? fun x=>decide (no=x) with
  |some i=>∃ h:i<bs.length,dD bs no=some bs[i]∧(bs[i]).no=no
  |none=>dD bs no=none:=by
 cases h:(bs.map (·.no)).findIdx? fun x=>decide (no=x) with
 |none =>
  rw[List.findIdx?_eq_none_iff] at h
  simp only
  rw[HS]
  intro hm
  have:=h no hm
  simp at this
 |some i =>
  obtain ⟨h1,h2,h3⟩:=List.findIdx?_eq_some_iff_getElem.1 h
  have hi:i<bs.length:=by simpa using h1
  have hno:(bs[i]).no=no:=by simpa using (of_decide_eq_true h2).symm
  refine ⟨hi,?_,hno⟩
  simp only[dD,List.find?_eq_some_iff_getElem]
  refine ⟨by simpa using hno,i,hi,rfl,fun j hj =>?_⟩
  have:=h3 j hj
  simp at this
  simpa using fun e=>this e.symm
theorem oV(B:Nat)(bs:List aY)(no:Int):(dD bs no=none∧fX (.i .i64) .nilp (.int .i64 no) (dh bs) (ea B bs.length)=some (.nilp,false)) ∨
  ∃ i,∃ h:i<bs.length,dD bs no=some bs[i]∧(bs[i]).no=no∧fX (.i .i64) .nilp (.int .i64 no) (dh bs) (ea B bs.length)=some (.ptr (B+2+2*i) [],true):=by
 have h1:=wh (bs:=bs) (no:=no)
 have h2:=wY u9 .nilp no (bs.map (·.no)) (ea B bs.length)
 rw[jN] at h2
 unfold dh
 cases h:(bs.map (·.no)).findIdx? fun x=>decide (no=x) with
 |none=>rw[h] at h1 h2;exact .inl ⟨h1,h2⟩
 |some i =>
  rw[h] at h1 h2
  obtain ⟨hi,g1,g2⟩:=h1
  refine .inr ⟨i,hi,g1,g2,?_⟩
  rw[h2];simp only[Jp hi,Option.map_some]
theorem ajc{bs:List aY}(hd:(bs.map (·.no)).Nodup){i:Nat}(hi:i<bs.length){b:aY}(hno:b.no=(bs[i]).no):mi bs b=bs.set i b:=by
 refine List.ext_getElem (by simp[mi]) fun j h1 h2 =>?_
 simp only[mi,List.getElem_map,List.getElem_set]
 have hj:j<bs.length:=by simpa using h2
 by_cases e:i=j
 ·subst e;rw[if_pos hno.symm,if_pos rfl]
 ·rw[if_neg e,if_neg]
  intro he
  have he:=he.trans hno
  have:=(List.getElem_inj (h₀:=by simpa using hj) (h₁:=by simpa using hi) hd).1 (by simpa using he)
  exact e this.symm
theorem Cl(x:ez):(enc x).du=some [enc x.b]:=rfl
theorem Cm(b:aY)(s:I):(ef b s).du=some [.agg [.int .i64 b.no,.int .i64 b.fj,.int .i64 b.fb,.int .i64 b.cB,.int .i64 b.jx,.int .i64 b.born,.int .i64 b.fc,.bool b.found,s]]:=rfl
theorem BL(b:aY)(n k:Nat):(ef b (.own n k)).bu=false:=by simp[ef,I.bu,I.bV]
theorem lP{A:af}{m n:Nat}{b:aY}(ho:A.o n=some (.bX 66 6 (b.cd.map enc))):dU A (m+3) (ef b (.own n b.cd.length))=some (enc (⟨b⟩:ez)):=by
 have h1:dU A (m+1) (.own n b.cd.length)=some (enc b.cd):=by
  simp only[dU,I.bu,Bool.false_eq_true,if_false,ho,List.length_map,ke,and_self,if_true];rfl
 have hi:∀ (k:IntKind) (v:Int),dU A (m+1) (.int k v)=some (.int k v):=fun _ _=>by simp[dU,I.bu]
 have hb:∀ v:Bool,dU A (m+1) (.bool v)=some (.bool v):=fun _=>by simp[dU,I.bu]
 have h2:dU A (m+2) (.agg [.int .i64 b.no,.int .i64 b.fj,.int .i64 b.fb,.int .i64 b.cB,.int .i64 b.jx,.int .i64 b.born,.int .i64 b.fc,.bool b.found,.own n b.cd.length])=some (enc b):=by
  rw[dU]
  simp only[I.bu,I.bV,Bool.and_false,Bool.and_true,Bool.false_eq_true,if_false,fE,hi,hb,h1,Option.map_some]
  rfl
 rw[ef,dU]
 simp only[I.bu,I.bV,Bool.and_false,Bool.and_true,Bool.false_eq_true,if_false,fE,h2,Option.map_some]
 rfl
theorem L5 :
  (∀ (A:af) n b s (v aq:Int) rest,dY A none n [0,3] (ef b s) (.int .i64 v) rest (some (.int .i64 aq))=aC rest (A.aR n (.box (ef { b with cB:=v } s)))) ∧
  (∀ (A:af) n b s (v aq:Int) rest,dY A none n [0,6] (ef b s) (.int .i64 v) rest (some (.int .i64 aq))=aC rest (A.aR n (.box (ef { b with fc:=v } s)))) ∧
  (∀ (A:af) n b s (v aq:Bool) rest,dY A none n [0,7] (ef b s) (.bool v) rest (some (.bool aq))=aC rest (A.aR n (.box (ef { b with found:=v } s)))) ∧
  (∀ (A:af) n b s m k m' k' rest,dY A none n [0,8] (ef b s) (.own m k) rest (some (.own m' k'))=aC rest (A.aR n (.box (ef b (.own m k))))) :=
 ⟨fun _ _ _ _ v aq _=>by rw[fq (s:=none) (v:=.int .i64 v) (old:=.int .i64 aq) rfl rfl rfl];rfl,fun _ _ _ _ v aq _=>by rw[fq (s:=none) (v:=.int .i64 v) (old:=.int .i64 aq) rfl rfl rfl];rfl,
  fun _ _ _ _ v aq _=>by rw[fq (s:=none) (v:=.bool v) (old:=.bool aq) rfl rfl rfl];rfl,fun _ _ _ _ m k m' k' _=>by rw[fq (s:=none) (v:=.own m k) (old:=.own m' k') rfl rfl rfl];rfl⟩
theorem gF:(type_of% @Cl)∧(type_of% @Cm)∧(type_of% @BL)∧(type_of% @L5)∧(type_of% @IU)∧(∀ n:Nat,(n=n)=True)∧(∀ rs post A,m0 rs post .ret A=kH rs post A):=⟨Cl,Cm,BL,L5,IU,fun _=>eq_self _,eL⟩
theorem iY(b:aY):az Tryz.prog 90 [.ref (enc (⟨b⟩:ez))] (enc (decide (0≤b.fc))):=by
 refine az.bn Tryz.func90 Q4 S4 Ve (Nat.le_of_ble_eq_true rfl) (fun hwf W0 D0 E1 =>?_)
 simp only[Bn,Lf,bg]
 have R:=And.intro @gF (And.intro @ew (And.intro @aP @ab))
 repeat' ((first
  |(with_reducible refine .guard (fun hb =>?_) (fun hb =>?_) <;>try simp only[hb])
  |refine U.aL (by decide +kernel) rfl fun K hK =>?_
  |(refine .aF [0,2] hK ?_;clear hK K)
  |(with_reducible refine .done (hK _ ?_);clear hK K)
  |refine U.of rfl ?_
  |(with_reducible refine ao.aK (fun h =>?_) (fun h =>?_) <;>try simp only[h])) <;>try simp only[aM,R,simprocAttr])
 all_goals clear R
def iE(B d:Nat)(bs:List aY)(x:ak):cR:=fun r os'=>match eE ft bs x with
 |none=>r=.bool false∧os'=cm B bs
 |some bs'=>r=.bool true∧os'=if x.kind=1∨x.kind=2 then (B+1,.ct (dh bs') (ea B bs.length++[.ptr d []]))::(d,.box (ef (fJ x) (.nils 6)))::cm B bs else cm B bs'
theorem kq{bs:List aY} : ∀ m,au (cm 1000000 bs) m=true→1000000≤m:=fun m hm=>by rw[mN] at hm;simp at hm;omega
theorem fT{ts:List (Nat×I)}{os os':List (Nat×ai)}{b:Bool}{post:cR}(ht:Abs.b8 ts 4=.bool b)(ho:∀ n,au os' n=true→al os n=al os' n)(hg:∀ n x,al os' n=some x→x.only (au os')=true∧x.eC=true)(hp:post (.bool b) os'):kH [.tmp 4] post (av ts os):=by
 refine ⟨os',[.bool b],fun n x hx=>⟨?_,hg n x hx⟩,⟨⟨.bool b,?_,.inl ⟨rfl,rfl,rfl⟩⟩,trivial⟩,hp⟩
 ·show al os n=some x
  rw[ho n (by simp[au,hx])];exact hx
 ·show some (Abs.b8 ts 4)=some _
  rw[ht]
theorem kZ{bs:List aY}{z:ai} : ∀ n,au (cm 1000000 bs) n=true→al ((3,z)::cm 1000000 bs) n=al (cm 1000000 bs) n:=fun n h=>by
 have:=kq n h
 simp only[al];rw[if_neg (by omega)]
theorem wD{bs:List aY}{i:Nat}(hi:i<bs.length){b:aY}(hno:b.no=(bs[i]).no)(hs:b.cd=(bs[i]).cd){z:ai}{nl nr:Nat}(hnl:nl=1000000+2+2*i)(hnr:nr=1000000+3+2*i) :
  ∀ n,au (cm 1000000 (bs.set i b)) n=true→al ((nl,.box (ef b (.own nr (bs[i]).cd.length)))::(3,z)::cm 1000000 bs) n=al (cm 1000000 (bs.set i b)) n:=fun n h=>by
 have:=kq n h
 rw[H3 hi b hno]
 simp only[al,hs]
 subst hnl hnr
 rw[if_neg (show ¬ n=3 by omega)]
 split
 ·rfl
 ·split
  ·rename_i e;subst e;exact kY hi
  ·rfl
theorem jA{B d:Nat}{bs:List aY}{x:ak}(h:eE ft bs x=none):iE B d bs x (.bool false) (cm B bs):=by simp[iE,h]
theorem sq{B d:Nat}{bs:List aY}{x:ak}(hd:(bs.map (·.no)).Nodup)(hk:¬ (x.kind=1∨x.kind=2)){i:Nat}(hi:i<bs.length)(hg:dD bs x.eF=some bs[i]){b:aY}(ht:lE bs[i] x=some b)(hno:b.no=(bs[i]).no) :
  iE B d bs x (.bool true) (cm B (bs.set i b)):=by
 have:eE ft bs x=some (bs.set i b):=by
  simp only[eE,if_neg hk,hg,ht,Option.map_some,ajc hd hi hno]
 simp only[iE,this,if_neg hk,and_self]
theorem ru{bs:List aY}{x:ak}(hk:¬ (x.kind=1∨x.kind=2))(hg:dD bs x.eF=none):eE ft bs x=none:=by
 simp only[eE,if_neg hk,hg]
theorem zd{bs:List aY}{x:ak}(hk:¬ (x.kind=1∨x.kind=2)){b:aY}(hg:dD bs x.eF=some b)(ht:lE b x=none):eE ft bs x=none:=by
 simp only[eE,if_neg hk,hg,ht,Option.map_none]
theorem Nc(bs:List aY)(x:ak)(d:Nat)(hk:x.kind=3)(hd:(bs.map (·.no)).Nodup):cA Tryz.prog 174 [.ptr 1000000 [],enc x] (cm 1000000 bs) (iE 1000000 d bs x):=by
 refine cA.bn Tryz.func174 Qb R8 Uk (Nat.le_of_ble_eq_true rfl) (Nat.le_of_ble_eq_true rfl) kq (fun hwf W0 D0 E1 =>?_)
 simp only[Aq,Kl,bg,Nat.zero_add]
 clear hwf
 have hk12:¬ (x.kind=1∨x.kind=2):=by omega
 have n3:al (cm 1000000 bs) 3=none:=jS (by omega)
 have h0:al (cm 1000000 bs) 1000000=some (.box (.agg [.mref 1000001])):=jR
 have h1:al (cm 1000000 bs) 1000001=some (.ct (dh bs) (ea 1000000 bs.length)):=kp
 rcases oV 1000000 bs x.eF with ⟨hg,hlk⟩ | ⟨i,hi,hg,hno,hlk⟩
 ·have R:=And.intro @n3 (And.intro @h0 (And.intro @h1 (And.intro @hlk (And.intro @eK (And.intro @gF (And.intro @ew (And.intro @aP @ab)))))))
  repeat' ((first
   |(with_reducible refine .guard (fun hb =>?_) (fun hb =>?_) <;>try simp only[hb])
   |refine U.aL (by decide +kernel) rfl fun K hK =>?_
   |refine .flat _ (iY _) rfl ?_
   |(refine .aF [0,1,3,4,5,36] hK ?_;clear hK K)
   |(with_reducible refine .done (hK _ ?_);clear hK K)
   |refine U.of rfl ?_
   |(with_reducible refine ao.aK (fun h =>?_) (fun h =>?_) <;>try simp only[h])) <;>try simp only[aM,R,simprocAttr])
  all_goals clear R
  exact fT rfl kZ (fun n x h=>fg h) (jA (ru hk12 hg))
 ·have hl:=lR (B:=1000000) hi
  have hr:=kY (B:=1000000) hi
  obtain ⟨nl,hnl⟩:∃ nl,nl=1000000+2+2*i:=⟨_,rfl⟩
  obtain ⟨nr,hnr⟩:∃ nr,nr=1000000+3+2*i:=⟨_,rfl⟩
  rw[←hnl] at hl hlk
  rw[←hnr] at hl hr
  have e1:(nl=3)=False:=by simp;omega
  have e2:(nr=3)=False:=by simp;omega
  have e3:(3=nl)=False:=by simp;omega
  have e4:(nr=nl)=False:=by simp;omega
  have e5:(nl=nr)=False:=by simp;omega
  have e6:(3=nr)=False:=by simp;omega
  have R:=And.intro @n3 (And.intro @h0 (And.intro @h1 (And.intro @hl (And.intro @hr (And.intro @e1 (And.intro @e2 (And.intro @e3 (And.intro @hlk (And.intro @lP (And.intro @eK (And.intro @gF (And.intro @ew (And.intro @aP @ab)))))))))))))
  repeat' ((first
   |(with_reducible refine .guard (fun hb =>?_) (fun hb =>?_) <;>try simp only[hb])
   |refine U.aL (by decide +kernel) rfl fun K hK =>?_
   |refine .flat _ (iY _) rfl ?_
   |(refine .aF [0,1,3,4,5,36] hK ?_;clear hK K)
   |(with_reducible refine .done (hK _ ?_);clear hK K)
   |refine U.of rfl ?_
   |(with_reducible refine ao.aK (fun h =>?_) (fun h =>?_) <;>try simp only[h])) <;>try simp only[aM,R,simprocAttr])
  all_goals clear R
  all_goals first
   |exact fT rfl kZ (fun n x h=>fg h) (jA (zd hk12 hg (by simp_all[lE])))
   |exact fT rfl (wD hi (b := { bs[i] with cB:=x.cB }) rfl rfl hnl hnr) (fun n x h=>fg h) (sq hd hk12 hi hg (by simp_all[lE]) rfl)
theorem Nf(bs:List aY)(x:ak)(d:Nat)(hk:x.kind=5)(hd:(bs.map (·.no)).Nodup):cA Tryz.prog 176 [.ptr 1000000 [],enc x] (cm 1000000 bs) (iE 1000000 d bs x):=by
 refine cA.bn Tryz.func176 Qd Sa Um (Nat.le_of_ble_eq_true rfl) (Nat.le_of_ble_eq_true rfl) kq (fun hwf W0 D0 E1 =>?_)
 simp only[As,Kn,bg,Nat.zero_add]
 clear hwf
 have hk12:¬ (x.kind=1∨x.kind=2):=by omega
 have n3:al (cm 1000000 bs) 3=none:=jS (by omega)
 have h0:al (cm 1000000 bs) 1000000=some (.box (.agg [.mref 1000001])):=jR
 have h1:al (cm 1000000 bs) 1000001=some (.ct (dh bs) (ea 1000000 bs.length)):=kp
 rcases oV 1000000 bs x.eF with ⟨hg,hlk⟩ | ⟨i,hi,hg,hno,hlk⟩
 ·have R:=And.intro @n3 (And.intro @h0 (And.intro @h1 (And.intro @hlk (And.intro @eK (And.intro @gF (And.intro @ew (And.intro @aP @ab)))))))
  repeat' ((first
   |(with_reducible refine .guard (fun hb =>?_) (fun hb =>?_) <;>try simp only[hb])
   |refine U.aL (by decide +kernel) rfl fun K hK =>?_
   |refine .flat _ (iY _) rfl ?_
   |(refine .aF [0,1,3,4,5,14] hK ?_;clear hK K)
   |(with_reducible refine .done (hK _ ?_);clear hK K)
   |refine U.of rfl ?_
   |(with_reducible refine ao.aK (fun h =>?_) (fun h =>?_) <;>try simp only[h])) <;>try simp only[aM,R,simprocAttr])
  all_goals clear R
  exact fT rfl kZ (fun n x h=>fg h) (jA (ru hk12 hg))
 ·have hl:=lR (B:=1000000) hi
  have hr:=kY (B:=1000000) hi
  obtain ⟨nl,hnl⟩:∃ nl,nl=1000000+2+2*i:=⟨_,rfl⟩
  obtain ⟨nr,hnr⟩:∃ nr,nr=1000000+3+2*i:=⟨_,rfl⟩
  rw[←hnl] at hl hlk
  rw[←hnr] at hl hr
  have e1:(nl=3)=False:=by simp;omega
  have e2:(nr=3)=False:=by simp;omega
  have e3:(3=nl)=False:=by simp;omega
  have e4:(nr=nl)=False:=by simp;omega
  have e5:(nl=nr)=False:=by simp;omega
  have e6:(3=nr)=False:=by simp;omega
  have R:=And.intro @n3 (And.intro @h0 (And.intro @h1 (And.intro @hl (And.intro @hr (And.intro @e1 (And.intro @e2 (And.intro @e3 (And.intro @hlk (And.intro @lP (And.intro @eK (And.intro @gF (And.intro @ew (And.intro @aP @ab)))))))))))))
  repeat' ((first
   |(with_reducible refine .guard (fun hb =>?_) (fun hb =>?_) <;>try simp only[hb])
   |refine U.aL (by decide +kernel) rfl fun K hK =>?_
   |refine .flat _ (iY _) rfl ?_
   |(refine .aF [0,1,3,4,5,14] hK ?_;clear hK K)
   |(with_reducible refine .done (hK _ ?_);clear hK K)
   |refine U.of rfl ?_
   |(with_reducible refine ao.aK (fun h =>?_) (fun h =>?_) <;>try simp only[h])) <;>try simp only[aM,R,simprocAttr])
  all_goals clear R
  refine fT rfl (fun n h =>?_) (fun n x h=>fg h) (sq hd hk12 hi hg (b := { bs[i] with cB:=x.cB,found:=true }) (by simp[lE,hk]) rfl)
  rw[←wD hi (b := { bs[i] with cB:=x.cB,found:=true }) rfl rfl (z:=.box (enc x)) hnl hnr n h]
  simp only[al]
  split <;>rfl
theorem Ng(bs:List aY)(x:ak)(d:Nat)(hk:x.kind=6)(hd:(bs.map (·.no)).Nodup):cA Tryz.prog 177 [.ptr 1000000 [],enc x] (cm 1000000 bs) (iE 1000000 d bs x):=by
 refine cA.bn Tryz.func177 Qe Sb Un (Nat.le_of_ble_eq_true rfl) (Nat.le_of_ble_eq_true rfl) kq (fun hwf W0 D0 E1 =>?_)
 simp only[Au,Ko,bg,Nat.zero_add]
 clear hwf
 have hk12:¬ (x.kind=1∨x.kind=2):=by omega
 have n3:al (cm 1000000 bs) 3=none:=jS (by omega)
 have h0:al (cm 1000000 bs) 1000000=some (.box (.agg [.mref 1000001])):=jR
 have h1:al (cm 1000000 bs) 1000001=some (.ct (dh bs) (ea 1000000 bs.length)):=kp
 rcases oV 1000000 bs x.eF with ⟨hg,hlk⟩ | ⟨i,hi,hg,hno,hlk⟩
 ·have R:=And.intro @n3 (And.intro @h0 (And.intro @h1 (And.intro @hlk (And.intro @eK (And.intro @gF (And.intro @ew (And.intro @aP @ab)))))))
  repeat' ((first
   |(with_reducible refine .guard (fun hb =>?_) (fun hb =>?_) <;>try simp only[hb])
   |refine U.aL (by decide +kernel) rfl fun K hK =>?_
   |refine .flat _ (iY _) rfl ?_
   |(refine .aF [0,1,3,4,5,18] hK ?_;clear hK K)
   |(with_reducible refine .done (hK _ ?_);clear hK K)
   |refine U.of rfl ?_
   |(with_reducible refine ao.aK (fun h =>?_) (fun h =>?_) <;>try simp only[h])) <;>try simp only[aM,R,simprocAttr])
  all_goals clear R
  exact fT rfl kZ (fun n x h=>fg h) (jA (ru hk12 hg))
 ·have hl:=lR (B:=1000000) hi
  have hr:=kY (B:=1000000) hi
  obtain ⟨nl,hnl⟩:∃ nl,nl=1000000+2+2*i:=⟨_,rfl⟩
  obtain ⟨nr,hnr⟩:∃ nr,nr=1000000+3+2*i:=⟨_,rfl⟩
  rw[←hnl] at hl hlk
  rw[←hnr] at hl hr
  have e1:(nl=3)=False:=by simp;omega
  have e2:(nr=3)=False:=by simp;omega
  have e3:(3=nl)=False:=by simp;omega
  have e4:(nr=nl)=False:=by simp;omega
  have e5:(nl=nr)=False:=by simp;omega
  have e6:(3=nr)=False:=by simp;omega
  have R:=And.intro @n3 (And.intro @h0 (And.intro @h1 (And.intro @hl (And.intro @hr (And.intro @e1 (And.intro @e2 (And.intro @e3 (And.intro @hlk (And.intro @lP (And.intro @eK (And.intro @gF (And.intro @ew (And.intro @aP @ab)))))))))))))
  repeat' ((first
   |(with_reducible refine .guard (fun hb =>?_) (fun hb =>?_) <;>try simp only[hb])
   |refine U.aL (by decide +kernel) rfl fun K hK =>?_
   |refine .flat _ (iY _) rfl ?_
   |(refine .aF [0,1,3,4,5,18] hK ?_;clear hK K)
   |(with_reducible refine .done (hK _ ?_);clear hK K)
   |refine U.of rfl ?_
   |(with_reducible refine ao.aK (fun h =>?_) (fun h =>?_) <;>try simp only[h])) <;>try simp only[aM,R,simprocAttr])
  all_goals clear R
  all_goals first
   |exact fT rfl kZ (fun n x h=>fg h) (jA (zd hk12 hg (by simp_all[lE])))
   |exact fT rfl (wD hi (b := { bs[i] with fc:=x.day }) rfl rfl hnl hnr) (fun n x h=>fg h) (sq hd hk12 hi hg (by simp_all[lE]) rfl)
theorem afH{bs:List aY}{i:Nat}(hi:i<bs.length){b:aY}(hno:b.no=(bs[i]).no){z:ai}{nl nr:Nat}(hnl:nl=1000000+2+2*i)(hnr:nr=1000000+3+2*i) :
  ∀ n,au (cm 1000000 (bs.set i b)) n=true→al ((nl,.box (ef b (.own nr b.cd.length)))::(nr,.bX 66 6 (b.cd.map enc))::(3,z)::cm 1000000 bs) n=al (cm 1000000 (bs.set i b)) n:=fun n h=>by
 have:=kq n h
 rw[H3 hi b hno]
 simp only[al]
 subst hnl hnr
 rw[if_neg (show ¬ n=3 by omega)]
theorem Nd(bs:List aY)(x:ak)(d:Nat)(hk:x.kind=4)(hd:(bs.map (·.no)).Nodup)(hlen:∀ b∈bs,b.cd.length≤1000):cA Tryz.prog 175 [.ptr 1000000 [],enc x] (cm 1000000 bs) (iE 1000000 d bs x):=by
 refine cA.bn Tryz.func175 Qc R9 Ul (Nat.le_of_ble_eq_true rfl) (Nat.le_of_ble_eq_true rfl) kq (fun hwf W0 D0 E1 =>?_)
 simp only[Ar,Km,bg,Nat.zero_add]
 clear hwf
 have hk12:¬ (x.kind=1∨x.kind=2):=by omega
 have n3:al (cm 1000000 bs) 3=none:=jS (by omega)
 have h0:al (cm 1000000 bs) 1000000=some (.box (.agg [.mref 1000001])):=jR
 have h1:al (cm 1000000 bs) 1000001=some (.ct (dh bs) (ea 1000000 bs.length)):=kp
 rcases oV 1000000 bs x.eF with ⟨hg,hlk⟩ | ⟨i,hi,hg,hno,hlk⟩
 ·have R:=And.intro @n3 (And.intro @h0 (And.intro @h1 (And.intro @hlk (And.intro @eK (And.intro @gF (And.intro @ew (And.intro @aP @ab)))))))
  repeat' ((first
   |(with_reducible refine .guard (fun hb =>?_) (fun hb =>?_) <;>try simp only[hb])
   |refine U.aL (by decide +kernel) rfl fun K hK =>?_
   |refine .flat _ (iY _) rfl ?_
   |(refine .aF [0,1,3,4,5,14] hK ?_;clear hK K)
   |(with_reducible refine .done (hK _ ?_);clear hK K)
   |refine U.of rfl ?_
   |(with_reducible refine ao.aK (fun h =>?_) (fun h =>?_) <;>try simp only[h])) <;>try simp only[aM,R,simprocAttr])
  all_goals clear R
  exact fT rfl kZ (fun n x h=>fg h) (jA (ru hk12 hg))
 ·have hl:=lR (B:=1000000) hi
  have hr:=kY (B:=1000000) hi
  obtain ⟨nl,hnl⟩:∃ nl,nl=1000000+2+2*i:=⟨_,rfl⟩
  obtain ⟨nr,hnr⟩:∃ nr,nr=1000000+3+2*i:=⟨_,rfl⟩
  rw[←hnl] at hl hlk
  rw[←hnr] at hl hr
  have e1:(nl=3)=False:=by simp;omega
  have e2:(nr=3)=False:=by simp;omega
  have e3:(3=nl)=False:=by simp;omega
  have e4:(nr=nl)=False:=by simp;omega
  have e5:(nl=nr)=False:=by simp;omega
  have e6:(3=nr)=False:=by simp;omega
  have hle:=hlen _ (List.getElem_mem hi)
  have happ:=fun (A:af) d rest=>oy (α:=bL 6 Int) (A:=A) (d:=d) 66 6 48 nr (l:=(bs[i]).cd.length) (es:=(bs[i]).cd) (ys:=[x.cd]) (rest:=rest) rfl rfl (by simp) (by simp[maxLen];omega) (by simp;omega)
  have hbs:=ni 6 x.cd rfl
  have R:=And.intro @n3 (And.intro @h0 (And.intro @h1 (And.intro @hl (And.intro @hr (And.intro @e1 (And.intro @e2 (And.intro @e3 (And.intro @e4 (And.intro @e5 (And.intro @e6 (And.intro @hlk (And.intro @happ (And.intro @hbs (And.intro @lP (And.intro @eK (And.intro @gF (And.intro @ew (And.intro @aP @ab))))))))))))))))))
  repeat' ((first
   |(with_reducible refine .guard (fun hb =>?_) (fun hb =>?_) <;>try simp only[hb])
   |refine U.aL (by decide +kernel) rfl fun K hK =>?_
   |(refine U.tl (gs:=vN) [] [] [0,1,2,3,4,5,6,7,8,9,10,11,12,13] (by decide +kernel) (eW.of (by simp[oS])) fun K hK =>?_;simp only[pn,vN,List.getD_cons_zero,List.getD_cons_succ,R,simprocAttr])
   |(refine .aF [0,1,3,4,5,14] hK ?_;clear hK K)
   |(with_reducible refine .done (hK _ ?_);clear hK K)
   |refine U.of rfl ?_
   |(with_reducible refine ao.aK (fun h =>?_) (fun h =>?_) <;>try simp only[h])) <;>try simp only[aM,R,simprocAttr])
  all_goals clear R
  refine fT rfl (fun n h =>?_) (fun n x h=>fg h) (sq hd hk12 hi hg (b := { bs[i] with cd:=(bs[i]).cd++[x.cd] }) (by simp[lE,hk]) rfl)
  rw[←afH hi (b := { bs[i] with cd:=(bs[i]).cd++[x.cd] }) rfl (z:=.box (enc x)) hnl hnr n h]
  rfl
def gq(B d:Nat)(bs:List aY)(b:aY):List (Nat×ai):=(B+1,.ct (dh (bs++[b])) (ea B bs.length++[.ptr d []]))::(d,.box (ef b (.nils 6)))::cm B bs
theorem sn{B d:Nat}{bs:List aY}{x:ak}(hk:x.kind=1∨x.kind=2)(hg:dD bs x.eF=none)(hdam:ic bs x=true):iE B d bs x (.bool true) (gq B d bs (fJ x)):=by
 have:eE ft bs x=some (bs++[fJ x]):=by simp only[eE,if_pos hk,hg,hdam,ft,and_self,if_true]
 simp only[iE,this,if_pos hk,gq,and_self]
def HZ(B d:Nat)(bs:List aY)(x:ak):cR:=fun r os' =>
 (dD bs x.eF≠none∧r=.bool false∧os'=cm B bs)∨(dD bs x.eF=none∧r=.bool true∧os'=gq B d bs (fJ x))
theorem O9(a b c d e f g:Int):(eB [.int .i64 0,.int .i64 0,.int .i64 0,.int .i64 0,.int .i64 0,.int .i64 0,.int .i64 0,.bool false,.nils 6] [(0,.int .i64 a),(1,.int .i64 b),(2,.int .i64 c),(3,.int .i64 d),(4,.int .i64 e),(5,.int .i64 f),(6,.int .i64 g)]).map I.agg=some (I.agg [.int .i64 a,.int .i64 b,.int .i64 c,.int .i64 d,.int .i64 e,.int .i64 f,.int .i64 g,.bool false,.nils 6]):=by
 simp[eB,I.cq,I.size]
theorem Pa(a b c d e f g:Int):(eB [.agg [.int .i64 0,.int .i64 0,.int .i64 0,.int .i64 0,.int .i64 0,.int .i64 0,.int .i64 0,.bool false,.nils 6]] [(0,.agg [.int .i64 a,.int .i64 b,.int .i64 c,.int .i64 d,.int .i64 e,.int .i64 f,.int .i64 g,.bool false,.nils 6])]).map I.agg=some (ef ⟨a,b,c,d,e,f,g,false,[]⟩ (.nils 6)):=by
 simp[eB,I.cq,I.size,I.sizes];rfl
theorem afY(b:aY)(s:I):(ef b s).cq=true:=rfl
theorem agT(B d:Nat)(bs:List aY)(x:ak)(hg:dD bs x.eF=none):fQ (.i .i64) (.int .i64 x.eF) (.ptr d []) (dh bs) (ea B bs.length)=some (dh (bs++[fJ x]),ea B bs.length++[.ptr d []]):=by
 have h2:=IH u9 x.eF (.ptr d []) rfl (bs.map (·.no)) (ea B bs.length)
 rw[jN] at h2
 unfold dh
 rw[h2]
 have h1:=wh (bs:=bs) (no:=x.eF)
 cases h:(bs.map (·.no)).findIdx? fun y=>decide (x.eF=y) with
 |none=>simp only[List.map_append,List.map_cons,List.map_nil];rfl
 |some i=>rw[h] at h1;obtain ⟨hi,g,_⟩:=h1;rw[hg] at g;cases g
theorem mL{B d:Nat}{bs:List aY}{b:aY}{n:Nat} : au (gq B d bs b) n=(decide (n=d)||au (cm B bs) n):=by
 by_cases h1:n=B+1
 ·subst h1
  have:au (cm B bs) (B+1)=true:=by simp[au,kp]
  rw[this];simp[gq,au,al]
 ·by_cases h2:n=d
  ·subst h2;simp[gq,au,al,h1]
  ·simp[gq,au,al,h1,h2]
theorem mM{B d:Nat}{bs:List aY}{b:aY}{n:Nat}{x:ai}(h:al (gq B d bs b) n=some x):x.only (au (gq B d bs b))=true∧x.eC=true:=by
 have cJ:∀ m,au (cm B bs) m=true→au (gq B d bs b) m=true:=fun m hm=>by rw[mL,hm,Bool.or_true]
 simp only[gq,al] at h
 split at h
 ·cases h
  refine ⟨?_,rfl⟩
  simp only[ai.only,Bool.and_eq_true,jF]
  refine ⟨ev _ _,xD _ fun i hi=>cJ _ (by rw[mN];simp;omega),?_⟩
  simp[I.bU,I.only,mL]
 ·split at h
  ·cases h
   exact ⟨by simp[ai.only,I.only,I.bU,ef],rfl⟩
  ·obtain ⟨k1,k2⟩:=fg h
   exact ⟨ai.iN cJ _ k1,k2⟩
theorem qX(bs:List aY)(x:ak):cA Tryz.prog 173 [.ptr 1000000 [],enc x] (cm 1000000 bs) (HZ 1000000 33 bs x):=by
 refine cA.bn Tryz.func173 Qa R7 Uj (Nat.le_of_ble_eq_true rfl) (Nat.le_of_ble_eq_true rfl) kq (fun hwf W0 D0 E1 =>?_)
 simp only[Ap,Kk,bg,Nat.zero_add]
 clear hwf
 have n3:al (cm 1000000 bs) 3=none:=jS (by omega)
 have n33:al (cm 1000000 bs) 33=none:=jS (by omega)
 have h0:al (cm 1000000 bs) 1000000=some (.box (.agg [.mref 1000001])):=jR
 have h1:al (cm 1000000 bs) 1000001=some (.ct (dh bs) (ea 1000000 bs.length)):=kp
 rcases oV 1000000 bs x.eF with ⟨hg,hlk⟩ | ⟨i,hi,hg,hno,hlk⟩
 ·have hup:=agT 1000000 33 bs x hg
  have R:=And.intro @n3 (And.intro @n33 (And.intro @h0 (And.intro @h1 (And.intro @hlk (And.intro @hup (And.intro @O9 (And.intro @Pa (And.intro @afY (And.intro @eK (And.intro @gF (And.intro @ew (And.intro @aP @ab))))))))))))
  repeat' ((first
   |(with_reducible refine .guard (fun hb =>?_) (fun hb =>?_) <;>try simp only[hb])
   |refine U.aL (by decide +kernel) rfl fun K hK =>?_
   |(refine .aF [0,1,3,4,12] hK ?_;clear hK K)
   |(with_reducible refine .done (hK _ ?_);clear hK K)
   |refine U.of rfl ?_
   |(with_reducible refine ao.aK (fun h =>?_) (fun h =>?_) <;>try simp only[h])) <;>try simp only[aM,R,simprocAttr])
  all_goals clear R
  refine fT (os':=gq 1000000 33 bs (fJ x)) (b:=true) rfl (fun n h =>?_) (fun n x h=>mM h) (Or.inr ⟨hg,rfl,rfl⟩)
  rw[mL] at h
  simp only[gq,al]
  by_cases e:n=33
  ·subst e;simp;rfl
  ·have:=kq n (by simpa[e] using h)
   rw[if_neg (show ¬ n=33 by omega),if_neg (show ¬ n=3 by omega),if_neg (show ¬ n=33 by omega)]
 ·have R:=And.intro @n3 (And.intro @h0 (And.intro @h1 (And.intro @hlk (And.intro @eK (And.intro @gF (And.intro @ew (And.intro @aP @ab)))))))
  repeat' ((first
   |(with_reducible refine .guard (fun hb =>?_) (fun hb =>?_) <;>try simp only[hb])
   |refine U.aL (by decide +kernel) rfl fun K hK =>?_
   |(refine .aF [0,1,3,4,12] hK ?_;clear hK K)
   |(with_reducible refine .done (hK _ ?_);clear hK K)
   |refine U.of rfl ?_
   |(with_reducible refine ao.aK (fun h =>?_) (fun h =>?_) <;>try simp only[h])) <;>try simp only[aM,R,simprocAttr])
  all_goals clear R
  exact fT (b:=false) rfl kZ (fun n x h=>fg h) (Or.inl ⟨by rw[hg];simp,rfl,rfl⟩)
theorem a6.wA{K:af→Prop}{f:FuncId}{x:ak}{avs:List I}{a1 a2:Option (List I)}{dst:Option Nat}{rest:List aB}{ts:List (Nat×I)}{z:ai}{bs:List aY}(hc:cA Tryz.prog f [.ptr 1000000 [],enc x] (cm 1000000 bs) (HZ 1000000 33 bs x))(hav:avs=[.ptr 1000000 [],enc x])
  (h1:dD bs x.eF≠none→a6 Tryz.prog il false K (aC rest ((av ts (cm 1000000 bs++((3,z)::cm 1000000 bs))).aO dst (.bool false))))
  (h2:dD bs x.eF=none→a6 Tryz.prog il false K (aC rest ((av ts (gq 1000000 33 bs (fJ x)++((3,z)::cm 1000000 bs))).aO dst (.bool true)))) :
  a6 Tryz.prog il false K (.call f avs a1 a2 dst rest (av ts ((3,z)::cm 1000000 bs))):=by
 subst hav
 refine .bQ false [] (cm 1000000 bs) [.ptr 1000000 [],enc x] _ rfl hc ⟨fun m y hy =>?_,fun m m' _ _ h=>h⟩ ⟨.inl ⟨?_,?_,rfl⟩,.inl ⟨(gL _ _).symm,bG _ _,dz _⟩,trivial⟩ ?_ ?_
 ·have hm:=kq (bs:=bs) m (by simp[au,hy])
  rw[ai.lx (ρ:=bF []) (fun n=>rfl)]
  refine ⟨?_,fg hy⟩
  show al ((3,z)::cm 1000000 bs) m=some y
  have h3:¬ m=3:=by omega
  simp only[al,if_neg h3];exact hy
 ·simp only[I.aS,bF]
 ·simp only[I.only];simp[au,jR]
 ·rintro r os' (⟨_,rfl,rfl⟩ | ⟨_,rfl,rfl⟩)
  ·exact ⟨fun m y hy=>⟨(fg hy).1,(fg hy).2,fun h=>by cases h⟩,fun m m' _ _ h=>h,fun m hm=>hm,(fun m a b=>by rw[a] at b;cases b),rfl,(fun h=>by cases h)⟩
  ·refine ⟨fun m y hy=>⟨(mM hy).1,(mM hy).2,fun h=>by cases h⟩,fun m m' _ _ h=>h,fun m hm=>by rw[mL,hm,Bool.or_true],fun m a b =>?_,rfl,fun h=>by cases h⟩
   rw[mL,b,Bool.or_false,decide_eq_true_eq] at a
   subst a
   have h3:¬ (33:Nat)=3:=by omega
   refine ⟨?_,by simp[bF]⟩
   show al ((3,z)::cm 1000000 bs) 33=none
   simp only[al,if_neg h3];exact jS (by omega)
 ·rintro r os' (⟨hg,rfl,rfl⟩ | ⟨hg,rfl,rfl⟩)
  ·rw[tm];exact h1 hg
  ·rw[tm];exact h2 hg
theorem oz{os os0:List (Nat×ai)} : ∀ n,au os n=true→al (os++os0) n=al os n:=fun n h=>by
 rw[jU]
 cases hx:al os n with
 |none=>simp[au,hx] at h
 |some y=>rfl
theorem Nb(bs:List aY)(x:ak)(hk:x.kind=1):cA Tryz.prog 172 [.ptr 1000000 [],enc x] (cm 1000000 bs) (iE 1000000 33 bs x):=by
 refine cA.bn Tryz.func172 P9 R6 Ui (Nat.le_of_ble_eq_true rfl) (Nat.le_of_ble_eq_true rfl) kq (fun hwf W0 D0 E1 =>?_)
 simp only[Ao,Kj,bg,Nat.zero_add]
 clear hwf
 have n3:al (cm 1000000 bs) 3=none:=jS (by omega)
 have h0:al (cm 1000000 bs) 1000000=some (.box (.agg [.mref 1000001])):=jR
 have h1:al (cm 1000000 bs) 1000001=some (.ct (dh bs) (ea 1000000 bs.length)):=kp
 by_cases hd0:x.fb≤0
 ·have hc:decide (0<x.fb)=false:=by simp;omega
  have hdam:ic bs x=true:=by simp[ic,hd0]
  have R:=And.intro @n3 (And.intro @h0 (And.intro @h1 (And.intro @hc (And.intro @eK (And.intro @gF (And.intro @ew (And.intro @aP @ab)))))))
  repeat' ((first
   |(with_reducible refine .guard (fun hb =>?_) (fun hb =>?_) <;>try simp only[hb])
   |refine U.aL (by decide +kernel) rfl fun K hK =>?_
   |(refine .aF [0,1,3,4,5,8,41] hK ?_;clear hK K)
   |(with_reducible refine .done (hK _ ?_);clear hK K)
   |refine U.of rfl ?_
   |(with_reducible refine ao.aK (fun h =>?_) (fun h =>?_) <;>try simp only[h])) <;>try simp only[aM,R,simprocAttr])
  all_goals clear R
  refine a6.wA (qX bs x) rfl (fun hg =>?_) (fun hg =>?_)
  ·try simp only[ab,simprocAttr]
   refine .done (hK _ ?_);clear hK K
   refine U.ret ?_
   simp only[eL]
   exact fT (b:=false) rfl oz (fun n x h=>fg h) (jA (by simp[eE,hk,hg]))
  ·try simp only[ab,simprocAttr]
   refine .done (hK _ ?_);clear hK K
   refine U.ret ?_
   simp only[eL]
   exact fT (b:=true) rfl oz (fun n x h=>mM h) (sn (.inl hk) hg hdam)
 have hc:decide (0<x.fb)=true:=by simp;omega
 rcases oV 1000000 bs x.fb with ⟨hg,hlk⟩ | ⟨i,hi,hg,hno,hlk⟩
 ·have hdam:ic bs x=false:=by simp[ic,hg];omega
  have R:=And.intro @n3 (And.intro @h0 (And.intro @h1 (And.intro @hc (And.intro @hlk (And.intro @eK (And.intro @gF (And.intro @ew (And.intro @aP @ab))))))))
  repeat' ((first
   |(with_reducible refine .guard (fun hb =>?_) (fun hb =>?_) <;>try simp only[hb])
   |refine U.aL (by decide +kernel) rfl fun K hK =>?_
   |(refine .aF [0,1,3,4,5,8,41] hK ?_;clear hK K)
   |(with_reducible refine .done (hK _ ?_);clear hK K)
   |refine U.of rfl ?_
   |(with_reducible refine ao.aK (fun h =>?_) (fun h =>?_) <;>try simp only[h])) <;>try simp only[aM,R,simprocAttr])
  all_goals clear R
  exact fT (b:=false) rfl kZ (fun n x h=>fg h) (jA (by simp[eE,hk,hdam]))
 ·have hl:=lR (B:=1000000) hi
  have hr:=kY (B:=1000000) hi
  obtain ⟨nl,hnl⟩:∃ nl,nl=1000000+2+2*i:=⟨_,rfl⟩
  obtain ⟨nr,hnr⟩:∃ nr,nr=1000000+3+2*i:=⟨_,rfl⟩
  rw[←hnl] at hl hlk
  rw[←hnr] at hl hr
  have e1:(nl=3)=False:=by simp;omega
  have e2:(nr=3)=False:=by simp;omega
  cases hs:(bs[i]).fj != x.fj with
  |true =>
   have hdam:ic bs x=false:=by simp at hs;simp[ic,hg,hs];omega
   have R:=And.intro @n3 (And.intro @h0 (And.intro @h1 (And.intro @hl (And.intro @hr (And.intro @e1 (And.intro @e2 (And.intro @hc (And.intro @hlk (And.intro @hs (And.intro @lP (And.intro @eK (And.intro @gF (And.intro @ew (And.intro @aP @ab))))))))))))))
   repeat' ((first
    |(with_reducible refine .guard (fun hb =>?_) (fun hb =>?_) <;>try simp only[hb])
    |refine U.aL (by decide +kernel) rfl fun K hK =>?_
    |refine .flat _ (iY _) rfl ?_
    |(refine .aF [0,1,3,4,5,8,41] hK ?_;clear hK K)
    |(with_reducible refine .done (hK _ ?_);clear hK K)
    |refine U.of rfl ?_
    |(with_reducible refine ao.aK (fun h =>?_) (fun h =>?_) <;>try simp only[h])) <;>try simp only[aM,R,simprocAttr])
   all_goals clear R
   exact fT (b:=false) rfl kZ (fun n x h=>fg h) (jA (by simp[eE,hk,hdam]))
  |false =>
   cases hdd:decide (0≤(bs[i]).fc) with
   |false =>
    have hdam:ic bs x=true:=by simp at hs hdd;simp[ic,hg,hs];omega
    have R:=And.intro @n3 (And.intro @h0 (And.intro @h1 (And.intro @hl (And.intro @hr (And.intro @e1 (And.intro @e2 (And.intro @hc (And.intro @hlk (And.intro @hs (And.intro @hdd (And.intro @lP (And.intro @eK (And.intro @gF (And.intro @ew (And.intro @aP @ab)))))))))))))))
    repeat' ((first
     |(with_reducible refine .guard (fun hb =>?_) (fun hb =>?_) <;>try simp only[hb])
     |refine U.aL (by decide +kernel) rfl fun K hK =>?_
     |refine .flat _ (iY _) rfl ?_
     |(refine .aF [0,1,3,4,5,8,41] hK ?_;clear hK K)
     |(with_reducible refine .done (hK _ ?_);clear hK K)
     |refine U.of rfl ?_
     |(with_reducible refine ao.aK (fun h =>?_) (fun h =>?_) <;>try simp only[h])) <;>try simp only[aM,R,simprocAttr])
    all_goals clear R
    refine a6.wA (qX bs x) rfl (fun hg =>?_) (fun hg =>?_)
    ·try simp only[ab,simprocAttr]
     refine .done (hK _ ?_);clear hK K
     refine U.ret ?_
     simp only[eL]
     exact fT (b:=false) rfl oz (fun n x h=>fg h) (jA (by simp[eE,hk,hg]))
    ·try simp only[ab,simprocAttr]
     refine .done (hK _ ?_);clear hK K
     refine U.ret ?_
     simp only[eL]
     exact fT (b:=true) rfl oz (fun n x h=>mM h) (sn (.inl hk) hg hdam)
   |true =>
    cases hdy:decide ((bs[i]).fc<x.day) with
    |true =>
     have hdam:ic bs x=false:=by simp at hs hdd hdy;simp[ic,hg,hs];omega
     have R:=And.intro @n3 (And.intro @h0 (And.intro @h1 (And.intro @hl (And.intro @hr (And.intro @e1 (And.intro @e2 (And.intro @hc (And.intro @hlk (And.intro @hs (And.intro @hdd (And.intro @hdy (And.intro @lP (And.intro @eK (And.intro @gF (And.intro @ew (And.intro @aP @ab))))))))))))))))
     repeat' ((first
      |(with_reducible refine .guard (fun hb =>?_) (fun hb =>?_) <;>try simp only[hb])
      |refine U.aL (by decide +kernel) rfl fun K hK =>?_
      |refine .flat _ (iY _) rfl ?_
      |(refine .aF [0,1,3,4,5,8,41] hK ?_;clear hK K)
      |(with_reducible refine .done (hK _ ?_);clear hK K)
      |refine U.of rfl ?_
      |(with_reducible refine ao.aK (fun h =>?_) (fun h =>?_) <;>try simp only[h])) <;>try simp only[aM,R,simprocAttr])
     all_goals clear R
     exact fT (b:=false) rfl kZ (fun n x h=>fg h) (jA (by simp[eE,hk,hdam]))
    |false =>
     have hdam:ic bs x=true:=by simp at hs hdd hdy;simp[ic,hg,hs];omega
     have R:=And.intro @n3 (And.intro @h0 (And.intro @h1 (And.intro @hl (And.intro @hr (And.intro @e1 (And.intro @e2 (And.intro @hc (And.intro @hlk (And.intro @hs (And.intro @hdd (And.intro @hdy (And.intro @lP (And.intro @eK (And.intro @gF (And.intro @ew (And.intro @aP @ab))))))))))))))))
     repeat' ((first
      |(with_reducible refine .guard (fun hb =>?_) (fun hb =>?_) <;>try simp only[hb])
      |refine U.aL (by decide +kernel) rfl fun K hK =>?_
      |refine .flat _ (iY _) rfl ?_
      |(refine .aF [0,1,3,4,5,8,41] hK ?_;clear hK K)
      |(with_reducible refine .done (hK _ ?_);clear hK K)
      |refine U.of rfl ?_
      |(with_reducible refine ao.aK (fun h =>?_) (fun h =>?_) <;>try simp only[h])) <;>try simp only[aM,R,simprocAttr])
     all_goals clear R
     refine a6.wA (qX bs x) rfl (fun hg =>?_) (fun hg =>?_)
     ·try simp only[ab,simprocAttr]
      refine .done (hK _ ?_);clear hK K
      refine U.ret ?_
      simp only[eL]
      exact fT (b:=false) rfl oz (fun n x h=>fg h) (jA (by simp[eE,hk,hg]))
     ·try simp only[ab,simprocAttr]
      refine .done (hK _ ?_);clear hK K
      refine U.ret ?_
      simp only[eL]
      exact fT (b:=true) rfl oz (fun n x h=>mM h) (sn (.inl hk) hg hdam)
def kg:I:=.cS [.int .i64 1,.int .i64 2,.int .i64 3,.int .i64 4,.int .i64 5,.int .i64 6] [.func 172 [],.func 173 [],.func 174 [],.func 175 [],.func 176 [],.func 177 []]
theorem agM:fQ (.i .i64) (.int .i64 1) (.func 172 []) [] []=some ([.int .i64 1],[.func 172 []]):=by simp[fQ,eP,cj,I.cq]
theorem agN:fQ (.i .i64) (.int .i64 2) (.func 173 []) [.int .i64 1] [.func 172 []]=some ([.int .i64 1,.int .i64 2],[.func 172 [],.func 173 []]):=by simp[fQ,eP,cj,I.cq]
theorem agO:fQ (.i .i64) (.int .i64 3) (.func 174 []) [.int .i64 1,.int .i64 2] [.func 172 [],.func 173 []]=some ([.int .i64 1,.int .i64 2,.int .i64 3],[.func 172 [],.func 173 [],.func 174 []]):=by simp[fQ,eP,cj,I.cq]
theorem agP:fQ (.i .i64) (.int .i64 4) (.func 175 []) [.int .i64 1,.int .i64 2,.int .i64 3] [.func 172 [],.func 173 [],.func 174 []]=some ([.int .i64 1,.int .i64 2,.int .i64 3,.int .i64 4],[.func 172 [],.func 173 [],.func 174 [],.func 175 []]):=by simp[fQ,eP,cj,I.cq]
theorem agQ:fQ (.i .i64) (.int .i64 5) (.func 176 []) [.int .i64 1,.int .i64 2,.int .i64 3,.int .i64 4] [.func 172 [],.func 173 [],.func 174 [],.func 175 []]=some ([.int .i64 1,.int .i64 2,.int .i64 3,.int .i64 4,.int .i64 5],[.func 172 [],.func 173 [],.func 174 [],.func 175 [],.func 176 []]):=by simp[fQ,eP,cj,I.cq]
theorem agR:fQ (.i .i64) (.int .i64 6) (.func 177 []) [.int .i64 1,.int .i64 2,.int .i64 3,.int .i64 4,.int .i64 5] [.func 172 [],.func 173 [],.func 174 [],.func 175 [],.func 176 []]=some ([.int .i64 1,.int .i64 2,.int .i64 3,.int .i64 4,.int .i64 5,.int .i64 6],[.func 172 [],.func 173 [],.func 174 [],.func 175 [],.func 176 [],.func 177 []]):=by simp[fQ,eP,cj,I.cq]
theorem yE:az Tryz.prog 139 [] kg:=by
 refine az.bn Tryz.func139 PL RI TS (Nat.le_of_ble_eq_true rfl) (fun hwf W0 D0 E1 =>?_)
 simp only[zU,JV,bg]
 refine .ar (by decide +kernel) fun K hK =>?_
 simp only[DQ,ab,simprocAttr]
 refine .done (hK _ ?_);clear hK K
 refine .ar (by decide +kernel) fun K hK =>?_
 simp only[DR,ab,simprocAttr]
 try simp only[ew,agM,agN,agO,agP,agQ,agR,ab,simprocAttr]
 refine .done (hK _ ?_);clear hK K
 refine U.ret ?_
 simp only[ab,simprocAttr]
 simp[kg,bp,av,cI,dU,fE,I.bV,I.bu,kP,m3];rfl
def dS(bs:List aY):List (Nat×ai):=(43,.box (.agg [.mref 41]))::(41,.ct (dh bs) (ea 2000 bs.length))::eJ 2000 0 bs
def mK(bs:List aY)(b:aY):List (Nat×ai):=(41,.ct (dh (bs++[b])) (ea 2000 bs.length++[.ptr (2002+2*bs.length) []]))::(2002+2*bs.length,.box (ef b (.nils 6)))::dS bs
def gf(n:Nat):List (Nat×Nat):=(33,2002+2*n)::(1000000,43)::(1000001,41)::(List.range' 0 200).map fun j=>(1000002+j,2002+j)
theorem LC(m:Nat):∀ k a,bF ((List.range' a k).map fun j=>(1000002+j,2002+j)) m=if 1000002+a≤m∧m<1000002+a+k then m-998000 else m
 |0,a=>by
  rw[if_neg (by omega)];rfl
 |k+1,a=>by
  rw[List.range'_succ,List.map_cons,bF,LC m k (a+1)]
  by_cases h:m=1000002+a
  ·rw[if_pos h,if_pos (by omega)];omega
  ·rw[if_neg h]
   by_cases h2:1000002+(a+1)≤m∧m<1000002+(a+1)+k
   ·rw[if_pos h2,if_pos (by omega)]
   ·rw[if_neg h2,if_neg (by omega)]
theorem lz(n m:Nat):bF (gf n) m=if m=33 then 2002+2*n else if m=1000000 then 43 else if m=1000001 then 41 else if 1000002≤m∧m<1000202 then m-998000 else m:=by
 simp only[gf,bF,LC]
theorem LB{n i:Nat}(h:i≤80):bF (gf n) (1000000+2+2*i)=2000+2+2*i:=by
 rw[lz,if_neg (by omega),if_neg (by omega),if_neg (by omega),if_pos (by omega)];omega
theorem ai0{n i:Nat}(h:i≤80):bF (gf n) (1000000+3+2*i)=2000+3+2*i:=by
 rw[lz,if_neg (by omega),if_neg (by omega),if_neg (by omega),if_pos (by omega)];omega
theorem Ly(n:Nat):bF (gf n) 1000000=43:=by rw[lz];rfl
theorem Lz(n:Nat):bF (gf n) 1000001=41:=by rw[lz];rfl
theorem LA(n:Nat):bF (gf n) 33=2002+2*n:=by rw[lz];rfl
theorem xU(ρ:List (Nat×Nat))(k:Nat)(v:ai)(os:List (Nat×ai)):dF ρ ((k,v)::os)=(bF ρ k,v.aS (bF ρ))::dF ρ os:=rfl
theorem Ls(n:Nat):∀ (bs:List aY) (i:Nat),i+bs.length≤80→dF (gf n) (eJ 1000000 i bs)=eJ 2000 i bs
 | [],_,_=>rfl
 |b::bs,i,h=>by
  simp only[List.length_cons] at h
  have ih:=Ls n bs (i+1) (by omega)
  simp only[eJ,xU,ih,LB (n:=n) (i:=i) (by omega),ai0 (n:=n) (i:=i) (by omega),ai.aS,fS,ef,I.aS,I.cW]
theorem Lu(n:Nat){k:Nat}(h:k≤80):I.cW (bF (gf n)) (ea 1000000 k)=ea 2000 k:=by
 simp only[ea,nP,List.map_map]
 refine List.map_congr_left fun i hi =>?_
 have:=List.mem_range.1 hi
 simp only[Function.comp,I.aS,LB (n:=n) (i:=i) (by omega)]
theorem Lt(ρ:Nat→Nat)(bs:List aY):I.cW ρ (dh bs)=dh bs:=by
 simp only[dh,fS]
theorem tn(n:Nat){bs:List aY}(h:bs.length≤80):dF (gf n) (cm 1000000 bs)=dS bs:=by
 have h1:=Ls n bs 0 (by omega)
 simp only[cm,dS,xU,h1,ai.aS,I.aS,I.cW,Lt,Lu n h,Ly,Lz,Nat.reduceAdd]
theorem aiO(ρ:Nat→Nat)(xs ys:List I):I.cW ρ (xs++ys)=I.cW ρ xs++I.cW ρ ys:=by simp only[nP,List.map_append]
theorem aiM{bs:List aY}{b:aY}(h:bs.length≤80):dF (gf bs.length) (gq 1000000 33 bs b)=mK bs b:=by
 have h1:=tn bs.length h
 simp only[gq,mK,xU,h1,ai.aS,I.aS,I.cW,Lt,aiO,Lu bs.length h,Lz,LA,ef,Nat.reduceAdd]
def sO(n m:Nat):Prop:=m=33∨(1000000≤m∧m<1000002+2*n)
theorem tt{n k m m':Nat}(hk:k≤80)(hm:1000000≤m∧m<1000002+2*k)(hm':1000000≤m'∧m'<1000002+2*k)(h:bF (gf n) m=bF (gf n) m'):m=m':=by
 rw[lz,lz] at h
 rw[if_neg (by omega),if_neg (show ¬ m'=33 by omega)] at h
 (repeat' split at h) <;>omega
theorem aiZ{n m m':Nat}(hk:n≤80)(hm:sO n m)(hm':sO n m')(h:bF (gf n) m=bF (gf n) m'):m=m':=by
 simp only[sO] at hm hm'
 rw[lz,lz] at h
 (repeat' split at h) <;>omega
theorem agx{ρ:List (Nat×Nat)}{os:List (Nat×ai)}{m:Nat}{y:ai}(inj:∀ m',au os m'=true→bF ρ m'=bF ρ m→m'=m)(h:al os m=some y):al (dF ρ os) (bF ρ m)=some (y.aS (bF ρ)):=by
 have h1:=qn ρ os [] (bF ρ m)
 rw[List.append_nil] at h1
 rw[h1]
 cases hp:pre ρ os (bF ρ m) with
 |none=>exact absurd rfl (xK hp (by simp[au,h]))
 |some m' =>
  obtain ⟨k1,k2⟩:=lv hp
  have:=inj m' k1 k2
  subst this
  simp only[h,Option.map_some]
theorem wB{bs:List aY}{n:Nat} : au (dS bs) n=decide (n=43∨n=41∨(2002≤n∧n<2002+2*bs.length)):=by
 have h2:au (eJ 2000 0 bs) n=decide (2002≤n∧n<2002+2*bs.length):=by
  by_cases h1:n<2002
  ·simp only[au,sy 2000 bs 0 n (by omega)];simp;omega
  by_cases h3:2002+2*bs.length≤n
  ·simp only[au,sw 2000 bs 0 n (by omega)];simp;omega
  ·rcases sN 2000 n bs.length with h | h | h | ⟨k,hk,h⟩ | ⟨k,hk,h⟩ | h
   ·omega
   ·omega
   ·omega
   ·have:=sx 2000 bs 0 k hk
    rw[Nat.zero_add] at this
    rw[h];simp only[au,this];simp;omega
   ·have:=sA 2000 bs 0 k hk
    rw[Nat.zero_add] at this
    rw[h];simp only[au,this];simp;omega
   ·omega
 simp only[au,dS,al] at h2 ⊢
 by_cases h3:n=43
 ·simp[h3]
 by_cases h4:n=41
 ·simp[h4]
 simp only[h3,h4,if_false,h2,false_or]
theorem cA.post{P:Program}{f:FuncId}{args:List I}{os:List (Nat×ai)}{post post':cR}(h:cA P f args os post)(hp:∀ r os',post r os'→post' r os'):cA P f args os post' :=
 ⟨h.1,fun w D E vs hs hD ho hv=>(h.2 w D E vs hs hD ho hv).mono fun _ _ ⟨v,D',E',r,os',k1,k2,k⟩=>⟨v,D',E',r,os',k1,hp _ _ k2,k⟩⟩
def mG:List I:=[.int .i64 1,.int .i64 2,.int .i64 3,.int .i64 4,.int .i64 5,.int .i64 6]
def mH:List I:=[.func 172 [],.func 173 [],.func 174 [],.func 175 [],.func 176 [],.func 177 []]
theorem af3{x:ak}(h:gB x=true):0≤x.kind∧x.kind≤6∧(x.kind=2→x.fb=0):=by
 simp only[gB,Bool.and_eq_true,decide_eq_true_eq] at h
 obtain ⟨h1,h2,_⟩:=h
 have h3:x.kind=2→x.fb=0:=fun hk=>by rw[h2];simp[nh,hk]
 simp only[kj] at h1
 refine ⟨?_,?_,h3⟩
 all_goals
  split at h1
  ·omega
  ·simp only[Bool.and_eq_true] at h1
   obtain ⟨-,h1⟩:=h1
   repeat' split at h1
   all_goals first | omega | (simp only[decide_eq_true_eq] at h1;omega)
theorem uR{bs:List aY}{x:ak}(hok:gB x=true)(hk0:x.kind≠0)(hd:(bs.map (·.no)).Nodup)(hlen:∀ b∈bs,b.cd.length≤1000) :
  ∃ f,fX (.i .i64) .de (.int .i64 x.kind) mG mH=some (.func f [],true)∧[172,173,174,175,176,177].contains f=true∧cA Tryz.prog f [.ptr 1000000 [],enc x] (cm 1000000 bs) (iE 1000000 33 bs x):=by
 obtain ⟨h1,h2,h3⟩:=af3 hok
 have h4:x.kind=1∨x.kind=2∨x.kind=3∨x.kind=4∨x.kind=5∨x.kind=6:=by omega
 rcases h4 with h | h | h | h | h | h
 ·exact ⟨172,by rw[h];simp[fX,eP,cj,mG,mH],rfl,Nb bs x h⟩
 ·refine ⟨173,by rw[h];simp[fX,eP,cj,mG,mH],rfl,cA.post (qX bs x) ?_⟩
  have hdam:ic bs x=true:=by simp[ic,h3 h]
  rintro r os' (⟨k1,rfl,rfl⟩ | ⟨k1,rfl,rfl⟩)
  ·exact jA (by simp[eE,h,k1])
  ·exact sn (.inr h) k1 hdam
 ·exact ⟨174,by rw[h];simp[fX,eP,cj,mG,mH],rfl,Nc bs x 33 h hd⟩
 ·exact ⟨175,by rw[h];simp[fX,eP,cj,mG,mH],rfl,Nd bs x 33 h hd hlen⟩
 ·exact ⟨176,by rw[h];simp[fX,eP,cj,mG,mH],rfl,Nf bs x 33 h hd⟩
 ·exact ⟨177,by rw[h];simp[fX,eP,cj,mG,mH],rfl,Ng bs x 33 h hd⟩
theorem ui{bs bs':List aY}{x:ak}(hk:¬ (x.kind=1∨x.kind=2))(h:eE ft bs x=some bs'):bs'.length=bs.length:=by
 simp only[eE,if_neg hk] at h
 split at h
 ·cases h
 ·simp only[Option.map_eq_some_iff] at h
  obtain ⟨b',_,rfl⟩:=h
  simp[mi]
theorem cC.uR{hs:List FuncId}{K:af→Prop}{f:FuncId}{x:ak}{avs:List I}{a1 a2:Option (List I)}{dst:Option Nat}{rest:List aB}{ts:List (Nat×I)}{z y:ai}{bs:List aY}(hlen:bs.length≤60)(hf:hs.contains f=true)
  (hc:cA Tryz.prog f [.ptr 1000000 [],enc x] (cm 1000000 bs) (iE 1000000 33 bs x)) (hav:avs=[.ptr 43 [],enc x])
  (h1:eE ft bs x=none→cC Tryz.prog hs K (aC rest ((av ts (dS bs++((900,z)::(dS bs++[(3,y)])))).aO dst (.bool false))))
  (h2:∀ bs',eE ft bs x=some bs'→¬ (x.kind=1∨x.kind=2)→cC Tryz.prog hs K (aC rest ((av ts (dS bs'++((900,z)::(dS bs++[(3,y)])))).aO dst (.bool true))))
  (h3:eE ft bs x=some (bs++[fJ x])→cC Tryz.prog hs K (aC rest ((av ts (mK bs (fJ x)++((900,z)::(dS bs++[(3,y)])))).aO dst (.bool true)))) :
  cC Tryz.prog hs K (.call f avs a1 a2 dst rest (av ts ((900,z)::(dS bs++[(3,y)])))):=by
 subst hav
 have nm:∀ {bs:List aY} {m},au (cm 1000000 bs) m=true→1000000≤m∧m<1000002+2*bs.length:=fun {bs m} h=>by
  rw[mN] at h;simpa using h
 have hlow:∀ {bs':List aY},bs'.length≤60→∀ {m y},al (cm 1000000 bs') m=some y→al (dS bs') (bF (gf bs.length) m)=some (y.aS (bF (gf bs.length))):=fun {bs'} hl {m y} hy=>by
  rw[←tn bs.length (bs:=bs') (by omega)]
  exact agx (fun m' hm' he=>tt (by omega) (nm hm') (nm (by simp[au,hy])) he) hy
 refine .xl false (gf bs.length) (cm 1000000 bs) [.ptr 1000000 [],enc x] _ hf hc ⟨fun m y' hy =>?_,fun m m' h h' e=>tt (n:=bs.length) (by omega) (nm h) (nm h') e⟩ ⟨.inl ⟨?_,?_,rfl⟩,.inl ⟨(gL _ _).symm,bG _ _,dz _⟩,trivial⟩ ?_ ?_
 ·have hm:=nm (bs:=bs) (m:=m) (by simp[au,hy])
  refine ⟨?_,fg hy⟩
  have h9:bF (gf bs.length) m≠900:=fun e=>by
   rw[lz] at e
   (repeat' split at e) <;>omega
  simp only[al,if_neg h9,jU,hlow hlen hy]
 ·simp only[I.aS,Ly]
 ·simp only[I.only];simp[au,jR]
 ·intro r os' hp
  simp only[iE] at hp
  split at hp
  ·obtain ⟨rfl,rfl⟩:=hp
   exact ⟨fun m y hy=>⟨(fg hy).1,(fg hy).2,fun h=>by cases h⟩,fun m m' h h' e=>tt (n:=bs.length) (k:=bs.length) (by omega) (nm h) (nm h') e,fun m hm=>hm,(fun m a b=>by rw[a] at b;cases b),rfl,(fun h=>by cases h)⟩
  ·rename_i bs' hb
   obtain ⟨rfl,rfl⟩:=hp
   split
   ·rename_i hk
    have hbs:bs'=bs++[fJ x]:=by
     simp only[eE,if_pos hk] at hb
     split at hb
     ·simpa[ft] using hb.symm
     ·cases hb
    subst hbs
    have hN:∀ {m},au (gq 1000000 33 bs (fJ x)) m=true→sO bs.length m:=fun {m} h=>by
     rw[mL] at h
     simp only[Bool.or_eq_true,decide_eq_true_eq] at h
     rcases h with h | h
     ·exact .inl h
     ·exact .inr (nm h)
    refine ⟨fun m y hy=>⟨(mM hy).1,(mM hy).2,fun h=>by cases h⟩,fun m m' h h' e=>aiZ (by omega) (hN h) (hN h') e,fun m hm =>?_,fun m a b =>?_,rfl,fun h=>by cases h⟩
    ·show au (gq 1000000 33 bs (fJ x)) m=true
     rw[mL,hm,Bool.or_true]
    ·have a':au (gq 1000000 33 bs (fJ x)) m=true:=a
     rw[mL,b,Bool.or_false,decide_eq_true_eq] at a'
     subst a'
     rw[LA]
     refine ⟨?_,by omega⟩
     have h9:¬ 2002+2*bs.length=900:=by omega
     have h3:¬ 2002+2*bs.length=3:=by omega
     have hno:al (dS bs) (2002+2*bs.length)=none:=by
      have:=wB (bs:=bs) (n:=2002+2*bs.length)
      rw[decide_eq_false (by omega)] at this
      simpa[au] using this
     simp only[al,if_neg h9,jU,hno,if_neg h3]
   ·rename_i hk
    have hl:=ui hk hb
    refine ⟨fun m y hy=>⟨(fg hy).1,(fg hy).2,fun h=>by cases h⟩,fun m m' h h' e=>tt (n:=bs.length) (k:=bs'.length) (by omega) (nm h) (nm h') e,fun m hm =>?_,fun m a b =>?_,rfl,fun h=>by cases h⟩
    ·rw[mN] at hm ⊢;rw[hl];exact hm
    ·rw[mN] at a b;rw[hl] at a;rw[a] at b;cases b
 ·intro r os' hp
  simp only[iE] at hp
  split at hp
  ·rename_i hb
   obtain ⟨rfl,rfl⟩:=hp
   rw[tn bs.length (by omega)]
   exact h1 hb
  ·rename_i bs' hb
   obtain ⟨rfl,rfl⟩:=hp
   split
   ·rename_i hk
    have hbs:bs'=bs++[fJ x]:=by
     simp only[eE,if_pos hk] at hb
     split at hb
     ·simpa[ft] using hb.symm
     ·cases hb
    subst hbs
    have e:dF (gf bs.length) ((1000000+1,ai.ct (dh (bs++[fJ x])) (ea 1000000 bs.length++[.ptr 33 []]))::(33,.box (ef (fJ x) (.nils 6)))::cm 1000000 bs)=mK bs (fJ x):=aiM (by omega)
    rw[e]
    exact h3 hb
   ·rename_i hk
    have hl:=ui hk hb
    rw[tn bs.length (by omega)]
    exact h2 bs' hb hk
def uf(a b c d e f:Int):bL 6 Int:=⟨[a,b,c,d,e,f],rfl⟩
def a5(a b c d e:Int):bL 5 Int:=⟨[a,b,c,d,e],rfl⟩
theorem WB(a b c d e:Int):I.agg [.int .i64 a,.int .i64 b,.int .i64 c,.int .i64 d,.int .i64 e]=enc (a5 a b c d e):=rfl
theorem WC(a b c d e f:Int):I.agg [.int .i64 a,.int .i64 b,.int .i64 c,.int .i64 d,.int .i64 e,.int .i64 f]=enc (uf a b c d e f):=rfl
theorem yd{zs:List I}{i:Nat}{v z:I}{rest:List (Nat×I)}(h:zs[i]?=some z)(h1:v.cq=true)(h2:v.size=z.size):eB zs ((i,v)::rest)=eB (zs.set i v) rest:=by
 simp only[eB,h];rw[if_pos ⟨h1,h2⟩]
theorem WA(w:bL 5 Int)(n:Int)(l:List cz):I.agg [enc w,.int .i64 n,enc l]=enc (⟨w,n,l⟩:cH):=rfl
theorem yR(x:ak):az Tryz.prog 62 [enc x] (enc (if gB x then (0:Int) else 40)):=by
 refine az.bn Tryz.func62 QK SK UU (Nat.le_of_ble_eq_true rfl) (fun hwf W0 D0 E1 =>?_)
 simp only[A4,KW,bg]
 have R:=And.intro @aP @ab
 repeat' ((first
  |(with_reducible refine .guard (fun hb =>?_) (fun hb =>?_) <;>try simp only[hb])
  |refine U.aL (by decide +kernel) rfl fun K hK =>?_
  |refine .flat _ (tQ _) rfl ?_
  |(refine .aF [0,1,2,5] hK ?_;clear hK K)
  |(with_reducible refine .done (hK _ ?_);clear hK K)
  |refine U.of rfl ?_
  |(with_reducible refine ao.aK (fun h =>?_) (fun h =>?_) <;>try simp only[h])) <;>try simp only[aM,R,simprocAttr])
 all_goals clear R
 all_goals simp_all
theorem af4{x:ak}(h:kj x=true):b6 0 6 x.kind=true:=by
 simp only[kj] at h
 simp only[b6,Bool.and_eq_true,decide_eq_true_eq]
 repeat' split at h
 all_goals first | omega | (simp at h;omega)
def rL(x:ak):Bool:=b6 0 100000 x.known&&b6 0 100000 x.day
def pq(x:ak):Bool:=jg x.bj&&(rL x&&(b6 0 6 x.kind&&decide (x=nh x)))
theorem IX(x:ak):gB x=(pq x&&kj x):=by
 simp only[gB,pq,rL]
 cases h:kj x
 ·simp
 ·simp[af4 h,Bool.and_comm,Bool.and_left_comm,Bool.and_assoc]
theorem qY(x:ak):az Tryz.prog 63 [enc x] (enc (if gB x then (0:Int) else 40)):=by
 refine az.bn Tryz.func63 QL SL UW (Nat.le_of_ble_eq_true rfl) (fun hwf W0 D0 E1 =>?_)
 simp only[A5,KX,bg]
 clear hwf
 refine .ar (by decide +kernel) fun K hK =>?_
 simp only[Ha,ab,simprocAttr]
 try simp only[aP,ab,simprocAttr]
 refine .done (hK _ ?_);clear hK K
 refine U.seq (U.og (av [(1,.ptr 1 []),(3,.bool (rL x))] [(1,.box (enc x))]) ?_ fun B hB=>U.sub hB ?_)
 ·have R:=And.intro @aP @ab
  repeat' ((first
   |(with_reducible refine .guard (fun hb =>?_) (fun hb =>?_) <;>try simp only[hb])
   |refine U.aL (by decide +kernel) rfl fun K hK =>?_
   |refine .flat _ (mz _ _ _) rfl ?_
   |(refine .aF [0,1,2,3,4,5,6,34,37,64,68,76,77,98,102,107,113] hK ?_;clear hK K)
   |(with_reducible refine .done (hK _ ?_);clear hK K)
   |refine U.of rfl ?_
   |(with_reducible refine ao.aK (fun h =>?_) (fun h =>?_) <;>try simp only[h])) <;>try simp only[aM,R,simprocAttr])
  all_goals clear R
  all_goals
   refine aI.b9 ?_ ?_ ?_ ?_ <;>simp[*,bd,bT,bS,bD,au,bh,cI,I.only,ai.only,bG,rL]
 refine U.seq (U.seq (U.og (av [(1,.ptr 1 []),(34,.bool !(pq x))] [(1,.box (enc x))]) ?_ fun B hB=>U.sub hB ?_))
 ·have R:=And.intro @aP @ab
  repeat' ((first
   |(with_reducible refine .guard (fun hb =>?_) (fun hb =>?_) <;>try simp only[hb])
   |refine U.aL (by decide +kernel) rfl fun K hK =>?_
   |refine .flat _ (mz _ _ _) rfl ?_
   |refine .flat _ (tP _) rfl ?_
   |refine .lead _ (NW _) ?_
   |(refine .aF [0,1,2,3,4,5,6,34,37,64,68,76,77,98,102,107,113] hK ?_;clear hK K)
   |(with_reducible refine .done (hK _ ?_);clear hK K)
   |refine U.of rfl ?_
   |(with_reducible refine ao.aK (fun h =>?_) (fun h =>?_) <;>try simp only[h])) <;>try simp only[aM,R,simprocAttr])
  all_goals clear R
  all_goals
   refine aI.b9 ?_ ?_ ?_ ?_ <;>simp[*,bd,bT,bS,bD,au,bh,cI,I.only,ai.only,bG,pq]
 refine U.bM ?_
 simp only[ao,ab,simprocAttr]
 refine ⟨fun h =>?_,fun h =>?_⟩
 ·have R:=And.intro @aP @ab
  repeat' ((first
   |(with_reducible refine .guard (fun hb =>?_) (fun hb =>?_) <;>try simp only[hb])
   |refine U.aL (by decide +kernel) rfl fun K hK =>?_
   |(refine .aF [0,1,2,3,4,5,6,34,37,64,68,76,77,98,102,107,113] hK ?_;clear hK K)
   |(with_reducible refine .done (hK _ ?_);clear hK K)
   |refine U.of rfl ?_
   |(with_reducible refine ao.aK (fun h =>?_) (fun h =>?_) <;>try simp only[h])) <;>try simp only[aM,R,simprocAttr])
  all_goals clear R
  simp at h
  simp[IX,h]
 refine U.skip ?_;try simp only[ay,simprocAttr]
 have hp:pq x=true:=by simpa using h
 have hr:0≤x.kind∧x.kind≤6:=by simp[pq,b6] at hp;omega
 have ho:gB x=kj x:=by rw[IX,hp];rfl
 rw[ho]
 obtain hk | hk | hk | hk | hk | hk | hk:x.kind=0∨x.kind=1∨x.kind=2∨x.kind=3∨x.kind=4∨x.kind=5∨x.kind=6:=by omega
 all_goals
  have R:=And.intro @hk (And.intro @aP @ab)
  repeat' ((first
   |(with_reducible refine .guard (fun hb =>?_) (fun hb =>?_) <;>try simp only[hb])
   |refine U.aL (by decide +kernel) rfl fun K hK =>?_
   |refine .flat _ (mz _ _ _) rfl ?_
   |refine .flat _ (tP _) rfl ?_
   |refine .flat _ (MB _) rfl ?_
   |(refine .aF [0,1,2,3,4,5,6,34,37,64,68,76,77,98,102,107,113] hK ?_;clear hK K)
   |(with_reducible refine .done (hK _ ?_);clear hK K)
   |refine U.of rfl ?_
   |(with_reducible refine ao.aK (fun h =>?_) (fun h =>?_) <;>try simp only[h])) <;>try simp only[aM,R,simprocAttr])
  all_goals clear R
 all_goals (clear hp hr;simp_all[kj];try omega)
theorem BM(a b:Item):decide (kO a b<0)=before a b:=by
 simp only[kO,lq,jc,before]
 repeat' split
 all_goals simp_all
 all_goals omega
theorem Tn(a b:Item):(kO a b==0)=decide (a=b):=by
 rw[Bool.eq_iff_iff,beq_iff_eq,decide_eq_true_eq,Item.ve]
 simp only[kO,lq,jc]
 repeat' split
 all_goals (simp_all <;>try omega)
theorem oH{a b c:Item}(h:before a b=true)(k:before b c=true):before a c=true:=by
 simp only[before,Bool.or_eq_true,decide_eq_true_eq,Bool.and_eq_true] at *
 omega
theorem oG(a:Item):before a a=false:=by simp[before]
theorem OL{a b:Item}(h:before a b=false):before b a=true∨a=b:=by
 rw[Item.ve]
 simp only[before,Bool.or_eq_false_iff,Bool.and_eq_false_iff,decide_eq_false_iff_not,Bool.or_eq_true,decide_eq_true_eq,Bool.and_eq_true] at *
 omega
theorem BN(a b:Item):decide (0≤kO a b) = !before a b:=by
 rw[←BM]
 by_cases h:kO a b<0
 ·have:¬ 0≤kO a b:=by omega
  simp[h,this]
 ·have:0≤kO a b:=by omega
  simp[h,this]
theorem eA{l:List ak}{i:Nat}(h:i<l.length):l[i]=ae l i:=by simp[ae,h]
theorem gv{l:List ak}{i:Nat}(h:i<l.length)(A:af):jf A 17 (i:Int) (enc l)=some (.ref (enc (ae l i))):=by
 rw[gw 17 h rfl,eA h]
theorem fY{i n:Nat}(h:i<n):decide ((i:Int)<(n:Int))=true:=by simp;omega
theorem gp{i n:Nat}(h:¬ i<n):decide ((i:Int)<(n:Int))=false:=by simp;omega
theorem qR{n:Nat}(h:n≤9223372036854775807):IntKind.i64.wrap (n:Int)=(n:Int):=cN _ (by omega) (by omega)
theorem fF{i:Nat}(h:i<9223372036854775807):IntKind.i64.wrap ((i:Int)+1)=((i+1:Nat):Int):=by rw[cN _ (by omega) (by omega)];rfl
theorem Ms{i:Nat}(h:0<i)(h2:i<9223372036854775807):IntKind.i64.wrap ((i:Int)-1)=((i-1:Nat):Int):=by rw[cN _ (by omega) (by omega)];omega
theorem jE{l:List ak}(h:c6 l=true):l.length≤60:=by simp[c6] at h;exact h.1
theorem xq{l:List ak}(h:c6 l=true){i:Nat}(hi:i<l.length):gU l i=true:=by
 simp only[c6,Bool.and_eq_true,List.all_eq_true,List.mem_range] at h
 exact h.2 i hi
theorem sV{l:List ak}{i:Nat}(hi:i<l.length)(h:gU l i=false):c6 l=false:=by
 cases hk:c6 l with
 |false=>rfl
 |true=>rw[xq hk hi] at h;cases h
theorem xt{l:List ak}(hl:l.length≤60)(h:∀ i,i<l.length→gU l i=true):c6 l=true:=by
 simp only[c6,Bool.and_eq_true,List.all_eq_true,List.mem_range,decide_eq_true_eq]
 exact ⟨hl,h⟩
theorem xr{l:List ak}(h:c6 l=true){i:Nat}(hi:i<l.length):gB (ae l i)=true:=by
 have:=xq h hi
 simp only[gU,Bool.and_eq_true] at this
 exact this.1
theorem IY{l:List ak}(h:c6 l=true):∀ {j i:Nat},i<j→j<l.length→before (ae l i).bj (ae l j).bj=true
 |0,i,hij,_=>by omega
 |j+1,i,hij,hj=>by
  have h1:=xq h hj
  simp only[gU,Bool.and_eq_true,Bool.or_eq_true,decide_eq_true_eq,Nat.add_sub_cancel] at h1
  have h2:=h1.2.resolve_left (by omega)
  by_cases e:i=j
  ·rw[e];exact h2
  ·exact oH (IY h (j:=j) (by omega) (by omega)) h2
theorem qo{p:Nat→Prop}{i:Nat}(h:∀ j,j<i→p j)(hi:p i):∀ j,j<i+1→p j:=fun j hj=>by
 by_cases e:j=i
 ·exact e▸hi
 ·exact h j (by omega)
theorem oi(l:List ak):az Tryz.prog 64 [enc l] (enc (if c6 l then (0:Int) else 41)):=by
 refine az.bn Tryz.func64 QM SM UX (Nat.le_of_ble_eq_true rfl) (fun hwf W0 D0 E1 =>?_)
 simp only[A6,KY,bg]
 have hlen:l.length≤maxLen:=((j6 l).1 hwf.1).1
 simp only[maxLen] at hlen
 clear hwf
 refine .ar (by decide +kernel) fun K hK =>?_
 simp only[Hb,ab,simprocAttr]
 refine .done (hK _ ?_);clear hK K
 refine U.seq (U.seq ?_)
 refine .bP (by decide +kernel) fun K hK =>?_
 simp only[Hc,ab,simprocAttr]
 try simp only[bI,ab,simprocAttr]
 refine .done (hK _ ?_);clear hK K;try simp only[ay]
 refine U.bM ?_
 simp only[ao,ab,simprocAttr]
 refine ⟨fun h =>?_,fun h =>?_⟩
 ·have R:=And.intro @aP @ab
  repeat' ((first
   |(with_reducible refine .guard (fun hb =>?_) (fun hb =>?_) <;>try simp only[hb])
   |refine U.aL (by decide +kernel) rfl fun K hK =>?_
   |(refine .aF [0,2,3,4,7,8,9,10,11,33] hK ?_;clear hK K)
   |(with_reducible refine .done (hK _ ?_);clear hK K)
   |refine U.of rfl ?_
   |(with_reducible refine ao.aK (fun h =>?_) (fun h =>?_) <;>try simp only[h])) <;>try simp only[aM,R,simprocAttr])
  all_goals clear R
  have:¬ l.length≤60:=by simp at h;omega
  simp[c6,this]
 have hl6:l.length≤60:=by simp at h;omega
 refine U.skip ?_;try simp only[ay,simprocAttr]
 refine U.seq (U.seq ?_)
 refine .bP (by decide +kernel) fun K hK =>?_
 simp only[Hd,ab,simprocAttr]
 try simp only[bI,ab,simprocAttr]
 refine .done (hK _ ?_);clear hK K;try simp only[ay]
 refine U.block (U.loop (fun i:Nat=>av [(0,enc l),(8,enc l),(9,.int .i64 l.length),(10,.int .i64 i)] []) (fun i=>i≤l.length∧∀ j,j<i→gU l j=true) (fun i=>l.length-i) 0 ⟨by omega,fun k h=>by omega⟩ ?_ (fun i hi =>?_))
 ·refine aI.b9 ?_ ?_ ?_ ?_ <;>simp[bd,bT,bS,bD,bh,I.only,bG]
 by_cases hlt:i<l.length
 ·have he:=gv hlt
  have hc:=fY hlt
  have hw:=fF (i:=i) (by omega)
  by_cases h0:i=0
  ·have hc0:decide ((0:Int)<(i:Int))=false:=by simp;omega
   have R:=And.intro @he (And.intro @hc (And.intro @hw (And.intro @hc0 (And.intro @BN (And.intro @aP @ab)))))
   repeat' ((first
    |(with_reducible refine .guard (fun hb =>?_) (fun hb =>?_) <;>try simp only[hb])
    |refine U.aL (by decide +kernel) rfl fun K hK =>?_
    |refine .flat _ (tQ _) rfl ?_
    |refine .flat _ (tT _ _) rfl ?_
    |(refine .aF [0,2,3,4,7,8,9,10,11,33] hK ?_;clear hK K)
    |(with_reducible refine .done (hK _ ?_);clear hK K)
    |refine U.of rfl ?_
    |(with_reducible refine ao.aK (fun h =>?_) (fun h =>?_) <;>try simp only[h])) <;>try simp only[aM,R,simprocAttr])
   all_goals clear R
   all_goals first
    |(refine ⟨i+1,⟨by omega,qo hi.2 (by simp_all[gU])⟩,by omega,?_⟩;(refine aI.b9 ?_ ?_ ?_ ?_ <;>simp[bd,bT,bS,bD,bh,I.only,bG]))
    |(rw[sV hlt (by simp_all[gU])];rfl)
  ·have he2:=gv (l:=l) (i:=i-1) (by omega)
   have hw2:=Ms (i:=i) (by omega) (by omega)
   have hc0:decide ((0:Int)<(i:Int))=true:=by simp;omega
   have R:=And.intro @he (And.intro @hc (And.intro @hw (And.intro @he2 (And.intro @hw2 (And.intro @hc0 (And.intro @BN (And.intro @aP @ab)))))))
   repeat' ((first
    |(with_reducible refine .guard (fun hb =>?_) (fun hb =>?_) <;>try simp only[hb])
    |refine U.aL (by decide +kernel) rfl fun K hK =>?_
    |refine .flat _ (tQ _) rfl ?_
    |refine .flat _ (tT _ _) rfl ?_
    |(refine .aF [0,2,3,4,7,8,9,10,11,33] hK ?_;clear hK K)
    |(with_reducible refine .done (hK _ ?_);clear hK K)
    |refine U.of rfl ?_
    |(with_reducible refine ao.aK (fun h =>?_) (fun h =>?_) <;>try simp only[h])) <;>try simp only[aM,R,simprocAttr])
   all_goals clear R
   all_goals first
    |(refine ⟨i+1,⟨by omega,qo hi.2 (by simp_all[gU])⟩,by omega,?_⟩;(refine aI.b9 ?_ ?_ ?_ ?_ <;>simp[bd,bT,bS,bD,bh,I.only,bG]))
    |(rw[sV hlt (by simp_all[gU])];rfl)
 ·have hc:=gp hlt
  have R:=And.intro @hc (And.intro @aP @ab)
  repeat' ((first
   |(with_reducible refine .guard (fun hb =>?_) (fun hb =>?_) <;>try simp only[hb])
   |refine U.aL (by decide +kernel) rfl fun K hK =>?_
   |(refine .aF [0,2,3,4,7,8,9,10,11,33] hK ?_;clear hK K)
   |(with_reducible refine .done (hK _ ?_);clear hK K)
   |refine U.of rfl ?_
   |(with_reducible refine ao.aK (fun h =>?_) (fun h =>?_) <;>try simp only[h])) <;>try simp only[aM,R,simprocAttr])
  all_goals clear R
  rw[xt hl6 fun j hj=>hi.2 j (by omega)];rfl
theorem oj(l:List ak):az Tryz.prog 65 [enc l] (enc (if c6 l then (0:Int) else 41)):=by
 refine az.bn Tryz.func65 QN SN UY (Nat.le_of_ble_eq_true rfl) (fun hwf W0 D0 E1 =>?_)
 simp only[A7,KZ,bg]
 have hlen:l.length≤maxLen:=((j6 l).1 hwf.1).1
 simp only[maxLen] at hlen
 clear hwf
 refine .ar (by decide +kernel) fun K hK =>?_
 simp only[He,ab,simprocAttr]
 refine .done (hK _ ?_);clear hK K
 refine U.seq (U.seq ?_)
 refine .bP (by decide +kernel) fun K hK =>?_
 simp only[Hf,ab,simprocAttr]
 try simp only[bI,ab,simprocAttr]
 refine .done (hK _ ?_);clear hK K;try simp only[ay]
 refine U.bM ?_
 simp only[ao,ab,simprocAttr]
 refine ⟨fun h =>?_,fun h =>?_⟩
 ·have R:=And.intro @aP @ab
  repeat' ((first
   |(with_reducible refine .guard (fun hb =>?_) (fun hb =>?_) <;>try simp only[hb])
   |refine U.aL (by decide +kernel) rfl fun K hK =>?_
   |(refine .aF [0,2,3,6,10,37] hK ?_;clear hK K)
   |(with_reducible refine .done (hK _ ?_);clear hK K)
   |refine U.of rfl ?_
   |(with_reducible refine ao.aK (fun h =>?_) (fun h =>?_) <;>try simp only[h])) <;>try simp only[aM,R,simprocAttr])
  all_goals clear R
  have:¬ l.length≤60:=by simp at h;omega
  simp[c6,this]
 have hl6:l.length≤60:=by simp at h;omega
 refine U.skip ?_;try simp only[ay,simprocAttr]
 refine U.seq (U.seq ?_)
 refine .bP (by decide +kernel) fun K hK =>?_
 simp only[Hg,ab,simprocAttr]
 try simp only[dB,bI,gb,dC,ab,simprocAttr]
 refine .done (hK _ ?_);clear hK K;try simp only[ay]
 refine U.block (U.loop (fun i:Nat=>av [(0,enc l),(3,.int .i64 i)] []) (fun i=>i≤l.length∧∀ j,j<i→gU l j=true) (fun i=>l.length-i) 0 ⟨by omega,fun k h=>by omega⟩ ?_ (fun i hi =>?_))
 ·refine aI.b9 ?_ ?_ ?_ ?_ <;>simp[bd,bT,bS,bD,bh,I.only,bG]
 by_cases hlt:i<l.length
 ·have he:=gv hlt
  have hc:=fY hlt
  have hw:=fF (i:=i) (by omega)
  have hb0:∀ b:Bool,((if b=true then (0:Int) else 40) != 0) = !b:=fun b=>by cases b <;>rfl
  by_cases h0:i=0
  ·have hc0:decide ((0:Int)<(i:Int))=false:=by simp;omega
   have R:=And.intro @he (And.intro @hc (And.intro @hw (And.intro @hc0 (And.intro @hb0 (And.intro @bI (And.intro @aP @ab))))))
   repeat' ((first
    |(with_reducible refine .guard (fun hb =>?_) (fun hb =>?_) <;>try simp only[hb])
    |refine U.aL (by decide +kernel) rfl fun K hK =>?_
    |refine .flat _ (qY _) rfl ?_
    |refine .flat _ (pG _ _) rfl ?_
    |(refine .aF [0,2,3,6,10,37] hK ?_;clear hK K)
    |(with_reducible refine .done (hK _ ?_);clear hK K)
    |refine U.of rfl ?_
    |(with_reducible refine ao.aK (fun h =>?_) (fun h =>?_) <;>try simp only[h])) <;>try simp only[aM,R,simprocAttr])
   all_goals clear R
   all_goals first
    |(refine ⟨i+1,⟨by omega,qo hi.2 (by simp_all[gU])⟩,by omega,?_⟩;(refine aI.b9 ?_ ?_ ?_ ?_ <;>simp[bd,bT,bS,bD,bh,I.only,bG]))
    |(rw[sV hlt (by simp_all[gU])];rfl)
  ·have he2:=gv (l:=l) (i:=i-1) (by omega)
   have hw2:=Ms (i:=i) (by omega) (by omega)
   have hc0:decide ((0:Int)<(i:Int))=true:=by simp;omega
   have R:=And.intro @he (And.intro @hc (And.intro @hw (And.intro @he2 (And.intro @hw2 (And.intro @hc0 (And.intro @hb0 (And.intro @bI (And.intro @aP @ab))))))))
   repeat' ((first
    |(with_reducible refine .guard (fun hb =>?_) (fun hb =>?_) <;>try simp only[hb])
    |refine U.aL (by decide +kernel) rfl fun K hK =>?_
    |refine .flat _ (qY _) rfl ?_
    |refine .flat _ (pG _ _) rfl ?_
    |(refine .aF [0,2,3,6,10,37] hK ?_;clear hK K)
    |(with_reducible refine .done (hK _ ?_);clear hK K)
    |refine U.of rfl ?_
    |(with_reducible refine ao.aK (fun h =>?_) (fun h =>?_) <;>try simp only[h])) <;>try simp only[aM,R,simprocAttr])
   all_goals clear R
   all_goals first
    |(refine ⟨i+1,⟨by omega,qo hi.2 (by simp_all[gU])⟩,by omega,?_⟩;(refine aI.b9 ?_ ?_ ?_ ?_ <;>simp[bd,bT,bS,bD,bh,I.only,bG]))
    |(rw[sV hlt (by simp_all[gU])];rfl)
 ·have hc:=gp hlt
  have R:=And.intro @hc (And.intro @bI (And.intro @aP @ab))
  repeat' ((first
   |(with_reducible refine .guard (fun hb =>?_) (fun hb =>?_) <;>try simp only[hb])
   |refine U.aL (by decide +kernel) rfl fun K hK =>?_
   |(refine .aF [0,2,3,6,10,37] hK ?_;clear hK K)
   |(with_reducible refine .done (hK _ ?_);clear hK K)
   |refine U.of rfl ?_
   |(with_reducible refine ao.aK (fun h =>?_) (fun h =>?_) <;>try simp only[h])) <;>try simp only[aM,R,simprocAttr])
  all_goals clear R
  rw[xt hl6 fun j hj=>hi.2 j (by omega)];rfl
def nx(l:List ak)(a:Item):Int:=if eD l a then (wE l a:Int) else -1
theorem wz{l:List ak}{a:Item}{i:Nat}(hi:i<l.length)(h:(ae l i).bj=a):eD l a=true:=by
 simp only[eD,List.any_eq_true,decide_eq_true_eq]
 exact ⟨ae l i,by rw[←eA hi];exact List.getElem_mem _,h⟩
theorem afB{l:List ak}{a:Item}(h:∀ i,i<l.length→(ae l i).bj≠a):eD l a=false:=by
 cases hk:eD l a with
 |false=>rfl
 |true =>
  simp only[eD,List.any_eq_true,decide_eq_true_eq] at hk
  obtain ⟨x,hx,rfl⟩:=hk
  obtain ⟨i,hi,rfl⟩:=List.getElem_of_mem hx
  exact absurd (by rw[eA hi]) (h i hi)
theorem H4{l:List ak}{a:Item}{i:Nat}(hi:i<l.length)(h:(ae l i).bj=a)(h2:∀ j,j<i→(ae l j).bj≠a):wE l a=i:=by
 simp only[wE]
 rw[List.findIdx_eq hi]
 refine ⟨by rw[eA hi];simpa using h,fun j hj =>?_⟩
 rw[eA (Nat.lt_trans hj hi)]
 simpa using h2 j hj
theorem afI{l:List ak}{a:Item}{i:Nat}(hi:i<l.length)(h:(ae l i).bj=a)(h2:∀ j,j<i→(ae l j).bj≠a):nx l a=i:=by
 simp only[nx,wz hi h,if_true,H4 hi h h2]
theorem afJ{l:List ak}{a:Item}(h:∀ i,i<l.length→(ae l i).bj≠a):nx l a=-1:=by
 simp[nx,afB h]
theorem tN(l:List ak)(a:Item):az Tryz.prog 110 [enc l,enc a] (enc (nx l a)):=by
 refine az.bn Tryz.func110 Pm Rj Tt (Nat.le_of_ble_eq_true rfl) (fun hwf W0 D0 E1 =>?_)
 simp only[zt,Jw,bg,Nat.zero_add]
 have hlen:l.length≤maxLen:=((j6 l).1 hwf.1).1
 simp only[maxLen] at hlen
 clear hwf
 refine .ar (by decide +kernel) fun K hK =>?_
 simp only[CX,ab,simprocAttr]
 try simp only[aP,ab,simprocAttr]
 refine .done (hK _ ?_);clear hK K
 refine U.seq (U.seq ?_)
 refine .bP (by decide +kernel) fun K hK =>?_
 simp only[CY,ab,simprocAttr]
 refine .done (hK _ ?_);clear hK K;try simp only[ay]
 refine U.block (U.loop (fun i:Nat=>av [(0,enc l),(3,.ptr 3 []),(5,.int .i64 i)] [(3,.box (enc a))]) (fun i=>i≤l.length∧∀ j,j<i→(ae l j).bj≠a) (fun i=>l.length-i) 0 ⟨by omega,fun k h=>by omega⟩ ?_ (fun i hi =>?_))
 ·refine aI.b9 ?_ ?_ ?_ ?_ <;>simp[bd,bT,bS,bD,au,bh,cI,I.only,ai.only,bG]
 by_cases hlt:i<l.length
 ·have he:=gv hlt
  have hc:=fY hlt
  have hw:=fF (i:=i) (by omega)
  have R:=And.intro @he (And.intro @hc (And.intro @hw (And.intro @bI (And.intro @aP @ab))))
  repeat' ((first
   |(with_reducible refine .guard (fun hb =>?_) (fun hb =>?_) <;>try simp only[hb])
   |refine U.aL (by decide +kernel) rfl fun K hK =>?_
   |(refine .aF [0,1,3,4,5,9,18] hK ?_;clear hK K)
   |(with_reducible refine .done (hK _ ?_);clear hK K)
   |refine U.of rfl ?_
   |(with_reducible refine ao.aK (fun h =>?_) (fun h =>?_) <;>try simp only[h])) <;>try simp only[aM,R,simprocAttr])
  all_goals clear R
  all_goals first
   |(refine ⟨i+1,⟨by omega,qo hi.2 (by simpa using h)⟩,by omega,?_⟩;(refine aI.b9 ?_ ?_ ?_ ?_ <;>simp[bd,bT,bS,bD,au,bh,cI,I.only,ai.only,bG]))
   |(rw[afI hlt (by simpa using h) hi.2])
 ·have hc:=gp hlt
  have R:=And.intro @hc (And.intro @bI (And.intro @aP @ab))
  repeat' ((first
   |(with_reducible refine .guard (fun hb =>?_) (fun hb =>?_) <;>try simp only[hb])
   |refine U.aL (by decide +kernel) rfl fun K hK =>?_
   |(refine .aF [0,1,3,4,5,9,18] hK ?_;clear hK K)
   |(with_reducible refine .done (hK _ ?_);clear hK K)
   |refine U.of rfl ?_
   |(with_reducible refine ao.aK (fun h =>?_) (fun h =>?_) <;>try simp only[h])) <;>try simp only[aM,R,simprocAttr])
  all_goals clear R
  rw[afJ fun j hj=>hi.2 j (by omega)]
def cu(k:Nat)(ws:List Int):List (Nat×ai):=[(k,.box (.agg (ws.map enc)))]
theorem nF(p:Nat→Bool)(l:List Int):(I.agg (l.map enc)).only p=true:=by simp only[I.only];exact ev p l
theorem agy(l:List Int):(I.agg (l.map enc)).cP=true:=by simp only[I.cP];exact wX l
theorem m4{ws:List Int} : ∀ m,au (cu 1000000 ws) m=true→1000000≤m:=fun m hm=>by rw[cV.1 hm];exact Nat.le_refl _
def j5(ws:List Int)(i j:Nat):List Int:=(ws.set i (ws.getD j 0)).set j (ws.getD i 0)
theorem Mi{A B C:List Int}{x y:Int}{i j:Nat}(hi:A.length=i)(hj:A.length+1+B.length=j):j5 (A++x::B++y::C) i j=A++y::B++x::C:=by
 subst hi hj
 have e1:(A++x::B++y::C).getD A.length 0=x:=by simp[List.getD_eq_getElem?_getD,List.append_assoc]
 have e2:(A++x::B++y::C).getD (A.length+1+B.length) 0=y:=by
  rw[List.getD_eq_getElem?_getD,List.getElem?_append_right (by simp;omega)]
  simp[]
  have:A.length+1+B.length-(A.length+(B.length+1))=0:=by omega
  rw[this];rfl
 simp only[j5,e1,e2]
 rw[List.append_assoc,List.set_append_right _ _ (Nat.le_refl _),Nat.sub_self,List.cons_append,List.set_cons_zero]
 rw[List.set_append_right _ _ (by omega)]
 have:A.length+1+B.length-A.length=(B.length)+1:=by omega
 rw[this,List.set_cons_succ,List.set_append_right _ _ (Nat.le_refl _),Nat.sub_self,List.set_cons_zero]
 simp
theorem jh{n i:Nat}(h:i<n)(fs:List I):lh 1000000 [] 1 0 n 1 (i:Int) (some fs)=some (.ptr 1000000 [i]):=by
 have:=wS (m:=1000000) (sz:=1) (lo:=0) (l:=n) (i:=i) (fs:=fs) h
 rwa [Nat.zero_add] at this
theorem j7(x y:Nat)(h:x+y<9223372036854775807):IntKind.i64.wrap ((x:Int)+(y:Int))=((x+y:Nat):Int):=by rw[cN _ (by omega) (by omega)];omega
theorem iy{x y:Nat}(h:y≤x)(hx:x<9223372036854775807):IntKind.i64.wrap ((x:Int)-(y:Int))=((x-y:Nat):Int):=by rw[cN _ (by omega) (by omega)];omega
def jJ(p x y z q:List Int)(i:Nat):List Int:=p++(z.take i++x.drop i)++y++(x.take i++z.drop i)++q
theorem ajI{p x y z q:List Int}{i a b:Nat}(hx:i<x.length)(hz:z.length=x.length)(ha:p.length=a)(hb:a+x.length+y.length=b):j5 (jJ p x y z q i) (a+i) (b+i)=jJ p x y z q (i+1):=by
 have e1:jJ p x y z q i=(p++z.take i)++x[i]::(x.drop (i+1)++y++x.take i)++z[i]::(z.drop (i+1)++q):=by
  simp only[jJ]
  rw[List.drop_eq_getElem_cons hx,List.drop_eq_getElem_cons (l:=z) (by omega)]
  simp only[List.append_assoc,List.cons_append]
 have e2:jJ p x y z q (i+1)=(p++z.take i)++z[i]::(x.drop (i+1)++y++x.take i)++x[i]::(z.drop (i+1)++q):=by
  simp only[jJ]
  rw[List.take_succ_eq_append_getElem hx,List.take_succ_eq_append_getElem (l:=z) (by omega)]
  simp only[List.append_assoc,List.cons_append,List.nil_append]
 rw[e1,e2]
 refine Mi ?_ ?_
 ·simp;omega
 ·simp;omega
theorem ajH(p x y z q:List Int)(i:Nat)(hz:z.length=x.length)(hi:i≤x.length):(jJ p x y z q i).length=p.length+x.length+y.length+x.length+q.length:=by
 simp only[jJ,List.length_append,List.length_take,List.length_drop];omega
def x1(ws:List Int):cR:=fun r os'=>r=.tuple []∧os'=cu 1000000 ws
theorem mZ{ts:List (Nat×I)}{ws ws':List Int}{os:List (Nat×ai)}{post:cR}(hl:al os 1000000=some (.box (.agg (ws.map enc))))(he:ws=ws')(hp:post (.tuple []) (cu 1000000 ws')):kH [] post (av ts os):=by
 subst he
 exact ⟨cu 1000000 ws,[],jQ hl (fun p=>nF p _),trivial,hp⟩
theorem tZ(p x y z q:List Int)(a b n k:Nat)(f:I)(hz:z.length=x.length)(ha:p.length=a)(hb:a+x.length+y.length=b)(hk:x.length=k)(hn:b+k≤n)(hN:n≤1000) :
  cA Tryz.prog 216 [.view 1000000 [] 1 0 n,enc (a:Int),enc (b:Int),enc (k:Int),f] (cu 1000000 (p++x++y++z++q)) (x1 (p++z++y++x++q)):=by
 refine cA.bn Tryz.func216 Qu Su UE (Nat.le_of_ble_eq_true rfl) (Nat.le_of_ble_eq_true rfl) m4 (fun hwf W0 D0 E1 =>?_)
 simp only[AM,KG,bg,Nat.zero_add,Nat.reduceAdd]
 clear hwf
 refine .ar (by decide +kernel) fun K hK =>?_
 simp only[GQ,ab,simprocAttr]
 refine .done (hK _ ?_);clear hK K
 refine U.block (U.loop (fun i:Nat=>av [(0,.view 1000000 [] 1 0 n),(1,.int .i64 a),(2,.int .i64 b),(3,.int .i64 k),(10,.int .i64 i)] (cu 1000000 (jJ p x y z q i))) (fun i=>i≤k) (fun i=>k-i) 0 (by omega) ?_ (fun i hi =>?_))
 ·have e:jJ p x y z q 0=p++x++y++z++q:=by simp[jJ]
  rw[e]
  simp only[cu]
  refine aI.b9 ?_ ?_ ?_ ?_ <;>simp[bd,bT,bS,bD,au,bh,cI,I.only,ai.only,ev,jF]
 by_cases hlt:i<k
 ·have hc:=fY hlt
  have hw:=fF (i:=i) (by omega)
  have w1:=j7 a i (by omega)
  have w2:=j7 b i (by omega)
  have hst:=ajI (p:=p) (q:=q) (i:=i) (by omega) hz ha hb
  have hl:=ajH p x y z q i hz (by omega)
  simp only[cu]
  generalize jJ p x y z q i=ws at hst hl
  have v1:=jh (n:=n) (i:=a+i) (by omega)
  have v2:=jh (n:=n) (i:=b+i) (by omega)
  have l1:=gH (xs:=ws) (i:=a+i) (by omega)
  have l2:=gH (xs:=ws) (i:=b+i) (by omega)
  have s1:=fun (A:af) v aq rest=>m7 (A:=A) (n:=1000000) (xs:=ws) (i:=a+i) (by omega) v aq rest
  obtain ⟨ws2,hws2⟩:∃ ws2,ws2=ws.set (a+i) (ws.getD (b+i) 0):=⟨_,rfl⟩
  have s2:=fun (A:af) v aq rest=>m7 (A:=A) (n:=1000000) (xs:=ws2) (i:=b+i) (by rw[hws2];simp;omega) v aq rest
  have l3:=gH (xs:=ws2) (i:=b+i) (by rw[hws2];simp;omega)
  have R:=And.intro @hc (And.intro @hw (And.intro @w1 (And.intro @w2 (And.intro @v1 (And.intro @v2 (And.intro @l1 (And.intro @l2 (And.intro @s1 (And.intro @s2 (And.intro @l3 (And.intro @c9 (And.intro @aP @ab))))))))))))
  repeat' ((first
   |(with_reducible refine .guard (fun hb =>?_) (fun hb =>?_) <;>try simp only[hb])
   |refine U.aL (by decide +kernel) rfl fun K hK =>?_
   |(refine .aF [0,1,2,3,10,13] hK ?_;clear hK K)
   |(with_reducible refine .done (hK _ ?_);clear hK K)
   |refine U.of rfl ?_
   |(with_reducible refine ao.aK (fun h =>?_) (fun h =>?_) <;>try simp only[h])) <;>try simp only[aM,R,←hws2,simprocAttr])
  all_goals clear R
  refine ⟨i+1,by omega,by omega,?_⟩
  rw[←hst]
  simp only[j5,←hws2]
  generalize ws2.set _ _=ws3
  refine aI.b9 ?_ ?_ ?_ ?_ <;>simp[bd,bT,bS,bD,au,bh,cI,I.only,ai.only,ev]
 ·have hc:=gp hlt
  have he:i=k:=by omega
  subst he
  have R:=And.intro @hc (And.intro @aP @ab)
  repeat' ((first
   |(with_reducible refine .guard (fun hb =>?_) (fun hb =>?_) <;>try simp only[hb])
   |refine U.aL (by decide +kernel) rfl fun K hK =>?_
   |(refine .aF [0,1,2,3,10,13] hK ?_;clear hK K)
   |(with_reducible refine .done (hK _ ?_);clear hK K)
   |refine U.of rfl ?_
   |(with_reducible refine ao.aK (fun h =>?_) (fun h =>?_) <;>try simp only[h])) <;>try simp only[aM,R,simprocAttr])
  all_goals clear R
  rw[ly]
  refine mZ rfl ?_ ⟨rfl,rfl⟩
  have h1:z.take i=z:=List.take_of_length_le (by omega)
  have h2:x.take i=x:=List.take_of_length_le (by omega)
  have h3:z.drop i=[]:=List.drop_eq_nil_of_le (by omega)
  have h4:x.drop i=[]:=List.drop_eq_nil_of_le (by omega)
  simp only[jJ,h1,h2,h3,h4,List.append_nil]
end Go.Proofs.YtcldiigclhgafaaGreat
namespace Go.Proofs.YtcldiigclhgafaaGreat
open Go Go.Abs Go.Shelf
open Go.Abs.Enc (enc)
def agl:Go.Shelf.Ren:=⟨fun | 189=>107 | 125=>148 | 257=>147 | 128=>188 | 129=>189 | 294=>179 | 295=>180 | 296=>181 | 297=>182 | 298=>183 | 299=>184 | 216=>185 | 300=>186 | 301=>187 | 328=>205 | 329=>206 | 330=>207 | 331=>208 | 332=>209 | 215=>194 | 343=>214 | n=>n,fun | 28=>29 | 3=>3 | 46=>193 | 0=>0 | 51=>217 | 53=>219 | 4=>4 | 183=>210 | 182=>209 | 131=>150 | 5=>5 | 9=>9 | 218=>230 | 222=>234 | 228=>236 | 229=>237 | n=>n,fun | n=>n⟩
theorem Ik:Go.Proofs.Lays.n189 Tryz.prog agl := {
 mixed:=by kernel_rfl
 f125:=Tryz.func148.trans (congrArg some (by kernel_rfl))
 f128:=Tryz.func188.trans (congrArg some (by kernel_rfl))
 f129:=Tryz.func189.trans (congrArg some (by kernel_rfl))
 f189:=Tryz.func107.trans (congrArg some (by kernel_rfl))
 f215:=Tryz.func194.trans (congrArg some (by kernel_rfl))
 f216:=Tryz.func185.trans (congrArg some (by kernel_rfl))
 f257:=Tryz.func147.trans (congrArg some (by kernel_rfl))
 f294:=Tryz.func179.trans (congrArg some (by kernel_rfl))
 f295:=Tryz.func180.trans (congrArg some (by kernel_rfl))
 f296:=Tryz.func181.trans (congrArg some (by kernel_rfl))
 f297:=Tryz.func182.trans (congrArg some (by kernel_rfl))
 f298:=Tryz.func183.trans (congrArg some (by kernel_rfl))
 f299:=Tryz.func184.trans (congrArg some (by kernel_rfl))
 f300:=Tryz.func186.trans (congrArg some (by kernel_rfl))
 f301:=Tryz.func187.trans (congrArg some (by kernel_rfl))
 f328:=Tryz.func205.trans (congrArg some (by kernel_rfl))
 f329:=Tryz.func206.trans (congrArg some (by kernel_rfl))
 f330:=Tryz.func207.trans (congrArg some (by kernel_rfl))
 f331:=Tryz.func208.trans (congrArg some (by kernel_rfl))
 f332:=Tryz.func209.trans (congrArg some (by kernel_rfl))
 f343:=Tryz.func214.trans (congrArg some (by kernel_rfl))
 t0:=Tryz.underlying0
 a0:=Tryz.isAgg0
 z0:=Tryz.sizeOf0
 v0:=Tryz.zeroValue0
 t3:=Tryz.underlying3
 a3:=Tryz.isAgg3
 z3:=Tryz.sizeOf3
 v3:=Tryz.zeroValue3
 t4:=Tryz.underlying4
 a4:=Tryz.isAgg4
 z4:=Tryz.sizeOf4
 v4:=Tryz.zeroValue4
 t5:=Tryz.underlying5
 a5:=Tryz.isAgg5
 z5:=Tryz.sizeOf5
 v5:=Tryz.zeroValue5
 t9:=Tryz.underlying9
 a9:=Tryz.isAgg9
 z9:=Tryz.sizeOf9
 v9:=Tryz.zeroValue9
 t28:=Tryz.underlying29
 a28:=Tryz.isAgg29
 z28:=Tryz.sizeOf29
 v28:=Tryz.zeroValue29
 t46:=Tryz.underlying193
 a46:=Tryz.isAgg193
 z46:=Tryz.sizeOf193
 v46:=Tryz.zeroValue193
 t51:=Tryz.underlying217
 a51:=Tryz.isAgg217
 z51:=Tryz.sizeOf217
 v51:=Tryz.zeroValue217
 t53:=Tryz.underlying219
 a53:=Tryz.isAgg219
 z53:=Tryz.sizeOf219
 v53:=Tryz.zeroValue219
 t131:=Tryz.underlying150
 a131:=Tryz.isAgg150
 z131:=Tryz.sizeOf150
 v131:=Tryz.zeroValue150
 t182:=Tryz.underlying209
 a182:=Tryz.isAgg209
 z182:=Tryz.sizeOf209
 v182:=Tryz.zeroValue209
 t183:=Tryz.underlying210
 a183:=Tryz.isAgg210
 z183:=Tryz.sizeOf210
 v183:=Tryz.zeroValue210
 t218:=Tryz.underlying230
 a218:=Tryz.isAgg230
 z218:=Tryz.sizeOf230
 v218:=Tryz.zeroValue230
 t222:=Tryz.underlying234
 a222:=Tryz.isAgg234
 z222:=Tryz.sizeOf234
 v222:=Tryz.zeroValue234
 t228:=Tryz.underlying236
 a228:=Tryz.isAgg236
 z228:=Tryz.sizeOf236
 v228:=Tryz.zeroValue236
 t229:=Tryz.underlying237
 a229:=Tryz.isAgg237
 z229:=Tryz.sizeOf237
 v229:=Tryz.zeroValue237 }
def eb(xs:List Int):List Int:=xs.mergeSort fun x y=>decide (x≤y)
theorem Ln{w:World}{D:aQ}{E:aX} : ∀ {xs:List Int} {cs:List Value},aH w D E (xs.map enc) cs→cs=xs.map (Value.int .i64)∧∀ x∈xs,IntKind.i64.min≤x∧x≤IntKind.i64.max
 | [],cs,h=>by
  simp only[List.map_nil,aH] at h
  subst h;exact ⟨rfl,by simp⟩
 |x::xs,cs,h=>by
  simp only[List.map_cons,aH] at h
  obtain ⟨c1,c2,rfl,h1,h2⟩:=h
  obtain ⟨rfl,h3⟩:=Ln h2
  have h1':c1=[.int .i64 x]∧IntKind.i64.min≤x∧x≤IntKind.i64.max:=h1
  obtain ⟨rfl,h4⟩:=h1'
  refine ⟨rfl,fun y hy =>?_⟩
  rcases List.mem_cons.1 hy with rfl | hy
  ·exact h4
  ·exact h3 y hy
theorem qB{w:World}{D:aQ}{E:aX} : ∀ {xs:List Int},(∀ x∈xs,IntKind.i64.min≤x∧x≤IntKind.i64.max)→aH w D E (xs.map enc) (xs.map (Value.int .i64))
 | [],_=>rfl
 |x::xs,h=>⟨[.int .i64 x],xs.map (Value.int .i64),rfl,⟨rfl,h x (by simp)⟩,qB fun y hy=>h y (by simp[hy])⟩
theorem qI(xs:List Int):(I.agg (xs.map enc)).aT=.ej (List.replicate xs.length .one):=by
 show cO.ej (I.cM _)=_
 congr 1
 induction xs with
 |nil=>rfl
 |cons x xs ih=>simp only[List.map_cons,I.cM,ih,List.length_cons,List.replicate_succ];rfl
theorem aiE{xs ys q:List Int}(hl:ys.length=xs.length){cs:Array Value}(hc:cs.toList=(xs++q).map (Value.int .i64)):(Sort.putCells (Value.int .i64) 0 ys.toArray cs).toList=(ys++q).map (Value.int .i64):=by
 apply List.ext_getElem?
 intro k
 have h1:cs[k]?=((xs++q).map (Value.int .i64))[k]?:=by rw[←hc,Array.getElem?_toList]
 rw[Array.getElem?_toList,Sort.putCells,Array.getElem?_mapIdx,h1]
 simp only[List.getElem?_map,List.size_toArray,Nat.zero_le,true_and,Nat.zero_add,Nat.sub_zero]
 by_cases hk:k<ys.length
 ·simp only[hk,if_true]
  rw[List.getElem?_append_left (by omega),List.getElem?_append_left hk,List.getElem?_eq_getElem (by omega),List.getElem?_eq_getElem hk]
  simp[hk]
 ·simp only[hk,if_false]
  rw[List.getElem?_append_right (by omega),List.getElem?_append_right (by omega),hl]
  cases (q[k-xs.length]?) <;>rfl
open Go.Sort Go.RowKit in
theorem MD(xs q:List Int)(hn:xs.length≤60):cA Tryz.prog 107 [.view 1000000 [] 1 0 xs.length] (cu 1000000 (xs++q)) (x1 (eb xs++q)):=by
 refine ⟨Bt,fun w D E vs _ hD hO hv =>?_⟩
 have ho:=hO.bQ 1000000
 simp only[cu,al,if_true] at ho
 obtain ⟨b,cs,T,aw,-,hb,hr,hnD⟩:=ho
 have hEn:∀ n,n≠1000000→E n=none:=fun n hn=>by
  have:=hO.bQ n
  simpa only[cu,al,if_neg hn,c5] using this
 simp only[aG] at hv
 obtain ⟨v,rest,cs',rfl,hp,hr',rfl⟩:=hv
 obtain ⟨b',aT,off,l,hE',hoff,hpart,rfl,hl1,hl2,hl3⟩:=hr'
 rw[aw] at hE'
 simp only[Option.some.injEq,bR.aD.injEq] at hE'
 obtain ⟨rfl,rfl⟩:=hE'
 have hoff':off=0:=by
  have:(some 0:Option Nat)=some off:=by rw[←hoff];rw[qI];rfl
  injection this with this;exact this.symm
 subst hoff'
 have hp':v=.slice (some ⟨b,0,none⟩) xs.length (l.length-0):=by
  have:[Value.slice (some ⟨b,0+0*1,none⟩) xs.length (l.length-0)]=[v]:=hp
  simpa using this.symm
 subst hp'
 obtain ⟨hcs,hrg⟩:=Ln hr
 have hbs:b<w.heap.size:=(Array.getElem?_eq_some_iff.1 hb).1
 have hH:Holds (Value.int .i64) w b 0 xs.toArray:=fun j hj=>by
  simp only[List.size_toArray] at hj
  constructor
  ·simp only[World.cell?,hb,Option.isSome_none,Bool.false_eq_true,if_false,Nat.zero_add]
   rw[←Array.getElem?_toList,hcs]
   rw[List.map_append,List.getElem?_append_left (by simpa using hj)]
   simp[hj]
  ·simp[World.frozen?,hb]
 have hlen:(eb xs).length=xs.length:=by simp[eb]
 refine (Any.slices_Sort_int Ik b 0 (l.length-0) xs w hH hbs (by omega)).mono ?_
 rintro e w' ⟨rfl,n,os,rfl⟩
 have hb1:(putRow (Value.int .i64) (Sort.ahead w n) b 0 (eb xs).toArray).heap[b]?=some (.cells (putCells (Value.int .i64) 0 (eb xs).toArray cs) T (0,0)):=by
  simp[putRow,mapBlock,Sort.ahead,Array.getElem?_modify,hb,onCells]
 have hother:∀ k,k<w.heap.size→k≠b→(grow (putRow (Value.int .i64) (Sort.ahead w n) b 0 (eb xs).toArray) os).heap[k]?=w.heap[k]?:=fun k hk hkb=>by
  rw[heap_grow_old _ _ (by simpa[Sort.ahead] using hk)]
  simp[putRow,mapBlock,Sort.ahead,Array.getElem?_modify,Ne.symm hkb]
 have hb2:(grow (putRow (Value.int .i64) (Sort.ahead w n) b 0 (eb xs).toArray) os).heap[b]?=some (.cells (putCells (Value.int .i64) 0 (eb xs).toArray cs) T (0,0)):=by
  rw[heap_grow_old _ _ (by simpa[Sort.ahead] using hbs)];exact hb1
 have hsz:w.heap.size≤(grow (putRow (Value.int .i64) (Sort.ahead w n) b 0 (eb xs).toArray) os).heap.size:=by simp[Sort.ahead]
 have hshow:(grow (putRow (Value.int .i64) (Sort.ahead w n) b 0 (xs.mergeSort fun x y=>decide (x≤y)).toArray) os)=(grow (putRow (Value.int .i64) (Sort.ahead w n) b 0 (eb xs).toArray) os):=rfl
 rw[hshow]
 have hw1:(grow (putRow (Value.int .i64) (Sort.ahead w n) b 0 (eb xs).toArray) os).os=w.os:=rfl
 have hw2:(grow (putRow (Value.int .i64) (Sort.ahead w n) b 0 (eb xs).toArray) os).tape=w.tape:=rfl
 have hw3:(grow (putRow (Value.int .i64) (Sort.ahead w n) b 0 (eb xs).toArray) os).output=w.output:=rfl
 revert hother hb2 hsz hw1 hw2 hw3
 generalize grow (putRow (Value.int .i64) (Sort.ahead w n) b 0 (eb xs).toArray) os=w2
 intro hother hb2 hsz hw1 hw2 hw3
 have hmem:∀ x∈eb xs++q,IntKind.i64.min≤x∧x≤IntKind.i64.max:=fun x hx=>hrg x (by
  rcases List.mem_append.1 hx with h | h
  ·exact List.mem_append_left _ (by simpa[eb] using h)
  ·exact List.mem_append_right _ h)
 refine ⟨.tuple #[],D,E,.tuple [],cu 1000000 (eb xs++q),rfl,⟨rfl,rfl⟩,⟨[],rfl,rfl⟩,⟨fun m =>?_,hO.cT⟩,⟨hw1,hw2,hw3,hsz,fun k hk =>?_⟩,fun _ _ h=>h,fun b0 o h=>Nat.lt_of_lt_of_le (hD b0 o h) hsz,fun _ _ h _ _=>h,fun m e h _=>⟨e,h,bR.le.refl e⟩,⟨fun b0 o aq hd hc =>?_,fun b0 es ck hd hc =>?_⟩⟩
 ·by_cases hm:m=1000000
  ·subst hm
   simp only[cu,al,if_true]
   refine ⟨b,_,T,?_,.inr ⟨1000000,_,aw,rfl⟩,hb2,?_,hnD⟩
   ·rw[aw,qI,qI,List.length_append,List.length_append,hlen]
   ·show aH w2 D E _ _
    rw[aiE hlen hcs]
    exact qB hmem
  ·simp only[cu,al,if_neg hm,c5]
   exact hEn m hm
 ·by_cases hk2:k<w.heap.size
  ·exact hother k hk2 fun e=>hk (.inr ⟨1000000,_,aw,by rw[e];rfl⟩)
  ·exact absurd (.inl (Nat.le_of_not_lt hk2)) hk
 ·have hne:b0≠b:=fun e=>hnD o (e▸hd)
  simp only[World.cell?,hother b0 (hD b0 o hd) hne] at hc ⊢
  exact hc
 ·have hne:b0≠b:=fun e=>hnD 0 (e▸hd)
  rw[hother b0 (hD b0 0 hd) hne];exact hc
theorem ME(v:I)(hv0:v=.nils 1∨v=enc ([]:List Int)):az Tryz.prog 107 [v] (.tuple []):=by
 refine ⟨Bt,fun w D vs hD hv =>?_⟩
 simp only[aG] at hv
 obtain ⟨aq,rest,cs',rfl,hp,hr',rfl⟩:=hv
 have hu:∃ a cap,aq=.slice a 0 cap:=by
  rcases hv0 with rfl | rfl
  ·have h1:cs'=[.slice none 0 0]:=hr'
   have h2:cs'=[aq]:=hp
   rw[h1] at h2
   exact ⟨none,0,by simpa using h2.symm⟩
  ·obtain ⟨a,cap,h1,_⟩:=hr'
   have h2:cs'=[aq]:=hp
   rw[h1] at h2
   exact ⟨a,cap,by simpa using h2.symm⟩
 obtain ⟨a,cap,rfl⟩:=hu
 refine (Any.slices_Sort_int_none Ik a cap w).mono ?_
 rintro e w' ⟨rfl,rfl⟩
 exact ⟨.tuple #[],D,rfl,⟨[],rfl,rfl⟩,⟨rfl,rfl,rfl,Nat.le_refl _,fun _ _=>rfl⟩,hD,fun _ _ h _=>h⟩
end Go.Proofs.YtcldiigclhgafaaGreat
namespace Go.Proofs.YtcldiigclhgafaaGreat
open Go Go.Abs
open Go.Abs.Enc (enc)
theorem sj{os os2 ow:List (Nat×ai)}{ts:List (Nat×I)}(h:fk os os2)(how:∀ m,au ow m=true→m<1000000):∀ n x,al os2 n=some x→(av ts (ow++os2)).o n=some x∧x.only (au os2)=true∧x.eC=true:=fun n x hx=>by
 have hn:au os2 n=true:=by simp[au,hx]
 have hg:=h.nu n (by rw[←h.same];exact hn)
 refine ⟨?_,h.ok n x hx⟩
 simp only[av,jU]
 cases hw:al ow n with
 |none=>exact hx
 |some y=>have:=how n (by simp[au,hw]);omega
theorem ajA{A:af}{n:Nat}{b:I}{v aq:bL 6 Int}{rest:List aB} : dY A (some 6) n [] b (enc v) rest (some (enc aq))=aC rest (A.aR n (.box (enc v))):=by
 rw[fq (dz _) (by rw[gK];rfl) ((fm _).trans (fm _).symm),gh]
theorem I2{α:Type}[Enc α](l:List α):bZ none (enc l)=true:=by simp[lL,mI]
theorem o5:(∀ (x:I) xs (f:I→Bool),(x::xs).all f=(f x&&xs.all f))∧(∀ f:I→Bool,([]:List I).all f=true)∧(∀ n p,(I.ptr n p).cq=true)∧(∀ b,(true&&b)=b) :=
 ⟨fun _ _ _=>List.all_cons,fun _=>List.all_nil,fun _ _=>rfl,fun _=>rfl⟩
theorem pk:∀ m,au [] m=true→m<1000000:=fun m h=>by simp[au,al] at h
theorem Nh(l:List ak)(hl:l.length≤60):ud Tryz.prog 178 [.ref (enc l)] l.length (fun k=>[.int .i64 ((l.length-1-k:Nat):Int),enc (ae l (l.length-1-k))]):=by
 intro Y v aj Ix os hv hY hI hIx h0
 have hG:=hI 0 os h0
 refine j8.bn Tryz.func178 Bx Sc Uo (Nat.le_of_ble_eq_true rfl) (Nat.le_of_ble_eq_true rfl) hG.nu (fun hwf W0 D0 E1 =>?_)
 simp only[Av,Kp,bg,Nat.zero_add]
 refine .ar (by decide +kernel) fun K hK =>?_
 simp only[Fu,ab,simprocAttr]
 try simp only[bI,aP,ab,simprocAttr]
 rw[cN ((l.length:Int)-1) (by omega) (by omega)]
 refine .done (hK _ ?_);clear hK K
 refine U.block (U.loop (fun s:Nat×List (Nat×ai)=>av [(0,.raw v),(1,.ref (enc l)),(3,.int .i64 ((l.length:Int)-1-s.1))] s.2) (fun s=>s.1≤l.length∧aj s.1 s.2) (fun s=>l.length-s.1) (0,os) ⟨Nat.zero_le _,h0⟩ ?_ ?_)
 ·refine aI.c7 ?_ (fun n=>rfl)
  simp[bd,bh]
 rintro ⟨k,osk⟩ ⟨hk,hIk⟩
 simp only at hk hIk ⊢
 have gk:=hI k osk hIk
 refine U.seq (U.seq ?_)
 refine .bP (by decide +kernel) fun K hK =>?_
 simp only[Fv,ab,simprocAttr]
 refine .done (hK _ ?_);clear hK K;try simp only[ay]
 refine U.bM ?_
 simp only[ao,ab,simprocAttr]
 refine ⟨fun h =>?_,fun h =>?_⟩
 ·have hlt:k<l.length:=by simp at h;omega
  have hix:((l.length:Int)-1-k)=((l.length-1-k:Nat):Int):=by omega
  rw[hix]
  refine U.skip ?_;try simp only[ay,simprocAttr]
  refine U.seq (U.block (U.seq ?_))
  refine .bP (by decide +kernel) fun K hK =>?_
  simp only[Fw,ab,simprocAttr]
  try simp only[aP,gv (l:=l) (i:=l.length-1-k) (by omega),BC,ab,simprocAttr]
  refine a6.Mu (ow:=[]) (In:=aj (k+1)) (Ix:=Ix) (hY k osk _ hlt hIk (fun r os2 h=>h)) gk (hI _) hIx (by simp[I.bV,dO,I.bu]) pk (fun os2 h2 =>?_) (fun os2 h2 =>?_)
  ·try simp only[List.nil_append,ab,simprocAttr]
   refine .done (hK _ ?_);clear hK K;try simp only[ay]
   refine U.bM ?_
   simp only[ao,ab,simprocAttr]
   refine ⟨fun h =>?_,fun h =>?_⟩
   ·cases h
   refine U.skip ?_;try simp only[ay,cg,simprocAttr]
   refine .bP (by decide +kernel) fun K hK =>?_
   simp only[Fx,ab,simprocAttr]
   refine .done (hK _ ?_);clear hK K;try simp only[ay]
   refine ⟨(k+1,os2),⟨by simp only;omega,h2⟩,by simp only;omega,?_⟩
   simp only
   rw[cN _ (by omega) (by omega)]
   have e:(((l.length-1-k:Nat):Int)-1)=((l.length:Int)-1-((k+1:Nat):Int)):=by omega
   rw[e]
   refine aI.c7 ?_ (fun n=>rfl)
   simp[bd,bh]
  ·try simp only[List.nil_append,ab,simprocAttr]
   refine .done (hK _ ?_);clear hK K;try simp only[ay]
   refine U.bM ?_
   simp only[ao,ab,simprocAttr]
   refine ⟨fun h =>?_,fun h =>?_⟩
   ·refine U.ret ?_
    simp only[ay,cg]
    rw[eL]
    exact ⟨os2,[],sj (ow:=[]) (hIx os2 h2) pk,trivial,rfl,.inr h2⟩
   ·cases h
 ·have he:k=l.length:=by simp at h;omega
  subst he
  refine U.exit ?_;try simp only[ay,cg,simprocAttr]
  rw[ly]
  exact ⟨osk,[],sj (ow:=[]) gk pk,trivial,rfl,.inl hIk⟩
def iW(p:Nat→Bool)(n:Nat):List Nat:=(List.range n).filter p
theorem Mm(p:Nat→Bool)(n:Nat):iW p (n+1)=iW p n++(if p n then [n] else []):=by
 simp only[iW,List.range_succ,List.filter_append,List.filter_cons,List.filter_nil]
theorem ajR{p:Nat→Bool}{i n:Nat}(hp:p i=true)(hi:i<n):(iW p i).length<(iW p n).length∧(iW p n).getD (iW p i).length 0=i:=by
 induction n with
 |zero=>omega
 |succ n ih =>
  rw[Mm]
  by_cases e:i=n
  ·subst e
   simp[hp]
  ·obtain ⟨h1,h2⟩:=ih (by omega)
   refine ⟨by rw[List.length_append];omega,?_⟩
   rw[List.getD_eq_getElem?_getD,List.getElem?_append_left h1,←List.getD_eq_getElem?_getD]
   exact h2
theorem MT(l:List ak)(bs:List Bool)(hl:l.length≤60)(hb:bs.length=l.length) :
  ud Tryz.prog 146 [.ref (enc l),.ref (enc bs)] (iW (fun i=>bs.getD i false) l.length).length (fun k=>[.int .i64 (((iW (fun i=>bs.getD i false) l.length).getD k 0:Nat):Int)]):=by
 intro Y v aj Ix os hv hY hI hIx h0
 have hG:=hI 0 os h0
 refine j8.bn Tryz.func146 Bv RO TY (Nat.le_of_ble_eq_true rfl) (Nat.le_of_ble_eq_true rfl) hG.nu (fun hwf W0 D0 E1 =>?_)
 simp only[z1,J1,bg,Nat.zero_add,Nat.reduceAdd]
 refine .ar (by decide +kernel) fun K hK =>?_
 simp only[DZ,ab,simprocAttr]
 try simp only[bI,aP,ab,simprocAttr]
 refine .done (hK _ ?_);clear hK K
 refine U.block (U.loop (fun s:Nat×List (Nat×ai)=>av [(0,.raw v),(1,.ref (enc l)),(2,.ref (enc bs)),(6,.int .i64 l.length),(7,.int .i64 s.1)] s.2) (fun s=>s.1≤l.length∧aj (iW (fun i=>bs.getD i false) s.1).length s.2) (fun s=>l.length-s.1) (0,os) ⟨Nat.zero_le _,h0⟩ ?_ ?_)
 ·refine aI.c7 ?_ (fun n=>rfl)
  simp[bd,bh]
 rintro ⟨i,osk⟩ ⟨hi,hIk⟩
 simp only at hi hIk ⊢
 have gk:=hI _ osk hIk
 refine .ar (by decide +kernel) fun K hK =>?_
 simp only[D4,ab,simprocAttr]
 refine .done (hK _ ?_);clear hK K
 refine U.seq ?_
 by_cases hlt:i<l.length
 ·have hc:=fY hlt
  have hbi:∀ A,jf A 1 (i:Int) (enc bs)=some (.ref (.bool (bs.getD i false))):=fun A=>by
   rw[gw 1 (by omega) rfl,List.getD_eq_getElem?_getD,List.getElem?_eq_getElem (by omega)];rfl
  simp only[hc]
  refine U.bM ?_
  simp only[ao,ab,simprocAttr]
  refine ⟨fun h =>?_,fun h =>?_⟩
  case refine_2=>cases h
  refine U.skip ?_;try simp only[ay,simprocAttr]
  refine U.seq (U.block ?_)
  refine .ar (by decide +kernel) fun K hK =>?_
  simp only[D5,ab,simprocAttr]
  refine .done (hK _ ?_);clear hK K
  refine U.seq ?_
  have hsu:=Mm (fun i=>bs.getD i false) i
  cases hbv:bs.getD i false with
  |false =>
   rw[hbv] at hbi
   refine .bP (by decide +kernel) fun K hK =>?_
   simp only[vG,ab,simprocAttr]
   try simp only[hbi,I2,ab,simprocAttr]
   refine .done (hK _ ?_);clear hK K;try simp only[ay]
   refine U.bM ?_
   simp only[ao,ab,simprocAttr]
   refine ⟨fun h =>?_,fun h =>?_⟩
   ·cases h
   refine U.skip ?_;try simp only[ay,cg,simprocAttr]
   refine .bP (by decide +kernel) fun K hK =>?_
   simp only[vH,ab,simprocAttr]
   refine .done (hK _ ?_);clear hK K;try simp only[ay]
   refine ⟨(i+1,osk),⟨by simp only;omega,?_⟩,by simp only;omega,?_⟩
   ·simp only[hsu,hbv,Bool.false_eq_true,if_false,List.append_nil];exact hIk
   ·simp only
    rw[fF (by omega)]
    refine aI.c7 ?_ (fun n=>rfl)
    simp[bd,bh]
  |true =>
   rw[hbv] at hbi
   obtain ⟨g1,g2⟩:=ajR (p:=fun i=>bs.getD i false) hbv hlt
   have hsl:(iW (fun i=>bs.getD i false) (i+1)).length=(iW (fun i=>bs.getD i false) i).length+1:=by rw[hsu,hbv];simp
   have hy:=hY _ osk _ g1 hIk (fun r os2 h=>h)
   simp only at hy
   rw[g2] at hy
   refine .bP (by decide +kernel) fun K hK =>?_
   simp only[vG,ab,simprocAttr]
   try simp only[hbi,I2,BC,ab,simprocAttr]
   refine a6.Mu (ow:=[]) (In:=aj ((iW (fun i=>bs.getD i false) i).length+1)) (Ix:=Ix) hy gk (hI _) hIx rfl pk (fun os2 h2 =>?_) (fun os2 h2 =>?_)
   ·try simp only[List.nil_append,ab,simprocAttr]
    refine .done (hK _ ?_);clear hK K;try simp only[ay]
    refine U.bM ?_
    simp only[ao,ab,simprocAttr]
    refine ⟨fun h =>?_,fun h =>?_⟩
    ·cases h
    refine U.skip ?_;try simp only[ay,cg,simprocAttr]
    refine .bP (by decide +kernel) fun K hK =>?_
    simp only[vH,ab,simprocAttr]
    refine .done (hK _ ?_);clear hK K;try simp only[ay]
    refine ⟨(i+1,os2),⟨by simp only;omega,?_⟩,by simp only;omega,?_⟩
    ·simp only[hsl];exact h2
    ·simp only
     rw[fF (by omega)]
     refine aI.c7 ?_ (fun n=>rfl)
     simp[bd,bh]
   ·try simp only[List.nil_append,ab,simprocAttr]
    refine .done (hK _ ?_);clear hK K;try simp only[ay]
    refine U.bM ?_
    simp only[ao,ab,simprocAttr]
    refine ⟨fun h =>?_,fun h =>?_⟩
    ·refine U.ret ?_
     simp only[ay,cg]
     rw[eL]
     exact ⟨os2,[],sj (ow:=[]) (hIx os2 h2) pk,trivial,rfl,.inr h2⟩
    ·cases h
 ·have hc:=gp hlt
  simp only[hc]
  refine U.bM ?_
  simp only[ao,ab,simprocAttr]
  refine ⟨fun h =>?_,fun h =>?_⟩
  ·cases h
  have he:i=l.length:=by omega
  subst he
  refine U.exit ?_;try simp only[ay,cg,simprocAttr]
  rw[ly]
  exact ⟨osk,[],sj (ow:=[]) gk pk,trivial,rfl,.inl hIk⟩
theorem MS(l:List ak):az Tryz.prog 145 [enc l] (.func 178 [.ref (enc l)]):=by
 refine az.bn Tryz.func145 PR RN TX (Nat.le_of_ble_eq_true rfl) (fun hwf W0 D0 E1 =>?_)
 simp only[zZ,J0,bg]
 have R:=And.intro @o5 (And.intro @aP (And.intro @dO @ab))
 repeat' ((first
  |(with_reducible refine .guard (fun hb =>?_) (fun hb =>?_) <;>try simp only[hb])
  |refine U.aL (by decide +kernel) rfl fun K hK =>?_
  |(refine .aF [0,1,2] hK ?_;clear hK K)
  |(with_reducible refine .done (hK _ ?_);clear hK K)
  |refine U.of rfl ?_
  |(with_reducible refine ao.aK (fun h =>?_) (fun h =>?_) <;>try simp only[h])) <;>try simp only[aM,R,simprocAttr])
 all_goals clear R
 all_goals rfl
def gX(l:List ak)(known:Int)(ks:List Item)(bs:List Bool):List (Nat×ai) :=
 [(1000002,.box (enc l)),(1000003,.box (.int .i64 known)),(1000005,.box (.mref 1000009)),(1000006,.box (.view 1000012 [] 1 0 l.length)),(1000009,.ct (ks.map enc) (List.replicate ks.length (.bool true))),(1000012,.box (.agg (bs.map enc)))]
theorem xF(p:Nat→Bool)(n:Nat)(b:Bool):I.bU p (List.replicate n (.bool b))=true:=by
 induction n with
 |zero=>rfl
 |succ n ih=>simp[List.replicate_succ,I.bU,I.only,ih]
theorem aiP(ρ:Nat→Nat)(n:Nat)(b:Bool):I.cW ρ (List.replicate n (.bool b))=List.replicate n (.bool b):=by
 induction n with
 |zero=>rfl
 |succ n ih=>simp only[List.replicate_succ,I.cW,I.aS,ih]
theorem ajx(l:List ak)(known:Int)(ks:List Item)(bs:List Bool)(l':List ak)(known':Int)(ks':List Item)(bs':List Bool):fk (gX l known ks bs) (gX l' known' ks' bs'):=by
 refine ⟨fun n=>by simp only[gX,au,al];(repeat' split) <;>rfl,fun n x h =>?_,fun n h =>?_⟩
 ·simp only[gX,al] at h
  repeat' split at h
  all_goals first | (cases h;done) | (simp only[Option.some.injEq] at h;subst h;exact ⟨by simp[gX,au,al,ai.only,bG,I.only,ev,xF],rfl⟩)
 ·simp only[gX,au,al] at h
  repeat' split at h
  all_goals first | omega | (simp at h;done)
def tz(l:List ak)(known:Int)(k:Nat)(ks:List Item)(bs:List Bool):Prop :=
 bs=List.replicate (l.length-k) false++(jt known (l.drop (l.length-k))).1∧∀ a,a∈ks↔a∈(jt known (l.drop (l.length-k))).2
theorem yh:(∀ (A:af) n b m rest,dY A none n [] b (.mref m) rest (some (.raw (.map none)))=aC rest (A.aR n (.box (.mref m))))∧(∀ (A:af) n b m p z lo k z2 rest,dY A none n [] b (.view m p z lo k) rest (some (.nils z2))=aC rest (A.aR n (.box (.view m p z lo k)))) ∧
  (∀ (A:af) n b m p z lo k m' p' z' lo' k' rest,dY A none n [] b (.view m p z lo k) rest (some (.view m' p' z' lo' k'))=aC rest (A.aR n (.box (.view m p z lo k)))) :=
 ⟨fun _ _ _ _ _=>by rw[fq (s:=none) (v:=.mref _) (old:=.raw _) rfl rfl rfl,gh],fun _ _ _ _ _ _ _ _ _ _=>by rw[fq (s:=none) (v:=.view ..) (old:=.nils _) rfl rfl rfl,gh],fun _ _ _ m p z lo k m' p' z' lo' k' _=>by rw[fq (s:=none) (v:=.view m p z lo k) (old:=.view m' p' z' lo' k') rfl rfl rfl,gh]⟩
theorem yi(known:Int):∀ l:List ak,(jt known l).1.length=l.length
 | []=>rfl
 |x::l=>by simp only[jt,List.length_cons,yi known l]
theorem L4{l:List ak}{known:Int}{k:Nat}{ks:List Item}{bs:List Bool}(h:tz l known k ks bs)(hk:k≤l.length):bs.length=l.length:=by
 rw[h.1,List.length_append,List.length_replicate,yi,List.length_drop];omega
def qt(l:List ak)(known:Int)(i:Nat)(ks:List Item):Bool:=decide ((ae l i).known≤known) && !decide ((ae l i).bj∈ks)
theorem ajv{l:List ak}{known:Int}{k i:Nat}{ks:List Item}{bs:List Bool}(hk:k<l.length)(hi:i=l.length-1-k)(h:tz l known k ks bs) :
  tz l known (k+1) (if (qt l known i ks&&((ae l i).kind==0))=true then mA ks (ae l i).jW else ks) (bs.set i (qt l known i ks)):=by
 have hkd:((ae l i).kind==0)=decide ((ae l i).kind=0):=rfl
 rw[hkd]
 obtain ⟨h1,h2⟩:=h
 have e1:l.length-k=i+1:=by omega
 have e2:l.length-(k+1)=i:=by omega
 rw[e1] at h1 h2
 have hil:i<l.length:=by omega
 have hd:l.drop i=ae l i::l.drop (i+1):=by rw[List.drop_eq_getElem_cons hil,eA hil]
 have hb:qt l known i ks=(decide ((ae l i).known≤known) && !(jt known (l.drop (i+1))).2.contains (ae l i).bj):=by
  simp only[qt]
  congr 2
  rw[Bool.eq_iff_iff,decide_eq_true_eq,List.contains_iff_mem]
  exact h2 _
 refine ⟨?_,fun a =>?_⟩
 ·rw[e2,hd,h1]
  simp only[jt,←hb]
  rw[List.replicate_succ',List.append_assoc,List.set_append_right _ _ (by simp)]
  simp
 ·rw[e2,hd]
  simp only[jt,←hb]
  split
  ·rw[agF,List.mem_cons,h2]
  ·exact h2 a
theorem MC(l:List ak)(known:Int)(hl:l.length≤60):az Tryz.prog 105 [enc l,enc known] (.func 146 [.ref (enc l),.ref (enc (kD l known))]):=by
 refine az.bn Tryz.func105 Pl Ri Ts (Nat.le_of_ble_eq_true rfl) (fun hwf W0 D0 E1 =>?_)
 simp only[zr,Jv,bg,Nat.zero_add]
 clear hwf
 refine .ar (by decide +kernel) fun K hK =>?_
 simp only[CT,ab,simprocAttr]
 try simp only[aP,ab,simprocAttr]
 refine .done (hK _ ?_);clear hK K
 refine .ar (by decide +kernel) fun K hK =>?_
 simp only[CU,ab,simprocAttr]
 try simp only[ew,yh,ab,simprocAttr]
 refine .done (hK _ ?_);clear hK K
 refine .ar (by decide +kernel) fun K hK =>?_
 simp only[CV,ab,simprocAttr]
 try simp only[ew,bI,aP,ab,simprocAttr]
 rw[agL (by omega) (by simp[maxLen];omega)]
 try simp only[yh,ab,simprocAttr]
 refine .done (hK _ ?_);clear hK K
 refine U.seq (U.seq ?_)
 refine .bP (by decide +kernel) fun K hK =>?_
 simp only[CW,ab,simprocAttr]
 try simp only[aP,ab,simprocAttr]
 refine .lead _ (MS l) ?_
 try simp only[ab,simprocAttr]
 refine .done (hK _ ?_);clear hK K;try simp only[ay]
 refine U.block (U.kz (osb0:=gX l known [] (List.replicate l.length false)) (tsR:=[(2,.ptr 1000002 []),(3,.ptr 1000003 []),(5,.ptr 1000005 []),(6,.ptr 1000006 [])]) (ρ:=[(1999999,999999),(1000002,2),(1000003,3),(1000005,5),(1000006,6),(1000009,9),(1000012,12)])
  (fun k os=>∃ ks bs,os=gX l known ks bs∧tz l known k ks bs)
  (fun _ _=>False)
  rfl (Nat.le_of_ble_eq_true rfl) (by simp only[ab,simprocAttr]) (by simp[I.bV,I.bu,dO]) Bx (Nh l hl) (fun _=>rfl) rfl rfl rfl (fun o=>⟨?_,?_⟩) ?_ ?_ ?_ ⟨[],_,rfl,?_⟩ ?_ ?_ ?_)
 ·intro n x hx
  simp only[dE,gX,al] at hx
  repeat' split at hx
  all_goals first | (cases hx;done) | (subst_vars;simp only[Option.some.injEq] at hx;subst hx;simp[dE,gX,au,bF,al,ai.aS,I.aS,I.cW,gL,ai.only,I.only,I.bU,bG,ai.eC,xF,aiP,B7])
 ·intro a b ha hb
  simp only[dE,gX,au,al] at ha hb
  repeat' split at ha
  all_goals first | (simp at ha;done) | skip
  all_goals (repeat' split at hb)
  all_goals first | (simp at hb;done) | (subst_vars;simp[bF])
 ·simp[mq,bh,I.aS,bF,I.only,gX,au,al]
 ·rintro k os ⟨ks,bs,rfl,_⟩;exact ajx ..
 ·rintro e os h;exact h.elim
 ·exact ⟨by simp[jt],fun a=>by simp[jt]⟩
 ·rintro k osb hk ⟨ks,bs,rfl,hst⟩ W1 D1 E1 agi o1 o2
  have hbl:=L4 hst (Nat.le_of_lt hk)
  obtain ⟨i,hi⟩:∃ i,i=l.length-1-k:=⟨_,rfl⟩
  have hil:i<bs.length:=by omega
  have hil2:i<l.length:=by omega
  have hstep:=ajv hk hi hst
  have hv:∀ fs,lh 1000012 [] 1 0 l.length 1 (i:Int) (some fs)=some (.ptr 1000012 [i]):=fun fs=>by
   have:=wS (m:=1000012) (sz:=1) (lo:=0) (l:=l.length) (i:=i) (fs:=fs) hil2
   rwa [Nat.zero_add] at this
  have hat2:∀ b,jw i [] (some ((bs.set i b).map enc))=some (.bool b):=fun b=>by
   rw[zg (by simpa using hil)]
   simp[List.getD_eq_getElem?_getD,hil]
  have hset:=fun (A:af) v aq rest=>ajB (A:=A) (n:=1000012) hil v aq rest
  have hat:=zg hil
  have hlk:=agu pV (ae l i).bj ks
  simp only[qA,dE,gX,←hi]
  have R:=And.intro @aP @ab
  repeat' ((first
   |(with_reducible refine .guard (fun hb =>?_) (fun hb =>?_) <;>try simp only[hb])
   |refine U.aL (by decide +kernel) rfl fun K hK =>?_
   |(refine .aF [0,1,2,3,4,5,6,7,8,14,15,16,39] hK ?_;clear hK K)
   |(with_reducible refine .done (hK _ ?_);clear hK K)
   |refine U.of rfl ?_
   |(with_reducible refine ao.aK (fun h =>?_) (fun h =>?_) <;>try simp only[h])) <;>try simp only[aM,R,simprocAttr])
  all_goals clear R
  refine ⟨by simp[],?_⟩
  rcases h1:decide ((ae l i).known≤known) <;>rcases h2:decide ((ae l i).bj∈ks) <;>rcases h3:(ae l i).kind==0
  all_goals
   simp only[qt,h1,h2,h3,Bool.not_true,Bool.not_false,Bool.and_true,Bool.and_false,Bool.false_eq_true,if_true,if_false] at hstep
   have hup:=agS pV (ae l i).jW ks
   try simp only[ab,simprocAttr]
   have R:=And.intro @h1 (And.intro @h2 (And.intro @h3 (And.intro @hv (And.intro @hset (And.intro @hat (And.intro @hat2 (And.intro @hlk (And.intro @hup (And.intro @eK (And.intro @yh (And.intro @ew (And.intro @c9 (And.intro @bI (And.intro @aP @ab))))))))))))))
   repeat' ((first
    |(with_reducible refine .guard (fun hb =>?_) (fun hb =>?_) <;>try simp only[hb])
    |refine U.aL (by decide +kernel) rfl fun K hK =>?_
    |(refine .aF [0,1,2,3,4,5,6,7,8,14,15,16,39] hK ?_;clear hK K)
    |(with_reducible refine .done (hK _ ?_);clear hK K)
    |refine U.of rfl ?_
    |(with_reducible refine ao.aK (fun h =>?_) (fun h =>?_) <;>try simp only[h])) <;>try simp only[aM,R,simprocAttr])
   all_goals clear R
   generalize bs.set i _=akc at hstep ⊢
   try generalize mA ks _=ks2 at hstep ⊢
   refine ⟨gX l known _ _,?_,_,_,rfl,hstep⟩
   intro n x hx
   simp only[dE,gX,al] at hx
   (repeat' split at hx) <;>first
    |(cases hx;done)
    |(subst_vars;simp only[Option.some.injEq] at hx;subst hx;simp[gX,dE,au,av,al,ai.only,I.only,bG,ai.eC,ev,xF])
 ·rintro os ⟨ks,bs,rfl,hst⟩
  have hbs:bs=kD l known:=by
   have:=hst.1
   simpa[kD] using this
  have hbl:=L4 hst (Nat.le_refl _)
  try simp only[gX,fK,gL,fS,List.cons_append,List.nil_append,ay,cg,simprocAttr]
  have R:=And.intro @o5 (And.intro @aP @ab)
  repeat' ((first
   |(with_reducible refine .guard (fun hb =>?_) (fun hb =>?_) <;>try simp only[hb])
   |refine U.aL (by decide +kernel) rfl fun K hK =>?_
   |(refine .aF [0,1,2,3,4,5,6,7,8,14,15,16,39] hK ?_;clear hK K)
   |(with_reducible refine .done (hK _ ?_);clear hK K)
   |refine U.of rfl ?_
   |(with_reducible refine ao.aK (fun h =>?_) (fun h =>?_) <;>try simp only[h])) <;>try simp only[aM,R,simprocAttr])
  all_goals clear R
  have hfd:=fun A (ho:A.o 12=some (.box (.agg (bs.map enc))))=>W2 (A:=A) (m:=8) (n:=12) (sz:=1) ho rfl hbl.symm
  try simp only[hZ,ab,simprocAttr]
  rw[hfd _ rfl]
  try simp only[hbs,ab,simprocAttr]
 ·rintro e os h;exact h.elim
def fV(l:List ak)(x:Int):Int:=(ae l x.toNat).day
def je(l:List ak)(x:Int):Prop:=0≤x∧x<l.length
def lK(l:List ak):Prop:=∀ i,i<l.length→0≤(ae l i).day∧(ae l i).day≤100000
def dI(l:List ak)(x y:Int):Prop:=fV l x<fV l y∨(fV l x=fV l y∧x<y)
def df(l:List ak)(s:List Int):Prop:=s.Pairwise (dI l)
theorem xa{l:List ak}{x y z:Int}(h:dI l x y)(k:dI l y z):dI l x z:=by
 simp only[dI] at *;omega
theorem sE{l:List ak}{x y:Int}(h:y<x):dI l x y↔fV l x<fV l y:=by
 simp only[dI];omega
theorem sD{l:List ak}{x y:Int}(h:y<x)(k:¬ fV l x<fV l y):dI l y x:=by
 simp only[dI];omega
theorem qW(l:List ak)(hd:lK l)(hl:l.length≤60)(x y:Int)(hx:je l x)(hy:je l y):az Tryz.prog 138 [.int .i64 x,.int .i64 y,.ref (enc l)] (.int .i64 (fV l x-fV l y)):=by
 refine az.bn Tryz.func138 PK RH TR (Nat.le_of_ble_eq_true rfl) (fun hwf W0 D0 E1 =>?_)
 simp only[zT,JU,bg,Nat.zero_add,Nat.reduceAdd]
 clear hwf
 obtain ⟨i,rfl⟩:∃ i:Nat,x=i:=⟨x.toNat,by have:=hx.1;omega⟩
 obtain ⟨k,rfl⟩:∃ k:Nat,y=k:=⟨y.toNat,by have:=hy.1;omega⟩
 have hi:i<l.length:=by have:=hx.2;omega
 have hk:k<l.length:=by have:=hy.2;omega
 have v1:=gv hi
 have v2:=gv hk
 have d1:=hd i hi
 have d2:=hd k hk
 have hw:IntKind.i64.wrap ((ae l i).day-(ae l k).day)=(ae l i).day-(ae l k).day:=cN _ (by omega) (by omega)
 have R:=And.intro @v1 (And.intro @v2 (And.intro @hw (And.intro @aP @ab)))
 repeat' ((first
  |(with_reducible refine .guard (fun hb =>?_) (fun hb =>?_) <;>try simp only[hb])
  |refine U.aL (by decide +kernel) rfl fun K hK =>?_
  |(refine .aF [0,1,2,5] hK ?_;clear hK K)
  |(with_reducible refine .done (hK _ ?_);clear hK K)
  |refine U.of rfl ?_
  |(with_reducible refine ao.aK (fun h =>?_) (fun h =>?_) <;>try simp only[h])) <;>try simp only[aM,R,simprocAttr])
 all_goals clear R
 simp only[fV,Int.toNat_natCast]
theorem ajJ{A C:List Int}{x y:Int}{i j:Nat}(hj:A.length=j)(hi:j+1=i):j5 (A++y::x::C) i j=A++x::y::C:=by
 subst hj hi
 have e1:(A++y::x::C).getD A.length 0=y:=by simp[List.getD_eq_getElem?_getD]
 have e2:(A++y::x::C).getD (A.length+1) 0=x:=by
  rw[List.getD_eq_getElem?_getD,List.getElem?_append_right (by omega)]
  simp
 simp only[j5,e1,e2]
 rw[List.set_append_right _ _ (by omega)]
 have:A.length+1-A.length=1:=by omega
 rw[this,List.set_append_right _ _ (by omega),Nat.sub_self]
 simp
theorem ajL{A C:List Int}{x y:Int}{i j:Nat}(hi:A.length=i)(hj:i+1=j):j5 (A++x::y::C) i j=A++y::x::C:=by
 have:=Mi (A:=A) (B:=[]) (C:=C) (x:=x) (y:=y) (i:=i) (j:=j) hi (by simp;omega)
 simpa using this
def dV(p t rest:List Int)(x:Int)(c:Nat):List Int:=p++(t.take c++x::t.drop c)++rest
theorem wN{p t rest:List Int}{x:Int}{c:Nat}(hc:c≤t.length):(dV p t rest x c).length=p.length+t.length+1+rest.length:=by
 simp only[dV,List.length_append,List.length_take,List.length_cons,List.length_drop];omega
theorem afM{p t rest:List Int}{x:Int}{c a:Nat}(ha:p.length=a)(hc:c≤t.length):(dV p t rest x c).getD (a+c) 0=x:=by
 subst ha
 have hl:(t.take c).length=c:=by rw[List.length_take];omega
 simp only[dV]
 rw[List.getD_eq_getElem?_getD,List.append_assoc,List.getElem?_append_right (by omega)]
 have:p.length+c-p.length=c:=by omega
 rw[this,List.append_assoc,List.getElem?_append_right (by omega),hl,Nat.sub_self]
 rfl
theorem afN{p t rest:List Int}{x:Int}{c a:Nat}(ha:p.length=a)(hc:c<t.length):(dV p t rest x (c+1)).getD (a+c) 0=t[c]:=by
 subst ha
 simp only[dV]
 rw[List.getD_eq_getElem?_getD,List.append_assoc,List.getElem?_append_right (by omega)]
 have:p.length+c-p.length=c:=by omega
 rw[this,List.append_assoc,List.getElem?_append_left (by rw[List.length_take];omega),List.getElem?_take_of_lt (by omega),List.getElem?_eq_getElem hc]
 rfl
theorem H9{p t rest:List Int}{x:Int}{c a:Nat}(ha:p.length=a)(hc:c<t.length):j5 (dV p t rest x (c+1)) (a+c+1) (a+c)=dV p t rest x c:=by
 have e1:dV p t rest x (c+1)=(p++t.take c)++t[c]::x::(t.drop (c+1)++rest):=by
  simp only[dV]
  rw[List.take_succ_eq_append_getElem hc]
  simp only[List.append_assoc,List.cons_append,List.nil_append]
 have e2:dV p t rest x c=(p++t.take c)++x::t[c]::(t.drop (c+1)++rest):=by
  simp only[dV]
  rw[List.drop_eq_getElem_cons hc]
  simp only[List.append_assoc,List.cons_append]
 rw[e1,e2]
 exact ajJ (by rw[List.length_append,List.length_take];omega) rfl
theorem yg{l:List ak}{t:List Int}{x:Int}{c:Nat}(hs:df l t)(h1:∀ y∈t.take c,dI l y x)(h2:∀ y∈t.drop c,dI l x y):df l (t.take c++x::t.drop c):=by
 have h:=hs
 unfold df at *
 rw[←List.take_append_drop c t,List.pairwise_append] at h
 rw[List.pairwise_append]
 refine ⟨h.1,?_,fun y hy z hz =>?_⟩
 ·rw[List.pairwise_cons]
  exact ⟨h2,h.2.1⟩
 ·rcases List.mem_cons.1 hz with rfl | hz
  ·exact h1 y hy
  ·exact h.2.2 y hy z hz
theorem ajp{l:List ak}{t:List Int}{x:Int}{c:Nat}(hs:df l t)(hc:c<t.length)(h:dI l t[c] x):∀ y∈t.take (c+1),dI l y x:=by
 intro y hy
 rw[List.take_succ_eq_append_getElem hc,List.mem_append,List.mem_singleton] at hy
 rcases hy with hy | rfl
 ·refine xa ?_ h
  have h3:=hs
  unfold df at h3
  rw[←List.take_append_drop c t,List.pairwise_append] at h3
  exact h3.2.2 y hy _ (by rw[List.drop_eq_getElem_cons hc];exact List.mem_cons_self)
 ·exact h
def mu(l:List ak)(p s q:List Int):cR:=fun r os'=>r=.tuple []∧∃ s',s'.Perm s∧df l s'∧os'=cu 1000000 (p++s'++q)
structure uc where
 t:List Int
 k:Nat
theorem yP(l:List ak)(hd:lK l)(hl:l.length≤60)(p s q:List Int)(a b n:Nat)(ha:p.length=a)(hb:a+s.length=b)(hn:b≤n)(hnl:n≤(p++s++q).length)(hN:n≤1000)(hs:s.Pairwise (· < ·))(hS:∀ x∈s,je l x) :
  cA Tryz.prog 203 [.view 1000000 [] 1 0 n,enc (a:Int),enc (b:Int),.func 138 [.ref (enc l)]] (cu 1000000 (p++s++q)) (mu l p s q):=by
 refine cA.bn Tryz.func203 Bz BG BR (Nat.le_of_ble_eq_true rfl) (Nat.le_of_ble_eq_true rfl) m4 (fun hwf W0 D0 E1 =>?_)
 simp only[ux,xR,bg,Nat.zero_add,Nat.reduceAdd]
 clear hwf
 have w1:=fF (i:=a) (by omega)
 refine .ar (by decide +kernel) fun K hK =>?_
 simp only[vT,ab,simprocAttr]
 try simp only[w1,simprocAttr]
 refine .done (hK _ ?_);clear hK K
 refine U.block (U.loop (fun g:uc=>av [(0,.view 1000000 [] 1 0 n),(1,.int .i64 a),(2,.int .i64 b),(3,.func 138 [.ref (enc l)]),(8,.int .i64 ((a+g.k:Nat):Int))] (cu 1000000 (p++g.t++s.drop g.k++q))) (fun g=>1≤g.k∧g.t.Perm (s.take g.k)∧df l g.t∧a+g.k≤b+1) (fun g=>s.length-g.k) ⟨s.take 1,1⟩ ⟨Nat.le_refl _,.refl _,?_,by simp only;omega⟩ ?_ ?_)
 ·show df l (s.take 1)
  cases s <;>simp[df]
 ·have e:p++s.take 1++s.drop 1++q=p++s++q:=by rw[List.append_assoc p,List.take_append_drop]
  simp only[e]
  refine aI.c7 ?_ (fun n=>rfl)
  simp[bd,bh]
 rintro ⟨t,k⟩ ⟨g1,g2,g3,g4⟩
 simp only at g1 g2 g3 g4 ⊢
 refine U.seq (U.seq ?_)
 refine .bP (by decide +kernel) fun K hK =>?_
 simp only[Gc,ab,simprocAttr]
 refine .done (hK _ ?_);clear hK K;try simp only[ay]
 refine U.bM ?_
 simp only[ao,ab,simprocAttr]
 refine ⟨fun h =>?_,fun h =>?_⟩
 rotate_left
 ·have hk:s.length≤k:=by simp at h;omega
  refine U.exit ?_;try simp only[ay,cg,simprocAttr]
  rw[ly]
  refine mZ rfl ?_ ⟨rfl,t,?_,g3,rfl⟩
  ·rw[List.drop_eq_nil_of_le hk,List.append_nil]
  ·rwa [List.take_of_length_le hk] at g2
 have hk:k<s.length:=by simp at h;omega
 have htl:t.length=k:=by rw[g2.length_eq,List.length_take];omega
 obtain ⟨x,hx⟩:∃ x,x=s[k]:=⟨_,rfl⟩
 have hxS:je l x:=hS x (by rw[hx];exact List.getElem_mem _)
 have htS:∀ y∈t,je l y∧y<x:=fun y hy=>by
  have hy2:=g2.mem_iff.1 hy
  refine ⟨hS y (List.mem_of_mem_take hy2),?_⟩
  obtain ⟨j,hj,rfl⟩:=List.getElem_of_mem hy2
  rw[List.length_take] at hj
  rw[List.getElem_take,hx]
  exact List.pairwise_iff_getElem.1 hs j k (by omega) hk (by omega)
 obtain ⟨rest,hrest⟩:∃ rest,rest=s.drop (k+1)++q:=⟨_,rfl⟩
 have e0:p++t++s.drop k++q=dV p t rest x k:=by
  rw[hrest,dV,List.take_of_length_le (l:=t) (by omega),show t.drop k=[] from List.drop_eq_nil_of_le (by omega),List.drop_eq_getElem_cons hk,←hx]
  simp only[List.append_assoc,List.cons_append,List.nil_append]
 have hnr:n≤p.length+t.length+1+rest.length:=by
  rw[hrest]
  simp only[List.length_append,List.length_drop] at hnl ⊢
  omega
 rw[e0]
 refine U.skip ?_;try simp only[ay,simprocAttr]
 refine U.seq (U.block ?_)
 refine .ar (by decide +kernel) fun K hK =>?_
 simp only[Gd,ab,simprocAttr]
 refine .done (hK _ ?_);clear hK K
 refine U.block (U.loop (fun c:Nat=>av [(0,.view 1000000 [] 1 0 n),(1,.int .i64 a),(2,.int .i64 b),(3,.func 138 [.ref (enc l)]),(8,.int .i64 ((a+k:Nat):Int)),(9,.int .i64 ((a+c:Nat):Int))] (cu 1000000 (dV p t rest x c))) (fun c=>c≤k∧∀ y∈t.drop c,dI l x y) (fun c=>c) k ⟨Nat.le_refl _,?_⟩ ?_ ?_)
 ·rw[List.drop_eq_nil_of_le (by omega)];intro y hy;cases hy
 ·refine aI.c7 ?_ (fun n=>rfl)
  simp[bd,bh]
 rintro c ⟨hc,hgt⟩
 have bp:∀ c,c≤k→(∀ y∈t.drop c,dI l x y)→(∀ y∈t.take c,dI l y x)→∃ s':uc,(1≤s'.k∧s'.t.Perm (s.take s'.k)∧df l s'.t∧a+s'.k≤b+1)∧s.length-s'.k<s.length-k∧s'.k=k+1∧dV p t rest x c=p++s'.t++s.drop s'.k++q:=fun c hck h2 h1=>by
  refine ⟨⟨t.take c++x::t.drop c,k+1⟩,⟨by simp only;omega,?_,yg g3 h1 h2,by simp only;omega⟩,by simp only;omega,rfl,?_⟩
  ·simp only
   rw[List.take_succ_eq_append_getElem hk,←hx]
   refine List.perm_middle.trans ?_
   rw[List.take_append_drop]
   exact (g2.cons x).trans (List.perm_append_comm (l₁:=[x]))
  ·simp only[dV,hrest,List.append_assoc]
 have hexit:∀ ts,(∀ y∈t.take c,dI l y x)→Abs.b8 ts 0=.view 1000000 [] 1 0 n→Abs.b8 ts 1=.int .i64 a→Abs.b8 ts 2=.int .i64 b→Abs.b8 ts 3=.func 138 [.ref (enc l)]→Abs.b8 ts 8=.int .i64 ((a+(k+1):Nat):Int)→∃ s':uc,(1≤s'.k∧s'.t.Perm (s.take s'.k)∧df l s'.t∧a+s'.k≤b+1)∧s.length-s'.k<s.length-k∧Abs.aI (av ts (cu 1000000 (dV p t rest x c))) (av [(0,.view 1000000 [] 1 0 n),(1,.int .i64 a),(2,.int .i64 b),(3,.func 138 [.ref (enc l)]),(8,.int .i64 ((a+s'.k:Nat):Int))] (cu 1000000 (p++s'.t++s.drop s'.k++q))):=fun ts h1 t0 t1 t2 t3 t8=>by
  obtain ⟨s',k1,k2,k3,k4⟩:=bp c hc hgt h1
  refine ⟨s',k1,k2,?_⟩
  rw[k4,k3]
  refine aI.c7 ?_ (fun n=>rfl)
  simp only[bd,t0,t1,t2,t3,t8,and_self]
 have hw:=fF (i:=a+k) (by omega)
 have hws:(dV p t rest x c).length=p.length+t.length+1+rest.length:=wN (by omega)
 simp only[cu] at hexit ⊢
 cases c with
 |zero =>
  have hc0:decide ((a:Int)<((a+0:Nat):Int))=false:=by simp
  have R:=And.intro @hc0 (And.intro @hw (And.intro @aP @ab))
  repeat' ((first
   |(with_reducible refine .guard (fun hb =>?_) (fun hb =>?_) <;>try simp only[hb])
   |refine U.aL (by decide +kernel) rfl fun K hK =>?_
   |(refine .aF [0,1,2,3,8,9,14,34] hK ?_;clear hK K)
   |(with_reducible refine .done (hK _ ?_);clear hK K)
   |refine U.of rfl ?_
   |(with_reducible refine ao.aK (fun h =>?_) (fun h =>?_) <;>try simp only[h])) <;>try simp only[aM,R,simprocAttr])
  all_goals clear R
  exact hexit _ (by simp) rfl rfl rfl rfl rfl
 |succ c =>
  have hct:c<t.length:=by omega
  have hc0:decide ((a:Int)<((a+(c+1):Nat):Int))=true:=by simp;omega
  have wd:IntKind.i64.wrap (((a+(c+1):Nat):Int)-1)=((a+c:Nat):Int):=by rw[cN _ (by omega) (by omega)];omega
  have gx:=afM (p:=p) (t:=t) (rest:=rest) (x:=x) (c:=c+1) ha (by omega)
  have gy:=afN (p:=p) (t:=t) (rest:=rest) (x:=x) (c:=c) ha hct
  have hstep:=H9 (p:=p) (t:=t) (rest:=rest) (x:=x) (c:=c) ha hct
  obtain ⟨hyS,hyx⟩:=htS t[c] (List.getElem_mem _)
  have hcmp:=qW l hd hl x t[c] hxS hyS
  generalize hws0:dV p t rest x (c+1)=ws at *
  have hi1:a+(c+1)<n:=by omega
  have hj1:a+c<n:=by omega
  obtain ⟨i1,hi1e⟩:∃ i1,i1=a+(c+1):=⟨_,rfl⟩
  obtain ⟨j1,hj1e⟩:∃ j1,j1=a+c:=⟨_,rfl⟩
  have hij:a+c+1=i1:=by omega
  rw[hij] at hstep
  rw[←hi1e] at hi1 gx hc0 wd ⊢
  rw[←hj1e] at hj1 gy wd hstep
  have v1:=jh (n:=n) (i:=i1) hi1
  have v2:=jh (n:=n) (i:=j1) hj1
  have l1:=gH (xs:=ws) (i:=i1) (by omega)
  have l2:=gH (xs:=ws) (i:=j1) (by omega)
  have s1:=fun (A:af) v aq rest=>m7 (A:=A) (n:=1000000) (xs:=ws) (i:=i1) (by omega) v aq rest
  obtain ⟨ws2,hws2⟩:∃ ws2,ws2=ws.set i1 (ws.getD j1 0):=⟨_,rfl⟩
  have hw2l:ws2.length=ws.length:=by rw[hws2];simp
  have s2:=fun (A:af) v aq rest=>m7 (A:=A) (n:=1000000) (xs:=ws2) (i:=j1) (by omega) v aq rest
  have l3:=gH (xs:=ws2) (i:=j1) (by omega)
  rw[gx] at l1
  rw[gy] at l2
  rw[gy] at hws2
  have hst2:ws2.set j1 x=dV p t rest x c:=by rw[←hstep];simp only[j5,gx,gy,←hws2]
  cases hlt:decide (fV l x-fV l t[c]<0) with
  |true =>
   have R:=And.intro @hc0 (And.intro @hw (And.intro @wd (And.intro @v1 (And.intro @v2 (And.intro @l1 (And.intro @l2 (And.intro @l3 (And.intro @s1 (And.intro @s2 (And.intro @hst2 (And.intro @hlt (And.intro @c9 (And.intro @dO (And.intro @aP @ab))))))))))))))
   repeat' ((first
    |(with_reducible refine .guard (fun hb =>?_) (fun hb =>?_) <;>try simp only[hb])
    |refine U.aL (by decide +kernel) rfl fun K hK =>?_
    |refine .flat _ (hcmp) rfl ?_
    |(refine .aF [0,1,2,3,8,9,14,34] hK ?_;clear hK K)
    |(with_reducible refine .done (hK _ ?_);clear hK K)
    |refine U.of rfl ?_
    |(with_reducible refine ao.aK (fun h =>?_) (fun h =>?_) <;>try simp only[h])) <;>try simp only[aM,R,←hws2,List.cons_append,simprocAttr])
   all_goals clear R
   refine ⟨c,⟨by omega,fun y hy =>?_⟩,by omega,?_⟩
   ·rw[List.drop_eq_getElem_cons hct] at hy
    rcases List.mem_cons.1 hy with rfl | hy
    ·rw[sE hyx];simp at hlt;omega
    ·exact hgt y hy
   ·rw[hj1e]
    refine aI.c7 ?_ (fun n =>?_)
    ·simp[bd,bh]
    ·simp only[al];split <;>rfl
  |false =>
   have R:=And.intro @hc0 (And.intro @hw (And.intro @wd (And.intro @v1 (And.intro @v2 (And.intro @l1 (And.intro @l2 (And.intro @hlt (And.intro @c9 (And.intro @dO (And.intro @aP @ab))))))))))
   repeat' ((first
    |(with_reducible refine .guard (fun hb =>?_) (fun hb =>?_) <;>try simp only[hb])
    |refine U.aL (by decide +kernel) rfl fun K hK =>?_
    |refine .flat _ (hcmp) rfl ?_
    |(refine .aF [0,1,2,3,8,9,14,34] hK ?_;clear hK K)
    |(with_reducible refine .done (hK _ ?_);clear hK K)
    |refine U.of rfl ?_
    |(with_reducible refine ao.aK (fun h =>?_) (fun h =>?_) <;>try simp only[h])) <;>try simp only[aM,R,List.cons_append,simprocAttr])
   all_goals clear R
   exact hexit _ (ajp g3 hct (sD hyx (by simp at hlt;omega))) rfl rfl rfl rfl rfl
end Go.Proofs.YtcldiigclhgafaaGreat
