/-
  A part of the proof that the law HerdLines returns true for every input; conditions: none beyond the statement's own. (part 4 of 7)
-/
import Derived.Shelf.Sort.Plain
import Derived.Shelf.Slices.In.SortNone
import Derived.Test.YtcldiigclhgafaaGreatNjc
set_option linter.unusedSimpArgs false
set_option linter.unusedVariables false
set_option maxHeartbeats 16000000
set_option maxRecDepth 100000
namespace Go.Proofs.YtcldiigclhgafaaGreat
open Go Go.Abs
open Go.Abs.Enc (enc)
def gQ(w:Int)(k:Nat):Bool:=nY w (shl 1 k) != 0
def gH(w:Int):Nat→List Int
 |0=>[]
 |k+1=>gH w k++if gQ w k then [(k:Int)] else []
theorem xO(w:Int):∀ k,(gH w k).length≤k
 |0=>zz7 _
 |k+1=>by
  have:=xO w k;simp only[gH,zz5];split <;>simp <;>omega
theorem OW(w:Int):aD Tryz.prog 141 [enc w] (enc (gH w 5)):=by
 refine aD.bA Tryz.func141 Rw Tk Vr (t7 rfl) (fun hwf W0 D0 E1 =>?_);simp only[AO,LM,bp];refine .ao (by decide +kernel) fun K hK =>?_;simp only[EK,ab,simprocAttr];refine .done (hK _ ?_);clear hK K;refine .ao (by decide +kernel) fun K hK =>?_;simp only[EL,ab,simprocAttr];refine .done (hK _ ?_);clear hK K;refine J.seq (J.seq ?_);refine .bu (by decide +kernel) fun K hK =>?_;simp only[EM,ab,simprocAttr];refine .done (hK _ ?_);clear hK K;try simp only[ar]
 refine J.block (J.loop (fun i:Nat=>au [(0,.int .i64 w),(2,.nils 1),(3,.own 3 (gH w i).length),(4,.int .i64 i)] [(3,.bX 3 1 ((gH w i).map enc))]) (fun i=>i≤5) (fun i=>5-i) 0 (by omega) ?_ (fun i hi =>?_))
 ·refine aF.qu 3 3 3 1 1 ?_ ?_ ?_
  ·simp only[pd,Nat.reduceEqDiff,reduceIte]
  ·simp only[pd]
  ·simp only[gH,zx1,List.length_nil];refine aF.bM ?_ ?_ ?_ ?_ <;>simp[aX,bK,bJ,a8,al,aY,cu,I.only,I.bU,ai.only]
 ·refine J.seq (J.seq ?_);refine .bu (by decide +kernel) fun K hK =>?_;simp only[EN,ab,simprocAttr];refine .done (hK _ ?_);clear hK K;try simp only[ar]
  refine J.bH ?_;simp only[aq,ab,simprocAttr];refine ⟨fun h =>?_,fun h =>?_⟩
  ·have hlt:i<5:=by simp at h;omega
   have hml:=xO w i;refine J.skip ?_;try simp only[ar,simprocAttr]
   refine J.seq (J.block ?_);refine .ao (by decide +kernel) fun K hK =>?_;simp only[EO,ab,simprocAttr];refine .done (hK _ ?_);clear hK K;refine J.bH ?_;simp only[aq,ab,simprocAttr];refine ⟨fun h =>?_,fun h =>?_⟩
   ·have hb:gQ w i=true:=h;refine .bu (by decide +kernel) fun K hK =>?_;simp only[EP,ab,simprocAttr];rw[m7 3 1 8 3 rfl rfl (by simp) (by simp[maxLen];omega) (by simp;omega)]
    try simp only[ab,simprocAttr]
    refine .done (hK _ ?_);clear hK K;try simp only[ar,bL]
    refine .bu (by decide +kernel) fun K hK =>?_;simp only[wh,ab,simprocAttr];refine .done (hK _ ?_);clear hK K;try simp only[ar]
    refine ⟨i+1,by omega,by omega,?_⟩;rw[cE _ (by omega) (by omega)];simp only[gH,hb,reduceIte];refine aF.bM ?_ ?_ ?_ ?_ <;>simp[aX,bK,bJ,a8,al,aY,cu,I.only,I.bU,ai.only,ej,gz,gT]
   ·have hb:gQ w i=false:=h;refine J.skip ?_;try simp only[ar,bL,simprocAttr]
    refine .bu (by decide +kernel) fun K hK =>?_;simp only[wh,ab,simprocAttr];refine .done (hK _ ?_);clear hK K;try simp only[ar]
    refine ⟨i+1,by omega,by omega,?_⟩;rw[cE _ (by omega) (by omega)];simp only[gH,hb,reduceIte,zz6,zx8];refine aF.bM ?_ ?_ ?_ ?_ <;>simp[aX,bK,bJ,a8,al,aY,cu,I.only,ai.only,ej]
  ·have hge:i=5:=by simp at h;omega
   subst hge;refine J.exit ?_;try simp only[ar,bL,simprocAttr]
   refine .ao (by decide +kernel) fun K hK =>?_;simp only[ER,ab,simprocAttr];refine .done (hK _ ?_);clear hK K;refine J.ret ?_
   try simp only[ab,simprocAttr]
theorem PS(m:aR 5 Int):aD Tryz.prog 99 [enc m] (enc (if (List.range 5).all (fun i=>bS 0 31 (m.g i)&&gQ (m.g i) i) then (0:Int) else 11)):=by
 refine aD.bA Tryz.func99 SP UH WM (t7 rfl) (fun hwf W0 D0 E1 =>?_);simp only[Cc,M9,bp];refine .ao (by decide +kernel) fun K hK =>?_;simp only[Je,ab,simprocAttr];refine .done (hK _ ?_);clear hK K;refine J.seq ?_;refine .ao (by decide +kernel) fun K hK =>?_;simp only[Jf,ab,simprocAttr];refine .done (hK _ ?_);clear hK K;refine J.block (J.loop (fun i:Nat=>au [(1,.ptr 1 []),(2,.int .i64 0),(3,.int .i64 i)] [(1,.box (enc m))]) (fun j=>j≤5∧∀ i,i<j→(bS 0 31 (m.g i)&&gQ (m.g i) i)=true) (fun i=>5-i) 0 ⟨by omega,fun k h=>by omega⟩ ?_ (fun i hi =>?_))
 ·refine aF.bM ?_ ?_ ?_ ?_ <;>simp[aX,bK,bJ,a8,al,aY,cu,I.only,ai.only,bt]
 ·refine J.seq (J.seq ?_);refine .bu (by decide +kernel) fun K hK =>?_;simp only[Jg,ab,simprocAttr];refine .done (hK _ ?_);clear hK K;try simp only[ar]
  refine J.bH ?_;simp only[aq,ab,simprocAttr];refine ⟨fun h =>?_,fun h =>?_⟩
  ·have hlt:i<5:=by simp at h;omega
   refine J.skip ?_;try simp only[ar,simprocAttr]
   refine J.seq (J.block ?_);refine .ao (by decide +kernel) fun K hK =>?_;simp only[Jh,ab,simprocAttr]
   try simp only[bG,jv 1 m hlt rfl,eS m hlt,ab,simprocAttr]
   refine .flat _ (zK _ 0 31) rfl ?_;generalize hb:(decide (0≤m.g i)&&decide (m.g i≤31))=b;cases b
   ·try simp only[ab,simprocAttr]
    refine .done (hK _ ?_);clear hK K;refine J.bH ?_;simp only[aq,ab,simprocAttr];refine ⟨fun h =>?_,fun h =>?_⟩
    ·refine .ao (by decide +kernel) fun K hK =>?_;simp only[wQ,ab,simprocAttr];refine .done (hK _ ?_);clear hK K;refine J.ret ?_;simp only[bL,ar,ab,simprocAttr];rw[nW i hlt]
     ·simp
     ·simp only[bS,hb,Bool.false_and]
    ·cases h
   ·try simp only[bG,jv 1 m hlt rfl,eS m hlt,ab,simprocAttr]
    refine .done (hK _ ?_);clear hK K;refine J.bH ?_;simp only[aq,ab,simprocAttr];refine ⟨fun h =>?_,fun h =>?_⟩
    ·refine .ao (by decide +kernel) fun K hK =>?_;simp only[wQ,ab,simprocAttr];refine .done (hK _ ?_);clear hK K;refine J.ret ?_;simp only[bL,ar,ab,simprocAttr];rw[nW i hlt]
     ·simp
     ·simp only[bS,hb,Bool.true_and,gQ,nY,shl];simpa using h
    ·refine J.skip ?_;try simp only[ar,bL,simprocAttr]
     refine .bu (by decide +kernel) fun K hK =>?_;simp only[Ji,ab,simprocAttr];refine .done (hK _ ?_);clear hK K;try simp only[ar]
     refine ⟨i+1,⟨by omega,fun k hk =>?_⟩,by omega,?_⟩
     ·by_cases hk':k=i
      ·subst hk';simp only[bS,hb,Bool.true_and,gQ,nY,shl];simpa using h
      ·exact hi.2 k (by omega)
     ·rw[cE _ (by omega) (by omega)];refine aF.bM ?_ ?_ ?_ ?_ <;>simp[aX,bK,bJ,a8,al,aY,cu,I.only,ai.only,bt]
  ·have hge:i=5:=by simp at h;omega
   subst hge;refine J.exit ?_;try simp only[ar,bL,simprocAttr]
   refine .ao (by decide +kernel) fun K hK =>?_;simp only[Jj,ab,simprocAttr];refine .done (hK _ ?_);clear hK K;refine J.ret ?_;simp only[ab,simprocAttr];rw[qv hi.2];simp
theorem zw(a b:List Int):aD Tryz.prog 20 [enc a,enc b] (enc (decide (a=b))):=by
 refine aD.bA Tryz.func20 R4 TV V1 (t7 rfl) (fun hwf W0 D0 E1 =>?_);simp only[Bq,Mn,bp,zz4];have hlen:a.length≤maxLen:=((lj a).1 hwf.1).1;simp only[maxLen] at hlen;refine .ao (by decide +kernel) fun K hK =>?_;simp only[G8,ab,simprocAttr];refine .done (hK _ ?_);clear hK K;refine J.seq (J.seq ?_);refine .bu (by decide +kernel) fun K hK =>?_;simp only[G9,ab,simprocAttr]
 try simp only[bG,ab,simprocAttr]
 refine .done (hK _ ?_);clear hK K;try simp only[ar]
 refine J.bH ?_;simp only[aq,ab,simprocAttr];refine ⟨fun h =>?_,fun h =>?_⟩
 ·refine .ao (by decide +kernel) fun K hK =>?_;simp only[Ha,ab,simprocAttr];refine .done (hK _ ?_);clear hK K;refine J.ret ?_;simp only[ar,ab,simprocAttr];simp at h;have:a≠b:=fun e=>h (by rw[e]);simp[this]
 ·have hab:a.length=b.length:=by simp at h;omega
  refine J.skip ?_;try simp only[ar,simprocAttr]
  refine J.seq ?_;refine .ao (by decide +kernel) fun K hK =>?_;simp only[Hb,ab,simprocAttr];refine .done (hK _ ?_);clear hK K;refine J.block (J.loop (fun i:Nat=>au [(0,enc a),(1,enc b),(5,.int .i64 i)] []) (fun i=>i≤a.length∧a.take i=b.take i) (fun i=>a.length-i) 0 ⟨zw7 _,by simp⟩ ?_ (fun i hi =>?_))
  ·refine aF.bM ?_ ?_ ?_ ?_ <;>simp[aX,bK,bJ,a8,aY,I.only,bt]
  ·refine J.seq (J.seq ?_);refine .bu (by decide +kernel) fun K hK =>?_;simp only[Hc,ab,simprocAttr]
   try simp only[bG,ab,simprocAttr]
   refine .done (hK _ ?_);clear hK K;try simp only[ar]
   refine J.bH ?_;simp only[aq,ab,simprocAttr];refine ⟨fun h =>?_,fun h =>?_⟩
   ·have hlt:i<a.length:=by simpa using h
    have hlb:i<b.length:=by omega
    refine J.skip ?_;try simp only[ar,simprocAttr]
    refine J.seq (J.block ?_);refine .ao (by decide +kernel) fun K hK =>?_;simp only[Hd,ab,simprocAttr]
    try simp only[fH 1 hlt rfl,fH 1 hlb rfl,ab,simprocAttr]
    refine .done (hK _ ?_);clear hK K;refine J.bH ?_;simp only[aq,ab,simprocAttr];refine ⟨fun h =>?_,fun h =>?_⟩
    ·refine .ao (by decide +kernel) fun K hK =>?_;simp only[He,ab,simprocAttr];refine .done (hK _ ?_);clear hK K;refine J.ret ?_;simp only[bL,ar,ab,simprocAttr];have hne:a≠b:=fun e=>by subst e;simp at h
     simp[hne]
    ·refine J.skip ?_;try simp only[ar,bL,simprocAttr]
     refine .bu (by decide +kernel) fun K hK =>?_;simp only[Hf,ab,simprocAttr];refine .done (hK _ ?_);clear hK K;try simp only[ar]
     refine ⟨i+1,⟨by omega,?_⟩,by omega,?_⟩
     ·rw[zy3 hlt,zy3 hlb,hi.2];simp at h;rw[h]
     ·rw[cE _ (by omega) (by omega)];refine aF.bM ?_ ?_ ?_ ?_ <;>simp[aX,bK,bJ,a8,aY,I.only,bt]
   ·have hge:i=a.length:=by simp at h;omega
    refine J.exit ?_;try simp only[ar,bL,simprocAttr]
    refine .ao (by decide +kernel) fun K hK =>?_;simp only[Hg,ab,simprocAttr];refine .done (hK _ ?_);clear hK K;refine J.ret ?_;simp only[ab,simprocAttr];have:a=b:=by
     have:=hi.2;rw[hge,List.take_length] at this;rw[hab,List.take_length] at this;exact this
    simp[this]
def c4(m:b7)(i:Nat):ca:=m.given.getD i ⟨0,⟨List.replicate 6 0,rfl⟩⟩
theorem ju{m:b7}{i:Nat}(h:i<m.given.length):m.given[i]=c4 m i:=by simp[c4,zz1,h]
theorem xm{A:ae}{m:b7}{i:Nat}(h:i<m.given.length):iB A 7 (i:Int) (enc m.given)=some (.ref (enc (c4 m i))):=by
 rw[fH 7 h rfl,ju h]
def hE(w:aR 5 Int):Bool:=(List.range 5).all (fun i=>bS 0 31 (w.g i)&&gQ (w.g i) i)
theorem PT(w:aR 5 Int):aD Tryz.prog 99 [enc w] (enc (if hE w then (0:Int) else 11)):=PS w
theorem OG(m:aR 6 Int):aD Tryz.prog 100 [enc m] (enc (if dV m then (0:Int) else 10)):=OF m
def j8(m:b7)(a b:aR 6 Int):Bool:=decide ((eM (iP m.eR a b) 6:Int)≤IntKind.i64.wrap (2*m.eP))
def gI(m:b7)(i:Nat):Bool:=bS 1 99 (c4 m i).bP&&(dV (c4 m i).mark&&((i==0||decide ((c4 m (i-1)).bP<(c4 m i).bP))&&(List.range i).all (fun j => !j8 m (c4 m j).mark (c4 m i).mark)))
def ez(m:b7):Bool:=hE m.eR&&(bS 0 2 m.eP&&(decide (m.given.length≤40)&&(List.range m.given.length).all (gI m)))
theorem x6{m:b7}{i:Nat}(h:gI m i=true):dV (c4 m i).mark=true:=by
 simp only[gI,zz2] at h;exact h.2.1
def nd(w:aR 5 Int)(a:aR 6 Int)(r:aR 6 Int)(i:Nat):Bool:=nY (w.g (a.g i).toNat) (r.g i)==0
def lB(w:aR 5 Int)(a r:aR 6 Int):Int:=(eM (nd w a r) 6:Int)
theorem akR(w:aR 5 Int)(a b:aR 6 Int)(ha:dV a=true):aD Tryz.prog 102 [enc w,enc a,enc b] (enc (lB w a b)):=by
 refine aD.bA Tryz.func102 Q7 SW U3 (t7 rfl) (fun hwf W0 D0 E1 =>?_);simp only[Ao,Ln,bp,zz4,Nat.reduceAdd];refine .ao (by decide +kernel) fun K hK =>?_;simp only[DC,ab,simprocAttr];refine .done (hK _ ?_);clear hK K;refine .ao (by decide +kernel) fun K hK =>?_;simp only[DE,ab,simprocAttr];refine .done (hK _ ?_);clear hK K;refine J.seq (J.seq ?_);refine .bu (by decide +kernel) fun K hK =>?_;simp only[DF,ab,simprocAttr];refine .done (hK _ ?_);clear hK K;try simp only[ar]
 refine J.block (J.loop (fun i:Nat=>au [(3,.ptr 3 []),(4,.ptr 4 []),(5,.ptr 5 []),(7,.int .i64 (eM (nd w a b) i)),(8,.int .i64 i)] [(3,.box (enc w)),(4,.box (enc a)),(5,.box (enc b))]) (fun i=>i≤6) (fun i=>6-i) 0 (by omega) ?_ (fun i hi =>?_))
 ·simp only[eM];refine aF.bM ?_ ?_ ?_ ?_ <;>simp[aX,bK,bJ,a8,al,aY,cu,I.only,ai.only,bt]
 ·have hc:=vn (nd w a b) i;refine J.seq (J.seq ?_);refine .bu (by decide +kernel) fun K hK =>?_;simp only[DG,ab,simprocAttr];refine .done (hK _ ?_);clear hK K;try simp only[ar]
  refine J.bH ?_;simp only[aq,ab,simprocAttr];refine ⟨fun h =>?_,fun h =>?_⟩
  ·have hlt:i<6:=by simp at h;omega
   have h1:=nG ha hlt;refine J.skip ?_;try simp only[ar,simprocAttr]
   refine J.seq (J.block ?_);refine .ao (by decide +kernel) fun K hK =>?_;simp only[DH,ab,simprocAttr];have k1:(a.g i).toNat<5:=by omega
   try simp only[bG,jv 1 a hlt rfl,eS a hlt,ab,simprocAttr]
   try simp only[bG,gb 1 w h1 rfl,eS w k1,ab,simprocAttr]
   try simp only[bG,jv 1 b hlt rfl,eS b hlt,ab,simprocAttr]
   refine .done (hK _ ?_);clear hK K;refine J.bH ?_;simp only[aq,ab,simprocAttr];refine ⟨fun h =>?_,fun h =>?_⟩
   ·have hap:nd w a b i=true:=h;refine .bu (by decide +kernel) fun K hK =>?_;simp only[DI,ab,simprocAttr];refine .done (hK _ ?_);clear hK K;try simp only[ar,bL]
    refine .bu (by decide +kernel) fun K hK =>?_;simp only[vP,ab,simprocAttr];refine .done (hK _ ?_);clear hK K;try simp only[ar]
    refine ⟨i+1,by omega,by omega,?_⟩;rw[cE _ (by omega) (by omega),cE _ (by omega) (by omega)];simp only[eM,hap,if_true];refine aF.bM ?_ ?_ ?_ ?_ <;>simp[aX,bK,bJ,a8,al,aY,cu,I.only,ai.only,bt]
   ·have hap:nd w a b i=false:=h;refine J.skip ?_;try simp only[ar,bL,simprocAttr]
    refine .bu (by decide +kernel) fun K hK =>?_;simp only[vP,ab,simprocAttr];refine .done (hK _ ?_);clear hK K;try simp only[ar]
    refine ⟨i+1,by omega,by omega,?_⟩;rw[cE _ (by omega) (by omega)];simp only[eM,hap,zz6,if_false];refine aF.bM ?_ ?_ ?_ ?_ <;>simp[aX,bK,bJ,a8,al,aY,cu,I.only,ai.only,bt]
  ·have hge:i=6:=by simp at h;omega
   subst hge;refine J.exit ?_;try simp only[ar,bL,simprocAttr]
   refine .ao (by decide +kernel) fun K hK =>?_;simp only[DJ,ab,simprocAttr];refine .done (hK _ ?_);clear hK K;refine J.ret ?_;simp only[ab,simprocAttr];rfl
structure x7 (m:b7):Prop where
 len:m.given.length≤1099511627776
 mark:∀ g∈m.given,dV g.mark=true
theorem PM(m:b7)(k:aR 6 Int)(hm:x7 m)(hk:dV k=true):aD Tryz.prog 87 [enc m,enc k] (enc (m.given.any fun g=>decide ((eM (iP m.eR g.mark k) 6:Int)≤IntKind.i64.wrap (2*m.eP)))):=by
 refine aD.bA Tryz.func87 SG Uy WC (t7 rfl) (fun hwf W0 D0 E1 =>?_);simp only[B3,MZ,bp,zz4];have hlen:=hm.len;refine .ao (by decide +kernel) fun K hK =>?_;simp only[IK,ab,simprocAttr];refine .done (hK _ ?_);clear hK K;refine J.seq ?_;refine .ao (by decide +kernel) fun K hK =>?_;simp only[IL,ab,simprocAttr];refine .done (hK _ ?_);clear hK K;refine J.block (J.loop (fun i:Nat=>au [(2,.ptr 2 []),(3,.ptr 3 []),(5,.int .i64 i)] [(2,.box (enc m)),(3,.box (enc k))]) (fun i=>i≤m.given.length∧∀ j (h:j<m.given.length),j<i→(decide ((eM (iP m.eR m.given[j].mark k) 6:Int)≤IntKind.i64.wrap (2*m.eP)))=false) (fun i=>m.given.length-i) 0 ⟨by omega,fun k _ h=>by omega⟩ ?_ (fun i hi =>?_))
 ·refine aF.bM ?_ ?_ ?_ ?_ <;>simp[aX,bK,bJ,a8,al,aY,cu,I.only,ai.only,bt]
 ·refine J.seq (J.seq ?_);refine .bu (by decide +kernel) fun K hK =>?_;simp only[IM,ab,simprocAttr]
  try simp only[cG,bG,ab,simprocAttr]
  refine .done (hK _ ?_);clear hK K;try simp only[ar]
  refine J.bH ?_;simp only[aq,ab,simprocAttr];refine ⟨fun h =>?_,fun h =>?_⟩
  ·have hlt:i<m.given.length:=by simpa using h
   refine J.skip ?_;try simp only[ar,simprocAttr]
   refine J.seq (J.block ?_);refine .ao (by decide +kernel) fun K hK =>?_;simp only[IN,ab,simprocAttr]
   try simp only[cG,fH 7 hlt rfl,cZ,ab,simprocAttr]
   refine .flat _ (OP m.eR m.given[i].mark k (hm.mark _ (zy9 _)) hk) rfl ?_
   try simp only[cG,ab,simprocAttr]
   refine .done (hK _ ?_);clear hK K;refine J.bH ?_;simp only[aq,ab,simprocAttr];refine ⟨fun h =>?_,fun h =>?_⟩
   ·refine .ao (by decide +kernel) fun K hK =>?_;simp only[IP,ab,simprocAttr];refine .done (hK _ ?_);clear hK K;refine J.ret ?_;simp only[bL,ar,ab,simprocAttr];have:(m.given.any fun g=>decide ((eM (iP m.eR g.mark k) 6:Int)≤IntKind.i64.wrap (2*m.eP)))=true:=List.any_eq_true.2 ⟨_,zy9 hlt,h⟩;rw[this]
   ·refine J.skip ?_;try simp only[ar,bL,simprocAttr]
    refine .bu (by decide +kernel) fun K hK =>?_;simp only[IQ,ab,simprocAttr];refine .done (hK _ ?_);clear hK K;try simp only[ar]
    refine ⟨i+1,⟨by omega,fun j hj hji =>?_⟩,by omega,?_⟩
    ·by_cases hj':j=i
     ·subst hj';exact h
     ·exact hi.2 j hj (by omega)
    ·rw[cE _ (by omega) (by omega)];refine aF.bM ?_ ?_ ?_ ?_ <;>simp[aX,bK,bJ,a8,al,aY,cu,I.only,ai.only,bt]
  ·have hge:i=m.given.length:=by simp at h;omega
   refine J.exit ?_;try simp only[ar,bL,simprocAttr]
   refine .ao (by decide +kernel) fun K hK =>?_;simp only[IS,ab,simprocAttr];refine .done (hK _ ?_);clear hK K;refine J.ret ?_;simp only[ab,simprocAttr];have:(m.given.any fun g=>decide ((eM (iP m.eR g.mark k) 6:Int)≤IntKind.i64.wrap (2*m.eP)))=false:=by
    rw[List.any_eq_false];intro x hx;obtain ⟨j,hj,rfl⟩:=List.getElem_of_mem hx;simpa using hi.2 j hj (by omega)
   rw[this]
theorem aiz{m:b7}(h:ez m=true):x7 m:=by
 simp only[ez,zz2,decide_eq_true_eq,zy8,zx5] at h;refine ⟨by omega,fun g hg =>?_⟩;obtain ⟨i,hi,rfl⟩:=List.getElem_of_mem hg;rw[ju hi];exact x6 (h.2.2.2 i hi)
def gZ(r:aR 6 Int):Bool:=(List.range 6).all fun i=>bS 1 31 (r.g i)
theorem xV:I.slice 1 []=enc ([]:List Int):=rfl
def ln:aR 6 Int:=⟨List.replicate 6 0,rfl⟩
theorem n9:I.agg [.int .i64 0,.int .i64 0,.int .i64 0,.int .i64 0,.int .i64 0,.int .i64 0]=enc ln:=rfl
instance:nU ca:=⟨fun g=>by
 show (I.agg [.int .i64 g.bP,enc g.mark]).c5=true
 simp only[I.c5,I.jb,CS,zw3]⟩
def fx:ca:=⟨0,ln⟩
theorem vA:I.agg [.int .i64 0,.agg [.int .i64 0,.int .i64 0,.int .i64 0,.int .i64 0,.int .i64 0,.int .i64 0]]=enc fx:=rfl
theorem mE(p:Nat→Bool)(l:List ca):(I.agg (l.map enc)).only p=true:=by simp only[I.only];exact ej p l
theorem ahc(l:List ca):(I.agg (l.map enc)).c5=true:=by simp only[I.c5];exact xw l
def iJ(k:Nat)(l:List ca)(m:Nat):List (Nat×ai):=[(k,.box (.agg ((l++List.replicate m fx).map enc)))]
def vk(l:List ca):cT:=fun r os'=>(l=[]∧(r=.nils 7∨r=.c0 7)∧os'=[])∨(l≠[]∧∃ m,r=.view 7 [] 7 0 l.length∧os'=iJ 7 l m)
theorem zq(l:List ca)(hl:l.length≤1000):cD Tryz.prog 167 [enc l] [] (vk l):=by
 refine cD.bA Tryz.func167 RN TD VJ (t7 rfl) (t7 rfl) (fun m hm=>by simp[al,ak] at hm) (fun hwf W0 D0 E1 =>?_);simp only[A8,L5,bp];refine .ao (by decide +kernel) fun K hK =>?_;simp only[FR,ab,simprocAttr];refine .done (hK _ ?_);clear hK K;refine J.seq (J.seq ?_);by_cases hn:l=[]
 ·subst hn;refine .bu (by decide +kernel) fun K hK =>?_;simp only[wm,ab,simprocAttr];simp only[uy,List.isEmpty_nil,pX];refine .any rfl fun b _ =>?_
  try simp only[ab,simprocAttr]
  generalize (b==0)=t;cases t
  ·refine .done (hK _ ?_);clear hK K;try simp only[ar]
   refine J.bH ?_;simp only[aq,ab,simprocAttr];refine ⟨fun h =>?_,fun h =>?_⟩
   ·cases h
   refine J.skip ?_;try simp only[ar,simprocAttr]
   refine .ao (by decide +kernel) fun K hK =>?_;simp only[wo,ab,simprocAttr]
   try simp only[eQ,vA,ab,simprocAttr]
   refine .done (hK _ ?_);clear hK K;refine J.ret ?_;simp only[fI];exact ⟨[],[.c0 7],pI,⟨⟨.c0 7,rfl,.inl ⟨rfl,rfl,rfl⟩⟩,trivial⟩,.inl ⟨rfl,.inr rfl,rfl⟩⟩
  ·refine .done (hK _ ?_);clear hK K;refine J.bH ?_;simp only[aq,ab,simprocAttr];refine ⟨fun h =>?_,fun h =>?_⟩
   ·refine .ao (by decide +kernel) fun K hK =>?_;simp only[FT,ab,simprocAttr];refine .done (hK _ ?_);clear hK K;refine J.ret ?_;simp only[ar,fI];exact ⟨[],[.nils 7],pI,⟨⟨.nils 7,rfl,.inl ⟨rfl,rfl,rfl⟩⟩,trivial⟩,.inl ⟨rfl,.inl rfl,rfl⟩⟩
   ·cases h
 ·have hu:j9 (enc l)=false:=by rw[uy];simpa using hn
  refine .bu (by decide +kernel) fun K hK =>?_;simp only[wm,ab,simprocAttr]
  try simp only[hu,Kp _ l hn,ab,simprocAttr]
  refine .done (hK _ ?_);clear hK K;try simp only[ar]
  refine J.bH ?_;simp only[aq,ab,simprocAttr];refine ⟨fun h =>?_,fun h =>?_⟩
  ·cases h
  refine J.skip ?_;try simp only[ar,simprocAttr]
  refine .ao (by decide +kernel) fun K hK =>?_;simp only[wo,ab,simprocAttr]
  try simp only[eQ,vA,ab,simprocAttr]
  refine bj.zZ fx rfl hn rfl (by omega) (by simp only[maxLen];omega) fun m =>?_
  try simp only[ab,simprocAttr]
  refine .done (hK _ ?_);clear hK K;refine J.ret ?_;simp only[fI];exact ⟨iJ 7 l m,[.view 7 [] 7 0 l.length],nk rfl (fun p=>mE p _),⟨⟨_,rfl,.inl ⟨rfl,rfl,rfl⟩⟩,trivial⟩,.inr ⟨hn,m,rfl,rfl⟩⟩
def gN{n:Nat}(x:aR n Int)(k:Nat)(v:Int):aR n Int:=⟨x.l.set k v,by simp[x.h]⟩
theorem oh{n:Nat}(x:aR n Int)(k j:Nat)(v:Int)(h:k<n):(gN x k v).g j=if k=j then v else x.g j:=by
 simp only[aR.g,gN,zz1,List.getElem?_set];by_cases hkj:k=j
 ·subst hkj;simp[x.lt h]
 ·simp[hkj]
theorem ajN{n k:Nat}(x:aR n Int)(h:k<n)(v:Int):(enc x:I).dI [k] (.int .i64 v)=enc (gN x k v):=by
 have h1:(enc x:I).dA=some (x.l.map enc):=rfl;rw[NK,h1];simp only[rL,qS x h,uo,fv]
 change I.agg _=I.agg ((x.l.set k v).map enc)
 rw[List.map_set];rfl
theorem oX{A:ae}{n m k:Nat}(x:aR m Int)(h:k<m){v u:Int}{rest:List az} : dC A none n [k] (enc x) (.int .i64 v) rest (some (.int .i64 u))=ay rest (A.aL n (.box (enc (gN x k v)))):=by
 rw[eg (s:=none) (v:=.int .i64 v) (old:=.int .i64 u) rfl rfl rfl,ajN x h]
def fA(n:Int):Nat→Int
 |0=>n
 |k+1=>(fA n k).tdiv 5
def ke(n:Int):Nat→aR 6 Int
 |0=>ln
 |k+1=>gN (ke n k) (5-k) ((fA n k).tmod 5)
theorem Ko(n:Int)(h:-9223372036854775808≤n∧n≤9223372036854775807):∀ k,-9223372036854775808≤fA n k∧fA n k≤9223372036854775807
 |0=>h
 |k+1=>by
  have:=Ko n h k;simp only[fA];rcases Int.le_total 0 (fA n k) with h0 | h0
  ·rw[Int.tdiv_eq_ediv_of_nonneg h0];omega
  ·have:(fA n k).tdiv 5=-((-(fA n k)) / 5):=by
    rw[←Int.tdiv_eq_ediv_of_nonneg (by omega),Int.neg_tdiv,Int.neg_neg]
   omega
theorem PL(n:Int):aD Tryz.prog 86 [enc n] (enc (ke n 6)):=by
 refine aD.bA Tryz.func86 SF Ux WB (t7 rfl) (fun hwf W0 D0 E1 =>?_);simp only[B1,MY,bp];have hin:=Ko n ((akD n).1 hwf.1);have h5:¬ (5:Int)=0:=by decide
 refine .ao (by decide +kernel) fun K hK =>?_;simp only[IC,ab,simprocAttr];refine .done (hK _ ?_);clear hK K;refine .ao (by decide +kernel) fun K hK =>?_;simp only[ID,ab,simprocAttr];simp only[n9];refine .done (hK _ ?_);clear hK K;refine J.seq (J.seq ?_);refine .bu (by decide +kernel) fun K hK =>?_;simp only[IE,ab,simprocAttr];refine .done (hK _ ?_);clear hK K;try simp only[ar]
 refine J.block (J.loop (fun k:Nat=>au [(0,.int .i64 (fA n k)),(2,.ptr 2 []),(3,.ptr 3 []),(4,.int .i64 (5-k))] [(2,.box (enc ln)),(3,.box (enc (ke n k)))]) (fun k=>k≤6) (fun k=>6-k) 0 (by omega) ?_ (fun k hk =>?_))
 ·refine aF.bM ?_ ?_ ?_ ?_ <;>simp[aX,bK,bJ,a8,al,aY,cu,I.only,ai.only,bt]
  all_goals rfl
 refine J.seq (J.seq ?_);refine .bu (by decide +kernel) fun K hK =>?_;simp only[IF,ab,simprocAttr];refine .done (hK _ ?_);clear hK K;try simp only[ar]
 refine J.bH ?_;simp only[aq,ab,simprocAttr];refine ⟨fun h =>?_,fun h =>?_⟩
 ·have hlt:k<6:=by simp at h;omega
  have hd:=hin k;have e1:((5:Int)-k).toNat=5-k:=by omega
  have hlt':5-k<6:=by omega
  refine J.skip ?_;try simp only[ar,simprocAttr]
  refine J.seq (J.block ?_);refine .ao (by decide +kernel) fun K hK =>?_;simp only[IG,ab,simprocAttr]
  try simp only[bG,gb 1 (ke n k) (show (0:Int)≤5-k∧(5:Int)-k<(6:Nat) by omega) rfl,e1,eS (ke n k) hlt',oX (ke n k) hlt',ab,simprocAttr]
  refine .done (hK _ ?_);clear hK K;refine .bu (by decide +kernel) fun K hK =>?_;simp only[IH,ab,simprocAttr]
  try simp only[h5,ab,simprocAttr]
  refine .done (hK _ ?_);clear hK K;try simp only[ar,bL]
  refine .bu (by decide +kernel) fun K hK =>?_;simp only[II,ab,simprocAttr];refine .done (hK _ ?_);clear hK K;try simp only[ar]
  refine ⟨k+1,by omega,by omega,?_⟩;have hq:=hin (k+1);simp only[fA] at hq;rw[cE _ (by omega) (by omega),cE _ hq.1 hq.2];have e2:(5:Int)-k-1=5-((k+1:Nat):Int):=by omega
  rw[e2];simp only[fA,ke];refine aF.bM ?_ ?_ ?_ ?_ <;>simp[aX,bK,bJ,a8,al,aY,cu,I.only,ai.only,bt]
 ·have hge:k=6:=by simp at h;omega
  subst hge;refine J.exit ?_;try simp only[ar,bL,simprocAttr]
  refine .ao (by decide +kernel) fun K hK =>?_;simp only[IJ,ab,simprocAttr]
  try simp only[cG,ab,simprocAttr]
  rw[eg (dO _) (by rw[fQ];rfl) ((eO _).trans (eO _).symm)]
  try simp only[ab,simprocAttr]
  refine .done (hK _ ?_);clear hK K;refine J.ret ?_;simp only[ab,simprocAttr]
  try simp only[cG,cZ,ab,simprocAttr]
theorem xl{A:ae}{l:List Int}{i:Nat}(h:i<l.length):iB A 1 (i:Int) (enc l)=some (.ref (.int .i64 (l.getD i 0))):=by
 rw[fH 1 h rfl];simp[zz1,h,gT]
theorem xP{w:Int}{k:Nat}(h:gQ w k=true):∀ n,k<n→(k:Int)∈gH w n
 |0,h=>absurd h (by omega)
 |n+1,hk=>by
  simp only[gH,zy1];rcases Nat.lt_or_ge k n with h1 | h1
  ·exact .inl (xP h n h1)
  ·have:k=n:=by omega
   subst this
   right;simp[h]
theorem xN{w:Int} : ∀ n,∀ x∈gH w n,0≤x∧x<n
 |0=>by simp[gH]
 |n+1=>by
  intro x hx;simp only[gH,zy1] at hx;rcases hx with hx | hx
  ·have:=xN n x hx;omega
  ·split at hx
   ·simp only[zw5] at hx;omega
   ·cases hx
theorem KQ{w:aR 5 Int}(h:hE w=true){k:Nat}(hk:k<5):(0≤w.g k∧w.g k≤31)∧gQ (w.g k) k=true:=by
 simp only[hE,zy8,zx5,zz2] at h;have:=h k hk;simp only[bS,zz2,decide_eq_true_eq] at this;exact this
def lD(cuts:List Int)(i n:Nat):Nat:=if 0<cuts.length then (((cuts.getD (i%cuts.length) 0).tmod n+n).tmod n).toNat else 0
def jk(w:aR 5 Int)(a:aR 6 Int)(i:Nat):List Int:=gH (w.g (a.g i).toNat) 5
def rU(w:aR 5 Int)(a:aR 6 Int)(cuts:List Int)(i:Nat):Int:=shl 1 ((jk w a i).getD (lD cuts i (jk w a i).length) 0).toNat
def ka(w:aR 5 Int)(a:aR 6 Int)(cuts:List Int):Nat→aR 6 Int
 |0=>ln
 |i+1=>gN (ka w a cuts i) i (rU w a cuts i)
def o8(w:aR 5 Int)(a:aR 6 Int)(cuts:List Int):aR 6 Int×Int:=if hE w then (if dV a then (ka w a cuts 6,0) else (ln,10)) else (ln,11)
theorem CD(cuts:List Int)(i:Nat){n:Nat}(hn:0<n):lD cuts i n<n:=by
 unfold lD;split
 ·have h1:-(n:Int)<(cuts.getD (i%cuts.length) 0).tmod n:=by
   have:=Int.tmod_lt_of_pos (-(cuts.getD (i%cuts.length) 0)) (show (0:Int)<n by omega);rw[Int.neg_tmod] at this;omega
  have h2:=Int.tmod_lt_of_pos ((cuts.getD (i%cuts.length) 0).tmod n+n) (show (0:Int)<n by omega);have h3:0≤((cuts.getD (i%cuts.length) 0).tmod n+n).tmod n:=Int.tmod_nonneg _ (by omega);omega
 ·exact hn
structure Item where
 e9:Int
 no:Int
 deriving DecidableEq
instance:Enc Item where
 enc x:=.agg [.int .i64 x.e9,.int .i64 x.no]
 sz:=2
 aO:=.ew [.one,.one]
 gf:=true
 done _:=rfl
 size _:=by simp[I.size,I.sizes]
 kz _:=by simp[I.aO,I.cX]
 agg _:=rfl
structure av where
 bN:Item
 kind:Int
 day:Int
 known:Int
 c9:Int
 cz:Int
 cM:Int
 bP:Int
 cm:aR 6 Int
 jX:Item
instance:Enc av where
 enc e:=.agg [enc e.bN,.int .i64 e.kind,.int .i64 e.day,.int .i64 e.known,.int .i64 e.c9,.int .i64 e.cz,.int .i64 e.cM,.int .i64 e.bP,enc e.cm,enc e.jX]
 sz:=17
 aO:=.ew [.ew [.one,.one],.one,.one,.one,.one,.one,.one,.one,.ew (List.replicate 6 .one),.ew [.one,.one]]
 gf:=true
 done e:=by simp only[I.done,I.eV,Enc.done,zw3]
 size e:=by simp only[I.size,I.sizes,gp,kN,kO];rfl
 kz e:=by simp only[I.aO,I.cX,eO,sF,sG];rfl
 agg _:=rfl
structure aB where
 no:Int
 cM:Int
 cz:Int
 bP:Int
 jO:Int
 born:Int
 cL:Int
 found:Bool
 cm:List (aR 6 Int)
instance:Enc aB where
 enc b:=.agg [.int .i64 b.no,.int .i64 b.cM,.int .i64 b.cz,.int .i64 b.bP,.int .i64 b.jO,.int .i64 b.born,.int .i64 b.cL,.bool b.found,enc b.cm]
 sz:=9
 aO:=.ew [.one,.one,.one,.one,.one,.one,.one,.one,.one]
 gf:=true
 done e:=by simp only[I.done,I.eV,Enc.done,zw3]
 size e:=by simp only[I.size,I.sizes,gp,vC]
 kz e:=by simp only[I.aO,I.cX,eO,CU]
 agg _:=rfl
theorem qK:Enc.sz Item=2:=rfl
theorem Ye:Enc.sz av=17:=rfl
theorem CV:Enc.sz aB=9:=rfl
theorem Yc:Enc.gf Item=true:=rfl
theorem Yb:Enc.gf av=true:=rfl
theorem Ya:Enc.gf aB=true:=rfl
theorem agH(fs:List I)(x:I):(x::fs)[0]?=some x:=rfl
theorem agR(fs:List I)(x:I)(n:Nat):(x::fs)[n+1]?=fs[n]?:=rfl
theorem agI(fs:List I)(x:I):(x::fs)[1]?=fs[0]?:=rfl
theorem agJ(fs:List I)(x:I):(x::fs)[2]?=fs[1]?:=rfl
theorem agK(fs:List I)(x:I):(x::fs)[3]?=fs[2]?:=rfl
theorem agL(fs:List I)(x:I):(x::fs)[4]?=fs[3]?:=rfl
theorem agM(fs:List I)(x:I):(x::fs)[5]?=fs[4]?:=rfl
theorem agN(fs:List I)(x:I):(x::fs)[6]?=fs[5]?:=rfl
theorem agO(fs:List I)(x:I):(x::fs)[7]?=fs[6]?:=rfl
theorem agP(fs:List I)(x:I):(x::fs)[8]?=fs[7]?:=rfl
theorem agQ(fs:List I)(x:I):(x::fs)[9]?=fs[8]?:=rfl
theorem aio(x:I)(fs:List I)(v:I):ef (x::fs) 0 0 v=some v:=lT (by simp) (by simp[I.sizes])
theorem KB(a b:Item)(n1 n2 n3 n4 n5 n6 n7:Int)(s:aR 6 Int)(v:I) :
  (ef [enc a,.int .i64 n1,.int .i64 n2,.int .i64 n3,.int .i64 n4,.int .i64 n5,.int .i64 n6,.int .i64 n7,enc s,enc b] 1 2 v=some v) ∧
  (ef [enc a,.int .i64 n1,.int .i64 n2,.int .i64 n3,.int .i64 n4,.int .i64 n5,.int .i64 n6,.int .i64 n7,enc s,enc b] 2 3 v=some v) ∧
  (ef [enc a,.int .i64 n1,.int .i64 n2,.int .i64 n3,.int .i64 n4,.int .i64 n5,.int .i64 n6,.int .i64 n7,enc s,enc b] 3 4 v=some v) ∧
  (ef [enc a,.int .i64 n1,.int .i64 n2,.int .i64 n3,.int .i64 n4,.int .i64 n5,.int .i64 n6,.int .i64 n7,enc s,enc b] 4 5 v=some v) ∧
  (ef [enc a,.int .i64 n1,.int .i64 n2,.int .i64 n3,.int .i64 n4,.int .i64 n5,.int .i64 n6,.int .i64 n7,enc s,enc b] 5 6 v=some v) ∧
  (ef [enc a,.int .i64 n1,.int .i64 n2,.int .i64 n3,.int .i64 n4,.int .i64 n5,.int .i64 n6,.int .i64 n7,enc s,enc b] 6 7 v=some v) ∧
  (ef [enc a,.int .i64 n1,.int .i64 n2,.int .i64 n3,.int .i64 n4,.int .i64 n5,.int .i64 n6,.int .i64 n7,enc s,enc b] 7 8 v=some v) ∧
  (ef [enc a,.int .i64 n1,.int .i64 n2,.int .i64 n3,.int .i64 n4,.int .i64 n5,.int .i64 n6,.int .i64 n7,enc s,enc b] 8 9 v=some v) ∧
  (ef [enc a,.int .i64 n1,.int .i64 n2,.int .i64 n3,.int .i64 n4,.int .i64 n5,.int .i64 n6,.int .i64 n7,enc s,enc b] 9 15 v=some v):=by
 refine ⟨?_,?_,?_,?_,?_,?_,?_,?_,?_⟩ <;>refine lT (t7 rfl) ?_ <;>simp[I.sizes,I.size,gp,qK,kN,kO]
theorem ain(n1 n2:Int)(v:I):ef [.int .i64 n1,.int .i64 n2] 1 1 v=some v:=lT (t7 rfl) (by simp[I.sizes,I.size])
theorem tF(n0 n1 n2 n3 n4 n5 n6:Int)(f:Bool)(x:I)(v:I) :
  (ef [.int .i64 n0,.int .i64 n1,.int .i64 n2,.int .i64 n3,.int .i64 n4,.int .i64 n5,.int .i64 n6,.bool f,x] 1 1 v=some v) ∧
  (ef [.int .i64 n0,.int .i64 n1,.int .i64 n2,.int .i64 n3,.int .i64 n4,.int .i64 n5,.int .i64 n6,.bool f,x] 2 2 v=some v) ∧
  (ef [.int .i64 n0,.int .i64 n1,.int .i64 n2,.int .i64 n3,.int .i64 n4,.int .i64 n5,.int .i64 n6,.bool f,x] 3 3 v=some v) ∧
  (ef [.int .i64 n0,.int .i64 n1,.int .i64 n2,.int .i64 n3,.int .i64 n4,.int .i64 n5,.int .i64 n6,.bool f,x] 4 4 v=some v) ∧
  (ef [.int .i64 n0,.int .i64 n1,.int .i64 n2,.int .i64 n3,.int .i64 n4,.int .i64 n5,.int .i64 n6,.bool f,x] 5 5 v=some v) ∧
  (ef [.int .i64 n0,.int .i64 n1,.int .i64 n2,.int .i64 n3,.int .i64 n4,.int .i64 n5,.int .i64 n6,.bool f,x] 6 6 v=some v) ∧
  (ef [.int .i64 n0,.int .i64 n1,.int .i64 n2,.int .i64 n3,.int .i64 n4,.int .i64 n5,.int .i64 n6,.bool f,x] 7 7 v=some v) ∧
  (ef [.int .i64 n0,.int .i64 n1,.int .i64 n2,.int .i64 n3,.int .i64 n4,.int .i64 n5,.int .i64 n6,.bool f,x] 8 8 v=some v):=by
 refine ⟨?_,?_,?_,?_,?_,?_,?_,?_⟩ <;>refine lT (t7 rfl) ?_ <;>simp[I.sizes,I.size]
theorem Yv(x:Item):(enc x).dA=some [.int .i64 x.e9,.int .i64 x.no]:=rfl
theorem Yu(e:av):(enc e).dA=some [enc e.bN,.int .i64 e.kind,.int .i64 e.day,.int .i64 e.known,.int .i64 e.c9,.int .i64 e.cz,.int .i64 e.cM,.int .i64 e.bP,enc e.cm,enc e.jX]:=rfl
theorem Yt(b:aB):(enc b).dA=some [.int .i64 b.no,.int .i64 b.cM,.int .i64 b.cz,.int .i64 b.bP,.int .i64 b.jO,.int .i64 b.born,.int .i64 b.cL,.bool b.found,enc b.cm]:=rfl
theorem KT(x:Item):bY (some 2) (enc x)=true:=by simp[fQ,Yc,qK]
theorem KS(x:av):bY (some 17) (enc x)=true:=by simp[fQ,Yb,Ye]
theorem aiE(x:aB):bY (some 9) (enc x)=true:=by simp[fQ,Ya,CV]
theorem KR(x:aR 6 Int):bY (some 6) (enc x)=true:=by simp[fQ,vB,kN,kO]
theorem aiF(x:List av):bY none (enc x)=true:=by simp[mq,nh]
theorem aiG(x:List Int):bY none (enc x)=true:=by simp[mq,nh]
theorem aiI(x:List (aR 6 Int)):bY none (enc x)=true:=by simp[mq,nh]
theorem aiH(x:List Item):bY none (enc x)=true:=by simp[mq,nh]
theorem qn :
  (∀ x:Item,(enc x).dA=some [.int .i64 x.e9,.int .i64 x.no])∧(∀ e:av,(enc e).dA=some [enc e.bN,.int .i64 e.kind,.int .i64 e.day,.int .i64 e.known,.int .i64 e.c9,.int .i64 e.cz,.int .i64 e.cM,.int .i64 e.bP,enc e.cm,enc e.jX]) ∧
  (∀ b:aB,(enc b).dA=some [.int .i64 b.no,.int .i64 b.cM,.int .i64 b.cz,.int .i64 b.bP,.int .i64 b.jO,.int .i64 b.born,.int .i64 b.cL,.bool b.found,enc b.cm]) ∧
  (∀ (x:I) fs v,ef (x::fs) 0 0 v=some v)∧(∀ n1 n2 v,ef [.int .i64 n1,.int .i64 n2] 1 1 v=some v) ∧
  (∀ x:Item,bY (some 2) (enc x)=true)∧(∀ x:av,bY (some 17) (enc x)=true)∧(∀ x:aB,bY (some 9) (enc x)=true)∧(∀ x:aR 6 Int,bY (some 6) (enc x)=true)∧(∀ x:List av,bY none (enc x)=true)∧(∀ x:List Int,bY none (enc x)=true) ∧
  (∀ x:List (aR 6 Int),bY none (enc x)=true)∧(∀ x:List Item,bY none (enc x)=true) ∧
  (∀ (fs:List I) x,(x::fs)[0]?=some x)∧(∀ (fs:List I) x n,(x::fs)[n+1]?=fs[n]?)∧(∀ (fs:List I) x,(x::fs)[1]?=fs[0]?)∧(∀ (fs:List I) x,(x::fs)[2]?=fs[1]?)∧(∀ (fs:List I) x,(x::fs)[3]?=fs[2]?)∧(∀ (fs:List I) x,(x::fs)[4]?=fs[3]?) ∧
  (∀ (fs:List I) x,(x::fs)[5]?=fs[4]?)∧(∀ (fs:List I) x,(x::fs)[6]?=fs[5]?)∧(∀ (fs:List I) x,(x::fs)[7]?=fs[6]?)∧(∀ (fs:List I) x,(x::fs)[8]?=fs[7]?)∧(∀ (fs:List I) x,(x::fs)[9]?=fs[8]?) :=
 ⟨Yv,Yu,Yt,fun x fs v=>aio x fs v,ain,KT,KS,aiE,KR,aiF,aiG,aiI,aiH,agH,agR,agI,agJ,agK,agL,agM,agN,agO,agP,agQ⟩
theorem Item.Ys(a b:Item):a=b↔a.e9=b.e9∧a.no=b.no:=by cases a;cases b;simp
theorem qL(x y:Item):cq (.bl [.i .i64,.i .i64]) (enc x) (enc y)=some (decide (x=y)):=by
 show cq (.bl [.i .i64,.i .i64]) (.agg [.int .i64 x.e9,.int .i64 x.no]) (.agg [.int .i64 y.e9,.int .i64 y.no])=_
 simp[cq,iU,iu,Item.Ys];rfl
theorem zr(x:Int):aD Tryz.prog 194 [enc x] (enc false):=by
 refine aD.bA Tryz.func194 RY TP VV (t7 rfl) (fun hwf W0 D0 E1 =>?_);simp only[Bk,Mh,bp];refine .ao (by decide +kernel) fun K hK =>?_;simp only[Ge,ab,simprocAttr];refine .done (hK _ ?_);clear hK K;refine .ao (by decide +kernel) fun K hK =>?_;simp only[Gf,ab,simprocAttr];refine .done (hK _ ?_);clear hK K;refine J.ret ?_;simp only[ab,simprocAttr];simp
def jQ(x y:Int):Int:=if x<y then -1 else if y<x then 1 else 0
theorem zo(x y:Int):aD Tryz.prog 159 [enc x,enc y] (enc (jQ x y)):=by
 refine aD.bA Tryz.func159 RE Tu VA (t7 rfl) (fun hwf W0 D0 E1 =>?_);simp only[AX,LW,bp,zz4];refine .ao (by decide +kernel) fun K hK =>?_;simp only[Fk,ab,simprocAttr];refine .done (hK _ ?_);clear hK K;refine .ao (by decide +kernel) fun K hK =>?_;simp only[Fl,ab,simprocAttr];refine .flat _ (zr x) rfl ?_
 try simp only[ab,simprocAttr]
 refine .done (hK _ ?_);clear hK K;refine .ao (by decide +kernel) fun K hK =>?_;simp only[Fs,ab,simprocAttr];refine .flat _ (zr y) rfl ?_
 try simp only[ab,simprocAttr]
 refine .done (hK _ ?_);clear hK K;refine J.seq ?_;refine .ao (by decide +kernel) fun K hK =>?_;simp only[Ft,ab,simprocAttr];refine .done (hK _ ?_);clear hK K;refine J.bH ?_;simp only[aq,ab,simprocAttr];refine ⟨fun h =>?_,fun h =>?_⟩
 ·cases h
 refine J.skip ?_;try simp only[ar,simprocAttr]
 refine J.seq ?_;refine .ao (by decide +kernel) fun K hK =>?_;simp only[Fu,ab,simprocAttr];refine .done (hK _ ?_);clear hK K;refine J.bH ?_;simp only[aq,ab,simprocAttr];refine ⟨fun h =>?_,fun h =>?_⟩
 ·cases h
 refine J.skip ?_;try simp only[ar,simprocAttr]
 refine J.seq ?_;refine .ao (by decide +kernel) fun K hK =>?_;simp only[Fv,ab,simprocAttr];refine .done (hK _ ?_);clear hK K;refine J.bH ?_;simp only[aq,ab,simprocAttr];refine ⟨fun h =>?_,fun h =>?_⟩
 ·refine .ao (by decide +kernel) fun K hK =>?_;simp only[Fm,ab,simprocAttr];refine .done (hK _ ?_);clear hK K;refine J.ret ?_;simp only[ar,ab,simprocAttr];have:x<y:=by simpa using h
  simp[jQ,this]
 have h1:¬ x<y:=by simpa using h
 refine J.skip ?_;try simp only[ar,simprocAttr]
 refine J.seq ?_;refine .ao (by decide +kernel) fun K hK =>?_;simp only[Fo,ab,simprocAttr];refine .done (hK _ ?_);clear hK K;refine J.bH ?_;simp only[aq,ab,simprocAttr];refine ⟨fun h =>?_,fun h =>?_⟩
 ·refine .ao (by decide +kernel) fun K hK =>?_;simp only[Fp,ab,simprocAttr];refine .done (hK _ ?_);clear hK K;refine J.ret ?_;simp only[ar,ab,simprocAttr];have:y<x:=by simpa using h
  simp[jQ,this,h1]
 have h2:¬ y<x:=by simpa using h
 refine J.skip ?_;try simp only[ar,simprocAttr]
 refine .ao (by decide +kernel) fun K hK =>?_;simp only[Fq,ab,simprocAttr];refine .done (hK _ ?_);clear hK K;refine J.ret ?_;simp only[ab,simprocAttr];simp[jQ,h1,h2]
theorem Aj(a b:Int):dX [.int .i64 0,.int .i64 0] [(0,.int .i64 a),(1,.int .i64 b)]=some [.int .i64 a,.int .i64 b]:=by simp[dX,I.b8,I.size]
theorem l8(n lo hi:Int):aD Tryz.prog 114 [enc n,enc lo,enc hi] (enc (bS lo hi n)):=by
 refine aD.bA Tryz.func114 Q9 SY U5 (t7 rfl) (fun hwf W0 D0 E1 =>?_);simp only[Aq,Lp,bp,zz4,Nat.reduceAdd];refine .ao (by decide +kernel) fun K hK =>?_;simp only[DO,ab,simprocAttr];refine .done (hK _ ?_);clear hK K;refine .ao (by decide +kernel) fun K hK =>?_;simp only[DP,ab,simprocAttr];refine .guard (fun h =>?_) (fun h =>?_)
 ·simp only[ab,simprocAttr,h];refine .done (hK _ ?_);clear hK K;refine J.ret ?_;simp only[ab,simprocAttr]
  simp_all[bS]
 ·simp only[ab,simprocAttr,h];refine .done (hK _ ?_);clear hK K;refine J.ret ?_;simp only[ab,simprocAttr];simp at h;simp[bS];omega
def pK(x:Item):Bool:=bS 0 5 x.e9&&bS 0 9999 x.no
theorem uI(n:Int):aD Tryz.prog 127 [enc n] (enc (bS 0 100000 n)):=by
 refine aD.bA Tryz.func127 Rl S9 Vg (t7 rfl) (fun hwf W0 D0 E1 =>?_);simp only[AD,LA,bp];refine .ao (by decide +kernel) fun K hK =>?_;simp only[Ek,ab,simprocAttr];refine .done (hK _ ?_);clear hK K;refine .ao (by decide +kernel) fun K hK =>?_;simp only[El,ab,simprocAttr];refine .flat _ (l8 n 0 100000) rfl ?_
 try simp only[ab,simprocAttr]
 refine .done (hK _ ?_);clear hK K;refine J.ret ?_;simp only[ab,simprocAttr]
theorem OY(n:Int):aD Tryz.prog 154 [enc n] (enc (bS 1 9999 n)):=by
 refine aD.bA Tryz.func154 Rz Tp Vv (t7 rfl) (fun hwf W0 D0 E1 =>?_);simp only[AS,LQ,bp];refine .ao (by decide +kernel) fun K hK =>?_;simp only[EX,ab,simprocAttr];refine .done (hK _ ?_);clear hK K;refine .ao (by decide +kernel) fun K hK =>?_;simp only[EY,ab,simprocAttr];refine .flat _ (l8 n 1 9999) rfl ?_
 try simp only[ab,simprocAttr]
 refine .done (hK _ ?_);clear hK K;refine J.ret ?_;simp only[ab,simprocAttr]
theorem OZ(n:Int):aD Tryz.prog 155 [enc n] (enc (bS 1 9 n)):=by
 refine aD.bA Tryz.func155 RA Tq Vw (t7 rfl) (fun hwf W0 D0 E1 =>?_);simp only[AT,LR,bp];refine .ao (by decide +kernel) fun K hK =>?_;simp only[EZ,ab,simprocAttr];refine .done (hK _ ?_);clear hK K;refine .ao (by decide +kernel) fun K hK =>?_;simp only[E0,ab,simprocAttr];refine .flat _ (l8 n 1 9) rfl ?_
 try simp only[ab,simprocAttr]
 refine .done (hK _ ?_);clear hK K;refine J.ret ?_;simp only[ab,simprocAttr]
theorem O0(n:Int):aD Tryz.prog 156 [enc n] (enc (bS 1 99 n)):=by
 refine aD.bA Tryz.func156 RB Tr Vx (t7 rfl) (fun hwf W0 D0 E1 =>?_);simp only[AU,LS,bp];refine .ao (by decide +kernel) fun K hK =>?_;simp only[E4,ab,simprocAttr];refine .done (hK _ ?_);clear hK K;refine .ao (by decide +kernel) fun K hK =>?_;simp only[E5,ab,simprocAttr];refine .flat _ (l8 n 1 99) rfl ?_
 try simp only[ab,simprocAttr]
 refine .done (hK _ ?_);clear hK K;refine J.ret ?_;simp only[ab,simprocAttr]
theorem zg(x:Item):aD Tryz.prog 115 [enc x] (enc (pK x)):=by
 refine aD.bA Tryz.func115 Ra SZ U6 (t7 rfl) (fun hwf W0 D0 E1 =>?_);simp only[Ar,Lq,bp];refine .ao (by decide +kernel) fun K hK =>?_;simp only[DQ,ab,simprocAttr]
 try simp only[dO,ab,simprocAttr]
 refine .done (hK _ ?_);clear hK K;refine .ao (by decide +kernel) fun K hK =>?_;simp only[DR,ab,simprocAttr]
 try simp only[qn,ab,simprocAttr]
 refine .flat _ (l8 x.e9 0 5) rfl ?_
 try simp only[ab,simprocAttr]
 cases h1:bS 0 5 x.e9 with
 |false =>
  try simp only[ab,simprocAttr]
  refine .done (hK _ ?_);clear hK K;refine J.ret ?_;simp only[ab,simprocAttr];simp[pK,h1]
 |true =>
  try simp only[qn,ab,simprocAttr]
  refine .flat _ (l8 x.no 0 9999) rfl ?_
  try simp only[ab,simprocAttr]
  refine .done (hK _ ?_);clear hK K;refine J.ret ?_;simp only[ab,simprocAttr];simp[pK,h1]
def before(a b:Item):Bool:=decide (a.e9<b.e9)||(decide (a.e9=b.e9)&&decide (a.no<b.no))
def mK:List Int→Int
 | []=>0
 |x::l=>if x≠0 then x else mK l
theorem K6{l:List Int}{i:Nat}(hi:i≤l.length)(h:∀ k,k<i→l.getD k 0=0):mK (l.drop i)=mK l:=by
 induction i with
 |zero=>simp
 |succ i ih =>
  have hlt:i<l.length:=by omega
  rw[←ih (by omega) (fun k hk=>h k (by omega)),zv7 hlt];have:=h i (by omega);rw[zz1,zz8 hlt] at this;simp at this;simp[mK,this]
theorem O1(l:List Int):aD Tryz.prog 158 [enc l] (enc (mK l)):=by
 refine aD.bA Tryz.func158 RD Tt Vz (t7 rfl) (fun hwf W0 D0 E1 =>?_);simp only[AW,LV,bp];have hlen:l.length≤maxLen:=((lj l).1 hwf.1).1;simp only[maxLen] at hlen;refine .ao (by decide +kernel) fun K hK =>?_;simp only[Fa,ab,simprocAttr];refine .done (hK _ ?_);clear hK K;refine .ao (by decide +kernel) fun K hK =>?_;simp only[Fb,ab,simprocAttr];refine .done (hK _ ?_);clear hK K;refine J.seq (J.seq ?_);refine .bu (by decide +kernel) fun K hK =>?_;simp only[Fc,ab,simprocAttr]
 try simp only[bG,ab,simprocAttr]
 refine .done (hK _ ?_);clear hK K;try simp only[ar]
 refine J.block (J.loop (fun i:Nat=>au [(3,.int .i64 0),(6,enc l),(7,.int .i64 l.length),(8,.int .i64 i)] []) (fun i=>i≤l.length∧∀ k,k<i→l.getD k 0=0) (fun i=>l.length-i) 0 ⟨zw7 _,by intro k hk;omega⟩ ?_ (fun i hi =>?_))
 ·refine aF.bM ?_ ?_ ?_ ?_ <;>simp[aX,bK,bJ,a8,aY,I.only,bt]
 refine .ao (by decide +kernel) fun K hK =>?_;simp only[Fe,ab,simprocAttr];refine .done (hK _ ?_);clear hK K;refine J.seq ?_;refine J.bH ?_;simp only[aq,ab,simprocAttr];refine ⟨fun h =>?_,fun h =>?_⟩
 ·have hlt:i<l.length:=by simpa using h
  refine J.skip ?_;try simp only[ar,simprocAttr]
  refine J.seq (J.block ?_);refine .ao (by decide +kernel) fun K hK =>?_;simp only[Ff,ab,simprocAttr]
  try simp only[fH 1 hlt rfl,ab,simprocAttr]
  refine .done (hK _ ?_);clear hK K;refine J.seq ?_;refine .bu (by decide +kernel) fun K hK =>?_;simp only[Fg,ab,simprocAttr];refine .done (hK _ ?_);clear hK K;try simp only[ar]
  refine J.bH ?_;simp only[aq,ab,simprocAttr];refine ⟨fun h =>?_,fun h =>?_⟩
  ·refine .ao (by decide +kernel) fun K hK =>?_;simp only[Fh,ab,simprocAttr];refine .done (hK _ ?_);clear hK K;refine J.ret ?_;simp only[bL,ar,ab,simprocAttr];rw[←K6 hi.1 hi.2,zv7 hlt];simp at h;simp[mK,h]
  ·refine J.skip ?_;try simp only[ar,bL,simprocAttr]
   refine .bu (by decide +kernel) fun K hK =>?_;simp only[Fi,ab,simprocAttr];refine .done (hK _ ?_);clear hK K;try simp only[ar]
   refine ⟨i+1,⟨by omega,fun k hk =>?_⟩,by omega,?_⟩
   ·by_cases e:k=i
    ·subst e;simp at h;simp[zz1,hlt,h]
    ·exact hi.2 k (by omega)
   ·rw[cE _ (by omega) (by omega)];refine aF.bM ?_ ?_ ?_ ?_ <;>simp[aX,bK,bJ,a8,aY,I.only,bt]
 have hie:i=l.length:=by simp at h;omega
 refine J.exit ?_;try simp only[ar,bL,simprocAttr]
 refine .ao (by decide +kernel) fun K hK =>?_;simp only[Fj,ab,simprocAttr];refine .done (hK _ ?_);clear hK K;refine J.ret ?_;simp only[ab,simprocAttr];rw[←K6 hi.1 hi.2,hie];simp[mK]
def nZ(a b:Item):Int:=mK [jQ a.e9 b.e9,jQ a.no b.no]
theorem zi(a b:Item):aD Tryz.prog 118 [enc a,enc b] (enc (nZ a b)):=by
 refine aD.bA Tryz.func118 Rc S1 U8 (t7 rfl) (fun hwf W0 D0 E1 =>?_);simp only[Au,Ls,bp,zz4];refine .ao (by decide +kernel) fun K hK =>?_;simp only[DV,ab,simprocAttr]
 try simp only[dO,ab,simprocAttr]
 refine .done (hK _ ?_);clear hK K;refine .ao (by decide +kernel) fun K hK =>?_;simp only[DW,ab,simprocAttr]
 try simp only[qn,ab,simprocAttr]
 refine .flat _ (zo a.e9 b.e9) rfl ?_
 try simp only[qn,ab,simprocAttr]
 refine .flat _ (zo a.no b.no) rfl ?_
 try simp only[ab,simprocAttr]
 have hb:iw 1 (some [.int .i64 (jQ a.e9 b.e9),.int .i64 (jQ a.no b.no)])=some (enc [jQ a.e9 b.e9,jQ a.no b.no]):=m9 (ys:=[jQ a.e9 b.e9,jQ a.no b.no]) 1 rfl
 try simp only[hb,cZ,ab,simprocAttr]
 refine .flat _ (O1 _) rfl ?_
 try simp only[ab,simprocAttr]
 refine .done (hK _ ?_);clear hK K;refine J.ret ?_;simp only[ab,simprocAttr];rfl
deriving instance DecidableEq for aR
deriving instance DecidableEq for av
deriving instance DecidableEq for aB
def nR:aR 6 Int:=⟨List.replicate 6 0,rfl⟩
instance:Inhabited av:=⟨⟨⟨0,0⟩,0,0,0,0,0,0,0,nR,⟨0,0⟩⟩⟩
instance:Inhabited aB:=⟨⟨0,0,0,0,0,0,0,false,[]⟩⟩
def iQ(x:av):av where
 bN:=x.bN
 kind:=x.kind
 day:=x.day
 known:=x.known
 c9:=if x.kind=0 then 0 else x.c9
 cz:=if x.kind=1 then x.cz else 0
 cM:=if x.kind=1∨x.kind=2 then x.cM else 0
 bP:=if x.kind=1∨x.kind=3∨x.kind=5 then x.bP else 0
 cm:=if x.kind=4 then x.cm else nR
 jX:=if x.kind=0 then x.jX else ⟨0,0⟩
def oc(x:av):Bool :=
 if x.kind=0 then (x.day==0)&&(pK x.jX&&((x.jX.e9==x.bN.e9)&&decide (x.jX.no<x.bN.no)))
 else bS 1 9999 x.c9&&(
  if x.kind=1 then bS 1 9 x.cM&&(bS 1 99 x.bP&&(bS 0 9999 x.cz&&(x.cz != x.c9)))
  else if x.kind=2 then bS 1 9 x.cM
  else if x.kind=3∨x.kind=5 then bS 1 99 x.bP
  else if x.kind=4 then gZ x.cm
  else decide (x.kind=6))
def gi(x:av):Bool:=oc x&&(decide (x=iQ x)&&(pK x.bN&&(bS 0 100000 x.day&&bS 0 100000 x.known)))
def af(l:List av)(i:Nat):av:=l.getD i default
def kq(l:List av)(i:Nat):Bool:=gi (af l i)&&(decide (i=0)||before (af l (i-1)).bN (af l i).bN)
def dU(l:List av):Bool:=decide (l.length≤60)&&(List.range l.length).all (kq l)
def jJ(known:Int):List av→List Bool×List Item
 | []=>([],[])
 |x::l =>
  let b:=decide (x.known≤known) && !(jJ known l).2.contains x.bN
  (b::(jJ known l).1,if b&&decide (x.kind=0) then x.jX::(jJ known l).2 else (jJ known l).2)
def ik(l:List av)(known:Int):List Bool:=(jJ known l).1
def eJ(l:List av)(known:Int):List Nat:=(List.range l.length).filter fun i=>(ik l known).getD i false
def iZ(key:Nat→Int)(i:Nat)(l:List Nat):List Nat:=(l.takeWhile fun k=>decide (key k≤key i))++i::l.dropWhile fun k=>decide (key k≤key i)
def K7(key:Nat→Int)(l:List Nat):List Nat:=l.foldl (fun o i=>iZ key i o) []
def jt(l:List av)(day known:Int):List Nat:=(eJ l known).filter fun i=>decide ((af l i).kind≠0)&&decide ((af l i).day≤day)
def jE(l:List av)(day known:Int):List Nat:=K7 (fun i=>(af l i).day) (jt l day known)
def cW(bs:List aB)(no:Int):Option aB:=bs.find? fun b=>decide (b.no=no)
def lb(bs:List aB)(x:aB):List aB:=bs.map fun b=>if b.no=x.no then x else b
def eY(x:av):aB:=⟨x.c9,x.cM,x.cz,x.bP,x.bP,x.day,-1,false,[]⟩
def hX(bs:List aB)(x:av):Bool:=decide (x.cz≤0)||match cW bs x.cz with
 |some d=>decide (d.cM=x.cM) && !(decide (0≤d.cL)&&decide (d.cL<x.day))
 |none=>false
def eT(b:aB)(x:av):Option aB :=
 if x.kind=3 then (if b.cL≥0∨b.bP=0∨b.bP=x.bP then none else some { b with bP:=x.bP })
 else if x.kind=4 then some { b with cm:=b.cm++[x.cm] }
 else if x.kind=5 then some { b with bP:=x.bP,found:=true }
 else (if b.cL≥0 then none else some { b with cL:=x.day })
def ea(add:List aB→aB→List aB)(bs:List aB)(x:av):Option (List aB) :=
 if x.kind=1∨x.kind=2 then (if cW bs x.c9=none∧hX bs x=true then some (add bs (eY x)) else none)
 else match cW bs x.c9 with
  |none=>none
  |some b=>(eT b x).map (lb bs)
def ev(bs:List aB)(b:aB):List aB:=bs++[b]
def lh(add:List aB→aB→List aB)(l:List av)(s:List aB×List Nat)(i:Nat):List aB×List Nat:=match ea add s.1 (af l i) with
 |some bs=>(bs,s.2)
 |none=>(s.1,s.2++[i])
def rB(add:List aB→aB→List aB)(l:List av)(order:List Nat):List aB×List Nat:=order.foldl (lh add l) ([],[])
theorem ajP(bs:List aB)(x:aB):(lb bs x).map (·.no)=bs.map (·.no):=by
 simp only[lb,List.map_map];refine List.map_congr_left fun b _ =>?_;simp only[Function.comp];split
 ·rename_i h;exact h.symm
 ·rfl
theorem oi{bs:List aB}{no:Int}{b:aB}(h:cW bs no=some b):b∈bs∧b.no=no:=⟨List.mem_of_find?_eq_some h,by simpa using List.find?_some h⟩
theorem wU{bs:List aB}{no:Int} : cW bs no=none↔no∉bs.map (·.no):=by
 simp[cW]
theorem wV{bs:List aB}(hd:(bs.map (·.no)).Nodup){b:aB}(h:b∈bs):cW bs b.no=some b:=by
 induction bs with
 |nil=>cases h
 |cons a bs ih =>
  simp only[cW,List.find?_cons];simp only[zz9,List.nodup_cons] at hd;by_cases e:a.no=b.no
  ·rcases zw4.1 h with rfl | h
   ·simp
   ·exact absurd (zx4.2 ⟨b,h,e.symm⟩) hd.1
  ·rcases zw4.1 h with rfl | h
   ·exact absurd rfl e
   ·simp only[decide_eq_false e];exact ih hd.2 h
def ze(add:List aB→aB→List aB):Prop:=∀ bs b,(add bs b).Perm (b::bs)
theorem zS:ze ev:=fun bs b=>List.perm_append_comm
theorem z7{add:List aB→aB→List aB}(ha:ze add){bs bs':List aB}{x:av}(hd:(bs.map (·.no)).Nodup)(h:ea add bs x=some bs'):(bs'.map (·.no)).Nodup:=by
 simp only[ea] at h;split at h
 ·split at h
  ·rename_i h2;simp only[u8] at h;subst h;rw[((ha bs (eY x)).map _).nodup_iff];simp only[zz9,List.nodup_cons];exact ⟨wU.1 h2.1,hd⟩
  ·cases h
 ·split at h
  ·cases h
  ·simp only[zz0] at h;obtain ⟨b',_,rfl⟩:=h;rw[ajP];exact hd
theorem ajY{n:Nat}{p:List Nat}{sz k total i j:Nat}(h:i≤j)(hj:j≤k)(hk:k≤total):hJ n p sz 0 k total (some (.int .i64 i)) (some (.int .i64 j)) (some (.int .i64 k))=some .dp:=by
 simp only[hJ,iv];rw[if_pos ⟨by omega,by omega,by omega,by omega⟩]
theorem NQ{n:Nat}{p:List Nat}{sz k total i j:Nat}(h:i≤j)(hk:j≤total)(h0:i<total):hJ n p sz 0 k total (some (.int .i64 i)) (some (.int .i64 j)) none=some (.view n p sz i (j-i)):=by
 simp only[hJ,iv];rw[if_pos ⟨by omega,by omega,by omega⟩,if_neg (by omega)];simp
theorem Qk{α:Type}[Enc α]{A:ae}{rest:List az}{esz bytes:Nat}{d:Option Nat}{e:Nat}(z x:I){n l:Nat}{xs ys:List α}(hx:eI A esz x=some (ys.map enc))(hy:ys≠[])(ho:A.o n=some (.box (.agg (xs.map enc))))(hr:l+ys.length≤xs.length) :
  kc A d e esz bytes z x rest (.view n [] esz 0 l)=ay rest ((A.aL n (.box (.agg ((xs.take l++(ys++xs.drop (l+ys.length))).map enc)))).aN d (.view n [] esz 0 (l+ys.length))):=by
 have h1:=uq (A:=A) (esz:=esz) (lo:=0) (k:=l) ho (by omega);have h2:(I.agg (xs.map (enc (α:=α)))).at []=some (.agg (xs.map enc)):=rfl;have h3:I.cX (ys.map (enc (α:=α)))=I.cX (((xs.map (enc (α:=α))).drop l).take ys.length):=by
  rw[←List.map_drop,←List.map_take];exact ajR (by rw[zx3,zx0];omega)
 simp only[kc,h1,hx,fD];rw[if_neg (by simpa using hy)];simp only[ho,h2,zy2,zz4];rw[if_pos hr,if_pos ⟨rfl,by rw[zy2,zz4];exact h3⟩];simp only[jj,fv,zy2,zx6,List.map_take,List.map_drop]
theorem Qj{α:Type}[Enc α]{A:ae}{rest:List az}{esz bytes:Nat}{d:Option Nat}{e:Nat}(z x:I){n l:Nat}{xs:List α}(hx:eI A esz x=some [])(ho:A.o n=some (.box (.agg (xs.map enc))))(hr:l≤xs.length) :
  kc A d e esz bytes z x rest (.view n [] esz 0 l)=ay rest (A.aN d (.view n [] esz 0 l)):=by
 have h1:=uq (A:=A) (esz:=esz) (lo:=0) (k:=l) ho (by omega);simp only[kc,h1,hx,fD,if_true]
theorem Yg(a b:Int):cq (.i .i64) (enc a) (enc b)=some (a==b):=by simp[gT,cq]
theorem Dq:∀ (x y:List Int),x.length=y.length→((x.map (enc (α:=Int))).zip (y.map (enc (α:=Int)))).foldr (fun p acc=>iu (cq (.i .i64) p.1 p.2) acc) (some true)=some (decide (x=y))
 | [],[],_=>by simp
 |a::x,b::y,h=>by
  have ih:=Dq x y (by simpa using h);rw[zz9,zz9,List.zip_cons_cons,List.foldr_cons,ih,Yg];by_cases hab:a=b <;>by_cases hxy:x=y <;>simp[iu,hab,hxy]
theorem sH{n:Nat}(x y:aR n Int):cq (.kG n (.i .i64)) (enc x) (enc y)=some (decide (x.l=y.l)):=by
 change cq (.kG n (.i .i64)) (.agg (x.l.map enc)) (.agg (y.l.map enc))=_
 rw[cq,if_pos ⟨by simp[x.h],by simp[y.h]⟩];exact Dq x.l y.l (by rw[x.h,y.h])
theorem O4(n:Int):aD Tryz.prog 162 [enc n] (enc (!bS 0 4 n)):=by
 refine aD.bA Tryz.func162 RI Ty VE (t7 rfl) (fun hwf W0 D0 E1 =>?_);simp only[A2,L0,bp];refine .ao (by decide +kernel) fun K hK =>?_;simp only[FA,ab,simprocAttr];refine .done (hK _ ?_);clear hK K;refine .ao (by decide +kernel) fun K hK =>?_;simp only[FB,ab,simprocAttr];refine .flat _ (rY n 0 4) rfl ?_
 try simp only[ab,simprocAttr]
 refine .done (hK _ ?_);clear hK K;refine J.ret ?_;simp only[ab,simprocAttr]
theorem Pw(n:Int):aD Tryz.prog 211 [enc n] (enc (!bS 1 31 n)):=by
 refine aD.bA Tryz.func211 R8 TZ V5 (t7 rfl) (fun hwf W0 D0 E1 =>?_);simp only[Bv,Mr,bp];refine .ao (by decide +kernel) fun K hK =>?_;simp only[Hh,ab,simprocAttr];refine .done (hK _ ?_);clear hK K;refine .ao (by decide +kernel) fun K hK =>?_;simp only[Hi,ab,simprocAttr];generalize hz:(n==0)=z;cases z
 ·try simp only[ab,simprocAttr]
  refine .flat _ (zp n) rfl ?_
  try simp only[ab,simprocAttr]
  refine .done (hK _ ?_);clear hK K;refine J.ret ?_;simp only[ab,simprocAttr];simp at hz;have e:(0≤n)↔(1≤n):=by omega
  simp[bS,e]
 ·try simp only[ab,simprocAttr]
  refine .done (hK _ ?_);clear hK K;refine J.ret ?_;simp only[ab,simprocAttr];simp at hz;simp[bS,hz]
def nw(p:Int→Bool)(l:List Int):Int:=match l.findIdx? p with
 |some i=>i
 |none=>-1
theorem vM{α:Type}{p:α→Bool}{l:List α}(h:∀ x∈l,p x=false):l.findIdx? p=none:=by
 rw[List.findIdx?_eq_none_iff];exact h
theorem vN{α:Type}{p:α→Bool}{l:List α}{i:Nat}(hi:i<l.length)(h:∀ x∈l.take i,p x=false)(hp:p l[i]=true):l.findIdx? p=some i:=by
 rw[List.findIdx?_eq_some_iff_getElem];refine ⟨hi,hp,fun j hj =>?_⟩;have:l[j]∈l.take i:=by
  rw[List.mem_take_iff_getElem];exact ⟨j,by omega,rfl⟩
 simp[h _ this]
theorem O8(l:List Int)(f:FuncId)(caps:List I)(hcaps:I.eV caps=true)(p:Int→Bool)(hf:∀ x∈l,aD Tryz.prog f (enc x::caps) (enc (p x))):aD Tryz.prog 166 [enc l,.func f caps] (enc (nw p l)):=by
 refine aD.bA Tryz.func166 RM TC VI (t7 rfl) (fun hwf W0 D0 E1 =>?_);simp only[A7,L4,bp,zz4];have hlen:l.length≤maxLen:=((lj l).1 hwf.1).1;simp only[maxLen] at hlen;have hcl:I.bW caps=true:=kM caps hcaps;have hfc:∀ aA A,bZ aA A caps=some caps:=fun aA A=>kQ aA A caps hcaps;have hon:∀ q,I.bU q caps=true:=fun q=>kr q caps hcl;refine .ao (by decide +kernel) fun K hK =>?_;simp only[FJ,ab,simprocAttr];refine .done (hK _ ?_);clear hK K;refine J.seq ?_;refine J.seq (J.bu (by decide +kernel) fun K hK =>?_)
 try simp only[FK,bG,ab,simprocAttr]
 refine .done (hK _ ?_);clear hK K;refine J.block (J.loop (fun i:Nat=>au [(0,enc l),(1,.func f caps),(7,.int .i64 l.length),(8,.int .i64 i)] []) (fun i=>i≤l.length∧∀ x∈l.take i,p x=false) (fun i=>l.length-i) 0 ⟨zw7 _,by simp⟩ ?_ (fun i hi =>?_))
 ·refine aF.bM ?_ ?_ ?_ ?_ <;>simp[aX,bK,bJ,a8,aY,I.only,bt,hon]
 ·refine .ao (by decide +kernel) fun K hK =>?_;simp only[FL,ab,simprocAttr];refine .done (hK _ ?_);clear hK K;refine J.seq ?_;refine J.bH ?_;simp only[aq,ab,simprocAttr];refine ⟨fun h =>?_,fun h =>?_⟩
  ·have hlt:i<l.length:=by simpa using h
   refine J.skip ?_;try simp only[ar,simprocAttr]
   refine J.seq (J.block ?_);refine .ao (by decide +kernel) fun K hK =>?_;simp only[FM,ab,simprocAttr];refine .done (hK _ ?_);clear hK K;refine .ao (by decide +kernel) fun K hK =>?_;simp only[FN,ab,simprocAttr]
   try simp only[fH 1 hlt rfl,zy0,hfc,ab,simprocAttr]
   refine .flat _ (hf _ (zy9 hlt)) rfl ?_
   try simp only[ab,simprocAttr]
   refine .done (hK _ ?_);clear hK K;refine J.bH ?_;simp only[aq,ab,simprocAttr];refine ⟨fun h =>?_,fun h =>?_⟩
   ·refine .ao (by decide +kernel) fun K hK =>?_;simp only[FO,ab,simprocAttr];refine .done (hK _ ?_);clear hK K;refine J.ret ?_;simp only[bL,ar,ab,simprocAttr];simp[nw,vN hlt hi.2 h]
   ·refine J.skip ?_;try simp only[ar,bL,simprocAttr]
    refine .bu (by decide +kernel) fun K hK =>?_;simp only[FP,ab,simprocAttr];refine .done (hK _ ?_);clear hK K;try simp only[ar]
    refine ⟨i+1,⟨by omega,fun x hm =>?_⟩,by omega,?_⟩
    ·rw[zy3 hlt] at hm;rcases zy1.1 hm with hm | hm
     ·exact hi.2 x hm
     ·simp at hm;rw[hm];exact h
    ·rw[cE _ (by omega) (by omega)];refine aF.bM ?_ ?_ ?_ ?_ <;>simp[aX,bK,bJ,a8,aY,I.only,bt,hon]
  ·have hge:i=l.length:=by simp at h;omega
   refine J.exit ?_;try simp only[ar,bL,simprocAttr]
   refine .ao (by decide +kernel) fun K hK =>?_;simp only[FQ,ab,simprocAttr];refine .done (hK _ ?_);clear hK K;refine J.ret ?_;simp only[ab,simprocAttr];simp[hge] at hi;simp[nw,vM hi]
theorem Jw(p:Int→Bool)(l:List Int):decide (0≤nw p l)=l.any p:=by
 unfold nw;cases h:l.findIdx? p with
 |none =>
  rw[List.findIdx?_eq_none_iff] at h;have:l.any p=false:=by rw[List.any_eq_false];intro x hx;simp[h x hx]
  simp[this]
 |some i =>
  rw[List.findIdx?_eq_some_iff_getElem] at h;obtain ⟨h1,h2,_⟩:=h;have:l.any p=true:=by rw[List.any_eq_true];exact ⟨_,zy9 h1,h2⟩
  rw[this];exact decide_eq_true (Int.natCast_nonneg i)
theorem uH(l:List Int)(f:FuncId)(caps:List I)(hcaps:I.eV caps=true)(p:Int→Bool)(hf:∀ x∈l,aD Tryz.prog f (enc x::caps) (enc (p x))):aD Tryz.prog 125 [enc l,.func f caps] (enc (l.any p)):=by
 refine aD.bA Tryz.func125 Rj S7 Ve (t7 rfl) (fun hwf W0 D0 E1 =>?_);simp only[AA,Ly,bp,zz4];have hcl:I.bW caps=true:=kM caps hcaps;have hfc:∀ aA A,bZ aA A caps=some caps:=fun aA A=>kQ aA A caps hcaps;refine .ao (by decide +kernel) fun K hK =>?_;simp only[Ei,ab,simprocAttr];refine .done (hK _ ?_);clear hK K;refine .ao (by decide +kernel) fun K hK =>?_;simp only[Ej,ab,simprocAttr]
 try simp only[cZ,hfc,ab,simprocAttr]
 refine .flat _ (O8 l f caps hcaps p hf) rfl ?_
 try simp only[ab,simprocAttr]
 refine .done (hK _ ?_);clear hK K;refine J.ret ?_;simp only[ab,simprocAttr];rw[Jw]
theorem Db{α:Type}[Enc α]{n sz:Nat}(x:aR n α)(hs:Enc.sz α=sz):mz sz 0 n (some (x.l.map enc))=some (enc x.l):=by
 have h:((x.l.map (enc (α:=α))).drop 0).take n=x.l.map enc:=by
  rw[List.drop_zero,zv5];simp[x.h]
 simp only[mz,h];rw[if_pos (jP x.l),gn,hs]
theorem Oq{α:Type}[Enc α]{n sz:Nat}(x:aR n α)(hs:Enc.sz α=sz)(h1:n≤maxLen)(h0:n≠0)(y:I):o6 n sz (x.l.map enc) y=some y:=by
 simp only[o6];rw[if_pos ⟨vF n sz x.l x.h hs,h1,h0⟩]
theorem zV(p:Int→Bool)(x:aR 6 Int):x.l.any (fun v => !p v) = !(List.range 6).all (fun i=>p (x.g i)):=by
 have h:(List.range 6).all (fun i=>p (x.g i))=x.l.all p:=by
  rw[Bool.eq_iff_iff];simp only[zy8,zx5];constructor
  ·intro h v hv;obtain ⟨i,hi,rfl⟩:=List.getElem_of_mem hv;have:=h i (by rw[x.h] at hi;exact hi)
   rwa [←x.sW (by rw[x.h] at hi;exact hi)] at this
  ·intro h i hi;rw[←x.sW hi];exact h _ (zy9 _)
 rw[h,List.not_all_eq_any_not]
theorem OM(m:aR 6 Int):aD Tryz.prog 123 [enc m] (enc (dV m)):=by
 refine aD.bA Tryz.func123 Rh S5 Vc (t7 rfl) (fun hwf W0 D0 E1 =>?_);simp only[Ay,Lw,bp];refine .ao (by decide +kernel) fun K hK =>?_;simp only[Ed,ab,simprocAttr];refine .done (hK _ ?_);clear hK K;refine .ao (by decide +kernel) fun K hK =>?_;simp only[Ee,ab,simprocAttr]
 try simp only[bG,Oq (sz:=1) m rfl (t7 rfl) (Nat.succ_ne_zero 5),Db (sz:=1) m rfl,ab,simprocAttr]
 refine .flat _ (uH m.l 162 [] rfl (fun n => !bS 0 4 n) (fun x _=>O4 x)) rfl ?_
 try simp only[ab,simprocAttr]
 refine .done (hK _ ?_);clear hK K;refine J.ret ?_;simp only[ab,simprocAttr];rw[zV (bS 0 4)];simp[dV]
theorem Pl(m:aR 6 Int):aD Tryz.prog 193 [enc m] (enc (gZ m)):=by
 refine aD.bA Tryz.func193 RX TO VU (t7 rfl) (fun hwf W0 D0 E1 =>?_);simp only[Bj,Mg,bp];refine .ao (by decide +kernel) fun K hK =>?_;simp only[Gc,ab,simprocAttr];refine .done (hK _ ?_);clear hK K;refine .ao (by decide +kernel) fun K hK =>?_;simp only[Gd,ab,simprocAttr]
 try simp only[bG,Oq (sz:=1) m rfl (t7 rfl) (Nat.succ_ne_zero 5),Db (sz:=1) m rfl,ab,simprocAttr]
 refine .flat _ (uH m.l 211 [] rfl (fun n => !bS 1 31 n) (fun x _=>Pw x)) rfl ?_
 try simp only[ab,simprocAttr]
 refine .done (hK _ ?_);clear hK K;refine J.ret ?_;simp only[ab,simprocAttr];rw[zV (bS 1 31)];simp[gZ]
theorem OL(n:Int):aD Tryz.prog 122 [enc n] (enc (bS 1 99 n)):=by
 refine aD.bA Tryz.func122 Rg S4 Vb (t7 rfl) (fun hwf W0 D0 E1 =>?_);simp only[Ax,Lv,bp];refine .ao (by decide +kernel) fun K hK =>?_;simp only[Eb,ab,simprocAttr];refine .done (hK _ ?_);clear hK K;refine .ao (by decide +kernel) fun K hK =>?_;simp only[Ec,ab,simprocAttr];refine .flat _ (rY n 1 99) rfl ?_
 try simp only[ab,simprocAttr]
 refine .done (hK _ ?_);clear hK K;refine J.ret ?_;simp only[ab,simprocAttr]
theorem zn(m:aR 6 Int):aD Tryz.prog 157 [enc m] (enc (if gZ m then (0:Int) else 12)):=by
 refine aD.bA Tryz.func157 RC Ts Vy (t7 rfl) (fun hwf W0 D0 E1 =>?_);simp only[AV,LU,bp];refine .ao (by decide +kernel) fun K hK =>?_;simp only[E6,ab,simprocAttr];refine .done (hK _ ?_);clear hK K;refine J.seq (J.seq ?_);refine .bu (by decide +kernel) fun K hK =>?_;simp only[E7,ab,simprocAttr]
 try simp only[cG,cZ,ab,simprocAttr]
 refine .flat _ (Pl m) rfl ?_;generalize hm:gZ m=b;cases b
 ·try simp only[ab,simprocAttr]
  refine .done (hK _ ?_);clear hK K;try simp only[ar]
  refine J.bH ?_;simp only[aq,ab,simprocAttr];refine ⟨fun h =>?_,fun h =>?_⟩
  ·refine .ao (by decide +kernel) fun K hK =>?_;simp only[E8,ab,simprocAttr];refine .done (hK _ ?_);clear hK K;refine J.ret ?_;simp only[ar,ab,simprocAttr];simp[hm]
  ·cases h
 ·try simp only[ab,simprocAttr]
  refine .done (hK _ ?_);clear hK K;refine J.bH ?_;simp only[aq,ab,simprocAttr];refine ⟨fun h =>?_,fun h =>?_⟩
  ·cases h
  ·refine J.skip ?_;try simp only[ar,simprocAttr]
   refine .ao (by decide +kernel) fun K hK =>?_;simp only[E9,ab,simprocAttr];refine .done (hK _ ?_);clear hK K;refine J.ret ?_;simp only[ab,simprocAttr];simp[hm]
def xc(s:Int)(k:Nat):Bool:=nY (s.fdiv (2^min k IntKind.i64.bits)) 1==1
theorem O3(s:Int)(k:Nat):aD Tryz.prog 161 [enc s,enc (k:Int)] (enc (xc s k)):=by
 refine aD.bA Tryz.func161 RH Tx VD (t7 rfl) (fun hwf W0 D0 E1 =>?_);simp only[A1,LZ,bp,zz4];refine .ao (by decide +kernel) fun K hK =>?_;simp only[Fy,ab,simprocAttr];refine .done (hK _ ?_);clear hK K;refine .ao (by decide +kernel) fun K hK =>?_;simp only[Fz,ab,simprocAttr];refine .done (hK _ ?_);clear hK K;refine J.ret ?_;simp only[ab,simprocAttr];rfl
theorem agf(s:Int)(h0:0≤s)(h1:s≤31)(k:Nat)(hk:k<5):xc s k=gQ s k:=by
 have key:∀ s:Fin 32,∀ k:Fin 5,xc (s.1:Int) k.1=gQ (s.1:Int) k.1:=by decide +kernel
 have:=key ⟨s.toNat,by omega⟩ ⟨k,hk⟩;simpa[Int.toNat_of_nonneg h0] using this
theorem OK(m:aR 5 Int):aD Tryz.prog 120 [enc m] (enc (hE m)):=by
 refine aD.bA Tryz.func120 Re S2 U9 (t7 rfl) (fun hwf W0 D0 E1 =>?_);simp only[Av,Lt,bp];refine .ao (by decide +kernel) fun K hK =>?_;simp only[DX,ab,simprocAttr];refine .done (hK _ ?_);clear hK K;refine J.seq ?_;refine J.seq (J.bu (by decide +kernel) fun K hK =>?_)
 try simp only[DY,cG,ab,simprocAttr]
 refine .done (hK _ ?_);clear hK K;refine J.block (J.loop (fun i:Nat=>au [(2,.bool false),(6,enc m),(7,.int .i64 i)] []) (fun j=>j≤5∧∀ i,i<j→(bS 0 31 (m.g i)&&gQ (m.g i) i)=true) (fun i=>5-i) 0 ⟨by omega,fun k h=>by omega⟩ ?_ (fun i hi =>?_))
 ·refine aF.bM ?_ ?_ ?_ ?_ <;>simp[aX,bK,bJ,a8,aY,I.only,bt]
 ·refine .ao (by decide +kernel) fun K hK =>?_;simp only[DZ,ab,simprocAttr];refine .done (hK _ ?_);clear hK K;refine J.seq ?_;refine J.bH ?_;simp only[aq,ab,simprocAttr];refine ⟨fun h =>?_,fun h =>?_⟩
  ·have hlt:i<5:=by simp at h;omega
   refine J.skip ?_;try simp only[ar,simprocAttr]
   refine J.seq (J.block ?_);refine .ao (by decide +kernel) fun K hK =>?_;simp only[D4,ab,simprocAttr]
   try simp only[re,bG,jv 1 m hlt rfl,qS m hlt,ab,simprocAttr]
   refine .done (hK _ ?_);clear hK K;refine .ao (by decide +kernel) fun K hK =>?_;simp only[D5,ab,simprocAttr];refine .done (hK _ ?_);clear hK K;refine .ao (by decide +kernel) fun K hK =>?_;simp only[D6,ab,simprocAttr];refine .flat _ (zp _) rfl ?_;generalize hb:bS 0 31 (m.g i)=b;cases b
   ·try simp only[ab,simprocAttr]
    refine .done (hK _ ?_);clear hK K;refine J.bH ?_;simp only[aq,ab,simprocAttr];refine ⟨fun h =>?_,fun h =>?_⟩
    ·refine .ao (by decide +kernel) fun K hK =>?_;simp only[vS,ab,simprocAttr];refine .done (hK _ ?_);clear hK K;refine J.ret ?_;simp only[bL,ar,ab,simprocAttr];rw[hE,nW i hlt];simp[hb]
    ·cases h
   ·have hr:0≤m.g i∧m.g i≤31:=by simpa[bS] using hb
    try simp only[ab,simprocAttr]
    refine .flat _ (O3 (m.g i) i) rfl ?_;rw[agf _ hr.1 hr.2 i hlt]
    try simp only[ab,simprocAttr]
    refine .done (hK _ ?_);clear hK K;refine J.bH ?_;simp only[aq,ab,simprocAttr];refine ⟨fun h =>?_,fun h =>?_⟩
    ·refine .ao (by decide +kernel) fun K hK =>?_;simp only[vS,ab,simprocAttr];refine .done (hK _ ?_);clear hK K;refine J.ret ?_;simp only[bL,ar,ab,simprocAttr];rw[hE,nW i hlt];simp at h;simp[h]
    ·refine J.skip ?_;try simp only[ar,bL,simprocAttr]
     refine .bu (by decide +kernel) fun K hK =>?_;simp only[D7,ab,simprocAttr];refine .done (hK _ ?_);clear hK K;try simp only[ar]
     refine ⟨i+1,⟨by omega,fun k hk =>?_⟩,by omega,?_⟩
     ·by_cases hk':k=i
      ·subst hk';simp at h;simp[hb,h]
      ·exact hi.2 k (by omega)
     ·rw[cE _ (by omega) (by omega)];refine aF.bM ?_ ?_ ?_ ?_ <;>simp[aX,bK,bJ,a8,aY,I.only,bt]
  ·have hge:i=5:=by simp at h;omega
   subst hge;refine J.exit ?_;try simp only[ar,bL,simprocAttr]
   refine .ao (by decide +kernel) fun K hK =>?_;simp only[D8,ab,simprocAttr];refine .done (hK _ ?_);clear hK K;refine J.ret ?_;simp only[ab,simprocAttr];rw[hE,qv hi.2]
theorem zu(f:FuncId)(caps:List I)(hcaps:I.eV caps=true)(p:Nat→Bool)(hf:∀ i:Nat,i<6→aD Tryz.prog f (enc (i:Int)::caps) (enc (p i))):aD Tryz.prog 197 [.func f caps] (enc (eM (fun i => !p i) 6:Int)):=by
 refine aD.bA Tryz.func197 R1 TS VY (t7 rfl) (fun hwf W0 D0 E1 =>?_);simp only[Bn,Mk,bp];have hcl:I.bW caps=true:=kM caps hcaps;have hfc:∀ aA A,bZ aA A caps=some caps:=fun aA A=>kQ aA A caps hcaps;have hon:∀ q,I.bU q caps=true:=fun q=>kr q caps hcl;refine .ao (by decide +kernel) fun K hK =>?_;simp only[Gr,ab,simprocAttr];refine .done (hK _ ?_);clear hK K;refine .ao (by decide +kernel) fun K hK =>?_;simp only[Gs,ab,simprocAttr];refine .done (hK _ ?_);clear hK K;refine J.seq ?_;refine .ao (by decide +kernel) fun K hK =>?_;simp only[Gt,ab,simprocAttr];refine .done (hK _ ?_);clear hK K;refine J.block (J.loop (fun i:Nat=>au [(0,.func f caps),(3,.int .i64 (eM (fun i => !p i) i:Int)),(5,.int .i64 i)] []) (fun i=>i≤6∧eM (fun i => !p i) i≤i) (fun i=>6-i) 0 ⟨by omega,by simp[eM]⟩ ?_ (fun i hi =>?_))
 ·refine aF.bM ?_ ?_ ?_ ?_ <;>simp[aX,bK,bJ,a8,aY,I.only,hon,eM]
 ·refine .ao (by decide +kernel) fun K hK =>?_;simp only[Gu,ab,simprocAttr];refine .done (hK _ ?_);clear hK K;refine J.seq ?_;refine J.bH ?_;simp only[aq,ab,simprocAttr];refine ⟨fun h =>?_,fun h =>?_⟩
  ·have hlt:i<6:=by simp at h;omega
   refine J.skip ?_;try simp only[ar,simprocAttr]
   refine J.seq (J.block ?_);refine .ao (by decide +kernel) fun K hK =>?_;simp only[Gv,ab,simprocAttr];refine .done (hK _ ?_);clear hK K;refine .ao (by decide +kernel) fun K hK =>?_;simp only[Gw,ab,simprocAttr]
   try simp only[zy0,hfc,ab,simprocAttr]
   refine .flat _ (hf i hlt) rfl ?_
   try simp only[ab,simprocAttr]
   refine .done (hK _ ?_);clear hK K;refine J.bH ?_;simp only[aq,ab,simprocAttr];refine ⟨fun h =>?_,fun h =>?_⟩
   ·simp at h;refine .bu (by decide +kernel) fun K hK =>?_;simp only[Gx,ab,simprocAttr];refine .done (hK _ ?_);clear hK K;try simp only[ar,bL]
    refine .bu (by decide +kernel) fun K hK =>?_;simp only[wz,ab,simprocAttr];refine .done (hK _ ?_);clear hK K;try simp only[ar]
    refine ⟨i+1,⟨by omega,?_⟩,by omega,?_⟩
    ·simp only[eM];split <;>omega
    ·rw[cE _ (by omega) (by omega),cE _ (by omega) (by omega)];refine aF.bM ?_ ?_ ?_ ?_ <;>simp[aX,bK,bJ,a8,aY,I.only,hon,eM,h]
   ·simp at h;refine J.skip ?_;try simp only[ar,bL,simprocAttr]
    refine .bu (by decide +kernel) fun K hK =>?_;simp only[wz,ab,simprocAttr];refine .done (hK _ ?_);clear hK K;try simp only[ar]
    refine ⟨i+1,⟨by omega,?_⟩,by omega,?_⟩
    ·simp only[eM];split <;>omega
    ·rw[cE _ (by omega) (by omega)];refine aF.bM ?_ ?_ ?_ ?_ <;>simp[aX,bK,bJ,a8,aY,I.only,hon,eM,h]
  ·have hge:i=6:=by simp at h;omega
   subst hge;refine J.exit ?_;try simp only[ar,bL,simprocAttr]
   refine .ao (by decide +kernel) fun K hK =>?_;simp only[Gy,ab,simprocAttr];refine .done (hK _ ?_);clear hK K;refine J.ret ?_;simp only[ab,simprocAttr]
theorem Px(w:aR 5 Int)(m r:aR 6 Int)(hm:dV m=true)(i:Nat)(hi:i<6):aD Tryz.prog 212 (enc (i:Int)::[.ref (.func 196 []),.ref (enc w),.ref (enc m),.ref (enc r)]) (enc (!nd w m r i)):=by
 obtain ⟨h0,h5⟩:=nG hm hi;refine aD.bA Tryz.func212 R9 T0 V6 (t7 rfl) (fun hwf W0 D0 E1 =>?_);simp only[Bw,Ms,bp,zz4,Nat.reduceAdd];refine .ao (by decide +kernel) fun K hK =>?_;simp only[Hj,ab,simprocAttr];refine .done (hK _ ?_);clear hK K;refine .ao (by decide +kernel) fun K hK =>?_;simp only[Hk,ab,simprocAttr]
 try simp only[cG,cZ,ab,simprocAttr]
 refine .flat _ (uL w m i hi h0 h5) rfl ?_
 try simp only[bG,jv 1 r hi rfl,qW,qS r hi,zx8,ab,simprocAttr]
 refine .flat _ (zt _ _) rfl ?_
 try simp only[ab,simprocAttr]
 refine .done (hK _ ?_);clear hK K;refine J.ret ?_;simp only[ab,simprocAttr];simp[nd,bne]
theorem Pm(w:aR 5 Int)(a b:aR 6 Int)(ha:dV a=true)(hb:dV b=true)(i:Nat)(hi:i<6):aD Tryz.prog 198 (enc (i:Int)::[.ref (.func 196 []),.ref (enc w),.ref (enc a),.ref (enc b)]) (enc (!iP w a b i)):=by
 obtain ⟨h0,h5⟩:=nG ha hi;obtain ⟨k0,k5⟩:=nG hb hi;refine aD.bA Tryz.func198 R2 TT VZ (t7 rfl) (fun hwf W0 D0 E1 =>?_);simp only[Bo,Ml,bp,zz4,Nat.reduceAdd];refine .ao (by decide +kernel) fun K hK =>?_;simp only[Gz,ab,simprocAttr];refine .done (hK _ ?_);clear hK K;refine .ao (by decide +kernel) fun K hK =>?_;simp only[GA,ab,simprocAttr]
 try simp only[cG,cZ,ab,simprocAttr]
 refine .flat _ (uL w a i hi h0 h5) rfl ?_
 try simp only[cG,cZ,ab,simprocAttr]
 refine .flat _ (uL w b i hi k0 k5) rfl ?_
 try simp only[zx8,ab,simprocAttr]
 refine .flat _ (zt _ _) rfl ?_
 try simp only[ab,simprocAttr]
 refine .done (hK _ ?_);clear hK K;refine J.ret ?_;simp only[ab,simprocAttr];simp[iP,bne]
theorem N4{A:ae}{n:Nat}{b:I}{f:FuncId}{caps:List I}{rest:List az} : dC A none n [] b (.func f caps) rest (some .df)=ay rest (A.aL n (.box (b.dI [] (.func f caps)))):=eg rfl rfl (by simp[I.aO])
theorem Pq(w:aR 5 Int)(m r:aR 6 Int)(hm:dV m=true):aD Tryz.prog 202 [enc w,enc m,enc r] (enc (lB w m r)):=by
 refine aD.bA Tryz.func202 R6 TX V3 (t7 rfl) (fun hwf W0 D0 E1 =>?_);simp only[Bt,Mp,bp,zz4,Nat.reduceAdd];refine .ao (by decide +kernel) fun K hK =>?_;simp only[GO,ab,simprocAttr]
 try simp only[dO,ab,simprocAttr]
 refine .done (hK _ ?_);clear hK K;refine .ao (by decide +kernel) fun K hK =>?_;simp only[GP,ab,simprocAttr]
 try simp only[N4,ab,simprocAttr]
 refine .done (hK _ ?_);clear hK K;refine .ao (by decide +kernel) fun K hK =>?_;simp only[GQ,ab,simprocAttr]
 try simp only[List.all_cons,List.all_nil,I.b8,zw3,eb,ab,simprocAttr]
 refine .flat _ (zu 212 [.ref (.func 196 []),.ref (enc w),.ref (enc m),.ref (enc r)] ?_ (fun i => !nd w m r i) (fun i hi=>Px w m r hm i hi)) rfl ?_
 ·simp only[I.eV,I.done,I.bn,I.bW,eb,zw3]
 try simp only[ab,simprocAttr]
 refine .done (hK _ ?_);clear hK K;refine J.ret ?_;simp only[ab,simprocAttr];simp only[lB,Bool.not_not]
theorem O7(w:aR 5 Int)(a b:aR 6 Int)(ha:dV a=true)(hb:dV b=true):aD Tryz.prog 165 [enc w,enc a,enc b] (enc (eM (iP w a b) 6:Int)):=by
 refine aD.bA Tryz.func165 RL TB VH (t7 rfl) (fun hwf W0 D0 E1 =>?_);simp only[A6,L3,bp,zz4,Nat.reduceAdd];refine .ao (by decide +kernel) fun K hK =>?_;simp only[FG,ab,simprocAttr]
 try simp only[dO,ab,simprocAttr]
 refine .done (hK _ ?_);clear hK K;refine .ao (by decide +kernel) fun K hK =>?_;simp only[FH,ab,simprocAttr]
 try simp only[N4,ab,simprocAttr]
 refine .done (hK _ ?_);clear hK K;refine .ao (by decide +kernel) fun K hK =>?_;simp only[FI,ab,simprocAttr]
 try simp only[List.all_cons,List.all_nil,I.b8,zw3,eb,ab,simprocAttr]
 refine .flat _ (zu 198 [.ref (.func 196 []),.ref (enc w),.ref (enc a),.ref (enc b)] ?_ (fun i => !iP w a b i) (fun i hi=>Pm w a b ha hb i hi)) rfl ?_
 ·simp only[I.eV,I.done,I.bn,I.bW,eb,zw3]
 try simp only[ab,simprocAttr]
 refine .done (hK _ ?_);clear hK K;refine J.ret ?_;simp only[ab,simprocAttr];simp only[Bool.not_not]
theorem O6(m:b7)(g:ca)(k:aR 6 Int)(hg:dV g.mark=true)(hk:dV k=true):aD Tryz.prog 164 (enc g::[.ref (enc m),.ref (enc k)]) (enc (j8 m g.mark k)):=by
 refine aD.bA Tryz.func164 RK TA VG (t7 rfl) (fun hwf W0 D0 E1 =>?_);simp only[A5,L2,bp,zz4,Nat.reduceAdd];refine .ao (by decide +kernel) fun K hK =>?_;simp only[FE,ab,simprocAttr]
 try simp only[dO,ab,simprocAttr]
 refine .done (hK _ ?_);clear hK K;refine .ao (by decide +kernel) fun K hK =>?_;simp only[FF,ab,simprocAttr]
 try simp only[cG,cZ,ab,simprocAttr]
 refine .flat _ (O7 m.eR g.mark k hg hk) rfl ?_
 try simp only[cG,ab,simprocAttr]
 refine .done (hK _ ?_);clear hK K;refine J.ret ?_;simp only[ab,simprocAttr];rfl
theorem uK(l:List ca)(f:FuncId)(caps:List I)(hcaps:I.eV caps=true)(p:ca→Bool)(hf:∀ x∈l,aD Tryz.prog f (enc x::caps) (enc (p x))):aD Tryz.prog 195 [enc l,.func f caps] (enc (match l.findIdx? p with | some i=>(i:Int) | none=>-1)):=by
 refine aD.bA Tryz.func195 RZ TQ VW (t7 rfl) (fun hwf W0 D0 E1 =>?_);simp only[Bl,Mi,bp,zz4];have hlen:l.length≤maxLen:=((lj l).1 hwf.1).1;simp only[maxLen] at hlen;have hcl:I.bW caps=true:=kM caps hcaps;have hfc:∀ aA A,bZ aA A caps=some caps:=fun aA A=>kQ aA A caps hcaps;have hon:∀ q,I.bU q caps=true:=fun q=>kr q caps hcl;refine .ao (by decide +kernel) fun K hK =>?_;simp only[Gg,ab,simprocAttr];refine .done (hK _ ?_);clear hK K;refine J.seq ?_;refine J.seq (J.bu (by decide +kernel) fun K hK =>?_)
 try simp only[Gh,bG,ab,simprocAttr]
 refine .done (hK _ ?_);clear hK K;refine J.block (J.loop (fun i:Nat=>au [(0,enc l),(1,.func f caps),(7,.int .i64 l.length),(8,.int .i64 i)] []) (fun i=>i≤l.length∧∀ x∈l.take i,p x=false) (fun i=>l.length-i) 0 ⟨zw7 _,by simp⟩ ?_ (fun i hi =>?_))
 ·refine aF.bM ?_ ?_ ?_ ?_ <;>simp[aX,bK,bJ,a8,aY,I.only,bt,hon]
 ·refine .ao (by decide +kernel) fun K hK =>?_;simp only[Gi,ab,simprocAttr];refine .done (hK _ ?_);clear hK K;refine J.seq ?_;refine J.bH ?_;simp only[aq,ab,simprocAttr];refine ⟨fun h =>?_,fun h =>?_⟩
  ·have hlt:i<l.length:=by simpa using h
   refine J.skip ?_;try simp only[ar,simprocAttr]
   refine J.seq (J.block ?_);refine .ao (by decide +kernel) fun K hK =>?_;simp only[Gj,ab,simprocAttr];refine .done (hK _ ?_);clear hK K;refine .ao (by decide +kernel) fun K hK =>?_;simp only[Gk,ab,simprocAttr]
   try simp only[fH 7 hlt rfl,cG,zy0,hfc,cZ,ab,simprocAttr]
   refine .flat _ (hf _ (zy9 hlt)) rfl ?_
   try simp only[ab,simprocAttr]
   refine .done (hK _ ?_);clear hK K;refine J.bH ?_;simp only[aq,ab,simprocAttr];refine ⟨fun h =>?_,fun h =>?_⟩
   ·refine .ao (by decide +kernel) fun K hK =>?_;simp only[Gl,ab,simprocAttr];refine .done (hK _ ?_);clear hK K;refine J.ret ?_;simp only[bL,ar,ab,simprocAttr];simp[vN hlt hi.2 h]
   ·refine J.skip ?_;try simp only[ar,bL,simprocAttr]
    refine .bu (by decide +kernel) fun K hK =>?_;simp only[Gm,ab,simprocAttr];refine .done (hK _ ?_);clear hK K;try simp only[ar]
    refine ⟨i+1,⟨by omega,fun x hm =>?_⟩,by omega,?_⟩
    ·rw[zy3 hlt] at hm;rcases zy1.1 hm with hm | hm
     ·exact hi.2 x hm
     ·simp at hm;rw[hm];exact h
    ·rw[cE _ (by omega) (by omega)];refine aF.bM ?_ ?_ ?_ ?_ <;>simp[aX,bK,bJ,a8,aY,I.only,bt,hon]
  ·have hge:i=l.length:=by simp at h;omega
   refine J.exit ?_;try simp only[ar,bL,simprocAttr]
   refine .ao (by decide +kernel) fun K hK =>?_;simp only[Gn,ab,simprocAttr];refine .done (hK _ ?_);clear hK K;refine J.ret ?_;simp only[ab,simprocAttr];simp[hge] at hi;simp[vM hi]
theorem YN{α:Type}(p:α→Bool)(l:List α):decide (0≤(match l.findIdx? p with | some i=>(i:Int) | none=>-1))=l.any p:=by
 cases h:l.findIdx? p with
 |none =>
  rw[List.findIdx?_eq_none_iff] at h;have:l.any p=false:=by rw[List.any_eq_false];intro x hx;simp[h x hx]
  simp[this]
 |some i =>
  rw[List.findIdx?_eq_some_iff_getElem] at h;obtain ⟨h1,h2,_⟩:=h;have:l.any p=true:=by rw[List.any_eq_true];exact ⟨_,zy9 h1,h2⟩
  rw[this];exact decide_eq_true (Int.natCast_nonneg i)
theorem O5(l:List ca)(f:FuncId)(caps:List I)(hcaps:I.eV caps=true)(p:ca→Bool)(hf:∀ x∈l,aD Tryz.prog f (enc x::caps) (enc (p x))):aD Tryz.prog 163 [enc l,.func f caps] (enc (l.any p)):=by
 refine aD.bA Tryz.func163 RJ Tz VF (t7 rfl) (fun hwf W0 D0 E1 =>?_);simp only[A4,L1,bp,zz4];have hcl:I.bW caps=true:=kM caps hcaps;have hfc:∀ aA A,bZ aA A caps=some caps:=fun aA A=>kQ aA A caps hcaps;refine .ao (by decide +kernel) fun K hK =>?_;simp only[FC,ab,simprocAttr];refine .done (hK _ ?_);clear hK K;refine .ao (by decide +kernel) fun K hK =>?_;simp only[FD,ab,simprocAttr]
 try simp only[cZ,hfc,ab,simprocAttr]
 refine .flat _ (uK l f caps hcaps p hf) rfl ?_
 try simp only[ab,simprocAttr]
 refine .done (hK _ ?_);clear hK K;refine J.ret ?_;simp only[ab,simprocAttr];rw[YN]
theorem zj(m:b7)(l:List ca)(k:aR 6 Int)(hl:∀ g∈l,dV g.mark=true)(hk:dV k=true):aD Tryz.prog 124 [enc m,enc l,enc k] (enc (!l.any fun g=>j8 m g.mark k)):=by
 refine aD.bA Tryz.func124 Ri S6 Vd (t7 rfl) (fun hwf W0 D0 E1 =>?_);simp only[Az,Lx,bp,zz4,Nat.reduceAdd];refine .ao (by decide +kernel) fun K hK =>?_;simp only[Ef,ab,simprocAttr]
 try simp only[dO,ab,simprocAttr]
 refine .done (hK _ ?_);clear hK K;refine .ao (by decide +kernel) fun K hK =>?_;simp only[Eg,ab,simprocAttr]
 try simp only[List.all_cons,List.all_nil,I.b8,zw3,eb,cZ,ab,simprocAttr]
 refine .flat _ (O5 l 164 [.ref (enc m),.ref (enc k)] ?_ (fun g=>j8 m g.mark k) (fun g hg=>O6 m g k (hl g hg) hk)) rfl ?_
 ·simp only[I.eV,I.done,eb,zw3]
 try simp only[ab,simprocAttr]
 refine .done (hK _ ?_);clear hK K;refine J.ret ?_;simp only[ab,simprocAttr]
theorem NP{α:Type}[Enc α]{A:ae}(esz:Nat){l:List α}{i:Nat}(h:i≤l.length)(hs:Enc.sz α=esz):oU A esz none (some (.int .i64 i)) none (enc l)=some (enc (l.take i)):=by
 simp only[oU,gn,hs,if_true,j5,iv,zy2];rw[if_pos ⟨by omega,by omega,by omega,by omega⟩];simp
theorem zX(m:b7)(k:aR 6 Int){i:Nat}(h:i≤m.given.length):(!(m.given.take i).any fun g=>j8 m g.mark k)=(List.range i).all (fun j => !j8 m (c4 m j).mark k):=by
 rw[Bool.eq_iff_iff];simp only[Bool.not_eq_true',List.any_eq_false,zy8,zx5];constructor
 ·intro h1 j hj;have hjl:j<m.given.length:=by omega
  have:=h1 m.given[j] (by rw[List.mem_take_iff_getElem];exact ⟨j,by omega,rfl⟩);rw[ju hjl] at this;simpa using this
 ·intro h1 g hg;rw[List.mem_take_iff_getElem] at hg;obtain ⟨j,hj,rfl⟩:=hg;have hjl:j<m.given.length:=by omega
  rw[ju hjl];simpa using h1 j (by omega)
theorem uN(m:b7):aD Tryz.prog 66 [enc m] (enc (if ez m then (0:Int) else 13)):=by
 refine aD.bA Tryz.func66 Sr Uj Wn (t7 rfl) (fun hwf W0 D0 E1 =>?_);simp only[BM,MJ,bp];refine .ao (by decide +kernel) fun K hK =>?_;simp only[H8,ab,simprocAttr]
 try simp only[dO,ab,simprocAttr]
 refine .done (hK _ ?_);clear hK K;refine J.seq (J.seq ?_);refine .bu (by decide +kernel) fun K hK =>?_;simp only[H9,ab,simprocAttr]
 try simp only[cG,cZ,ab,simprocAttr]
 refine .flat _ (OK m.eR) rfl ?_;generalize hw:hE m.eR=bw;cases bw
 ·try simp only[ab,simprocAttr]
  refine .done (hK _ ?_);clear hK K;try simp only[ar]
  refine J.bH ?_;simp only[aq,ab,simprocAttr];refine ⟨fun h =>?_,fun h =>?_⟩
  ·refine .ao (by decide +kernel) fun K hK =>?_;simp only[sT,ab,simprocAttr];refine .done (hK _ ?_);clear hK K;refine J.ret ?_;simp only[ar,ab,simprocAttr];simp[ez,hw]
  ·cases h
 try simp only[cG,ab,simprocAttr]
 refine .flat _ (rY m.eP 0 2) rfl ?_;generalize hf:bS 0 2 m.eP=bf;cases bf
 ·try simp only[ab,simprocAttr]
  refine .done (hK _ ?_);clear hK K;refine J.bH ?_;simp only[aq,ab,simprocAttr];refine ⟨fun h =>?_,fun h =>?_⟩
  ·refine .ao (by decide +kernel) fun K hK =>?_;simp only[sT,ab,simprocAttr];refine .done (hK _ ?_);clear hK K;refine J.ret ?_;simp only[ar,ab,simprocAttr];simp[ez,hw,hf]
  ·cases h
 try simp only[cG,bG,ab,simprocAttr]
 refine .done (hK _ ?_);clear hK K;refine J.bH ?_;simp only[aq,ab,simprocAttr];refine ⟨fun h =>?_,fun h =>?_⟩
 ·refine .ao (by decide +kernel) fun K hK =>?_;simp only[sT,ab,simprocAttr];refine .done (hK _ ?_);clear hK K;refine J.ret ?_;simp only[ar,ab,simprocAttr];have:¬ m.given.length≤40:=by simp at h;omega
  simp[ez,hw,hf,this]
 have hlen:m.given.length≤40:=by simp at h;omega
 refine J.skip ?_;try simp only[ar,simprocAttr]
 refine J.seq (J.seq ?_);refine J.bu (by decide +kernel) fun K hK =>?_
 try simp only[Ia,cG,bG,ab,simprocAttr]
 refine .done (hK _ ?_);clear hK K;refine J.block (J.loop (fun i:Nat=>au [(1,.ptr 1 []),(22,enc m.given),(23,.int .i64 m.given.length),(24,.int .i64 i)] [(1,.box (enc m))]) (fun i=>i≤m.given.length∧∀ j,j<i→gI m j=true) (fun i=>m.given.length-i) 0 ⟨by omega,fun k h=>by omega⟩ ?_ (fun i hi =>?_))
 ·refine aF.bM ?_ ?_ ?_ ?_ <;>simp[aX,bK,bJ,a8,al,aY,cu,I.only,ai.only,bt]
 refine .ao (by decide +kernel) fun K hK =>?_;simp only[Ib,ab,simprocAttr];refine .done (hK _ ?_);clear hK K;refine J.seq ?_;refine J.bH ?_;simp only[aq,ab,simprocAttr];refine ⟨fun h =>?_,fun h =>?_⟩
 case refine_2.refine_2 =>
  have hge:i=m.given.length:=by simp at h;omega
  subst hge;refine J.exit ?_;try simp only[ar,bL,simprocAttr]
  refine .ao (by decide +kernel) fun K hK =>?_;simp only[If,ab,simprocAttr];refine .done (hK _ ?_);clear hK K;refine J.ret ?_;simp only[ab,simprocAttr];have:(List.range m.given.length).all (gI m)=true:=qv hi.2;simp[ez,hw,hf,this,hlen]
 have hlt:i<m.given.length:=by simpa using h
 refine J.skip ?_;try simp only[ar,simprocAttr]
 refine J.seq (J.block ?_);refine .ao (by decide +kernel) fun K hK =>?_;simp only[Ic,ab,simprocAttr]
 try simp only[cG,xm hlt,ab,simprocAttr]
 rw[eg (dO _) (by rw[fQ];rfl) ((eO _).trans rfl)]
 try simp only[ab,simprocAttr]
 refine .done (hK _ ?_);clear hK K;have m8:∀ b,gI m i=b→b=false→(if ez m then (0:Int) else 13)=13:=fun b h1 h2=>by
  have:(List.range m.given.length).all (gI m)=false:=nW i hlt (by rw[h1,h2]);simp[ez,this]
 have htake:∀ g∈m.given.take i,dV g.mark=true:=fun g hg=>by
  rw[List.mem_take_iff_getElem] at hg;obtain ⟨j,hj,rfl⟩:=hg;have hjl:j<m.given.length:=by omega
  rw[ju hjl];exact x6 (hi.2 j (by omega))
 refine .ao (by decide +kernel) fun K hK =>?_;simp only[Ie,ab,simprocAttr]
 try simp only[cG,ab,simprocAttr]
 refine .flat _ (OL (c4 m i).bP) rfl ?_;generalize ho:bS 1 99 (c4 m i).bP=bo;cases bo
 ·try simp only[ab,simprocAttr]
  refine .done (hK _ ?_);clear hK K;refine J.bH ?_;simp only[aq,ab,simprocAttr];refine ⟨fun h =>?_,fun h =>?_⟩
  ·refine .ao (by decide +kernel) fun K hK =>?_;simp only[pF,ab,simprocAttr];refine .done (hK _ ?_);clear hK K;refine J.ret ?_;simp only[bL,ar,ab,simprocAttr];rw[m8 _ rfl (by simp[gI,ho])]
  ·cases h
 try simp only[cG,cZ,ab,simprocAttr]
 refine .flat _ (OM (c4 m i).mark) rfl ?_;generalize hk:dV (c4 m i).mark=bk;cases bk
 ·try simp only[ab,simprocAttr]
  refine .done (hK _ ?_);clear hK K;refine J.bH ?_;simp only[aq,ab,simprocAttr];refine ⟨fun h =>?_,fun h =>?_⟩
  ·refine .ao (by decide +kernel) fun K hK =>?_;simp only[pF,ab,simprocAttr];refine .done (hK _ ?_);clear hK K;refine J.ret ?_;simp only[bL,ar,ab,simprocAttr];rw[m8 _ rfl (by simp[gI,ho,hk])]
  ·cases h
 try simp only[ab,simprocAttr]
 generalize hz:decide (0<(i:Int))=bz;cases bz
 ·have hprev:(i==0||decide ((c4 m (i-1)).bP<(c4 m i).bP))=true:=by simp at hz;simp[hz]
  try simp only[cG,ab,simprocAttr]
  try simp only[cG,cZ,NP 7 (Nat.le_of_lt hlt) rfl,Option.map_none,ab,simprocAttr]
  refine .flat _ (zj m (m.given.take i) (c4 m i).mark htake hk) rfl ?_;rw[zX m (c4 m i).mark (Nat.le_of_lt hlt)];generalize hap:(List.range i).all (fun j => !j8 m (c4 m j).mark (c4 m i).mark)=ba;cases ba
  ·try simp only[ab,simprocAttr]
   refine .done (hK _ ?_);clear hK K;refine J.bH ?_;simp only[aq,ab,simprocAttr];refine ⟨fun h =>?_,fun h =>?_⟩
   ·refine .ao (by decide +kernel) fun K hK =>?_;simp only[pF,ab,simprocAttr];refine .done (hK _ ?_);clear hK K;refine J.ret ?_;simp only[bL,ar,ab,simprocAttr];rw[m8 _ rfl (by simp only[gI,hap,Bool.and_false])]
   ·cases h
  ·try simp only[ab,simprocAttr]
   refine .done (hK _ ?_);clear hK K;refine J.bH ?_;simp only[aq,ab,simprocAttr];refine ⟨fun h =>?_,fun h =>?_⟩
   ·cases h
   refine J.skip ?_;try simp only[ar,bL,simprocAttr]
   refine .bu (by decide +kernel) fun K hK =>?_;simp only[wH,ab,simprocAttr];refine .done (hK _ ?_);clear hK K;try simp only[ar]
   refine ⟨i+1,⟨by omega,fun k hk' =>?_⟩,by omega,?_⟩
   ·by_cases hki:k=i
    ·rw[hki];simp only[gI,ho,hk,hprev,hap,zw3]
    ·exact hi.2 k (by omega)
   ·rw[cE _ (by omega) (by omega)];refine aF.bM ?_ ?_ ?_ ?_ <;>simp[aX,bK,bJ,a8,al,aY,cu,I.only,ai.only,bt]
 ·have hpos:0<i:=by simpa using hz
  have hpl:i-1<m.given.length:=by omega
  have hpred:IntKind.i64.wrap ((i:Int)-1)=((i-1:Nat):Int):=by rw[cE _ (by omega) (by omega)];omega
  try simp only[cG,hpred,xm hpl,ab,simprocAttr]
  generalize hq:decide ((c4 m i).bP≤(c4 m (i-1)).bP)=bq;cases bq
  ·have hprev:(i==0||decide ((c4 m (i-1)).bP<(c4 m i).bP))=true:=by simp at hq;simp;omega
   try simp only[cG,ab,simprocAttr]
   try simp only[cG,cZ,NP 7 (Nat.le_of_lt hlt) rfl,Option.map_none,ab,simprocAttr]
   refine .flat _ (zj m (m.given.take i) (c4 m i).mark htake hk) rfl ?_;rw[zX m (c4 m i).mark (Nat.le_of_lt hlt)];generalize hap:(List.range i).all (fun j => !j8 m (c4 m j).mark (c4 m i).mark)=ba;cases ba
   ·try simp only[ab,simprocAttr]
    refine .done (hK _ ?_);clear hK K;try simp only[ar,bL]
    refine J.bH ?_;simp only[aq,ab,simprocAttr];refine ⟨fun h =>?_,fun h =>?_⟩
    ·refine .ao (by decide +kernel) fun K hK =>?_;simp only[pF,ab,simprocAttr];refine .done (hK _ ?_);clear hK K;refine J.ret ?_;simp only[bL,ar,ab,simprocAttr];rw[m8 _ rfl (by simp only[gI,hap,Bool.and_false])]
    ·cases h
   ·try simp only[ab,simprocAttr]
    refine .done (hK _ ?_);clear hK K;refine J.bH ?_;simp only[aq,ab,simprocAttr];refine ⟨fun h =>?_,fun h =>?_⟩
    ·cases h
    refine J.skip ?_;try simp only[ar,bL,simprocAttr]
    refine .bu (by decide +kernel) fun K hK =>?_;simp only[wH,ab,simprocAttr];refine .done (hK _ ?_);clear hK K;try simp only[ar]
    refine ⟨i+1,⟨by omega,fun k hk' =>?_⟩,by omega,?_⟩
    ·by_cases hki:k=i
     ·rw[hki];simp only[gI,ho,hk,hprev,hap,zw3]
     ·exact hi.2 k (by omega)
    ·rw[cE _ (by omega) (by omega)];refine aF.bM ?_ ?_ ?_ ?_ <;>simp[aX,bK,bJ,a8,al,aY,cu,I.only,ai.only,bt]
  ·try simp only[ab,simprocAttr]
   refine .done (hK _ ?_);clear hK K;try simp only[ar,bL]
   refine J.bH ?_;simp only[aq,ab,simprocAttr];refine ⟨fun h =>?_,fun h =>?_⟩
   ·refine .ao (by decide +kernel) fun K hK =>?_;simp only[pF,ab,simprocAttr];refine .done (hK _ ?_);clear hK K;refine J.ret ?_;simp only[bL,ar,ab,simprocAttr];have:(i==0||decide ((c4 m (i-1)).bP<(c4 m i).bP))=false:=by simp at hq;simp;omega
    rw[m8 _ rfl (by simp only[gI,this,Bool.and_false,Bool.false_and])]
   ·cases h
theorem Po(f:FuncId)(caps:List I)(hcaps:I.eV caps=true):aD Tryz.prog 200 [enc ([]:List ca),.func f caps] (enc ([]:List ca)):=by
 refine aD.bA Tryz.func200 Ch Co CA (t7 rfl) (fun hwf W0 D0 E1 =>?_);simp only[u5,yq,bp,zz4];have hcl:I.bW caps=true:=kM caps hcaps;have hfc:∀ aA A,bZ aA A caps=some caps:=fun aA A=>kQ aA A caps hcaps;refine .ao (by decide +kernel) fun K hK =>?_;simp only[wA,ab,simprocAttr];refine .done (hK _ ?_);clear hK K;refine .ao (by decide +kernel) fun K hK =>?_;simp only[wB,ab,simprocAttr]
 try simp only[cZ,hfc,ab,simprocAttr]
 refine .flat _ (uK [] f caps hcaps (fun _=>false) (fun x hx=>by cases hx)) rfl ?_
 try simp only[List.findIdx?_nil,ab,simprocAttr]
 refine .done (hK _ ?_);clear hK K;refine J.seq (J.seq ?_);refine .bu (by decide +kernel) fun K hK =>?_;simp only[sQ,ab,simprocAttr];refine .done (hK _ ?_);clear hK K;try simp only[ar]
 refine J.bH ?_;simp only[aq,ab,simprocAttr];refine ⟨fun h =>?_,fun h =>?_⟩
 ·refine .ao (by decide +kernel) fun K hK =>?_;simp only[wD,ab,simprocAttr];refine .done (hK _ ?_);clear hK K;refine J.ret ?_;simp only[ar,ab,simprocAttr]
  try simp only[cZ,ab,simprocAttr]
 ·cases h
def fR(p:ca→Bool)(l:List ca):List ca:=l.filter fun x => !p x
def CG(k:Nat)(l:List ca):cT:=fun r os'=>∃ m,r=.view k [] 7 0 l.length∧os'=iJ k l m
theorem yg(p:Nat→Bool)(m:Nat)(x:ca):I.bU p (List.replicate m (enc x))=true:=by
 have:List.replicate m (enc x)=(List.replicate m x).map (enc (α:=ca)):=by simp
 rw[this];exact ej p _
theorem aiO(p:Nat→Bool)(xs:List ca)(i:Nat)(v:ca):I.bU p ((xs.map enc).set i (enc v))=true:=by
 rw[←List.map_set];exact ej p _
theorem yE{xs:List ca}{m j:Nat}(h:j<xs.length):((xs++List.replicate m fx).map (enc (α:=ca)))[0+j]?=some (enc xs[j]):=by
 rw[zz4,zw2,zy7 h,zz8 h];rfl
theorem ajH{xs:List ca}{m i:Nat}(h:i<xs.length)(v:ca):((xs++List.replicate m fx).map (enc (α:=ca))).set (0+i) (enc v)=(xs.set i v++List.replicate m fx).map enc:=by
 rw[zz4,←List.map_set,List.set_append_left _ _ h]
theorem y5(l:List ca)(m:Nat):(l++List.replicate m fx).take l.length=l:=List.take_left
theorem vI(p:ca→Bool)(l:List ca){j:Nat}(h:j<l.length):fR p (l.take (j+1))=fR p (l.take j)++(if p l[j] then [] else [l[j]]):=by
 rw[zy3 h];simp only[fR,List.filter_append,zw1,zv9];cases p l[j] <;>simp
theorem Pn(l:List ca)(f:FuncId)(caps:List I)(hcaps:I.eV caps=true)(p:ca→Bool)(hf:∀ x∈l,aD Tryz.prog f (enc x::caps) (enc (p x)))(hlen:l.length≤1000)(m:Nat) :
  cD Tryz.prog 200 [.view 1000000 [] 7 0 l.length,.func f caps] (iJ 1000000 l m) (CG 1000000 (fR p l)):=by
 refine cD.bA Tryz.func200 Ch Co CA (t7 rfl) (t7 rfl) (fun m hm=>by rw[dy.1 hm];exact zz7 _) (fun hwf W0 D0 E1 =>?_);simp only[u5,yq,bp,zz4];have hcl:I.bW caps=true:=kM caps hcaps;have hfc:∀ aA A,bZ aA A caps=some caps:=fun aA A=>kQ aA A caps hcaps;have hon:∀ q,I.bU q caps=true:=fun q=>kr q caps hcl;simp only[iJ];refine .ao (by decide +kernel) fun K hK =>?_;simp only[wA,ab,simprocAttr];refine .done (hK _ ?_);clear hK K;refine .ao (by decide +kernel) fun K hK =>?_;simp only[wB,ab,simprocAttr]
 try simp only[hfc,sK (α:=ca) (sz:=7) rfl,y5,ab,simprocAttr]
 refine .flat _ (uK l f caps hcaps p hf) rfl ?_
 try simp only[ab,simprocAttr]
 refine .done (hK _ ?_);clear hK K;generalize hfi:l.findIdx? p=fi;cases fi with
 |none =>
  rw[List.findIdx?_eq_none_iff] at hfi;have hk:fR p l=l:=by
   simp only[fR,List.filter_eq_self];intro x hx;simp[hfi x hx]
  refine J.seq (J.seq ?_);refine .bu (by decide +kernel) fun K hK =>?_;simp only[sQ,ab,simprocAttr];refine .done (hK _ ?_);clear hK K;try simp only[ar]
  refine J.bH ?_;simp only[aq,ab,simprocAttr];refine ⟨fun h =>?_,fun h =>?_⟩
  ·refine .ao (by decide +kernel) fun K hK =>?_;simp only[wD,ab,simprocAttr];refine .done (hK _ ?_);clear hK K;refine J.ret ?_;simp only[ar,fI];rw[hk];exact ⟨iJ 1000000 l m,[.view 1000000 [] 7 0 l.length],nk rfl (fun p=>mE p _),⟨⟨_,rfl,.inl ⟨rfl,rfl,rfl⟩⟩,trivial⟩,m,rfl,rfl⟩
  ·cases h
 |some i0 =>
  obtain ⟨q1,q2,q3⟩:=List.findIdx?_eq_some_iff_getElem.1 hfi;have hstart:l.take i0=fR p (l.take (i0+1)):=by
   rw[vI p l q1,q2];simp only[if_true,zx8,fR]
   symm
   rw[List.filter_eq_self];intro x hx;rw[List.mem_take_iff_getElem] at hx;obtain ⟨j,hj,rfl⟩:=hx;have:=q3 j (by omega);simpa using this
  refine J.seq (J.seq ?_);refine .bu (by decide +kernel) fun K hK =>?_;simp only[sQ,ab,simprocAttr];refine .done (hK _ ?_);clear hK K;try simp only[ar]
  refine J.bH ?_;simp only[aq,ab,simprocAttr];refine ⟨fun h =>?_,fun h =>?_⟩
  ·simp at h
  refine J.skip ?_;try simp only[ar,simprocAttr]
  refine J.seq (J.seq ?_);refine .bu (by decide +kernel) fun K hK =>?_;simp only[GG,ab,simprocAttr];refine .done (hK _ ?_);clear hK K;try simp only[ar]
  refine J.block (J.loop (fun s:List ca×Nat×Nat=>au [(0,.view 1000000 [] 7 0 l.length),(1,.func f caps),(5,.int .i64 s.2.1),(6,.int .i64 s.2.2)] [(1000000,.box (.agg ((s.1++List.replicate m fx).map enc)))])
   (fun s=>s.1.length=l.length∧s.2.1<s.2.2∧s.2.2≤l.length∧s.1.take s.2.1=fR p (l.take s.2.2)∧s.1.drop s.2.2=l.drop s.2.2) (fun s=>l.length-s.2.2) (l,i0,i0+1) ⟨rfl,by simp only;omega,by simp only;omega,hstart,rfl⟩ ?_ ?_)
  ·rw[cE _ (by omega) (by omega)];refine aF.bM ?_ ?_ ?_ ?_ <;>simp[aX,bK,bJ,a8,al,aY,cu,I.only,ai.only,ej,gz,hon,yg]
  ·rintro ⟨xs,i,j⟩ ⟨c1,c2,c3,iR,lx⟩;simp only at c1 c2 c3 iR lx ⊢;refine J.seq (J.seq ?_);refine .bu (by decide +kernel) fun K hK =>?_;simp only[GH,ab,simprocAttr]
   try simp only[eQ,ab,simprocAttr]
   refine .done (hK _ ?_);clear hK K;try simp only[ar]
   refine J.bH ?_;simp only[aq,ab,simprocAttr];refine ⟨fun h =>?_,fun h =>?_⟩
   ·have hj:j<l.length:=by simpa using h
    have hjx:j<xs.length:=by omega
    have hix:i<xs.length:=by omega
    have hxj:xs[j]=l[j]:=by
     have h1:(xs.drop j)[0]?=(l.drop j)[0]?:=by rw[lx]
     simpa[hj,hjx] using h1
    refine J.skip ?_;try simp only[ar,simprocAttr]
    refine J.seq (J.block ?_);refine .ao (by decide +kernel) fun K hK =>?_;simp only[GI,ab,simprocAttr]
    try simp only[eQ,xq (sz:=7) hj,zy6,ab,simprocAttr]
    try simp only[yE hjx,hxj,cG,ab,simprocAttr]
    rw[eg (dO _) (by rw[fQ];rfl) ((eO _).trans rfl)]
    try simp only[ab,simprocAttr]
    refine .done (hK _ ?_);clear hK K;refine .ao (by decide +kernel) fun K hK =>?_;simp only[GJ,ab,simprocAttr]
    try simp only[cG,cZ,hfc,zy0,zy6,ab,simprocAttr]
    refine .flat _ (hf _ (zy9 hj)) rfl ?_
    try simp only[ab,simprocAttr]
    refine .done (hK _ ?_);clear hK K;refine J.bH ?_;simp only[aq,ab,simprocAttr];refine ⟨fun h =>?_,fun h =>?_⟩
    ·have hpj:p l[j]=false:=by simpa using h
     refine .ao (by decide +kernel) fun K hK =>?_;simp only[GK,ab,simprocAttr]
     try simp only[cG,eQ,xq (sz:=7) (show i<l.length by omega),zy6,ab,simprocAttr]
     try simp only[yE hix,ab,simprocAttr]
     rw[eg (dO _) (by rw[fQ];rfl) ((eO _).trans (eO _).symm)]
     try simp only[yE hix,ajH hix,ab,simprocAttr]
     refine .done (hK _ ?_);clear hK K;refine .bu (by decide +kernel) fun K hK =>?_;simp only[GL,ab,simprocAttr];refine .done (hK _ ?_);clear hK K;try simp only[ar,bL]
     refine .bu (by decide +kernel) fun K hK =>?_;simp only[wC,ab,simprocAttr];refine .done (hK _ ?_);clear hK K;try simp only[ar]
     refine ⟨(xs.set i l[j],i+1,j+1),⟨by simp[c1],by simp only;omega,by simp only;omega,?_,?_⟩,by simp only;omega,?_⟩
     ·simp only;rw[vI p l hj,hpj,←iR];simp only[zz6,if_false];rw[zy3 (by simpa using hix),List.take_set_of_le (zz7 _)];simp
     ·simp only;rw[List.drop_set_of_lt (by omega)];have:(xs.drop j).drop 1=(l.drop j).drop 1:=by rw[lx]
      simpa[List.drop_drop] using this
     ·simp only;rw[cE _ (by omega) (by omega),cE _ (by omega) (by omega)];refine aF.bM ?_ ?_ ?_ ?_ <;>simp[aX,bK,bJ,a8,al,aY,cu,I.only,ai.only,gz,hon,yg,aiO]
    ·have hpj:p l[j]=true:=by simpa using h
     refine J.skip ?_;try simp only[ar,bL,simprocAttr]
     refine .bu (by decide +kernel) fun K hK =>?_;simp only[wC,ab,simprocAttr];refine .done (hK _ ?_);clear hK K;try simp only[ar]
     refine ⟨(xs,i,j+1),⟨c1,by simp only;omega,by simp only;omega,?_,?_⟩,by simp only;omega,?_⟩
     ·simp only;rw[vI p l hj,hpj,←iR];simp
     ·simp only;have:(xs.drop j).drop 1=(l.drop j).drop 1:=by rw[lx]
      simpa[List.drop_drop] using this
     ·simp only;rw[cE _ (by omega) (by omega)];refine aF.bM ?_ ?_ ?_ ?_ <;>simp[aX,bK,bJ,a8,al,aY,cu,I.only,ai.only,ej,gz,hon,yg]
   ·have hj:j=l.length:=by simp at h;omega
    subst hj;rw[List.take_length] at iR;have hlk:(fR p l).length=i:=by rw[←iR,zx3];omega
    have htot:((xs++List.replicate m fx).map (enc (α:=ca))).length=l.length+m:=by simp[c1]
    refine J.exit ?_;try simp only[ar,bL,simprocAttr]
    refine .ao (by decide +kernel) fun K hK =>?_;simp only[GD,ab,simprocAttr]
    try simp only[eQ,htot,Option.map_none,yS (show i≤l.length by omega) (show l.length≤l.length+m by omega) (show i<l.length+m by omega),vA,ab,simprocAttr]
    rw[vl fx rfl (by simp[c1];omega)];have hcont:(xs++List.replicate m fx).take i++(List.replicate (l.length-i) fx++(xs++List.replicate m fx).drop (i+(l.length-i)))=fR p l++List.replicate (l.length-i+m) fx:=by
     rw[zw6 (by omega),iR];have e1:i+(l.length-i)=xs.length:=by omega
     rw[e1,List.drop_left,List.replicate_append_replicate]
    rw[hcont]
    try simp only[ab,simprocAttr]
    refine .done (hK _ ?_);clear hK K;have htot2:((fR p l++List.replicate (l.length-i+m) fx).map (enc (α:=ca))).length=l.length+m:=by simp[hlk];omega
    refine .ao (by decide +kernel) fun K hK =>?_;simp only[GF,ab,simprocAttr]
    try simp only[eQ,htot2,Option.map_none,yR (show i≤l.length+m by omega) (show 0<l.length+m by omega),ab,simprocAttr]
    refine .done (hK _ ?_);clear hK K;refine J.ret ?_;simp only[fI];exact ⟨iJ 1000000 (fR p l) (l.length-i+m),[.view 1000000 [] 7 0 i],nk rfl (fun p=>mE p _),⟨⟨_,rfl,.inl ⟨rfl,rfl,rfl⟩⟩,trivial⟩,l.length-i+m,by rw[hlk];rfl,rfl⟩
def pT(a:Item)(k d kn b:Int):av:=⟨a,k,d,kn,b,0,0,0,nR,⟨0,0⟩⟩
theorem CO:I.agg [.agg [.int .i64 0,.int .i64 0],.int .i64 0,.int .i64 0,.int .i64 0,.int .i64 0,.int .i64 0,.int .i64 0,.int .i64 0,.agg [.int .i64 0,.int .i64 0,.int .i64 0,.int .i64 0,.int .i64 0,.int .i64 0],.agg [.int .i64 0,.int .i64 0]]=enc (pT ⟨0,0⟩ 0 0 0 0):=rfl
theorem Ai(a:Item)(k d kn b:Int):(dX [.agg [.int .i64 0,.int .i64 0],.int .i64 0,.int .i64 0,.int .i64 0,.int .i64 0,.int .i64 0,.int .i64 0,.int .i64 0,.agg [.int .i64 0,.int .i64 0,.int .i64 0,.int .i64 0,.int .i64 0,.int .i64 0],.agg [.int .i64 0,.int .i64 0]] [(0,enc a),(1,.int .i64 k),(2,.int .i64 d),(3,.int .i64 kn),(4,.int .i64 b)]).map .agg=some (enc (pT a k d kn b)):=by
 simp[dX,I.b8,I.size,I.sizes,gp,qK];rfl
theorem Ah(a:Item)(k d kn:Int):(dX [.agg [.int .i64 0,.int .i64 0],.int .i64 0,.int .i64 0,.int .i64 0,.int .i64 0,.int .i64 0,.int .i64 0,.int .i64 0,.agg [.int .i64 0,.int .i64 0,.int .i64 0,.int .i64 0,.int .i64 0,.int .i64 0],.agg [.int .i64 0,.int .i64 0]] [(0,enc a),(1,.int .i64 k),(2,.int .i64 d),(3,.int .i64 kn)]).map .agg=some (enc (pT a k d kn 0)):=by
 simp[dX,I.b8,I.size,I.sizes,gp,qK];rfl
theorem NZ(A:ae)(n:Nat)(b:I)(x y:av)(rest:List az):dC A (some 17) n [] b (enc x) rest (some (enc y))=ay rest (A.aL n (.box (enc x))):=eg (dO _) (KS x) ((eO x).trans (eO y).symm)
theorem oW(A:ae)(n:Nat)(p:List Nat)(b:I)(k:IntKind)(x y:Int)(rest:List az):dC A none n p b (.int k x) rest (some (.int k y))=ay rest (A.aL n (.box (b.dI p (.int k x)))):=eg rfl rfl rfl
theorem aj5(A:ae)(n:Nat)(p:List Nat)(b:I)(x y:aR 6 Int)(rest:List az):dC A (some 6) n p b (enc x) rest (some (enc y))=ay rest (A.aL n (.box (b.dI p (enc x)))):=eg (dO _) (KR x) ((eO x).trans (eO y).symm)
theorem N6(A:ae)(n:Nat)(p:List Nat)(b:I)(x y:Item)(rest:List az):dC A (some 2) n p b (enc x) rest (some (enc y))=ay rest (A.aL n (.box (b.dI p (enc x)))):=eg (dO _) (KT x) ((eO x).trans (eO y).symm)
theorem NM :
  (∀ (A:ae) (n:Nat) (rest:List az) (e:av) v y,dC A (some 2) n [0] (enc e) (enc (v:Item)) rest (some (enc (y:Item)))=ay rest (A.aL n (.box (enc { e with bN:=v })))) ∧
  (∀ (A:ae) (n:Nat) (rest:List az) (e:av) v y,dC A none n [1] (enc e) (.int .i64 v) rest (some (.int .i64 y))=ay rest (A.aL n (.box (enc { e with kind:=v })))) ∧
  (∀ (A:ae) (n:Nat) (rest:List az) (e:av) v y,dC A none n [2] (enc e) (.int .i64 v) rest (some (.int .i64 y))=ay rest (A.aL n (.box (enc { e with day:=v })))) ∧
  (∀ (A:ae) (n:Nat) (rest:List az) (e:av) v y,dC A none n [3] (enc e) (.int .i64 v) rest (some (.int .i64 y))=ay rest (A.aL n (.box (enc { e with known:=v })))) ∧
  (∀ (A:ae) (n:Nat) (rest:List az) (e:av) v y,dC A none n [4] (enc e) (.int .i64 v) rest (some (.int .i64 y))=ay rest (A.aL n (.box (enc { e with c9:=v })))) ∧
  (∀ (A:ae) (n:Nat) (rest:List az) (e:av) v y,dC A none n [5] (enc e) (.int .i64 v) rest (some (.int .i64 y))=ay rest (A.aL n (.box (enc { e with cz:=v })))) ∧
  (∀ (A:ae) (n:Nat) (rest:List az) (e:av) v y,dC A none n [6] (enc e) (.int .i64 v) rest (some (.int .i64 y))=ay rest (A.aL n (.box (enc { e with cM:=v })))) ∧
  (∀ (A:ae) (n:Nat) (rest:List az) (e:av) v y,dC A none n [7] (enc e) (.int .i64 v) rest (some (.int .i64 y))=ay rest (A.aL n (.box (enc { e with bP:=v })))) ∧
  (∀ (A:ae) (n:Nat) (rest:List az) (e:av) v y,dC A (some 6) n [8] (enc e) (enc (v:aR 6 Int)) rest (some (enc (y:aR 6 Int)))=ay rest (A.aL n (.box (enc { e with cm:=v })))) ∧
  (∀ (A:ae) (n:Nat) (rest:List az) (e:av) v y,dC A (some 2) n [9] (enc e) (enc (v:Item)) rest (some (enc (y:Item)))=ay rest (A.aL n (.box (enc { e with jX:=v })))) :=
 ⟨fun _ _ _ _ _ _=>by rw[N6];rfl,fun _ _ _ _ _ _=>by rw[oW];rfl,fun _ _ _ _ _ _=>by rw[oW];rfl,fun _ _ _ _ _ _=>by rw[oW];rfl,fun _ _ _ _ _ _=>by rw[oW];rfl,fun _ _ _ _ _ _=>by rw[oW];rfl,fun _ _ _ _ _ _=>by rw[oW];rfl,fun _ _ _ _ _ _=>by rw[oW];rfl,fun _ _ _ _ _ _=>by rw[aj5];rfl,fun _ _ _ _ _ _=>by rw[N6];rfl⟩
theorem OE(x y:aR 6 Int):x=y↔x.l=y.l:=by cases x;cases y;simp
theorem akT(p q:Prop)[Decidable p][Decidable q]:iu (some (decide p)) (some (decide q))=some (decide (p∧q)):=by simp[iu]
theorem CY(a b:Int):cq (.i .i64) (.int .i64 a) (.int .i64 b)=some (decide (a=b)):=by simp[cq];rfl
theorem CX(x y:av):cq (.bl [(.bl [(.i .i64),(.i .i64)]),(.i .i64),(.i .i64),(.i .i64),(.i .i64),(.i .i64),(.i .i64),(.i .i64),(.kG 6 (.i .i64)),(.bl [(.i .i64),(.i .i64)])]) (enc x) (enc y)=some (decide (x=y)):=by
 obtain ⟨a1,k1,d1,n1,b1,m1,s1,o1,r1,f1⟩:=x;obtain ⟨a2,k2,d2,n2,b2,m2,s2,o2,dL,f2⟩:=y
 show cq _ (.agg [enc a1,.int .i64 k1,.int .i64 d1,.int .i64 n1,.int .i64 b1,.int .i64 m1,.int .i64 s1,.int .i64 o1,enc r1,enc f1]) (.agg [enc a2,.int .i64 k2,.int .i64 d2,.int .i64 n2,.int .i64 b2,.int .i64 m2,.int .i64 s2,.int .i64 o2,enc dL,enc f2])=_
 have hr:cq (.kG 6 (.i .i64)) (enc r1) (enc dL)=some (decide (r1=dL)):=by
  rw[sH]
  congr 1
  exact decide_eq_decide.2 (OE r1 dL).symm
 rw[cq];simp only[iU,qL,CY,hr,av.mk.injEq];simp[iu]
theorem aZ:(type_of% @qn)∧(type_of% @KB)∧(type_of% @jY)∧(∀ {α:Type} [Enc α] (aA:Bool) (A:ae) (x:α),a7 aA A (enc x)=some (enc x))∧(∀ {α:Type} [Enc α] (x:α),(enc x).b8=true)∧(type_of% @CO)∧(type_of% @Ai)∧(type_of% @Ah)∧(type_of% @NZ) ∧
  (type_of% @NM)∧(type_of% @CX)∧(type_of% @qL)∧(∀ (a:Nat) l m,(a::l)++m=a::(l++m))∧(∀ b:Bool,((if b=true then (0:Int) else 12)==0)=b)∧(∀ b:Bool,((if b=true then (0:Int) else 12) != 0) = !b) :=
 ⟨qn,KB,jY,@cZ,@dO,CO,Ai,Ah,NZ,NM,CX,qL,fun _ _ _=>rfl,fun b=>by cases b <;>rfl,fun b=>by cases b <;>rfl⟩
theorem r5(x:av):aD Tryz.prog 84 [enc x] (enc (iQ x)):=by
 refine aD.bA Tryz.func84 SD Uv Wz (t7 rfl) (fun hwf W0 D0 E1 =>?_);simp only[BY,MW,bp];have R:=v6 @aZ @ab
 repeat' ((first |(with_reducible refine .guard (fun hb =>?_) (fun hb =>?_) <;>try simp only[hb])|refine J.aT (by decide +kernel) rfl fun K hK =>?_|(refine .aH [0,1,2,3,15,24,25,36,41,47] hK ?_;clear hK K)|(with_reducible refine .done (hK _ ?_);clear hK K)|refine J.of rfl ?_|(with_reducible refine aq.aQ (fun h =>?_) (fun h =>?_) <;>try simp only[h])) <;>try simp only[aU,R,simprocAttr])
 all_goals clear R
 all_goals (congr 1;simp_all[iQ,pT])
theorem zh(x:av):aD Tryz.prog 117 [enc x] (enc (gi x)):=by
 refine aD.bA Tryz.func117 Rb S0 U7 (t7 rfl) (fun hwf W0 D0 E1 =>?_);simp only[As,Lr,bp];refine .ao (by decide +kernel) fun K hK =>?_;simp only[DS,ab,simprocAttr]
 try simp only[aZ,ab,simprocAttr]
 refine .done (hK _ ?_);clear hK K;refine .ao (by decide +kernel) fun K hK =>?_;simp only[DT,ab,simprocAttr]
 try simp only[aZ,ab,simprocAttr]
 refine .done (hK _ ?_);clear hK K;refine .ao (by decide +kernel) fun K hK =>?_;simp only[DU,ab,simprocAttr]
 try simp only[aZ,ab,simprocAttr]
 refine .flat _ (OY _) rfl ?_
 try simp only[ab,simprocAttr]
 refine .done (hK _ ?_);clear hK K;refine J.fR [1,2,3,4] ?_;simp only[xt,reduceIte,Nat.reduceBEq];by_cases hk:0≤x.kind∧x.kind≤6
 ·refine J.seq (J.y9 (au [(1,.ptr 1 []),(3,.ptr 3 []),(4,.bool (oc x))] [(1,.box (enc x)),(3,.box (enc (iQ x)))]) ?_ fun B hB=>J.sub hB ?_)
  ·clear hwf;obtain hk | hk | hk | hk | hk | hk | hk:x.kind=0∨x.kind=1∨x.kind=2∨x.kind=3∨x.kind=4∨x.kind=5∨x.kind=6:=by omega
   all_goals
    have R:=v6 @hk (v6 @aZ @ab)
    repeat' ((first |(with_reducible refine .guard (fun hb =>?_) (fun hb =>?_) <;>try simp only[hb])|refine J.aT (by decide +kernel) rfl fun K hK =>?_|refine .flat _ (zg _) rfl ?_|refine .flat _ (OZ _) rfl ?_|refine .flat _ (O0 _) rfl ?_|refine .flat _ (l8 _ _ _) rfl ?_|refine .flat _ (zn _) rfl ?_|refine .flat _ (uI _) rfl ?_|(refine J.ua (gs:=vQ) [] [(1,[1]),(3,[3]),(23,[1]),(25,[3]),(26,[3])] [0,1,2,3,4,5] (by decide +kernel) (fh.of (by simp[pJ,aY,J6,I.only])) fun K hK =>?_;simp only[p9,vQ,List.getD_cons_zero,List.getD_cons_succ,R,simprocAttr])|(refine J.ua (gs:=vR) [] [(1,[1]),(3,[3]),(55,[1]),(57,[1]),(59,[1]),(61,[3]),(62,[3]),(63,[3])] [0,1,2,3,4,5,6,7,8,9,10,11] (by decide +kernel) (fh.of (by simp[pJ,aY,J6,I.only])) fun K hK =>?_;simp only[p9,vR,List.getD_cons_zero,List.getD_cons_succ,R,simprocAttr])|(refine .aH [0,1,2,3,4,20,21,53,87,98,110,122] hK ?_;clear hK K)|(with_reducible refine .done (hK _ ?_);clear hK K)|refine J.of rfl ?_|(with_reducible refine aq.aQ (fun h =>?_) (fun h =>?_) <;>try simp only[h])) <;>try simp only[aU,R,simprocAttr])
    all_goals clear R
   all_goals
    refine aF.bM ?_ ?_ ?_ ?_ <;>simp[*,aX,bK,bJ,a8,al,aY,cu,I.only,ai.only,bt,oc,iQ,pT]
  ·have R:=v6 @aZ @ab
   repeat' ((first |(with_reducible refine .guard (fun hb =>?_) (fun hb =>?_) <;>try simp only[hb])|refine J.aT (by decide +kernel) rfl fun K hK =>?_|refine .flat _ (zg _) rfl ?_|refine .flat _ (uI _) rfl ?_|(refine .aH [0,1,2,3,4,20,21,53,87,98,110,122] hK ?_;clear hK K)|(with_reducible refine .done (hK _ ?_);clear hK K)|refine J.of rfl ?_|(with_reducible refine aq.aQ (fun h =>?_) (fun h =>?_) <;>try simp only[h])) <;>try simp only[aU,R,simprocAttr])
   all_goals clear R
   all_goals simp[gi, *]
 ·have h0:(x.kind==0)=false:=by simp;omega
  have h1:(x.kind==1)=false:=by simp;omega
  have h2:(x.kind==2)=false:=by simp;omega
  have h3:(x.kind==3)=false:=by simp;omega
  have h4:(x.kind==4)=false:=by simp;omega
  have h5:(x.kind==5)=false:=by simp;omega
  have h6:(x.kind==6)=false:=by simp;omega
  have R:=v6 @h0 (v6 @h1 (v6 @h2 (v6 @h3 (v6 @h4 (v6 @h5 (v6 @h6 (v6 @aZ @ab)))))))
  repeat' ((first |(with_reducible refine .guard (fun hb =>?_) (fun hb =>?_) <;>try simp only[hb])|refine J.aT (by decide +kernel) rfl fun K hK =>?_|(refine .aH [0,1,2,3,4,20,21,53,87,98,110,122] hK ?_;clear hK K)|(with_reducible refine .done (hK _ ?_);clear hK K)|refine J.of rfl ?_|(with_reducible refine aq.aQ (fun h =>?_) (fun h =>?_) <;>try simp only[h])) <;>try simp only[aU,R,simprocAttr])
  all_goals clear R
  simp at h0 h1 h2 h3 h4 h5 h6;simp[gi,oc, *]
def gU:av:=pT ⟨0,0⟩ 0 0 0 0
theorem sE:I.agg [.agg [.int .i64 0,.int .i64 0],.int .i64 0,.int .i64 0,.int .i64 0,.int .i64 0,.int .i64 0,.int .i64 0,.int .i64 0,.agg [.int .i64 0,.int .i64 0,.int .i64 0,.int .i64 0,.int .i64 0,.int .i64 0],.agg [.int .i64 0,.int .i64 0]]=enc gU:=rfl
theorem xL(p:Nat→Bool)(l:List av):(I.agg (l.map enc)).only p=true:=by simp only[I.only];exact ej p l
def kX(k:Nat)(l:List av)(m:Nat):List (Nat×ai):=[(k,.box (.agg ((l++List.replicate m gU).map enc)))]
def Cv(l:List av):cT:=fun r os'=>(l=[]∧(r=.nils 17∨r=.c0 17)∧os'=[])∨(l≠[]∧∃ m,r=.view 7 [] 17 0 l.length∧os'=kX 7 l m)
theorem OT(l:List av)(hl:l.length≤1000):cD Tryz.prog 136 [enc l] [] (Cv l):=by
 refine cD.bA Tryz.func136 Rs Tg Vn (t7 rfl) (t7 rfl) (fun m hm=>by simp[al,ak] at hm) (fun hwf W0 D0 E1 =>?_);simp only[AK,LI,bp];refine .ao (by decide +kernel) fun K hK =>?_;simp only[EF,ab];refine .done (hK _ ?_);clear hK K;refine J.seq (J.seq ?_);by_cases hn:l=[]
 ·subst hn;refine .bu (by decide +kernel) fun K hK =>?_;simp only[we,ab,Nat.reduceEqDiff,reduceIte];simp only[uy,List.isEmpty_nil,pX];refine .any rfl fun b _ =>?_
  try simp only[ab]
  generalize (b==0)=t;cases t
  ·refine .done (hK _ ?_);clear hK K;try simp only[ar]
   refine J.bH ?_;simp only[aq,ab,Nat.reduceEqDiff,reduceIte];refine ⟨fun h =>?_,fun h =>?_⟩
   ·cases h
   refine J.skip ?_;try simp only[ar]
   refine .ao (by decide +kernel) fun K hK =>?_;simp only[wg,ab]
   try simp only[eQ,sE,ab,Nat.reduceEqDiff,reduceIte]
   refine .done (hK _ ?_);clear hK K;refine J.ret ?_;simp only[fI];exact ⟨[],[.c0 17],pI,⟨⟨.c0 17,rfl,.inl ⟨rfl,rfl,rfl⟩⟩,trivial⟩,.inl ⟨rfl,.inr rfl,rfl⟩⟩
  ·refine .done (hK _ ?_);clear hK K;refine J.bH ?_;simp only[aq,ab,Nat.reduceEqDiff,reduceIte];refine ⟨fun h =>?_,fun h =>?_⟩
   ·refine .ao (by decide +kernel) fun K hK =>?_;simp only[EG,ab];refine .done (hK _ ?_);clear hK K;refine J.ret ?_;simp only[ar,fI];exact ⟨[],[.nils 17],pI,⟨⟨.nils 17,rfl,.inl ⟨rfl,rfl,rfl⟩⟩,trivial⟩,.inl ⟨rfl,.inl rfl,rfl⟩⟩
   ·cases h
 ·have hu:j9 (enc l)=false:=by rw[uy];simpa using hn
  refine .bu (by decide +kernel) fun K hK =>?_;simp only[we,ab,Nat.reduceEqDiff,reduceIte]
  try simp only[hu,Kp _ l hn,ab]
  refine .done (hK _ ?_);clear hK K;try simp only[ar]
  refine J.bH ?_;simp only[aq,ab,Nat.reduceEqDiff,reduceIte];refine ⟨fun h =>?_,fun h =>?_⟩
  ·cases h
  refine J.skip ?_;try simp only[ar]
  refine .ao (by decide +kernel) fun K hK =>?_;simp only[wg,ab]
  try simp only[eQ,sE,ab,Nat.reduceEqDiff,reduceIte]
  refine bj.zZ gU rfl hn rfl (by omega) (by simp only[maxLen];omega) fun m =>?_
  try simp only[ab,Nat.reduceEqDiff,reduceIte]
  refine .done (hK _ ?_);clear hK K;refine J.ret ?_;simp only[fI];exact ⟨kX 7 l m,[.view 7 [] 17 0 l.length],nk rfl (fun p=>xL p _),⟨⟨_,rfl,.inl ⟨rfl,rfl,rfl⟩⟩,trivial⟩,.inr ⟨hn,m,rfl,rfl⟩⟩
def JC(l:List av)(i:Nat)(g:av):List av:=l.take i++g::l.drop i
theorem akX(l:List av)(i k:Nat)(g:av)(h:i<l.length)(hk:1≤k)(xs:List av)(hx:xs=l++List.replicate k gU)(ys:List av)(hy:ys=xs.take (i+1)++(((xs.drop i).take (l.length+1-i)).take (l.length-i)++xs.drop (i+1+(l.length-i)))) :
  ys.take i++([g].take 1++ys.drop (i+1))=JC l i g++List.replicate (k-1) gU:=by
 have e1:((xs.drop i).take (l.length+1-i)).take (l.length-i)=l.drop i:=by
  rw[List.take_take,Nat.min_eq_left (by omega),hx,List.drop_append_of_le_length (by omega),zw6 (by rw[zx0];omega),zv5 (by rw[zx0];omega)]
 have e2:xs.drop (i+1+(l.length-i))=List.replicate (k-1) gU:=by
  rw[hx,List.drop_append,zv0 (by omega),zy6,List.drop_replicate]
  congr 1;omega
 have hl:(xs.take (i+1)).length=i+1:=by rw[zx3,hx,zz5];omega
 have e3:ys.take i=l.take i:=by
  rw[hy,zw6 (by omega),List.take_take,Nat.min_eq_left (by omega),hx,zw6 (by omega)]
 have e4:ys.drop (i+1)=l.drop i++List.replicate (k-1) gU:=by
  rw[hy,e1,e2];exact List.drop_left' hl
 rw[e3,e4];simp[JC]
def e7(l:List av)(i:Nat):List av:=l.take i++l.drop (i+1)
theorem CH{l:List av}{i:Nat}(h:i<l.length):(e7 l i).length=l.length-1:=by
 simp only[e7,zz5,zx3,zx0];omega
def CF(l:List av)(i:Nat):cT:=fun r os'=>∃ q,r=.view 1000000 [] 17 0 (l.length-1)∧os'=kX 1000000 (e7 l i) q
theorem ag1(l:List av)(i k:Nat)(h:i+1<l.length)(xs:List av)(hx:xs=l++List.replicate k gU)(a:List av)(ha:a=xs.take i++(l.drop (i+1)++xs.drop (i+(l.drop (i+1)).length))) :
  a.take (l.length-1)++(List.replicate 1 gU++a.drop (l.length-1+1))=e7 l i++List.replicate (k+1) gU:=by
 have e1:xs.take i=l.take i:=by rw[hx,zw6 (by omega)]
 have e0:i+(l.drop (i+1)).length=l.length-1:=by rw[zx0];omega
 have e2:a=e7 l i++xs.drop (l.length-1):=by rw[ha,e1,e0,e7,zz3]
 have hl:=CH (l:=l) (i:=i) (by omega);have e3:a.take (l.length-1)=e7 l i:=by rw[e2,←hl,List.take_left]
 have e4:a.drop (l.length-1+1)=List.replicate k gU:=by
  rw[e2,List.drop_append,hl,zv0 (by omega),zy6,List.drop_drop];have:l.length-1+(l.length-1+1-(l.length-1))=l.length:=by omega
  rw[this,hx,List.drop_left]
 rw[e3,e4,List.replicate_append_replicate,Nat.add_comm 1 k]
theorem ag2(l:List av)(k:Nat)(i:Nat)(h:i+1=l.length)(xs:List av)(hx:xs=l++List.replicate k gU):xs.take (l.length-1)++(List.replicate 1 gU++xs.drop (l.length-1+1))=e7 l i++List.replicate (k+1) gU:=by
 have e1:l.length-1=i:=by omega
 have e2:xs.drop (l.length-1+1)=List.replicate k gU:=by rw[show l.length-1+1=l.length by omega,hx,List.drop_left]
 have e3:xs.take (l.length-1)=e7 l i:=by
  rw[e1,hx,zw6 (by omega),e7,zv0 (by omega),zx8]
 rw[e2,e3,List.replicate_append_replicate,Nat.add_comm 1 k]
theorem OS(l:List av)(i:Nat)(k:Nat)(hi:i<l.length)(hlen:l.length≤1000) :
  cD Tryz.prog 135 [.view 1000000 [] 17 0 l.length,enc (i:Int),enc ((i+1:Nat):Int)] (kX 1000000 l k) (CF l i):=by
 refine cD.bA Tryz.func135 Rr Tf Vm (t7 rfl) (t7 rfl) (fun m hm=>by rw[dy.1 hm];exact zz7 _) (fun hwf W0 D0 E1 =>?_);simp only[AJ,LH,bp,zz4,Nat.reduceAdd];simp only[kX];obtain ⟨xs,hxs⟩:∃ xs,xs=l++List.replicate k gU:=⟨_,rfl⟩
 have hxl:xs.length=l.length+k:=by rw[hxs];simp
 have htot:(xs.map (enc (α:=av))).length=l.length+k:=by rw[zy2];exact hxl
 rw[←hxs];have hA:∀ ts,(au ts [(1000000,.box (.agg (xs.map (enc (α:=av)))))]).o 1000000=some (.box (.agg (xs.map enc))):=fun _=>rfl;refine .ao (by decide +kernel) fun K hK =>?_;simp only[EB,ab];refine .done (hK _ ?_);clear hK K;refine .ao (by decide +kernel) fun K hK =>?_;simp only[EC,ab,Nat.reduceEqDiff,reduceIte]
 try simp only[eQ,htot,zy4,ajY (show i≤i+1 by omega) (show i+1≤l.length by omega) (show l.length≤l.length+k by omega),ab,Nat.reduceEqDiff,reduceIte]
 refine .done (hK _ ?_);clear hK K;refine J.seq (J.seq ?_);refine .bu (by decide +kernel) fun K hK =>?_;simp only[ED,ab,Nat.reduceEqDiff,reduceIte]
 try simp only[cG,bG,jY,cZ,ab,Nat.reduceEqDiff,reduceIte,Int.reduceBNe,Int.reduceBEq]
 refine .done (hK _ ?_);clear hK K;try simp only[ar]
 refine J.bH ?_;simp only[aq,ab,Nat.reduceEqDiff,reduceIte];refine ⟨fun h =>?_,fun h =>?_⟩
 ·exfalso
  have:(i:Int)=((i+1:Nat):Int):=by simpa using h
  omega
 refine J.skip ?_;try simp only[ar]
 refine .ao (by decide +kernel) fun K hK =>?_;simp only[EE,ab,Nat.reduceEqDiff,reduceIte]
 try simp only[eQ,ab,Nat.reduceEqDiff,reduceIte]
 refine .done (hK _ ?_);clear hK K;by_cases hl1:i+1<l.length
 ·have hd:(xs.drop (i+1)).take (l.length-(i+1))=l.drop (i+1):=by
   rw[hxs,List.drop_append_of_le_length (by omega),zw6 (by rw[zx0];omega),zv5 (by rw[zx0];omega)]
  have hdl:i+(l.drop (i+1)).length=l.length-1:=by rw[zx0];omega
  obtain ⟨b,hb⟩:∃ b,b=xs.take i++(l.drop (i+1)++xs.drop (i+(l.drop (i+1)).length)):=⟨_,rfl⟩
  have hbl:b.length=l.length+k:=by rw[hb];simp;omega
  have hcont:=ag1 l i k hl1 xs hxs b hb;refine .ao (by decide +kernel) fun K hK =>?_;simp only[wa,ab,Nat.reduceEqDiff,reduceIte]
  try simp only[eQ,htot,Option.map_none,zy4,yR (show i≤l.length+k by omega) (show 0<l.length+k by omega),yS (show i+1≤l.length by omega) (show l.length≤l.length+k by omega) (show i+1<l.length+k by omega),ab,Nat.reduceEqDiff,reduceIte]
  rw[Qk (esz:=17) (xs:=xs) (ys:=l.drop (i+1)) _ _ (by rw[uq (xs:=xs) (hA _) (by omega),hd]) (by simp;omega) (hA _) (by rw[zx0];omega)];rw[←hb,hdl]
  try simp only[ab,Nat.reduceEqDiff,reduceIte]
  refine .done (hK _ ?_);clear hK K;have htb:(b.map (enc (α:=av))).length=l.length+k:=by rw[zy2];exact hbl
  have hB:∀ ts os,(au ts ((1000000,.box (.agg (b.map (enc (α:=av)))))::os)).o 1000000=some (.box (.agg (b.map enc))):=fun _ _=>rfl;refine .ao (by decide +kernel) fun K hK =>?_;simp only[wb,ab,Nat.reduceEqDiff,reduceIte]
  try simp only[eQ,htb,Option.map_none,zy4,sE,ab,Nat.reduceEqDiff,reduceIte]
  rw[NQ (show l.length-1≤l.length by omega) (show l.length≤l.length+k by omega) (by omega)]
  try simp only[eQ,ab,Nat.reduceEqDiff,reduceIte]
  rw[vl (xs:=b) gU (hB _ _) (by omega)];have hone:l.length-(l.length-1)=1:=by omega
  try simp only[hone,hcont,ab]
  refine .done (hK _ ?_);clear hK K;refine .ao (by decide +kernel) fun K hK =>?_;simp only[wc,ab,Nat.reduceEqDiff,reduceIte];refine .done (hK _ ?_);clear hK K;refine J.ret ?_;simp only[fI];exact ⟨kX 1000000 (e7 l i) (k+1),[.view 1000000 [] 17 0 (l.length-1)],nk rfl (fun p=>xL p _),⟨⟨_,rfl,.inl ⟨rfl,rfl,rfl⟩⟩,trivial⟩,k+1,rfl,rfl⟩
 ·have hie:i+1=l.length:=by omega
  obtain ⟨b,hb⟩:∃ b,b=xs:=⟨_,rfl⟩
  have hbl:b.length=l.length+k:=by rw[hb];exact hxl
  have hcont:=ag2 l k i hie xs hxs;rw[←hb] at hcont;have hi1:i=l.length-1:=by omega
  obtain ⟨y,hy⟩:=ajX (n:=1000000) (p:=[]) (sz:=17) (show i+1≤l.length by omega) (show l.length≤l.length+k by omega);have hye:∀ ts,eI (au ts [(1000000,.box (.agg (xs.map (enc (α:=av)))))]) 17 y=some []:=fun ts=>by
   by_cases hk:k=0
   ·have:hJ 1000000 [] 17 0 l.length (l.length+k) (some (.int .i64 ((i+1:Nat):Int))) none none=some (.c0 17):=by
     simp only[hJ,iv];rw[if_pos ⟨by omega,by omega,by omega⟩,if_pos (by omega)]
    rw[this] at hy;cases hy;rfl
   ·rw[yS (show i+1≤l.length by omega) (show l.length≤l.length+k by omega) (by omega)] at hy;cases hy;rw[uq (xs:=xs) (hA _) (by omega),hie];simp
  refine .ao (by decide +kernel) fun K hK =>?_;simp only[wa,ab,Nat.reduceEqDiff,reduceIte]
  try simp only[eQ,htot,Option.map_none,zy4,yR (show i≤l.length+k by omega) (show 0<l.length+k by omega),hy,ab,Nat.reduceEqDiff,reduceIte]
  rw[Qj (esz:=17) (xs:=xs) _ _ (hye _) (hA _) (by omega)];rw[hi1,←hb]
  try simp only[ab,Nat.reduceEqDiff,reduceIte]
  refine .done (hK _ ?_);clear hK K;have htb:(b.map (enc (α:=av))).length=l.length+k:=by rw[zy2];exact hbl
  have hB:∀ ts os,(au ts ((1000000,.box (.agg (b.map (enc (α:=av)))))::os)).o 1000000=some (.box (.agg (b.map enc))):=fun _ _=>rfl;refine .ao (by decide +kernel) fun K hK =>?_;simp only[wb,ab,Nat.reduceEqDiff,reduceIte]
  try simp only[eQ,htb,Option.map_none,zy4,sE,ab,Nat.reduceEqDiff,reduceIte]
  rw[NQ (show l.length-1≤l.length by omega) (show l.length≤l.length+k by omega) (by omega)]
  try simp only[eQ,ab,Nat.reduceEqDiff,reduceIte]
  rw[vl (xs:=b) gU (hB _ _) (by omega)];have hone:l.length-(l.length-1)=1:=by omega
  try simp only[hone,hcont,ab]
  refine .done (hK _ ?_);clear hK K;refine .ao (by decide +kernel) fun K hK =>?_;simp only[wc,ab,Nat.reduceEqDiff,reduceIte];refine .done (hK _ ?_);clear hK K;refine J.ret ?_;simp only[fI];exact ⟨kX 1000000 (e7 l i) (k+1),[.view 1000000 [] 17 0 (l.length-1)],nk rfl (fun p=>xL p _),⟨⟨_,rfl,.inl ⟨rfl,rfl,rfl⟩⟩,trivial⟩,k+1,rfl,rfl⟩
def eD(b:aB)(s:I):I:=.agg [.agg [.int .i64 b.no,.int .i64 b.cM,.int .i64 b.cz,.int .i64 b.bP,.int .i64 b.jO,.int .i64 b.born,.int .i64 b.cL,.bool b.found,s]]
structure er where
 b:aB
instance:Enc er where
 enc x:=.agg [enc x.b]
 sz:=9
 aO:=.ew [.ew [.one,.one,.one,.one,.one,.one,.one,.one,.one]]
 gf:=true
 done e:=by simp only[I.done,I.eV,Enc.done,zw3]
 size e:=by simp only[I.size,I.sizes,gp,CV]
 kz e:=by simp only[I.aO,I.cX,eO];rfl
 agg _:=rfl
def eX(B:Nat):Nat→List aB→List (Nat×ai)
 |_,[]=>[]
 |i,b::bs=>(B+2+2*i,.box (eD b (.own (B+3+2*i) b.cm.length)))::(B+3+2*i,.bX 66 6 (b.cm.map enc))::eX B (i+1) bs
def eA(B n:Nat):List I:=(List.range n).map fun i=>.ptr (B+2+2*i) []
def dc(bs:List aB):List I:=(bs.map (·.no)).map enc
def ct(B:Nat)(bs:List aB):List (Nat×ai):=(B,.box (.agg [.mref (B+1)]))::(B+1,.cv (dc bs) (eA B bs.length))::eX B 0 bs
theorem tf(B:Nat):∀ (bs:List aB) (i n:Nat),n<B+2+2*i→ak (eX B i bs) n=none
 | [],_,_,_=>rfl
 |b::bs,i,n,h=>by
  simp only[eX,ak];rw[if_neg (by omega),if_neg (by omega)];exact tf B bs (i+1) n (by omega)
theorem td(B:Nat):∀ (bs:List aB) (i n:Nat),B+2+2*(i+bs.length)≤n→ak (eX B i bs) n=none
 | [],_,_,_=>rfl
 |b::bs,i,n,h=>by
  simp only[List.length_cons] at h;simp only[eX,ak];rw[if_neg (by omega),if_neg (by omega)];exact td B bs (i+1) n (by omega)
theorem te(B:Nat):∀ (bs:List aB) (i k:Nat) (h:k<bs.length),ak (eX B i bs) (B+2+2*(i+k))=some (.box (eD bs[k] (.own (B+3+2*(i+k)) (bs[k]).cm.length)))
 | [],_,_,h=>by simp at h
 |b::bs,i,0,_=>by simp[eX,ak]
 |b::bs,i,k+1,h=>by
  simp only[eX,ak];rw[if_neg (by omega),if_neg (by omega)];have:=te B bs (i+1) k (by simpa using h);rw[show i+1+k=i+(k+1) by omega] at this;exact this
theorem tg(B:Nat):∀ (bs:List aB) (i k:Nat) (h:k<bs.length),ak (eX B i bs) (B+3+2*(i+k))=some (.bX 66 6 ((bs[k]).cm.map enc))
 | [],_,_,h=>by simp at h
 |b::bs,i,0,_=>by
  simp only[eX,ak];rw[if_neg (by omega),if_pos (by omega)];rfl
 |b::bs,i,k+1,h=>by
  simp only[eX,ak];rw[if_neg (by omega),if_neg (by omega)];have:=tg B bs (i+1) k (by simpa using h);rw[show i+1+k=i+(k+1) by omega] at this;exact this
theorem tw(B n m:Nat):n<B∨n=B∨n=B+1∨(∃ k,k<m∧n=B+2+2*k)∨(∃ k,k<m∧n=B+3+2*k)∨B+2+2*m≤n:=by
 by_cases h1:n<B
 ·exact .inl h1
 by_cases h2:n=B
 ·exact .inr (.inl h2)
 by_cases h3:n=B+1
 ·exact .inr (.inr (.inl h3))
 by_cases h4:B+2+2*m≤n
 ·exact .inr (.inr (.inr (.inr (.inr h4))))
 rcases Nat.mod_two_eq_zero_or_one (n-B) with h5 | h5
 ·exact .inr (.inr (.inr (.inl ⟨(n-B-2) / 2,by omega,by omega⟩)))
 ·exact .inr (.inr (.inr (.inr (.inl ⟨(n-B-3) / 2,by omega,by omega⟩))))
section
variable {B:Nat} {bs:List aB}
theorem kl{n:Nat}(h:n<B):ak (ct B bs) n=none:=by
 simp only[ct,ak];rw[if_neg (by omega),if_neg (by omega)];exact tf B bs 0 n (by omega)
theorem s7{n:Nat}(h:B+2+2*bs.length≤n):ak (ct B bs) n=none:=by
 simp only[ct,ak];rw[if_neg (by omega),if_neg (by omega)];exact td B bs 0 n (by omega)
theorem kj:ak (ct B bs) B=some (.box (.agg [.mref (B+1)])):=by simp[ct,ak]
theorem kR:ak (ct B bs) (B+1)=some (.cv (dc bs) (eA B bs.length)):=by simp[ct,ak]
theorem mB{k:Nat}(h:k<bs.length):ak (ct B bs) (B+2+2*k)=some (.box (eD bs[k] (.own (B+3+2*k) (bs[k]).cm.length))):=by
 simp only[ct,ak];rw[if_neg (by omega),if_neg (by omega)];have:=te B bs 0 k h
 rwa [zz4] at this
theorem lL{k:Nat}(h:k<bs.length):ak (ct B bs) (B+3+2*k)=some (.bX 66 6 ((bs[k]).cm.map enc)):=by
 simp only[ct,ak];rw[if_neg (by omega),if_neg (by omega)];have:=tg B bs 0 k h
 rwa [zz4] at this
theorem nv{n:Nat} : al (ct B bs) n=decide (B≤n∧n<B+2+2*bs.length):=by
 rcases tw B n bs.length with h | h | h | ⟨k,hk,h⟩ | ⟨k,hk,h⟩ | h
 ·simp only[al,kl h];simp;omega
 ·subst h;simp only[al,kj];simp;omega
 ·subst h;simp only[al,kR];simp;omega
 ·subst h;simp only[al,mB hk];simp;omega
 ·subst h;simp only[al,lL hk];simp;omega
 ·simp only[al,s7 h];simp;omega
theorem yf(p:Nat→Bool){n:Nat}(h:∀ i,i<n→p (B+2+2*i)=true):I.bU p (eA B n)=true:=by
 unfold eA
 induction n with
 |zero=>rfl
 |succ n ih =>
  rw[List.range_succ,zx6,gz,ih fun i hi=>h i (by omega)];simp[I.bU,I.only,h n (by omega)]
theorem ft{n:Nat}{x:ai}(h:ak (ct B bs) n=some x):x.only (al (ct B bs))=true∧x.eG=true:=by
 rcases tw B n bs.length with h2 | h2 | h2 | ⟨k,hk,h2⟩ | ⟨k,hk,h2⟩ | h2
 ·rw[kl h2] at h;cases h
 ·subst h2;rw[kj] at h;cases h;simp[ai.only,I.only,I.bU,nv,ai.eG];omega
 ·subst h2;rw[kR] at h;cases h;refine ⟨?_,rfl⟩;simp only[ai.only,zz2];exact ⟨ej _ _,yf _ fun i hi=>by rw[nv];simp;omega⟩
 ·subst h2;rw[mB hk] at h;cases h;simp[ai.only,I.only,I.bU,nv,ai.eG,eD];omega
 ·subst h2;rw[lL hk] at h;cases h;exact ⟨ej _ _,rfl⟩
 ·rw[s7 h2] at h;cases h
theorem Jv{i:Nat}(hi:i<bs.length)(b:aB)(hno:b.no=(bs[i]).no)(n:Nat):ak (ct B (bs.set i b)) n =
  if n=B+2+2*i then some (.box (eD b (.own (B+3+2*i) b.cm.length))) else if n=B+3+2*i then some (.bX 66 6 (b.cm.map enc)) else ak (ct B bs) n:=by
 have hl:(bs.set i b).length=bs.length:=List.length_set;have hnos:dc (bs.set i b)=dc bs:=by
  simp only[dc,List.map_set,hno]
  congr 1
  exact List.ext_getElem (by simp) fun j h1 h2=>by
   simp only[List.getElem_set,List.getElem_map];split
   ·rename_i e;subst e;rfl
   ·rfl
 rcases tw B n bs.length with h2 | h2 | h2 | ⟨k,hk,h2⟩ | ⟨k,hk,h2⟩ | h2
 ·rw[kl h2,kl h2,if_neg (by omega),if_neg (by omega)]
 ·subst h2;rw[kj,kj,if_neg (by omega),if_neg (by omega)]
 ·subst h2;rw[kR,kR,hl,hnos,if_neg (by omega),if_neg (by omega)]
 ·subst h2;rw[mB (by omega),mB hk];by_cases e:k=i
  ·subst e;simp
  ·rw[if_neg (by omega),if_neg (by omega)];simp[Ne.symm e]
 ·subst h2;rw[lL (by omega),lL hk];by_cases e:k=i
  ·subst e;rw[if_neg (by omega),if_pos rfl];simp
  ·rw[if_neg (by omega),if_neg (by omega)];simp[Ne.symm e]
 ·rw[s7 (by omega),s7 h2,if_neg (by omega),if_neg (by omega)]
end
theorem Lj{B n i:Nat}(h:i<n):(eA B n)[i]?=some (.ptr (B+2+2*i) []):=by simp[eA,h]
theorem pA(a b:Int):cq (.i .i64) (enc a) (enc b)=some (decide (a=b)):=CY a b
theorem wT{bs:List aB}{no:Int} : match (bs.map (·.no)).findIdx? fun x=>decide (no=x) with
  |some i=>∃ h:i<bs.length,cW bs no=some bs[i]∧(bs[i]).no=no
  |none=>cW bs no=none:=by
 cases h:(bs.map (·.no)).findIdx? fun x=>decide (no=x) with
 |none =>
  rw[List.findIdx?_eq_none_iff] at h;simp only;rw[wU];intro hm;have:=h no hm;simp at this
 |some i =>
  obtain ⟨h1,h2,h3⟩:=List.findIdx?_eq_some_iff_getElem.1 h;have hi:i<bs.length:=by simpa using h1
  have hno:(bs[i]).no=no:=by simpa using (of_decide_eq_true h2).symm
  refine ⟨hi,?_,hno⟩;simp only[cW,List.find?_eq_some_iff_getElem];refine ⟨by simpa using hno,i,hi,rfl,fun j hj =>?_⟩;have:=h3 j hj;simp at this;simpa using fun e=>this e.symm
theorem pP(B:Nat)(bs:List aB)(no:Int):(cW bs no=none∧gq (.i .i64) .nilp (.int .i64 no) (dc bs) (eA B bs.length)=some (.nilp,false)) ∨
  ∃ i,∃ h:i<bs.length,cW bs no=some bs[i]∧(bs[i]).no=no∧gq (.i .i64) .nilp (.int .i64 no) (dc bs) (eA B bs.length)=some (.ptr (B+2+2*i) [],true):=by
 have h1:=wT (bs:=bs) (no:=no);have h2:=xz pA .nilp no (bs.map (·.no)) (eA B bs.length);rw[gT] at h2;unfold dc;cases h:(bs.map (·.no)).findIdx? fun x=>decide (no=x) with
 |none=>rw[h] at h1 h2;exact .inl ⟨h1,h2⟩
 |some i =>
  rw[h] at h1 h2;obtain ⟨hi,g1,g2⟩:=h1;refine .inr ⟨i,hi,g1,g2,?_⟩;rw[h2];simp only[Lj hi,zy4]
theorem ajO{bs:List aB}(hd:(bs.map (·.no)).Nodup){i:Nat}(hi:i<bs.length){b:aB}(hno:b.no=(bs[i]).no):lb bs b=bs.set i b:=by
 refine List.ext_getElem (by simp[lb]) fun j h1 h2 =>?_;simp only[lb,List.getElem_map,List.getElem_set];have hj:j<bs.length:=by simpa using h2
 by_cases e:i=j
 ·subst e;rw[if_pos hno.symm,if_pos rfl]
 ·rw[if_neg e,if_neg];intro he;have he:=he.trans hno;have:=(List.getElem_inj (h₀:=by simpa using hj) (h₁:=by simpa using hi) hd).1 (by simpa using he);exact e this.symm
theorem C6(x:er):(enc x).dA=some [enc x.b]:=rfl
theorem C7(b:aB)(s:I):(eD b s).dA=some [.agg [.int .i64 b.no,.int .i64 b.cM,.int .i64 b.cz,.int .i64 b.bP,.int .i64 b.jO,.int .i64 b.born,.int .i64 b.cL,.bool b.found,s]]:=rfl
theorem Cu(b:aB)(n k:Nat):(eD b (.own n k)).bn=false:=by simp[eD,I.bn,I.bW]
theorem mw{A:ae}{m n:Nat}{b:aB}(ho:A.o n=some (.bX 66 6 (b.cm.map enc))):dK A (m+3) (eD b (.own n b.cm.length))=some (enc (⟨b⟩:er)):=by
 have h1:dK A (m+1) (.own n b.cm.length)=some (enc b.cm):=by
  simp only[dK,I.bn,zz6,if_false,ho,zy2,jP,and_self,if_true];rfl
 have hi:∀ (k:IntKind) (v:Int),dK A (m+1) (.int k v)=some (.int k v):=fun _ _=>by simp[dK,I.bn]
 have hb:∀ v:Bool,dK A (m+1) (.bool v)=some (.bool v):=fun _=>by simp[dK,I.bn]
 have h2:dK A (m+2) (.agg [.int .i64 b.no,.int .i64 b.cM,.int .i64 b.cz,.int .i64 b.bP,.int .i64 b.jO,.int .i64 b.born,.int .i64 b.cL,.bool b.found,.own n b.cm.length])=some (enc b):=by
  rw[dK];simp only[I.bn,I.bW,Bool.and_false,Bool.and_true,zz6,if_false,fy,hi,hb,h1,zy4];rfl
 rw[eD,dK];simp only[I.bn,I.bW,Bool.and_false,Bool.and_true,zz6,if_false,fy,h2,zy4];rfl
theorem N1 :
  (∀ (A:ae) n b s (v u:Int) rest,dC A none n [0,3] (eD b s) (.int .i64 v) rest (some (.int .i64 u))=ay rest (A.aL n (.box (eD { b with bP:=v } s)))) ∧
  (∀ (A:ae) n b s (v u:Int) rest,dC A none n [0,6] (eD b s) (.int .i64 v) rest (some (.int .i64 u))=ay rest (A.aL n (.box (eD { b with cL:=v } s)))) ∧
  (∀ (A:ae) n b s (v u:Bool) rest,dC A none n [0,7] (eD b s) (.bool v) rest (some (.bool u))=ay rest (A.aL n (.box (eD { b with found:=v } s)))) ∧
  (∀ (A:ae) n b s m k m' k' rest,dC A none n [0,8] (eD b s) (.own m k) rest (some (.own m' k'))=ay rest (A.aL n (.box (eD b (.own m k))))) :=
 ⟨fun _ _ _ _ v u _=>by rw[eg (s:=none) (v:=.int .i64 v) (old:=.int .i64 u) rfl rfl rfl];rfl,fun _ _ _ _ v u _=>by rw[eg (s:=none) (v:=.int .i64 v) (old:=.int .i64 u) rfl rfl rfl];rfl,
  fun _ _ _ _ v u _=>by rw[eg (s:=none) (v:=.bool v) (old:=.bool u) rfl rfl rfl];rfl,fun _ _ _ _ m k m' k' _=>by rw[eg (s:=none) (v:=.own m k) (old:=.own m' k') rfl rfl rfl];rfl⟩
theorem fM:(type_of% @C6)∧(type_of% @C7)∧(type_of% @Cu)∧(type_of% @N1)∧(type_of% @tF)∧(∀ n:Nat,(n=n)=True)∧(∀ rs post A,nK rs post .ret A=kF rs post A):=⟨C6,C7,Cu,N1,tF,fun _=>eq_self _,fI⟩
theorem jo(b:aB):aD Tryz.prog 90 [.ref (enc (⟨b⟩:er))] (enc (decide (0≤b.cL))):=by
 refine aD.bA Tryz.func90 SJ UB WG (t7 rfl) (fun hwf W0 D0 E1 =>?_);simp only[B6,M3,bp];have R:=v6 @fM (v6 @dT (v6 @aZ @ab))
 repeat' ((first |(with_reducible refine .guard (fun hb =>?_) (fun hb =>?_) <;>try simp only[hb])|refine J.aT (by decide +kernel) rfl fun K hK =>?_|(refine .aH [0,2] hK ?_;clear hK K)|(with_reducible refine .done (hK _ ?_);clear hK K)|refine J.of rfl ?_|(with_reducible refine aq.aQ (fun h =>?_) (fun h =>?_) <;>try simp only[h])) <;>try simp only[aU,R,simprocAttr])
 all_goals clear R
def iX(B d:Nat)(bs:List aB)(x:av):cT:=fun r os'=>match ea ev bs x with
 |none=>r=.bool false∧os'=ct B bs
 |some bs'=>r=.bool true∧os'=if x.kind=1∨x.kind=2 then (B+1,.cv (dc bs') (eA B bs.length++[.ptr d []]))::(d,.box (eD (eY x) (.nils 6)))::ct B bs else ct B bs'
theorem kS{bs:List aB} : ∀ m,al (ct 1000000 bs) m=true→1000000≤m:=fun m hm=>by rw[nv] at hm;simp at hm;omega
theorem gj{ts:List (Nat×I)}{os os':List (Nat×ai)}{b:Bool}{post:cT}(ht:Abs.cn ts 4=.bool b)(ho:∀ n,al os' n=true→ak os n=ak os' n)(hg:∀ n x,ak os' n=some x→x.only (al os')=true∧x.eG=true)(hp:post (.bool b) os'):kF [.tmp 4] post (au ts os):=by
 refine ⟨os',[.bool b],fun n x hx=>⟨?_,hg n x hx⟩,⟨⟨.bool b,?_,.inl ⟨rfl,rfl,rfl⟩⟩,trivial⟩,hp⟩
 ·show ak os n=some x
  rw[ho n (by simp[al,hx])];exact hx
 ·show some (Abs.cn ts 4)=some _
  rw[ht]
theorem lM{bs:List aB}{z:ai} : ∀ n,al (ct 1000000 bs) n=true→ak ((3,z)::ct 1000000 bs) n=ak (ct 1000000 bs) n:=fun n h=>by
 have:=kS n h;simp only[ak];rw[if_neg (by omega)]
theorem xf{bs:List aB}{i:Nat}(hi:i<bs.length){b:aB}(hno:b.no=(bs[i]).no)(hs:b.cm=(bs[i]).cm){z:ai}{nl nr:Nat}(hnl:nl=1000000+2+2*i)(hnr:nr=1000000+3+2*i) :
  ∀ n,al (ct 1000000 (bs.set i b)) n=true→ak ((nl,.box (eD b (.own nr (bs[i]).cm.length)))::(3,z)::ct 1000000 bs) n=ak (ct 1000000 (bs.set i b)) n:=fun n h=>by
 have:=kS n h;rw[Jv hi b hno];simp only[ak,hs];subst hnl hnr;rw[if_neg (show ¬ n=3 by omega)];split
 ·rfl
 ·split
  ·rename_i e;subst e;exact lL hi
  ·rfl
theorem jS{B d:Nat}{bs:List aB}{x:av}(h:ea ev bs x=none):iX B d bs x (.bool false) (ct B bs):=by simp[iX,h]
theorem s9{B d:Nat}{bs:List aB}{x:av}(hd:(bs.map (·.no)).Nodup)(hk:¬ (x.kind=1∨x.kind=2)){i:Nat}(hi:i<bs.length)(hg:cW bs x.c9=some bs[i]){b:aB}(ht:eT bs[i] x=some b)(hno:b.no=(bs[i]).no) :
  iX B d bs x (.bool true) (ct B (bs.set i b)):=by
 have:ea ev bs x=some (bs.set i b):=by
  simp only[ea,if_neg hk,hg,ht,zy4,ajO hd hi hno]
 simp only[iX,this,if_neg hk,and_self]
theorem sh{bs:List aB}{x:av}(hk:¬ (x.kind=1∨x.kind=2))(hg:cW bs x.c9=none):ea ev bs x=none:=by
 simp only[ea,if_neg hk,hg]
theorem z8{bs:List aB}{x:av}(hk:¬ (x.kind=1∨x.kind=2)){b:aB}(hg:cW bs x.c9=some b)(ht:eT b x=none):ea ev bs x=none:=by
 simp only[ea,if_neg hk,hg,ht,Option.map_none]
theorem Pe(bs:List aB)(x:av)(d:Nat)(hk:x.kind=3)(hd:(bs.map (·.no)).Nodup):cD Tryz.prog 174 [.ptr 1000000 [],enc x] (ct 1000000 bs) (iX 1000000 d bs x):=by
 refine cD.bA Tryz.func174 RS TI VO (t7 rfl) (t7 rfl) kS (fun hwf W0 D0 E1 =>?_);simp only[Bd,Ma,bp,zz4];clear hwf;have hk12:¬ (x.kind=1∨x.kind=2):=by omega
 have n3:ak (ct 1000000 bs) 3=none:=kl (by omega);have h0:ak (ct 1000000 bs) 1000000=some (.box (.agg [.mref 1000001])):=kj;have h1:ak (ct 1000000 bs) 1000001=some (.cv (dc bs) (eA 1000000 bs.length)):=kR;rcases pP 1000000 bs x.c9 with ⟨hg,hlk⟩ | ⟨i,hi,hg,hno,hlk⟩
 ·have R:=v6 @n3 (v6 @h0 (v6 @h1 (v6 @hlk (v6 @dW (v6 @fM (v6 @dT (v6 @aZ @ab)))))))
  repeat' ((first |(with_reducible refine .guard (fun hb =>?_) (fun hb =>?_) <;>try simp only[hb])|refine J.aT (by decide +kernel) rfl fun K hK =>?_|refine .flat _ (jo _) rfl ?_|(refine .aH [0,1,3,4,5,36] hK ?_;clear hK K)|(with_reducible refine .done (hK _ ?_);clear hK K)|refine J.of rfl ?_|(with_reducible refine aq.aQ (fun h =>?_) (fun h =>?_) <;>try simp only[h])) <;>try simp only[aU,R,simprocAttr])
  all_goals clear R
  exact gj rfl lM (fun n x h=>ft h) (jS (sh hk12 hg))
 ·have hl:=mB (B:=1000000) hi;have hr:=lL (B:=1000000) hi;obtain ⟨nl,hnl⟩:∃ nl,nl=1000000+2+2*i:=⟨_,rfl⟩
  obtain ⟨nr,hnr⟩:∃ nr,nr=1000000+3+2*i:=⟨_,rfl⟩
  rw[←hnl] at hl hlk;rw[←hnr] at hl hr;have e1:(nl=3)=False:=by simp;omega
  have e2:(nr=3)=False:=by simp;omega
  have e3:(3=nl)=False:=by simp;omega
  have e4:(nr=nl)=False:=by simp;omega
  have e5:(nl=nr)=False:=by simp;omega
  have e6:(3=nr)=False:=by simp;omega
  have R:=v6 @n3 (v6 @h0 (v6 @h1 (v6 @hl (v6 @hr (v6 @e1 (v6 @e2 (v6 @e3 (v6 @hlk (v6 @mw (v6 @dW (v6 @fM (v6 @dT (v6 @aZ @ab)))))))))))))
  repeat' ((first |(with_reducible refine .guard (fun hb =>?_) (fun hb =>?_) <;>try simp only[hb])|refine J.aT (by decide +kernel) rfl fun K hK =>?_|refine .flat _ (jo _) rfl ?_|(refine .aH [0,1,3,4,5,36] hK ?_;clear hK K)|(with_reducible refine .done (hK _ ?_);clear hK K)|refine J.of rfl ?_|(with_reducible refine aq.aQ (fun h =>?_) (fun h =>?_) <;>try simp only[h])) <;>try simp only[aU,R,simprocAttr])
  all_goals clear R
  all_goals first
   |exact gj rfl lM (fun n x h=>ft h) (jS (z8 hk12 hg (by simp_all[eT])))
   |exact gj rfl (xf hi (b := { bs[i] with bP:=x.bP }) rfl rfl hnl hnr) (fun n x h=>ft h) (s9 hd hk12 hi hg (by simp_all[eT]) rfl)
theorem Pg(bs:List aB)(x:av)(d:Nat)(hk:x.kind=5)(hd:(bs.map (·.no)).Nodup):cD Tryz.prog 176 [.ptr 1000000 [],enc x] (ct 1000000 bs) (iX 1000000 d bs x):=by
 refine cD.bA Tryz.func176 RU TK VQ (t7 rfl) (t7 rfl) kS (fun hwf W0 D0 E1 =>?_);simp only[Bf,Mc,bp,zz4];clear hwf;have hk12:¬ (x.kind=1∨x.kind=2):=by omega
 have n3:ak (ct 1000000 bs) 3=none:=kl (by omega);have h0:ak (ct 1000000 bs) 1000000=some (.box (.agg [.mref 1000001])):=kj;have h1:ak (ct 1000000 bs) 1000001=some (.cv (dc bs) (eA 1000000 bs.length)):=kR;rcases pP 1000000 bs x.c9 with ⟨hg,hlk⟩ | ⟨i,hi,hg,hno,hlk⟩
 ·have R:=v6 @n3 (v6 @h0 (v6 @h1 (v6 @hlk (v6 @dW (v6 @fM (v6 @dT (v6 @aZ @ab)))))))
  repeat' ((first |(with_reducible refine .guard (fun hb =>?_) (fun hb =>?_) <;>try simp only[hb])|refine J.aT (by decide +kernel) rfl fun K hK =>?_|refine .flat _ (jo _) rfl ?_|(refine .aH [0,1,3,4,5,14] hK ?_;clear hK K)|(with_reducible refine .done (hK _ ?_);clear hK K)|refine J.of rfl ?_|(with_reducible refine aq.aQ (fun h =>?_) (fun h =>?_) <;>try simp only[h])) <;>try simp only[aU,R,simprocAttr])
  all_goals clear R
  exact gj rfl lM (fun n x h=>ft h) (jS (sh hk12 hg))
 ·have hl:=mB (B:=1000000) hi;have hr:=lL (B:=1000000) hi;obtain ⟨nl,hnl⟩:∃ nl,nl=1000000+2+2*i:=⟨_,rfl⟩
  obtain ⟨nr,hnr⟩:∃ nr,nr=1000000+3+2*i:=⟨_,rfl⟩
  rw[←hnl] at hl hlk;rw[←hnr] at hl hr;have e1:(nl=3)=False:=by simp;omega
  have e2:(nr=3)=False:=by simp;omega
  have e3:(3=nl)=False:=by simp;omega
  have e4:(nr=nl)=False:=by simp;omega
  have e5:(nl=nr)=False:=by simp;omega
  have e6:(3=nr)=False:=by simp;omega
  have R:=v6 @n3 (v6 @h0 (v6 @h1 (v6 @hl (v6 @hr (v6 @e1 (v6 @e2 (v6 @e3 (v6 @hlk (v6 @mw (v6 @dW (v6 @fM (v6 @dT (v6 @aZ @ab)))))))))))))
  repeat' ((first |(with_reducible refine .guard (fun hb =>?_) (fun hb =>?_) <;>try simp only[hb])|refine J.aT (by decide +kernel) rfl fun K hK =>?_|refine .flat _ (jo _) rfl ?_|(refine .aH [0,1,3,4,5,14] hK ?_;clear hK K)|(with_reducible refine .done (hK _ ?_);clear hK K)|refine J.of rfl ?_|(with_reducible refine aq.aQ (fun h =>?_) (fun h =>?_) <;>try simp only[h])) <;>try simp only[aU,R,simprocAttr])
  all_goals clear R
  refine gj rfl (fun n h =>?_) (fun n x h=>ft h) (s9 hd hk12 hi hg (b := { bs[i] with bP:=x.bP,found:=true }) (by simp[eT,hk]) rfl);rw[←xf hi (b := { bs[i] with bP:=x.bP,found:=true }) rfl rfl (z:=.box (enc x)) hnl hnr n h];simp only[ak];split <;>rfl
theorem Ph(bs:List aB)(x:av)(d:Nat)(hk:x.kind=6)(hd:(bs.map (·.no)).Nodup):cD Tryz.prog 177 [.ptr 1000000 [],enc x] (ct 1000000 bs) (iX 1000000 d bs x):=by
 refine cD.bA Tryz.func177 RV TL VR (t7 rfl) (t7 rfl) kS (fun hwf W0 D0 E1 =>?_);simp only[Bg,Md,bp,zz4];clear hwf;have hk12:¬ (x.kind=1∨x.kind=2):=by omega
 have n3:ak (ct 1000000 bs) 3=none:=kl (by omega);have h0:ak (ct 1000000 bs) 1000000=some (.box (.agg [.mref 1000001])):=kj;have h1:ak (ct 1000000 bs) 1000001=some (.cv (dc bs) (eA 1000000 bs.length)):=kR;rcases pP 1000000 bs x.c9 with ⟨hg,hlk⟩ | ⟨i,hi,hg,hno,hlk⟩
 ·have R:=v6 @n3 (v6 @h0 (v6 @h1 (v6 @hlk (v6 @dW (v6 @fM (v6 @dT (v6 @aZ @ab)))))))
  repeat' ((first |(with_reducible refine .guard (fun hb =>?_) (fun hb =>?_) <;>try simp only[hb])|refine J.aT (by decide +kernel) rfl fun K hK =>?_|refine .flat _ (jo _) rfl ?_|(refine .aH [0,1,3,4,5,18] hK ?_;clear hK K)|(with_reducible refine .done (hK _ ?_);clear hK K)|refine J.of rfl ?_|(with_reducible refine aq.aQ (fun h =>?_) (fun h =>?_) <;>try simp only[h])) <;>try simp only[aU,R,simprocAttr])
  all_goals clear R
  exact gj rfl lM (fun n x h=>ft h) (jS (sh hk12 hg))
 ·have hl:=mB (B:=1000000) hi;have hr:=lL (B:=1000000) hi;obtain ⟨nl,hnl⟩:∃ nl,nl=1000000+2+2*i:=⟨_,rfl⟩
  obtain ⟨nr,hnr⟩:∃ nr,nr=1000000+3+2*i:=⟨_,rfl⟩
  rw[←hnl] at hl hlk;rw[←hnr] at hl hr;have e1:(nl=3)=False:=by simp;omega
  have e2:(nr=3)=False:=by simp;omega
  have e3:(3=nl)=False:=by simp;omega
  have e4:(nr=nl)=False:=by simp;omega
  have e5:(nl=nr)=False:=by simp;omega
  have e6:(3=nr)=False:=by simp;omega
  have R:=v6 @n3 (v6 @h0 (v6 @h1 (v6 @hl (v6 @hr (v6 @e1 (v6 @e2 (v6 @e3 (v6 @hlk (v6 @mw (v6 @dW (v6 @fM (v6 @dT (v6 @aZ @ab)))))))))))))
  repeat' ((first |(with_reducible refine .guard (fun hb =>?_) (fun hb =>?_) <;>try simp only[hb])|refine J.aT (by decide +kernel) rfl fun K hK =>?_|refine .flat _ (jo _) rfl ?_|(refine .aH [0,1,3,4,5,18] hK ?_;clear hK K)|(with_reducible refine .done (hK _ ?_);clear hK K)|refine J.of rfl ?_|(with_reducible refine aq.aQ (fun h =>?_) (fun h =>?_) <;>try simp only[h])) <;>try simp only[aU,R,simprocAttr])
  all_goals clear R
  all_goals first
   |exact gj rfl lM (fun n x h=>ft h) (jS (z8 hk12 hg (by simp_all[eT])))
   |exact gj rfl (xf hi (b := { bs[i] with cL:=x.day }) rfl rfl hnl hnr) (fun n x h=>ft h) (s9 hd hk12 hi hg (by simp_all[eT]) rfl)
theorem agp{bs:List aB}{i:Nat}(hi:i<bs.length){b:aB}(hno:b.no=(bs[i]).no){z:ai}{nl nr:Nat}(hnl:nl=1000000+2+2*i)(hnr:nr=1000000+3+2*i) :
  ∀ n,al (ct 1000000 (bs.set i b)) n=true→ak ((nl,.box (eD b (.own nr b.cm.length)))::(nr,.bX 66 6 (b.cm.map enc))::(3,z)::ct 1000000 bs) n=ak (ct 1000000 (bs.set i b)) n:=fun n h=>by
 have:=kS n h;rw[Jv hi b hno];simp only[ak];subst hnl hnr;rw[if_neg (show ¬ n=3 by omega)]
theorem Pf(bs:List aB)(x:av)(d:Nat)(hk:x.kind=4)(hd:(bs.map (·.no)).Nodup)(hlen:∀ b∈bs,b.cm.length≤1000):cD Tryz.prog 175 [.ptr 1000000 [],enc x] (ct 1000000 bs) (iX 1000000 d bs x):=by
 refine cD.bA Tryz.func175 RT TJ VP (t7 rfl) (t7 rfl) kS (fun hwf W0 D0 E1 =>?_);simp only[Be,Mb,bp,zz4];clear hwf;have hk12:¬ (x.kind=1∨x.kind=2):=by omega
 have n3:ak (ct 1000000 bs) 3=none:=kl (by omega);have h0:ak (ct 1000000 bs) 1000000=some (.box (.agg [.mref 1000001])):=kj;have h1:ak (ct 1000000 bs) 1000001=some (.cv (dc bs) (eA 1000000 bs.length)):=kR;rcases pP 1000000 bs x.c9 with ⟨hg,hlk⟩ | ⟨i,hi,hg,hno,hlk⟩
 ·have R:=v6 @n3 (v6 @h0 (v6 @h1 (v6 @hlk (v6 @dW (v6 @fM (v6 @dT (v6 @aZ @ab)))))))
  repeat' ((first |(with_reducible refine .guard (fun hb =>?_) (fun hb =>?_) <;>try simp only[hb])|refine J.aT (by decide +kernel) rfl fun K hK =>?_|refine .flat _ (jo _) rfl ?_|(refine .aH [0,1,3,4,5,14] hK ?_;clear hK K)|(with_reducible refine .done (hK _ ?_);clear hK K)|refine J.of rfl ?_|(with_reducible refine aq.aQ (fun h =>?_) (fun h =>?_) <;>try simp only[h])) <;>try simp only[aU,R,simprocAttr])
  all_goals clear R
  exact gj rfl lM (fun n x h=>ft h) (jS (sh hk12 hg))
 ·have hl:=mB (B:=1000000) hi;have hr:=lL (B:=1000000) hi;obtain ⟨nl,hnl⟩:∃ nl,nl=1000000+2+2*i:=⟨_,rfl⟩
  obtain ⟨nr,hnr⟩:∃ nr,nr=1000000+3+2*i:=⟨_,rfl⟩
  rw[←hnl] at hl hlk;rw[←hnr] at hl hr;have e1:(nl=3)=False:=by simp;omega
  have e2:(nr=3)=False:=by simp;omega
  have e3:(3=nl)=False:=by simp;omega
  have e4:(nr=nl)=False:=by simp;omega
  have e5:(nl=nr)=False:=by simp;omega
  have e6:(3=nr)=False:=by simp;omega
  have hle:=hlen _ (zy9 hi);have happ:=fun (A:ae) d rest=>m7 (α:=aR 6 Int) (A:=A) (d:=d) 66 6 48 nr (l:=(bs[i]).cm.length) (es:=(bs[i]).cm) (ys:=[x.cm]) (rest:=rest) rfl rfl (by simp) (by simp[maxLen];omega) (by simp;omega);have hbs:=qD 6 x.cm rfl;have R:=v6 @n3 (v6 @h0 (v6 @h1 (v6 @hl (v6 @hr (v6 @e1 (v6 @e2 (v6 @e3 (v6 @e4 (v6 @e5 (v6 @e6 (v6 @hlk (v6 @happ (v6 @hbs (v6 @mw (v6 @dW (v6 @fM (v6 @dT (v6 @aZ @ab))))))))))))))))))
  repeat' ((first |(with_reducible refine .guard (fun hb =>?_) (fun hb =>?_) <;>try simp only[hb])|refine J.aT (by decide +kernel) rfl fun K hK =>?_|(refine J.ua (gs:=wy) [] [] [0,1,2,3,4,5,6,7,8,9,10,11,12,13] (by decide +kernel) (fh.of (by simp[pJ])) fun K hK =>?_;simp only[p9,wy,List.getD_cons_zero,List.getD_cons_succ,R,simprocAttr])|(refine .aH [0,1,3,4,5,14] hK ?_;clear hK K)|(with_reducible refine .done (hK _ ?_);clear hK K)|refine J.of rfl ?_|(with_reducible refine aq.aQ (fun h =>?_) (fun h =>?_) <;>try simp only[h])) <;>try simp only[aU,R,simprocAttr])
  all_goals clear R
  refine gj rfl (fun n h =>?_) (fun n x h=>ft h) (s9 hd hk12 hi hg (b := { bs[i] with cm:=(bs[i]).cm++[x.cm] }) (by simp[eT,hk]) rfl);rw[←agp hi (b := { bs[i] with cm:=(bs[i]).cm++[x.cm] }) rfl (z:=.box (enc x)) hnl hnr n h];rfl
def gG(B d:Nat)(bs:List aB)(b:aB):List (Nat×ai):=(B+1,.cv (dc (bs++[b])) (eA B bs.length++[.ptr d []]))::(d,.box (eD b (.nils 6)))::ct B bs
theorem s8{B d:Nat}{bs:List aB}{x:av}(hk:x.kind=1∨x.kind=2)(hg:cW bs x.c9=none)(hdam:hX bs x=true):iX B d bs x (.bool true) (gG B d bs (eY x)):=by
 have:ea ev bs x=some (bs++[eY x]):=by simp only[ea,if_pos hk,hg,hdam,ev,and_self,if_true]
 simp only[iX,this,if_pos hk,gG,and_self]
def Js(B d:Nat)(bs:List aB)(x:av):cT:=fun r os' =>
 (cW bs x.c9≠none∧r=.bool false∧os'=ct B bs)∨(cW bs x.c9=none∧r=.bool true∧os'=gG B d bs (eY x))
theorem QW(a b c d e f g:Int):(dX [.int .i64 0,.int .i64 0,.int .i64 0,.int .i64 0,.int .i64 0,.int .i64 0,.int .i64 0,.bool false,.nils 6] [(0,.int .i64 a),(1,.int .i64 b),(2,.int .i64 c),(3,.int .i64 d),(4,.int .i64 e),(5,.int .i64 f),(6,.int .i64 g)]).map I.agg=some (I.agg [.int .i64 a,.int .i64 b,.int .i64 c,.int .i64 d,.int .i64 e,.int .i64 f,.int .i64 g,.bool false,.nils 6]):=by
 simp[dX,I.b8,I.size]
theorem QX(a b c d e f g:Int):(dX [.agg [.int .i64 0,.int .i64 0,.int .i64 0,.int .i64 0,.int .i64 0,.int .i64 0,.int .i64 0,.bool false,.nils 6]] [(0,.agg [.int .i64 a,.int .i64 b,.int .i64 c,.int .i64 d,.int .i64 e,.int .i64 f,.int .i64 g,.bool false,.nils 6])]).map I.agg=some (eD ⟨a,b,c,d,e,f,g,false,[]⟩ (.nils 6)):=by
 simp[dX,I.b8,I.size,I.sizes];rfl
theorem agB(b:aB)(s:I):(eD b s).b8=true:=rfl
theorem ahv(B d:Nat)(bs:List aB)(x:av)(hg:cW bs x.c9=none):gh (.i .i64) (.int .i64 x.c9) (.ptr d []) (dc bs) (eA B bs.length)=some (dc (bs++[eY x]),eA B bs.length++[.ptr d []]):=by
 have h2:=Km pA x.c9 (.ptr d []) rfl (bs.map (·.no)) (eA B bs.length);rw[gT] at h2;unfold dc;rw[h2];have h1:=wT (bs:=bs) (no:=x.c9);cases h:(bs.map (·.no)).findIdx? fun y=>decide (x.c9=y) with
 |none=>simp only[zx6,zz9,zx1];rfl
 |some i=>rw[h] at h1;obtain ⟨hi,g,_⟩:=h1;rw[hg] at g;cases g
theorem nt{B d:Nat}{bs:List aB}{b:aB}{n:Nat} : al (gG B d bs b) n=(decide (n=d)||al (ct B bs) n):=by
 by_cases h1:n=B+1
 ·subst h1;have:al (ct B bs) (B+1)=true:=by simp[al,kR]
  rw[this];simp[gG,al,ak]
 ·by_cases h2:n=d
  ·subst h2;simp[gG,al,ak,h1]
  ·simp[gG,al,ak,h1,h2]
theorem nu{B d:Nat}{bs:List aB}{b:aB}{n:Nat}{x:ai}(h:ak (gG B d bs b) n=some x):x.only (al (gG B d bs b))=true∧x.eG=true:=by
 have cO:∀ m,al (ct B bs) m=true→al (gG B d bs b) m=true:=fun m hm=>by rw[nt,hm,Bool.or_true]
 simp only[gG,ak] at h;split at h
 ·cases h;refine ⟨?_,rfl⟩;simp only[ai.only,zz2,gz];refine ⟨ej _ _,yf _ fun i hi=>cO _ (by rw[nv];simp;omega),?_⟩;simp[I.bU,I.only,nt]
 ·split at h
  ·cases h;exact ⟨by simp[ai.only,I.only,I.bU,eD],rfl⟩
  ·obtain ⟨k1,k2⟩:=ft h;exact ⟨ai.jd cO _ k1,k2⟩
theorem r2(bs:List aB)(x:av):cD Tryz.prog 173 [.ptr 1000000 [],enc x] (ct 1000000 bs) (Js 1000000 33 bs x):=by
 refine cD.bA Tryz.func173 RR TH VN (t7 rfl) (t7 rfl) kS (fun hwf W0 D0 E1 =>?_);simp only[Bc,L9,bp,zz4];clear hwf;have n3:ak (ct 1000000 bs) 3=none:=kl (by omega);have n33:ak (ct 1000000 bs) 33=none:=kl (by omega);have h0:ak (ct 1000000 bs) 1000000=some (.box (.agg [.mref 1000001])):=kj;have h1:ak (ct 1000000 bs) 1000001=some (.cv (dc bs) (eA 1000000 bs.length)):=kR;rcases pP 1000000 bs x.c9 with ⟨hg,hlk⟩ | ⟨i,hi,hg,hno,hlk⟩
 ·have hup:=ahv 1000000 33 bs x hg;have R:=v6 @n3 (v6 @n33 (v6 @h0 (v6 @h1 (v6 @hlk (v6 @hup (v6 @QW (v6 @QX (v6 @agB (v6 @dW (v6 @fM (v6 @dT (v6 @aZ @ab))))))))))))
  repeat' ((first |(with_reducible refine .guard (fun hb =>?_) (fun hb =>?_) <;>try simp only[hb])|refine J.aT (by decide +kernel) rfl fun K hK =>?_|(refine .aH [0,1,3,4,12] hK ?_;clear hK K)|(with_reducible refine .done (hK _ ?_);clear hK K)|refine J.of rfl ?_|(with_reducible refine aq.aQ (fun h =>?_) (fun h =>?_) <;>try simp only[h])) <;>try simp only[aU,R,simprocAttr])
  all_goals clear R
  refine gj (os':=gG 1000000 33 bs (eY x)) (b:=true) rfl (fun n h =>?_) (fun n x h=>nu h) (Or.inr ⟨hg,rfl,rfl⟩);rw[nt] at h;simp only[gG,ak];by_cases e:n=33
  ·subst e;simp;rfl
  ·have:=kS n (by simpa[e] using h);rw[if_neg (show ¬ n=33 by omega),if_neg (show ¬ n=3 by omega),if_neg (show ¬ n=33 by omega)]
 ·have R:=v6 @n3 (v6 @h0 (v6 @h1 (v6 @hlk (v6 @dW (v6 @fM (v6 @dT (v6 @aZ @ab)))))))
  repeat' ((first |(with_reducible refine .guard (fun hb =>?_) (fun hb =>?_) <;>try simp only[hb])|refine J.aT (by decide +kernel) rfl fun K hK =>?_|(refine .aH [0,1,3,4,12] hK ?_;clear hK K)|(with_reducible refine .done (hK _ ?_);clear hK K)|refine J.of rfl ?_|(with_reducible refine aq.aQ (fun h =>?_) (fun h =>?_) <;>try simp only[h])) <;>try simp only[aU,R,simprocAttr])
  all_goals clear R
  exact gj (b:=false) rfl lM (fun n x h=>ft h) (Or.inl ⟨by rw[hg];simp,rfl,rfl⟩)
theorem bj.xd{K:ae→Prop}{f:FuncId}{x:av}{avs:List I}{a1 a2:Option (List I)}{dst:Option Nat}{rest:List az}{ts:List (Nat×I)}{z:ai}{bs:List aB}(hc:cD Tryz.prog f [.ptr 1000000 [],enc x] (ct 1000000 bs) (Js 1000000 33 bs x))(hav:avs=[.ptr 1000000 [],enc x])
  (h1:cW bs x.c9≠none→bj Tryz.prog iE false K (ay rest ((au ts (ct 1000000 bs++((3,z)::ct 1000000 bs))).aN dst (.bool false))))
  (h2:cW bs x.c9=none→bj Tryz.prog iE false K (ay rest ((au ts (gG 1000000 33 bs (eY x)++((3,z)::ct 1000000 bs))).aN dst (.bool true)))) :
  bj Tryz.prog iE false K (.call f avs a1 a2 dst rest (au ts ((3,z)::ct 1000000 bs))):=by
 subst hav;refine .bT false [] (ct 1000000 bs) [.ptr 1000000 [],enc x] _ rfl hc ⟨fun m y hy =>?_,fun m m' _ _ h=>h⟩ ⟨.inl ⟨?_,?_,rfl⟩,.inl ⟨(kg _ _).symm,bt _ _,dO _⟩,trivial⟩ ?_ ?_
 ·have hm:=kS (bs:=bs) m (by simp[al,hy]);rw[ai.lX (ρ:=bx []) (fun n=>rfl)];refine ⟨?_,ft hy⟩
  show ak ((3,z)::ct 1000000 bs) m=some y
  have h3:¬ m=3:=by omega
  simp only[ak,if_neg h3];exact hy
 ·simp only[I.aK,bx]
 ·simp only[I.only];simp[al,kj]
 ·rintro r os' (⟨_,rfl,rfl⟩ | ⟨_,rfl,rfl⟩)
  ·exact ⟨fun m y hy=>⟨(ft hy).1,(ft hy).2,fun h=>by cases h⟩,fun m m' _ _ h=>h,fun m hm=>hm,(fun m a b=>by rw[a] at b;cases b),rfl,(fun h=>by cases h)⟩
  ·refine ⟨fun m y hy=>⟨(nu hy).1,(nu hy).2,fun h=>by cases h⟩,fun m m' _ _ h=>h,fun m hm=>by rw[nt,hm,Bool.or_true],fun m a b =>?_,rfl,fun h=>by cases h⟩;rw[nt,b,Bool.or_false,decide_eq_true_eq] at a;subst a;have h3:¬ (33:Nat)=3:=by omega
   refine ⟨?_,by simp[bx]⟩
   show ak ((3,z)::ct 1000000 bs) 33=none
   simp only[ak,if_neg h3];exact kl (by omega)
 ·rintro r os' (⟨hg,rfl,rfl⟩ | ⟨hg,rfl,rfl⟩)
  ·rw[ub];exact h1 hg
  ·rw[ub];exact h2 hg
theorem pg{os os0:List (Nat×ai)} : ∀ n,al os n=true→ak (os++os0) n=ak os n:=fun n h=>by
 rw[km];cases hx:ak os n with
 |none=>simp[al,hx] at h
 |some y=>rfl
theorem Pd(bs:List aB)(x:av)(hk:x.kind=1):cD Tryz.prog 172 [.ptr 1000000 [],enc x] (ct 1000000 bs) (iX 1000000 33 bs x):=by
 refine cD.bA Tryz.func172 RQ TG VM (t7 rfl) (t7 rfl) kS (fun hwf W0 D0 E1 =>?_);simp only[Bb,L8,bp,zz4];clear hwf;have n3:ak (ct 1000000 bs) 3=none:=kl (by omega);have h0:ak (ct 1000000 bs) 1000000=some (.box (.agg [.mref 1000001])):=kj;have h1:ak (ct 1000000 bs) 1000001=some (.cv (dc bs) (eA 1000000 bs.length)):=kR;by_cases hd0:x.cz≤0
 ·have hc:decide (0<x.cz)=false:=by simp;omega
  have hdam:hX bs x=true:=by simp[hX,hd0]
  have R:=v6 @n3 (v6 @h0 (v6 @h1 (v6 @hc (v6 @dW (v6 @fM (v6 @dT (v6 @aZ @ab)))))))
  repeat' ((first |(with_reducible refine .guard (fun hb =>?_) (fun hb =>?_) <;>try simp only[hb])|refine J.aT (by decide +kernel) rfl fun K hK =>?_|(refine .aH [0,1,3,4,5,8,41] hK ?_;clear hK K)|(with_reducible refine .done (hK _ ?_);clear hK K)|refine J.of rfl ?_|(with_reducible refine aq.aQ (fun h =>?_) (fun h =>?_) <;>try simp only[h])) <;>try simp only[aU,R,simprocAttr])
  all_goals clear R
  refine bj.xd (r2 bs x) rfl (fun hg =>?_) (fun hg =>?_)
  ·try simp only[ab,simprocAttr]
   refine .done (hK _ ?_);clear hK K;refine J.ret ?_;simp only[fI];exact gj (b:=false) rfl pg (fun n x h=>ft h) (jS (by simp[ea,hk,hg]))
  ·try simp only[ab,simprocAttr]
   refine .done (hK _ ?_);clear hK K;refine J.ret ?_;simp only[fI];exact gj (b:=true) rfl pg (fun n x h=>nu h) (s8 (.inl hk) hg hdam)
 have hc:decide (0<x.cz)=true:=by simp;omega
 rcases pP 1000000 bs x.cz with ⟨hg,hlk⟩ | ⟨i,hi,hg,hno,hlk⟩
 ·have hdam:hX bs x=false:=by simp[hX,hg];omega
  have R:=v6 @n3 (v6 @h0 (v6 @h1 (v6 @hc (v6 @hlk (v6 @dW (v6 @fM (v6 @dT (v6 @aZ @ab))))))))
  repeat' ((first |(with_reducible refine .guard (fun hb =>?_) (fun hb =>?_) <;>try simp only[hb])|refine J.aT (by decide +kernel) rfl fun K hK =>?_|(refine .aH [0,1,3,4,5,8,41] hK ?_;clear hK K)|(with_reducible refine .done (hK _ ?_);clear hK K)|refine J.of rfl ?_|(with_reducible refine aq.aQ (fun h =>?_) (fun h =>?_) <;>try simp only[h])) <;>try simp only[aU,R,simprocAttr])
  all_goals clear R
  exact gj (b:=false) rfl lM (fun n x h=>ft h) (jS (by simp[ea,hk,hdam]))
 ·have hl:=mB (B:=1000000) hi;have hr:=lL (B:=1000000) hi;obtain ⟨nl,hnl⟩:∃ nl,nl=1000000+2+2*i:=⟨_,rfl⟩
  obtain ⟨nr,hnr⟩:∃ nr,nr=1000000+3+2*i:=⟨_,rfl⟩
  rw[←hnl] at hl hlk;rw[←hnr] at hl hr;have e1:(nl=3)=False:=by simp;omega
  have e2:(nr=3)=False:=by simp;omega
  cases hs:(bs[i]).cM != x.cM with
  |true =>
   have hdam:hX bs x=false:=by simp at hs;simp[hX,hg,hs];omega
   have R:=v6 @n3 (v6 @h0 (v6 @h1 (v6 @hl (v6 @hr (v6 @e1 (v6 @e2 (v6 @hc (v6 @hlk (v6 @hs (v6 @mw (v6 @dW (v6 @fM (v6 @dT (v6 @aZ @ab))))))))))))))
   repeat' ((first |(with_reducible refine .guard (fun hb =>?_) (fun hb =>?_) <;>try simp only[hb])|refine J.aT (by decide +kernel) rfl fun K hK =>?_|refine .flat _ (jo _) rfl ?_|(refine .aH [0,1,3,4,5,8,41] hK ?_;clear hK K)|(with_reducible refine .done (hK _ ?_);clear hK K)|refine J.of rfl ?_|(with_reducible refine aq.aQ (fun h =>?_) (fun h =>?_) <;>try simp only[h])) <;>try simp only[aU,R,simprocAttr])
   all_goals clear R
   exact gj (b:=false) rfl lM (fun n x h=>ft h) (jS (by simp[ea,hk,hdam]))
  |false =>
   cases hdd:decide (0≤(bs[i]).cL) with
   |false =>
    have hdam:hX bs x=true:=by simp at hs hdd;simp[hX,hg,hs];omega
    have R:=v6 @n3 (v6 @h0 (v6 @h1 (v6 @hl (v6 @hr (v6 @e1 (v6 @e2 (v6 @hc (v6 @hlk (v6 @hs (v6 @hdd (v6 @mw (v6 @dW (v6 @fM (v6 @dT (v6 @aZ @ab)))))))))))))))
    repeat' ((first |(with_reducible refine .guard (fun hb =>?_) (fun hb =>?_) <;>try simp only[hb])|refine J.aT (by decide +kernel) rfl fun K hK =>?_|refine .flat _ (jo _) rfl ?_|(refine .aH [0,1,3,4,5,8,41] hK ?_;clear hK K)|(with_reducible refine .done (hK _ ?_);clear hK K)|refine J.of rfl ?_|(with_reducible refine aq.aQ (fun h =>?_) (fun h =>?_) <;>try simp only[h])) <;>try simp only[aU,R,simprocAttr])
    all_goals clear R
    refine bj.xd (r2 bs x) rfl (fun hg =>?_) (fun hg =>?_)
    ·try simp only[ab,simprocAttr]
     refine .done (hK _ ?_);clear hK K;refine J.ret ?_;simp only[fI];exact gj (b:=false) rfl pg (fun n x h=>ft h) (jS (by simp[ea,hk,hg]))
    ·try simp only[ab,simprocAttr]
     refine .done (hK _ ?_);clear hK K;refine J.ret ?_;simp only[fI];exact gj (b:=true) rfl pg (fun n x h=>nu h) (s8 (.inl hk) hg hdam)
   |true =>
    cases hdy:decide ((bs[i]).cL<x.day) with
    |true =>
     have hdam:hX bs x=false:=by simp at hs hdd hdy;simp[hX,hg,hs];omega
     have R:=v6 @n3 (v6 @h0 (v6 @h1 (v6 @hl (v6 @hr (v6 @e1 (v6 @e2 (v6 @hc (v6 @hlk (v6 @hs (v6 @hdd (v6 @hdy (v6 @mw (v6 @dW (v6 @fM (v6 @dT (v6 @aZ @ab))))))))))))))))
     repeat' ((first |(with_reducible refine .guard (fun hb =>?_) (fun hb =>?_) <;>try simp only[hb])|refine J.aT (by decide +kernel) rfl fun K hK =>?_|refine .flat _ (jo _) rfl ?_|(refine .aH [0,1,3,4,5,8,41] hK ?_;clear hK K)|(with_reducible refine .done (hK _ ?_);clear hK K)|refine J.of rfl ?_|(with_reducible refine aq.aQ (fun h =>?_) (fun h =>?_) <;>try simp only[h])) <;>try simp only[aU,R,simprocAttr])
     all_goals clear R
     exact gj (b:=false) rfl lM (fun n x h=>ft h) (jS (by simp[ea,hk,hdam]))
    |false =>
     have hdam:hX bs x=true:=by simp at hs hdd hdy;simp[hX,hg,hs];omega
     have R:=v6 @n3 (v6 @h0 (v6 @h1 (v6 @hl (v6 @hr (v6 @e1 (v6 @e2 (v6 @hc (v6 @hlk (v6 @hs (v6 @hdd (v6 @hdy (v6 @mw (v6 @dW (v6 @fM (v6 @dT (v6 @aZ @ab))))))))))))))))
     repeat' ((first |(with_reducible refine .guard (fun hb =>?_) (fun hb =>?_) <;>try simp only[hb])|refine J.aT (by decide +kernel) rfl fun K hK =>?_|refine .flat _ (jo _) rfl ?_|(refine .aH [0,1,3,4,5,8,41] hK ?_;clear hK K)|(with_reducible refine .done (hK _ ?_);clear hK K)|refine J.of rfl ?_|(with_reducible refine aq.aQ (fun h =>?_) (fun h =>?_) <;>try simp only[h])) <;>try simp only[aU,R,simprocAttr])
     all_goals clear R
     refine bj.xd (r2 bs x) rfl (fun hg =>?_) (fun hg =>?_)
     ·try simp only[ab,simprocAttr]
      refine .done (hK _ ?_);clear hK K;refine J.ret ?_;simp only[fI];exact gj (b:=false) rfl pg (fun n x h=>ft h) (jS (by simp[ea,hk,hg]))
     ·try simp only[ab,simprocAttr]
      refine .done (hK _ ?_);clear hK K;refine J.ret ?_;simp only[fI];exact gj (b:=true) rfl pg (fun n x h=>nu h) (s8 (.inl hk) hg hdam)
def kK:I:=.cI [.int .i64 1,.int .i64 2,.int .i64 3,.int .i64 4,.int .i64 5,.int .i64 6] [.func 172 [],.func 173 [],.func 174 [],.func 175 [],.func 176 [],.func 177 []]
theorem ahp:gh (.i .i64) (.int .i64 1) (.func 172 []) [] []=some ([.int .i64 1],[.func 172 []]):=by simp[gh,e8,cq,I.b8]
theorem ahq:gh (.i .i64) (.int .i64 2) (.func 173 []) [.int .i64 1] [.func 172 []]=some ([.int .i64 1,.int .i64 2],[.func 172 [],.func 173 []]):=by simp[gh,e8,cq,I.b8]
theorem ahr:gh (.i .i64) (.int .i64 3) (.func 174 []) [.int .i64 1,.int .i64 2] [.func 172 [],.func 173 []]=some ([.int .i64 1,.int .i64 2,.int .i64 3],[.func 172 [],.func 173 [],.func 174 []]):=by simp[gh,e8,cq,I.b8]
theorem ahs:gh (.i .i64) (.int .i64 4) (.func 175 []) [.int .i64 1,.int .i64 2,.int .i64 3] [.func 172 [],.func 173 [],.func 174 []]=some ([.int .i64 1,.int .i64 2,.int .i64 3,.int .i64 4],[.func 172 [],.func 173 [],.func 174 [],.func 175 []]):=by simp[gh,e8,cq,I.b8]
theorem aht:gh (.i .i64) (.int .i64 5) (.func 176 []) [.int .i64 1,.int .i64 2,.int .i64 3,.int .i64 4] [.func 172 [],.func 173 [],.func 174 [],.func 175 []]=some ([.int .i64 1,.int .i64 2,.int .i64 3,.int .i64 4,.int .i64 5],[.func 172 [],.func 173 [],.func 174 [],.func 175 [],.func 176 []]):=by simp[gh,e8,cq,I.b8]
theorem ahu:gh (.i .i64) (.int .i64 6) (.func 177 []) [.int .i64 1,.int .i64 2,.int .i64 3,.int .i64 4,.int .i64 5] [.func 172 [],.func 173 [],.func 174 [],.func 175 [],.func 176 []]=some ([.int .i64 1,.int .i64 2,.int .i64 3,.int .i64 4,.int .i64 5,.int .i64 6],[.func 172 [],.func 173 [],.func 174 [],.func 175 [],.func 176 [],.func 177 []]):=by simp[gh,e8,cq,I.b8]
theorem zl:aD Tryz.prog 139 [] kK:=by
 refine aD.bA Tryz.func139 Ru Ti Vp (t7 rfl) (fun hwf W0 D0 E1 =>?_);simp only[AM,LK,bp];refine .ao (by decide +kernel) fun K hK =>?_;simp only[EI,ab,simprocAttr];refine .done (hK _ ?_);clear hK K;refine .ao (by decide +kernel) fun K hK =>?_;simp only[EJ,ab,simprocAttr]
 try simp only[dT,ahp,ahq,ahr,ahs,aht,ahu,ab,simprocAttr]
 refine .done (hK _ ?_);clear hK K;refine J.ret ?_;simp only[ab,simprocAttr];simp[kK,a7,au,cu,dK,fy,I.bW,I.bn,lA,nL];rfl
def ec(bs:List aB):List (Nat×ai):=(43,.box (.agg [.mref 41]))::(41,.cv (dc bs) (eA 2000 bs.length))::eX 2000 0 bs
def nq(bs:List aB)(b:aB):List (Nat×ai):=(41,.cv (dc (bs++[b])) (eA 2000 bs.length++[.ptr (2002+2*bs.length) []]))::(2002+2*bs.length,.box (eD b (.nils 6)))::ec bs
def gA(n:Nat):List (Nat×Nat):=(33,2002+2*n)::(1000000,43)::(1000001,41)::(List.range' 0 200).map fun j=>(1000002+j,2002+j)
theorem Nx(m:Nat):∀ k a,bx ((List.range' a k).map fun j=>(1000002+j,2002+j)) m=if 1000002+a≤m∧m<1000002+a+k then m-998000 else m
 |0,a=>by
  rw[if_neg (by omega)];rfl
 |k+1,a=>by
  rw[List.range'_succ,zz9,bx,Nx m k (a+1)];by_cases h:m=1000002+a
  ·rw[if_pos h,if_pos (by omega)];omega
  ·rw[if_neg h];by_cases h2:1000002+(a+1)≤m∧m<1000002+(a+1)+k
   ·rw[if_pos h2,if_pos (by omega)]
   ·rw[if_neg h2,if_neg (by omega)]
theorem lY(n m:Nat):bx (gA n) m=if m=33 then 2002+2*n else if m=1000000 then 43 else if m=1000001 then 41 else if 1000002≤m∧m<1000202 then m-998000 else m:=by
 simp only[gA,bx,Nx]
theorem Nw{n i:Nat}(h:i≤80):bx (gA n) (1000000+2+2*i)=2000+2+2*i:=by
 rw[lY,if_neg (by omega),if_neg (by omega),if_neg (by omega),if_pos (by omega)];omega
theorem ajD{n i:Nat}(h:i≤80):bx (gA n) (1000000+3+2*i)=2000+3+2*i:=by
 rw[lY,if_neg (by omega),if_neg (by omega),if_neg (by omega),if_pos (by omega)];omega
theorem Nt(n:Nat):bx (gA n) 1000000=43:=by rw[lY];rfl
theorem Nu(n:Nat):bx (gA n) 1000001=41:=by rw[lY];rfl
theorem Nv(n:Nat):bx (gA n) 33=2002+2*n:=by rw[lY];rfl
theorem yz(ρ:List (Nat×Nat))(k:Nat)(v:ai)(os:List (Nat×ai)):dH ρ ((k,v)::os)=(bx ρ k,v.aK (bx ρ))::dH ρ os:=rfl
theorem Nj(n:Nat):∀ (bs:List aB) (i:Nat),i+bs.length≤80→dH (gA n) (eX 1000000 i bs)=eX 2000 i bs
 | [],_,_=>rfl
 |b::bs,i,h=>by
  simp only[List.length_cons] at h;have ih:=Nj n bs (i+1) (by omega);simp only[eX,yz,ih,Nw (n:=n) (i:=i) (by omega),ajD (n:=n) (i:=i) (by omega),ai.aK,gM,eD,I.aK,I.cJ]
theorem Nl(n:Nat){k:Nat}(h:k≤80):I.cJ (bx (gA n)) (eA 1000000 k)=eA 2000 k:=by
 simp only[eA,oM,List.map_map];refine List.map_congr_left fun i hi =>?_;have:=zx5.1 hi;simp only[Function.comp,I.aK,Nw (n:=n) (i:=i) (by omega)]
theorem Nk(ρ:Nat→Nat)(bs:List aB):I.cJ ρ (dc bs)=dc bs:=by
 simp only[dc,gM]
theorem uc(n:Nat){bs:List aB}(h:bs.length≤80):dH (gA n) (ct 1000000 bs)=ec bs:=by
 have h1:=Nj n bs 0 (by omega);simp only[ct,ec,yz,h1,ai.aK,I.aK,I.cJ,Nk,Nl n h,Nt,Nu,Nat.reduceAdd]
theorem ajs(ρ:Nat→Nat)(xs ys:List I):I.cJ ρ (xs++ys)=I.cJ ρ xs++I.cJ ρ ys:=by simp only[oM,zx6]
theorem ajq{bs:List aB}{b:aB}(h:bs.length≤80):dH (gA bs.length) (gG 1000000 33 bs b)=nq bs b:=by
 have h1:=uc bs.length h;simp only[gG,nq,yz,h1,ai.aK,I.aK,I.cJ,Nk,ajs,Nl bs.length h,Nu,Nv,eD,Nat.reduceAdd]
def tz(n m:Nat):Prop:=m=33∨(1000000≤m∧m<1000002+2*n)
theorem uh{n k m m':Nat}(hk:k≤80)(hm:1000000≤m∧m<1000002+2*k)(hm':1000000≤m'∧m'<1000002+2*k)(h:bx (gA n) m=bx (gA n) m'):m=m':=by
 rw[lY,lY] at h;rw[if_neg (by omega),if_neg (show ¬ m'=33 by omega)] at h
 (repeat' split at h) <;>omega
theorem ajC{n m m':Nat}(hk:n≤80)(hm:tz n m)(hm':tz n m')(h:bx (gA n) m=bx (gA n) m'):m=m':=by
 simp only[tz] at hm hm';rw[lY,lY] at h
 (repeat' split at h) <;>omega
theorem ag5{ρ:List (Nat×Nat)}{os:List (Nat×ai)}{m:Nat}{y:ai}(inj:∀ m',al os m'=true→bx ρ m'=bx ρ m→m'=m)(h:ak os m=some y):ak (dH ρ os) (bx ρ m)=some (y.aK (bx ρ)):=by
 have h1:=rm ρ os [] (bx ρ m);rw[zx8] at h1;rw[h1];cases hp:pre ρ os (bx ρ m) with
 |none=>exact absurd rfl (yj hp (by simp[al,h]))
 |some m' =>
  obtain ⟨k1,k2⟩:=lW hp;have:=inj m' k1 k2;subst this;simp only[h,zy4]
theorem xe{bs:List aB}{n:Nat} : al (ec bs) n=decide (n=43∨n=41∨(2002≤n∧n<2002+2*bs.length)):=by
 have h2:al (eX 2000 0 bs) n=decide (2002≤n∧n<2002+2*bs.length):=by
  by_cases h1:n<2002
  ·simp only[al,tf 2000 bs 0 n (by omega)];simp;omega
  by_cases h3:2002+2*bs.length≤n
  ·simp only[al,td 2000 bs 0 n (by omega)];simp;omega
  ·rcases tw 2000 n bs.length with h | h | h | ⟨k,hk,h⟩ | ⟨k,hk,h⟩ | h
   ·omega
   ·omega
   ·omega
   ·have:=te 2000 bs 0 k hk;rw[zz4] at this;rw[h];simp only[al,this];simp;omega
   ·have:=tg 2000 bs 0 k hk;rw[zz4] at this;rw[h];simp only[al,this];simp;omega
   ·omega
 simp only[al,ec,ak] at h2 ⊢;by_cases h3:n=43
 ·simp[h3]
 by_cases h4:n=41
 ·simp[h4]
 simp only[h3,h4,if_false,h2,false_or]
theorem cD.post{P:Program}{f:FuncId}{args:List I}{os:List (Nat×ai)}{post post':cT}(h:cD P f args os post)(hp:∀ r os',post r os'→post' r os'):cD P f args os post' :=
 ⟨h.1,fun w D E vs hs hD ho hv=>(h.2 w D E vs hs hD ho hv).mono fun _ _ ⟨v,D',E',r,os',k1,k2,k⟩=>⟨v,D',E',r,os',k1,hp _ _ k2,k⟩⟩
def nf:List I:=[.int .i64 1,.int .i64 2,.int .i64 3,.int .i64 4,.int .i64 5,.int .i64 6]
def ng:List I:=[.func 172 [],.func 173 [],.func 174 [],.func 175 [],.func 176 [],.func 177 []]
theorem agF{x:av}(h:gi x=true):0≤x.kind∧x.kind≤6∧(x.kind=2→x.cz=0):=by
 simp only[gi,zz2,decide_eq_true_eq] at h;obtain ⟨h1,h2,_⟩:=h;have h3:x.kind=2→x.cz=0:=fun hk=>by rw[h2];simp[iQ,hk]
 simp only[oc] at h1;refine ⟨?_,?_,h3⟩
 all_goals
  split at h1
  ·omega
  ·simp only[zz2] at h1;obtain ⟨-,h1⟩:=h1
   repeat' split at h1
   all_goals first | omega | (simp only[decide_eq_true_eq] at h1;omega)
theorem vt{bs:List aB}{x:av}(hok:gi x=true)(hk0:x.kind≠0)(hd:(bs.map (·.no)).Nodup)(hlen:∀ b∈bs,b.cm.length≤1000) :
  ∃ f,gq (.i .i64) .df (.int .i64 x.kind) nf ng=some (.func f [],true)∧[172,173,174,175,176,177].contains f=true∧cD Tryz.prog f [.ptr 1000000 [],enc x] (ct 1000000 bs) (iX 1000000 33 bs x):=by
 obtain ⟨h1,h2,h3⟩:=agF hok;have h4:x.kind=1∨x.kind=2∨x.kind=3∨x.kind=4∨x.kind=5∨x.kind=6:=by omega
 rcases h4 with h | h | h | h | h | h
 ·exact ⟨172,by rw[h];simp[gq,e8,cq,nf,ng],rfl,Pd bs x h⟩
 ·refine ⟨173,by rw[h];simp[gq,e8,cq,nf,ng],rfl,cD.post (r2 bs x) ?_⟩;have hdam:hX bs x=true:=by simp[hX,h3 h]
  rintro r os' (⟨k1,rfl,rfl⟩ | ⟨k1,rfl,rfl⟩)
  ·exact jS (by simp[ea,h,k1])
  ·exact s8 (.inr h) k1 hdam
 ·exact ⟨174,by rw[h];simp[gq,e8,cq,nf,ng],rfl,Pe bs x 33 h hd⟩
 ·exact ⟨175,by rw[h];simp[gq,e8,cq,nf,ng],rfl,Pf bs x 33 h hd hlen⟩
 ·exact ⟨176,by rw[h];simp[gq,e8,cq,nf,ng],rfl,Pg bs x 33 h hd⟩
 ·exact ⟨177,by rw[h];simp[gq,e8,cq,nf,ng],rfl,Ph bs x 33 h hd⟩
theorem uW{bs bs':List aB}{x:av}(hk:¬ (x.kind=1∨x.kind=2))(h:ea ev bs x=some bs'):bs'.length=bs.length:=by
 simp only[ea,if_neg hk] at h;split at h
 ·cases h
 ·simp only[zz0] at h;obtain ⟨b',_,rfl⟩:=h;simp[lb]
theorem cF.vt{hs:List FuncId}{K:ae→Prop}{f:FuncId}{x:av}{avs:List I}{a1 a2:Option (List I)}{dst:Option Nat}{rest:List az}{ts:List (Nat×I)}{z y:ai}{bs:List aB}(hlen:bs.length≤60)(hf:hs.contains f=true)
  (hc:cD Tryz.prog f [.ptr 1000000 [],enc x] (ct 1000000 bs) (iX 1000000 33 bs x)) (hav:avs=[.ptr 43 [],enc x])
  (h1:ea ev bs x=none→cF Tryz.prog hs K (ay rest ((au ts (ec bs++((900,z)::(ec bs++[(3,y)])))).aN dst (.bool false))))
  (h2:∀ bs',ea ev bs x=some bs'→¬ (x.kind=1∨x.kind=2)→cF Tryz.prog hs K (ay rest ((au ts (ec bs'++((900,z)::(ec bs++[(3,y)])))).aN dst (.bool true))))
  (h3:ea ev bs x=some (bs++[eY x])→cF Tryz.prog hs K (ay rest ((au ts (nq bs (eY x)++((900,z)::(ec bs++[(3,y)])))).aN dst (.bool true)))) :
  cF Tryz.prog hs K (.call f avs a1 a2 dst rest (au ts ((900,z)::(ec bs++[(3,y)])))):=by
 subst hav;have nm:∀ {bs:List aB} {m},al (ct 1000000 bs) m=true→1000000≤m∧m<1000002+2*bs.length:=fun {bs m} h=>by
  rw[nv] at h;simpa using h
 have hlow:∀ {bs':List aB},bs'.length≤60→∀ {m y},ak (ct 1000000 bs') m=some y→ak (ec bs') (bx (gA bs.length) m)=some (y.aK (bx (gA bs.length))):=fun {bs'} hl {m y} hy=>by
  rw[←uc bs.length (bs:=bs') (by omega)];exact ag5 (fun m' hm' he=>uh (by omega) (nm hm') (nm (by simp[al,hy])) he) hy
 refine .xY false (gA bs.length) (ct 1000000 bs) [.ptr 1000000 [],enc x] _ hf hc ⟨fun m y' hy =>?_,fun m m' h h' e=>uh (n:=bs.length) (by omega) (nm h) (nm h') e⟩ ⟨.inl ⟨?_,?_,rfl⟩,.inl ⟨(kg _ _).symm,bt _ _,dO _⟩,trivial⟩ ?_ ?_
 ·have hm:=nm (bs:=bs) (m:=m) (by simp[al,hy]);refine ⟨?_,ft hy⟩;have h9:bx (gA bs.length) m≠900:=fun e=>by
   rw[lY] at e
   (repeat' split at e) <;>omega
  simp only[ak,if_neg h9,km,hlow hlen hy]
 ·simp only[I.aK,Nt]
 ·simp only[I.only];simp[al,kj]
 ·intro r os' hp;simp only[iX] at hp;split at hp
  ·obtain ⟨rfl,rfl⟩:=hp;exact ⟨fun m y hy=>⟨(ft hy).1,(ft hy).2,fun h=>by cases h⟩,fun m m' h h' e=>uh (n:=bs.length) (k:=bs.length) (by omega) (nm h) (nm h') e,fun m hm=>hm,(fun m a b=>by rw[a] at b;cases b),rfl,(fun h=>by cases h)⟩
  ·rename_i bs' hb;obtain ⟨rfl,rfl⟩:=hp;split
   ·rename_i hk;have hbs:bs'=bs++[eY x]:=by
     simp only[ea,if_pos hk] at hb;split at hb
     ·simpa[ev] using hb.symm
     ·cases hb
    subst hbs;have hN:∀ {m},al (gG 1000000 33 bs (eY x)) m=true→tz bs.length m:=fun {m} h=>by
     rw[nt] at h;simp only[Bool.or_eq_true,decide_eq_true_eq] at h;rcases h with h | h
     ·exact .inl h
     ·exact .inr (nm h)
    refine ⟨fun m y hy=>⟨(nu hy).1,(nu hy).2,fun h=>by cases h⟩,fun m m' h h' e=>ajC (by omega) (hN h) (hN h') e,fun m hm =>?_,fun m a b =>?_,rfl,fun h=>by cases h⟩
    ·show al (gG 1000000 33 bs (eY x)) m=true
     rw[nt,hm,Bool.or_true]
    ·have a':al (gG 1000000 33 bs (eY x)) m=true:=a;rw[nt,b,Bool.or_false,decide_eq_true_eq] at a';subst a';rw[Nv];refine ⟨?_,by omega⟩;have h9:¬ 2002+2*bs.length=900:=by omega
     have h3:¬ 2002+2*bs.length=3:=by omega
     have hno:ak (ec bs) (2002+2*bs.length)=none:=by
      have:=xe (bs:=bs) (n:=2002+2*bs.length);rw[decide_eq_false (by omega)] at this;simpa[al] using this
     simp only[ak,if_neg h9,km,hno,if_neg h3]
   ·rename_i hk;have hl:=uW hk hb;refine ⟨fun m y hy=>⟨(ft hy).1,(ft hy).2,fun h=>by cases h⟩,fun m m' h h' e=>uh (n:=bs.length) (k:=bs'.length) (by omega) (nm h) (nm h') e,fun m hm =>?_,fun m a b =>?_,rfl,fun h=>by cases h⟩
    ·rw[nv] at hm ⊢;rw[hl];exact hm
    ·rw[nv] at a b;rw[hl] at a;rw[a] at b;cases b
 ·intro r os' hp;simp only[iX] at hp;split at hp
  ·rename_i hb;obtain ⟨rfl,rfl⟩:=hp;rw[uc bs.length (by omega)];exact h1 hb
  ·rename_i bs' hb;obtain ⟨rfl,rfl⟩:=hp;split
   ·rename_i hk;have hbs:bs'=bs++[eY x]:=by
     simp only[ea,if_pos hk] at hb;split at hb
     ·simpa[ev] using hb.symm
     ·cases hb
    subst hbs;have e:dH (gA bs.length) ((1000000+1,ai.cv (dc (bs++[eY x])) (eA 1000000 bs.length++[.ptr 33 []]))::(33,.box (eD (eY x) (.nils 6)))::ct 1000000 bs)=nq bs (eY x):=ajq (by omega);rw[e];exact h3 hb
   ·rename_i hk;have hl:=uW hk hb;rw[uc bs.length (by omega)];exact h2 bs' hb hk
def uS(a b c d e f:Int):aR 6 Int:=⟨[a,b,c,d,e,f],rfl⟩
def a5(a b c d e:Int):aR 5 Int:=⟨[a,b,c,d,e],rfl⟩
theorem CP(a b c d e:Int):I.agg [.int .i64 a,.int .i64 b,.int .i64 c,.int .i64 d,.int .i64 e]=enc (a5 a b c d e):=rfl
theorem CQ(a b c d e f:Int):I.agg [.int .i64 a,.int .i64 b,.int .i64 c,.int .i64 d,.int .i64 e,.int .i64 f]=enc (uS a b c d e f):=rfl
theorem oR{zs:List I}{i:Nat}{v z:I}{rest:List (Nat×I)}(h:zs[i]?=some z)(h1:v.b8=true)(h2:v.size=z.size):dX zs ((i,v)::rest)=dX (zs.set i v) rest:=by
 simp only[dX,h];rw[if_pos ⟨h1,h2⟩]
theorem QU(o:Int)(m:aR 6 Int):dX [.int .i64 0,enc (uS 0 0 0 0 0 0)] [(0,.int .i64 o),(1,enc m)]=some [.int .i64 o,enc m]:=by
 have h2:((enc m:I).b8=true∧(enc m:I).size=(enc (uS 0 0 0 0 0 0)).size):=⟨dO _,by rw[gp,gp]⟩
 have h1:((I.int .i64 o).b8=true∧(I.int .i64 o).size=(I.int .i64 0).size):=⟨rfl,rfl⟩
 rw[oR rfl h1.1 h1.2,oR rfl h2.1 h2.2];rfl
theorem X9(o:Int)(m:aR 6 Int):I.agg [.int .i64 o,enc m]=enc (⟨o,m⟩:ca):=rfl
theorem qI(w:aR 5 Int)(n:Int)(l:List ca):I.agg [enc w,.int .i64 n,enc l]=enc (⟨w,n,l⟩:b7):=rfl
theorem UZ(a b:Item):decide (nZ a b<0)=before a b:=by
 simp only[nZ,mK,jQ,before]
 repeat' split
 all_goals simp_all
 all_goals omega
theorem Qw{a b c:Item}(h:before a b=true)(k:before b c=true):before a c=true:=by
 simp only[before,Bool.or_eq_true,decide_eq_true_eq,zz2] at *;omega
theorem Cw(a b:Item):decide (0≤nZ a b) = !before a b:=by
 rw[←UZ];by_cases h:nZ a b<0
 ·have:¬ 0≤nZ a b:=by omega
  simp[h,this]
 ·have:0≤nZ a b:=by omega
  simp[h,this]
theorem lG{l:List av}{i:Nat}(h:i<l.length):l[i]=af l i:=by simp[af,h]
theorem ny{l:List av}{i:Nat}(h:i<l.length)(A:ae):iB A 17 (i:Int) (enc l)=some (.ref (enc (af l i))):=by
 rw[fH 17 h rfl,lG h]
theorem ic{i n:Nat}(h:i<n):decide ((i:Int)<(n:Int))=true:=by simp;omega
theorem iW{i n:Nat}(h:¬ i<n):decide ((i:Int)<(n:Int))=false:=by simp;omega
theorem uC{n:Nat}(h:n≤9223372036854775807):IntKind.i64.wrap (n:Int)=(n:Int):=cE _ (by omega) (by omega)
theorem fw{i:Nat}(h:i<9223372036854775807):IntKind.i64.wrap ((i:Int)+1)=((i+1:Nat):Int):=by rw[cE _ (by omega) (by omega)];rfl
theorem akL{i:Nat}(h:0<i)(h2:i<9223372036854775807):IntKind.i64.wrap ((i:Int)-1)=((i-1:Nat):Int):=by rw[cE _ (by omega) (by omega)];omega
theorem ru{l:List av}(h:dU l=true):l.length≤60:=by simp[dU] at h;exact h.1
theorem x8{l:List av}(h:dU l=true){i:Nat}(hi:i<l.length):kq l i=true:=by
 simp only[dU,zz2,zy8,zx5] at h;exact h.2 i hi
theorem KD{l:List av}{i:Nat}(hi:i<l.length)(h:kq l i=false):dU l=false:=by
 cases hk:dU l with
 |false=>rfl
 |true=>rw[x8 hk hi] at h;cases h
theorem KE{l:List av}(hl:l.length≤60)(h:∀ i,i<l.length→kq l i=true):dU l=true:=by
 simp only[dU,zz2,zy8,zx5,decide_eq_true_eq];exact ⟨hl,h⟩
theorem x9{l:List av}(h:dU l=true){i:Nat}(hi:i<l.length):gi (af l i)=true:=by
 have:=x8 h hi;simp only[kq,zz2] at this;exact this.1
theorem KG{l:List av}(h:dU l=true):∀ {j i:Nat},i<j→j<l.length→before (af l i).bN (af l j).bN=true
 |0,i,hij,_=>by omega
 |j+1,i,hij,hj=>by
  have h1:=x8 h hj;simp only[kq,zz2,Bool.or_eq_true,decide_eq_true_eq,Nat.add_sub_cancel] at h1;have h2:=h1.2.resolve_left (by omega);by_cases e:i=j
  ·rw[e];exact h2
  ·exact Qw (KG h (j:=j) (by omega) (by omega)) h2
theorem J7{p:Nat→Prop}{i:Nat}(h:∀ j,j<i→p j)(hi:p i):∀ j,j<i+1→p j:=fun j hj=>by
 by_cases e:j=i
 ·exact e▸hi
 ·exact h j (by omega)
theorem PB(l:List av):aD Tryz.prog 64 [enc l] (enc (if dU l then (0:Int) else 41)):=by
 refine aD.bA Tryz.func64 Sq Ui Wm (t7 rfl) (fun hwf W0 D0 E1 =>?_);simp only[BL,MI,bp];have hlen:l.length≤maxLen:=((lj l).1 hwf.1).1;simp only[maxLen] at hlen;clear hwf;refine .ao (by decide +kernel) fun K hK =>?_;simp only[H5,ab,simprocAttr];refine .done (hK _ ?_);clear hK K;refine J.seq (J.seq ?_);refine .bu (by decide +kernel) fun K hK =>?_;simp only[H6,ab,simprocAttr]
 try simp only[bG,ab,simprocAttr]
 refine .done (hK _ ?_);clear hK K;try simp only[ar]
 refine J.bH ?_;simp only[aq,ab,simprocAttr];refine ⟨fun h =>?_,fun h =>?_⟩
 ·have R:=v6 @aZ @ab
  repeat' ((first |(with_reducible refine .guard (fun hb =>?_) (fun hb =>?_) <;>try simp only[hb])|refine J.aT (by decide +kernel) rfl fun K hK =>?_|(refine .aH [0,2,3,4,7,8,9,10,11,33] hK ?_;clear hK K)|(with_reducible refine .done (hK _ ?_);clear hK K)|refine J.of rfl ?_|(with_reducible refine aq.aQ (fun h =>?_) (fun h =>?_) <;>try simp only[h])) <;>try simp only[aU,R,simprocAttr])
  all_goals clear R
  have:¬ l.length≤60:=by simp at h;omega
  simp[dU,this]
 have hl6:l.length≤60:=by simp at h;omega
 refine J.skip ?_;try simp only[ar,simprocAttr]
 refine J.seq (J.seq ?_);refine .bu (by decide +kernel) fun K hK =>?_;simp only[H7,ab,simprocAttr]
 try simp only[bG,ab,simprocAttr]
 refine .done (hK _ ?_);clear hK K;try simp only[ar]
 refine J.block (J.loop (fun i:Nat=>au [(0,enc l),(8,enc l),(9,.int .i64 l.length),(10,.int .i64 i)] []) (fun i=>i≤l.length∧∀ j,j<i→kq l j=true) (fun i=>l.length-i) 0 ⟨by omega,fun k h=>by omega⟩ ?_ (fun i hi =>?_))
 ·refine aF.bM ?_ ?_ ?_ ?_ <;>simp[aX,bK,bJ,a8,aY,I.only,bt]
 by_cases hlt:i<l.length
 ·have he:=ny hlt;have hc:=ic hlt;have hw:=fw (i:=i) (by omega);by_cases h0:i=0
  ·have hc0:decide ((0:Int)<(i:Int))=false:=by simp;omega
   have R:=v6 @he (v6 @hc (v6 @hw (v6 @hc0 (v6 @Cw (v6 @aZ @ab)))))
   repeat' ((first |(with_reducible refine .guard (fun hb =>?_) (fun hb =>?_) <;>try simp only[hb])|refine J.aT (by decide +kernel) rfl fun K hK =>?_|refine .flat _ (zh _) rfl ?_|refine .flat _ (zi _ _) rfl ?_|(refine .aH [0,2,3,4,7,8,9,10,11,33] hK ?_;clear hK K)|(with_reducible refine .done (hK _ ?_);clear hK K)|refine J.of rfl ?_|(with_reducible refine aq.aQ (fun h =>?_) (fun h =>?_) <;>try simp only[h])) <;>try simp only[aU,R,simprocAttr])
   all_goals clear R
   all_goals first
    |(refine ⟨i+1,⟨by omega,J7 hi.2 (by simp_all[kq])⟩,by omega,?_⟩;(refine aF.bM ?_ ?_ ?_ ?_ <;>simp[aX,bK,bJ,a8,aY,I.only,bt]))
    |(rw[KD hlt (by simp_all[kq])];rfl)
  ·have he2:=ny (l:=l) (i:=i-1) (by omega);have hw2:=akL (i:=i) (by omega) (by omega);have hc0:decide ((0:Int)<(i:Int))=true:=by simp;omega
   have R:=v6 @he (v6 @hc (v6 @hw (v6 @he2 (v6 @hw2 (v6 @hc0 (v6 @Cw (v6 @aZ @ab)))))))
   repeat' ((first |(with_reducible refine .guard (fun hb =>?_) (fun hb =>?_) <;>try simp only[hb])|refine J.aT (by decide +kernel) rfl fun K hK =>?_|refine .flat _ (zh _) rfl ?_|refine .flat _ (zi _ _) rfl ?_|(refine .aH [0,2,3,4,7,8,9,10,11,33] hK ?_;clear hK K)|(with_reducible refine .done (hK _ ?_);clear hK K)|refine J.of rfl ?_|(with_reducible refine aq.aQ (fun h =>?_) (fun h =>?_) <;>try simp only[h])) <;>try simp only[aU,R,simprocAttr])
   all_goals clear R
   all_goals first
    |(refine ⟨i+1,⟨by omega,J7 hi.2 (by simp_all[kq])⟩,by omega,?_⟩;(refine aF.bM ?_ ?_ ?_ ?_ <;>simp[aX,bK,bJ,a8,aY,I.only,bt]))
    |(rw[KD hlt (by simp_all[kq])];rfl)
 ·have hc:=iW hlt;have R:=v6 @hc (v6 @aZ @ab)
  repeat' ((first |(with_reducible refine .guard (fun hb =>?_) (fun hb =>?_) <;>try simp only[hb])|refine J.aT (by decide +kernel) rfl fun K hK =>?_|(refine .aH [0,2,3,4,7,8,9,10,11,33] hK ?_;clear hK K)|(with_reducible refine .done (hK _ ?_);clear hK K)|refine J.of rfl ?_|(with_reducible refine aq.aQ (fun h =>?_) (fun h =>?_) <;>try simp only[h])) <;>try simp only[aU,R,simprocAttr])
  all_goals clear R
  rw[KE hl6 fun j hj=>hi.2 j (by omega)];rfl
def cA(k:Nat)(ws:List Int):List (Nat×ai):=[(k,.box (.agg (ws.map enc)))]
theorem oA(p:Nat→Bool)(l:List Int):(I.agg (l.map enc)).only p=true:=by simp only[I.only];exact ej p l
theorem ag6(l:List Int):(I.agg (l.map enc)).c5=true:=by simp only[I.c5];exact xw l
theorem nM{ws:List Int} : ∀ m,al (cA 1000000 ws) m=true→1000000≤m:=fun m hm=>by rw[dy.1 hm];exact zz7 _
def kA(ws:List Int)(i j:Nat):List Int:=(ws.set i (ws.getD j 0)).set j (ws.getD i 0)
theorem Oh{A B C:List Int}{x y:Int}{i j:Nat}(hi:A.length=i)(hj:A.length+1+B.length=j):kA (A++x::B++y::C) i j=A++y::B++x::C:=by
 subst hi hj;have e1:(A++x::B++y::C).getD A.length 0=x:=by simp[zz1,zz3]
 have e2:(A++x::B++y::C).getD (A.length+1+B.length) 0=y:=by
  rw[zz1,zx7 (by simp;omega)];simp[];have:A.length+1+B.length-(A.length+(B.length+1))=0:=by omega
  rw[this];rfl
 simp only[kA,e1,e2];rw[zz3,List.set_append_right _ _ (zz7 _),Nat.sub_self,zy0,List.set_cons_zero];rw[List.set_append_right _ _ (by omega)];have:A.length+1+B.length-A.length=(B.length)+1:=by omega
 rw[this,List.set_cons_succ,List.set_append_right _ _ (zz7 _),Nat.sub_self,List.set_cons_zero];simp
theorem jx{n i:Nat}(h:i<n)(fs:List I):mC 1000000 [] 1 0 n 1 (i:Int) (some fs)=some (.ptr 1000000 [i]):=by
 have:=JK (m:=1000000) (sz:=1) (lo:=0) (l:=n) (i:=i) (fs:=fs) h
 rwa [zz4] at this
theorem kB(x y:Nat)(h:x+y<9223372036854775807):IntKind.i64.wrap ((x:Int)+(y:Int))=((x+y:Nat):Int):=by rw[cE _ (by omega) (by omega)];omega
theorem iM{x y:Nat}(h:y≤x)(hx:x<9223372036854775807):IntKind.i64.wrap ((x:Int)-(y:Int))=((x-y:Nat):Int):=by rw[cE _ (by omega) (by omega)];omega
def j7(p x y z q:List Int)(i:Nat):List Int:=p++(z.take i++x.drop i)++y++(x.take i++z.drop i)++q
theorem akl{p x y z q:List Int}{i a b:Nat}(hx:i<x.length)(hz:z.length=x.length)(ha:p.length=a)(hb:a+x.length+y.length=b):kA (j7 p x y z q i) (a+i) (b+i)=j7 p x y z q (i+1):=by
 have e1:j7 p x y z q i=(p++z.take i)++x[i]::(x.drop (i+1)++y++x.take i)++z[i]::(z.drop (i+1)++q):=by
  simp only[j7];rw[zv7 hx,zv7 (l:=z) (by omega)];simp only[zz3,zy0]
 have e2:j7 p x y z q (i+1)=(p++z.take i)++z[i]::(x.drop (i+1)++y++x.take i)++x[i]::(z.drop (i+1)++q):=by
  simp only[j7];rw[zy3 hx,zy3 (l:=z) (by omega)];simp only[zz3,zy0,zy6]
 rw[e1,e2];refine Oh ?_ ?_
 ·simp;omega
 ·simp;omega
theorem akk(p x y z q:List Int)(i:Nat)(hz:z.length=x.length)(hi:i≤x.length):(j7 p x y z q i).length=p.length+x.length+y.length+x.length+q.length:=by
 simp only[j7,zz5,zx3,zx0];omega
def yF(ws:List Int):cT:=fun r os'=>r=.tuple []∧os'=cA 1000000 ws
theorem nJ{ts:List (Nat×I)}{ws ws':List Int}{os:List (Nat×ai)}{post:cT}(hl:ak os 1000000=some (.box (.agg (ws.map enc))))(he:ws=ws')(hp:post (.tuple []) (cA 1000000 ws')):kF [] post (au ts os):=by
 subst he;exact ⟨cA 1000000 ws,[],nk hl (fun p=>oA p _),trivial,hp⟩
theorem uM(p x y z q:List Int)(a b n k:Nat)(f:I)(hz:z.length=x.length)(ha:p.length=a)(hb:a+x.length+y.length=b)(hk:x.length=k)(hn:b+k≤n)(hN:n≤1000) :
  cD Tryz.prog 216 [.view 1000000 [] 1 0 n,enc (a:Int),enc (b:Int),enc (k:Int),f] (cA 1000000 (p++x++y++z++q)) (yF (p++z++y++x++q)):=by
 refine cD.bA Tryz.func216 Sb T4 V8 (t7 rfl) (t7 rfl) nM (fun hwf W0 D0 E1 =>?_);simp only[By,Mu,bp,zz4,Nat.reduceAdd];clear hwf;refine .ao (by decide +kernel) fun K hK =>?_;simp only[Hu,ab,simprocAttr];refine .done (hK _ ?_);clear hK K;refine J.block (J.loop (fun i:Nat=>au [(0,.view 1000000 [] 1 0 n),(1,.int .i64 a),(2,.int .i64 b),(3,.int .i64 k),(10,.int .i64 i)] (cA 1000000 (j7 p x y z q i))) (fun i=>i≤k) (fun i=>k-i) 0 (by omega) ?_ (fun i hi =>?_))
 ·have e:j7 p x y z q 0=p++x++y++z++q:=by simp[j7]
  rw[e];simp only[cA];refine aF.bM ?_ ?_ ?_ ?_ <;>simp[aX,bK,bJ,a8,al,aY,cu,I.only,ai.only,ej,gz]
 by_cases hlt:i<k
 ·have hc:=ic hlt;have hw:=fw (i:=i) (by omega);have w1:=kB a i (by omega);have w2:=kB b i (by omega);have hst:=akl (p:=p) (q:=q) (i:=i) (by omega) hz ha hb;have hl:=akk p x y z q i hz (by omega);simp only[cA];generalize j7 p x y z q i=ws at hst hl;have v1:=jx (n:=n) (i:=a+i) (by omega);have v2:=jx (n:=n) (i:=b+i) (by omega);have l1:=gP (xs:=ws) (i:=a+i) (by omega);have l2:=gP (xs:=ws) (i:=b+i) (by omega);have s1:=fun (A:ae) v u rest=>nQ (A:=A) (n:=1000000) (xs:=ws) (i:=a+i) (by omega) v u rest;obtain ⟨ws2,hws2⟩:∃ ws2,ws2=ws.set (a+i) (ws.getD (b+i) 0):=⟨_,rfl⟩
  have s2:=fun (A:ae) v u rest=>nQ (A:=A) (n:=1000000) (xs:=ws2) (i:=b+i) (by rw[hws2];simp;omega) v u rest;have l3:=gP (xs:=ws2) (i:=b+i) (by rw[hws2];simp;omega);have R:=v6 @hc (v6 @hw (v6 @w1 (v6 @w2 (v6 @v1 (v6 @v2 (v6 @l1 (v6 @l2 (v6 @s1 (v6 @s2 (v6 @l3 (v6 @eQ (v6 @aZ @ab))))))))))))
  repeat' ((first |(with_reducible refine .guard (fun hb =>?_) (fun hb =>?_) <;>try simp only[hb])|refine J.aT (by decide +kernel) rfl fun K hK =>?_|(refine .aH [0,1,2,3,10,13] hK ?_;clear hK K)|(with_reducible refine .done (hK _ ?_);clear hK K)|refine J.of rfl ?_|(with_reducible refine aq.aQ (fun h =>?_) (fun h =>?_) <;>try simp only[h])) <;>try simp only[aU,R,←hws2,simprocAttr])
  all_goals clear R
  refine ⟨i+1,by omega,by omega,?_⟩;rw[←hst];simp only[kA,←hws2];generalize ws2.set _ _=ws3;refine aF.bM ?_ ?_ ?_ ?_ <;>simp[aX,bK,bJ,a8,al,aY,cu,I.only,ai.only,ej]
 ·have hc:=iW hlt;have he:i=k:=by omega
  subst he;have R:=v6 @hc (v6 @aZ @ab)
  repeat' ((first |(with_reducible refine .guard (fun hb =>?_) (fun hb =>?_) <;>try simp only[hb])|refine J.aT (by decide +kernel) rfl fun K hK =>?_|(refine .aH [0,1,2,3,10,13] hK ?_;clear hK K)|(with_reducible refine .done (hK _ ?_);clear hK K)|refine J.of rfl ?_|(with_reducible refine aq.aQ (fun h =>?_) (fun h =>?_) <;>try simp only[h])) <;>try simp only[aU,R,simprocAttr])
  all_goals clear R
  rw[kW];refine nJ rfl ?_ ⟨rfl,rfl⟩;have h1:z.take i=z:=zv5 (by omega);have h2:x.take i=x:=zv5 (by omega);have h3:z.drop i=[]:=zv0 (by omega);have h4:x.drop i=[]:=zv0 (by omega);simp only[j7,h1,h2,h3,h4,zx8]
end Go.Proofs.YtcldiigclhgafaaGreat
namespace Go.Proofs.YtcldiigclhgafaaGreat
open Go Go.Abs Go.Shelf
open Go.Abs.Enc (enc)
def agS:Go.Shelf.Ren:=⟨fun | 189=>107 | 125=>148 | 257=>147 | 128=>188 | 129=>189 | 294=>179 | 295=>180 | 296=>181 | 297=>182 | 298=>183 | 299=>184 | 216=>185 | 300=>186 | 301=>187 | 328=>205 | 329=>206 | 330=>207 | 331=>208 | 332=>209 | 215=>194 | 343=>214 | n=>n,fun | 28=>29 | 3=>3 | 46=>193 | 0=>0 | 51=>217 | 53=>219 | 4=>4 | 183=>210 | 182=>209 | 131=>150 | 5=>5 | 9=>9 | 218=>230 | 222=>234 | 228=>236 | 229=>237 | n=>n,fun | n=>n⟩
theorem JP:Go.Proofs.Lays.n189 Tryz.prog agS := {
 mixed:=by kernel_rfl
 f125:=Tryz.func148.trans (congrArg some (by kernel_rfl))
 f128:=Tryz.func188.trans (congrArg some (by kernel_rfl))
 f129:=Tryz.func189.trans (congrArg some (by kernel_rfl))
 f189:=Tryz.func107.trans (congrArg some (by kernel_rfl))
 f215:=Tryz.func194.trans (congrArg some (by kernel_rfl))
 f216:=Tryz.func185.trans (congrArg some (by kernel_rfl))
 f257:=Tryz.func147.trans (congrArg some (by kernel_rfl))
 f294:=Tryz.func179.trans (congrArg some (by kernel_rfl))
 f295:=Tryz.func180.trans (congrArg some (by kernel_rfl))
 f296:=Tryz.func181.trans (congrArg some (by kernel_rfl))
 f297:=Tryz.func182.trans (congrArg some (by kernel_rfl))
 f298:=Tryz.func183.trans (congrArg some (by kernel_rfl))
 f299:=Tryz.func184.trans (congrArg some (by kernel_rfl))
 f300:=Tryz.func186.trans (congrArg some (by kernel_rfl))
 f301:=Tryz.func187.trans (congrArg some (by kernel_rfl))
 f328:=Tryz.func205.trans (congrArg some (by kernel_rfl))
 f329:=Tryz.func206.trans (congrArg some (by kernel_rfl))
 f330:=Tryz.func207.trans (congrArg some (by kernel_rfl))
 f331:=Tryz.func208.trans (congrArg some (by kernel_rfl))
 f332:=Tryz.func209.trans (congrArg some (by kernel_rfl))
 f343:=Tryz.func214.trans (congrArg some (by kernel_rfl))
 t0:=Tryz.underlying0
 a0:=Tryz.isAgg0
 z0:=Tryz.sizeOf0
 v0:=Tryz.zeroValue0
 t3:=Tryz.underlying3
 a3:=Tryz.isAgg3
 z3:=Tryz.sizeOf3
 v3:=Tryz.zeroValue3
 t4:=Tryz.underlying4
 a4:=Tryz.isAgg4
 z4:=Tryz.sizeOf4
 v4:=Tryz.zeroValue4
 t5:=Tryz.underlying5
 a5:=Tryz.isAgg5
 z5:=Tryz.sizeOf5
 v5:=Tryz.zeroValue5
 t9:=Tryz.underlying9
 a9:=Tryz.isAgg9
 z9:=Tryz.sizeOf9
 v9:=Tryz.zeroValue9
 t28:=Tryz.underlying29
 a28:=Tryz.isAgg29
 z28:=Tryz.sizeOf29
 v28:=Tryz.zeroValue29
 t46:=Tryz.underlying193
 a46:=Tryz.isAgg193
 z46:=Tryz.sizeOf193
 v46:=Tryz.zeroValue193
 t51:=Tryz.underlying217
 a51:=Tryz.isAgg217
 z51:=Tryz.sizeOf217
 v51:=Tryz.zeroValue217
 t53:=Tryz.underlying219
 a53:=Tryz.isAgg219
 z53:=Tryz.sizeOf219
 v53:=Tryz.zeroValue219
 t131:=Tryz.underlying150
 a131:=Tryz.isAgg150
 z131:=Tryz.sizeOf150
 v131:=Tryz.zeroValue150
 t182:=Tryz.underlying209
 a182:=Tryz.isAgg209
 z182:=Tryz.sizeOf209
 v182:=Tryz.zeroValue209
 t183:=Tryz.underlying210
 a183:=Tryz.isAgg210
 z183:=Tryz.sizeOf210
 v183:=Tryz.zeroValue210
 t218:=Tryz.underlying230
 a218:=Tryz.isAgg230
 z218:=Tryz.sizeOf230
 v218:=Tryz.zeroValue230
 t222:=Tryz.underlying234
 a222:=Tryz.isAgg234
 z222:=Tryz.sizeOf234
 v222:=Tryz.zeroValue234
 t228:=Tryz.underlying236
 a228:=Tryz.isAgg236
 z228:=Tryz.sizeOf236
 v228:=Tryz.zeroValue236
 t229:=Tryz.underlying237
 a229:=Tryz.isAgg237
 z229:=Tryz.sizeOf237
 v229:=Tryz.zeroValue237 }
def dJ(xs:List Int):List Int:=xs.mergeSort fun x y=>decide (x≤y)
theorem Nd{w:World}{D:aM}{E:aW} : ∀ {xs:List Int} {cs:List Value},aI w D E (xs.map enc) cs→cs=xs.map (Value.int .i64)∧∀ x∈xs,IntKind.i64.min≤x∧x≤IntKind.i64.max
 | [],cs,h=>by
  simp only[zx1,aI] at h;subst h;exact ⟨rfl,by simp⟩
 |x::xs,cs,h=>by
  simp only[zz9,aI] at h;obtain ⟨c1,c2,rfl,h1,h2⟩:=h;obtain ⟨rfl,h3⟩:=Nd h2;have h1':c1=[.int .i64 x]∧IntKind.i64.min≤x∧x≤IntKind.i64.max:=h1;obtain ⟨rfl,h4⟩:=h1';refine ⟨rfl,fun y hy =>?_⟩;rcases zw4.1 hy with rfl | hy
  ·exact h4
  ·exact h3 y hy
theorem rD{w:World}{D:aM}{E:aW} : ∀ {xs:List Int},(∀ x∈xs,IntKind.i64.min≤x∧x≤IntKind.i64.max)→aI w D E (xs.map enc) (xs.map (Value.int .i64))
 | [],_=>rfl
 |x::xs,h=>⟨[.int .i64 x],xs.map (Value.int .i64),rfl,⟨rfl,h x (by simp)⟩,rD fun y hy=>h y (by simp[hy])⟩
theorem rM(xs:List Int):(I.agg (xs.map enc)).aO=.ew (List.replicate xs.length .one):=by
 show cQ.ew (I.cX _)=_
 congr 1
 induction xs with
 |nil=>rfl
 |cons x xs ih=>simp only[zz9,I.cX,ih,List.length_cons,List.replicate_succ];rfl
theorem ajg{xs ys q:List Int}(hl:ys.length=xs.length){cs:Array Value}(hc:cs.toList=(xs++q).map (Value.int .i64)):(Sort.putCells (Value.int .i64) 0 ys.toArray cs).toList=(ys++q).map (Value.int .i64):=by
 apply List.ext_getElem?;intro k;have h1:cs[k]?=((xs++q).map (Value.int .i64))[k]?:=by rw[←hc,zv3]
 rw[zv3,Sort.putCells,Array.getElem?_mapIdx,h1];simp only[zw2,List.size_toArray,zw7,true_and,zz4,Nat.sub_zero];by_cases hk:k<ys.length
 ·simp only[hk,if_true];rw[zy7 (by omega),zy7 hk,zz8 (by omega),zz8 hk];simp[hk]
 ·simp only[hk,if_false];rw[zx7 (by omega),zx7 (by omega),hl];cases (q[k-xs.length]?) <;>rfl
open Go.Sort Go.RowKit in
theorem OI(xs q:List Int)(hn:xs.length≤200):cD Tryz.prog 107 [.view 1000000 [] 1 0 xs.length] (cA 1000000 (xs++q)) (yF (dJ xs++q)):=by
 refine ⟨Cd,fun w D E vs _ hD hO hv =>?_⟩;have ho:=hO.bT 1000000;simp only[cA,ak,if_true] at ho;obtain ⟨b,cs,T,aw,-,hb,hr,hnD⟩:=ho;have hEn:∀ n,n≠1000000→E n=none:=fun n hn=>by
  have:=hO.bT n;simpa only[cA,ak,if_neg hn,dg] using this
 simp only[aG] at hv;obtain ⟨v,rest,cs',rfl,hp,hr',rfl⟩:=hv;obtain ⟨b',aO,off,l,hE',hoff,hpart,rfl,hl1,hl2,hl3⟩:=hr';rw[aw] at hE';simp only[u8,bR.aA.injEq] at hE';obtain ⟨rfl,rfl⟩:=hE';have hoff':off=0:=by
  have:(some 0:Option Nat)=some off:=by rw[←hoff];rw[rM];rfl
  injection this with this;exact this.symm
 subst hoff';have hp':v=.slice (some ⟨b,0,none⟩) xs.length (l.length-0):=by
  have:[Value.slice (some ⟨b,0+0*1,none⟩) xs.length (l.length-0)]=[v]:=hp;simpa using this.symm
 subst hp';obtain ⟨hcs,hrg⟩:=Nd hr;have hbs:b<w.heap.size:=(zx9.1 hb).1;have hH:Holds (Value.int .i64) w b 0 xs.toArray:=fun j hj=>by
  simp only[List.size_toArray] at hj;constructor
  ·simp only[World.cell?,hb,Option.isSome_none,zz6,if_false,zz4];rw[←zv3,hcs];rw[zx6,zy7 (by simpa using hj)];simp[hj]
  ·simp[World.frozen?,hb]
 have hlen:(dJ xs).length=xs.length:=by simp[dJ]
 refine (Any.slices_Sort_int JP b 0 (l.length-0) xs w hH hbs (by omega)).mono ?_;rintro e w' ⟨rfl,n,os,rfl⟩;have hb1:(putRow (Value.int .i64) (Sort.ahead w n) b 0 (dJ xs).toArray).heap[b]?=some (.cells (putCells (Value.int .i64) 0 (dJ xs).toArray cs) T (0,0)):=by
  simp[putRow,mapBlock,Sort.ahead,Array.getElem?_modify,hb,onCells]
 have hother:∀ k,k<w.heap.size→k≠b→(grow (putRow (Value.int .i64) (Sort.ahead w n) b 0 (dJ xs).toArray) os).heap[k]?=w.heap[k]?:=fun k hk hkb=>by
  rw[heap_grow_old _ _ (by simpa[Sort.ahead] using hk)];simp[putRow,mapBlock,Sort.ahead,Array.getElem?_modify,Ne.symm hkb]
 have hb2:(grow (putRow (Value.int .i64) (Sort.ahead w n) b 0 (dJ xs).toArray) os).heap[b]?=some (.cells (putCells (Value.int .i64) 0 (dJ xs).toArray cs) T (0,0)):=by
  rw[heap_grow_old _ _ (by simpa[Sort.ahead] using hbs)];exact hb1
 have hsz:w.heap.size≤(grow (putRow (Value.int .i64) (Sort.ahead w n) b 0 (dJ xs).toArray) os).heap.size:=by simp[Sort.ahead]
 have hshow:(grow (putRow (Value.int .i64) (Sort.ahead w n) b 0 (xs.mergeSort fun x y=>decide (x≤y)).toArray) os)=(grow (putRow (Value.int .i64) (Sort.ahead w n) b 0 (dJ xs).toArray) os):=rfl;rw[hshow];have hw1:(grow (putRow (Value.int .i64) (Sort.ahead w n) b 0 (dJ xs).toArray) os).os=w.os:=rfl;have hw2:(grow (putRow (Value.int .i64) (Sort.ahead w n) b 0 (dJ xs).toArray) os).tape=w.tape:=rfl;have hw3:(grow (putRow (Value.int .i64) (Sort.ahead w n) b 0 (dJ xs).toArray) os).output=w.output:=rfl;revert hother hb2 hsz hw1 hw2 hw3;generalize grow (putRow (Value.int .i64) (Sort.ahead w n) b 0 (dJ xs).toArray) os=w2;intro hother hb2 hsz hw1 hw2 hw3;have hmem:∀ x∈dJ xs++q,IntKind.i64.min≤x∧x≤IntKind.i64.max:=fun x hx=>hrg x (by
  rcases zy1.1 hx with h | h
  ·exact List.mem_append_left _ (by simpa[dJ] using h)
  ·exact List.mem_append_right _ h)
 refine ⟨.tuple #[],D,E,.tuple [],cA 1000000 (dJ xs++q),rfl,⟨rfl,rfl⟩,⟨[],rfl,rfl⟩,⟨fun m =>?_,hO.cU⟩,⟨hw1,hw2,hw3,hsz,fun k hk =>?_⟩,fun _ _ h=>h,fun b0 o h=>Nat.lt_of_lt_of_le (hD b0 o h) hsz,fun _ _ h _ _=>h,fun m e h _=>⟨e,h,bR.le.refl e⟩,⟨fun b0 o u hd hc =>?_,fun b0 es ck hd hc =>?_⟩⟩
 ·by_cases hm:m=1000000
  ·subst hm;simp only[cA,ak,if_true];refine ⟨b,_,T,?_,.inr ⟨1000000,_,aw,rfl⟩,hb2,?_,hnD⟩
   ·rw[aw,rM,rM,zz5,zz5,hlen]
   ·show aI w2 D E _ _
    rw[ajg hlen hcs];exact rD hmem
  ·simp only[cA,ak,if_neg hm,dg];exact hEn m hm
 ·by_cases hk2:k<w.heap.size
  ·exact hother k hk2 fun e=>hk (.inr ⟨1000000,_,aw,by rw[e];rfl⟩)
  ·exact absurd (.inl (Nat.le_of_not_lt hk2)) hk
 ·have hne:b0≠b:=fun e=>hnD o (e▸hd);simp only[World.cell?,hother b0 (hD b0 o hd) hne] at hc ⊢;exact hc
 ·have hne:b0≠b:=fun e=>hnD 0 (e▸hd);rw[hother b0 (hD b0 0 hd) hne];exact hc
theorem OJ(v:I)(hv0:v=.nils 1∨v=enc ([]:List Int)):aD Tryz.prog 107 [v] (.tuple []):=by
 refine ⟨Cd,fun w D vs hD hv =>?_⟩;simp only[aG] at hv;obtain ⟨u,rest,cs',rfl,hp,hr',rfl⟩:=hv;have hu:∃ a cap,u=.slice a 0 cap:=by
  rcases hv0 with rfl | rfl
  ·have h1:cs'=[.slice none 0 0]:=hr';have h2:cs'=[u]:=hp;rw[h1] at h2;exact ⟨none,0,by simpa using h2.symm⟩
  ·obtain ⟨a,cap,h1,_⟩:=hr';have h2:cs'=[u]:=hp;rw[h1] at h2;exact ⟨a,cap,by simpa using h2.symm⟩
 obtain ⟨a,cap,rfl⟩:=hu;refine (Any.slices_Sort_int_none JP a cap w).mono ?_;rintro e w' ⟨rfl,rfl⟩;exact ⟨.tuple #[],D,rfl,⟨[],rfl,rfl⟩,⟨rfl,rfl,rfl,zz7 _,fun _ _=>rfl⟩,hD,fun _ _ h _=>h⟩
end Go.Proofs.YtcldiigclhgafaaGreat
namespace Go.Proofs.YtcldiigclhgafaaGreat
open Go Go.Abs
open Go.Abs.Enc (enc)
theorem sZ{os os2 ow:List (Nat×ai)}{ts:List (Nat×I)}(h:fp os os2)(how:∀ m,al ow m=true→m<1000000):∀ n x,ak os2 n=some x→(au ts (ow++os2)).o n=some x∧x.only (al os2)=true∧x.eG=true:=fun n x hx=>by
 have hn:al os2 n=true:=by simp[al,hx]
 have hg:=h.oj n (by rw[←h.same];exact hn);refine ⟨?_,h.ok n x hx⟩;simp only[au,km];cases hw:ak ow n with
 |none=>exact hx
 |some y=>have:=how n (by simp[al,hw]);omega
def zd:aR 5 Int:=⟨List.replicate 5 0,rfl⟩
theorem Yf:I.agg [.int .i64 0,.int .i64 0,.int .i64 0,.int .i64 0,.int .i64 0]=enc zd:=rfl
def kd(a b:Int):Int:=IntKind.i64.wrap ((BitVec.ofInt IntKind.i64.bits a ||| BitVec.ofInt IntKind.i64.bits b).toNat:Int)
def uB(c:List Int)(k:Nat)(x:aR 5 Int):aR 5 Int :=
 if bN c k%12<5 then gN (gN x k (shl 1 k)) k (kd ((gN x k (shl 1 k)).g k) (shl 1 (bN c k%12).toNat)) else gN x k (shl 1 k)
def fN(c:List Int):Nat→aR 5 Int
 |0=>zd
 |k+1=>uB c k (fN c k)
theorem PK(c:List Int)(hc:c.length≤4611686018427387904):aD Tryz.prog 85 [enc c] (enc (fN c 5)):=by
 refine aD.bA Tryz.func85 SE Uw WA (t7 rfl) (fun hwf W0 D0 E1 =>?_);simp only[BZ,MX,bp];refine .ao (by decide +kernel) fun K hK =>?_;simp only[Is,ab,simprocAttr];refine .done (hK _ ?_);clear hK K;refine .ao (by decide +kernel) fun K hK =>?_;simp only[It,ab,simprocAttr];simp only[Yf];refine .done (hK _ ?_);clear hK K;refine J.seq (J.seq ?_);refine .bu (by decide +kernel) fun K hK =>?_;simp only[Iu,ab,simprocAttr];refine .done (hK _ ?_);clear hK K;try simp only[ar]
 refine J.block (J.loop (fun k:Nat=>au [(0,enc c),(2,.ptr 2 []),(3,.ptr 3 []),(4,.int .i64 k)] [(2,.box (enc zd)),(3,.box (enc (fN c k)))]) (fun k=>k≤5) (fun k=>5-k) 0 (by omega) ?_ (fun k hk =>?_))
 ·refine aF.bM ?_ ?_ ?_ ?_ <;>simp[aX,bK,bJ,a8,al,aY,cu,I.only,ai.only,bt]
  all_goals rfl
 refine J.seq (J.seq ?_);refine .bu (by decide +kernel) fun K hK =>?_;simp only[Iv,ab,simprocAttr];refine .done (hK _ ?_);clear hK K;try simp only[ar]
 refine J.bH ?_;simp only[aq,ab,simprocAttr];refine ⟨fun h =>?_,fun h =>?_⟩
 ·have hlt:k<5:=by simp at h;omega
  refine J.skip ?_;try simp only[ar,simprocAttr]
  refine J.seq (J.block ?_);refine .ao (by decide +kernel) fun K hK =>?_;simp only[Iw,ab,simprocAttr]
  try simp only[bG,jv 1 (fN c k) hlt rfl,eS (fN c k) hlt,oX (fN c k) hlt,ab,simprocAttr]
  refine .done (hK _ ?_);clear hK K;refine .ao (by decide +kernel) fun K hK =>?_;simp only[Iy,ab,simprocAttr]
  try simp only[cZ,ab,simprocAttr]
  refine .flat _ (l9 c k hc) rfl ?_
  try simp only[ab,simprocAttr]
  refine .flat _ (gB (bN c k) 12 (by omega) (by omega)) rfl ?_
  try simp only[ab,simprocAttr]
  refine .done (hK _ ?_);clear hK K;refine .ao (by decide +kernel) fun K hK =>?_;simp only[Iz,ab,simprocAttr];refine .done (hK _ ?_);clear hK K;have h0:0≤bN c k%12:=zw8 _ (by omega);refine J.bH ?_;simp only[aq,ab,simprocAttr];refine ⟨fun h =>?_,fun h =>?_⟩
  ·have h5:bN c k%12<5:=by simpa using h
   have e1:IntKind.i64.wrap (1*2^min k IntKind.i64.bits)=shl 1 k:=rfl;refine .bu (by decide +kernel) fun K hK =>?_;simp only[IA,ab,simprocAttr]
   try simp only[e1,bG,jv 1 (gN (fN c k) k (shl 1 k)) hlt rfl,eS (gN (fN c k) k (shl 1 k)) hlt,h0,ab,simprocAttr]
   try simp only[oX (gN (fN c k) k (shl 1 k)) hlt,ab,simprocAttr]
   refine .done (hK _ ?_);clear hK K;try simp only[ar,bL]
   refine .bu (by decide +kernel) fun K hK =>?_;simp only[wJ,ab,simprocAttr];refine .done (hK _ ?_);clear hK K;try simp only[ar]
   refine ⟨k+1,by omega,by omega,?_⟩;rw[cE _ (by omega) (by omega)];simp only[fN,uB,if_pos h5];refine aF.bM ?_ ?_ ?_ ?_ <;>simp[aX,bK,bJ,a8,al,aY,cu,I.only,ai.only,bt]
   all_goals simp[kd,shl]
  ·have h5:¬ bN c k%12<5:=by simpa using h
   refine J.skip ?_;try simp only[ar,bL,simprocAttr]
   refine .bu (by decide +kernel) fun K hK =>?_;simp only[wJ,ab,simprocAttr];refine .done (hK _ ?_);clear hK K;try simp only[ar]
   refine ⟨k+1,by omega,by omega,?_⟩;rw[cE _ (by omega) (by omega)];simp only[fN,uB,if_neg h5];refine aF.bM ?_ ?_ ?_ ?_ <;>simp[aX,bK,bJ,a8,al,aY,cu,I.only,ai.only,bt]
   all_goals simp[shl]
 ·have hge:k=5:=by simp at h;omega
  subst hge;refine J.exit ?_;try simp only[ar,bL,simprocAttr]
  refine .ao (by decide +kernel) fun K hK =>?_;simp only[IB,ab,simprocAttr]
  try simp only[cG,ab,simprocAttr]
  rw[eg (dO _) (by rw[fQ];rfl) ((eO _).trans (eO _).symm)]
  try simp only[ab,simprocAttr]
  refine .done (hK _ ?_);clear hK K;refine J.ret ?_;simp only[ab,simprocAttr]
  try simp only[cG,cZ,ab,simprocAttr]
def kL(k:Nat):Nat→Int
 |0=>((k / 5 / 5 / 5 / 5 / 5%5:Nat):Int)
 |1=>((k / 5 / 5 / 5 / 5%5:Nat):Int)
 |2=>((k / 5 / 5 / 5%5:Nat):Int)
 |3=>((k / 5 / 5%5:Nat):Int)
 |4=>((k / 5%5:Nat):Int)
 |5=>((k%5:Nat):Int)
 |_=>0
def sB(k:Nat):aR 6 Int:=⟨[kL k 0,kL k 1,kL k 2,kL k 3,kL k 4,kL k 5],rfl⟩
theorem XL(k i:Nat):0≤kL k i∧kL k i≤4:=by
 unfold kL;split <;>omega
theorem Qr{n:Nat}{x y:aR n Int}(h:x.l=y.l):x=y:=by
 cases x;cases y;simp only at h;subst h;rfl
theorem aiA(k:Nat):dV (sB k)=true:=by
 simp only[dV,zy8,zx5];intro i hi;have:(sB k).g i=kL k i:=by
  match i,hi with
  |0,_ | 1,_ | 2,_ | 3,_ | 4,_ | 5,_=>rfl
  |n+6,h=>exact absurd h (by omega)
 rw[this];have:=XL k i;simp[bS,this.1,this.2]
theorem qj{A:ae}{n:Nat}{b:I}{v u:aR 6 Int}{rest:List az} : dC A (some 6) n [] b (enc v) rest (some (enc u))=ay rest (A.aL n (.box (enc v))):=by
 rw[eg (dO _) (by rw[fQ];rfl) ((eO _).trans (eO _).symm),fv]
theorem akc{A:ae}{n:Nat}{b:I}{v u:ca}{rest:List az} : dC A (some 7) n [] b (enc v) rest (some (enc u))=ay rest (A.aL n (.box (enc v))):=by
 rw[eg (dO _) (by rw[fQ];rfl) ((eO _).trans (eO _).symm),fv]
theorem Ov:∀ k j:Fin 5,(0≤shl 1 k.1∧shl 1 k.1≤31∧gQ (shl 1 k.1) k.1=true)∧(0≤kd (shl 1 k.1) (shl 1 j.1)∧kd (shl 1 k.1) (shl 1 j.1)≤31∧gQ (kd (shl 1 k.1) (shl 1 j.1)) k.1=true):=by decide +kernel
theorem Ow(c:List Int):∀ n,n≤5→∀ j,j<n→0≤(fN c n).g j∧(fN c n).g j≤31∧gQ ((fN c n).g j) j=true
 |0,_=>fun j h=>absurd h (by omega)
 |n+1,hn=>fun j hj=>by
  have ih:=Ow c n (by omega);have hn5:n<5:=by omega
  simp only[fN,uB];have h0:0≤bN c n%12:=zw8 _ (by decide);split
  ·rename_i h12;rw[oh _ _ _ _ hn5];split
   ·rename_i e;subst e;rw[oh _ _ _ _ hn5,if_pos rfl];exact (Ov ⟨n,hn5⟩ ⟨(bN c n%12).toNat,by omega⟩).2
   ·rw[oh _ _ _ _ hn5,if_neg (by assumption)];exact ih j (by omega)
  ·rw[oh _ _ _ _ hn5];split
   ·rename_i e;subst e;exact (Ov ⟨n,hn5⟩ ⟨0,by decide⟩).1
   ·exact ih j (by omega)
theorem aiD(c:List Int):hE (fN c 5)=true:=by
 simp only[hE,zy8,zx5,zz2];intro k hk;obtain ⟨h1,h2,h3⟩:=Ow c 5 (zz7 _) k hk;simp[bS,h1,h2,h3]
theorem ahw(k:Nat):fA (k:Int) 1=((k / 5:Nat):Int)∧fA (k:Int) 2=((k / 5 / 5:Nat):Int)∧fA (k:Int) 3=((k / 5 / 5 / 5:Nat):Int)∧fA (k:Int) 4=((k / 5 / 5 / 5 / 5:Nat):Int)∧fA (k:Int) 5=((k / 5 / 5 / 5 / 5 / 5:Nat):Int):=by
 have h:∀ n:Nat,(n:Int).tdiv 5=((n / 5:Nat):Int):=fun n=>Int.ofNat_tdiv n 5;simp only[fA,h,and_self]
theorem XM(k:Nat):ke (k:Int) 6=sB k:=by
 obtain ⟨h1,h2,h3,h4,h5⟩:=ahw k;have h:∀ n:Nat,(n:Int).tmod 5=((n%5:Nat):Int):=fun n=>Int.ofNat_tmod n 5;have h0:fA (k:Int) 0=k:=rfl;refine Qr ?_;simp only[ke,gN,sB,kL,h0,h1,h2,h3,h4,h5,h];rfl
theorem KN(n:Int):dV (ke (n%15625) 6)=true:=by
 have h0:0≤n%15625:=zw8 _ (by decide);have e:n%15625=(((n%15625).toNat:Nat):Int):=by omega
 rw[e,XM];exact aiA _
theorem ajT:∀ k:Fin 5,1≤shl 1 k.1∧shl 1 k.1≤31:=by decide +kernel
theorem KC{m:b7}{i:Nat} : gI m i=true↔(1≤(c4 m i).bP∧(c4 m i).bP≤99)∧dV (c4 m i).mark=true∧(i=0∨(c4 m (i-1)).bP<(c4 m i).bP)∧∀ j,j<i→j8 m (c4 m j).mark (c4 m i).mark=false:=by
 simp only[gI,bS,zz2,Bool.or_eq_true,decide_eq_true_eq,beq_iff_eq,zy8,zx5,Bool.not_eq_true']
theorem pH{w:aR 5 Int}{f:Int}{l:List ca}{g:ca}{i:Nat}(h:i<l.length):c4 ⟨w,f,l++[g]⟩ i=c4 ⟨w,f,l⟩ i:=by
 simp only[c4,zz1,zy7 h]
theorem Jq{w:aR 5 Int}{f:Int}{l:List ca}{g:ca} : c4 ⟨w,f,l++[g]⟩ l.length=g:=by
 simp[c4,zz1]
def lQ(c:List Int)(i:Nat)(o:Int):ca:=⟨o,ke (IntKind.i64.wrap (IntKind.i64.wrap (c.getD i 0*7)+i*2503)%15625) 6⟩
def rn(c:List Int)(i:Nat)(p:Int×List ca):Int×List ca :=
 (p.1+(1+c.getD i 0%4),if p.2.any (fun h=>j8 ⟨fN c 5,bN c 5%2,p.2⟩ h.mark (lQ c i 0).mark) then p.2 else p.2++[lQ c i (p.1+(1+c.getD i 0%4))])
def c6(c:List Int):Nat→Int×List ca
 |0=>(0,[])
 |i+1=>if i<c.length∧(c6 c i).2.length<9 then rn c i (c6 c i) else c6 c i
def jU(c:List Int)(n:Nat):b7:=⟨fN c 5,bN c 5%2,(c6 c n).2⟩
def mD(c:List Int):b7:=jU c 12
theorem J9{c:List Int}{i:Nat}(h:¬ (i<c.length∧(c6 c i).2.length<9)):∀ n,i≤n→c6 c n=c6 c i
 |0,hn=>by
   have:i=0:=by omega
   subst this;rfl
 |n+1,hn=>by
  by_cases e:i=n+1
  ·subst e;rfl
  ·have ih:=J9 h n (by omega);simp only[c6,ih];rw[if_neg];intro hh;exact h ⟨by omega,hh.2⟩
theorem Kj(n:Int):0≤n%4∧n%4<4:=⟨zw8 _ (by decide),zv6 _ (by decide)⟩
theorem xI(c:List Int):∀ n,(0≤(c6 c n).1∧(c6 c n).1≤4*n)∧(c6 c n).2.length≤9∧(c6 c n).2.length≤n∧(∀ i,i<(c6 c n).2.length→(c4 (jU c n) i).bP≤(c6 c n).1)∧(n≤12→∀ i,i<(c6 c n).2.length→gI (jU c n) i=true)
 |0=>by simp[c6]
 |n+1=>by
  obtain ⟨h1,h2,h3,h4,h5⟩:=xI c n;have m4:=Kj (c.getD n 0);by_cases hc:n<c.length∧(c6 c n).2.length<9
  ·have hM:jU c n=⟨fN c 5,bN c 5%2,(c6 c n).2⟩:=rfl;have hM1:jU c (n+1)=⟨fN c 5,bN c 5%2,(c6 c (n+1)).2⟩:=rfl;have hU:c6 c (n+1)=rn c n (c6 c n):=by simp only[c6,if_pos hc]
   rw[hM1,hU];rw[hM] at h4 h5;generalize c6 c n=p at h1 h2 h3 h4 h5 hc;obtain ⟨o,l⟩:=p;simp only at h1 h2 h3 h4 h5 hc;simp only[rn];split
   ·refine ⟨by omega,h2,by omega,fun i hi =>?_,fun hn i hi =>?_⟩
    ·have:=h4 i hi;omega
    ·exact h5 (by omega) i hi
   ·rename_i hany;have hnear:∀ g∈l,j8 ⟨fN c 5,bN c 5%2,l⟩ g.mark (lQ c n 0).mark=false:=by
     intro g hg;cases hh:j8 ⟨fN c 5,bN c 5%2,l⟩ g.mark (lQ c n 0).mark with
     |false=>rfl
     |true=>exact absurd (List.any_eq_true.2 ⟨g,hg,hh⟩) hany
    have ow:(lQ c n (o+(1+c.getD n 0%4))).bP=o+(1+c.getD n 0%4):=rfl;have mk:(lQ c n (o+(1+c.getD n 0%4))).mark=(lQ c n 0).mark:=rfl;generalize hg:lQ c n (o+(1+c.getD n 0%4))=g at ow mk;have hmk:dV g.mark=true:=by rw[mk];exact KN _
    refine ⟨by omega,by simp;omega,by simp;omega,fun i hi =>?_,fun hn i hi =>?_⟩
    ·simp only[zz5,List.length_singleton] at hi;by_cases e:i=l.length
     ·subst e;rw[Jq];omega
     ·rw[pH (by omega)];have:=h4 i (by omega);omega
    ·simp only[zz5,List.length_singleton] at hi;by_cases e:i=l.length
     ·subst e;rw[KC,Jq];refine ⟨by omega,hmk,?_,fun j hj =>?_⟩
      ·by_cases e0:l.length=0
       ·exact .inl e0
       ·right
        rw[pH (by omega),ow];have:=h4 (l.length-1) (by omega);omega
      ·rw[pH hj,mk];have:=hnear (c4 ⟨fN c 5,bN c 5%2,l⟩ j) (by rw[←ju hj];exact zy9 hj);exact this
     ·have hi':i<l.length:=by omega
      have:=h5 (by omega) i hi';rw[KC] at this ⊢;rw[pH hi'];refine ⟨this.1,this.2.1,?_,fun j hj =>?_⟩
      ·rcases this.2.2.1 with h | h
       ·exact .inl h
       ·right;rw[pH (by omega)];exact h
      ·rw[pH (by omega)];exact this.2.2.2 j hj
  ·have hU:c6 c (n+1)=c6 c n:=by simp only[c6,if_neg hc]
   have hM:jU c (n+1)=jU c n:=by simp only[jU,hU]
   rw[hU,hM];exact ⟨by omega,h2,by omega,h4,fun hn=>h5 (by omega)⟩
theorem KL(c:List Int){n:Nat}(hn:n≤12):ez (jU c n)=true:=by
 obtain ⟨h1,h2,h3,h4,h5⟩:=xI c n;have m2:0≤bN c 5%2∧bN c 5%2<2:=⟨zw8 _ (by decide),zv6 _ (by decide)⟩
 have e1:bS 0 2 (bN c 5%2)=true:=by simp[bS,m2.1];omega
 have e2:decide ((c6 c n).2.length≤40)=true:=by simp;omega
 have e3:(List.range (c6 c n).2.length).all (gI (jU c n))=true:=by
  simp only[zy8,zx5];exact h5 hn
 simp only[jU] at e3;simp only[ez,jU,aiD,e1,e3,Bool.true_and,Bool.and_true];exact e2
theorem KK(c:List Int):ez (mD c)=true:=KL c (zz7 _)
theorem KU{α:Type}[Enc α](l:List α):bY none (enc l)=true:=by simp[mq,nh]
theorem pU:(∀ (x:I) xs (f:I→Bool),(x::xs).all f=(f x&&xs.all f))∧(∀ f:I→Bool,([]:List I).all f=true)∧(∀ n p,(I.ptr n p).b8=true)∧(∀ b,(true&&b)=b) :=
 ⟨fun _ _ _=>List.all_cons,fun _=>List.all_nil,fun _ _=>rfl,fun _=>rfl⟩
theorem p8:∀ m,al [] m=true→m<1000000:=fun m h=>by simp[al,ak] at h
theorem Pj(l:List av)(hl:l.length≤60):uP Tryz.prog 178 [.ref (enc l)] l.length (fun k=>[.int .i64 ((l.length-1-k:Nat):Int),enc (af l (l.length-1-k))]):=by
 intro Y v aj Ix os hv hY hI hIx h0;have hG:=hI 0 os h0;refine kE.bA Tryz.func178 Cg TM VS (t7 rfl) (t7 rfl) hG.oj (fun hwf W0 D0 E1 =>?_);simp only[Bh,Me,bp,zz4];refine .ao (by decide +kernel) fun K hK =>?_;simp only[F8,ab,simprocAttr]
 try simp only[bG,aZ,ab,simprocAttr]
 rw[cE ((l.length:Int)-1) (by omega) (by omega)];refine .done (hK _ ?_);clear hK K;refine J.block (J.loop (fun s:Nat×List (Nat×ai)=>au [(0,.raw v),(1,.ref (enc l)),(3,.int .i64 ((l.length:Int)-1-s.1))] s.2) (fun s=>s.1≤l.length∧aj s.1 s.2) (fun s=>l.length-s.1) (0,os) ⟨zw7 _,h0⟩ ?_ ?_)
 ·refine aF.c8 ?_ (fun n=>rfl);simp[aX,aY]
 rintro ⟨k,osk⟩ ⟨hk,hIk⟩;simp only at hk hIk ⊢;have gk:=hI k osk hIk;refine J.seq (J.seq ?_);refine .bu (by decide +kernel) fun K hK =>?_;simp only[F9,ab,simprocAttr];refine .done (hK _ ?_);clear hK K;try simp only[ar]
 refine J.bH ?_;simp only[aq,ab,simprocAttr];refine ⟨fun h =>?_,fun h =>?_⟩
 ·have hlt:k<l.length:=by simp at h;omega
  have hix:((l.length:Int)-1-k)=((l.length-1-k:Nat):Int):=by omega
  rw[hix];refine J.skip ?_;try simp only[ar,simprocAttr]
  refine J.seq (J.block (J.seq ?_));refine .bu (by decide +kernel) fun K hK =>?_;simp only[Ga,ab,simprocAttr]
  try simp only[aZ,ny (l:=l) (i:=l.length-1-k) (by omega),Cl,ab,simprocAttr]
  refine bj.OA (ow:=[]) (In:=aj (k+1)) (Ix:=Ix) (hY k osk _ hlt hIk (fun r os2 h=>h)) gk (hI _) hIx (by simp[I.bW,eb,I.bn]) p8 (fun os2 h2 =>?_) (fun os2 h2 =>?_)
  ·try simp only[zy6,ab,simprocAttr]
   refine .done (hK _ ?_);clear hK K;try simp only[ar]
   refine J.bH ?_;simp only[aq,ab,simprocAttr];refine ⟨fun h =>?_,fun h =>?_⟩
   ·cases h
   refine J.skip ?_;try simp only[ar,bL,simprocAttr]
   refine .bu (by decide +kernel) fun K hK =>?_;simp only[Gb,ab,simprocAttr];refine .done (hK _ ?_);clear hK K;try simp only[ar]
   refine ⟨(k+1,os2),⟨by simp only;omega,h2⟩,by simp only;omega,?_⟩;simp only;rw[cE _ (by omega) (by omega)];have e:(((l.length-1-k:Nat):Int)-1)=((l.length:Int)-1-((k+1:Nat):Int)):=by omega
   rw[e];refine aF.c8 ?_ (fun n=>rfl);simp[aX,aY]
  ·try simp only[zy6,ab,simprocAttr]
   refine .done (hK _ ?_);clear hK K;try simp only[ar]
   refine J.bH ?_;simp only[aq,ab,simprocAttr];refine ⟨fun h =>?_,fun h =>?_⟩
   ·refine J.ret ?_;simp only[ar,bL];rw[fI];exact ⟨os2,[],sZ (ow:=[]) (hIx os2 h2) p8,trivial,rfl,.inr h2⟩
   ·cases h
 ·have he:k=l.length:=by simp at h;omega
  subst he;refine J.exit ?_;try simp only[ar,bL,simprocAttr]
  rw[kW];exact ⟨osk,[],sZ (ow:=[]) gk p8,trivial,rfl,.inl hIk⟩
def il(p:Nat→Bool)(n:Nat):List Nat:=(List.range n).filter p
theorem On(p:Nat→Bool)(n:Nat):il p (n+1)=il p n++(if p n then [n] else []):=by
 simp only[il,List.range_succ,List.filter_append,zw1,zv9]
theorem akx{p:Nat→Bool}{i n:Nat}(hp:p i=true)(hi:i<n):(il p i).length<(il p n).length∧(il p n).getD (il p i).length 0=i:=by
 induction n with
 |zero=>omega
 |succ n ih =>
  rw[On];by_cases e:i=n
  ·subst e;simp[hp]
  ·obtain ⟨h1,h2⟩:=ih (by omega);refine ⟨by rw[zz5];omega,?_⟩;rw[zz1,zy7 h1,←zz1];exact h2
theorem zm(l:List av)(bs:List Bool)(hl:l.length≤60)(hb:bs.length=l.length) :
  uP Tryz.prog 146 [.ref (enc l),.ref (enc bs)] (il (fun i=>bs.getD i false) l.length).length (fun k=>[.int .i64 (((il (fun i=>bs.getD i false) l.length).getD k 0:Nat):Int)]):=by
 intro Y v aj Ix os hv hY hI hIx h0;have hG:=hI 0 os h0;refine kE.bA Tryz.func146 vb Tn Vu (t7 rfl) (t7 rfl) hG.oj (fun hwf W0 D0 E1 =>?_);simp only[AR,LP,bp,zz4,Nat.reduceAdd];refine .ao (by decide +kernel) fun K hK =>?_;simp only[EU,ab,simprocAttr]
 try simp only[bG,aZ,ab,simprocAttr]
 refine .done (hK _ ?_);clear hK K;refine J.block (J.loop (fun s:Nat×List (Nat×ai)=>au [(0,.raw v),(1,.ref (enc l)),(2,.ref (enc bs)),(6,.int .i64 l.length),(7,.int .i64 s.1)] s.2) (fun s=>s.1≤l.length∧aj (il (fun i=>bs.getD i false) s.1).length s.2) (fun s=>l.length-s.1) (0,os) ⟨zw7 _,h0⟩ ?_ ?_)
 ·refine aF.c8 ?_ (fun n=>rfl);simp[aX,aY]
 rintro ⟨i,osk⟩ ⟨hi,hIk⟩;simp only at hi hIk ⊢;have gk:=hI _ osk hIk;refine .ao (by decide +kernel) fun K hK =>?_;simp only[EV,ab,simprocAttr];refine .done (hK _ ?_);clear hK K;refine J.seq ?_;by_cases hlt:i<l.length
 ·have hc:=ic hlt;have hbi:∀ A,iB A 1 (i:Int) (enc bs)=some (.ref (.bool (bs.getD i false))):=fun A=>by
   rw[fH 1 (by omega) rfl,zz1,zz8 (by omega)];rfl
  simp only[hc];refine J.bH ?_;simp only[aq,ab,simprocAttr];refine ⟨fun h =>?_,fun h =>?_⟩
  case refine_2=>cases h
  refine J.skip ?_;try simp only[ar,simprocAttr]
  refine J.seq (J.block ?_);refine .ao (by decide +kernel) fun K hK =>?_;simp only[EW,ab,simprocAttr];refine .done (hK _ ?_);clear hK K;refine J.seq ?_;have hsu:=On (fun i=>bs.getD i false) i;cases hbv:bs.getD i false with
  |false =>
   rw[hbv] at hbi;refine .bu (by decide +kernel) fun K hK =>?_;simp only[wi,ab,simprocAttr]
   try simp only[hbi,KU,ab,simprocAttr]
   refine .done (hK _ ?_);clear hK K;try simp only[ar]
   refine J.bH ?_;simp only[aq,ab,simprocAttr];refine ⟨fun h =>?_,fun h =>?_⟩
   ·cases h
   refine J.skip ?_;try simp only[ar,bL,simprocAttr]
   refine .bu (by decide +kernel) fun K hK =>?_;simp only[wj,ab,simprocAttr];refine .done (hK _ ?_);clear hK K;try simp only[ar]
   refine ⟨(i+1,osk),⟨by simp only;omega,?_⟩,by simp only;omega,?_⟩
   ·simp only[hsu,hbv,zz6,if_false,zx8];exact hIk
   ·simp only;rw[fw (by omega)];refine aF.c8 ?_ (fun n=>rfl);simp[aX,aY]
  |true =>
   rw[hbv] at hbi;obtain ⟨g1,g2⟩:=akx (p:=fun i=>bs.getD i false) hbv hlt;have hsl:(il (fun i=>bs.getD i false) (i+1)).length=(il (fun i=>bs.getD i false) i).length+1:=by rw[hsu,hbv];simp
   have hy:=hY _ osk _ g1 hIk (fun r os2 h=>h);simp only at hy;rw[g2] at hy;refine .bu (by decide +kernel) fun K hK =>?_;simp only[wi,ab,simprocAttr]
   try simp only[hbi,KU,Cl,ab,simprocAttr]
   refine bj.OA (ow:=[]) (In:=aj ((il (fun i=>bs.getD i false) i).length+1)) (Ix:=Ix) hy gk (hI _) hIx rfl p8 (fun os2 h2 =>?_) (fun os2 h2 =>?_)
   ·try simp only[zy6,ab,simprocAttr]
    refine .done (hK _ ?_);clear hK K;try simp only[ar]
    refine J.bH ?_;simp only[aq,ab,simprocAttr];refine ⟨fun h =>?_,fun h =>?_⟩
    ·cases h
    refine J.skip ?_;try simp only[ar,bL,simprocAttr]
    refine .bu (by decide +kernel) fun K hK =>?_;simp only[wj,ab,simprocAttr];refine .done (hK _ ?_);clear hK K;try simp only[ar]
    refine ⟨(i+1,os2),⟨by simp only;omega,?_⟩,by simp only;omega,?_⟩
    ·simp only[hsl];exact h2
    ·simp only;rw[fw (by omega)];refine aF.c8 ?_ (fun n=>rfl);simp[aX,aY]
   ·try simp only[zy6,ab,simprocAttr]
    refine .done (hK _ ?_);clear hK K;try simp only[ar]
    refine J.bH ?_;simp only[aq,ab,simprocAttr];refine ⟨fun h =>?_,fun h =>?_⟩
    ·refine J.ret ?_;simp only[ar,bL];rw[fI];exact ⟨os2,[],sZ (ow:=[]) (hIx os2 h2) p8,trivial,rfl,.inr h2⟩
    ·cases h
 ·have hc:=iW hlt;simp only[hc];refine J.bH ?_;simp only[aq,ab,simprocAttr];refine ⟨fun h =>?_,fun h =>?_⟩
  ·cases h
  have he:i=l.length:=by omega
  subst he;refine J.exit ?_;try simp only[ar,bL,simprocAttr]
  rw[kW];exact ⟨osk,[],sZ (ow:=[]) gk p8,trivial,rfl,.inl hIk⟩
theorem OX(l:List av):aD Tryz.prog 145 [enc l] (.func 178 [.ref (enc l)]):=by
 refine aD.bA Tryz.func145 Ry Tm Vt (t7 rfl) (fun hwf W0 D0 E1 =>?_);simp only[AQ,LO,bp];have R:=v6 @pU (v6 @aZ (v6 @eb @ab))
 repeat' ((first |(with_reducible refine .guard (fun hb =>?_) (fun hb =>?_) <;>try simp only[hb])|refine J.aT (by decide +kernel) rfl fun K hK =>?_|(refine .aH [0,1,2] hK ?_;clear hK K)|(with_reducible refine .done (hK _ ?_);clear hK K)|refine J.of rfl ?_|(with_reducible refine aq.aQ (fun h =>?_) (fun h =>?_) <;>try simp only[h])) <;>try simp only[aU,R,simprocAttr])
 all_goals clear R
 all_goals rfl
def ij(l:List av)(known:Int)(ks:List Item)(bs:List Bool):List (Nat×ai) :=
 [(1000002,.box (enc l)),(1000003,.box (.int .i64 known)),(1000005,.box (.mref 1000009)),(1000006,.box (.view 1000012 [] 1 0 l.length)),(1000009,.cv (ks.map enc) (List.replicate ks.length (.bool true))),(1000012,.box (.agg (bs.map enc)))]
theorem tL(p:Nat→Bool)(n:Nat)(b:Bool):I.bU p (List.replicate n (.bool b))=true:=by
 induction n with
 |zero=>rfl
 |succ n ih=>simp[List.replicate_succ,I.bU,I.only,ih]
theorem ud(ρ:Nat→Nat)(n:Nat)(b:Bool):I.cJ ρ (List.replicate n (.bool b))=List.replicate n (.bool b):=by
 induction n with
 |zero=>rfl
 |succ n ih=>simp only[List.replicate_succ,I.cJ,I.aK,ih]
theorem aka(l:List av)(known:Int)(ks:List Item)(bs:List Bool)(l':List av)(known':Int)(ks':List Item)(bs':List Bool):fp (ij l known ks bs) (ij l' known' ks' bs'):=by
 refine ⟨fun n=>by simp only[ij,al,ak];(repeat' split) <;>rfl,fun n x h =>?_,fun n h =>?_⟩
 ·simp only[ij,ak] at h
  repeat' split at h
  all_goals first | (cases h;done) | (simp only[u8] at h;subst h;exact ⟨by simp[ij,al,ak,ai.only,bt,I.only,ej,tL],rfl⟩)
 ·simp only[ij,al,ak] at h
  repeat' split at h
  all_goals first | omega | (simp at h;done)
def uu(l:List av)(known:Int)(k:Nat)(ks:List Item)(bs:List Bool):Prop :=
 bs=List.replicate (l.length-k) false++(jJ known (l.drop (l.length-k))).1∧∀ a,a∈ks↔a∈(jJ known (l.drop (l.length-k))).2
theorem yV:(∀ (A:ae) n b m rest,dC A none n [] b (.mref m) rest (some (.raw (.map none)))=ay rest (A.aL n (.box (.mref m))))∧(∀ (A:ae) n b m p z lo k z2 rest,dC A none n [] b (.view m p z lo k) rest (some (.nils z2))=ay rest (A.aL n (.box (.view m p z lo k)))) ∧
  (∀ (A:ae) n b m p z lo k m' p' z' lo' k' rest,dC A none n [] b (.view m p z lo k) rest (some (.view m' p' z' lo' k'))=ay rest (A.aL n (.box (.view m p z lo k)))) :=
 ⟨fun _ _ _ _ _=>by rw[eg (s:=none) (v:=.mref _) (old:=.raw _) rfl rfl rfl,fv],fun _ _ _ _ _ _ _ _ _ _=>by rw[eg (s:=none) (v:=.view ..) (old:=.nils _) rfl rfl rfl,fv],fun _ _ _ m p z lo k m' p' z' lo' k' _=>by rw[eg (s:=none) (v:=.view m p z lo k) (old:=.view m' p' z' lo' k') rfl rfl rfl,fv]⟩
theorem yW(known:Int):∀ l:List av,(jJ known l).1.length=l.length
 | []=>rfl
 |x::l=>by simp only[jJ,List.length_cons,yW known l]
theorem N0{l:List av}{known:Int}{k:Nat}{ks:List Item}{bs:List Bool}(h:uu l known k ks bs)(hk:k≤l.length):bs.length=l.length:=by
 rw[h.1,zz5,List.length_replicate,yW,zx0];omega
def rr(l:List av)(known:Int)(i:Nat)(ks:List Item):Bool:=decide ((af l i).known≤known) && !decide ((af l i).bN∈ks)
theorem aj8{l:List av}{known:Int}{k i:Nat}{ks:List Item}{bs:List Bool}(hk:k<l.length)(hi:i=l.length-1-k)(h:uu l known k ks bs) :
  uu l known (k+1) (if (rr l known i ks&&((af l i).kind==0))=true then lu ks (af l i).jX else ks) (bs.set i (rr l known i ks)):=by
 have hkd:((af l i).kind==0)=decide ((af l i).kind=0):=rfl;rw[hkd];obtain ⟨h1,h2⟩:=h;have e1:l.length-k=i+1:=by omega
 have e2:l.length-(k+1)=i:=by omega
 rw[e1] at h1 h2;have hil:i<l.length:=by omega
 have hd:l.drop i=af l i::l.drop (i+1):=by rw[zv7 hil,lG hil]
 have hb:rr l known i ks=(decide ((af l i).known≤known) && !(jJ known (l.drop (i+1))).2.contains (af l i).bN):=by
  simp only[rr]
  congr 2
  rw[Bool.eq_iff_iff,decide_eq_true_eq,List.contains_iff_mem];exact h2 _
 refine ⟨?_,fun a =>?_⟩
 ·rw[e2,hd,h1];simp only[jJ,←hb];rw[List.replicate_succ',zz3,List.set_append_right _ _ (by simp)];simp
 ·rw[e2,hd];simp only[jJ,←hb];split
  ·rw[ahi,zw4,h2]
  ·exact h2 a
theorem OH(l:List av)(known:Int)(hl:l.length≤60):aD Tryz.prog 105 [enc l,enc known] (.func 146 [.ref (enc l),.ref (enc (ik l known))]):=by
 refine aD.bA Tryz.func105 Q8 SX U4 (t7 rfl) (fun hwf W0 D0 E1 =>?_);simp only[Ap,Lo,bp,zz4];clear hwf;refine .ao (by decide +kernel) fun K hK =>?_;simp only[DK,ab,simprocAttr]
 try simp only[aZ,ab,simprocAttr]
 refine .done (hK _ ?_);clear hK K;refine .ao (by decide +kernel) fun K hK =>?_;simp only[DL,ab,simprocAttr]
 try simp only[dT,yV,ab,simprocAttr]
 refine .done (hK _ ?_);clear hK K;refine .ao (by decide +kernel) fun K hK =>?_;simp only[DM,ab,simprocAttr]
 try simp only[dT,bG,aZ,ab,simprocAttr]
 rw[aho (by omega) (by simp[maxLen];omega)]
 try simp only[yV,ab,simprocAttr]
 refine .done (hK _ ?_);clear hK K;refine J.seq (J.seq ?_);refine .bu (by decide +kernel) fun K hK =>?_;simp only[DN,ab,simprocAttr]
 try simp only[aZ,ab,simprocAttr]
 refine .lead _ (OX l) ?_
 try simp only[ab,simprocAttr]
 refine .done (hK _ ?_);clear hK K;try simp only[ar]
 refine J.block (J.j0 (osb0:=ij l known [] (List.replicate l.length false)) (tsR:=[(2,.ptr 1000002 []),(3,.ptr 1000003 []),(5,.ptr 1000005 []),(6,.ptr 1000006 [])]) (ρ:=[(1999999,999999),(1000002,2),(1000003,3),(1000005,5),(1000006,6),(1000009,9),(1000012,12)])
  (fun k os=>∃ ks bs,os=ij l known ks bs∧uu l known k ks bs)
  (fun _ _=>False)
  rfl (t7 rfl) (by simp only[ab,simprocAttr]) (by simp[I.bW,I.bn,eb]) Cg (Pj l hl) (fun _=>rfl) rfl rfl rfl (fun o=>⟨?_,?_⟩) ?_ ?_ ?_ ⟨[],_,rfl,?_⟩ ?_ ?_ ?_)
 ·intro n x hx;simp only[dn,ij,ak] at hx
  repeat' split at hx
  all_goals first | (cases hx;done) | (subst_vars;simp only[u8] at hx;subst hx;simp[dn,ij,al,bx,ak,ai.aK,I.aK,I.cJ,kg,ai.only,I.only,I.bU,bt,ai.eG,tL,ud,CR])
 ·intro a b ha hb;simp only[dn,ij,al,ak] at ha hb
  repeat' split at ha
  all_goals first | (simp at ha;done) | skip
  all_goals (repeat' split at hb)
  all_goals first | (simp at hb;done) | (subst_vars;simp[bx])
 ·simp[l5,aY,I.aK,bx,I.only,ij,al,ak]
 ·rintro k os ⟨ks,bs,rfl,_⟩;exact aka ..
 ·rintro e os h;exact h.elim
 ·exact ⟨by simp[jJ],fun a=>by simp[jJ]⟩
 ·rintro k osb hk ⟨ks,bs,rfl,hst⟩ W1 D1 E1 JM o1 o2;have hbl:=N0 hst (Nat.le_of_lt hk);obtain ⟨i,hi⟩:∃ i,i=l.length-1-k:=⟨_,rfl⟩
  have hil:i<bs.length:=by omega
  have hil2:i<l.length:=by omega
  have hstep:=aj8 hk hi hst;have hv:∀ fs,mC 1000012 [] 1 0 l.length 1 (i:Int) (some fs)=some (.ptr 1000012 [i]):=fun fs=>by
   have:=JK (m:=1000012) (sz:=1) (lo:=0) (l:=l.length) (i:=i) (fs:=fs) hil2
   rwa [zz4] at this
  have hat2:∀ b,ga i [] (some ((bs.set i b).map enc))=some (.bool b):=fun b=>by
   rw[Ad (by simpa using hil)];simp[zz1,hil]
  have hset:=fun (A:ae) v u rest=>akd (A:=A) (n:=1000012) hil v u rest;have hat:=Ad hil;have hlk:=xA qL (af l i).bN ks;simp only[qc,dn,ij,←hi];have R:=v6 @aZ @ab
  repeat' ((first |(with_reducible refine .guard (fun hb =>?_) (fun hb =>?_) <;>try simp only[hb])|refine J.aT (by decide +kernel) rfl fun K hK =>?_|(refine .aH [0,1,2,3,4,5,6,7,8,14,15,16,39] hK ?_;clear hK K)|(with_reducible refine .done (hK _ ?_);clear hK K)|refine J.of rfl ?_|(with_reducible refine aq.aQ (fun h =>?_) (fun h =>?_) <;>try simp only[h])) <;>try simp only[aU,R,simprocAttr])
  all_goals clear R
  refine ⟨by simp[],?_⟩;rcases h1:decide ((af l i).known≤known) <;>rcases h2:decide ((af l i).bN∈ks) <;>rcases h3:(af l i).kind==0
  all_goals
   simp only[rr,h1,h2,h3,Bool.not_true,Bool.not_false,Bool.and_true,Bool.and_false,zz6,if_true,if_false] at hstep;have hup:=Kn qL (af l i).jX ks
   try simp only[ab,simprocAttr]
   have R:=v6 @h1 (v6 @h2 (v6 @h3 (v6 @hv (v6 @hset (v6 @hat (v6 @hat2 (v6 @hlk (v6 @hup (v6 @dW (v6 @yV (v6 @dT (v6 @eQ (v6 @bG (v6 @aZ @ab))))))))))))))
   repeat' ((first |(with_reducible refine .guard (fun hb =>?_) (fun hb =>?_) <;>try simp only[hb])|refine J.aT (by decide +kernel) rfl fun K hK =>?_|(refine .aH [0,1,2,3,4,5,6,7,8,14,15,16,39] hK ?_;clear hK K)|(with_reducible refine .done (hK _ ?_);clear hK K)|refine J.of rfl ?_|(with_reducible refine aq.aQ (fun h =>?_) (fun h =>?_) <;>try simp only[h])) <;>try simp only[aU,R,simprocAttr])
   all_goals clear R
   generalize bs.set i _=akV at hstep ⊢
   try generalize lu ks _=ks2 at hstep ⊢
   refine ⟨ij l known _ _,?_,_,_,rfl,hstep⟩;intro n x hx;simp only[dn,ij,ak] at hx
   (repeat' split at hx) <;>first
    |(cases hx;done)
    |(subst_vars;simp only[u8] at hx;subst hx;simp[ij,dn,al,au,ak,ai.only,I.only,bt,ai.eG,ej,tL])
 ·rintro os ⟨ks,bs,rfl,hst⟩;have hbs:bs=ik l known:=by
   have:=hst.1;simpa[ik] using this
  have hbl:=N0 hst (zz7 _)
  try simp only[ij,jF,kg,gM,zy0,zy6,ar,bL,simprocAttr]
  have R:=v6 @pU (v6 @aZ @ab)
  repeat' ((first |(with_reducible refine .guard (fun hb =>?_) (fun hb =>?_) <;>try simp only[hb])|refine J.aT (by decide +kernel) rfl fun K hK =>?_|(refine .aH [0,1,2,3,4,5,6,7,8,14,15,16,39] hK ?_;clear hK K)|(with_reducible refine .done (hK _ ?_);clear hK K)|refine J.of rfl ?_|(with_reducible refine aq.aQ (fun h =>?_) (fun h =>?_) <;>try simp only[h])) <;>try simp only[aU,R,simprocAttr])
  all_goals clear R
  have hfd:=fun A (ho:A.o 12=some (.box (.agg (bs.map enc))))=>Yy (A:=A) (m:=8) (n:=12) (sz:=1) ho rfl hbl.symm
  try simp only[kJ,ab,simprocAttr]
  rw[hfd _ rfl]
  try simp only[hbs,ab,simprocAttr]
 ·rintro e os h;exact h.elim
def gm(l:List av)(x:Int):Int:=(af l x.toNat).day
def jw(l:List av)(x:Int):Prop:=0≤x∧x<l.length
def mj(l:List av):Prop:=∀ i,i<l.length→0≤(af l i).day∧(af l i).day≤100000
def dP(l:List av)(x y:Int):Prop:=gm l x<gm l y∨(gm l x=gm l y∧x<y)
def du(l:List av)(s:List Int):Prop:=s.Pairwise (dP l)
theorem xD{l:List av}{x y z:Int}(h:dP l x y)(k:dP l y z):dP l x z:=by
 simp only[dP] at *;omega
theorem tk{l:List av}{x y:Int}(h:y<x):dP l x y↔gm l x<gm l y:=by
 simp only[dP];omega
theorem tj{l:List av}{x y:Int}(h:y<x)(k:¬ gm l x<gm l y):dP l y x:=by
 simp only[dP];omega
theorem rZ(l:List av)(hd:mj l)(hl:l.length≤60)(x y:Int)(hx:jw l x)(hy:jw l y):aD Tryz.prog 138 [.int .i64 x,.int .i64 y,.ref (enc l)] (.int .i64 (gm l x-gm l y)):=by
 refine aD.bA Tryz.func138 Rt Th Vo (t7 rfl) (fun hwf W0 D0 E1 =>?_);simp only[AL,LJ,bp,zz4,Nat.reduceAdd];clear hwf;obtain ⟨i,rfl⟩:∃ i:Nat,x=i:=⟨x.toNat,by have:=hx.1;omega⟩
 obtain ⟨k,rfl⟩:∃ k:Nat,y=k:=⟨y.toNat,by have:=hy.1;omega⟩
 have hi:i<l.length:=by have:=hx.2;omega
 have hk:k<l.length:=by have:=hy.2;omega
 have v1:=ny hi;have v2:=ny hk;have d1:=hd i hi;have d2:=hd k hk;have hw:IntKind.i64.wrap ((af l i).day-(af l k).day)=(af l i).day-(af l k).day:=cE _ (by omega) (by omega);have R:=v6 @v1 (v6 @v2 (v6 @hw (v6 @aZ @ab)))
 repeat' ((first |(with_reducible refine .guard (fun hb =>?_) (fun hb =>?_) <;>try simp only[hb])|refine J.aT (by decide +kernel) rfl fun K hK =>?_|(refine .aH [0,1,2,5] hK ?_;clear hK K)|(with_reducible refine .done (hK _ ?_);clear hK K)|refine J.of rfl ?_|(with_reducible refine aq.aQ (fun h =>?_) (fun h =>?_) <;>try simp only[h])) <;>try simp only[aU,R,simprocAttr])
 all_goals clear R
 simp only[gm,Int.toNat_natCast]
theorem akm{A C:List Int}{x y:Int}{i j:Nat}(hj:A.length=j)(hi:j+1=i):kA (A++y::x::C) i j=A++x::y::C:=by
 subst hj hi;have e1:(A++y::x::C).getD A.length 0=y:=by simp[zz1]
 have e2:(A++y::x::C).getD (A.length+1) 0=x:=by
  rw[zz1,zx7 (by omega)];simp
 simp only[kA,e1,e2];rw[List.set_append_right _ _ (by omega)];have:A.length+1-A.length=1:=by omega
 rw[this,List.set_append_right _ _ (by omega),Nat.sub_self];simp
theorem ako{A C:List Int}{x y:Int}{i j:Nat}(hi:A.length=i)(hj:i+1=j):kA (A++x::y::C) i j=A++y::x::C:=by
 have:=Oh (A:=A) (B:=[]) (C:=C) (x:=x) (y:=y) (i:=i) (j:=j) hi (by simp;omega);simpa using this
def eh(p t rest:List Int)(x:Int)(c:Nat):List Int:=p++(t.take c++x::t.drop c)++rest
theorem xk{p t rest:List Int}{x:Int}{c:Nat}(hc:c≤t.length):(eh p t rest x c).length=p.length+t.length+1+rest.length:=by
 simp only[eh,zz5,zx3,List.length_cons,zx0];omega
theorem agu{p t rest:List Int}{x:Int}{c a:Nat}(ha:p.length=a)(hc:c≤t.length):(eh p t rest x c).getD (a+c) 0=x:=by
 subst ha;have hl:(t.take c).length=c:=by rw[zx3];omega
 simp only[eh];rw[zz1,zz3,zx7 (by omega)];have:p.length+c-p.length=c:=by omega
 rw[this,zz3,zx7 (by omega),hl,Nat.sub_self];rfl
theorem agv{p t rest:List Int}{x:Int}{c a:Nat}(ha:p.length=a)(hc:c<t.length):(eh p t rest x (c+1)).getD (a+c) 0=t[c]:=by
 subst ha;simp only[eh];rw[zz1,zz3,zx7 (by omega)];have:p.length+c-p.length=c:=by omega
 rw[this,zz3,zy7 (by rw[zx3];omega),List.getElem?_take_of_lt (by omega),zz8 hc];rfl
theorem JB{p t rest:List Int}{x:Int}{c a:Nat}(ha:p.length=a)(hc:c<t.length):kA (eh p t rest x (c+1)) (a+c+1) (a+c)=eh p t rest x c:=by
 have e1:eh p t rest x (c+1)=(p++t.take c)++t[c]::x::(t.drop (c+1)++rest):=by
  simp only[eh];rw[zy3 hc];simp only[zz3,zy0,zy6]
 have e2:eh p t rest x c=(p++t.take c)++x::t[c]::(t.drop (c+1)++rest):=by
  simp only[eh];rw[zv7 hc];simp only[zz3,zy0]
 rw[e1,e2];exact akm (by rw[zz5,zx3];omega) rfl
theorem yU{l:List av}{t:List Int}{x:Int}{c:Nat}(hs:du l t)(h1:∀ y∈t.take c,dP l y x)(h2:∀ y∈t.drop c,dP l x y):du l (t.take c++x::t.drop c):=by
 have h:=hs;unfold du at *;rw[←zx2 c t,List.pairwise_append] at h;rw[List.pairwise_append];refine ⟨h.1,?_,fun y hy z hz =>?_⟩
 ·rw[List.pairwise_cons];exact ⟨h2,h.2.1⟩
 ·rcases zw4.1 hz with rfl | hz
  ·exact h1 y hy
  ·exact h.2.2 y hy z hz
theorem aj2{l:List av}{t:List Int}{x:Int}{c:Nat}(hs:du l t)(hc:c<t.length)(h:dP l t[c] x):∀ y∈t.take (c+1),dP l y x:=by
 intro y hy;rw[zy3 hc,zy1,zw5] at hy;rcases hy with hy | rfl
 ·refine xD ?_ h;have h3:=hs;unfold du at h3;rw[←zx2 c t,List.pairwise_append] at h3;exact h3.2.2 y hy _ (by rw[zv7 hc];exact List.mem_cons_self)
 ·exact h
def mY(l:List av)(p s q:List Int):cT:=fun r os'=>r=.tuple []∧∃ s',s'.Perm s∧du l s'∧os'=cA 1000000 (p++s'++q)
structure uO where
 t:List Int
 k:Nat
theorem zx(l:List av)(hd:mj l)(hl:l.length≤60)(p s q:List Int)(a b n:Nat)(ha:p.length=a)(hb:a+s.length=b)(hn:b≤n)(hnl:n≤(p++s++q).length)(hN:n≤1000)(hs:s.Pairwise (· < ·))(hS:∀ x∈s,jw l x) :
  cD Tryz.prog 203 [.view 1000000 [] 1 0 n,enc (a:Int),enc (b:Int),.func 138 [.ref (enc l)]] (cA 1000000 (p++s++q)) (mY l p s q):=by
 refine cD.bA Tryz.func203 Ci Cp CB (t7 rfl) (t7 rfl) nM (fun hwf W0 D0 E1 =>?_);simp only[u6,yr,bp,zz4,Nat.reduceAdd];clear hwf;have w1:=fw (i:=a) (by omega);refine .ao (by decide +kernel) fun K hK =>?_;simp only[wE,ab,simprocAttr]
 try simp only[w1,simprocAttr]
 refine .done (hK _ ?_);clear hK K;refine J.block (J.loop (fun g:uO=>au [(0,.view 1000000 [] 1 0 n),(1,.int .i64 a),(2,.int .i64 b),(3,.func 138 [.ref (enc l)]),(8,.int .i64 ((a+g.k:Nat):Int))] (cA 1000000 (p++g.t++s.drop g.k++q))) (fun g=>1≤g.k∧g.t.Perm (s.take g.k)∧du l g.t∧a+g.k≤b+1) (fun g=>s.length-g.k) ⟨s.take 1,1⟩ ⟨zz7 _,.refl _,?_,by simp only;omega⟩ ?_ ?_)
 ·show du l (s.take 1)
  cases s <;>simp[du]
 ·have e:p++s.take 1++s.drop 1++q=p++s++q:=by rw[zz3 p,zx2]
  simp only[e];refine aF.c8 ?_ (fun n=>rfl);simp[aX,aY]
 rintro ⟨t,k⟩ ⟨g1,g2,g3,g4⟩;simp only at g1 g2 g3 g4 ⊢;refine J.seq (J.seq ?_);refine .bu (by decide +kernel) fun K hK =>?_;simp only[GR,ab,simprocAttr];refine .done (hK _ ?_);clear hK K;try simp only[ar]
 refine J.bH ?_;simp only[aq,ab,simprocAttr];refine ⟨fun h =>?_,fun h =>?_⟩
 rotate_left
 ·have hk:s.length≤k:=by simp at h;omega
  refine J.exit ?_;try simp only[ar,bL,simprocAttr]
  rw[kW];refine nJ rfl ?_ ⟨rfl,t,?_,g3,rfl⟩
  ·rw[zv0 hk,zx8]
  ·rwa [zv5 hk] at g2
 have hk:k<s.length:=by simp at h;omega
 have htl:t.length=k:=by rw[g2.length_eq,zx3];omega
 obtain ⟨x,hx⟩:∃ x,x=s[k]:=⟨_,rfl⟩
 have hxS:jw l x:=hS x (by rw[hx];exact zy9 _);have htS:∀ y∈t,jw l y∧y<x:=fun y hy=>by
  have hy2:=g2.mem_iff.1 hy;refine ⟨hS y (List.mem_of_mem_take hy2),?_⟩;obtain ⟨j,hj,rfl⟩:=List.getElem_of_mem hy2;rw[zx3] at hj;rw[List.getElem_take,hx];exact List.pairwise_iff_getElem.1 hs j k (by omega) hk (by omega)
 obtain ⟨rest,hrest⟩:∃ rest,rest=s.drop (k+1)++q:=⟨_,rfl⟩
 have e0:p++t++s.drop k++q=eh p t rest x k:=by
  rw[hrest,eh,zv5 (l:=t) (by omega),show t.drop k=[] from zv0 (by omega),zv7 hk,←hx];simp only[zz3,zy0,zy6]
 have hnr:n≤p.length+t.length+1+rest.length:=by
  rw[hrest];simp only[zz5,zx0] at hnl ⊢;omega
 rw[e0];refine J.skip ?_;try simp only[ar,simprocAttr]
 refine J.seq (J.block ?_);refine .ao (by decide +kernel) fun K hK =>?_;simp only[GS,ab,simprocAttr];refine .done (hK _ ?_);clear hK K;refine J.block (J.loop (fun c:Nat=>au [(0,.view 1000000 [] 1 0 n),(1,.int .i64 a),(2,.int .i64 b),(3,.func 138 [.ref (enc l)]),(8,.int .i64 ((a+k:Nat):Int)),(9,.int .i64 ((a+c:Nat):Int))] (cA 1000000 (eh p t rest x c))) (fun c=>c≤k∧∀ y∈t.drop c,dP l x y) (fun c=>c) k ⟨zz7 _,?_⟩ ?_ ?_)
 ·rw[zv0 (by omega)];intro y hy;cases hy
 ·refine aF.c8 ?_ (fun n=>rfl);simp[aX,aY]
 rintro c ⟨hc,hgt⟩;have a7:∀ c,c≤k→(∀ y∈t.drop c,dP l x y)→(∀ y∈t.take c,dP l y x)→∃ s':uO,(1≤s'.k∧s'.t.Perm (s.take s'.k)∧du l s'.t∧a+s'.k≤b+1)∧s.length-s'.k<s.length-k∧s'.k=k+1∧eh p t rest x c=p++s'.t++s.drop s'.k++q:=fun c hck h2 h1=>by
  refine ⟨⟨t.take c++x::t.drop c,k+1⟩,⟨by simp only;omega,?_,yU g3 h1 h2,by simp only;omega⟩,by simp only;omega,rfl,?_⟩
  ·simp only;rw[zy3 hk,←hx];refine List.perm_middle.trans ?_;rw[zx2];exact (g2.cons x).trans (List.perm_append_comm (l₁:=[x]))
  ·simp only[eh,hrest,zz3]
 have hexit:∀ ts,(∀ y∈t.take c,dP l y x)→Abs.cn ts 0=.view 1000000 [] 1 0 n→Abs.cn ts 1=.int .i64 a→Abs.cn ts 2=.int .i64 b→Abs.cn ts 3=.func 138 [.ref (enc l)]→Abs.cn ts 8=.int .i64 ((a+(k+1):Nat):Int)→∃ s':uO,(1≤s'.k∧s'.t.Perm (s.take s'.k)∧du l s'.t∧a+s'.k≤b+1)∧s.length-s'.k<s.length-k∧Abs.aF (au ts (cA 1000000 (eh p t rest x c))) (au [(0,.view 1000000 [] 1 0 n),(1,.int .i64 a),(2,.int .i64 b),(3,.func 138 [.ref (enc l)]),(8,.int .i64 ((a+s'.k:Nat):Int))] (cA 1000000 (p++s'.t++s.drop s'.k++q))):=fun ts h1 t0 t1 t2 t3 t8=>by
  obtain ⟨s',k1,k2,k3,k4⟩:=a7 c hc hgt h1;refine ⟨s',k1,k2,?_⟩;rw[k4,k3];refine aF.c8 ?_ (fun n=>rfl);simp only[aX,t0,t1,t2,t3,t8,and_self]
 have hw:=fw (i:=a+k) (by omega);have hws:(eh p t rest x c).length=p.length+t.length+1+rest.length:=xk (by omega);simp only[cA] at hexit ⊢;cases c with
 |zero =>
  have hc0:decide ((a:Int)<((a+0:Nat):Int))=false:=by simp
  have R:=v6 @hc0 (v6 @hw (v6 @aZ @ab))
  repeat' ((first |(with_reducible refine .guard (fun hb =>?_) (fun hb =>?_) <;>try simp only[hb])|refine J.aT (by decide +kernel) rfl fun K hK =>?_|(refine .aH [0,1,2,3,8,9,14,34] hK ?_;clear hK K)|(with_reducible refine .done (hK _ ?_);clear hK K)|refine J.of rfl ?_|(with_reducible refine aq.aQ (fun h =>?_) (fun h =>?_) <;>try simp only[h])) <;>try simp only[aU,R,simprocAttr])
  all_goals clear R
  exact hexit _ (by simp) rfl rfl rfl rfl rfl
 |succ c =>
  have hct:c<t.length:=by omega
  have hc0:decide ((a:Int)<((a+(c+1):Nat):Int))=true:=by simp;omega
  have wd:IntKind.i64.wrap (((a+(c+1):Nat):Int)-1)=((a+c:Nat):Int):=by rw[cE _ (by omega) (by omega)];omega
  have gx:=agu (p:=p) (t:=t) (rest:=rest) (x:=x) (c:=c+1) ha (by omega);have gy:=agv (p:=p) (t:=t) (rest:=rest) (x:=x) (c:=c) ha hct;have hstep:=JB (p:=p) (t:=t) (rest:=rest) (x:=x) (c:=c) ha hct;obtain ⟨hyS,hyx⟩:=htS t[c] (zy9 _);have hcmp:=rZ l hd hl x t[c] hxS hyS;generalize hws0:eh p t rest x (c+1)=ws at *;have hi1:a+(c+1)<n:=by omega
  have hj1:a+c<n:=by omega
  obtain ⟨i1,hi1e⟩:∃ i1,i1=a+(c+1):=⟨_,rfl⟩
  obtain ⟨j1,hj1e⟩:∃ j1,j1=a+c:=⟨_,rfl⟩
  have hij:a+c+1=i1:=by omega
  rw[hij] at hstep;rw[←hi1e] at hi1 gx hc0 wd ⊢;rw[←hj1e] at hj1 gy wd hstep;have v1:=jx (n:=n) (i:=i1) hi1;have v2:=jx (n:=n) (i:=j1) hj1;have l1:=gP (xs:=ws) (i:=i1) (by omega);have l2:=gP (xs:=ws) (i:=j1) (by omega);have s1:=fun (A:ae) v u rest=>nQ (A:=A) (n:=1000000) (xs:=ws) (i:=i1) (by omega) v u rest;obtain ⟨ws2,hws2⟩:∃ ws2,ws2=ws.set i1 (ws.getD j1 0):=⟨_,rfl⟩
  have hw2l:ws2.length=ws.length:=by rw[hws2];simp
  have s2:=fun (A:ae) v u rest=>nQ (A:=A) (n:=1000000) (xs:=ws2) (i:=j1) (by omega) v u rest;have l3:=gP (xs:=ws2) (i:=j1) (by omega);rw[gx] at l1;rw[gy] at l2;rw[gy] at hws2;have hst2:ws2.set j1 x=eh p t rest x c:=by rw[←hstep];simp only[kA,gx,gy,←hws2]
  cases hlt:decide (gm l x-gm l t[c]<0) with
  |true =>
   have R:=v6 @hc0 (v6 @hw (v6 @wd (v6 @v1 (v6 @v2 (v6 @l1 (v6 @l2 (v6 @l3 (v6 @s1 (v6 @s2 (v6 @hst2 (v6 @hlt (v6 @eQ (v6 @eb (v6 @aZ @ab))))))))))))))
   repeat' ((first |(with_reducible refine .guard (fun hb =>?_) (fun hb =>?_) <;>try simp only[hb])|refine J.aT (by decide +kernel) rfl fun K hK =>?_|refine .flat _ (hcmp) rfl ?_|(refine .aH [0,1,2,3,8,9,14,34] hK ?_;clear hK K)|(with_reducible refine .done (hK _ ?_);clear hK K)|refine J.of rfl ?_|(with_reducible refine aq.aQ (fun h =>?_) (fun h =>?_) <;>try simp only[h])) <;>try simp only[aU,R,←hws2,zy0,simprocAttr])
   all_goals clear R
   refine ⟨c,⟨by omega,fun y hy =>?_⟩,by omega,?_⟩
   ·rw[zv7 hct] at hy;rcases zw4.1 hy with rfl | hy
    ·rw[tk hyx];simp at hlt;omega
    ·exact hgt y hy
   ·rw[hj1e];refine aF.c8 ?_ (fun n =>?_)
    ·simp[aX,aY]
    ·simp only[ak];split <;>rfl
  |false =>
   have R:=v6 @hc0 (v6 @hw (v6 @wd (v6 @v1 (v6 @v2 (v6 @l1 (v6 @l2 (v6 @hlt (v6 @eQ (v6 @eb (v6 @aZ @ab))))))))))
   repeat' ((first |(with_reducible refine .guard (fun hb =>?_) (fun hb =>?_) <;>try simp only[hb])|refine J.aT (by decide +kernel) rfl fun K hK =>?_|refine .flat _ (hcmp) rfl ?_|(refine .aH [0,1,2,3,8,9,14,34] hK ?_;clear hK K)|(with_reducible refine .done (hK _ ?_);clear hK K)|refine J.of rfl ?_|(with_reducible refine aq.aQ (fun h =>?_) (fun h =>?_) <;>try simp only[h])) <;>try simp only[aU,R,zy0,simprocAttr])
   all_goals clear R
   exact hexit _ (aj2 g3 hct (tj hyx (by simp at hlt;omega))) rfl rfl rfl rfl rfl
def nA(key:Nat→Int)(a b:Nat):Prop:=key a<key b∨(key a=key b∧a<b)
theorem xj(key:Nat→Int)(i:Nat)(o:List Nat):(iZ key i o).Perm (i::o):=by
 have h:(o.takeWhile fun k=>decide (key k≤key i))++(o.dropWhile fun k=>decide (key k≤key i))=o:=List.takeWhile_append_dropWhile;have:=(List.perm_middle (a:=i) (l₁:=o.takeWhile fun k=>decide (key k≤key i)) (l₂:=o.dropWhile fun k=>decide (key k≤key i)))
 rw[h] at this;exact this
theorem JA(key:Nat→Int)(i:Nat):∀ o:List Nat,o.Pairwise (nA key)→(∀ x∈o,x<i)→(iZ key i o).Pairwise (nA key)
 | [],_,_=>by simp[iZ]
 |a::o,hs,hi=>by
  obtain ⟨h1,h2⟩:=List.pairwise_cons.1 hs;by_cases ha:key a≤key i
  ·have e:iZ key i (a::o)=a::iZ key i o:=by simp[iZ,ha]
   rw[e];refine List.pairwise_cons.2 ⟨fun b hb =>?_,JA key i o h2 fun x hx=>hi x (by simp[hx])⟩;rcases zw4.1 ((xj key i o).mem_iff.1 hb) with rfl | hb
   ·have:=hi a (by simp);simp only[nA];omega
   ·exact h1 b hb
  ·have e:iZ key i (a::o)=i::a::o:=by simp[iZ,ha]
   rw[e];refine List.pairwise_cons.2 ⟨fun b hb =>?_,hs⟩;rcases zw4.1 hb with rfl | hb
   ·simp only[nA];omega
   ·have:=h1 b hb;simp only[nA] at *;omega
theorem tO(key:Nat→Int):∀ (l o:List Nat),o.Pairwise (nA key)→l.Pairwise (· < ·)→(∀ x∈o,∀ y∈l,x<y)→(l.foldl (fun o i=>iZ key i o) o).Perm (o++l)∧(l.foldl (fun o i=>iZ key i o) o).Pairwise (nA key)
 | [],o,ho,_,_=>by simp[ho]
 |i::l,o,ho,hl,hx=>by
  obtain ⟨h1,h2⟩:=List.pairwise_cons.1 hl;have:=tO key l (iZ key i o) (JA key i o ho fun x h=>hx x h i (by simp)) h2 fun x h y hy=>by
   rcases zw4.1 ((xj key i o).mem_iff.1 h) with rfl | h
   ·exact h1 y hy
   ·exact hx x h y (by simp[hy])
  refine ⟨this.1.trans ?_,this.2⟩;exact ((xj key i o).append_right l).trans List.perm_middle.symm
def cN(l:List Nat):List Int:=l.map fun n:Nat=>(n:Int)
def lE(l:List av)(day known:Int):List Int:=cN (jt l day known)
def p7(l:List av)(day known:Int):List Int:=cN (jE l day known)
theorem akg(l:List av)(known:Int):(eJ l known).Pairwise (· < ·):=List.Pairwise.filter _ List.pairwise_lt_range
theorem N8{l:List av}{known:Int}{i:Nat}(h:i∈eJ l known):i<l.length:=by
 simp only[eJ,zw9,zx5] at h;exact h.1
theorem sD(l:List av)(day known:Int):(jt l day known).Pairwise (· < ·):=List.Pairwise.filter _ (akg l known)
theorem CN{l:List av}{day known:Int}{i:Nat}(h:i∈jt l day known):i<l.length:=N8 (zw9.1 h).1
theorem X5(l:List av)(day known:Int):(lE l day known).Pairwise (· < ·):=by
 refine List.pairwise_map.2 ((sD l day known).imp fun {a b} h =>?_)
 show (a:Int)<(b:Int)
 omega
theorem X4{l:List av}{day known:Int} : ∀ x∈lE l day known,jw l x:=fun x hx=>by
 obtain ⟨i,hi,rfl⟩:=zx4.1 hx;have:=CN hi;exact ⟨by omega,by omega⟩
theorem vy(l:List av)(day known:Int):(jt l day known).length≤l.length:=by
 have h1:=zv4 (fun i=>decide ((af l i).kind≠0)&&decide ((af l i).day≤day)) (eJ l known);have h2:=zv4 (fun i=>(ik l known).getD i false) (List.range l.length);rw[List.length_range] at h2;exact zv8 h1 h2
theorem aiR{l:List av}{day known:Int}{s:List Int}(hp:s.Perm (lE l day known))(hs:du l s):s=p7 l day known:=by
 have h0:=tO (fun i=>(af l i).day) (jt l day known) [] (by simp) (sD l day known) (by simp);have h1:(p7 l day known).Perm (lE l day known):=h0.1.map _;have h2:du l (p7 l day known):=by
  refine List.pairwise_map.2 (h0.2.imp fun {a b} h =>?_);simp only[nA] at h;simp only[dP,gm,Int.toNat_natCast];omega
 refine List.Perm.eq_of_pairwise (fun a b _ _ h k =>?_) hs h2 (hp.trans h1.symm);simp only[dP] at h k;omega
theorem aiT{l:List av}{day known:Int}{i:Nat}(h:i∈jE l day known):i∈jt l day known:=by
 have h0:=tO (fun i=>(af l i).day) (jt l day known) [] (by simp) (sD l day known) (by simp);exact h0.1.mem_iff.1 h
theorem K8(l:List av)(day known:Int):(jE l day known).length=(jt l day known).length:=by
 have h0:=tO (fun i=>(af l i).day) (jt l day known) [] (by simp) (sD l day known) (by simp);exact h0.1.length_eq
theorem ais{x:av}(h:gi x=true):0≤x.day∧x.day≤100000:=by
 simp only[gi,bS,zz2,decide_eq_true_eq] at h;omega
theorem N7(l:List av)(known:Int):(ik l known).length=l.length:=yW known l
theorem Pr(el:List av):aD Tryz.prog 203 [enc ([]:List Int),.int .i64 0,.int .i64 0,.func 138 [.ref (enc el)]] (.tuple []):=by
 refine aD.bA Tryz.func203 Ci Cp CB (t7 rfl) (fun hwf W0 D0 E1 =>?_);simp only[u6,yr,bp,zz4,Nat.reduceAdd];clear hwf;have hc:decide ((1:Int)<0)=false:=by decide
 have hw:IntKind.i64.wrap 1=1:=by decide
 refine .ao (by decide +kernel) fun K hK =>?_;simp only[wE,ab,Nat.reduceEqDiff,reduceIte];refine .done (hK _ ?_);clear hK K;refine J.block (J.loop (fun _:Unit=>au [(2,.int .i64 0),(8,.int .i64 1)] []) (fun _=>True) (fun _=>0) () trivial ?_ (fun _ _ =>?_))
 ·refine aF.bM ?_ ?_ ?_ ?_ <;>simp[*,aX,bK,bJ,a8,aY,I.only]
 have R:=v6 @hc (v6 @kJ (v6 @bG (v6 @aZ @ab)))
 repeat' ((first |(with_reducible refine .guard (fun hb =>?_) (fun hb =>?_) <;>try simp only[hb])|refine J.aT (by decide +kernel) rfl fun K hK =>?_|(refine .aH [0,1,2,3,8,9,14,34] hK ?_;clear hK K)|(with_reducible refine .done (hK _ ?_);clear hK K)|refine J.of rfl ?_|(with_reducible refine aq.aQ (fun h =>?_) (fun h =>?_) <;>try simp only[h])) <;>try simp only[aU,R,Nat.reduceEqDiff,reduceIte,Nat.reduceBEq])
 all_goals clear R
 rfl
theorem Pc(el:List av):aD Tryz.prog 171 [enc ([]:List Int),.int .i64 0,.func 138 [.ref (enc el)]] (.tuple []):=by
 refine aD.bA Tryz.func171 Cf Cn Cz (t7 rfl) (fun hwf W0 D0 E1 =>?_);simp only[u4,yp,bp,zz4,Nat.reduceAdd];clear hwf;have hc:decide ((20:Int)≤0)=false:=by decide
 have hc2:decide ((20:Int)<0)=false:=by decide
 refine .ao (by decide +kernel) fun K hK =>?_;simp only[wq,ab];refine .done (hK _ ?_);clear hK K;refine .ao (by decide +kernel) fun K hK =>?_;simp only[wu,ab,Nat.reduceEqDiff,reduceIte];refine .done (hK _ ?_);clear hK K;refine J.seq (J.block (J.loop (fun _:Unit=>au [(0,enc ([]:List Int)),(1,.int .i64 0),(2,.func 138 [.ref (enc el)]),(6,.int .i64 20),(7,.int .i64 0),(8,.int .i64 20)] []) (fun _=>True) (fun _=>0) () trivial ?_ (fun _ _ =>?_)))
 ·refine aF.bM ?_ ?_ ?_ ?_ <;>simp[aX,bK,bJ,a8,aY,I.only,I.bU,bt]
 have R:=v6 @hc (v6 @kJ (v6 @bG (v6 @aZ @ab)))
 repeat' ((first |(with_reducible refine .guard (fun hb =>?_) (fun hb =>?_) <;>try simp only[hb])|refine J.aT (by decide +kernel) rfl fun K hK =>?_|refine .lead _ (Pr el) ?_|(refine .aH [0,1,2,6,7,8,9,13,30,35,54] hK ?_;clear hK K)|(with_reducible refine .done (hK _ ?_);clear hK K)|refine J.of rfl ?_|(with_reducible refine aq.aQ (fun h =>?_) (fun h =>?_) <;>try simp only[h])) <;>try simp only[aU,R,Nat.reduceEqDiff,reduceIte,Nat.reduceBEq])
 all_goals clear R
 refine J.loop (fun _:Unit=>au [(0,enc ([]:List Int)),(1,.int .i64 0),(2,.func 138 [.ref (enc el)]),(6,.int .i64 20)] []) (fun _=>True) (fun _=>0) () trivial ?_ (fun _ _ =>?_)
 ·refine aF.bM ?_ ?_ ?_ ?_ <;>simp[aX,bK,bJ,a8,aY,I.only,I.bU,bt]
 have R:=v6 @hc2 (v6 @kJ (v6 @bG (v6 @aZ @ab)))
 repeat' ((first |(with_reducible refine .guard (fun hb =>?_) (fun hb =>?_) <;>try simp only[hb])|refine J.aT (by decide +kernel) rfl fun K hK =>?_|(refine .aH [0,1,2,6,7,8,9,13,30,35,54] hK ?_;clear hK K)|(with_reducible refine .done (hK _ ?_);clear hK K)|refine J.of rfl ?_|(with_reducible refine aq.aQ (fun h =>?_) (fun h =>?_) <;>try simp only[h])) <;>try simp only[aU,R,Nat.reduceEqDiff,reduceIte,Nat.reduceBEq])
 all_goals clear R
 rfl
theorem OV(el:List av):aD Tryz.prog 137 [enc ([]:List Int),.func 138 [.ref (enc el)]] (.tuple []):=by
 refine aD.bA Tryz.func137 Ce Cm Cy (t7 rfl) (fun hwf W0 D0 E1 =>?_);simp only[u3,yn,bp,zz4];clear hwf;have hz:(([]:List Int).length:Int)=0:=rfl;have R:=v6 @hz (v6 @kJ (v6 @bG (v6 @aZ @ab)))
 repeat' ((first |(with_reducible refine .guard (fun hb =>?_) (fun hb =>?_) <;>try simp only[hb])|refine J.aT (by decide +kernel) rfl fun K hK =>?_|refine .lead _ (Pc el) ?_|(refine .aH [0,1] hK ?_;clear hK K)|(with_reducible refine .done (hK _ ?_);clear hK K)|refine J.of rfl ?_|(with_reducible refine aq.aQ (fun h =>?_) (fun h =>?_) <;>try simp only[h])) <;>try simp only[R,Nat.reduceEqDiff,reduceIte])
 all_goals clear R
 rfl
def ajE(l:List ca):Prop:=∀ (i j:Nat) (hi:i<l.length) (hj:j<l.length),i<j→l[i].bP<l[j].bP
theorem akY{m:b7}(h:ez m=true):ajE m.given:=by
 simp only[ez,zz2,zy8,zx5] at h;have h1:∀ i,i+1<m.given.length→(c4 m i).bP<(c4 m (i+1)).bP:=fun i hi=>by
  have:=h.2.2.2 (i+1) hi;simp only[gI,zz2] at this;simpa using this.2.2.1
 intro i j hi hj hij;obtain ⟨d,rfl⟩:∃ d,j=i+1+d:=⟨j-(i+1),by omega⟩
 induction d with
 |zero=>rw[ju hi,ju hj];exact h1 i hj
 |succ d ih =>
  have hj':i+1+d<m.given.length:=by omega
  have:=ih hj' (by omega);rw[ju hi,ju hj'] at this;rw[ju hi,ju hj];have h3:=h1 (i+1+d) hj;have e:i+1+(d+1)=i+1+d+1:=by omega
  rw[e];omega
theorem KJ{m:b7}(h:ez m=true):m.given.length≤40:=by
 simp only[ez,zz2,decide_eq_true_eq] at h;exact h.2.2.1
theorem KM{m:b7}(h:ez m=true):∀ g∈m.given,dV g.mark=true:=fun g hg=>by
 simp only[ez,zz2,zy8,zx5] at h;obtain ⟨i,hi,rfl⟩:=List.getElem_of_mem hg;rw[ju hi];exact x6 (h.2.2.2 i hi)
theorem Pp(m:b7)(r:aR 6 Int)(g:ca)(hg:dV g.mark=true):aD Tryz.prog 201 (enc g::[.ref (enc m),.ref (enc r)]) (enc (decide (m.eP<lB m.eR g.mark r))):=by
 refine aD.bA Tryz.func201 R5 TW V2 (t7 rfl) (fun hwf W0 D0 E1 =>?_);simp only[Br,Mo,bp,zz4,Nat.reduceAdd];refine .ao (by decide +kernel) fun K hK =>?_;simp only[GM,ab,simprocAttr]
 try simp only[dO,ab,simprocAttr]
 refine .done (hK _ ?_);clear hK K;refine .ao (by decide +kernel) fun K hK =>?_;simp only[GN,ab,simprocAttr]
 try simp only[cG,cZ,ab,simprocAttr]
 refine .flat _ (Pq m.eR g.mark r hg) rfl ?_
 try simp only[cG,ab,simprocAttr]
 refine .done (hK _ ?_);clear hK K;refine J.ret ?_;simp only[ab,simprocAttr]
def kV(m:b7)(r:aR 6 Int):List ca:=fR (fun g=>decide (m.eP<lB m.eR g.mark r)) m.given
def Li(d:Nat)(m:b7)(r:aR 6 Int):cT:=fun x os'=>(kV m r=[]∧x=enc ([]:List ca)∧os'=[])∨∃ k,x=.view d [] 7 0 (kV m r).length∧os'=iJ d (kV m r) k
theorem O9(m:b7)(r:aR 6 Int)(hm:∀ g∈m.given,dV g.mark=true)(hlen:m.given.length≤1000):cD Tryz.prog 168 [enc m,enc r] [] (Li 7 m r):=by
 refine cD.bA Tryz.func168 RO TE VK (t7 rfl) (t7 rfl) (fun m hm=>by simp[al,ak] at hm) (fun hwf W0 D0 E1 =>?_);simp only[A9,L6,bp,zz4];refine .ao (by decide +kernel) fun K hK =>?_;simp only[FU,ab,simprocAttr]
 try simp only[dO,ab,simprocAttr]
 refine .done (hK _ ?_);clear hK K;refine .ao (by decide +kernel) fun K hK =>?_;simp only[FV,ab,simprocAttr]
 try simp only[cG,cZ,ab,simprocAttr]
 refine .bT false [(7,7)] [] [enc m.given] (vk m.given) rfl (zq m.given hlen) fZ.nil ⟨.inl ⟨(kg _ _).symm,bt _ _,dO _⟩,trivial⟩ ?_ ?_
 ·rintro x os' (⟨_,h | h,rfl⟩ | ⟨_,k,rfl,rfl⟩)
  ·subst h;exact eK.nil (fun _=>rfl) (fun h=>by cases h)
  ·subst h;exact eK.nil (fun _=>rfl) (fun h=>by cases h)
  ·exact eK.tx (fun p=>mE p _) (fun h=>by cases h) rfl (fun h=>by cases h) rfl (by decide)
 ·have hd:I.eV [.ref (enc m),.ref (enc r)]=true:=by simp only[I.eV,I.done,eb,zw3]
  rintro x os' (⟨hn,h,rfl⟩ | ⟨hn,k,rfl,rfl⟩)
  ·have hp:kV m r=[]:=by simp[kV,fR,hn]
   have key:∀ x,(x=.nils 7∨x=.c0 7)→a7 true (au [] []) x=some (enc ([]:List ca)):=by rintro x (rfl | rfl) <;>rfl
   have hren:∀ x:I,(x=.nils 7∨x=.c0 7)→x.aK (bx [(7,7)])=x∧x.b8=true:=by rintro x (rfl | rfl) <;>exact ⟨by simp only[I.aK],rfl⟩
   rw[(hren x h).1]
   try simp only[jF,zy6,List.all_cons,List.all_nil,I.b8,zw3,ab,simprocAttr]
   have hfx:∀ A,a7 true A x=some (enc ([]:List ca)):=fun A=>by rcases h with rfl | rfl <;>simp only[a7,gn,zx1] <;>rfl
   refine .ib [2,3] (enc ([]:List ca)) rfl (Po 201 [.ref (enc m),.ref (enc r)] hd) ?_ ?_ ?_
   ·try simp only[hfx,iC,zw1,zv9,List.contains_cons,Nat.reduceBEq,Bool.or_true,Bool.true_or,BEq.rfl,eb,ab,simprocAttr]
   ·simp[db,a8]
   ·try simp only[gF,db,zw1,zv9,List.contains_cons,Nat.reduceBEq,Bool.or_true,Bool.true_or,BEq.rfl,zz9,zx1,ab,simprocAttr]
    refine .done (hK _ ?_);clear hK K;refine J.ret ?_;simp only[fI];exact ⟨[],[enc ([]:List ca)],pI,⟨⟨_,rfl,.inl ⟨rfl,rfl,rfl⟩⟩,trivial⟩,.inl ⟨hp,rfl,rfl⟩⟩
  ·try simp only[iJ,jF,gM,zy0,zy6,List.all_cons,List.all_nil,I.b8,zw3,ab,simprocAttr]
   refine .bT true [(1000000,7)] (iJ 1000000 m.given k) [.view 1000000 [] 7 0 m.given.length,.func 201 [.ref (enc m),.ref (enc r)]] (CG 1000000 (kV m r)) rfl
    (Pn m.given 201 [.ref (enc m),.ref (enc r)] hd (fun g=>decide (m.eP<lB m.eR g.mark r)) (fun g hg=>Pp m r g (hm g hg)) hlen k) ⟨?_,?_⟩ ⟨.inl ⟨?_,?_,rfl⟩,.inr ?_,trivial⟩ ?_ ?_
   ·intro n x h;simp only[iJ,ak] at h;split at h
    ·rename_i hn';subst hn';simp only[u8] at h;subst h;exact ⟨by simp only[jF,gM,ab,simprocAttr],mE _ _,rfl⟩
    ·cases h
   ·intro a b ha hb _;rw[dy.1 ha,dy.1 hb]
   ·try simp only[jF,simprocAttr]
   ·exact dy.2 rfl
   ·try simp only[jW,iJ,bx,db,zw1,zv9,zz9,zx1,List.contains_cons,List.contains_nil,Nat.reduceBEq,Bool.or_false,BEq.rfl,eb,ab,simprocAttr]
   ·rintro x os' ⟨k',rfl,rfl⟩;exact eK.one (fun p=>mE p _) (fun _=>ahc _) (dy.2 rfl) (fun _=>rfl)
   ·rintro x os' ⟨k',rfl,rfl⟩
    try simp only[iJ,jF,gM,zy0,zy6,ab,simprocAttr]
    refine .done (hK _ ?_);clear hK K;refine J.ret ?_;simp only[fI];exact ⟨iJ 7 (kV m r) k',[.view 7 [] 7 0 (kV m r).length],nk rfl (fun p=>mE p _),⟨⟨_,rfl,.inl ⟨rfl,rfl,rfl⟩⟩,trivial⟩,.inr ⟨k',rfl,rfl⟩⟩
def kU(l:List ca)(i:Nat):List Int:=(l.take i).map (·.bP)
theorem aiW(l:List ca):kU l 0=[]:=by simp[kU]
theorem aiV{l:List ca}{i:Nat}(h:i<l.length):kU l (i+1)=kU l i++[l[i].bP]:=by
 simp only[kU];rw[zy3 h,zx6];rfl
theorem K9{l:List ca}{i:Nat}(h:i≤l.length):(kU l i).length=i:=by simp[kU];omega
theorem aiU(l:List ca):kU l l.length=l.map (·.bP):=by simp[kU]
theorem Pa(l:List ca)(hlen:l.length≤1000):aD Tryz.prog 169 [enc l] (enc (l.map (·.bP))):=by
 refine aD.bA Tryz.func169 RP TF VL (t7 rfl) (fun hwf W0 D0 E1 =>?_);simp only[Ba,L7,bp];refine .ao (by decide +kernel) fun K hK =>?_;simp only[FW,ab,simprocAttr];refine .done (hK _ ?_);clear hK K;refine .ao (by decide +kernel) fun K hK =>?_;simp only[FX,ab,simprocAttr];refine .done (hK _ ?_);clear hK K;refine J.seq ?_;refine J.seq (J.bu (by decide +kernel) fun K hK =>?_)
 try simp only[FY,bG,ab,simprocAttr]
 refine .done (hK _ ?_);clear hK K;refine J.block (J.loop (fun i:Nat=>au [(3,.own 3 (kU l i).length),(6,enc l),(7,.int .i64 l.length),(8,.int .i64 i)] [(3,.bX 3 1 ((kU l i).map enc))]) (fun i=>i≤l.length) (fun i=>l.length-i) 0 (zw7 _) ?_ (fun i hi =>?_))
 ·refine aF.qu 3 3 3 1 1 ?_ ?_ ?_
  ·simp only[pd,Nat.reduceEqDiff,reduceIte]
  ·simp only[pd]
  ·simp only[aiW,zx1,List.length_nil];refine aF.bM ?_ ?_ ?_ ?_ <;>simp[aX,bK,bJ,a8,al,aY,cu,I.only,I.bU,ai.only,bt]
 ·refine .ao (by decide +kernel) fun K hK =>?_;simp only[FZ,ab,simprocAttr];refine .done (hK _ ?_);clear hK K;refine J.seq ?_;refine J.bH ?_;simp only[aq,ab,simprocAttr];refine ⟨fun h =>?_,fun h =>?_⟩
  ·have hlt:i<l.length:=by simpa using h
   refine J.skip ?_;try simp only[ar,simprocAttr]
   refine J.seq (J.block ?_);refine .ao (by decide +kernel) fun K hK =>?_;simp only[F0,ab,simprocAttr]
   try simp only[fH 7 hlt rfl,cG,ab,simprocAttr]
   rw[eg (dO _) (by rw[fQ];rfl) ((eO _).trans rfl)]
   try simp only[ab,simprocAttr]
   refine .done (hK _ ?_);clear hK K;refine .bu (by decide +kernel) fun K hK =>?_;simp only[F1,ab,simprocAttr]
   try simp only[cG,ab,simprocAttr]
   rw[m7 3 1 8 3 rfl rfl (by simp) (by simp[maxLen,K9 hi];omega) (by simp[K9 hi];omega)]
   try simp only[ab,simprocAttr]
   refine .done (hK _ ?_);clear hK K;try simp only[ar,bL]
   refine .bu (by decide +kernel) fun K hK =>?_;simp only[F2,ab,simprocAttr];refine .done (hK _ ?_);clear hK K;try simp only[ar]
   refine ⟨i+1,by omega,by omega,?_⟩;rw[cE _ (by omega) (by omega),aiV hlt];refine aF.bM ?_ ?_ ?_ ?_ <;>simp[aX,bK,bJ,a8,al,aY,cu,I.only,I.bU,ai.only,ej,gz,bt,gT]
  ·have hge:i=l.length:=by simp at h;omega
   subst hge;refine J.exit ?_;try simp only[ar,bL,simprocAttr]
   refine .ao (by decide +kernel) fun K hK =>?_;simp only[F3,ab,simprocAttr];refine .done (hK _ ?_);clear hK K;refine J.ret ?_
   try simp only[aiU,ab,simprocAttr]
end Go.Proofs.YtcldiigclhgafaaGreat
