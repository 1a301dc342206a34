/-
  A part of the proof that the law HerdTrue returns true for every input; conditions: none beyond the statement's own. (part 4 of 7)
-/
import Derived.Shelf.Sort.Plain
import Derived.Shelf.Slices.In.SortNone
import Derived.Test.YtcldiigclhgafaaGreatNlc
set_option linter.unusedSimpArgs false
set_option linter.unusedVariables false
set_option maxHeartbeats 16000000
set_option maxRecDepth 100000
namespace Go.Proofs.YtcldiigclhgafaaGreat
open Go Go.Abs
open Go.Abs.Enc (enc)
def fj(w:Int)(k:Nat):Bool:=kS w (shl 1 k) != 0
def gm(w:Int):Nat→List Int
 |0=>[]
 |k+1=>gm w k++if fj w k then [(k:Int)] else []
theorem xd(w:Int):∀ k,(gm w k).length≤k
 |0=>zz6 _
 |k+1=>by
  have:=xd w k;simp only[gm,zz5];split <;>simp <;>omega
theorem Ou(w:Int):aC Tryz.prog 141 [enc w] (enc (gm w 5)):=by
 refine aC.bu Tryz.func141 Rh S3 U6 (t7 rfl) (fun hwf W0 D0 E1 =>?_);simp only[Al,Ll,bj];refine .ak (by decide +kernel) fun K hK =>?_;simp only[Ep,J,simprocAttr];refine .done (hK _ ?_);clear hK K;refine .ak (by decide +kernel) fun K hK =>?_;simp only[Er,J,simprocAttr];refine .done (hK _ ?_);clear hK K;refine U.seq (U.seq ?_);refine .bd (by decide +kernel) fun K hK =>?_;simp only[Es,J,simprocAttr];refine .done (hK _ ?_);clear hK K;try simp only[al]
 refine U.block (U.loop (fun i:Nat=>ar [(0,.int .i64 w),(2,.nils 1),(3,.own 3 (gm w i).length),(4,.int .i64 i)] [(3,.bT 3 1 ((gm w i).map enc))]) (fun i=>i≤5) (fun i=>5-i) 0 (by omega) ?_ (fun i hi =>?_))
 ·refine aF.rF 3 3 3 1 1 ?_ ?_ ?_
  ·simp only[oF,Nat.reduceEqDiff,reduceIte]
  ·simp only[oF]
  ·simp only[gm,zx2,List.length_nil];refine aF.bY ?_ ?_ ?_ ?_ <;>simp[aV,bO,bM,br,aq,aW,ct,I.only,I.b8,ah.only]
 ·refine U.seq (U.seq ?_);refine .bd (by decide +kernel) fun K hK =>?_;simp only[Et,J,simprocAttr];refine .done (hK _ ?_);clear hK K;try simp only[al]
  refine U.bx ?_;simp only[au,J,simprocAttr];refine ⟨fun h =>?_,fun h =>?_⟩
  ·have hlt:i<5:=by simp at h;omega
   have hml:=xd w i;refine U.skip ?_;try simp only[al,simprocAttr]
   refine U.seq (U.block ?_);refine .ak (by decide +kernel) fun K hK =>?_;simp only[Eu,J,simprocAttr];refine .done (hK _ ?_);clear hK K;refine U.bx ?_;simp only[au,J,simprocAttr];refine ⟨fun h =>?_,fun h =>?_⟩
   ·have hb:fj w i=true:=h;refine .bd (by decide +kernel) fun K hK =>?_;simp only[Ev,J,simprocAttr];rw[nB 3 1 8 3 rfl rfl (by simp) (by simp[maxLen];omega) (by simp;omega)]
    try simp only[J,simprocAttr]
    refine .done (hK _ ?_);clear hK K;try simp only[al,bJ]
    refine .bd (by decide +kernel) fun K hK =>?_;simp only[vH,J,simprocAttr];refine .done (hK _ ?_);clear hK K;try simp only[al]
    refine ⟨i+1,by omega,by omega,?_⟩;rw[cA _ (by omega) (by omega)];simp only[gm,hb,reduceIte];refine aF.bY ?_ ?_ ?_ ?_ <;>simp[aV,bO,bM,br,aq,aW,ct,I.only,I.b8,ah.only,fe,kD,jx]
   ·have hb:fj w i=false:=h;refine U.skip ?_;try simp only[al,bJ,simprocAttr]
    refine .bd (by decide +kernel) fun K hK =>?_;simp only[vH,J,simprocAttr];refine .done (hK _ ?_);clear hK K;try simp only[al]
    refine ⟨i+1,by omega,by omega,?_⟩;rw[cA _ (by omega) (by omega)];simp only[gm,hb,reduceIte,zz7,zw1];refine aF.bY ?_ ?_ ?_ ?_ <;>simp[aV,bO,bM,br,aq,aW,ct,I.only,ah.only,fe]
  ·have hge:i=5:=by simp at h;omega
   subst hge;refine U.exit ?_;try simp only[al,bJ,simprocAttr]
   refine .ak (by decide +kernel) fun K hK =>?_;simp only[Ew,J,simprocAttr];refine .done (hK _ ?_);clear hK K;refine U.ret ?_
   try simp only[J,simprocAttr]
theorem Ps(m:aI 5 Int):aC Tryz.prog 99 [enc m] (enc (if (List.range 5).all (fun i=>cm 0 31 (m.g i)&&fj (m.g i) i) then (0:Int) else 11)):=by
 refine aC.bu Tryz.func99 Sw Um Wm (t7 rfl) (fun hwf W0 D0 E1 =>?_);simp only[BG,MD,bj];refine .ak (by decide +kernel) fun K hK =>?_;simp only[I3,J,simprocAttr];refine .done (hK _ ?_);clear hK K;refine U.seq ?_;refine .ak (by decide +kernel) fun K hK =>?_;simp only[I4,J,simprocAttr];refine .done (hK _ ?_);clear hK K;refine U.block (U.loop (fun i:Nat=>ar [(1,.ptr 1 []),(2,.int .i64 0),(3,.int .i64 i)] [(1,.box (enc m))]) (fun j=>j≤5∧∀ i,i<j→(cm 0 31 (m.g i)&&fj (m.g i) i)=true) (fun i=>5-i) 0 ⟨by omega,fun k h=>by omega⟩ ?_ (fun i hi =>?_))
 ·refine aF.bY ?_ ?_ ?_ ?_ <;>simp[aV,bO,bM,br,aq,aW,ct,I.only,ah.only,bA]
 ·refine U.seq (U.seq ?_);refine .bd (by decide +kernel) fun K hK =>?_;simp only[I5,J,simprocAttr];refine .done (hK _ ?_);clear hK K;try simp only[al]
  refine U.bx ?_;simp only[au,J,simprocAttr];refine ⟨fun h =>?_,fun h =>?_⟩
  ·have hlt:i<5:=by simp at h;omega
   refine U.skip ?_;try simp only[al,simprocAttr]
   refine U.seq (U.block ?_);refine .ak (by decide +kernel) fun K hK =>?_;simp only[I6,J,simprocAttr]
   try simp only[bP,iI 1 m hlt rfl,fF m hlt,J,simprocAttr]
   refine .flat _ (uf _ 0 31) rfl ?_;generalize hb:(decide (0≤m.g i)&&decide (m.g i≤31))=b;cases b
   ·try simp only[J,simprocAttr]
    refine .done (hK _ ?_);clear hK K;refine U.bx ?_;simp only[au,J,simprocAttr];refine ⟨fun h =>?_,fun h =>?_⟩
    ·refine .ak (by decide +kernel) fun K hK =>?_;simp only[wg,J,simprocAttr];refine .done (hK _ ?_);clear hK K;refine U.ret ?_;simp only[bJ,al,J,simprocAttr];rw[mM i hlt]
     ·simp
     ·simp only[cm,hb,Bool.false_and]
    ·cases h
   ·try simp only[bP,iI 1 m hlt rfl,fF m hlt,J,simprocAttr]
    refine .done (hK _ ?_);clear hK K;refine U.bx ?_;simp only[au,J,simprocAttr];refine ⟨fun h =>?_,fun h =>?_⟩
    ·refine .ak (by decide +kernel) fun K hK =>?_;simp only[wg,J,simprocAttr];refine .done (hK _ ?_);clear hK K;refine U.ret ?_;simp only[bJ,al,J,simprocAttr];rw[mM i hlt]
     ·simp
     ·simp only[cm,hb,Bool.true_and,fj,kS,shl];simpa using h
    ·refine U.skip ?_;try simp only[al,bJ,simprocAttr]
     refine .bd (by decide +kernel) fun K hK =>?_;simp only[I7,J,simprocAttr];refine .done (hK _ ?_);clear hK K;try simp only[al]
     refine ⟨i+1,⟨by omega,fun k hk =>?_⟩,by omega,?_⟩
     ·by_cases hk':k=i
      ·subst hk';simp only[cm,hb,Bool.true_and,fj,kS,shl];simpa using h
      ·exact hi.2 k (by omega)
     ·rw[cA _ (by omega) (by omega)];refine aF.bY ?_ ?_ ?_ ?_ <;>simp[aV,bO,bM,br,aq,aW,ct,I.only,ah.only,bA]
  ·have hge:i=5:=by simp at h;omega
   subst hge;refine U.exit ?_;try simp only[al,bJ,simprocAttr]
   refine .ak (by decide +kernel) fun K hK =>?_;simp only[I8,J,simprocAttr];refine .done (hK _ ?_);clear hK K;refine U.ret ?_;simp only[J,simprocAttr];rw[oG hi.2];simp
theorem y5(a b:List Int):aC Tryz.prog 20 [enc a,enc b] (enc (decide (a=b))):=by
 refine aC.bu Tryz.func20 RQ TF VH (t7 rfl) (fun hwf W0 D0 E1 =>?_);simp only[AY,LY,bj,zz4];have hlen:a.length≤maxLen:=((kM a).1 hwf.1).1;simp only[maxLen] at hlen;refine .ak (by decide +kernel) fun K hK =>?_;simp only[GM,J,simprocAttr];refine .done (hK _ ?_);clear hK K;refine U.seq (U.seq ?_);refine .bd (by decide +kernel) fun K hK =>?_;simp only[GN,J,simprocAttr]
 try simp only[bP,J,simprocAttr]
 refine .done (hK _ ?_);clear hK K;try simp only[al]
 refine U.bx ?_;simp only[au,J,simprocAttr];refine ⟨fun h =>?_,fun h =>?_⟩
 ·refine .ak (by decide +kernel) fun K hK =>?_;simp only[GO,J,simprocAttr];refine .done (hK _ ?_);clear hK K;refine U.ret ?_;simp only[al,J,simprocAttr];simp at h;have:a≠b:=fun e=>h (by rw[e]);simp[this]
 ·have hab:a.length=b.length:=by simp at h;omega
  refine U.skip ?_;try simp only[al,simprocAttr]
  refine U.seq ?_;refine .ak (by decide +kernel) fun K hK =>?_;simp only[GP,J,simprocAttr];refine .done (hK _ ?_);clear hK K;refine U.block (U.loop (fun i:Nat=>ar [(0,enc a),(1,enc b),(5,.int .i64 i)] []) (fun i=>i≤a.length∧a.take i=b.take i) (fun i=>a.length-i) 0 ⟨zv4 _,by simp⟩ ?_ (fun i hi =>?_))
  ·refine aF.bY ?_ ?_ ?_ ?_ <;>simp[aV,bO,bM,br,aW,I.only,bA]
  ·refine U.seq (U.seq ?_);refine .bd (by decide +kernel) fun K hK =>?_;simp only[GQ,J,simprocAttr]
   try simp only[bP,J,simprocAttr]
   refine .done (hK _ ?_);clear hK K;try simp only[al]
   refine U.bx ?_;simp only[au,J,simprocAttr];refine ⟨fun h =>?_,fun h =>?_⟩
   ·have hlt:i<a.length:=by simpa using h
    have hlb:i<b.length:=by omega
    refine U.skip ?_;try simp only[al,simprocAttr]
    refine U.seq (U.block ?_);refine .ak (by decide +kernel) fun K hK =>?_;simp only[GR,J,simprocAttr]
    try simp only[fJ 1 hlt rfl,fJ 1 hlb rfl,J,simprocAttr]
    refine .done (hK _ ?_);clear hK K;refine U.bx ?_;simp only[au,J,simprocAttr];refine ⟨fun h =>?_,fun h =>?_⟩
    ·refine .ak (by decide +kernel) fun K hK =>?_;simp only[GS,J,simprocAttr];refine .done (hK _ ?_);clear hK K;refine U.ret ?_;simp only[bJ,al,J,simprocAttr];have hne:a≠b:=fun e=>by subst e;simp at h
     simp[hne]
    ·refine U.skip ?_;try simp only[al,bJ,simprocAttr]
     refine .bd (by decide +kernel) fun K hK =>?_;simp only[GU,J,simprocAttr];refine .done (hK _ ?_);clear hK K;try simp only[al]
     refine ⟨i+1,⟨by omega,?_⟩,by omega,?_⟩
     ·rw[zy5 hlt,zy5 hlb,hi.2];simp at h;rw[h]
     ·rw[cA _ (by omega) (by omega)];refine aF.bY ?_ ?_ ?_ ?_ <;>simp[aV,bO,bM,br,aW,I.only,bA]
   ·have hge:i=a.length:=by simp at h;omega
    refine U.exit ?_;try simp only[al,bJ,simprocAttr]
    refine .ak (by decide +kernel) fun K hK =>?_;simp only[GV,J,simprocAttr];refine .done (hK _ ?_);clear hK K;refine U.ret ?_;simp only[J,simprocAttr];have:a=b:=by
     have:=hi.2;rw[hge,List.take_length] at this;rw[hab,List.take_length] at this;exact this
    simp[this]
def cw(m:bQ)(i:Nat):bZ:=m.given.getD i ⟨0,⟨List.replicate 6 0,rfl⟩⟩
theorem ic{m:bQ}{i:Nat}(h:i<m.given.length):m.given[i]=cw m i:=by simp[cw,zz1,h]
theorem sD{A:ae}{m:bQ}{i:Nat}(h:i<m.given.length):gP A 7 (i:Int) (enc m.given)=some (.ref (enc (cw m i))):=by
 rw[fJ 7 h rfl,ic h]
def eP(w:aI 5 Int):Bool:=(List.range 5).all (fun i=>cm 0 31 (w.g i)&&fj (w.g i) i)
theorem zd(w:aI 5 Int):aC Tryz.prog 99 [enc w] (enc (if eP w then (0:Int) else 11)):=Ps w
theorem yM(m:aI 6 Int):aC Tryz.prog 100 [enc m] (enc (if cZ m then (0:Int) else 10)):=N6 m
def jL(m:bQ)(a b:aI 6 Int):Bool:=decide ((dn (iw m.c5 a b) 6:Int)≤IntKind.i64.wrap (2*m.dh))
def fZ(m:bQ)(i:Nat):Bool:=cm 1 99 (cw m i).b5&&(cZ (cw m i).mark&&((i==0||decide ((cw m (i-1)).b5<(cw m i).b5))&&(List.range i).all (fun j => !jL m (cw m j).mark (cw m i).mark)))
def ed(m:bQ):Bool:=eP m.c5&&(cm 0 2 m.dh&&(decide (m.given.length≤40)&&(List.range m.given.length).all (fZ m)))
theorem xy{m:bQ}{i:Nat}(h:fZ m i=true):cZ (cw m i).mark=true:=by
 simp only[fZ,zz2] at h;exact h.2.1
def hE(w:aI 5 Int)(a:aI 6 Int)(r:aI 6 Int)(i:Nat):Bool:=kS (w.g (a.g i).toNat) (r.g i)==0
def eE(w:aI 5 Int)(a r:aI 6 Int):Int:=(dn (hE w a r) 6:Int)
theorem N9(w:aI 5 Int)(a b:aI 6 Int)(ha:cZ a=true):aC Tryz.prog 102 [enc w,enc a,enc b] (enc (eE w a b)):=by
 refine aC.bu Tryz.func102 QR SD UG (t7 rfl) (fun hwf W0 D0 E1 =>?_);simp only[zP,KW,bj,zz4,Nat.reduceAdd];refine .ak (by decide +kernel) fun K hK =>?_;simp only[Dg,J,simprocAttr];refine .done (hK _ ?_);clear hK K;refine .ak (by decide +kernel) fun K hK =>?_;simp only[Di,J,simprocAttr];refine .done (hK _ ?_);clear hK K;refine U.seq (U.seq ?_);refine .bd (by decide +kernel) fun K hK =>?_;simp only[Dj,J,simprocAttr];refine .done (hK _ ?_);clear hK K;try simp only[al]
 refine U.block (U.loop (fun i:Nat=>ar [(3,.ptr 3 []),(4,.ptr 4 []),(5,.ptr 5 []),(7,.int .i64 (dn (hE w a b) i)),(8,.int .i64 i)] [(3,.box (enc w)),(4,.box (enc a)),(5,.box (enc b))]) (fun i=>i≤6) (fun i=>6-i) 0 (by omega) ?_ (fun i hi =>?_))
 ·simp only[dn];refine aF.bY ?_ ?_ ?_ ?_ <;>simp[aV,bO,bM,br,aq,aW,ct,I.only,ah.only,bA]
 ·have hc:=uO (hE w a b) i;refine U.seq (U.seq ?_);refine .bd (by decide +kernel) fun K hK =>?_;simp only[Dk,J,simprocAttr];refine .done (hK _ ?_);clear hK K;try simp only[al]
  refine U.bx ?_;simp only[au,J,simprocAttr];refine ⟨fun h =>?_,fun h =>?_⟩
  ·have hlt:i<6:=by simp at h;omega
   have h1:=mh ha hlt;refine U.skip ?_;try simp only[al,simprocAttr]
   refine U.seq (U.block ?_);refine .ak (by decide +kernel) fun K hK =>?_;simp only[Dl,J,simprocAttr];have k1:(a.g i).toNat<5:=by omega
   try simp only[bP,iI 1 a hlt rfl,fF a hlt,J,simprocAttr]
   try simp only[bP,ky 1 w h1 rfl,fF w k1,J,simprocAttr]
   try simp only[bP,iI 1 b hlt rfl,fF b hlt,J,simprocAttr]
   refine .done (hK _ ?_);clear hK K;refine U.bx ?_;simp only[au,J,simprocAttr];refine ⟨fun h =>?_,fun h =>?_⟩
   ·have hap:hE w a b i=true:=h;refine .bd (by decide +kernel) fun K hK =>?_;simp only[Dm,J,simprocAttr];refine .done (hK _ ?_);clear hK K;try simp only[al,bJ]
    refine .bd (by decide +kernel) fun K hK =>?_;simp only[vn,J,simprocAttr];refine .done (hK _ ?_);clear hK K;try simp only[al]
    refine ⟨i+1,by omega,by omega,?_⟩;rw[cA _ (by omega) (by omega),cA _ (by omega) (by omega)];simp only[dn,hap,if_true];refine aF.bY ?_ ?_ ?_ ?_ <;>simp[aV,bO,bM,br,aq,aW,ct,I.only,ah.only,bA]
   ·have hap:hE w a b i=false:=h;refine U.skip ?_;try simp only[al,bJ,simprocAttr]
    refine .bd (by decide +kernel) fun K hK =>?_;simp only[vn,J,simprocAttr];refine .done (hK _ ?_);clear hK K;try simp only[al]
    refine ⟨i+1,by omega,by omega,?_⟩;rw[cA _ (by omega) (by omega)];simp only[dn,hap,zz7,if_false];refine aF.bY ?_ ?_ ?_ ?_ <;>simp[aV,bO,bM,br,aq,aW,ct,I.only,ah.only,bA]
  ·have hge:i=6:=by simp at h;omega
   subst hge;refine U.exit ?_;try simp only[al,bJ,simprocAttr]
   refine .ak (by decide +kernel) fun K hK =>?_;simp only[Dn,J,simprocAttr];refine .done (hK _ ?_);clear hK K;refine U.ret ?_;simp only[J,simprocAttr];rfl
structure xz (m:bQ):Prop where
 len:m.given.length≤1099511627776
 mark:∀ g∈m.given,cZ g.mark=true
theorem Po(m:bQ)(k:aI 6 Int)(hm:xz m)(hk:cZ k=true):aC Tryz.prog 87 [enc m,enc k] (enc (m.given.any fun g=>decide ((dn (iw m.c5 g.mark k) 6:Int)≤IntKind.i64.wrap (2*m.dh)))):=by
 refine aC.bu Tryz.func87 Sp Uf Wf (t7 rfl) (fun hwf W0 D0 E1 =>?_);simp only[Bz,Mw,bj,zz4];have hlen:=hm.len;refine .ak (by decide +kernel) fun K hK =>?_;simp only[Iz,J,simprocAttr];refine .done (hK _ ?_);clear hK K;refine U.seq ?_;refine .ak (by decide +kernel) fun K hK =>?_;simp only[IA,J,simprocAttr];refine .done (hK _ ?_);clear hK K;refine U.block (U.loop (fun i:Nat=>ar [(2,.ptr 2 []),(3,.ptr 3 []),(5,.int .i64 i)] [(2,.box (enc m)),(3,.box (enc k))]) (fun i=>i≤m.given.length∧∀ j (h:j<m.given.length),j<i→(decide ((dn (iw m.c5 m.given[j].mark k) 6:Int)≤IntKind.i64.wrap (2*m.dh)))=false) (fun i=>m.given.length-i) 0 ⟨by omega,fun k _ h=>by omega⟩ ?_ (fun i hi =>?_))
 ·refine aF.bY ?_ ?_ ?_ ?_ <;>simp[aV,bO,bM,br,aq,aW,ct,I.only,ah.only,bA]
 ·refine U.seq (U.seq ?_);refine .bd (by decide +kernel) fun K hK =>?_;simp only[IB,J,simprocAttr]
  try simp only[cv,bP,J,simprocAttr]
  refine .done (hK _ ?_);clear hK K;try simp only[al]
  refine U.bx ?_;simp only[au,J,simprocAttr];refine ⟨fun h =>?_,fun h =>?_⟩
  ·have hlt:i<m.given.length:=by simpa using h
   refine U.skip ?_;try simp only[al,simprocAttr]
   refine U.seq (U.block ?_);refine .ak (by decide +kernel) fun K hK =>?_;simp only[IC,J,simprocAttr]
   try simp only[cv,fJ 7 hlt rfl,cF,J,simprocAttr]
   refine .flat _ (Oj m.c5 m.given[i].mark k (hm.mark _ (zy6 _)) hk) rfl ?_
   try simp only[cv,J,simprocAttr]
   refine .done (hK _ ?_);clear hK K;refine U.bx ?_;simp only[au,J,simprocAttr];refine ⟨fun h =>?_,fun h =>?_⟩
   ·refine .ak (by decide +kernel) fun K hK =>?_;simp only[ID,J,simprocAttr];refine .done (hK _ ?_);clear hK K;refine U.ret ?_;simp only[bJ,al,J,simprocAttr];have:(m.given.any fun g=>decide ((dn (iw m.c5 g.mark k) 6:Int)≤IntKind.i64.wrap (2*m.dh)))=true:=List.any_eq_true.2 ⟨_,zy6 hlt,h⟩;rw[this]
   ·refine U.skip ?_;try simp only[al,bJ,simprocAttr]
    refine .bd (by decide +kernel) fun K hK =>?_;simp only[IE,J,simprocAttr];refine .done (hK _ ?_);clear hK K;try simp only[al]
    refine ⟨i+1,⟨by omega,fun j hj hji =>?_⟩,by omega,?_⟩
    ·by_cases hj':j=i
     ·subst hj';exact h
     ·exact hi.2 j hj (by omega)
    ·rw[cA _ (by omega) (by omega)];refine aF.bY ?_ ?_ ?_ ?_ <;>simp[aV,bO,bM,br,aq,aW,ct,I.only,ah.only,bA]
  ·have hge:i=m.given.length:=by simp at h;omega
   refine U.exit ?_;try simp only[al,bJ,simprocAttr]
   refine .ak (by decide +kernel) fun K hK =>?_;simp only[IF,J,simprocAttr];refine .done (hK _ ?_);clear hK K;refine U.ret ?_;simp only[J,simprocAttr];have:(m.given.any fun g=>decide ((dn (iw m.c5 g.mark k) 6:Int)≤IntKind.i64.wrap (2*m.dh)))=false:=by
    rw[List.any_eq_false];intro x hx;obtain ⟨j,hj,rfl⟩:=zv6 hx;simpa using hi.2 j hj (by omega)
   rw[this]
theorem ag0{m:bQ}(h:ed m=true):xz m:=by
 simp only[ed,zz2,decide_eq_true_eq,zy2,zx4] at h;refine ⟨by omega,fun g hg =>?_⟩;obtain ⟨i,hi,rfl⟩:=zv6 hg;rw[ic hi];exact xy (h.2.2.2 i hi)
def fb(r:aI 6 Int):Bool:=(List.range 6).all fun i=>cm 1 31 (r.g i)
theorem N8(m:aI 6 Int):aC Tryz.prog 101 [enc m] (enc (if fb m then (0:Int) else 12)):=N7 m
theorem xl:I.slice 1 []=enc ([]:List Int):=rfl
def kN:aI 6 Int:=⟨List.replicate 6 0,rfl⟩
theorem nH:I.agg [.int .i64 0,.int .i64 0,.int .i64 0,.int .i64 0,.int .i64 0,.int .i64 0]=enc kN:=rfl
instance:nz bZ:=⟨fun g=>by
 show (I.agg [.int .i64 g.b5,enc g.mark]).cS=true
 simp only[I.cS,I.iM,Cq,zw3]⟩
def fO:bZ:=⟨0,kN⟩
theorem uZ:I.agg [.int .i64 0,.agg [.int .i64 0,.int .i64 0,.int .i64 0,.int .i64 0,.int .i64 0,.int .i64 0]]=enc fO:=rfl
theorem mb(p:Nat→Bool)(l:List bZ):(I.agg (l.map enc)).only p=true:=by simp only[I.only];exact fe p l
theorem afN(l:List bZ):(I.agg (l.map enc)).cS=true:=by simp only[I.cS];exact wT l
def iq(k:Nat)(l:List bZ)(m:Nat):List (Nat×ah):=[(k,.box (.agg ((l++List.replicate m fO).map enc)))]
def uK(l:List bZ):cR:=fun r os'=>(l=[]∧(r=.nils 7∨r=.c0 7)∧os'=[])∨(l≠[]∧∃ m,r=.view 7 [] 7 0 l.length∧os'=iq 7 l m)
theorem yW(l:List bZ)(hl:l.length≤1000):cC Tryz.prog 167 [enc l] [] (uK l):=by
 refine cC.bu Tryz.func167 Rz Tm Vp (t7 rfl) (t7 rfl) (fun m hm=>by simp[aq,aj] at hm) (fun hwf W0 D0 E1 =>?_);simp only[AG,LF,bj];refine .ak (by decide +kernel) fun K hK =>?_;simp only[Fw,J,simprocAttr];refine .done (hK _ ?_);clear hK K;refine U.seq (U.seq ?_);by_cases hn:l=[]
 ·subst hn;refine .bd (by decide +kernel) fun K hK =>?_;simp only[vK,J,simprocAttr];simp only[tO,List.isEmpty_nil,pw];refine .any rfl fun b _ =>?_
  try simp only[J,simprocAttr]
  generalize (b==0)=t;cases t
  ·refine .done (hK _ ?_);clear hK K;try simp only[al]
   refine U.bx ?_;simp only[au,J,simprocAttr];refine ⟨fun h =>?_,fun h =>?_⟩
   ·cases h
   refine U.skip ?_;try simp only[al,simprocAttr]
   refine .ak (by decide +kernel) fun K hK =>?_;simp only[vL,J,simprocAttr]
   try simp only[eB,uZ,J,simprocAttr]
   refine .done (hK _ ?_);clear hK K;refine U.ret ?_;simp only[fD];exact ⟨[],[.c0 7],ql,⟨⟨.c0 7,rfl,.inl ⟨rfl,rfl,rfl⟩⟩,trivial⟩,.inl ⟨rfl,.inr rfl,rfl⟩⟩
  ·refine .done (hK _ ?_);clear hK K;refine U.bx ?_;simp only[au,J,simprocAttr];refine ⟨fun h =>?_,fun h =>?_⟩
   ·refine .ak (by decide +kernel) fun K hK =>?_;simp only[Fx,J,simprocAttr];refine .done (hK _ ?_);clear hK K;refine U.ret ?_;simp only[al,fD];exact ⟨[],[.nils 7],ql,⟨⟨.nils 7,rfl,.inl ⟨rfl,rfl,rfl⟩⟩,trivial⟩,.inl ⟨rfl,.inl rfl,rfl⟩⟩
   ·cases h
 ·have hu:jM (enc l)=false:=by rw[tO];simpa using hn
  refine .bd (by decide +kernel) fun K hK =>?_;simp only[vK,J,simprocAttr]
  try simp only[hu,J4 _ l hn,J,simprocAttr]
  refine .done (hK _ ?_);clear hK K;try simp only[al]
  refine U.bx ?_;simp only[au,J,simprocAttr];refine ⟨fun h =>?_,fun h =>?_⟩
  ·cases h
  refine U.skip ?_;try simp only[al,simprocAttr]
  refine .ak (by decide +kernel) fun K hK =>?_;simp only[vL,J,simprocAttr]
  try simp only[eB,uZ,J,simprocAttr]
  refine bh.zq fO rfl hn rfl (by omega) (by simp only[maxLen];omega) fun m =>?_
  try simp only[J,simprocAttr]
  refine .done (hK _ ?_);clear hK K;refine U.ret ?_;simp only[fD];exact ⟨iq 7 l m,[.view 7 [] 7 0 l.length],mW rfl (fun p=>mb p _),⟨⟨_,rfl,.inl ⟨rfl,rfl,rfl⟩⟩,trivial⟩,.inr ⟨hn,m,rfl,rfl⟩⟩
def gM{n:Nat}(x:aI n Int)(k:Nat)(v:Int):aI n Int:=⟨x.l.set k v,by simp[x.h]⟩
theorem l7{n:Nat}(x:aI n Int)(k j:Nat)(v:Int)(h:k<n):(gM x k v).g j=if k=j then v else x.g j:=by
 simp only[aI.g,gM,zz1,List.getElem?_set];by_cases hkj:k=j
 ·subst hkj;simp[x.lt h]
 ·simp[hkj]
theorem aie{n k:Nat}(x:aI n Int)(h:k<n)(v:Int):(enc x:I).dx [k] (.int .i64 v)=enc (gM x k v):=by
 have h1:(enc x:I).dg=some (x.l.map enc):=rfl;rw[Nb,h1];simp only[qV,qk x h,tG,fR]
 change I.agg _=I.agg ((x.l.set k v).map enc)
 rw[List.map_set];rfl
theorem pP{A:ae}{n m k:Nat}(x:aI m Int)(h:k<m){v ao:Int}{rest:List az} : dO A none n [k] (enc x) (.int .i64 v) rest (some (.int .i64 ao))=aA rest (A.aN n (.box (enc (gM x k v)))):=by
 rw[eg (s:=none) (v:=.int .i64 v) (old:=.int .i64 ao) rfl rfl rfl,aie x h]
def gK(n:Int):Nat→Int
 |0=>n
 |k+1=>(gK n k).tdiv 5
def jQ(n:Int):Nat→aI 6 Int
 |0=>kN
 |k+1=>gM (jQ n k) (5-k) ((gK n k).tmod 5)
theorem J3(n:Int)(h:-9223372036854775808≤n∧n≤9223372036854775807):∀ k,-9223372036854775808≤gK n k∧gK n k≤9223372036854775807
 |0=>h
 |k+1=>by
  have:=J3 n h k;simp only[gK];rcases Int.le_total 0 (gK n k) with h0 | h0
  ·rw[Int.tdiv_eq_ediv_of_nonneg h0];omega
  ·have:(gK n k).tdiv 5=-((-(gK n k)) / 5):=by
    rw[←Int.tdiv_eq_ediv_of_nonneg (by omega),Int.neg_tdiv,Int.neg_neg]
   omega
theorem Pn(n:Int):aC Tryz.prog 86 [enc n] (enc (jQ n 6)):=by
 refine aC.bu Tryz.func86 Sn Ue We (t7 rfl) (fun hwf W0 D0 E1 =>?_);simp only[By,Mv,bj];have hin:=J3 n ((ai5 n).1 hwf.1);have h5:¬ (5:Int)=0:=by decide
 refine .ak (by decide +kernel) fun K hK =>?_;simp only[Iq,J,simprocAttr];refine .done (hK _ ?_);clear hK K;refine .ak (by decide +kernel) fun K hK =>?_;simp only[Ir,J,simprocAttr];simp only[nH];refine .done (hK _ ?_);clear hK K;refine U.seq (U.seq ?_);refine .bd (by decide +kernel) fun K hK =>?_;simp only[Is,J,simprocAttr];refine .done (hK _ ?_);clear hK K;try simp only[al]
 refine U.block (U.loop (fun k:Nat=>ar [(0,.int .i64 (gK n k)),(2,.ptr 2 []),(3,.ptr 3 []),(4,.int .i64 (5-k))] [(2,.box (enc kN)),(3,.box (enc (jQ n k)))]) (fun k=>k≤6) (fun k=>6-k) 0 (by omega) ?_ (fun k hk =>?_))
 ·refine aF.bY ?_ ?_ ?_ ?_ <;>simp[aV,bO,bM,br,aq,aW,ct,I.only,ah.only,bA]
  all_goals rfl
 refine U.seq (U.seq ?_);refine .bd (by decide +kernel) fun K hK =>?_;simp only[It,J,simprocAttr];refine .done (hK _ ?_);clear hK K;try simp only[al]
 refine U.bx ?_;simp only[au,J,simprocAttr];refine ⟨fun h =>?_,fun h =>?_⟩
 ·have hlt:k<6:=by simp at h;omega
  have hd:=hin k;have e1:((5:Int)-k).toNat=5-k:=by omega
  have hlt':5-k<6:=by omega
  refine U.skip ?_;try simp only[al,simprocAttr]
  refine U.seq (U.block ?_);refine .ak (by decide +kernel) fun K hK =>?_;simp only[Iu,J,simprocAttr]
  try simp only[bP,ky 1 (jQ n k) (show (0:Int)≤5-k∧(5:Int)-k<(6:Nat) by omega) rfl,e1,fF (jQ n k) hlt',pP (jQ n k) hlt',J,simprocAttr]
  refine .done (hK _ ?_);clear hK K;refine .bd (by decide +kernel) fun K hK =>?_;simp only[Iv,J,simprocAttr]
  try simp only[h5,J,simprocAttr]
  refine .done (hK _ ?_);clear hK K;try simp only[al,bJ]
  refine .bd (by decide +kernel) fun K hK =>?_;simp only[Iw,J,simprocAttr];refine .done (hK _ ?_);clear hK K;try simp only[al]
  refine ⟨k+1,by omega,by omega,?_⟩;have hq:=hin (k+1);simp only[gK] at hq;rw[cA _ (by omega) (by omega),cA _ hq.1 hq.2];have e2:(5:Int)-k-1=5-((k+1:Nat):Int):=by omega
  rw[e2];simp only[gK,jQ];refine aF.bY ?_ ?_ ?_ ?_ <;>simp[aV,bO,bM,br,aq,aW,ct,I.only,ah.only,bA]
 ·have hge:k=6:=by simp at h;omega
  subst hge;refine U.exit ?_;try simp only[al,bJ,simprocAttr]
  refine .ak (by decide +kernel) fun K hK =>?_;simp only[Iy,J,simprocAttr]
  try simp only[cv,J,simprocAttr]
  rw[eg (dz _) (by rw[fx];rfl) ((ev _).trans (ev _).symm)]
  try simp only[J,simprocAttr]
  refine .done (hK _ ?_);clear hK K;refine U.ret ?_;simp only[J,simprocAttr]
  try simp only[cv,cF,J,simprocAttr]
theorem wL{A:ae}{l:List Int}{i:Nat}(h:i<l.length):gP A 1 (i:Int) (enc l)=some (.ref (.int .i64 (l.getD i 0))):=by
 rw[fJ 1 h rfl];simp[zz1,h,jx]
theorem xe{w:Int}{k:Nat}(h:fj w k=true):∀ n,k<n→(k:Int)∈gm w n
 |0,h=>absurd h (by omega)
 |n+1,hk=>by
  simp only[gm,zy7];rcases Nat.lt_or_ge k n with h1 | h1
  ·exact .inl (xe h n h1)
  ·have:k=n:=by omega
   subst this
   right;simp[h]
theorem xc{w:Int} : ∀ n,∀ x∈gm w n,0≤x∧x<n
 |0=>by simp[gm]
 |n+1=>by
  intro x hx;simp only[gm,zy7] at hx;rcases hx with hx | hx
  ·have:=xc n x hx;omega
  ·split at hx
   ·simp only[List.mem_singleton] at hx;omega
   ·cases hx
theorem xH{w:aI 5 Int}(h:eP w=true){k:Nat}(hk:k<5):(0≤w.g k∧w.g k≤31)∧fj (w.g k) k=true:=by
 simp only[eP,zy2,zx4,zz2] at h;have:=h k hk;simp only[cm,zz2,decide_eq_true_eq] at this;exact this
def lb(cuts:List Int)(i n:Nat):Nat:=if 0<cuts.length then (((cuts.getD (i%cuts.length) 0).tmod n+n).tmod n).toNat else 0
def iU(w:aI 5 Int)(a:aI 6 Int)(i:Nat):List Int:=gm (w.g (a.g i).toNat) 5
def ri(w:aI 5 Int)(a:aI 6 Int)(cuts:List Int)(i:Nat):Int:=shl 1 ((iU w a i).getD (lb cuts i (iU w a i).length) 0).toNat
def iu(w:aI 5 Int)(a:aI 6 Int)(cuts:List Int):Nat→aI 6 Int
 |0=>kN
 |i+1=>gM (iu w a cuts i) i (ri w a cuts i)
def oB(w:aI 5 Int)(a:aI 6 Int)(cuts:List Int):aI 6 Int×Int:=if eP w then (if cZ a then (iu w a cuts 6,0) else (kN,10)) else (kN,11)
theorem Ca(cuts:List Int)(i:Nat){n:Nat}(hn:0<n):lb cuts i n<n:=by
 unfold lb;split
 ·have h1:-(n:Int)<(cuts.getD (i%cuts.length) 0).tmod n:=by
   have:=Int.tmod_lt_of_pos (-(cuts.getD (i%cuts.length) 0)) (show (0:Int)<n by omega);rw[Int.neg_tmod] at this;omega
  have h2:=Int.tmod_lt_of_pos ((cuts.getD (i%cuts.length) 0).tmod n+n) (show (0:Int)<n by omega);have h3:0≤((cuts.getD (i%cuts.length) 0).tmod n+n).tmod n:=Int.tmod_nonneg _ (by omega);omega
 ·exact hn
def yl(w:aI 5 Int)(a:aI 6 Int)(i:Nat):Int:=w.g (a.g i).toNat
theorem Qt{x:Int}{k:Nat}(hx:0≤x∧x≤31)(hk:k<5)(h:fj x k=true):x≠0:=by
 rintro rfl;have key:∀ k:Fin 5,fj 0 k.1=false:=by decide +kernel
 rw[key ⟨k,hk⟩] at h;cases h
structure Item where
 e9:Int
 no:Int
 deriving DecidableEq
instance:Enc Item where
 enc x:=.agg [.int .i64 x.e9,.int .i64 x.no]
 sz:=2
 aJ:=.dU [.one,.one]
 fI:=true
 done _:=rfl
 size _:=by simp[I.size,I.sizes]
 jG _:=by simp[I.aJ,I.cN]
 agg _:=rfl
structure aw where
 bt:Item
 kind:Int
 day:Int
 known:Int
 dW:Int
 eV:Int
 fg:Int
 b5:Int
 bL:aI 6 Int
 j4:Item
instance:Enc aw where
 enc e:=.agg [enc e.bt,.int .i64 e.kind,.int .i64 e.day,.int .i64 e.known,.int .i64 e.dW,.int .i64 e.eV,.int .i64 e.fg,.int .i64 e.b5,enc e.bL,enc e.j4]
 sz:=17
 aJ:=.dU [.dU [.one,.one],.one,.one,.one,.one,.one,.one,.one,.dU (List.replicate 6 .one),.dU [.one,.one]]
 fI:=true
 done e:=by simp only[I.done,I.eG,Enc.done,zw3]
 size e:=by simp only[I.size,I.sizes,fy,jS,jT];rfl
 jG e:=by simp only[I.aJ,I.cN,ev,rY,rZ];rfl
 agg _:=rfl
structure aR where
 no:Int
 fg:Int
 eV:Int
 b5:Int
 ju:Int
 born:Int
 eW:Int
 found:Bool
 bL:List (aI 6 Int)
instance:Enc aR where
 enc b:=.agg [.int .i64 b.no,.int .i64 b.fg,.int .i64 b.eV,.int .i64 b.b5,.int .i64 b.ju,.int .i64 b.born,.int .i64 b.eW,.bool b.found,enc b.bL]
 sz:=9
 aJ:=.dU [.one,.one,.one,.one,.one,.one,.one,.one,.one]
 fI:=true
 done e:=by simp only[I.done,I.eG,Enc.done,zw3]
 size e:=by simp only[I.size,I.sizes,fy,r2]
 jG e:=by simp only[I.aJ,I.cN,ev,Cr]
 agg _:=rfl
theorem qe:Enc.sz Item=2:=rfl
theorem XO:Enc.sz aw=17:=rfl
theorem Cs:Enc.sz aR=9:=rfl
theorem XN:Enc.fI Item=true:=rfl
theorem XM:Enc.fI aw=true:=rfl
theorem XL:Enc.fI aR=true:=rfl
theorem afe(fs:List I)(x:I):(x::fs)[0]?=some x:=rfl
theorem afo(fs:List I)(x:I)(n:Nat):(x::fs)[n+1]?=fs[n]?:=rfl
theorem aff(fs:List I)(x:I):(x::fs)[1]?=fs[0]?:=rfl
theorem afg(fs:List I)(x:I):(x::fs)[2]?=fs[1]?:=rfl
theorem afh(fs:List I)(x:I):(x::fs)[3]?=fs[2]?:=rfl
theorem afi(fs:List I)(x:I):(x::fs)[4]?=fs[3]?:=rfl
theorem afj(fs:List I)(x:I):(x::fs)[5]?=fs[4]?:=rfl
theorem afk(fs:List I)(x:I):(x::fs)[6]?=fs[5]?:=rfl
theorem afl(fs:List I)(x:I):(x::fs)[7]?=fs[6]?:=rfl
theorem afm(fs:List I)(x:I):(x::fs)[8]?=fs[7]?:=rfl
theorem afn(fs:List I)(x:I):(x::fs)[9]?=fs[8]?:=rfl
theorem agS(x:I)(fs:List I)(v:I):dB (x::fs) 0 0 v=some v:=kB (by simp) (by simp[I.sizes])
theorem Kc(a b:Item)(n1 n2 n3 n4 n5 n6 n7:Int)(s:aI 6 Int)(v:I) :
  (dB [enc a,.int .i64 n1,.int .i64 n2,.int .i64 n3,.int .i64 n4,.int .i64 n5,.int .i64 n6,.int .i64 n7,enc s,enc b] 1 2 v=some v) ∧
  (dB [enc a,.int .i64 n1,.int .i64 n2,.int .i64 n3,.int .i64 n4,.int .i64 n5,.int .i64 n6,.int .i64 n7,enc s,enc b] 2 3 v=some v) ∧
  (dB [enc a,.int .i64 n1,.int .i64 n2,.int .i64 n3,.int .i64 n4,.int .i64 n5,.int .i64 n6,.int .i64 n7,enc s,enc b] 3 4 v=some v) ∧
  (dB [enc a,.int .i64 n1,.int .i64 n2,.int .i64 n3,.int .i64 n4,.int .i64 n5,.int .i64 n6,.int .i64 n7,enc s,enc b] 4 5 v=some v) ∧
  (dB [enc a,.int .i64 n1,.int .i64 n2,.int .i64 n3,.int .i64 n4,.int .i64 n5,.int .i64 n6,.int .i64 n7,enc s,enc b] 5 6 v=some v) ∧
  (dB [enc a,.int .i64 n1,.int .i64 n2,.int .i64 n3,.int .i64 n4,.int .i64 n5,.int .i64 n6,.int .i64 n7,enc s,enc b] 6 7 v=some v) ∧
  (dB [enc a,.int .i64 n1,.int .i64 n2,.int .i64 n3,.int .i64 n4,.int .i64 n5,.int .i64 n6,.int .i64 n7,enc s,enc b] 7 8 v=some v) ∧
  (dB [enc a,.int .i64 n1,.int .i64 n2,.int .i64 n3,.int .i64 n4,.int .i64 n5,.int .i64 n6,.int .i64 n7,enc s,enc b] 8 9 v=some v) ∧
  (dB [enc a,.int .i64 n1,.int .i64 n2,.int .i64 n3,.int .i64 n4,.int .i64 n5,.int .i64 n6,.int .i64 n7,enc s,enc b] 9 15 v=some v):=by
 refine ⟨?_,?_,?_,?_,?_,?_,?_,?_,?_⟩ <;>refine kB (t7 rfl) ?_ <;>simp[I.sizes,I.size,fy,qe,jS,jT]
theorem agR(n1 n2:Int)(v:I):dB [.int .i64 n1,.int .i64 n2] 1 1 v=some v:=kB (t7 rfl) (by simp[I.sizes,I.size])
theorem Kb(n0 n1 n2 n3 n4 n5 n6:Int)(f:Bool)(x:I)(v:I) :
  (dB [.int .i64 n0,.int .i64 n1,.int .i64 n2,.int .i64 n3,.int .i64 n4,.int .i64 n5,.int .i64 n6,.bool f,x] 1 1 v=some v) ∧
  (dB [.int .i64 n0,.int .i64 n1,.int .i64 n2,.int .i64 n3,.int .i64 n4,.int .i64 n5,.int .i64 n6,.bool f,x] 2 2 v=some v) ∧
  (dB [.int .i64 n0,.int .i64 n1,.int .i64 n2,.int .i64 n3,.int .i64 n4,.int .i64 n5,.int .i64 n6,.bool f,x] 3 3 v=some v) ∧
  (dB [.int .i64 n0,.int .i64 n1,.int .i64 n2,.int .i64 n3,.int .i64 n4,.int .i64 n5,.int .i64 n6,.bool f,x] 4 4 v=some v) ∧
  (dB [.int .i64 n0,.int .i64 n1,.int .i64 n2,.int .i64 n3,.int .i64 n4,.int .i64 n5,.int .i64 n6,.bool f,x] 5 5 v=some v) ∧
  (dB [.int .i64 n0,.int .i64 n1,.int .i64 n2,.int .i64 n3,.int .i64 n4,.int .i64 n5,.int .i64 n6,.bool f,x] 6 6 v=some v) ∧
  (dB [.int .i64 n0,.int .i64 n1,.int .i64 n2,.int .i64 n3,.int .i64 n4,.int .i64 n5,.int .i64 n6,.bool f,x] 7 7 v=some v) ∧
  (dB [.int .i64 n0,.int .i64 n1,.int .i64 n2,.int .i64 n3,.int .i64 n4,.int .i64 n5,.int .i64 n6,.bool f,x] 8 8 v=some v):=by
 refine ⟨?_,?_,?_,?_,?_,?_,?_,?_⟩ <;>refine kB (t7 rfl) ?_ <;>simp[I.sizes,I.size]
theorem X3(x:Item):(enc x).dg=some [.int .i64 x.e9,.int .i64 x.no]:=rfl
theorem X2(e:aw):(enc e).dg=some [enc e.bt,.int .i64 e.kind,.int .i64 e.day,.int .i64 e.known,.int .i64 e.dW,.int .i64 e.eV,.int .i64 e.fg,.int .i64 e.b5,enc e.bL,enc e.j4]:=rfl
theorem X1(b:aR):(enc b).dg=some [.int .i64 b.no,.int .i64 b.fg,.int .i64 b.eV,.int .i64 b.b5,.int .i64 b.ju,.int .i64 b.born,.int .i64 b.eW,.bool b.found,enc b.bL]:=rfl
theorem Kr(x:Item):bV (some 2) (enc x)=true:=by simp[fx,XN,qe]
theorem Kq(x:aw):bV (some 17) (enc x)=true:=by simp[fx,XM,XO]
theorem ag6(x:aR):bV (some 9) (enc x)=true:=by simp[fx,XL,Cs]
theorem Kp(x:aI 6 Int):bV (some 6) (enc x)=true:=by simp[fx,u3,jS,jT]
theorem ag7(x:List aw):bV none (enc x)=true:=by simp[lh,lY]
theorem ag8(x:List Int):bV none (enc x)=true:=by simp[lh,lY]
theorem aha(x:List (aI 6 Int)):bV none (enc x)=true:=by simp[lh,lY]
theorem ag9(x:List Item):bV none (enc x)=true:=by simp[lh,lY]
theorem pS :
  (∀ x:Item,(enc x).dg=some [.int .i64 x.e9,.int .i64 x.no])∧(∀ e:aw,(enc e).dg=some [enc e.bt,.int .i64 e.kind,.int .i64 e.day,.int .i64 e.known,.int .i64 e.dW,.int .i64 e.eV,.int .i64 e.fg,.int .i64 e.b5,enc e.bL,enc e.j4]) ∧
  (∀ b:aR,(enc b).dg=some [.int .i64 b.no,.int .i64 b.fg,.int .i64 b.eV,.int .i64 b.b5,.int .i64 b.ju,.int .i64 b.born,.int .i64 b.eW,.bool b.found,enc b.bL]) ∧
  (∀ (x:I) fs v,dB (x::fs) 0 0 v=some v)∧(∀ n1 n2 v,dB [.int .i64 n1,.int .i64 n2] 1 1 v=some v) ∧
  (∀ x:Item,bV (some 2) (enc x)=true)∧(∀ x:aw,bV (some 17) (enc x)=true)∧(∀ x:aR,bV (some 9) (enc x)=true)∧(∀ x:aI 6 Int,bV (some 6) (enc x)=true)∧(∀ x:List aw,bV none (enc x)=true)∧(∀ x:List Int,bV none (enc x)=true) ∧
  (∀ x:List (aI 6 Int),bV none (enc x)=true)∧(∀ x:List Item,bV none (enc x)=true) ∧
  (∀ (fs:List I) x,(x::fs)[0]?=some x)∧(∀ (fs:List I) x n,(x::fs)[n+1]?=fs[n]?)∧(∀ (fs:List I) x,(x::fs)[1]?=fs[0]?)∧(∀ (fs:List I) x,(x::fs)[2]?=fs[1]?)∧(∀ (fs:List I) x,(x::fs)[3]?=fs[2]?)∧(∀ (fs:List I) x,(x::fs)[4]?=fs[3]?) ∧
  (∀ (fs:List I) x,(x::fs)[5]?=fs[4]?)∧(∀ (fs:List I) x,(x::fs)[6]?=fs[5]?)∧(∀ (fs:List I) x,(x::fs)[7]?=fs[6]?)∧(∀ (fs:List I) x,(x::fs)[8]?=fs[7]?)∧(∀ (fs:List I) x,(x::fs)[9]?=fs[8]?) :=
 ⟨X3,X2,X1,fun x fs v=>agS x fs v,agR,Kr,Kq,ag6,Kp,ag7,ag8,aha,ag9,afe,afo,aff,afg,afh,afi,afj,afk,afl,afm,afn⟩
theorem Item.CG(a b:Item):a=b↔a.e9=b.e9∧a.no=b.no:=by cases a;cases b;simp
theorem qg(x y:Item):cg (.bB [.i .i64,.i .i64]) (enc x) (enc y)=some (decide (x=y)):=by
 show cg (.bB [.i .i64,.i .i64]) (.agg [.int .i64 x.e9,.int .i64 x.no]) (.agg [.int .i64 y.e9,.int .i64 y.no])=_
 simp[cg,iB,gW,Item.CG];rfl
theorem yX(x:Int):aC Tryz.prog 194 [enc x] (enc false):=by
 refine aC.bu Tryz.func194 RK Tz VB (t7 rfl) (fun hwf W0 D0 E1 =>?_);simp only[AS,LR,bj];refine .ak (by decide +kernel) fun K hK =>?_;simp only[FT,J,simprocAttr];refine .done (hK _ ?_);clear hK K;refine .ak (by decide +kernel) fun K hK =>?_;simp only[FU,J,simprocAttr];refine .done (hK _ ?_);clear hK K;refine U.ret ?_;simp only[J,simprocAttr];simp
def jf(x y:Int):Int:=if x<y then -1 else if y<x then 1 else 0
theorem yU(x y:Int):aC Tryz.prog 159 [enc x,enc y] (enc (jf x y)):=by
 refine aC.bu Tryz.func159 Rq Td Vg (t7 rfl) (fun hwf W0 D0 E1 =>?_);simp only[Aw,Lv,bj,zz4];refine .ak (by decide +kernel) fun K hK =>?_;simp only[EV,J,simprocAttr];refine .done (hK _ ?_);clear hK K;refine .ak (by decide +kernel) fun K hK =>?_;simp only[EW,J,simprocAttr];refine .flat _ (yX x) rfl ?_
 try simp only[J,simprocAttr]
 refine .done (hK _ ?_);clear hK K;refine .ak (by decide +kernel) fun K hK =>?_;simp only[E4,J,simprocAttr];refine .flat _ (yX y) rfl ?_
 try simp only[J,simprocAttr]
 refine .done (hK _ ?_);clear hK K;refine U.seq ?_;refine .ak (by decide +kernel) fun K hK =>?_;simp only[E5,J,simprocAttr];refine .done (hK _ ?_);clear hK K;refine U.bx ?_;simp only[au,J,simprocAttr];refine ⟨fun h =>?_,fun h =>?_⟩
 ·cases h
 refine U.skip ?_;try simp only[al,simprocAttr]
 refine U.seq ?_;refine .ak (by decide +kernel) fun K hK =>?_;simp only[E6,J,simprocAttr];refine .done (hK _ ?_);clear hK K;refine U.bx ?_;simp only[au,J,simprocAttr];refine ⟨fun h =>?_,fun h =>?_⟩
 ·cases h
 refine U.skip ?_;try simp only[al,simprocAttr]
 refine U.seq ?_;refine .ak (by decide +kernel) fun K hK =>?_;simp only[E7,J,simprocAttr];refine .done (hK _ ?_);clear hK K;refine U.bx ?_;simp only[au,J,simprocAttr];refine ⟨fun h =>?_,fun h =>?_⟩
 ·refine .ak (by decide +kernel) fun K hK =>?_;simp only[EX,J,simprocAttr];refine .done (hK _ ?_);clear hK K;refine U.ret ?_;simp only[al,J,simprocAttr];have:x<y:=by simpa using h
  simp[jf,this]
 have h1:¬ x<y:=by simpa using h
 refine U.skip ?_;try simp only[al,simprocAttr]
 refine U.seq ?_;refine .ak (by decide +kernel) fun K hK =>?_;simp only[EY,J,simprocAttr];refine .done (hK _ ?_);clear hK K;refine U.bx ?_;simp only[au,J,simprocAttr];refine ⟨fun h =>?_,fun h =>?_⟩
 ·refine .ak (by decide +kernel) fun K hK =>?_;simp only[EZ,J,simprocAttr];refine .done (hK _ ?_);clear hK K;refine U.ret ?_;simp only[al,J,simprocAttr];have:y<x:=by simpa using h
  simp[jf,this,h1]
 have h2:¬ y<x:=by simpa using h
 refine U.skip ?_;try simp only[al,simprocAttr]
 refine .ak (by decide +kernel) fun K hK =>?_;simp only[E0,J,simprocAttr];refine .done (hK _ ?_);clear hK K;refine U.ret ?_;simp only[J,simprocAttr];simp[jf,h1,h2]
theorem zJ(a b:Int):dR [.int .i64 0,.int .i64 0] [(0,.int .i64 a),(1,.int .i64 b)]=some [.int .i64 a,.int .i64 b]:=by simp[dR,I.cd,I.size]
theorem lP(n lo hi:Int):aC Tryz.prog 114 [enc n,enc lo,enc hi] (enc (cm lo hi n)):=by
 refine aC.bu Tryz.func114 QU SG UJ (t7 rfl) (fun hwf W0 D0 E1 =>?_);simp only[zS,KZ,bj,zz4,Nat.reduceAdd];refine .ak (by decide +kernel) fun K hK =>?_;simp only[Dt,J,simprocAttr];refine .done (hK _ ?_);clear hK K;refine .ak (by decide +kernel) fun K hK =>?_;simp only[Du,J,simprocAttr];refine .guard (fun h =>?_) (fun h =>?_)
 ·simp only[J,simprocAttr,h];refine .done (hK _ ?_);clear hK K;refine U.ret ?_;simp only[J,simprocAttr]
  simp_all[cm]
 ·simp only[J,simprocAttr,h];refine .done (hK _ ?_);clear hK K;refine U.ret ?_;simp only[J,simprocAttr];simp at h;simp[cm];omega
def o8(x:Item):Bool:=cm 0 5 x.e9&&cm 0 9999 x.no
theorem tZ(n:Int):aC Tryz.prog 127 [enc n] (enc (cm 0 100000 n)):=by
 refine aC.bu Tryz.func127 Q5 SR UU (t7 rfl) (fun hwf W0 D0 E1 =>?_);simp only[Aa,La,bj];refine .ak (by decide +kernel) fun K hK =>?_;simp only[DW,J,simprocAttr];refine .done (hK _ ?_);clear hK K;refine .ak (by decide +kernel) fun K hK =>?_;simp only[DX,J,simprocAttr];refine .flat _ (lP n 0 100000) rfl ?_
 try simp only[J,simprocAttr]
 refine .done (hK _ ?_);clear hK K;refine U.ret ?_;simp only[J,simprocAttr]
theorem Oy(n:Int):aC Tryz.prog 154 [enc n] (enc (cm 1 9999 n)):=by
 refine aC.bu Tryz.func154 Rl S8 Vb (t7 rfl) (fun hwf W0 D0 E1 =>?_);simp only[Aq,Lq,bj];refine .ak (by decide +kernel) fun K hK =>?_;simp only[EB,J,simprocAttr];refine .done (hK _ ?_);clear hK K;refine .ak (by decide +kernel) fun K hK =>?_;simp only[EC,J,simprocAttr];refine .flat _ (lP n 1 9999) rfl ?_
 try simp only[J,simprocAttr]
 refine .done (hK _ ?_);clear hK K;refine U.ret ?_;simp only[J,simprocAttr]
theorem Oz(n:Int):aC Tryz.prog 155 [enc n] (enc (cm 1 9 n)):=by
 refine aC.bu Tryz.func155 Rm S9 Vc (t7 rfl) (fun hwf W0 D0 E1 =>?_);simp only[Ar,Lr,bj];refine .ak (by decide +kernel) fun K hK =>?_;simp only[ED,J,simprocAttr];refine .done (hK _ ?_);clear hK K;refine .ak (by decide +kernel) fun K hK =>?_;simp only[EE,J,simprocAttr];refine .flat _ (lP n 1 9) rfl ?_
 try simp only[J,simprocAttr]
 refine .done (hK _ ?_);clear hK K;refine U.ret ?_;simp only[J,simprocAttr]
theorem OA(n:Int):aC Tryz.prog 156 [enc n] (enc (cm 1 99 n)):=by
 refine aC.bu Tryz.func156 Rn Ta Vd (t7 rfl) (fun hwf W0 D0 E1 =>?_);simp only[As,Ls,bj];refine .ak (by decide +kernel) fun K hK =>?_;simp only[EF,J,simprocAttr];refine .done (hK _ ?_);clear hK K;refine .ak (by decide +kernel) fun K hK =>?_;simp only[EG,J,simprocAttr];refine .flat _ (lP n 1 99) rfl ?_
 try simp only[J,simprocAttr]
 refine .done (hK _ ?_);clear hK K;refine U.ret ?_;simp only[J,simprocAttr]
theorem yN(x:Item):aC Tryz.prog 115 [enc x] (enc (o8 x)):=by
 refine aC.bu Tryz.func115 QV SH UK (t7 rfl) (fun hwf W0 D0 E1 =>?_);simp only[zT,K0,bj];refine .ak (by decide +kernel) fun K hK =>?_;simp only[Dv,J,simprocAttr]
 try simp only[dz,J,simprocAttr]
 refine .done (hK _ ?_);clear hK K;refine .ak (by decide +kernel) fun K hK =>?_;simp only[Dw,J,simprocAttr]
 try simp only[pS,J,simprocAttr]
 refine .flat _ (lP x.e9 0 5) rfl ?_
 try simp only[J,simprocAttr]
 cases h1:cm 0 5 x.e9 with
 |false =>
  try simp only[J,simprocAttr]
  refine .done (hK _ ?_);clear hK K;refine U.ret ?_;simp only[J,simprocAttr];simp[o8,h1]
 |true =>
  try simp only[pS,J,simprocAttr]
  refine .flat _ (lP x.no 0 9999) rfl ?_
  try simp only[J,simprocAttr]
  refine .done (hK _ ?_);clear hK K;refine U.ret ?_;simp only[J,simprocAttr];simp[o8,h1]
def before(a b:Item):Bool:=decide (a.e9<b.e9)||(decide (a.e9=b.e9)&&decide (a.no<b.no))
def lE:List Int→Int
 | []=>0
 |x::l=>if x≠0 then x else lE l
theorem KF{l:List Int}{i:Nat}(hi:i≤l.length)(h:∀ k,k<i→l.getD k 0=0):lE (l.drop i)=lE l:=by
 induction i with
 |zero=>simp
 |succ i ih =>
  have hlt:i<l.length:=by omega
  rw[←ih (by omega) (fun k hk=>h k (by omega)),zv2 hlt];have:=h i (by omega);rw[zz1,zz8 hlt] at this;simp at this;simp[lE,this]
theorem OB(l:List Int):aC Tryz.prog 158 [enc l] (enc (lE l)):=by
 refine aC.bu Tryz.func158 Rp Tc Vf (t7 rfl) (fun hwf W0 D0 E1 =>?_);simp only[Av,Lu,bj];have hlen:l.length≤maxLen:=((kM l).1 hwf.1).1;simp only[maxLen] at hlen;refine .ak (by decide +kernel) fun K hK =>?_;simp only[EL,J,simprocAttr];refine .done (hK _ ?_);clear hK K;refine .ak (by decide +kernel) fun K hK =>?_;simp only[EM,J,simprocAttr];refine .done (hK _ ?_);clear hK K;refine U.seq (U.seq ?_);refine .bd (by decide +kernel) fun K hK =>?_;simp only[EN,J,simprocAttr]
 try simp only[bP,J,simprocAttr]
 refine .done (hK _ ?_);clear hK K;try simp only[al]
 refine U.block (U.loop (fun i:Nat=>ar [(3,.int .i64 0),(6,enc l),(7,.int .i64 l.length),(8,.int .i64 i)] []) (fun i=>i≤l.length∧∀ k,k<i→l.getD k 0=0) (fun i=>l.length-i) 0 ⟨zv4 _,by intro k hk;omega⟩ ?_ (fun i hi =>?_))
 ·refine aF.bY ?_ ?_ ?_ ?_ <;>simp[aV,bO,bM,br,aW,I.only,bA]
 refine .ak (by decide +kernel) fun K hK =>?_;simp only[EO,J,simprocAttr];refine .done (hK _ ?_);clear hK K;refine U.seq ?_;refine U.bx ?_;simp only[au,J,simprocAttr];refine ⟨fun h =>?_,fun h =>?_⟩
 ·have hlt:i<l.length:=by simpa using h
  refine U.skip ?_;try simp only[al,simprocAttr]
  refine U.seq (U.block ?_);refine .ak (by decide +kernel) fun K hK =>?_;simp only[EP,J,simprocAttr]
  try simp only[fJ 1 hlt rfl,J,simprocAttr]
  refine .done (hK _ ?_);clear hK K;refine U.seq ?_;refine .bd (by decide +kernel) fun K hK =>?_;simp only[ER,J,simprocAttr];refine .done (hK _ ?_);clear hK K;try simp only[al]
  refine U.bx ?_;simp only[au,J,simprocAttr];refine ⟨fun h =>?_,fun h =>?_⟩
  ·refine .ak (by decide +kernel) fun K hK =>?_;simp only[ES,J,simprocAttr];refine .done (hK _ ?_);clear hK K;refine U.ret ?_;simp only[bJ,al,J,simprocAttr];rw[←KF hi.1 hi.2,zv2 hlt];simp at h;simp[lE,h]
  ·refine U.skip ?_;try simp only[al,bJ,simprocAttr]
   refine .bd (by decide +kernel) fun K hK =>?_;simp only[ET,J,simprocAttr];refine .done (hK _ ?_);clear hK K;try simp only[al]
   refine ⟨i+1,⟨by omega,fun k hk =>?_⟩,by omega,?_⟩
   ·by_cases e:k=i
    ·subst e;simp at h;simp[zz1,hlt,h]
    ·exact hi.2 k (by omega)
   ·rw[cA _ (by omega) (by omega)];refine aF.bY ?_ ?_ ?_ ?_ <;>simp[aV,bO,bM,br,aW,I.only,bA]
 have hie:i=l.length:=by simp at h;omega
 refine U.exit ?_;try simp only[al,bJ,simprocAttr]
 refine .ak (by decide +kernel) fun K hK =>?_;simp only[EU,J,simprocAttr];refine .done (hK _ ?_);clear hK K;refine U.ret ?_;simp only[J,simprocAttr];rw[←KF hi.1 hi.2,hie];simp[lE]
def kX(a b:Item):Int:=lE [jf a.e9 b.e9,jf a.no b.no]
theorem tX(a b:Item):aC Tryz.prog 118 [enc a,enc b] (enc (kX a b)):=by
 refine aC.bu Tryz.func118 QX SJ UM (t7 rfl) (fun hwf W0 D0 E1 =>?_);simp only[zV,K2,bj,zz4];refine .ak (by decide +kernel) fun K hK =>?_;simp only[DB,J,simprocAttr]
 try simp only[dz,J,simprocAttr]
 refine .done (hK _ ?_);clear hK K;refine .ak (by decide +kernel) fun K hK =>?_;simp only[DC,J,simprocAttr]
 try simp only[pS,J,simprocAttr]
 refine .flat _ (yU a.e9 b.e9) rfl ?_
 try simp only[pS,J,simprocAttr]
 refine .flat _ (yU a.no b.no) rfl ?_
 try simp only[J,simprocAttr]
 have hb:gY 1 (some [.int .i64 (jf a.e9 b.e9),.int .i64 (jf a.no b.no)])=some (enc [jf a.e9 b.e9,jf a.no b.no]):=mO (ys:=[jf a.e9 b.e9,jf a.no b.no]) 1 rfl
 try simp only[hb,cF,J,simprocAttr]
 refine .flat _ (OB _) rfl ?_
 try simp only[J,simprocAttr]
 refine .done (hK _ ?_);clear hK K;refine U.ret ?_;simp only[J,simprocAttr];rfl
deriving instance DecidableEq for aI
deriving instance DecidableEq for aw
deriving instance DecidableEq for aR
def tS:aI 6 Int:=⟨List.replicate 6 0,rfl⟩
instance:Inhabited aw:=⟨⟨⟨0,0⟩,0,0,0,0,0,0,0,tS,⟨0,0⟩⟩⟩
instance:Inhabited aR:=⟨⟨0,0,0,0,0,0,0,false,[]⟩⟩
def nC(x:aw):aw where
 bt:=x.bt
 kind:=x.kind
 day:=x.day
 known:=x.known
 dW:=if x.kind=0 then 0 else x.dW
 eV:=if x.kind=1 then x.eV else 0
 fg:=if x.kind=1∨x.kind=2 then x.fg else 0
 b5:=if x.kind=1∨x.kind=3∨x.kind=5 then x.b5 else 0
 bL:=if x.kind=4 then x.bL else tS
 j4:=if x.kind=0 then x.j4 else ⟨0,0⟩
def oW(x:aw):Bool :=
 if x.kind=0 then (x.day==0)&&(o8 x.j4&&((x.j4.e9==x.bt.e9)&&decide (x.j4.no<x.bt.no)))
 else cm 1 9999 x.dW&&(
  if x.kind=1 then cm 1 9 x.fg&&(cm 1 99 x.b5&&(cm 0 9999 x.eV&&(x.eV != x.dW)))
  else if x.kind=2 then cm 1 9 x.fg
  else if x.kind=3∨x.kind=5 then cm 1 99 x.b5
  else if x.kind=4 then fb x.bL
  else decide (x.kind=6))
def j6(x:aw):Bool:=oW x&&(decide (x=nC x)&&(o8 x.bt&&(cm 0 100000 x.day&&cm 0 100000 x.known)))
def ab(l:List aw)(i:Nat):aw:=l.getD i default
def j5(l:List aw)(i:Nat):Bool:=j6 (ab l i)&&(decide (i=0)||before (ab l (i-1)).bt (ab l i).bt)
def dC(l:List aw):Bool:=decide (l.length≤60)&&(List.range l.length).all (j5 l)
def jF(l:List aw)(a:Item):Nat:=l.findIdx fun x => !before x.bt a
def l8(l:List aw)(a:Item):Bool:=l.any fun x=>decide (x.bt=a)
def gu(known:Int):List aw→List Bool×List Item
 | []=>([],[])
 |x::l =>
  let b:=decide (x.known≤known) && !(gu known l).2.contains x.bt
  (b::(gu known l).1,if b&&decide (x.kind=0) then x.j4::(gu known l).2 else (gu known l).2)
def iX(l:List aw)(known:Int):List Bool:=(gu known l).1
def gv(l:List aw)(known:Int):List Nat:=(List.range l.length).filter fun i=>(iX l known).getD i false
def iJ(key:Nat→Int)(i:Nat)(l:List Nat):List Nat:=(l.takeWhile fun k=>decide (key k≤key i))++i::l.dropWhile fun k=>decide (key k≤key i)
def KG(key:Nat→Int)(l:List Nat):List Nat:=l.foldl (fun o i=>iJ key i o) []
def iA(l:List aw)(day known:Int):List Nat:=(gv l known).filter fun i=>decide ((ab l i).kind≠0)&&decide ((ab l i).day≤day)
def jm(l:List aw)(day known:Int):List Nat:=KG (fun i=>(ab l i).day) (iA l day known)
def dp(bs:List aR)(no:Int):Option aR:=bs.find? fun b=>decide (b.no=no)
def lM(bs:List aR)(x:aR):List aR:=bs.map fun b=>if b.no=x.no then x else b
def fL(x:aw):aR:=⟨x.dW,x.fg,x.eV,x.b5,x.b5,x.day,-1,false,[]⟩
def hJ(bs:List aR)(x:aw):Bool:=decide (x.eV≤0)||match dp bs x.eV with
 |some d=>decide (d.fg=x.fg) && !(decide (0≤d.eW)&&decide (d.eW<x.day))
 |none=>false
def iY(b:aR)(x:aw):Option aR :=
 if x.kind=3 then (if b.eW≥0∨b.b5=0∨b.b5=x.b5 then none else some { b with b5:=x.b5 })
 else if x.kind=4 then some { b with bL:=b.bL++[x.bL] }
 else if x.kind=5 then some { b with b5:=x.b5,found:=true }
 else (if b.eW≥0 then none else some { b with eW:=x.day })
def ef(add:List aR→aR→List aR)(bs:List aR)(x:aw):Option (List aR) :=
 if x.kind=1∨x.kind=2 then (if dp bs x.dW=none∧hJ bs x=true then some (add bs (fL x)) else none)
 else match dp bs x.dW with
  |none=>none
  |some b=>(iY b x).map (lM bs)
def eD(bs:List aR)(b:aR):List aR:=bs++[b]
def mH(add:List aR→aR→List aR)(l:List aw)(s:List aR×List Nat)(i:Nat):List aR×List Nat:=match ef add s.1 (ab l i) with
 |some bs=>(bs,s.2)
 |none=>(s.1,s.2++[i])
def qK(add:List aR→aR→List aR)(l:List aw)(order:List Nat):List aR×List Nat:=order.foldl (mH add l) ([],[])
theorem aih(bs:List aR)(x:aR):(lM bs x).map (·.no)=bs.map (·.no):=by
 simp only[lM,List.map_map];refine List.map_congr_left fun b _ =>?_;simp only[Function.comp];split
 ·rename_i h;exact h.symm
 ·rfl
theorem Ja{bs:List aR}{no:Int}{b:aR}(h:dp bs no=some b):b∈bs∧b.no=no:=⟨List.mem_of_find?_eq_some h,by simpa using List.find?_some h⟩
theorem wm{bs:List aR}{no:Int} : dp bs no=none↔no∉bs.map (·.no):=by
 simp[dp]
theorem ael{bs:List aR}(hd:(bs.map (·.no)).Nodup){b:aR}(h:b∈bs):dp bs b.no=some b:=by
 induction bs with
 |nil=>cases h
 |cons a bs ih =>
  simp only[dp,List.find?_cons];simp only[zz9,List.nodup_cons] at hd;by_cases e:a.no=b.no
  ·rcases zw9.1 h with rfl | h
   ·simp
   ·exact absurd (zx5.2 ⟨b,h,e.symm⟩) hd.1
  ·rcases zw9.1 h with rfl | h
   ·exact absurd rfl e
   ·simp only[decide_eq_false e];exact ih hd.2 h
def yL(add:List aR→aR→List aR):Prop:=∀ bs b,(add bs b).Perm (b::bs)
theorem PE:yL eD:=fun bs b=>List.perm_append_comm
theorem PX{add:List aR→aR→List aR}(ha:yL add){bs bs':List aR}{x:aw}(hd:(bs.map (·.no)).Nodup)(h:ef add bs x=some bs'):(bs'.map (·.no)).Nodup:=by
 simp only[ef] at h;split at h
 ·split at h
  ·rename_i h2;simp only[u8] at h;subst h;rw[((ha bs (fL x)).map _).nodup_iff];simp only[zz9,List.nodup_cons];exact ⟨wm.1 h2.1,hd⟩
  ·cases h
 ·split at h
  ·cases h
  ·simp only[zz0] at h;obtain ⟨b',_,rfl⟩:=h;rw[aih];exact hd
theorem air{n:Nat}{p:List Nat}{sz k total i j:Nat}(h:i≤j)(hj:j≤k)(hk:k≤total):gL n p sz 0 k total (some (.int .i64 i)) (some (.int .i64 j)) (some (.int .i64 k))=some .c8:=by
 simp only[gL,gX];rw[if_pos ⟨by omega,by omega,by omega,by omega⟩]
theorem Ni{n:Nat}{p:List Nat}{sz k total i j:Nat}(h:i≤j)(hk:j≤total)(h0:i<total):gL n p sz 0 k total (some (.int .i64 i)) (some (.int .i64 j)) none=some (.view n p sz i (j-i)):=by
 simp only[gL,gX];rw[if_pos ⟨by omega,by omega,by omega⟩,if_neg (by omega)];simp
theorem PU{α:Type}[Enc α]{A:ae}{rest:List az}{esz bytes:Nat}{d:Option Nat}{e:Nat}(z x:I){n l:Nat}{xs ys:List α}(hx:ep A esz x=some (ys.map enc))(hy:ys≠[])(ho:A.o n=some (.box (.agg (xs.map enc))))(hr:l+ys.length≤xs.length) :
  jN A d e esz bytes z x rest (.view n [] esz 0 l)=aA rest ((A.aN n (.box (.agg ((xs.take l++(ys++xs.drop (l+ys.length))).map enc)))).aK d (.view n [] esz 0 (l+ys.length))):=by
 have h1:=tH (A:=A) (esz:=esz) (lo:=0) (k:=l) ho (by omega);have h2:(I.agg (xs.map (enc (α:=α)))).at []=some (.agg (xs.map enc)):=rfl;have h3:I.cN (ys.map (enc (α:=α)))=I.cN (((xs.map (enc (α:=α))).drop l).take ys.length):=by
  rw[←List.map_drop,←List.map_take];exact aik (by rw[zx3,zx0];omega)
 simp only[jN,h1,hx,fo];rw[if_neg (by simpa using hy)];simp only[ho,h2,zy1,zz4];rw[if_pos hr,if_pos ⟨rfl,by rw[zy1,zz4];exact h3⟩];simp only[iT,fR,zy1,zx6,List.map_take,List.map_drop]
theorem PT{α:Type}[Enc α]{A:ae}{rest:List az}{esz bytes:Nat}{d:Option Nat}{e:Nat}(z x:I){n l:Nat}{xs:List α}(hx:ep A esz x=some [])(ho:A.o n=some (.box (.agg (xs.map enc))))(hr:l≤xs.length) :
  jN A d e esz bytes z x rest (.view n [] esz 0 l)=aA rest (A.aK d (.view n [] esz 0 l)):=by
 have h1:=tH (A:=A) (esz:=esz) (lo:=0) (k:=l) ho (by omega);simp only[jN,h1,hx,fo,if_true]
theorem XQ(a b:Int):cg (.i .i64) (enc a) (enc b)=some (a==b):=by simp[jx,cg]
theorem CY:∀ (x y:List Int),x.length=y.length→((x.map (enc (α:=Int))).zip (y.map (enc (α:=Int)))).foldr (fun p acc=>gW (cg (.i .i64) p.1 p.2) acc) (some true)=some (decide (x=y))
 | [],[],_=>by simp
 |a::x,b::y,h=>by
  have ih:=CY x y (by simpa using h);rw[zz9,zz9,List.zip_cons_cons,List.foldr_cons,ih,XQ];by_cases hab:a=b <;>by_cases hxy:x=y <;>simp[gW,hab,hxy]
theorem r3{n:Nat}(x y:aI n Int):cg (.kh n (.i .i64)) (enc x) (enc y)=some (decide (x.l=y.l)):=by
 change cg (.kh n (.i .i64)) (.agg (x.l.map enc)) (.agg (y.l.map enc))=_
 rw[cg,if_pos ⟨by simp[x.h],by simp[y.h]⟩];exact CY x.l y.l (by rw[x.h,y.h])
theorem OE(n:Int):aC Tryz.prog 162 [enc n] (enc (!cm 0 4 n)):=by
 refine aC.bu Tryz.func162 Ru Th Vk (t7 rfl) (fun hwf W0 D0 E1 =>?_);simp only[AA,Lz,bj];refine .ak (by decide +kernel) fun K hK =>?_;simp only[Fc,J,simprocAttr];refine .done (hK _ ?_);clear hK K;refine .ak (by decide +kernel) fun K hK =>?_;simp only[Fe,J,simprocAttr];refine .flat _ (rp n 0 4) rfl ?_
 try simp only[J,simprocAttr]
 refine .done (hK _ ?_);clear hK K;refine U.ret ?_;simp only[J,simprocAttr]
theorem O5(n:Int):aC Tryz.prog 211 [enc n] (enc (!cm 1 31 n)):=by
 refine aC.bu Tryz.func211 RU TJ VL (t7 rfl) (fun hwf W0 D0 E1 =>?_);simp only[A4,L2,bj];refine .ak (by decide +kernel) fun K hK =>?_;simp only[GW,J,simprocAttr];refine .done (hK _ ?_);clear hK K;refine .ak (by decide +kernel) fun K hK =>?_;simp only[GX,J,simprocAttr];generalize hz:(n==0)=z;cases z
 ·try simp only[J,simprocAttr]
  refine .flat _ (yV n) rfl ?_
  try simp only[J,simprocAttr]
  refine .done (hK _ ?_);clear hK K;refine U.ret ?_;simp only[J,simprocAttr];simp at hz;have e:(0≤n)↔(1≤n):=by omega
  simp[cm,e]
 ·try simp only[J,simprocAttr]
  refine .done (hK _ ?_);clear hK K;refine U.ret ?_;simp only[J,simprocAttr];simp at hz;simp[cm,hz]
def m7(p:Int→Bool)(l:List Int):Int:=match l.findIdx? p with
 |some i=>i
 |none=>-1
theorem vk{α:Type}{p:α→Bool}{l:List α}(h:∀ x∈l,p x=false):l.findIdx? p=none:=by
 rw[List.findIdx?_eq_none_iff];exact h
theorem vl{α:Type}{p:α→Bool}{l:List α}{i:Nat}(hi:i<l.length)(h:∀ x∈l.take i,p x=false)(hp:p l[i]=true):l.findIdx? p=some i:=by
 rw[List.findIdx?_eq_some_iff_getElem];refine ⟨hi,hp,fun j hj =>?_⟩;have:l[j]∈l.take i:=by
  rw[List.mem_take_iff_getElem];exact ⟨j,by omega,rfl⟩
 simp[h _ this]
theorem OI(l:List Int)(f:FuncId)(caps:List I)(hcaps:I.eG caps=true)(p:Int→Bool)(hf:∀ x∈l,aC Tryz.prog f (enc x::caps) (enc (p x))):aC Tryz.prog 166 [enc l,.func f caps] (enc (m7 p l)):=by
 refine aC.bu Tryz.func166 Ry Tl Vo (t7 rfl) (fun hwf W0 D0 E1 =>?_);simp only[AF,LD,bj,zz4];have hlen:l.length≤maxLen:=((kM l).1 hwf.1).1;simp only[maxLen] at hlen;have hcl:I.bW caps=true:=kp caps hcaps;have hfc:∀ aB A,bX aB A caps=some caps:=fun aB A=>kr aB A caps hcaps;have hon:∀ q,I.b8 q caps=true:=fun q=>j7 q caps hcl;refine .ak (by decide +kernel) fun K hK =>?_;simp only[Fm,J,simprocAttr];refine .done (hK _ ?_);clear hK K;refine U.seq ?_;refine U.seq (U.bd (by decide +kernel) fun K hK =>?_)
 try simp only[Fo,bP,J,simprocAttr]
 refine .done (hK _ ?_);clear hK K;refine U.block (U.loop (fun i:Nat=>ar [(0,enc l),(1,.func f caps),(7,.int .i64 l.length),(8,.int .i64 i)] []) (fun i=>i≤l.length∧∀ x∈l.take i,p x=false) (fun i=>l.length-i) 0 ⟨zv4 _,by simp⟩ ?_ (fun i hi =>?_))
 ·refine aF.bY ?_ ?_ ?_ ?_ <;>simp[aV,bO,bM,br,aW,I.only,bA,hon]
 ·refine .ak (by decide +kernel) fun K hK =>?_;simp only[Fp,J,simprocAttr];refine .done (hK _ ?_);clear hK K;refine U.seq ?_;refine U.bx ?_;simp only[au,J,simprocAttr];refine ⟨fun h =>?_,fun h =>?_⟩
  ·have hlt:i<l.length:=by simpa using h
   refine U.skip ?_;try simp only[al,simprocAttr]
   refine U.seq (U.block ?_);refine .ak (by decide +kernel) fun K hK =>?_;simp only[Fq,J,simprocAttr];refine .done (hK _ ?_);clear hK K;refine .ak (by decide +kernel) fun K hK =>?_;simp only[Fs,J,simprocAttr]
   try simp only[fJ 1 hlt rfl,zy0,hfc,J,simprocAttr]
   refine .flat _ (hf _ (zy6 hlt)) rfl ?_
   try simp only[J,simprocAttr]
   refine .done (hK _ ?_);clear hK K;refine U.bx ?_;simp only[au,J,simprocAttr];refine ⟨fun h =>?_,fun h =>?_⟩
   ·refine .ak (by decide +kernel) fun K hK =>?_;simp only[Ft,J,simprocAttr];refine .done (hK _ ?_);clear hK K;refine U.ret ?_;simp only[bJ,al,J,simprocAttr];simp[m7,vl hlt hi.2 h]
   ·refine U.skip ?_;try simp only[al,bJ,simprocAttr]
    refine .bd (by decide +kernel) fun K hK =>?_;simp only[Fu,J,simprocAttr];refine .done (hK _ ?_);clear hK K;try simp only[al]
    refine ⟨i+1,⟨by omega,fun x hm =>?_⟩,by omega,?_⟩
    ·rw[zy5 hlt] at hm;rcases zy7.1 hm with hm | hm
     ·exact hi.2 x hm
     ·simp at hm;rw[hm];exact h
    ·rw[cA _ (by omega) (by omega)];refine aF.bY ?_ ?_ ?_ ?_ <;>simp[aV,bO,bM,br,aW,I.only,bA,hon]
  ·have hge:i=l.length:=by simp at h;omega
   refine U.exit ?_;try simp only[al,bJ,simprocAttr]
   refine .ak (by decide +kernel) fun K hK =>?_;simp only[Fv,J,simprocAttr];refine .done (hK _ ?_);clear hK K;refine U.ret ?_;simp only[J,simprocAttr];simp[hge] at hi;simp[m7,vk hi]
theorem Jn(p:Int→Bool)(l:List Int):decide (0≤m7 p l)=l.any p:=by
 unfold m7;cases h:l.findIdx? p with
 |none =>
  rw[List.findIdx?_eq_none_iff] at h;have:l.any p=false:=by rw[List.any_eq_false];intro x hx;simp[h x hx]
  simp[this]
 |some i =>
  rw[List.findIdx?_eq_some_iff_getElem] at h;obtain ⟨h1,h2,_⟩:=h;have:l.any p=true:=by rw[List.any_eq_true];exact ⟨_,zy6 h1,h2⟩
  rw[this];exact decide_eq_true (Int.natCast_nonneg i)
theorem tY(l:List Int)(f:FuncId)(caps:List I)(hcaps:I.eG caps=true)(p:Int→Bool)(hf:∀ x∈l,aC Tryz.prog f (enc x::caps) (enc (p x))):aC Tryz.prog 125 [enc l,.func f caps] (enc (l.any p)):=by
 refine aC.bu Tryz.func125 Q3 SP US (t7 rfl) (fun hwf W0 D0 E1 =>?_);simp only[z7,K8,bj,zz4];have hcl:I.bW caps=true:=kp caps hcaps;have hfc:∀ aB A,bX aB A caps=some caps:=fun aB A=>kr aB A caps hcaps;refine .ak (by decide +kernel) fun K hK =>?_;simp only[DU,J,simprocAttr];refine .done (hK _ ?_);clear hK K;refine .ak (by decide +kernel) fun K hK =>?_;simp only[DV,J,simprocAttr]
 try simp only[cF,hfc,J,simprocAttr]
 refine .flat _ (OI l f caps hcaps p hf) rfl ?_
 try simp only[J,simprocAttr]
 refine .done (hK _ ?_);clear hK K;refine U.ret ?_;simp only[J,simprocAttr];rw[Jn]
theorem CM{α:Type}[Enc α]{n sz:Nat}(x:aI n α)(hs:Enc.sz α=sz):l6 sz 0 n (some (x.l.map enc))=some (enc x.l):=by
 have h:((x.l.map (enc (α:=α))).drop 0).take n=x.l.map enc:=by
  rw[List.drop_zero,zw6];simp[x.h]
 simp only[l6,h];rw[if_pos (kj x.l),gE,hs]
theorem NQ{α:Type}[Enc α]{n sz:Nat}(x:aI n α)(hs:Enc.sz α=sz)(h1:n≤maxLen)(h0:n≠0)(y:I):oz n sz (x.l.map enc) y=some y:=by
 simp only[oz];rw[if_pos ⟨u9 n sz x.l x.h hs,h1,h0⟩]
theorem zm(p:Int→Bool)(x:aI 6 Int):x.l.any (fun v => !p v) = !(List.range 6).all (fun i=>p (x.g i)):=by
 have h:(List.range 6).all (fun i=>p (x.g i))=x.l.all p:=by
  rw[Bool.eq_iff_iff];simp only[zy2,zx4];constructor
  ·intro h v hv;obtain ⟨i,hi,rfl⟩:=zv6 hv;have:=h i (by rw[x.h] at hi;exact hi)
   rwa [←x.sr (by rw[x.h] at hi;exact hi)] at this
  ·intro h i hi;rw[←x.sr hi];exact h _ (zy6 _)
 rw[h,List.not_all_eq_any_not]
theorem Og(m:aI 6 Int):aC Tryz.prog 123 [enc m] (enc (cZ m)):=by
 refine aC.bu Tryz.func123 Q1 SN UQ (t7 rfl) (fun hwf W0 D0 E1 =>?_);simp only[zZ,K6,bj];refine .ak (by decide +kernel) fun K hK =>?_;simp only[DQ,J,simprocAttr];refine .done (hK _ ?_);clear hK K;refine .ak (by decide +kernel) fun K hK =>?_;simp only[DR,J,simprocAttr]
 try simp only[bP,NQ (sz:=1) m rfl (t7 rfl) (Nat.succ_ne_zero 5),CM (sz:=1) m rfl,J,simprocAttr]
 refine .flat _ (tY m.l 162 [] rfl (fun n => !cm 0 4 n) (fun x _=>OE x)) rfl ?_
 try simp only[J,simprocAttr]
 refine .done (hK _ ?_);clear hK K;refine U.ret ?_;simp only[J,simprocAttr];rw[zm (cm 0 4)];simp[cZ]
theorem OU(m:aI 6 Int):aC Tryz.prog 193 [enc m] (enc (fb m)):=by
 refine aC.bu Tryz.func193 RJ Ty VA (t7 rfl) (fun hwf W0 D0 E1 =>?_);simp only[AR,LQ,bj];refine .ak (by decide +kernel) fun K hK =>?_;simp only[FQ,J,simprocAttr];refine .done (hK _ ?_);clear hK K;refine .ak (by decide +kernel) fun K hK =>?_;simp only[FR,J,simprocAttr]
 try simp only[bP,NQ (sz:=1) m rfl (t7 rfl) (Nat.succ_ne_zero 5),CM (sz:=1) m rfl,J,simprocAttr]
 refine .flat _ (tY m.l 211 [] rfl (fun n => !cm 1 31 n) (fun x _=>O5 x)) rfl ?_
 try simp only[J,simprocAttr]
 refine .done (hK _ ?_);clear hK K;refine U.ret ?_;simp only[J,simprocAttr];rw[zm (cm 1 31)];simp[fb]
theorem Of(n:Int):aC Tryz.prog 122 [enc n] (enc (cm 1 99 n)):=by
 refine aC.bu Tryz.func122 Q0 SM UP (t7 rfl) (fun hwf W0 D0 E1 =>?_);simp only[zY,K5,bj];refine .ak (by decide +kernel) fun K hK =>?_;simp only[DO,J,simprocAttr];refine .done (hK _ ?_);clear hK K;refine .ak (by decide +kernel) fun K hK =>?_;simp only[DP,J,simprocAttr];refine .flat _ (rp n 1 99) rfl ?_
 try simp only[J,simprocAttr]
 refine .done (hK _ ?_);clear hK K;refine U.ret ?_;simp only[J,simprocAttr]
theorem yT(m:aI 6 Int):aC Tryz.prog 157 [enc m] (enc (if fb m then (0:Int) else 12)):=by
 refine aC.bu Tryz.func157 Ro Tb Ve (t7 rfl) (fun hwf W0 D0 E1 =>?_);simp only[Au,Lt,bj];refine .ak (by decide +kernel) fun K hK =>?_;simp only[EH,J,simprocAttr];refine .done (hK _ ?_);clear hK K;refine U.seq (U.seq ?_);refine .bd (by decide +kernel) fun K hK =>?_;simp only[EI,J,simprocAttr]
 try simp only[cv,cF,J,simprocAttr]
 refine .flat _ (OU m) rfl ?_;generalize hm:fb m=b;cases b
 ·try simp only[J,simprocAttr]
  refine .done (hK _ ?_);clear hK K;try simp only[al]
  refine U.bx ?_;simp only[au,J,simprocAttr];refine ⟨fun h =>?_,fun h =>?_⟩
  ·refine .ak (by decide +kernel) fun K hK =>?_;simp only[EJ,J,simprocAttr];refine .done (hK _ ?_);clear hK K;refine U.ret ?_;simp only[al,J,simprocAttr];simp[hm]
  ·cases h
 ·try simp only[J,simprocAttr]
  refine .done (hK _ ?_);clear hK K;refine U.bx ?_;simp only[au,J,simprocAttr];refine ⟨fun h =>?_,fun h =>?_⟩
  ·cases h
  ·refine U.skip ?_;try simp only[al,simprocAttr]
   refine .ak (by decide +kernel) fun K hK =>?_;simp only[EK,J,simprocAttr];refine .done (hK _ ?_);clear hK K;refine U.ret ?_;simp only[J,simprocAttr];simp[hm]
def wB(s:Int)(k:Nat):Bool:=kS (s.fdiv (2^min k IntKind.i64.bits)) 1==1
theorem OD(s:Int)(k:Nat):aC Tryz.prog 161 [enc s,enc (k:Int)] (enc (wB s k)):=by
 refine aC.bu Tryz.func161 Rt Tg Vj (t7 rfl) (fun hwf W0 D0 E1 =>?_);simp only[Az,Ly,bj,zz4];refine .ak (by decide +kernel) fun K hK =>?_;simp only[Fa,J,simprocAttr];refine .done (hK _ ?_);clear hK K;refine .ak (by decide +kernel) fun K hK =>?_;simp only[Fb,J,simprocAttr];refine .done (hK _ ?_);clear hK K;refine U.ret ?_;simp only[J,simprocAttr];rfl
theorem aeO(s:Int)(h0:0≤s)(h1:s≤31)(k:Nat)(hk:k<5):wB s k=fj s k:=by
 have key:∀ s:Fin 32,∀ k:Fin 5,wB (s.1:Int) k.1=fj (s.1:Int) k.1:=by decide +kernel
 have:=key ⟨s.toNat,by omega⟩ ⟨k,hk⟩;simpa[Int.toNat_of_nonneg h0] using this
theorem Oe(m:aI 5 Int):aC Tryz.prog 120 [enc m] (enc (eP m)):=by
 refine aC.bu Tryz.func120 QY SK UN (t7 rfl) (fun hwf W0 D0 E1 =>?_);simp only[zW,K3,bj];refine .ak (by decide +kernel) fun K hK =>?_;simp only[DE,J,simprocAttr];refine .done (hK _ ?_);clear hK K;refine U.seq ?_;refine U.seq (U.bd (by decide +kernel) fun K hK =>?_)
 try simp only[DF,cv,J,simprocAttr]
 refine .done (hK _ ?_);clear hK K;refine U.block (U.loop (fun i:Nat=>ar [(2,.bool false),(6,enc m),(7,.int .i64 i)] []) (fun j=>j≤5∧∀ i,i<j→(cm 0 31 (m.g i)&&fj (m.g i) i)=true) (fun i=>5-i) 0 ⟨by omega,fun k h=>by omega⟩ ?_ (fun i hi =>?_))
 ·refine aF.bY ?_ ?_ ?_ ?_ <;>simp[aV,bO,bM,br,aW,I.only,bA]
 ·refine .ak (by decide +kernel) fun K hK =>?_;simp only[DG,J,simprocAttr];refine .done (hK _ ?_);clear hK K;refine U.seq ?_;refine U.bx ?_;simp only[au,J,simprocAttr];refine ⟨fun h =>?_,fun h =>?_⟩
  ·have hlt:i<5:=by simp at h;omega
   refine U.skip ?_;try simp only[al,simprocAttr]
   refine U.seq (U.block ?_);refine .ak (by decide +kernel) fun K hK =>?_;simp only[DH,J,simprocAttr]
   try simp only[qv,bP,iI 1 m hlt rfl,qk m hlt,J,simprocAttr]
   refine .done (hK _ ?_);clear hK K;refine .ak (by decide +kernel) fun K hK =>?_;simp only[DI,J,simprocAttr];refine .done (hK _ ?_);clear hK K;refine .ak (by decide +kernel) fun K hK =>?_;simp only[DJ,J,simprocAttr];refine .flat _ (yV _) rfl ?_;generalize hb:cm 0 31 (m.g i)=b;cases b
   ·try simp only[J,simprocAttr]
    refine .done (hK _ ?_);clear hK K;refine U.bx ?_;simp only[au,J,simprocAttr];refine ⟨fun h =>?_,fun h =>?_⟩
    ·refine .ak (by decide +kernel) fun K hK =>?_;simp only[vr,J,simprocAttr];refine .done (hK _ ?_);clear hK K;refine U.ret ?_;simp only[bJ,al,J,simprocAttr];rw[eP,mM i hlt];simp[hb]
    ·cases h
   ·have hr:0≤m.g i∧m.g i≤31:=by simpa[cm] using hb
    try simp only[J,simprocAttr]
    refine .flat _ (OD (m.g i) i) rfl ?_;rw[aeO _ hr.1 hr.2 i hlt]
    try simp only[J,simprocAttr]
    refine .done (hK _ ?_);clear hK K;refine U.bx ?_;simp only[au,J,simprocAttr];refine ⟨fun h =>?_,fun h =>?_⟩
    ·refine .ak (by decide +kernel) fun K hK =>?_;simp only[vr,J,simprocAttr];refine .done (hK _ ?_);clear hK K;refine U.ret ?_;simp only[bJ,al,J,simprocAttr];rw[eP,mM i hlt];simp at h;simp[h]
    ·refine U.skip ?_;try simp only[al,bJ,simprocAttr]
     refine .bd (by decide +kernel) fun K hK =>?_;simp only[DK,J,simprocAttr];refine .done (hK _ ?_);clear hK K;try simp only[al]
     refine ⟨i+1,⟨by omega,fun k hk =>?_⟩,by omega,?_⟩
     ·by_cases hk':k=i
      ·subst hk';simp at h;simp[hb,h]
      ·exact hi.2 k (by omega)
     ·rw[cA _ (by omega) (by omega)];refine aF.bY ?_ ?_ ?_ ?_ <;>simp[aV,bO,bM,br,aW,I.only,bA]
  ·have hge:i=5:=by simp at h;omega
   subst hge;refine U.exit ?_;try simp only[al,bJ,simprocAttr]
   refine .ak (by decide +kernel) fun K hK =>?_;simp only[DL,J,simprocAttr];refine .done (hK _ ?_);clear hK K;refine U.ret ?_;simp only[J,simprocAttr];rw[eP,oG hi.2]
theorem yZ(f:FuncId)(caps:List I)(hcaps:I.eG caps=true)(p:Nat→Bool)(hf:∀ i:Nat,i<6→aC Tryz.prog f (enc (i:Int)::caps) (enc (p i))):aC Tryz.prog 197 [.func f caps] (enc (dn (fun i => !p i) 6:Int)):=by
 refine aC.bu Tryz.func197 RN TC VE (t7 rfl) (fun hwf W0 D0 E1 =>?_);simp only[AV,LV,bj];have hcl:I.bW caps=true:=kp caps hcaps;have hfc:∀ aB A,bX aB A caps=some caps:=fun aB A=>kr aB A caps hcaps;have hon:∀ q,I.b8 q caps=true:=fun q=>j7 q caps hcl;refine .ak (by decide +kernel) fun K hK =>?_;simp only[F5,J,simprocAttr];refine .done (hK _ ?_);clear hK K;refine .ak (by decide +kernel) fun K hK =>?_;simp only[F6,J,simprocAttr];refine .done (hK _ ?_);clear hK K;refine U.seq ?_;refine .ak (by decide +kernel) fun K hK =>?_;simp only[F7,J,simprocAttr];refine .done (hK _ ?_);clear hK K;refine U.block (U.loop (fun i:Nat=>ar [(0,.func f caps),(3,.int .i64 (dn (fun i => !p i) i:Int)),(5,.int .i64 i)] []) (fun i=>i≤6∧dn (fun i => !p i) i≤i) (fun i=>6-i) 0 ⟨by omega,by simp[dn]⟩ ?_ (fun i hi =>?_))
 ·refine aF.bY ?_ ?_ ?_ ?_ <;>simp[aV,bO,bM,br,aW,I.only,hon,dn]
 ·refine .ak (by decide +kernel) fun K hK =>?_;simp only[F8,J,simprocAttr];refine .done (hK _ ?_);clear hK K;refine U.seq ?_;refine U.bx ?_;simp only[au,J,simprocAttr];refine ⟨fun h =>?_,fun h =>?_⟩
  ·have hlt:i<6:=by simp at h;omega
   refine U.skip ?_;try simp only[al,simprocAttr]
   refine U.seq (U.block ?_);refine .ak (by decide +kernel) fun K hK =>?_;simp only[F9,J,simprocAttr];refine .done (hK _ ?_);clear hK K;refine .ak (by decide +kernel) fun K hK =>?_;simp only[Ga,J,simprocAttr]
   try simp only[zy0,hfc,J,simprocAttr]
   refine .flat _ (hf i hlt) rfl ?_
   try simp only[J,simprocAttr]
   refine .done (hK _ ?_);clear hK K;refine U.bx ?_;simp only[au,J,simprocAttr];refine ⟨fun h =>?_,fun h =>?_⟩
   ·simp at h;refine .bd (by decide +kernel) fun K hK =>?_;simp only[Gb,J,simprocAttr];refine .done (hK _ ?_);clear hK K;try simp only[al,bJ]
    refine .bd (by decide +kernel) fun K hK =>?_;simp only[vQ,J,simprocAttr];refine .done (hK _ ?_);clear hK K;try simp only[al]
    refine ⟨i+1,⟨by omega,?_⟩,by omega,?_⟩
    ·simp only[dn];split <;>omega
    ·rw[cA _ (by omega) (by omega),cA _ (by omega) (by omega)];refine aF.bY ?_ ?_ ?_ ?_ <;>simp[aV,bO,bM,br,aW,I.only,hon,dn,h]
   ·simp at h;refine U.skip ?_;try simp only[al,bJ,simprocAttr]
    refine .bd (by decide +kernel) fun K hK =>?_;simp only[vQ,J,simprocAttr];refine .done (hK _ ?_);clear hK K;try simp only[al]
    refine ⟨i+1,⟨by omega,?_⟩,by omega,?_⟩
    ·simp only[dn];split <;>omega
    ·rw[cA _ (by omega) (by omega)];refine aF.bY ?_ ?_ ?_ ?_ <;>simp[aV,bO,bM,br,aW,I.only,hon,dn,h]
  ·have hge:i=6:=by simp at h;omega
   subst hge;refine U.exit ?_;try simp only[al,bJ,simprocAttr]
   refine .ak (by decide +kernel) fun K hK =>?_;simp only[Gc,J,simprocAttr];refine .done (hK _ ?_);clear hK K;refine U.ret ?_;simp only[J,simprocAttr]
theorem O6(w:aI 5 Int)(m r:aI 6 Int)(hm:cZ m=true)(i:Nat)(hi:i<6):aC Tryz.prog 212 (enc (i:Int)::[.ref (.func 196 []),.ref (enc w),.ref (enc m),.ref (enc r)]) (enc (!hE w m r i)):=by
 obtain ⟨h0,h5⟩:=mh hm hi;refine aC.bu Tryz.func212 RV TK VM (t7 rfl) (fun hwf W0 D0 E1 =>?_);simp only[A5,L3,bj,zz4,Nat.reduceAdd];refine .ak (by decide +kernel) fun K hK =>?_;simp only[GY,J,simprocAttr];refine .done (hK _ ?_);clear hK K;refine .ak (by decide +kernel) fun K hK =>?_;simp only[GZ,J,simprocAttr]
 try simp only[cv,cF,J,simprocAttr]
 refine .flat _ (ub w m i hi h0 h5) rfl ?_
 try simp only[bP,iI 1 r hi rfl,qp,qk r hi,zw1,J,simprocAttr]
 refine .flat _ (yY _ _) rfl ?_
 try simp only[J,simprocAttr]
 refine .done (hK _ ?_);clear hK K;refine U.ret ?_;simp only[J,simprocAttr];simp[hE,bne]
theorem OV(w:aI 5 Int)(a b:aI 6 Int)(ha:cZ a=true)(hb:cZ b=true)(i:Nat)(hi:i<6):aC Tryz.prog 198 (enc (i:Int)::[.ref (.func 196 []),.ref (enc w),.ref (enc a),.ref (enc b)]) (enc (!iw w a b i)):=by
 obtain ⟨h0,h5⟩:=mh ha hi;obtain ⟨k0,k5⟩:=mh hb hi;refine aC.bu Tryz.func198 RO TD VF (t7 rfl) (fun hwf W0 D0 E1 =>?_);simp only[AW,LW,bj,zz4,Nat.reduceAdd];refine .ak (by decide +kernel) fun K hK =>?_;simp only[Gd,J,simprocAttr];refine .done (hK _ ?_);clear hK K;refine .ak (by decide +kernel) fun K hK =>?_;simp only[Ge,J,simprocAttr]
 try simp only[cv,cF,J,simprocAttr]
 refine .flat _ (ub w a i hi h0 h5) rfl ?_
 try simp only[cv,cF,J,simprocAttr]
 refine .flat _ (ub w b i hi k0 k5) rfl ?_
 try simp only[zw1,J,simprocAttr]
 refine .flat _ (yY _ _) rfl ?_
 try simp only[J,simprocAttr]
 refine .done (hK _ ?_);clear hK K;refine U.ret ?_;simp only[J,simprocAttr];simp[iw,bne]
theorem Nx{A:ae}{n:Nat}{b:I}{f:FuncId}{caps:List I}{rest:List az} : dO A none n [] b (.func f caps) rest (some .da)=aA rest (A.aN n (.box (b.dx [] (.func f caps)))):=eg rfl rfl (by simp[I.aJ])
theorem OZ(w:aI 5 Int)(m r:aI 6 Int)(hm:cZ m=true):aC Tryz.prog 202 [enc w,enc m,enc r] (enc (eE w m r)):=by
 refine aC.bu Tryz.func202 RS TH VJ (t7 rfl) (fun hwf W0 D0 E1 =>?_);simp only[A1,L0,bj,zz4,Nat.reduceAdd];refine .ak (by decide +kernel) fun K hK =>?_;simp only[Gs,J,simprocAttr]
 try simp only[dz,J,simprocAttr]
 refine .done (hK _ ?_);clear hK K;refine .ak (by decide +kernel) fun K hK =>?_;simp only[Gt,J,simprocAttr]
 try simp only[Nx,J,simprocAttr]
 refine .done (hK _ ?_);clear hK K;refine .ak (by decide +kernel) fun K hK =>?_;simp only[Gu,J,simprocAttr]
 try simp only[List.all_cons,List.all_nil,I.cd,zw3,dM,J,simprocAttr]
 refine .flat _ (yZ 212 [.ref (.func 196 []),.ref (enc w),.ref (enc m),.ref (enc r)] ?_ (fun i => !hE w m r i) (fun i hi=>O6 w m r hm i hi)) rfl ?_
 ·simp only[I.eG,I.done,I.bp,I.bW,dM,zw3]
 try simp only[J,simprocAttr]
 refine .done (hK _ ?_);clear hK K;refine U.ret ?_;simp only[J,simprocAttr];simp only[eE,Bool.not_not]
theorem OH(w:aI 5 Int)(a b:aI 6 Int)(ha:cZ a=true)(hb:cZ b=true):aC Tryz.prog 165 [enc w,enc a,enc b] (enc (dn (iw w a b) 6:Int)):=by
 refine aC.bu Tryz.func165 Rx Tk Vn (t7 rfl) (fun hwf W0 D0 E1 =>?_);simp only[AE,LC,bj,zz4,Nat.reduceAdd];refine .ak (by decide +kernel) fun K hK =>?_;simp only[Fj,J,simprocAttr]
 try simp only[dz,J,simprocAttr]
 refine .done (hK _ ?_);clear hK K;refine .ak (by decide +kernel) fun K hK =>?_;simp only[Fk,J,simprocAttr]
 try simp only[Nx,J,simprocAttr]
 refine .done (hK _ ?_);clear hK K;refine .ak (by decide +kernel) fun K hK =>?_;simp only[Fl,J,simprocAttr]
 try simp only[List.all_cons,List.all_nil,I.cd,zw3,dM,J,simprocAttr]
 refine .flat _ (yZ 198 [.ref (.func 196 []),.ref (enc w),.ref (enc a),.ref (enc b)] ?_ (fun i => !iw w a b i) (fun i hi=>OV w a b ha hb i hi)) rfl ?_
 ·simp only[I.eG,I.done,I.bp,I.bW,dM,zw3]
 try simp only[J,simprocAttr]
 refine .done (hK _ ?_);clear hK K;refine U.ret ?_;simp only[J,simprocAttr];simp only[Bool.not_not]
theorem OG(m:bQ)(g:bZ)(k:aI 6 Int)(hg:cZ g.mark=true)(hk:cZ k=true):aC Tryz.prog 164 (enc g::[.ref (enc m),.ref (enc k)]) (enc (jL m g.mark k)):=by
 refine aC.bu Tryz.func164 Rw Tj Vm (t7 rfl) (fun hwf W0 D0 E1 =>?_);simp only[AD,LB,bj,zz4,Nat.reduceAdd];refine .ak (by decide +kernel) fun K hK =>?_;simp only[Fh,J,simprocAttr]
 try simp only[dz,J,simprocAttr]
 refine .done (hK _ ?_);clear hK K;refine .ak (by decide +kernel) fun K hK =>?_;simp only[Fi,J,simprocAttr]
 try simp only[cv,cF,J,simprocAttr]
 refine .flat _ (OH m.c5 g.mark k hg hk) rfl ?_
 try simp only[cv,J,simprocAttr]
 refine .done (hK _ ?_);clear hK K;refine U.ret ?_;simp only[J,simprocAttr];rfl
theorem ua(l:List bZ)(f:FuncId)(caps:List I)(hcaps:I.eG caps=true)(p:bZ→Bool)(hf:∀ x∈l,aC Tryz.prog f (enc x::caps) (enc (p x))):aC Tryz.prog 195 [enc l,.func f caps] (enc (match l.findIdx? p with | some i=>(i:Int) | none=>-1)):=by
 refine aC.bu Tryz.func195 RL TA VC (t7 rfl) (fun hwf W0 D0 E1 =>?_);simp only[AT,LS,bj,zz4];have hlen:l.length≤maxLen:=((kM l).1 hwf.1).1;simp only[maxLen] at hlen;have hcl:I.bW caps=true:=kp caps hcaps;have hfc:∀ aB A,bX aB A caps=some caps:=fun aB A=>kr aB A caps hcaps;have hon:∀ q,I.b8 q caps=true:=fun q=>j7 q caps hcl;refine .ak (by decide +kernel) fun K hK =>?_;simp only[FV,J,simprocAttr];refine .done (hK _ ?_);clear hK K;refine U.seq ?_;refine U.seq (U.bd (by decide +kernel) fun K hK =>?_)
 try simp only[FW,bP,J,simprocAttr]
 refine .done (hK _ ?_);clear hK K;refine U.block (U.loop (fun i:Nat=>ar [(0,enc l),(1,.func f caps),(7,.int .i64 l.length),(8,.int .i64 i)] []) (fun i=>i≤l.length∧∀ x∈l.take i,p x=false) (fun i=>l.length-i) 0 ⟨zv4 _,by simp⟩ ?_ (fun i hi =>?_))
 ·refine aF.bY ?_ ?_ ?_ ?_ <;>simp[aV,bO,bM,br,aW,I.only,bA,hon]
 ·refine .ak (by decide +kernel) fun K hK =>?_;simp only[FX,J,simprocAttr];refine .done (hK _ ?_);clear hK K;refine U.seq ?_;refine U.bx ?_;simp only[au,J,simprocAttr];refine ⟨fun h =>?_,fun h =>?_⟩
  ·have hlt:i<l.length:=by simpa using h
   refine U.skip ?_;try simp only[al,simprocAttr]
   refine U.seq (U.block ?_);refine .ak (by decide +kernel) fun K hK =>?_;simp only[FY,J,simprocAttr];refine .done (hK _ ?_);clear hK K;refine .ak (by decide +kernel) fun K hK =>?_;simp only[FZ,J,simprocAttr]
   try simp only[fJ 7 hlt rfl,cv,zy0,hfc,cF,J,simprocAttr]
   refine .flat _ (hf _ (zy6 hlt)) rfl ?_
   try simp only[J,simprocAttr]
   refine .done (hK _ ?_);clear hK K;refine U.bx ?_;simp only[au,J,simprocAttr];refine ⟨fun h =>?_,fun h =>?_⟩
   ·refine .ak (by decide +kernel) fun K hK =>?_;simp only[F0,J,simprocAttr];refine .done (hK _ ?_);clear hK K;refine U.ret ?_;simp only[bJ,al,J,simprocAttr];simp[vl hlt hi.2 h]
   ·refine U.skip ?_;try simp only[al,bJ,simprocAttr]
    refine .bd (by decide +kernel) fun K hK =>?_;simp only[F1,J,simprocAttr];refine .done (hK _ ?_);clear hK K;try simp only[al]
    refine ⟨i+1,⟨by omega,fun x hm =>?_⟩,by omega,?_⟩
    ·rw[zy5 hlt] at hm;rcases zy7.1 hm with hm | hm
     ·exact hi.2 x hm
     ·simp at hm;rw[hm];exact h
    ·rw[cA _ (by omega) (by omega)];refine aF.bY ?_ ?_ ?_ ?_ <;>simp[aV,bO,bM,br,aW,I.only,bA,hon]
  ·have hge:i=l.length:=by simp at h;omega
   refine U.exit ?_;try simp only[al,bJ,simprocAttr]
   refine .ak (by decide +kernel) fun K hK =>?_;simp only[F2,J,simprocAttr];refine .done (hK _ ?_);clear hK K;refine U.ret ?_;simp only[J,simprocAttr];simp[hge] at hi;simp[vk hi]
theorem Yk{α:Type}(p:α→Bool)(l:List α):decide (0≤(match l.findIdx? p with | some i=>(i:Int) | none=>-1))=l.any p:=by
 cases h:l.findIdx? p with
 |none =>
  rw[List.findIdx?_eq_none_iff] at h;have:l.any p=false:=by rw[List.any_eq_false];intro x hx;simp[h x hx]
  simp[this]
 |some i =>
  rw[List.findIdx?_eq_some_iff_getElem] at h;obtain ⟨h1,h2,_⟩:=h;have:l.any p=true:=by rw[List.any_eq_true];exact ⟨_,zy6 h1,h2⟩
  rw[this];exact decide_eq_true (Int.natCast_nonneg i)
theorem OF(l:List bZ)(f:FuncId)(caps:List I)(hcaps:I.eG caps=true)(p:bZ→Bool)(hf:∀ x∈l,aC Tryz.prog f (enc x::caps) (enc (p x))):aC Tryz.prog 163 [enc l,.func f caps] (enc (l.any p)):=by
 refine aC.bu Tryz.func163 Rv Ti Vl (t7 rfl) (fun hwf W0 D0 E1 =>?_);simp only[AB,LA,bj,zz4];have hcl:I.bW caps=true:=kp caps hcaps;have hfc:∀ aB A,bX aB A caps=some caps:=fun aB A=>kr aB A caps hcaps;refine .ak (by decide +kernel) fun K hK =>?_;simp only[Ff,J,simprocAttr];refine .done (hK _ ?_);clear hK K;refine .ak (by decide +kernel) fun K hK =>?_;simp only[Fg,J,simprocAttr]
 try simp only[cF,hfc,J,simprocAttr]
 refine .flat _ (ua l f caps hcaps p hf) rfl ?_
 try simp only[J,simprocAttr]
 refine .done (hK _ ?_);clear hK K;refine U.ret ?_;simp only[J,simprocAttr];rw[Yk]
theorem yP(m:bQ)(l:List bZ)(k:aI 6 Int)(hl:∀ g∈l,cZ g.mark=true)(hk:cZ k=true):aC Tryz.prog 124 [enc m,enc l,enc k] (enc (!l.any fun g=>jL m g.mark k)):=by
 refine aC.bu Tryz.func124 Q2 SO UR (t7 rfl) (fun hwf W0 D0 E1 =>?_);simp only[z6,K7,bj,zz4,Nat.reduceAdd];refine .ak (by decide +kernel) fun K hK =>?_;simp only[DS,J,simprocAttr]
 try simp only[dz,J,simprocAttr]
 refine .done (hK _ ?_);clear hK K;refine .ak (by decide +kernel) fun K hK =>?_;simp only[DT,J,simprocAttr]
 try simp only[List.all_cons,List.all_nil,I.cd,zw3,dM,cF,J,simprocAttr]
 refine .flat _ (OF l 164 [.ref (enc m),.ref (enc k)] ?_ (fun g=>jL m g.mark k) (fun g hg=>OG m g k (hl g hg) hk)) rfl ?_
 ·simp only[I.eG,I.done,dM,zw3]
 try simp only[J,simprocAttr]
 refine .done (hK _ ?_);clear hK K;refine U.ret ?_;simp only[J,simprocAttr]
theorem Nh{α:Type}[Enc α]{A:ae}(esz:Nat){l:List α}{i:Nat}(h:i≤l.length)(hs:Enc.sz α=esz):oq A esz none (some (.int .i64 i)) none (enc l)=some (enc (l.take i)):=by
 simp only[oq,gE,hs,if_true,jH,gX,zy1];rw[if_pos ⟨by omega,by omega,by omega,by omega⟩];simp
theorem zo(m:bQ)(k:aI 6 Int){i:Nat}(h:i≤m.given.length):(!(m.given.take i).any fun g=>jL m g.mark k)=(List.range i).all (fun j => !jL m (cw m j).mark k):=by
 rw[Bool.eq_iff_iff];simp only[Bool.not_eq_true',List.any_eq_false,zy2,zx4];constructor
 ·intro h1 j hj;have hjl:j<m.given.length:=by omega
  have:=h1 m.given[j] (by rw[List.mem_take_iff_getElem];exact ⟨j,by omega,rfl⟩);rw[ic hjl] at this;simpa using this
 ·intro h1 g hg;rw[List.mem_take_iff_getElem] at hg;obtain ⟨j,hj,rfl⟩:=hg;have hjl:j<m.given.length:=by omega
  rw[ic hjl];simpa using h1 j (by omega)
theorem ud(m:bQ):aC Tryz.prog 66 [enc m] (enc (if ed m then (0:Int) else 13)):=by
 refine aC.bu Tryz.func66 Sb T0 V2 (t7 rfl) (fun hwf W0 D0 E1 =>?_);simp only[Bl,Mj,bj];refine .ak (by decide +kernel) fun K hK =>?_;simp only[HV,J,simprocAttr]
 try simp only[dz,J,simprocAttr]
 refine .done (hK _ ?_);clear hK K;refine U.seq (U.seq ?_);refine .bd (by decide +kernel) fun K hK =>?_;simp only[HW,J,simprocAttr]
 try simp only[cv,cF,J,simprocAttr]
 refine .flat _ (Oe m.c5) rfl ?_;generalize hw:eP m.c5=bw;cases bw
 ·try simp only[J,simprocAttr]
  refine .done (hK _ ?_);clear hK K;try simp only[al]
  refine U.bx ?_;simp only[au,J,simprocAttr];refine ⟨fun h =>?_,fun h =>?_⟩
  ·refine .ak (by decide +kernel) fun K hK =>?_;simp only[sk,J,simprocAttr];refine .done (hK _ ?_);clear hK K;refine U.ret ?_;simp only[al,J,simprocAttr];simp[ed,hw]
  ·cases h
 try simp only[cv,J,simprocAttr]
 refine .flat _ (rp m.dh 0 2) rfl ?_;generalize hf:cm 0 2 m.dh=bf;cases bf
 ·try simp only[J,simprocAttr]
  refine .done (hK _ ?_);clear hK K;refine U.bx ?_;simp only[au,J,simprocAttr];refine ⟨fun h =>?_,fun h =>?_⟩
  ·refine .ak (by decide +kernel) fun K hK =>?_;simp only[sk,J,simprocAttr];refine .done (hK _ ?_);clear hK K;refine U.ret ?_;simp only[al,J,simprocAttr];simp[ed,hw,hf]
  ·cases h
 try simp only[cv,bP,J,simprocAttr]
 refine .done (hK _ ?_);clear hK K;refine U.bx ?_;simp only[au,J,simprocAttr];refine ⟨fun h =>?_,fun h =>?_⟩
 ·refine .ak (by decide +kernel) fun K hK =>?_;simp only[sk,J,simprocAttr];refine .done (hK _ ?_);clear hK K;refine U.ret ?_;simp only[al,J,simprocAttr];have:¬ m.given.length≤40:=by simp at h;omega
  simp[ed,hw,hf,this]
 have hlen:m.given.length≤40:=by simp at h;omega
 refine U.skip ?_;try simp only[al,simprocAttr]
 refine U.seq (U.seq ?_);refine U.bd (by decide +kernel) fun K hK =>?_
 try simp only[HX,cv,bP,J,simprocAttr]
 refine .done (hK _ ?_);clear hK K;refine U.block (U.loop (fun i:Nat=>ar [(1,.ptr 1 []),(22,enc m.given),(23,.int .i64 m.given.length),(24,.int .i64 i)] [(1,.box (enc m))]) (fun i=>i≤m.given.length∧∀ j,j<i→fZ m j=true) (fun i=>m.given.length-i) 0 ⟨by omega,fun k h=>by omega⟩ ?_ (fun i hi =>?_))
 ·refine aF.bY ?_ ?_ ?_ ?_ <;>simp[aV,bO,bM,br,aq,aW,ct,I.only,ah.only,bA]
 refine .ak (by decide +kernel) fun K hK =>?_;simp only[HY,J,simprocAttr];refine .done (hK _ ?_);clear hK K;refine U.seq ?_;refine U.bx ?_;simp only[au,J,simprocAttr];refine ⟨fun h =>?_,fun h =>?_⟩
 case refine_2.refine_2 =>
  have hge:i=m.given.length:=by simp at h;omega
  subst hge;refine U.exit ?_;try simp only[al,bJ,simprocAttr]
  refine .ak (by decide +kernel) fun K hK =>?_;simp only[H2,J,simprocAttr];refine .done (hK _ ?_);clear hK K;refine U.ret ?_;simp only[J,simprocAttr];have:(List.range m.given.length).all (fZ m)=true:=oG hi.2;simp[ed,hw,hf,this,hlen]
 have hlt:i<m.given.length:=by simpa using h
 refine U.skip ?_;try simp only[al,simprocAttr]
 refine U.seq (U.block ?_);refine .ak (by decide +kernel) fun K hK =>?_;simp only[HZ,J,simprocAttr]
 try simp only[cv,sD hlt,J,simprocAttr]
 rw[eg (dz _) (by rw[fx];rfl) ((ev _).trans rfl)]
 try simp only[J,simprocAttr]
 refine .done (hK _ ?_);clear hK K;have mN:∀ b,fZ m i=b→b=false→(if ed m then (0:Int) else 13)=13:=fun b h1 h2=>by
  have:(List.range m.given.length).all (fZ m)=false:=mM i hlt (by rw[h1,h2]);simp[ed,this]
 have htake:∀ g∈m.given.take i,cZ g.mark=true:=fun g hg=>by
  rw[List.mem_take_iff_getElem] at hg;obtain ⟨j,hj,rfl⟩:=hg;have hjl:j<m.given.length:=by omega
  rw[ic hjl];exact xy (hi.2 j (by omega))
 refine .ak (by decide +kernel) fun K hK =>?_;simp only[H0,J,simprocAttr]
 try simp only[cv,J,simprocAttr]
 refine .flat _ (Of (cw m i).b5) rfl ?_;generalize ho:cm 1 99 (cw m i).b5=bo;cases bo
 ·try simp only[J,simprocAttr]
  refine .done (hK _ ?_);clear hK K;refine U.bx ?_;simp only[au,J,simprocAttr];refine ⟨fun h =>?_,fun h =>?_⟩
  ·refine .ak (by decide +kernel) fun K hK =>?_;simp only[oZ,J,simprocAttr];refine .done (hK _ ?_);clear hK K;refine U.ret ?_;simp only[bJ,al,J,simprocAttr];rw[mN _ rfl (by simp[fZ,ho])]
  ·cases h
 try simp only[cv,cF,J,simprocAttr]
 refine .flat _ (Og (cw m i).mark) rfl ?_;generalize hk:cZ (cw m i).mark=bk;cases bk
 ·try simp only[J,simprocAttr]
  refine .done (hK _ ?_);clear hK K;refine U.bx ?_;simp only[au,J,simprocAttr];refine ⟨fun h =>?_,fun h =>?_⟩
  ·refine .ak (by decide +kernel) fun K hK =>?_;simp only[oZ,J,simprocAttr];refine .done (hK _ ?_);clear hK K;refine U.ret ?_;simp only[bJ,al,J,simprocAttr];rw[mN _ rfl (by simp[fZ,ho,hk])]
  ·cases h
 try simp only[J,simprocAttr]
 generalize hz:decide (0<(i:Int))=bz;cases bz
 ·have hprev:(i==0||decide ((cw m (i-1)).b5<(cw m i).b5))=true:=by simp at hz;simp[hz]
  try simp only[cv,J,simprocAttr]
  try simp only[cv,cF,Nh 7 (Nat.le_of_lt hlt) rfl,Option.map_none,J,simprocAttr]
  refine .flat _ (yP m (m.given.take i) (cw m i).mark htake hk) rfl ?_;rw[zo m (cw m i).mark (Nat.le_of_lt hlt)];generalize hap:(List.range i).all (fun j => !jL m (cw m j).mark (cw m i).mark)=ba;cases ba
  ·try simp only[J,simprocAttr]
   refine .done (hK _ ?_);clear hK K;refine U.bx ?_;simp only[au,J,simprocAttr];refine ⟨fun h =>?_,fun h =>?_⟩
   ·refine .ak (by decide +kernel) fun K hK =>?_;simp only[oZ,J,simprocAttr];refine .done (hK _ ?_);clear hK K;refine U.ret ?_;simp only[bJ,al,J,simprocAttr];rw[mN _ rfl (by simp only[fZ,hap,Bool.and_false])]
   ·cases h
  ·try simp only[J,simprocAttr]
   refine .done (hK _ ?_);clear hK K;refine U.bx ?_;simp only[au,J,simprocAttr];refine ⟨fun h =>?_,fun h =>?_⟩
   ·cases h
   refine U.skip ?_;try simp only[al,bJ,simprocAttr]
   refine .bd (by decide +kernel) fun K hK =>?_;simp only[vY,J,simprocAttr];refine .done (hK _ ?_);clear hK K;try simp only[al]
   refine ⟨i+1,⟨by omega,fun k hk' =>?_⟩,by omega,?_⟩
   ·by_cases hki:k=i
    ·rw[hki];simp only[fZ,ho,hk,hprev,hap,zw3]
    ·exact hi.2 k (by omega)
   ·rw[cA _ (by omega) (by omega)];refine aF.bY ?_ ?_ ?_ ?_ <;>simp[aV,bO,bM,br,aq,aW,ct,I.only,ah.only,bA]
 ·have hpos:0<i:=by simpa using hz
  have hpl:i-1<m.given.length:=by omega
  have hpred:IntKind.i64.wrap ((i:Int)-1)=((i-1:Nat):Int):=by rw[cA _ (by omega) (by omega)];omega
  try simp only[cv,hpred,sD hpl,J,simprocAttr]
  generalize hq:decide ((cw m i).b5≤(cw m (i-1)).b5)=bq;cases bq
  ·have hprev:(i==0||decide ((cw m (i-1)).b5<(cw m i).b5))=true:=by simp at hq;simp;omega
   try simp only[cv,J,simprocAttr]
   try simp only[cv,cF,Nh 7 (Nat.le_of_lt hlt) rfl,Option.map_none,J,simprocAttr]
   refine .flat _ (yP m (m.given.take i) (cw m i).mark htake hk) rfl ?_;rw[zo m (cw m i).mark (Nat.le_of_lt hlt)];generalize hap:(List.range i).all (fun j => !jL m (cw m j).mark (cw m i).mark)=ba;cases ba
   ·try simp only[J,simprocAttr]
    refine .done (hK _ ?_);clear hK K;try simp only[al,bJ]
    refine U.bx ?_;simp only[au,J,simprocAttr];refine ⟨fun h =>?_,fun h =>?_⟩
    ·refine .ak (by decide +kernel) fun K hK =>?_;simp only[oZ,J,simprocAttr];refine .done (hK _ ?_);clear hK K;refine U.ret ?_;simp only[bJ,al,J,simprocAttr];rw[mN _ rfl (by simp only[fZ,hap,Bool.and_false])]
    ·cases h
   ·try simp only[J,simprocAttr]
    refine .done (hK _ ?_);clear hK K;refine U.bx ?_;simp only[au,J,simprocAttr];refine ⟨fun h =>?_,fun h =>?_⟩
    ·cases h
    refine U.skip ?_;try simp only[al,bJ,simprocAttr]
    refine .bd (by decide +kernel) fun K hK =>?_;simp only[vY,J,simprocAttr];refine .done (hK _ ?_);clear hK K;try simp only[al]
    refine ⟨i+1,⟨by omega,fun k hk' =>?_⟩,by omega,?_⟩
    ·by_cases hki:k=i
     ·rw[hki];simp only[fZ,ho,hk,hprev,hap,zw3]
     ·exact hi.2 k (by omega)
    ·rw[cA _ (by omega) (by omega)];refine aF.bY ?_ ?_ ?_ ?_ <;>simp[aV,bO,bM,br,aq,aW,ct,I.only,ah.only,bA]
  ·try simp only[J,simprocAttr]
   refine .done (hK _ ?_);clear hK K;try simp only[al,bJ]
   refine U.bx ?_;simp only[au,J,simprocAttr];refine ⟨fun h =>?_,fun h =>?_⟩
   ·refine .ak (by decide +kernel) fun K hK =>?_;simp only[oZ,J,simprocAttr];refine .done (hK _ ?_);clear hK K;refine U.ret ?_;simp only[bJ,al,J,simprocAttr];have:(i==0||decide ((cw m (i-1)).b5<(cw m i).b5))=false:=by simp at hq;simp;omega
    rw[mN _ rfl (by simp only[fZ,this,Bool.and_false,Bool.false_and])]
   ·cases h
theorem OX(f:FuncId)(caps:List I)(hcaps:I.eG caps=true):aC Tryz.prog 200 [enc ([]:List bZ),.func f caps] (enc ([]:List bZ)):=by
 refine aC.bu Tryz.func200 BM BT B7 (t7 rfl) (fun hwf W0 D0 E1 =>?_);simp only[uA,xZ,bj,zz4];have hcl:I.bW caps=true:=kp caps hcaps;have hfc:∀ aB A,bX aB A caps=some caps:=fun aB A=>kr aB A caps hcaps;refine .ak (by decide +kernel) fun K hK =>?_;simp only[vR,J,simprocAttr];refine .done (hK _ ?_);clear hK K;refine .ak (by decide +kernel) fun K hK =>?_;simp only[vS,J,simprocAttr]
 try simp only[cF,hfc,J,simprocAttr]
 refine .flat _ (ua [] f caps hcaps (fun _=>false) (fun x hx=>by cases hx)) rfl ?_
 try simp only[List.findIdx?_nil,J,simprocAttr]
 refine .done (hK _ ?_);clear hK K;refine U.seq (U.seq ?_);refine .bd (by decide +kernel) fun K hK =>?_;simp only[sg,J,simprocAttr];refine .done (hK _ ?_);clear hK K;try simp only[al]
 refine U.bx ?_;simp only[au,J,simprocAttr];refine ⟨fun h =>?_,fun h =>?_⟩
 ·refine .ak (by decide +kernel) fun K hK =>?_;simp only[vU,J,simprocAttr];refine .done (hK _ ?_);clear hK K;refine U.ret ?_;simp only[al,J,simprocAttr]
  try simp only[cF,J,simprocAttr]
 ·cases h
def fA(p:bZ→Bool)(l:List bZ):List bZ:=l.filter fun x => !p x
def Cd(k:Nat)(l:List bZ):cR:=fun r os'=>∃ m,r=.view k [] 7 0 l.length∧os'=iq k l m
theorem xM(p:Nat→Bool)(m:Nat)(x:bZ):I.b8 p (List.replicate m (enc x))=true:=by
 have:List.replicate m (enc x)=(List.replicate m x).map (enc (α:=bZ)):=by simp
 rw[this];exact fe p _
theorem ahg(p:Nat→Bool)(xs:List bZ)(i:Nat)(v:bZ):I.b8 p ((xs.map enc).set i (enc v))=true:=by
 rw[←List.map_set];exact fe p _
theorem x8{xs:List bZ}{m j:Nat}(h:j<xs.length):((xs++List.replicate m fO).map (enc (α:=bZ)))[0+j]?=some (enc xs[j]):=by
 rw[zz4,zx7,zx1 h,zz8 h];rfl
theorem ah7{xs:List bZ}{m i:Nat}(h:i<xs.length)(v:bZ):((xs++List.replicate m fO).map (enc (α:=bZ))).set (0+i) (enc v)=(xs.set i v++List.replicate m fO).map enc:=by
 rw[zz4,←List.map_set,List.set_append_left _ _ h]
theorem yC(l:List bZ)(m:Nat):(l++List.replicate m fO).take l.length=l:=List.take_left
theorem vg(p:bZ→Bool)(l:List bZ){j:Nat}(h:j<l.length):fA p (l.take (j+1))=fA p (l.take j)++(if p l[j] then [] else [l[j]]):=by
 rw[zy5 h];simp only[fA,List.filter_append,zw2,List.filter_nil];cases p l[j] <;>simp
theorem OW(l:List bZ)(f:FuncId)(caps:List I)(hcaps:I.eG caps=true)(p:bZ→Bool)(hf:∀ x∈l,aC Tryz.prog f (enc x::caps) (enc (p x)))(hlen:l.length≤1000)(m:Nat) :
  cC Tryz.prog 200 [.view 1000000 [] 7 0 l.length,.func f caps] (iq 1000000 l m) (Cd 1000000 (fA p l)):=by
 refine cC.bu Tryz.func200 BM BT B7 (t7 rfl) (t7 rfl) (fun m hm=>by rw[di.1 hm];exact zz6 _) (fun hwf W0 D0 E1 =>?_);simp only[uA,xZ,bj,zz4];have hcl:I.bW caps=true:=kp caps hcaps;have hfc:∀ aB A,bX aB A caps=some caps:=fun aB A=>kr aB A caps hcaps;have hon:∀ q,I.b8 q caps=true:=fun q=>j7 q caps hcl;simp only[iq];refine .ak (by decide +kernel) fun K hK =>?_;simp only[vR,J,simprocAttr];refine .done (hK _ ?_);clear hK K;refine .ak (by decide +kernel) fun K hK =>?_;simp only[vS,J,simprocAttr]
 try simp only[hfc,r8 (α:=bZ) (sz:=7) rfl,yC,J,simprocAttr]
 refine .flat _ (ua l f caps hcaps p hf) rfl ?_
 try simp only[J,simprocAttr]
 refine .done (hK _ ?_);clear hK K;generalize hfi:l.findIdx? p=fi;cases fi with
 |none =>
  rw[List.findIdx?_eq_none_iff] at hfi;have hk:fA p l=l:=by
   simp only[fA,List.filter_eq_self];intro x hx;simp[hfi x hx]
  refine U.seq (U.seq ?_);refine .bd (by decide +kernel) fun K hK =>?_;simp only[sg,J,simprocAttr];refine .done (hK _ ?_);clear hK K;try simp only[al]
  refine U.bx ?_;simp only[au,J,simprocAttr];refine ⟨fun h =>?_,fun h =>?_⟩
  ·refine .ak (by decide +kernel) fun K hK =>?_;simp only[vU,J,simprocAttr];refine .done (hK _ ?_);clear hK K;refine U.ret ?_;simp only[al,fD];rw[hk];exact ⟨iq 1000000 l m,[.view 1000000 [] 7 0 l.length],mW rfl (fun p=>mb p _),⟨⟨_,rfl,.inl ⟨rfl,rfl,rfl⟩⟩,trivial⟩,m,rfl,rfl⟩
  ·cases h
 |some i0 =>
  obtain ⟨q1,q2,q3⟩:=List.findIdx?_eq_some_iff_getElem.1 hfi;have hstart:l.take i0=fA p (l.take (i0+1)):=by
   rw[vg p l q1,q2];simp only[if_true,zw1,fA]
   symm
   rw[List.filter_eq_self];intro x hx;rw[List.mem_take_iff_getElem] at hx;obtain ⟨j,hj,rfl⟩:=hx;have:=q3 j (by omega);simpa using this
  refine U.seq (U.seq ?_);refine .bd (by decide +kernel) fun K hK =>?_;simp only[sg,J,simprocAttr];refine .done (hK _ ?_);clear hK K;try simp only[al]
  refine U.bx ?_;simp only[au,J,simprocAttr];refine ⟨fun h =>?_,fun h =>?_⟩
  ·simp at h
  refine U.skip ?_;try simp only[al,simprocAttr]
  refine U.seq (U.seq ?_);refine .bd (by decide +kernel) fun K hK =>?_;simp only[Gj,J,simprocAttr];refine .done (hK _ ?_);clear hK K;try simp only[al]
  refine U.block (U.loop (fun s:List bZ×Nat×Nat=>ar [(0,.view 1000000 [] 7 0 l.length),(1,.func f caps),(5,.int .i64 s.2.1),(6,.int .i64 s.2.2)] [(1000000,.box (.agg ((s.1++List.replicate m fO).map enc)))])
   (fun s=>s.1.length=l.length∧s.2.1<s.2.2∧s.2.2≤l.length∧s.1.take s.2.1=fA p (l.take s.2.2)∧s.1.drop s.2.2=l.drop s.2.2) (fun s=>l.length-s.2.2) (l,i0,i0+1) ⟨rfl,by simp only;omega,by simp only;omega,hstart,rfl⟩ ?_ ?_)
  ·rw[cA _ (by omega) (by omega)];refine aF.bY ?_ ?_ ?_ ?_ <;>simp[aV,bO,bM,br,aq,aW,ct,I.only,ah.only,fe,kD,hon,xM]
  ·rintro ⟨xs,i,j⟩ ⟨c1,c2,c3,jd,kU⟩;simp only at c1 c2 c3 jd kU ⊢;refine U.seq (U.seq ?_);refine .bd (by decide +kernel) fun K hK =>?_;simp only[Gk,J,simprocAttr]
   try simp only[eB,J,simprocAttr]
   refine .done (hK _ ?_);clear hK K;try simp only[al]
   refine U.bx ?_;simp only[au,J,simprocAttr];refine ⟨fun h =>?_,fun h =>?_⟩
   ·have hj:j<l.length:=by simpa using h
    have hjx:j<xs.length:=by omega
    have hix:i<xs.length:=by omega
    have hxj:xs[j]=l[j]:=by
     have h1:(xs.drop j)[0]?=(l.drop j)[0]?:=by rw[kU]
     simpa[hj,hjx] using h1
    refine U.skip ?_;try simp only[al,simprocAttr]
    refine U.seq (U.block ?_);refine .ak (by decide +kernel) fun K hK =>?_;simp only[Gl,J,simprocAttr]
    try simp only[eB,wO (sz:=7) hj,zy8,J,simprocAttr]
    try simp only[x8 hjx,hxj,cv,J,simprocAttr]
    rw[eg (dz _) (by rw[fx];rfl) ((ev _).trans rfl)]
    try simp only[J,simprocAttr]
    refine .done (hK _ ?_);clear hK K;refine .ak (by decide +kernel) fun K hK =>?_;simp only[Gm,J,simprocAttr]
    try simp only[cv,cF,hfc,zy0,zy8,J,simprocAttr]
    refine .flat _ (hf _ (zy6 hj)) rfl ?_
    try simp only[J,simprocAttr]
    refine .done (hK _ ?_);clear hK K;refine U.bx ?_;simp only[au,J,simprocAttr];refine ⟨fun h =>?_,fun h =>?_⟩
    ·have hpj:p l[j]=false:=by simpa using h
     refine .ak (by decide +kernel) fun K hK =>?_;simp only[Gn,J,simprocAttr]
     try simp only[cv,eB,wO (sz:=7) (show i<l.length by omega),zy8,J,simprocAttr]
     try simp only[x8 hix,J,simprocAttr]
     rw[eg (dz _) (by rw[fx];rfl) ((ev _).trans (ev _).symm)]
     try simp only[x8 hix,ah7 hix,J,simprocAttr]
     refine .done (hK _ ?_);clear hK K;refine .bd (by decide +kernel) fun K hK =>?_;simp only[Gp,J,simprocAttr];refine .done (hK _ ?_);clear hK K;try simp only[al,bJ]
     refine .bd (by decide +kernel) fun K hK =>?_;simp only[vT,J,simprocAttr];refine .done (hK _ ?_);clear hK K;try simp only[al]
     refine ⟨(xs.set i l[j],i+1,j+1),⟨by simp[c1],by simp only;omega,by simp only;omega,?_,?_⟩,by simp only;omega,?_⟩
     ·simp only;rw[vg p l hj,hpj,←jd];simp only[zz7,if_false];rw[zy5 (by simpa using hix),List.take_set_of_le (zz6 _)];simp
     ·simp only;rw[List.drop_set_of_lt (by omega)];have:(xs.drop j).drop 1=(l.drop j).drop 1:=by rw[kU]
      simpa[List.drop_drop] using this
     ·simp only;rw[cA _ (by omega) (by omega),cA _ (by omega) (by omega)];refine aF.bY ?_ ?_ ?_ ?_ <;>simp[aV,bO,bM,br,aq,aW,ct,I.only,ah.only,kD,hon,xM,ahg]
    ·have hpj:p l[j]=true:=by simpa using h
     refine U.skip ?_;try simp only[al,bJ,simprocAttr]
     refine .bd (by decide +kernel) fun K hK =>?_;simp only[vT,J,simprocAttr];refine .done (hK _ ?_);clear hK K;try simp only[al]
     refine ⟨(xs,i,j+1),⟨c1,by simp only;omega,by simp only;omega,?_,?_⟩,by simp only;omega,?_⟩
     ·simp only;rw[vg p l hj,hpj,←jd];simp
     ·simp only;have:(xs.drop j).drop 1=(l.drop j).drop 1:=by rw[kU]
      simpa[List.drop_drop] using this
     ·simp only;rw[cA _ (by omega) (by omega)];refine aF.bY ?_ ?_ ?_ ?_ <;>simp[aV,bO,bM,br,aq,aW,ct,I.only,ah.only,fe,kD,hon,xM]
   ·have hj:j=l.length:=by simp at h;omega
    subst hj;rw[List.take_length] at jd;have hlk:(fA p l).length=i:=by rw[←jd,zx3];omega
    have htot:((xs++List.replicate m fO).map (enc (α:=bZ))).length=l.length+m:=by simp[c1]
    refine U.exit ?_;try simp only[al,bJ,simprocAttr]
    refine .ak (by decide +kernel) fun K hK =>?_;simp only[Gh,J,simprocAttr]
    try simp only[eB,htot,Option.map_none,yn (show i≤l.length by omega) (show l.length≤l.length+m by omega) (show i<l.length+m by omega),uZ,J,simprocAttr]
    rw[uL fO rfl (by simp[c1];omega)];have hcont:(xs++List.replicate m fO).take i++(List.replicate (l.length-i) fO++(xs++List.replicate m fO).drop (i+(l.length-i)))=fA p l++List.replicate (l.length-i+m) fO:=by
     rw[zw4 (by omega),jd];have e1:i+(l.length-i)=xs.length:=by omega
     rw[e1,List.drop_left,List.replicate_append_replicate]
    rw[hcont]
    try simp only[J,simprocAttr]
    refine .done (hK _ ?_);clear hK K;have htot2:((fA p l++List.replicate (l.length-i+m) fO).map (enc (α:=bZ))).length=l.length+m:=by simp[hlk];omega
    refine .ak (by decide +kernel) fun K hK =>?_;simp only[Gi,J,simprocAttr]
    try simp only[eB,htot2,Option.map_none,ym (show i≤l.length+m by omega) (show 0<l.length+m by omega),J,simprocAttr]
    refine .done (hK _ ?_);clear hK K;refine U.ret ?_;simp only[fD];exact ⟨iq 1000000 (fA p l) (l.length-i+m),[.view 1000000 [] 7 0 i],mW rfl (fun p=>mb p _),⟨⟨_,rfl,.inl ⟨rfl,rfl,rfl⟩⟩,trivial⟩,l.length-i+m,by rw[hlk];rfl,rfl⟩
def ph(a:Item)(k d kn b:Int):aw:=⟨a,k,d,kn,b,0,0,0,tS,⟨0,0⟩⟩
theorem Cm:I.agg [.agg [.int .i64 0,.int .i64 0],.int .i64 0,.int .i64 0,.int .i64 0,.int .i64 0,.int .i64 0,.int .i64 0,.int .i64 0,.agg [.int .i64 0,.int .i64 0,.int .i64 0,.int .i64 0,.int .i64 0,.int .i64 0],.agg [.int .i64 0,.int .i64 0]]=enc (ph ⟨0,0⟩ 0 0 0 0):=rfl
theorem zI(a:Item)(k d kn b:Int):(dR [.agg [.int .i64 0,.int .i64 0],.int .i64 0,.int .i64 0,.int .i64 0,.int .i64 0,.int .i64 0,.int .i64 0,.int .i64 0,.agg [.int .i64 0,.int .i64 0,.int .i64 0,.int .i64 0,.int .i64 0,.int .i64 0],.agg [.int .i64 0,.int .i64 0]] [(0,enc a),(1,.int .i64 k),(2,.int .i64 d),(3,.int .i64 kn),(4,.int .i64 b)]).map .agg=some (enc (ph a k d kn b)):=by
 simp[dR,I.cd,I.size,I.sizes,fy,qe];rfl
theorem zH(a:Item)(k d kn:Int):(dR [.agg [.int .i64 0,.int .i64 0],.int .i64 0,.int .i64 0,.int .i64 0,.int .i64 0,.int .i64 0,.int .i64 0,.int .i64 0,.agg [.int .i64 0,.int .i64 0,.int .i64 0,.int .i64 0,.int .i64 0,.int .i64 0],.agg [.int .i64 0,.int .i64 0]] [(0,enc a),(1,.int .i64 k),(2,.int .i64 d),(3,.int .i64 kn)]).map .agg=some (enc (ph a k d kn 0)):=by
 simp[dR,I.cd,I.size,I.sizes,fy,qe];rfl
theorem Ns(A:ae)(n:Nat)(b:I)(x y:aw)(rest:List az):dO A (some 17) n [] b (enc x) rest (some (enc y))=aA rest (A.aN n (.box (enc x))):=eg (dz _) (Kq x) ((ev x).trans (ev y).symm)
theorem ou(A:ae)(n:Nat)(p:List Nat)(b:I)(k:IntKind)(x y:Int)(rest:List az):dO A none n p b (.int k x) rest (some (.int k y))=aA rest (A.aN n (.box (b.dx p (.int k x)))):=eg rfl rfl rfl
theorem aiB(A:ae)(n:Nat)(p:List Nat)(b:I)(x y:aI 6 Int)(rest:List az):dO A (some 6) n p b (enc x) rest (some (enc y))=aA rest (A.aN n (.box (b.dx p (enc x)))):=eg (dz _) (Kp x) ((ev x).trans (ev y).symm)
theorem Nz(A:ae)(n:Nat)(p:List Nat)(b:I)(x y:Item)(rest:List az):dO A (some 2) n p b (enc x) rest (some (enc y))=aA rest (A.aN n (.box (b.dx p (enc x)))):=eg (dz _) (Kr x) ((ev x).trans (ev y).symm)
theorem Nd :
  (∀ (A:ae) (n:Nat) (rest:List az) (e:aw) v y,dO A (some 2) n [0] (enc e) (enc (v:Item)) rest (some (enc (y:Item)))=aA rest (A.aN n (.box (enc { e with bt:=v })))) ∧
  (∀ (A:ae) (n:Nat) (rest:List az) (e:aw) v y,dO A none n [1] (enc e) (.int .i64 v) rest (some (.int .i64 y))=aA rest (A.aN n (.box (enc { e with kind:=v })))) ∧
  (∀ (A:ae) (n:Nat) (rest:List az) (e:aw) v y,dO A none n [2] (enc e) (.int .i64 v) rest (some (.int .i64 y))=aA rest (A.aN n (.box (enc { e with day:=v })))) ∧
  (∀ (A:ae) (n:Nat) (rest:List az) (e:aw) v y,dO A none n [3] (enc e) (.int .i64 v) rest (some (.int .i64 y))=aA rest (A.aN n (.box (enc { e with known:=v })))) ∧
  (∀ (A:ae) (n:Nat) (rest:List az) (e:aw) v y,dO A none n [4] (enc e) (.int .i64 v) rest (some (.int .i64 y))=aA rest (A.aN n (.box (enc { e with dW:=v })))) ∧
  (∀ (A:ae) (n:Nat) (rest:List az) (e:aw) v y,dO A none n [5] (enc e) (.int .i64 v) rest (some (.int .i64 y))=aA rest (A.aN n (.box (enc { e with eV:=v })))) ∧
  (∀ (A:ae) (n:Nat) (rest:List az) (e:aw) v y,dO A none n [6] (enc e) (.int .i64 v) rest (some (.int .i64 y))=aA rest (A.aN n (.box (enc { e with fg:=v })))) ∧
  (∀ (A:ae) (n:Nat) (rest:List az) (e:aw) v y,dO A none n [7] (enc e) (.int .i64 v) rest (some (.int .i64 y))=aA rest (A.aN n (.box (enc { e with b5:=v })))) ∧
  (∀ (A:ae) (n:Nat) (rest:List az) (e:aw) v y,dO A (some 6) n [8] (enc e) (enc (v:aI 6 Int)) rest (some (enc (y:aI 6 Int)))=aA rest (A.aN n (.box (enc { e with bL:=v })))) ∧
  (∀ (A:ae) (n:Nat) (rest:List az) (e:aw) v y,dO A (some 2) n [9] (enc e) (enc (v:Item)) rest (some (enc (y:Item)))=aA rest (A.aN n (.box (enc { e with j4:=v })))) :=
 ⟨fun _ _ _ _ _ _=>by rw[Nz];rfl,fun _ _ _ _ _ _=>by rw[ou];rfl,fun _ _ _ _ _ _=>by rw[ou];rfl,fun _ _ _ _ _ _=>by rw[ou];rfl,fun _ _ _ _ _ _=>by rw[ou];rfl,fun _ _ _ _ _ _=>by rw[ou];rfl,fun _ _ _ _ _ _=>by rw[ou];rfl,fun _ _ _ _ _ _=>by rw[ou];rfl,fun _ _ _ _ _ _=>by rw[aiB];rfl,fun _ _ _ _ _ _=>by rw[Nz];rfl⟩
theorem N5(x y:aI 6 Int):x=y↔x.l=y.l:=by cases x;cases y;simp
theorem ajh(p q:Prop)[Decidable p][Decidable q]:gW (some (decide p)) (some (decide q))=some (decide (p∧q)):=by simp[gW]
theorem Cv(a b:Int):cg (.i .i64) (.int .i64 a) (.int .i64 b)=some (decide (a=b)):=by simp[cg];rfl
theorem Cu(x y:aw):cg (.bB [(.bB [(.i .i64),(.i .i64)]),(.i .i64),(.i .i64),(.i .i64),(.i .i64),(.i .i64),(.i .i64),(.i .i64),(.kh 6 (.i .i64)),(.bB [(.i .i64),(.i .i64)])]) (enc x) (enc y)=some (decide (x=y)):=by
 obtain ⟨a1,k1,d1,n1,b1,m1,s1,o1,r1,f1⟩:=x;obtain ⟨a2,k2,d2,n2,b2,m2,s2,o2,dE,f2⟩:=y
 show cg _ (.agg [enc a1,.int .i64 k1,.int .i64 d1,.int .i64 n1,.int .i64 b1,.int .i64 m1,.int .i64 s1,.int .i64 o1,enc r1,enc f1]) (.agg [enc a2,.int .i64 k2,.int .i64 d2,.int .i64 n2,.int .i64 b2,.int .i64 m2,.int .i64 s2,.int .i64 o2,enc dE,enc f2])=_
 have hr:cg (.kh 6 (.i .i64)) (enc r1) (enc dE)=some (decide (r1=dE)):=by
  rw[r3]
  congr 1
  exact decide_eq_decide.2 (N5 r1 dE).symm
 rw[cg];simp only[iB,qg,Cv,hr,aw.mk.injEq];simp[gW]
theorem bl:(type_of% @pS)∧(type_of% @Kc)∧(type_of% @kC)∧(∀ {α:Type} [Enc α] (aB:Bool) (A:ae) (x:α),bg aB A (enc x)=some (enc x))∧(∀ {α:Type} [Enc α] (x:α),(enc x).cd=true)∧(type_of% @Cm)∧(type_of% @zI)∧(type_of% @zH)∧(type_of% @Ns) ∧
  (type_of% @Nd)∧(type_of% @Cu)∧(type_of% @qg)∧(∀ (a:Nat) l m,(a::l)++m=a::(l++m))∧(∀ b:Bool,((if b=true then (0:Int) else 12)==0)=b)∧(∀ b:Bool,((if b=true then (0:Int) else 12) != 0) = !b) :=
 ⟨pS,Kc,kC,@cF,@dz,Cm,zI,zH,Ns,Nd,Cu,qg,fun _ _ _=>rfl,fun b=>by cases b <;>rfl,fun b=>by cases b <;>rfl⟩
theorem ajg(x:aw):aC Tryz.prog 84 [enc x] (enc (nC x)):=by
 refine aC.bu Tryz.func84 Sl Uc Wc (t7 rfl) (fun hwf W0 D0 E1 =>?_);simp only[Bw,Mt,bj];have R:=v6 @bl @J
 repeat' ((first |refine U.aX (by decide +kernel) rfl fun K hK =>?_|(refine .aQ [0,1,2,3,15,24,25,36,41,47] hK ?_;clear hK K)|(with_reducible refine .done (hK _ ?_);clear hK K)|refine U.of rfl ?_|(with_reducible refine au.aU (fun h =>?_) (fun h =>?_) <;>try simp only[h])) <;>try simp only[aZ,R,simprocAttr])
 all_goals clear R
 all_goals (congr 1;simp_all[nC,ph])
theorem yO(x:aw):aC Tryz.prog 117 [enc x] (enc (j6 x)):=by
 refine aC.bu Tryz.func117 QW SI UL (t7 rfl) (fun hwf W0 D0 E1 =>?_);simp only[zU,K1,bj];refine .ak (by decide +kernel) fun K hK =>?_;simp only[Dy,J,simprocAttr]
 try simp only[bl,J,simprocAttr]
 refine .done (hK _ ?_);clear hK K;refine .ak (by decide +kernel) fun K hK =>?_;simp only[Dz,J,simprocAttr]
 try simp only[bl,J,simprocAttr]
 refine .done (hK _ ?_);clear hK K;refine .ak (by decide +kernel) fun K hK =>?_;simp only[DA,J,simprocAttr]
 try simp only[bl,J,simprocAttr]
 refine .flat _ (Oy _) rfl ?_
 try simp only[J,simprocAttr]
 refine .done (hK _ ?_);clear hK K;refine U.fA [1,2,3,4] ?_;simp only[wQ,reduceIte,Nat.reduceBEq];by_cases hk:0≤x.kind∧x.kind≤6
 ·refine U.seq (U.yG (ar [(1,.ptr 1 []),(3,.ptr 3 []),(4,.bool (oW x))] [(1,.box (enc x)),(3,.box (enc (nC x)))]) ?_ fun B hB=>U.sub hB ?_)
  ·clear hwf;obtain hk | hk | hk | hk | hk | hk | hk:x.kind=0∨x.kind=1∨x.kind=2∨x.kind=3∨x.kind=4∨x.kind=5∨x.kind=6:=by omega
   all_goals
    have R:=v6 @hk (v6 @bl @J)
    repeat' ((first |(with_reducible refine .guard (fun hb =>?_) (fun hb =>?_) <;>try simp only[hb])|refine U.aX (by decide +kernel) rfl fun K hK =>?_|refine .flat _ (yN _) rfl ?_|refine .flat _ (Oz _) rfl ?_|refine .flat _ (OA _) rfl ?_|refine .flat _ (lP _ _ _) rfl ?_|refine .flat _ (yT _) rfl ?_|refine .flat _ (tZ _) rfl ?_|(refine U.tw (gs:=vp) [] [(1,[1]),(3,[3]),(23,[1]),(25,[3]),(26,[3])] [0,1,2,3,4,5] (by decide +kernel) (eT.of (by simp[o7,aW,JQ,I.only])) fun K hK =>?_;simp only[pC,vp,List.getD_cons_zero,List.getD_cons_succ,R,simprocAttr])|(refine U.tw (gs:=vq) [] [(1,[1]),(3,[3]),(55,[1]),(57,[1]),(59,[1]),(61,[3]),(62,[3]),(63,[3])] [0,1,2,3,4,5,6,7,8,9,10,11] (by decide +kernel) (eT.of (by simp[o7,aW,JQ,I.only])) fun K hK =>?_;simp only[pC,vq,List.getD_cons_zero,List.getD_cons_succ,R,simprocAttr])|(refine .aQ [0,1,2,3,4,20,21,53,87,98,110,122] hK ?_;clear hK K)|(with_reducible refine .done (hK _ ?_);clear hK K)|refine U.of rfl ?_|(with_reducible refine au.aU (fun h =>?_) (fun h =>?_) <;>try simp only[h])) <;>try simp only[aZ,R,simprocAttr])
    all_goals clear R
   all_goals
    refine aF.bY ?_ ?_ ?_ ?_ <;>simp[*,aV,bO,bM,br,aq,aW,ct,I.only,ah.only,bA,oW,nC,ph]
  ·have R:=v6 @bl @J
   repeat' ((first |(with_reducible refine .guard (fun hb =>?_) (fun hb =>?_) <;>try simp only[hb])|refine U.aX (by decide +kernel) rfl fun K hK =>?_|refine .flat _ (yN _) rfl ?_|refine .flat _ (tZ _) rfl ?_|(refine .aQ [0,1,2,3,4,20,21,53,87,98,110,122] hK ?_;clear hK K)|(with_reducible refine .done (hK _ ?_);clear hK K)|refine U.of rfl ?_|(with_reducible refine au.aU (fun h =>?_) (fun h =>?_) <;>try simp only[h])) <;>try simp only[aZ,R,simprocAttr])
   all_goals clear R
   all_goals simp[j6, *]
 ·have h0:(x.kind==0)=false:=by simp;omega
  have h1:(x.kind==1)=false:=by simp;omega
  have h2:(x.kind==2)=false:=by simp;omega
  have h3:(x.kind==3)=false:=by simp;omega
  have h4:(x.kind==4)=false:=by simp;omega
  have h5:(x.kind==5)=false:=by simp;omega
  have h6:(x.kind==6)=false:=by simp;omega
  have R:=v6 @h0 (v6 @h1 (v6 @h2 (v6 @h3 (v6 @h4 (v6 @h5 (v6 @h6 (v6 @bl @J)))))))
  repeat' ((first |(with_reducible refine .guard (fun hb =>?_) (fun hb =>?_) <;>try simp only[hb])|refine U.aX (by decide +kernel) rfl fun K hK =>?_|(refine .aQ [0,1,2,3,4,20,21,53,87,98,110,122] hK ?_;clear hK K)|(with_reducible refine .done (hK _ ?_);clear hK K)|refine U.of rfl ?_|(with_reducible refine au.aU (fun h =>?_) (fun h =>?_) <;>try simp only[h])) <;>try simp only[aZ,R,simprocAttr])
  all_goals clear R
  simp at h0 h1 h2 h3 h4 h5 h6;simp[j6,oW, *]
def gF:aw:=ph ⟨0,0⟩ 0 0 0 0
theorem rX:I.agg [.agg [.int .i64 0,.int .i64 0],.int .i64 0,.int .i64 0,.int .i64 0,.int .i64 0,.int .i64 0,.int .i64 0,.int .i64 0,.agg [.int .i64 0,.int .i64 0,.int .i64 0,.int .i64 0,.int .i64 0,.int .i64 0],.agg [.int .i64 0,.int .i64 0]]=enc gF:=rfl
theorem xa(p:Nat→Bool)(l:List aw):(I.agg (l.map enc)).only p=true:=by simp only[I.only];exact fe p l
def kI(k:Nat)(l:List aw)(m:Nat):List (Nat×ah):=[(k,.box (.agg ((l++List.replicate m gF).map enc)))]
def BZ(l:List aw):cR:=fun r os'=>(l=[]∧(r=.nils 17∨r=.c0 17)∧os'=[])∨(l≠[]∧∃ m,r=.view 7 [] 17 0 l.length∧os'=kI 7 l m)
theorem Oo(l:List aw)(hl:l.length≤1000):cC Tryz.prog 136 [enc l] [] (BZ l):=by
 refine cC.bu Tryz.func136 Rc SZ U2 (t7 rfl) (t7 rfl) (fun m hm=>by simp[aq,aj] at hm) (fun hwf W0 D0 E1 =>?_);simp only[Ah,Lh,bj];refine .ak (by decide +kernel) fun K hK =>?_;simp only[Ek,J];refine .done (hK _ ?_);clear hK K;refine U.seq (U.seq ?_);by_cases hn:l=[]
 ·subst hn;refine .bd (by decide +kernel) fun K hK =>?_;simp only[vF,J,Nat.reduceEqDiff,reduceIte];simp only[tO,List.isEmpty_nil,pw];refine .any rfl fun b _ =>?_
  try simp only[J]
  generalize (b==0)=t;cases t
  ·refine .done (hK _ ?_);clear hK K;try simp only[al]
   refine U.bx ?_;simp only[au,J,Nat.reduceEqDiff,reduceIte];refine ⟨fun h =>?_,fun h =>?_⟩
   ·cases h
   refine U.skip ?_;try simp only[al]
   refine .ak (by decide +kernel) fun K hK =>?_;simp only[vG,J]
   try simp only[eB,rX,J,Nat.reduceEqDiff,reduceIte]
   refine .done (hK _ ?_);clear hK K;refine U.ret ?_;simp only[fD];exact ⟨[],[.c0 17],ql,⟨⟨.c0 17,rfl,.inl ⟨rfl,rfl,rfl⟩⟩,trivial⟩,.inl ⟨rfl,.inr rfl,rfl⟩⟩
  ·refine .done (hK _ ?_);clear hK K;refine U.bx ?_;simp only[au,J,Nat.reduceEqDiff,reduceIte];refine ⟨fun h =>?_,fun h =>?_⟩
   ·refine .ak (by decide +kernel) fun K hK =>?_;simp only[El,J];refine .done (hK _ ?_);clear hK K;refine U.ret ?_;simp only[al,fD];exact ⟨[],[.nils 17],ql,⟨⟨.nils 17,rfl,.inl ⟨rfl,rfl,rfl⟩⟩,trivial⟩,.inl ⟨rfl,.inl rfl,rfl⟩⟩
   ·cases h
 ·have hu:jM (enc l)=false:=by rw[tO];simpa using hn
  refine .bd (by decide +kernel) fun K hK =>?_;simp only[vF,J,Nat.reduceEqDiff,reduceIte]
  try simp only[hu,J4 _ l hn,J]
  refine .done (hK _ ?_);clear hK K;try simp only[al]
  refine U.bx ?_;simp only[au,J,Nat.reduceEqDiff,reduceIte];refine ⟨fun h =>?_,fun h =>?_⟩
  ·cases h
  refine U.skip ?_;try simp only[al]
  refine .ak (by decide +kernel) fun K hK =>?_;simp only[vG,J]
  try simp only[eB,rX,J,Nat.reduceEqDiff,reduceIte]
  refine bh.zq gF rfl hn rfl (by omega) (by simp only[maxLen];omega) fun m =>?_
  try simp only[J,Nat.reduceEqDiff,reduceIte]
  refine .done (hK _ ?_);clear hK K;refine U.ret ?_;simp only[fD];exact ⟨kI 7 l m,[.view 7 [] 17 0 l.length],mW rfl (fun p=>xa p _),⟨⟨_,rfl,.inl ⟨rfl,rfl,rfl⟩⟩,trivial⟩,.inr ⟨hn,m,rfl,rfl⟩⟩
def Jt(l:List aw)(i:Nat)(g:aw):List aw:=l.take i++g::l.drop i
theorem ajk(l:List aw)(i k:Nat)(g:aw)(h:i<l.length)(hk:1≤k)(xs:List aw)(hx:xs=l++List.replicate k gF)(ys:List aw)(hy:ys=xs.take (i+1)++(((xs.drop i).take (l.length+1-i)).take (l.length-i)++xs.drop (i+1+(l.length-i)))) :
  ys.take i++([g].take 1++ys.drop (i+1))=Jt l i g++List.replicate (k-1) gF:=by
 have e1:((xs.drop i).take (l.length+1-i)).take (l.length-i)=l.drop i:=by
  rw[List.take_take,Nat.min_eq_left (by omega),hx,List.drop_append_of_le_length (by omega),zw4 (by rw[zx0];omega),zw6 (by rw[zx0];omega)]
 have e2:xs.drop (i+1+(l.length-i))=List.replicate (k-1) gF:=by
  rw[hx,List.drop_append,zw7 (by omega),zy8,List.drop_replicate]
  congr 1;omega
 have hl:(xs.take (i+1)).length=i+1:=by rw[zx3,hx,zz5];omega
 have e3:ys.take i=l.take i:=by
  rw[hy,zw4 (by omega),List.take_take,Nat.min_eq_left (by omega),hx,zw4 (by omega)]
 have e4:ys.drop (i+1)=l.drop i++List.replicate (k-1) gF:=by
  rw[hy,e1,e2];exact List.drop_left' hl
 rw[e3,e4];simp[Jt]
def dX(l:List aw)(i:Nat):List aw:=l.take i++l.drop (i+1)
theorem Cf{l:List aw}{i:Nat}(h:i<l.length):(dX l i).length=l.length-1:=by
 simp only[dX,zz5,zx3,zx0];omega
def Cc(l:List aw)(i:Nat):cR:=fun r os'=>∃ q,r=.view 1000000 [] 17 0 (l.length-1)∧os'=kI 1000000 (dX l i) q
theorem afz(l:List aw)(i k:Nat)(h:i+1<l.length)(xs:List aw)(hx:xs=l++List.replicate k gF)(a:List aw)(ha:a=xs.take i++(l.drop (i+1)++xs.drop (i+(l.drop (i+1)).length))) :
  a.take (l.length-1)++(List.replicate 1 gF++a.drop (l.length-1+1))=dX l i++List.replicate (k+1) gF:=by
 have e1:xs.take i=l.take i:=by rw[hx,zw4 (by omega)]
 have e0:i+(l.drop (i+1)).length=l.length-1:=by rw[zx0];omega
 have e2:a=dX l i++xs.drop (l.length-1):=by rw[ha,e1,e0,dX,zz3]
 have hl:=Cf (l:=l) (i:=i) (by omega);have e3:a.take (l.length-1)=dX l i:=by rw[e2,←hl,List.take_left]
 have e4:a.drop (l.length-1+1)=List.replicate k gF:=by
  rw[e2,List.drop_append,hl,zw7 (by omega),zy8,List.drop_drop];have:l.length-1+(l.length-1+1-(l.length-1))=l.length:=by omega
  rw[this,hx,List.drop_left]
 rw[e3,e4,List.replicate_append_replicate,Nat.add_comm 1 k]
theorem afA(l:List aw)(k:Nat)(i:Nat)(h:i+1=l.length)(xs:List aw)(hx:xs=l++List.replicate k gF):xs.take (l.length-1)++(List.replicate 1 gF++xs.drop (l.length-1+1))=dX l i++List.replicate (k+1) gF:=by
 have e1:l.length-1=i:=by omega
 have e2:xs.drop (l.length-1+1)=List.replicate k gF:=by rw[show l.length-1+1=l.length by omega,hx,List.drop_left]
 have e3:xs.take (l.length-1)=dX l i:=by
  rw[e1,hx,zw4 (by omega),dX,zw7 (by omega),zw1]
 rw[e2,e3,List.replicate_append_replicate,Nat.add_comm 1 k]
theorem On(l:List aw)(i:Nat)(k:Nat)(hi:i<l.length)(hlen:l.length≤1000) :
  cC Tryz.prog 135 [.view 1000000 [] 17 0 l.length,enc (i:Int),enc ((i+1:Nat):Int)] (kI 1000000 l k) (Cc l i):=by
 refine cC.bu Tryz.func135 Rb SY U1 (t7 rfl) (t7 rfl) (fun m hm=>by rw[di.1 hm];exact zz6 _) (fun hwf W0 D0 E1 =>?_);simp only[Ag,Lg,bj,zz4,Nat.reduceAdd];simp only[kI];obtain ⟨xs,hxs⟩:∃ xs,xs=l++List.replicate k gF:=⟨_,rfl⟩
 have hxl:xs.length=l.length+k:=by rw[hxs];simp
 have htot:(xs.map (enc (α:=aw))).length=l.length+k:=by rw[zy1];exact hxl
 rw[←hxs];have hA:∀ ts,(ar ts [(1000000,.box (.agg (xs.map (enc (α:=aw)))))]).o 1000000=some (.box (.agg (xs.map enc))):=fun _=>rfl;refine .ak (by decide +kernel) fun K hK =>?_;simp only[Ef,J];refine .done (hK _ ?_);clear hK K;refine .ak (by decide +kernel) fun K hK =>?_;simp only[Eg,J,Nat.reduceEqDiff,reduceIte]
 try simp only[eB,htot,zy3,air (show i≤i+1 by omega) (show i+1≤l.length by omega) (show l.length≤l.length+k by omega),J,Nat.reduceEqDiff,reduceIte]
 refine .done (hK _ ?_);clear hK K;refine U.seq (U.seq ?_);refine .bd (by decide +kernel) fun K hK =>?_;simp only[Ei,J,Nat.reduceEqDiff,reduceIte]
 try simp only[cv,bP,kC,cF,J,Nat.reduceEqDiff,reduceIte,Int.reduceBNe,Int.reduceBEq]
 refine .done (hK _ ?_);clear hK K;try simp only[al]
 refine U.bx ?_;simp only[au,J,Nat.reduceEqDiff,reduceIte];refine ⟨fun h =>?_,fun h =>?_⟩
 ·exfalso
  have:(i:Int)=((i+1:Nat):Int):=by simpa using h
  omega
 refine U.skip ?_;try simp only[al]
 refine .ak (by decide +kernel) fun K hK =>?_;simp only[Ej,J,Nat.reduceEqDiff,reduceIte]
 try simp only[eB,J,Nat.reduceEqDiff,reduceIte]
 refine .done (hK _ ?_);clear hK K;by_cases hl1:i+1<l.length
 ·have hd:(xs.drop (i+1)).take (l.length-(i+1))=l.drop (i+1):=by
   rw[hxs,List.drop_append_of_le_length (by omega),zw4 (by rw[zx0];omega),zw6 (by rw[zx0];omega)]
  have hdl:i+(l.drop (i+1)).length=l.length-1:=by rw[zx0];omega
  obtain ⟨b,hb⟩:∃ b,b=xs.take i++(l.drop (i+1)++xs.drop (i+(l.drop (i+1)).length)):=⟨_,rfl⟩
  have hbl:b.length=l.length+k:=by rw[hb];simp;omega
  have hcont:=afz l i k hl1 xs hxs b hb;refine .ak (by decide +kernel) fun K hK =>?_;simp only[vC,J,Nat.reduceEqDiff,reduceIte]
  try simp only[eB,htot,Option.map_none,zy3,ym (show i≤l.length+k by omega) (show 0<l.length+k by omega),yn (show i+1≤l.length by omega) (show l.length≤l.length+k by omega) (show i+1<l.length+k by omega),J,Nat.reduceEqDiff,reduceIte]
  rw[PU (esz:=17) (xs:=xs) (ys:=l.drop (i+1)) _ _ (by rw[tH (xs:=xs) (hA _) (by omega),hd]) (by simp;omega) (hA _) (by rw[zx0];omega)];rw[←hb,hdl]
  try simp only[J,Nat.reduceEqDiff,reduceIte]
  refine .done (hK _ ?_);clear hK K;have htb:(b.map (enc (α:=aw))).length=l.length+k:=by rw[zy1];exact hbl
  have hB:∀ ts os,(ar ts ((1000000,.box (.agg (b.map (enc (α:=aw)))))::os)).o 1000000=some (.box (.agg (b.map enc))):=fun _ _=>rfl;refine .ak (by decide +kernel) fun K hK =>?_;simp only[vD,J,Nat.reduceEqDiff,reduceIte]
  try simp only[eB,htb,Option.map_none,zy3,rX,J,Nat.reduceEqDiff,reduceIte]
  rw[Ni (show l.length-1≤l.length by omega) (show l.length≤l.length+k by omega) (by omega)]
  try simp only[eB,J,Nat.reduceEqDiff,reduceIte]
  rw[uL (xs:=b) gF (hB _ _) (by omega)];have hone:l.length-(l.length-1)=1:=by omega
  try simp only[hone,hcont,J]
  refine .done (hK _ ?_);clear hK K;refine .ak (by decide +kernel) fun K hK =>?_;simp only[vE,J,Nat.reduceEqDiff,reduceIte];refine .done (hK _ ?_);clear hK K;refine U.ret ?_;simp only[fD];exact ⟨kI 1000000 (dX l i) (k+1),[.view 1000000 [] 17 0 (l.length-1)],mW rfl (fun p=>xa p _),⟨⟨_,rfl,.inl ⟨rfl,rfl,rfl⟩⟩,trivial⟩,k+1,rfl,rfl⟩
 ·have hie:i+1=l.length:=by omega
  obtain ⟨b,hb⟩:∃ b,b=xs:=⟨_,rfl⟩
  have hbl:b.length=l.length+k:=by rw[hb];exact hxl
  have hcont:=afA l k i hie xs hxs;rw[←hb] at hcont;have hi1:i=l.length-1:=by omega
  obtain ⟨y,hy⟩:=aiq (n:=1000000) (p:=[]) (sz:=17) (show i+1≤l.length by omega) (show l.length≤l.length+k by omega);have hye:∀ ts,ep (ar ts [(1000000,.box (.agg (xs.map (enc (α:=aw)))))]) 17 y=some []:=fun ts=>by
   by_cases hk:k=0
   ·have:gL 1000000 [] 17 0 l.length (l.length+k) (some (.int .i64 ((i+1:Nat):Int))) none none=some (.c0 17):=by
     simp only[gL,gX];rw[if_pos ⟨by omega,by omega,by omega⟩,if_pos (by omega)]
    rw[this] at hy;cases hy;rfl
   ·rw[yn (show i+1≤l.length by omega) (show l.length≤l.length+k by omega) (by omega)] at hy;cases hy;rw[tH (xs:=xs) (hA _) (by omega),hie];simp
  refine .ak (by decide +kernel) fun K hK =>?_;simp only[vC,J,Nat.reduceEqDiff,reduceIte]
  try simp only[eB,htot,Option.map_none,zy3,ym (show i≤l.length+k by omega) (show 0<l.length+k by omega),hy,J,Nat.reduceEqDiff,reduceIte]
  rw[PT (esz:=17) (xs:=xs) _ _ (hye _) (hA _) (by omega)];rw[hi1,←hb]
  try simp only[J,Nat.reduceEqDiff,reduceIte]
  refine .done (hK _ ?_);clear hK K;have htb:(b.map (enc (α:=aw))).length=l.length+k:=by rw[zy1];exact hbl
  have hB:∀ ts os,(ar ts ((1000000,.box (.agg (b.map (enc (α:=aw)))))::os)).o 1000000=some (.box (.agg (b.map enc))):=fun _ _=>rfl;refine .ak (by decide +kernel) fun K hK =>?_;simp only[vD,J,Nat.reduceEqDiff,reduceIte]
  try simp only[eB,htb,Option.map_none,zy3,rX,J,Nat.reduceEqDiff,reduceIte]
  rw[Ni (show l.length-1≤l.length by omega) (show l.length≤l.length+k by omega) (by omega)]
  try simp only[eB,J,Nat.reduceEqDiff,reduceIte]
  rw[uL (xs:=b) gF (hB _ _) (by omega)];have hone:l.length-(l.length-1)=1:=by omega
  try simp only[hone,hcont,J]
  refine .done (hK _ ?_);clear hK K;refine .ak (by decide +kernel) fun K hK =>?_;simp only[vE,J,Nat.reduceEqDiff,reduceIte];refine .done (hK _ ?_);clear hK K;refine U.ret ?_;simp only[fD];exact ⟨kI 1000000 (dX l i) (k+1),[.view 1000000 [] 17 0 (l.length-1)],mW rfl (fun p=>xa p _),⟨⟨_,rfl,.inl ⟨rfl,rfl,rfl⟩⟩,trivial⟩,k+1,rfl,rfl⟩
def ec(b:aR)(s:I):I:=.agg [.agg [.int .i64 b.no,.int .i64 b.fg,.int .i64 b.eV,.int .i64 b.b5,.int .i64 b.ju,.int .i64 b.born,.int .i64 b.eW,.bool b.found,s]]
structure eC where
 b:aR
instance:Enc eC where
 enc x:=.agg [enc x.b]
 sz:=9
 aJ:=.dU [.dU [.one,.one,.one,.one,.one,.one,.one,.one,.one]]
 fI:=true
 done e:=by simp only[I.done,I.eG,Enc.done,zw3]
 size e:=by simp only[I.size,I.sizes,fy,Cs]
 jG e:=by simp only[I.aJ,I.cN,ev];rfl
 agg _:=rfl
def eI(B:Nat):Nat→List aR→List (Nat×ah)
 |_,[]=>[]
 |i,b::bs=>(B+2+2*i,.box (ec b (.own (B+3+2*i) b.bL.length)))::(B+3+2*i,.bT 66 6 (b.bL.map enc))::eI B (i+1) bs
def dY(B n:Nat):List I:=(List.range n).map fun i=>.ptr (B+2+2*i) []
def dc(bs:List aR):List I:=(bs.map (·.no)).map enc
def cj(B:Nat)(bs:List aR):List (Nat×ah):=(B,.box (.agg [.mref (B+1)]))::(B+1,.cq (dc bs) (dY B bs.length))::eI B 0 bs
theorem sI(B:Nat):∀ (bs:List aR) (i n:Nat),n<B+2+2*i→aj (eI B i bs) n=none
 | [],_,_,_=>rfl
 |b::bs,i,n,h=>by
  simp only[eI,aj];rw[if_neg (by omega),if_neg (by omega)];exact sI B bs (i+1) n (by omega)
theorem sG(B:Nat):∀ (bs:List aR) (i n:Nat),B+2+2*(i+bs.length)≤n→aj (eI B i bs) n=none
 | [],_,_,_=>rfl
 |b::bs,i,n,h=>by
  simp only[zv5] at h;simp only[eI,aj];rw[if_neg (by omega),if_neg (by omega)];exact sG B bs (i+1) n (by omega)
theorem sH(B:Nat):∀ (bs:List aR) (i k:Nat) (h:k<bs.length),aj (eI B i bs) (B+2+2*(i+k))=some (.box (ec bs[k] (.own (B+3+2*(i+k)) (bs[k]).bL.length)))
 | [],_,_,h=>by simp at h
 |b::bs,i,0,_=>by simp[eI,aj]
 |b::bs,i,k+1,h=>by
  simp only[eI,aj];rw[if_neg (by omega),if_neg (by omega)];have:=sH B bs (i+1) k (by simpa using h);rw[show i+1+k=i+(k+1) by omega] at this;exact this
theorem sJ(B:Nat):∀ (bs:List aR) (i k:Nat) (h:k<bs.length),aj (eI B i bs) (B+3+2*(i+k))=some (.bT 66 6 ((bs[k]).bL.map enc))
 | [],_,_,h=>by simp at h
 |b::bs,i,0,_=>by
  simp only[eI,aj];rw[if_neg (by omega),if_pos (by omega)];rfl
 |b::bs,i,k+1,h=>by
  simp only[eI,aj];rw[if_neg (by omega),if_neg (by omega)];have:=sJ B bs (i+1) k (by simpa using h);rw[show i+1+k=i+(k+1) by omega] at this;exact this
theorem sW(B n m:Nat):n<B∨n=B∨n=B+1∨(∃ k,k<m∧n=B+2+2*k)∨(∃ k,k<m∧n=B+3+2*k)∨B+2+2*m≤n:=by
 by_cases h1:n<B
 ·exact .inl h1
 by_cases h2:n=B
 ·exact .inr (.inl h2)
 by_cases h3:n=B+1
 ·exact .inr (.inr (.inl h3))
 by_cases h4:B+2+2*m≤n
 ·exact .inr (.inr (.inr (.inr (.inr h4))))
 rcases Nat.mod_two_eq_zero_or_one (n-B) with h5 | h5
 ·exact .inr (.inr (.inr (.inl ⟨(n-B-2) / 2,by omega,by omega⟩)))
 ·exact .inr (.inr (.inr (.inr (.inl ⟨(n-B-3) / 2,by omega,by omega⟩))))
section
variable {B:Nat} {bs:List aR}
theorem jX{n:Nat}(h:n<B):aj (cj B bs) n=none:=by
 simp only[cj,aj];rw[if_neg (by omega),if_neg (by omega)];exact sI B bs 0 n (by omega)
theorem sy{n:Nat}(h:B+2+2*bs.length≤n):aj (cj B bs) n=none:=by
 simp only[cj,aj];rw[if_neg (by omega),if_neg (by omega)];exact sG B bs 0 n (by omega)
theorem jW:aj (cj B bs) B=some (.box (.agg [.mref (B+1)])):=by simp[cj,aj]
theorem ku:aj (cj B bs) (B+1)=some (.cq (dc bs) (dY B bs.length)):=by simp[cj,aj]
theorem l9{k:Nat}(h:k<bs.length):aj (cj B bs) (B+2+2*k)=some (.box (ec bs[k] (.own (B+3+2*k) (bs[k]).bL.length))):=by
 simp only[cj,aj];rw[if_neg (by omega),if_neg (by omega)];have:=sH B bs 0 k h
 rwa [zz4] at this
theorem lv{k:Nat}(h:k<bs.length):aj (cj B bs) (B+3+2*k)=some (.bT 66 6 ((bs[k]).bL.map enc)):=by
 simp only[cj,aj];rw[if_neg (by omega),if_neg (by omega)];have:=sJ B bs 0 k h
 rwa [zz4] at this
theorem m3{n:Nat} : aq (cj B bs) n=decide (B≤n∧n<B+2+2*bs.length):=by
 rcases sW B n bs.length with h | h | h | ⟨k,hk,h⟩ | ⟨k,hk,h⟩ | h
 ·simp only[aq,jX h];simp;omega
 ·subst h;simp only[aq,jW];simp;omega
 ·subst h;simp only[aq,ku];simp;omega
 ·subst h;simp only[aq,l9 hk];simp;omega
 ·subst h;simp only[aq,lv hk];simp;omega
 ·simp only[aq,sy h];simp;omega
theorem xL(p:Nat→Bool){n:Nat}(h:∀ i,i<n→p (B+2+2*i)=true):I.b8 p (dY B n)=true:=by
 unfold dY
 induction n with
 |zero=>rfl
 |succ n ih =>
  rw[List.range_succ,zx6,kD,ih fun i hi=>h i (by omega)];simp[I.b8,I.only,h n (by omega)]
theorem e8{n:Nat}{x:ah}(h:aj (cj B bs) n=some x):x.only (aq (cj B bs))=true∧x.eH=true:=by
 rcases sW B n bs.length with h2 | h2 | h2 | ⟨k,hk,h2⟩ | ⟨k,hk,h2⟩ | h2
 ·rw[jX h2] at h;cases h
 ·subst h2;rw[jW] at h;cases h;simp[ah.only,I.only,I.b8,m3,ah.eH];omega
 ·subst h2;rw[ku] at h;cases h;refine ⟨?_,rfl⟩;simp only[ah.only,zz2];exact ⟨fe _ _,xL _ fun i hi=>by rw[m3];simp;omega⟩
 ·subst h2;rw[l9 hk] at h;cases h;simp[ah.only,I.only,I.b8,m3,ah.eH,ec];omega
 ·subst h2;rw[lv hk] at h;cases h;exact ⟨fe _ _,rfl⟩
 ·rw[sy h2] at h;cases h
theorem Jm{i:Nat}(hi:i<bs.length)(b:aR)(hno:b.no=(bs[i]).no)(n:Nat):aj (cj B (bs.set i b)) n =
  if n=B+2+2*i then some (.box (ec b (.own (B+3+2*i) b.bL.length))) else if n=B+3+2*i then some (.bT 66 6 (b.bL.map enc)) else aj (cj B bs) n:=by
 have hl:(bs.set i b).length=bs.length:=List.length_set;have hnos:dc (bs.set i b)=dc bs:=by
  simp only[dc,List.map_set,hno]
  congr 1
  exact List.ext_getElem (by simp) fun j h1 h2=>by
   simp only[List.getElem_set,List.getElem_map];split
   ·rename_i e;subst e;rfl
   ·rfl
 rcases sW B n bs.length with h2 | h2 | h2 | ⟨k,hk,h2⟩ | ⟨k,hk,h2⟩ | h2
 ·rw[jX h2,jX h2,if_neg (by omega),if_neg (by omega)]
 ·subst h2;rw[jW,jW,if_neg (by omega),if_neg (by omega)]
 ·subst h2;rw[ku,ku,hl,hnos,if_neg (by omega),if_neg (by omega)]
 ·subst h2;rw[l9 (by omega),l9 hk];by_cases e:k=i
  ·subst e;simp
  ·rw[if_neg (by omega),if_neg (by omega)];simp[Ne.symm e]
 ·subst h2;rw[lv (by omega),lv hk];by_cases e:k=i
  ·subst e;rw[if_neg (by omega),if_pos rfl];simp
  ·rw[if_neg (by omega),if_neg (by omega)];simp[Ne.symm e]
 ·rw[sy (by omega),sy h2,if_neg (by omega),if_neg (by omega)]
end
theorem KR{B n i:Nat}(h:i<n):(dY B n)[i]?=some (.ptr (B+2+2*i) []):=by simp[dY,h]
theorem u6(a b:Int):cg (.i .i64) (enc a) (enc b)=some (decide (a=b)):=Cv a b
theorem wj{bs:List aR}{no:Int} : match (bs.map (·.no)).findIdx? fun x=>decide (no=x) with
  |some i=>∃ h:i<bs.length,dp bs no=some bs[i]∧(bs[i]).no=no
  |none=>dp bs no=none:=by
 cases h:(bs.map (·.no)).findIdx? fun x=>decide (no=x) with
 |none =>
  rw[List.findIdx?_eq_none_iff] at h;simp only;rw[wm];intro hm;have:=h no hm;simp at this
 |some i =>
  obtain ⟨h1,h2,h3⟩:=List.findIdx?_eq_some_iff_getElem.1 h;have hi:i<bs.length:=by simpa using h1
  have hno:(bs[i]).no=no:=by simpa using (of_decide_eq_true h2).symm
  refine ⟨hi,?_,hno⟩;simp only[dp,List.find?_eq_some_iff_getElem];refine ⟨by simpa using hno,i,hi,rfl,fun j hj =>?_⟩;have:=h3 j hj;simp at this;simpa using fun e=>this e.symm
theorem pc(B:Nat)(bs:List aR)(no:Int):(dp bs no=none∧fW (.i .i64) .nilp (.int .i64 no) (dc bs) (dY B bs.length)=some (.nilp,false)) ∨
  ∃ i,∃ h:i<bs.length,dp bs no=some bs[i]∧(bs[i]).no=no∧fW (.i .i64) .nilp (.int .i64 no) (dc bs) (dY B bs.length)=some (.ptr (B+2+2*i) [],true):=by
 have h1:=wj (bs:=bs) (no:=no);have h2:=wU u6 .nilp no (bs.map (·.no)) (dY B bs.length);rw[jx] at h2;unfold dc;cases h:(bs.map (·.no)).findIdx? fun x=>decide (no=x) with
 |none=>rw[h] at h1 h2;exact .inl ⟨h1,h2⟩
 |some i =>
  rw[h] at h1 h2;obtain ⟨hi,g1,g2⟩:=h1;refine .inr ⟨i,hi,g1,g2,?_⟩;rw[h2];simp only[KR hi,zy3]
theorem aif{bs:List aR}(hd:(bs.map (·.no)).Nodup){i:Nat}(hi:i<bs.length){b:aR}(hno:b.no=(bs[i]).no):lM bs b=bs.set i b:=by
 refine List.ext_getElem (by simp[lM]) fun j h1 h2 =>?_;simp only[lM,List.getElem_map,List.getElem_set];have hj:j<bs.length:=by simpa using h2
 by_cases e:i=j
 ·subst e;rw[if_pos hno.symm,if_pos rfl]
 ·rw[if_neg e,if_neg];intro he;have he:=he.trans hno;have:=(List.getElem_inj (h₀:=by simpa using hj) (h₁:=by simpa using hi) hd).1 (by simpa using he);exact e this.symm
theorem CH(x:eC):(enc x).dg=some [enc x.b]:=rfl
theorem CI(b:aR)(s:I):(ec b s).dg=some [.agg [.int .i64 b.no,.int .i64 b.fg,.int .i64 b.eV,.int .i64 b.b5,.int .i64 b.ju,.int .i64 b.born,.int .i64 b.eW,.bool b.found,s]]:=rfl
theorem BY(b:aR)(n k:Nat):(ec b (.own n k)).bp=false:=by simp[ec,I.bp,I.bW]
theorem l5{A:ae}{m n:Nat}{b:aR}(ho:A.o n=some (.bT 66 6 (b.bL.map enc))):dS A (m+3) (ec b (.own n b.bL.length))=some (enc (⟨b⟩:eC)):=by
 have h1:dS A (m+1) (.own n b.bL.length)=some (enc b.bL):=by
  simp only[dS,I.bp,zz7,if_false,ho,zy1,kj,and_self,if_true];rfl
 have hi:∀ (k:IntKind) (v:Int),dS A (m+1) (.int k v)=some (.int k v):=fun _ _=>by simp[dS,I.bp]
 have hb:∀ v:Bool,dS A (m+1) (.bool v)=some (.bool v):=fun _=>by simp[dS,I.bp]
 have h2:dS A (m+2) (.agg [.int .i64 b.no,.int .i64 b.fg,.int .i64 b.eV,.int .i64 b.b5,.int .i64 b.ju,.int .i64 b.born,.int .i64 b.eW,.bool b.found,.own n b.bL.length])=some (enc b):=by
  rw[dS];simp only[I.bp,I.bW,Bool.and_false,Bool.and_true,zz7,if_false,fC,hi,hb,h1,zy3];rfl
 rw[ec,dS];simp only[I.bp,I.bW,Bool.and_false,Bool.and_true,zz7,if_false,fC,h2,zy3];rfl
theorem Nu :
  (∀ (A:ae) n b s (v ao:Int) rest,dO A none n [0,3] (ec b s) (.int .i64 v) rest (some (.int .i64 ao))=aA rest (A.aN n (.box (ec { b with b5:=v } s)))) ∧
  (∀ (A:ae) n b s (v ao:Int) rest,dO A none n [0,6] (ec b s) (.int .i64 v) rest (some (.int .i64 ao))=aA rest (A.aN n (.box (ec { b with eW:=v } s)))) ∧
  (∀ (A:ae) n b s (v ao:Bool) rest,dO A none n [0,7] (ec b s) (.bool v) rest (some (.bool ao))=aA rest (A.aN n (.box (ec { b with found:=v } s)))) ∧
  (∀ (A:ae) n b s m k m' k' rest,dO A none n [0,8] (ec b s) (.own m k) rest (some (.own m' k'))=aA rest (A.aN n (.box (ec b (.own m k))))) :=
 ⟨fun _ _ _ _ v ao _=>by rw[eg (s:=none) (v:=.int .i64 v) (old:=.int .i64 ao) rfl rfl rfl];rfl,fun _ _ _ _ v ao _=>by rw[eg (s:=none) (v:=.int .i64 v) (old:=.int .i64 ao) rfl rfl rfl];rfl,
  fun _ _ _ _ v ao _=>by rw[eg (s:=none) (v:=.bool v) (old:=.bool ao) rfl rfl rfl];rfl,fun _ _ _ _ m k m' k' _=>by rw[eg (s:=none) (v:=.own m k) (old:=.own m' k') rfl rfl rfl];rfl⟩
theorem gw:(type_of% @CH)∧(type_of% @CI)∧(type_of% @BY)∧(type_of% @Nu)∧(type_of% @Kb)∧(∀ n:Nat,(n=n)=True)∧(∀ rs post A,nk rs post .ret A=kQ rs post A):=⟨CH,CI,BY,Nu,Kb,fun _=>eq_self _,fD⟩
theorem jb(b:aR):aC Tryz.prog 90 [.ref (enc (⟨b⟩:eC))] (enc (decide (0≤b.eW))):=by
 refine aC.bu Tryz.func90 Ss Ui Wi (t7 rfl) (fun hwf W0 D0 E1 =>?_);simp only[BC,Mz,bj];have R:=v6 @gw (v6 @ew (v6 @bl @J))
 repeat' ((first |refine U.aX (by decide +kernel) rfl fun K hK =>?_|(refine .aQ [0,2] hK ?_;clear hK K)|(with_reducible refine .done (hK _ ?_);clear hK K)|refine U.of rfl ?_|(with_reducible refine au.aU (fun h =>?_) (fun h =>?_) <;>try simp only[h])) <;>try simp only[aZ,R,simprocAttr])
 all_goals clear R
def iF(B d:Nat)(bs:List aR)(x:aw):cR:=fun r os'=>match ef eD bs x with
 |none=>r=.bool false∧os'=cj B bs
 |some bs'=>r=.bool true∧os'=if x.kind=1∨x.kind=2 then (B+1,.cq (dc bs') (dY B bs.length++[.ptr d []]))::(d,.box (ec (fL x) (.nils 6)))::cj B bs else cj B bs'
theorem kv{bs:List aR} : ∀ m,aq (cj 1000000 bs) m=true→1000000≤m:=fun m hm=>by rw[m3] at hm;simp at hm;omega
theorem fQ{ts:List (Nat×I)}{os os':List (Nat×ah)}{b:Bool}{post:cR}(ht:Abs.b9 ts 4=.bool b)(ho:∀ n,aq os' n=true→aj os n=aj os' n)(hg:∀ n x,aj os' n=some x→x.only (aq os')=true∧x.eH=true)(hp:post (.bool b) os'):kQ [.tmp 4] post (ar ts os):=by
 refine ⟨os',[.bool b],fun n x hx=>⟨?_,hg n x hx⟩,⟨⟨.bool b,?_,.inl ⟨rfl,rfl,rfl⟩⟩,trivial⟩,hp⟩
 ·show aj os n=some x
  rw[ho n (by simp[aq,hx])];exact hx
 ·show some (Abs.b9 ts 4)=some _
  rw[ht]
theorem lx{bs:List aR}{z:ah} : ∀ n,aq (cj 1000000 bs) n=true→aj ((3,z)::cj 1000000 bs) n=aj (cj 1000000 bs) n:=fun n h=>by
 have:=kv n h;simp only[aj];rw[if_neg (by omega)]
theorem wF{bs:List aR}{i:Nat}(hi:i<bs.length){b:aR}(hno:b.no=(bs[i]).no)(hs:b.bL=(bs[i]).bL){z:ah}{nl nr:Nat}(hnl:nl=1000000+2+2*i)(hnr:nr=1000000+3+2*i) :
  ∀ n,aq (cj 1000000 (bs.set i b)) n=true→aj ((nl,.box (ec b (.own nr (bs[i]).bL.length)))::(3,z)::cj 1000000 bs) n=aj (cj 1000000 (bs.set i b)) n:=fun n h=>by
 have:=kv n h;rw[Jm hi b hno];simp only[aj,hs];subst hnl hnr;rw[if_neg (show ¬ n=3 by omega)];split
 ·rfl
 ·split
  ·rename_i e;subst e;exact lv hi
  ·rfl
theorem jy{B d:Nat}{bs:List aR}{x:aw}(h:ef eD bs x=none):iF B d bs x (.bool false) (cj B bs):=by simp[iF,h]
theorem sB{B d:Nat}{bs:List aR}{x:aw}(hd:(bs.map (·.no)).Nodup)(hk:¬ (x.kind=1∨x.kind=2)){i:Nat}(hi:i<bs.length)(hg:dp bs x.dW=some bs[i]){b:aR}(ht:iY bs[i] x=some b)(hno:b.no=(bs[i]).no) :
  iF B d bs x (.bool true) (cj B (bs.set i b)):=by
 have:ef eD bs x=some (bs.set i b):=by
  simp only[ef,if_neg hk,hg,ht,zy3,aif hd hi hno]
 simp only[iF,this,if_neg hk,and_self]
theorem rJ{bs:List aR}{x:aw}(hk:¬ (x.kind=1∨x.kind=2))(hg:dp bs x.dW=none):ef eD bs x=none:=by
 simp only[ef,if_neg hk,hg]
theorem zt{bs:List aR}{x:aw}(hk:¬ (x.kind=1∨x.kind=2)){b:aR}(hg:dp bs x.dW=some b)(ht:iY b x=none):ef eD bs x=none:=by
 simp only[ef,if_neg hk,hg,ht,Option.map_none]
theorem OO(bs:List aR)(x:aw)(d:Nat)(hk:x.kind=3)(hd:(bs.map (·.no)).Nodup):cC Tryz.prog 174 [.ptr 1000000 [],enc x] (cj 1000000 bs) (iF 1000000 d bs x):=by
 refine cC.bu Tryz.func174 RE Ts Vu (t7 rfl) (t7 rfl) kv (fun hwf W0 D0 E1 =>?_);simp only[AL,LK,bj,zz4];clear hwf;have hk12:¬ (x.kind=1∨x.kind=2):=by omega
 have n3:aj (cj 1000000 bs) 3=none:=jX (by omega);have h0:aj (cj 1000000 bs) 1000000=some (.box (.agg [.mref 1000001])):=jW;have h1:aj (cj 1000000 bs) 1000001=some (.cq (dc bs) (dY 1000000 bs.length)):=ku;rcases pc 1000000 bs x.dW with ⟨hg,hlk⟩ | ⟨i,hi,hg,hno,hlk⟩
 ·have R:=v6 @n3 (v6 @h0 (v6 @h1 (v6 @hlk (v6 @eJ (v6 @gw (v6 @ew (v6 @bl @J)))))))
  repeat' ((first |(with_reducible refine .guard (fun hb =>?_) (fun hb =>?_) <;>try simp only[hb])|refine U.aX (by decide +kernel) rfl fun K hK =>?_|refine .flat _ (jb _) rfl ?_|(refine .aQ [0,1,3,4,5,36] hK ?_;clear hK K)|(with_reducible refine .done (hK _ ?_);clear hK K)|refine U.of rfl ?_|(with_reducible refine au.aU (fun h =>?_) (fun h =>?_) <;>try simp only[h])) <;>try simp only[aZ,R,simprocAttr])
  all_goals clear R
  exact fQ rfl lx (fun n x h=>e8 h) (jy (rJ hk12 hg))
 ·have hl:=l9 (B:=1000000) hi;have hr:=lv (B:=1000000) hi;obtain ⟨nl,hnl⟩:∃ nl,nl=1000000+2+2*i:=⟨_,rfl⟩
  obtain ⟨nr,hnr⟩:∃ nr,nr=1000000+3+2*i:=⟨_,rfl⟩
  rw[←hnl] at hl hlk;rw[←hnr] at hl hr;have e1:(nl=3)=False:=by simp;omega
  have e2:(nr=3)=False:=by simp;omega
  have e3:(3=nl)=False:=by simp;omega
  have e4:(nr=nl)=False:=by simp;omega
  have e5:(nl=nr)=False:=by simp;omega
  have e6:(3=nr)=False:=by simp;omega
  have R:=v6 @n3 (v6 @h0 (v6 @h1 (v6 @hl (v6 @hr (v6 @e1 (v6 @e2 (v6 @e3 (v6 @hlk (v6 @l5 (v6 @eJ (v6 @gw (v6 @ew (v6 @bl @J)))))))))))))
  repeat' ((first |(with_reducible refine .guard (fun hb =>?_) (fun hb =>?_) <;>try simp only[hb])|refine U.aX (by decide +kernel) rfl fun K hK =>?_|refine .flat _ (jb _) rfl ?_|(refine .aQ [0,1,3,4,5,36] hK ?_;clear hK K)|(with_reducible refine .done (hK _ ?_);clear hK K)|refine U.of rfl ?_|(with_reducible refine au.aU (fun h =>?_) (fun h =>?_) <;>try simp only[h])) <;>try simp only[aZ,R,simprocAttr])
  all_goals clear R
  all_goals first
   |exact fQ rfl lx (fun n x h=>e8 h) (jy (zt hk12 hg (by simp_all[iY])))
   |exact fQ rfl (wF hi (b := { bs[i] with b5:=x.b5 }) rfl rfl hnl hnr) (fun n x h=>e8 h) (sB hd hk12 hi hg (by simp_all[iY]) rfl)
theorem OQ(bs:List aR)(x:aw)(d:Nat)(hk:x.kind=5)(hd:(bs.map (·.no)).Nodup):cC Tryz.prog 176 [.ptr 1000000 [],enc x] (cj 1000000 bs) (iF 1000000 d bs x):=by
 refine cC.bu Tryz.func176 RG Tu Vw (t7 rfl) (t7 rfl) kv (fun hwf W0 D0 E1 =>?_);simp only[AN,LM,bj,zz4];clear hwf;have hk12:¬ (x.kind=1∨x.kind=2):=by omega
 have n3:aj (cj 1000000 bs) 3=none:=jX (by omega);have h0:aj (cj 1000000 bs) 1000000=some (.box (.agg [.mref 1000001])):=jW;have h1:aj (cj 1000000 bs) 1000001=some (.cq (dc bs) (dY 1000000 bs.length)):=ku;rcases pc 1000000 bs x.dW with ⟨hg,hlk⟩ | ⟨i,hi,hg,hno,hlk⟩
 ·have R:=v6 @n3 (v6 @h0 (v6 @h1 (v6 @hlk (v6 @eJ (v6 @gw (v6 @ew (v6 @bl @J)))))))
  repeat' ((first |refine U.aX (by decide +kernel) rfl fun K hK =>?_|refine .flat _ (jb _) rfl ?_|(refine .aQ [0,1,3,4,5,14] hK ?_;clear hK K)|(with_reducible refine .done (hK _ ?_);clear hK K)|refine U.of rfl ?_|(with_reducible refine au.aU (fun h =>?_) (fun h =>?_) <;>try simp only[h])) <;>try simp only[aZ,R,simprocAttr])
  all_goals clear R
  exact fQ rfl lx (fun n x h=>e8 h) (jy (rJ hk12 hg))
 ·have hl:=l9 (B:=1000000) hi;have hr:=lv (B:=1000000) hi;obtain ⟨nl,hnl⟩:∃ nl,nl=1000000+2+2*i:=⟨_,rfl⟩
  obtain ⟨nr,hnr⟩:∃ nr,nr=1000000+3+2*i:=⟨_,rfl⟩
  rw[←hnl] at hl hlk;rw[←hnr] at hl hr;have e1:(nl=3)=False:=by simp;omega
  have e2:(nr=3)=False:=by simp;omega
  have e3:(3=nl)=False:=by simp;omega
  have e4:(nr=nl)=False:=by simp;omega
  have e5:(nl=nr)=False:=by simp;omega
  have e6:(3=nr)=False:=by simp;omega
  have R:=v6 @n3 (v6 @h0 (v6 @h1 (v6 @hl (v6 @hr (v6 @e1 (v6 @e2 (v6 @e3 (v6 @hlk (v6 @l5 (v6 @eJ (v6 @gw (v6 @ew (v6 @bl @J)))))))))))))
  repeat' ((first |refine U.aX (by decide +kernel) rfl fun K hK =>?_|refine .flat _ (jb _) rfl ?_|(refine .aQ [0,1,3,4,5,14] hK ?_;clear hK K)|(with_reducible refine .done (hK _ ?_);clear hK K)|refine U.of rfl ?_|(with_reducible refine au.aU (fun h =>?_) (fun h =>?_) <;>try simp only[h])) <;>try simp only[aZ,R,simprocAttr])
  all_goals clear R
  refine fQ rfl (fun n h =>?_) (fun n x h=>e8 h) (sB hd hk12 hi hg (b := { bs[i] with b5:=x.b5,found:=true }) (by simp[iY,hk]) rfl);rw[←wF hi (b := { bs[i] with b5:=x.b5,found:=true }) rfl rfl (z:=.box (enc x)) hnl hnr n h];simp only[aj];split <;>rfl
theorem OR(bs:List aR)(x:aw)(d:Nat)(hk:x.kind=6)(hd:(bs.map (·.no)).Nodup):cC Tryz.prog 177 [.ptr 1000000 [],enc x] (cj 1000000 bs) (iF 1000000 d bs x):=by
 refine cC.bu Tryz.func177 RH Tv Vx (t7 rfl) (t7 rfl) kv (fun hwf W0 D0 E1 =>?_);simp only[AO,LN,bj,zz4];clear hwf;have hk12:¬ (x.kind=1∨x.kind=2):=by omega
 have n3:aj (cj 1000000 bs) 3=none:=jX (by omega);have h0:aj (cj 1000000 bs) 1000000=some (.box (.agg [.mref 1000001])):=jW;have h1:aj (cj 1000000 bs) 1000001=some (.cq (dc bs) (dY 1000000 bs.length)):=ku;rcases pc 1000000 bs x.dW with ⟨hg,hlk⟩ | ⟨i,hi,hg,hno,hlk⟩
 ·have R:=v6 @n3 (v6 @h0 (v6 @h1 (v6 @hlk (v6 @eJ (v6 @gw (v6 @ew (v6 @bl @J)))))))
  repeat' ((first |(with_reducible refine .guard (fun hb =>?_) (fun hb =>?_) <;>try simp only[hb])|refine U.aX (by decide +kernel) rfl fun K hK =>?_|refine .flat _ (jb _) rfl ?_|(refine .aQ [0,1,3,4,5,18] hK ?_;clear hK K)|(with_reducible refine .done (hK _ ?_);clear hK K)|refine U.of rfl ?_|(with_reducible refine au.aU (fun h =>?_) (fun h =>?_) <;>try simp only[h])) <;>try simp only[aZ,R,simprocAttr])
  all_goals clear R
  exact fQ rfl lx (fun n x h=>e8 h) (jy (rJ hk12 hg))
 ·have hl:=l9 (B:=1000000) hi;have hr:=lv (B:=1000000) hi;obtain ⟨nl,hnl⟩:∃ nl,nl=1000000+2+2*i:=⟨_,rfl⟩
  obtain ⟨nr,hnr⟩:∃ nr,nr=1000000+3+2*i:=⟨_,rfl⟩
  rw[←hnl] at hl hlk;rw[←hnr] at hl hr;have e1:(nl=3)=False:=by simp;omega
  have e2:(nr=3)=False:=by simp;omega
  have e3:(3=nl)=False:=by simp;omega
  have e4:(nr=nl)=False:=by simp;omega
  have e5:(nl=nr)=False:=by simp;omega
  have e6:(3=nr)=False:=by simp;omega
  have R:=v6 @n3 (v6 @h0 (v6 @h1 (v6 @hl (v6 @hr (v6 @e1 (v6 @e2 (v6 @e3 (v6 @hlk (v6 @l5 (v6 @eJ (v6 @gw (v6 @ew (v6 @bl @J)))))))))))))
  repeat' ((first |(with_reducible refine .guard (fun hb =>?_) (fun hb =>?_) <;>try simp only[hb])|refine U.aX (by decide +kernel) rfl fun K hK =>?_|refine .flat _ (jb _) rfl ?_|(refine .aQ [0,1,3,4,5,18] hK ?_;clear hK K)|(with_reducible refine .done (hK _ ?_);clear hK K)|refine U.of rfl ?_|(with_reducible refine au.aU (fun h =>?_) (fun h =>?_) <;>try simp only[h])) <;>try simp only[aZ,R,simprocAttr])
  all_goals clear R
  all_goals first
   |exact fQ rfl lx (fun n x h=>e8 h) (jy (zt hk12 hg (by simp_all[iY])))
   |exact fQ rfl (wF hi (b := { bs[i] with eW:=x.day }) rfl rfl hnl hnr) (fun n x h=>e8 h) (sB hd hk12 hi hg (by simp_all[iY]) rfl)
theorem aeW{bs:List aR}{i:Nat}(hi:i<bs.length){b:aR}(hno:b.no=(bs[i]).no){z:ah}{nl nr:Nat}(hnl:nl=1000000+2+2*i)(hnr:nr=1000000+3+2*i) :
  ∀ n,aq (cj 1000000 (bs.set i b)) n=true→aj ((nl,.box (ec b (.own nr b.bL.length)))::(nr,.bT 66 6 (b.bL.map enc))::(3,z)::cj 1000000 bs) n=aj (cj 1000000 (bs.set i b)) n:=fun n h=>by
 have:=kv n h;rw[Jm hi b hno];simp only[aj];subst hnl hnr;rw[if_neg (show ¬ n=3 by omega)]
theorem OP(bs:List aR)(x:aw)(d:Nat)(hk:x.kind=4)(hd:(bs.map (·.no)).Nodup)(hlen:∀ b∈bs,b.bL.length≤1000):cC Tryz.prog 175 [.ptr 1000000 [],enc x] (cj 1000000 bs) (iF 1000000 d bs x):=by
 refine cC.bu Tryz.func175 RF Tt Vv (t7 rfl) (t7 rfl) kv (fun hwf W0 D0 E1 =>?_);simp only[AM,LL,bj,zz4];clear hwf;have hk12:¬ (x.kind=1∨x.kind=2):=by omega
 have n3:aj (cj 1000000 bs) 3=none:=jX (by omega);have h0:aj (cj 1000000 bs) 1000000=some (.box (.agg [.mref 1000001])):=jW;have h1:aj (cj 1000000 bs) 1000001=some (.cq (dc bs) (dY 1000000 bs.length)):=ku;rcases pc 1000000 bs x.dW with ⟨hg,hlk⟩ | ⟨i,hi,hg,hno,hlk⟩
 ·have R:=v6 @n3 (v6 @h0 (v6 @h1 (v6 @hlk (v6 @eJ (v6 @gw (v6 @ew (v6 @bl @J)))))))
  repeat' ((first |refine U.aX (by decide +kernel) rfl fun K hK =>?_|refine .flat _ (jb _) rfl ?_|(refine .aQ [0,1,3,4,5,14] hK ?_;clear hK K)|(with_reducible refine .done (hK _ ?_);clear hK K)|refine U.of rfl ?_|(with_reducible refine au.aU (fun h =>?_) (fun h =>?_) <;>try simp only[h])) <;>try simp only[aZ,R,simprocAttr])
  all_goals clear R
  exact fQ rfl lx (fun n x h=>e8 h) (jy (rJ hk12 hg))
 ·have hl:=l9 (B:=1000000) hi;have hr:=lv (B:=1000000) hi;obtain ⟨nl,hnl⟩:∃ nl,nl=1000000+2+2*i:=⟨_,rfl⟩
  obtain ⟨nr,hnr⟩:∃ nr,nr=1000000+3+2*i:=⟨_,rfl⟩
  rw[←hnl] at hl hlk;rw[←hnr] at hl hr;have e1:(nl=3)=False:=by simp;omega
  have e2:(nr=3)=False:=by simp;omega
  have e3:(3=nl)=False:=by simp;omega
  have e4:(nr=nl)=False:=by simp;omega
  have e5:(nl=nr)=False:=by simp;omega
  have e6:(3=nr)=False:=by simp;omega
  have hle:=hlen _ (zy6 hi);have happ:=fun (A:ae) d rest=>nB (α:=aI 6 Int) (A:=A) (d:=d) 66 6 48 nr (l:=(bs[i]).bL.length) (es:=(bs[i]).bL) (ys:=[x.bL]) (rest:=rest) rfl rfl (by simp) (by simp[maxLen];omega) (by simp;omega);have hbs:=oO 6 x.bL rfl;have R:=v6 @n3 (v6 @h0 (v6 @h1 (v6 @hl (v6 @hr (v6 @e1 (v6 @e2 (v6 @e3 (v6 @e4 (v6 @e5 (v6 @e6 (v6 @hlk (v6 @happ (v6 @hbs (v6 @l5 (v6 @eJ (v6 @gw (v6 @ew (v6 @bl @J))))))))))))))))))
  repeat' ((first |refine U.aX (by decide +kernel) rfl fun K hK =>?_|(refine U.tw (gs:=vP) [] [] [0,1,2,3,4,5,6,7,8,9,10,11,12,13] (by decide +kernel) (eT.of (by simp[o7])) fun K hK =>?_;simp only[pC,vP,List.getD_cons_zero,List.getD_cons_succ,R,simprocAttr])|(refine .aQ [0,1,3,4,5,14] hK ?_;clear hK K)|(with_reducible refine .done (hK _ ?_);clear hK K)|refine U.of rfl ?_|(with_reducible refine au.aU (fun h =>?_) (fun h =>?_) <;>try simp only[h])) <;>try simp only[aZ,R,simprocAttr])
  all_goals clear R
  refine fQ rfl (fun n h =>?_) (fun n x h=>e8 h) (sB hd hk12 hi hg (b := { bs[i] with bL:=(bs[i]).bL++[x.bL] }) (by simp[iY,hk]) rfl);rw[←aeW hi (b := { bs[i] with bL:=(bs[i]).bL++[x.bL] }) rfl (z:=.box (enc x)) hnl hnr n h];rfl
def gj(B d:Nat)(bs:List aR)(b:aR):List (Nat×ah):=(B+1,.cq (dc (bs++[b])) (dY B bs.length++[.ptr d []]))::(d,.box (ec b (.nils 6)))::cj B bs
theorem sA{B d:Nat}{bs:List aR}{x:aw}(hk:x.kind=1∨x.kind=2)(hg:dp bs x.dW=none)(hdam:hJ bs x=true):iF B d bs x (.bool true) (gj B d bs (fL x)):=by
 have:ef eD bs x=some (bs++[fL x]):=by simp only[ef,if_pos hk,hg,hdam,eD,and_self,if_true]
 simp only[iF,this,if_pos hk,gj,and_self]
def Jk(B d:Nat)(bs:List aR)(x:aw):cR:=fun r os' =>
 (dp bs x.dW≠none∧r=.bool false∧os'=cj B bs)∨(dp bs x.dW=none∧r=.bool true∧os'=gj B d bs (fL x))
theorem Qy(a b c d e f g:Int):(dR [.int .i64 0,.int .i64 0,.int .i64 0,.int .i64 0,.int .i64 0,.int .i64 0,.int .i64 0,.bool false,.nils 6] [(0,.int .i64 a),(1,.int .i64 b),(2,.int .i64 c),(3,.int .i64 d),(4,.int .i64 e),(5,.int .i64 f),(6,.int .i64 g)]).map I.agg=some (I.agg [.int .i64 a,.int .i64 b,.int .i64 c,.int .i64 d,.int .i64 e,.int .i64 f,.int .i64 g,.bool false,.nils 6]):=by
 simp[dR,I.cd,I.size]
theorem Qz(a b c d e f g:Int):(dR [.agg [.int .i64 0,.int .i64 0,.int .i64 0,.int .i64 0,.int .i64 0,.int .i64 0,.int .i64 0,.bool false,.nils 6]] [(0,.agg [.int .i64 a,.int .i64 b,.int .i64 c,.int .i64 d,.int .i64 e,.int .i64 f,.int .i64 g,.bool false,.nils 6])]).map I.agg=some (ec ⟨a,b,c,d,e,f,g,false,[]⟩ (.nils 6)):=by
 simp[dR,I.cd,I.size,I.sizes];rfl
theorem ae8(b:aR)(s:I):(ec b s).cd=true:=rfl
theorem af2(B d:Nat)(bs:List aR)(x:aw)(hg:dp bs x.dW=none):fP (.i .i64) (.int .i64 x.dW) (.ptr d []) (dc bs) (dY B bs.length)=some (dc (bs++[fL x]),dY B bs.length++[.ptr d []]):=by
 have h2:=J2 u6 x.dW (.ptr d []) rfl (bs.map (·.no)) (dY B bs.length);rw[jx] at h2;unfold dc;rw[h2];have h1:=wj (bs:=bs) (no:=x.dW);cases h:(bs.map (·.no)).findIdx? fun y=>decide (x.dW=y) with
 |none=>simp only[zx6,zz9,zx2];rfl
 |some i=>rw[h] at h1;obtain ⟨hi,g,_⟩:=h1;rw[hg] at g;cases g
theorem mY{B d:Nat}{bs:List aR}{b:aR}{n:Nat} : aq (gj B d bs b) n=(decide (n=d)||aq (cj B bs) n):=by
 by_cases h1:n=B+1
 ·subst h1;have:aq (cj B bs) (B+1)=true:=by simp[aq,ku]
  rw[this];simp[gj,aq,aj]
 ·by_cases h2:n=d
  ·subst h2;simp[gj,aq,aj,h1]
  ·simp[gj,aq,aj,h1,h2]
theorem mZ{B d:Nat}{bs:List aR}{b:aR}{n:Nat}{x:ah}(h:aj (gj B d bs b) n=some x):x.only (aq (gj B d bs b))=true∧x.eH=true:=by
 have cG:∀ m,aq (cj B bs) m=true→aq (gj B d bs b) m=true:=fun m hm=>by rw[mY,hm,Bool.or_true]
 simp only[gj,aj] at h;split at h
 ·cases h;refine ⟨?_,rfl⟩;simp only[ah.only,zz2,kD];refine ⟨fe _ _,xL _ fun i hi=>cG _ (by rw[m3];simp;omega),?_⟩;simp[I.b8,I.only,mY]
 ·split at h
  ·cases h;exact ⟨by simp[ah.only,I.only,I.b8,ec],rfl⟩
  ·obtain ⟨k1,k2⟩:=e8 h;exact ⟨ah.iN cG _ k1,k2⟩
theorem rr(bs:List aR)(x:aw):cC Tryz.prog 173 [.ptr 1000000 [],enc x] (cj 1000000 bs) (Jk 1000000 33 bs x):=by
 refine cC.bu Tryz.func173 RD Tr Vt (t7 rfl) (t7 rfl) kv (fun hwf W0 D0 E1 =>?_);simp only[AK,LJ,bj,zz4];clear hwf;have n3:aj (cj 1000000 bs) 3=none:=jX (by omega);have n33:aj (cj 1000000 bs) 33=none:=jX (by omega);have h0:aj (cj 1000000 bs) 1000000=some (.box (.agg [.mref 1000001])):=jW;have h1:aj (cj 1000000 bs) 1000001=some (.cq (dc bs) (dY 1000000 bs.length)):=ku;rcases pc 1000000 bs x.dW with ⟨hg,hlk⟩ | ⟨i,hi,hg,hno,hlk⟩
 ·have hup:=af2 1000000 33 bs x hg;have R:=v6 @n3 (v6 @n33 (v6 @h0 (v6 @h1 (v6 @hlk (v6 @hup (v6 @Qy (v6 @Qz (v6 @ae8 (v6 @eJ (v6 @gw (v6 @ew (v6 @bl @J))))))))))))
  repeat' ((first |refine U.aX (by decide +kernel) rfl fun K hK =>?_|(refine .aQ [0,1,3,4,12] hK ?_;clear hK K)|(with_reducible refine .done (hK _ ?_);clear hK K)|refine U.of rfl ?_|(with_reducible refine au.aU (fun h =>?_) (fun h =>?_) <;>try simp only[h])) <;>try simp only[aZ,R,simprocAttr])
  all_goals clear R
  refine fQ (os':=gj 1000000 33 bs (fL x)) (b:=true) rfl (fun n h =>?_) (fun n x h=>mZ h) (Or.inr ⟨hg,rfl,rfl⟩);rw[mY] at h;simp only[gj,aj];by_cases e:n=33
  ·subst e;simp;rfl
  ·have:=kv n (by simpa[e] using h);rw[if_neg (show ¬ n=33 by omega),if_neg (show ¬ n=3 by omega),if_neg (show ¬ n=33 by omega)]
 ·have R:=v6 @n3 (v6 @h0 (v6 @h1 (v6 @hlk (v6 @eJ (v6 @gw (v6 @ew (v6 @bl @J)))))))
  repeat' ((first |refine U.aX (by decide +kernel) rfl fun K hK =>?_|(refine .aQ [0,1,3,4,12] hK ?_;clear hK K)|(with_reducible refine .done (hK _ ?_);clear hK K)|refine U.of rfl ?_|(with_reducible refine au.aU (fun h =>?_) (fun h =>?_) <;>try simp only[h])) <;>try simp only[aZ,R,simprocAttr])
  all_goals clear R
  exact fQ (b:=false) rfl lx (fun n x h=>e8 h) (Or.inl ⟨by rw[hg];simp,rfl,rfl⟩)
theorem bh.wC{K:ae→Prop}{f:FuncId}{x:aw}{avs:List I}{a1 a2:Option (List I)}{dst:Option Nat}{rest:List az}{ts:List (Nat×I)}{z:ah}{bs:List aR}(hc:cC Tryz.prog f [.ptr 1000000 [],enc x] (cj 1000000 bs) (Jk 1000000 33 bs x))(hav:avs=[.ptr 1000000 [],enc x])
  (h1:dp bs x.dW≠none→bh Tryz.prog ig false K (aA rest ((ar ts (cj 1000000 bs++((3,z)::cj 1000000 bs))).aK dst (.bool false))))
  (h2:dp bs x.dW=none→bh Tryz.prog ig false K (aA rest ((ar ts (gj 1000000 33 bs (fL x)++((3,z)::cj 1000000 bs))).aK dst (.bool true)))) :
  bh Tryz.prog ig false K (.call f avs a1 a2 dst rest (ar ts ((3,z)::cj 1000000 bs))):=by
 subst hav;refine .bU false [] (cj 1000000 bs) [.ptr 1000000 [],enc x] _ rfl hc ⟨fun m y hy =>?_,fun m m' _ _ h=>h⟩ ⟨.inl ⟨?_,?_,rfl⟩,.inl ⟨(jR _ _).symm,bA _ _,dz _⟩,trivial⟩ ?_ ?_
 ·have hm:=kv (bs:=bs) m (by simp[aq,hy]);rw[ah.lH (ρ:=bD []) (fun n=>rfl)];refine ⟨?_,e8 hy⟩
  show aj ((3,z)::cj 1000000 bs) m=some y
  have h3:¬ m=3:=by omega
  simp only[aj,if_neg h3];exact hy
 ·simp only[I.aO,bD]
 ·simp only[I.only];simp[aq,jW]
 ·rintro r os' (⟨_,rfl,rfl⟩ | ⟨_,rfl,rfl⟩)
  ·exact ⟨fun m y hy=>⟨(e8 hy).1,(e8 hy).2,fun h=>by cases h⟩,fun m m' _ _ h=>h,fun m hm=>hm,(fun m a b=>by rw[a] at b;cases b),rfl,(fun h=>by cases h)⟩
  ·refine ⟨fun m y hy=>⟨(mZ hy).1,(mZ hy).2,fun h=>by cases h⟩,fun m m' _ _ h=>h,fun m hm=>by rw[mY,hm,Bool.or_true],fun m a b =>?_,rfl,fun h=>by cases h⟩;rw[mY,b,Bool.or_false,decide_eq_true_eq] at a;subst a;have h3:¬ (33:Nat)=3:=by omega
   refine ⟨?_,by simp[bD]⟩
   show aj ((3,z)::cj 1000000 bs) 33=none
   simp only[aj,if_neg h3];exact jX (by omega)
 ·rintro r os' (⟨hg,rfl,rfl⟩ | ⟨hg,rfl,rfl⟩)
  ·rw[tx];exact h1 hg
  ·rw[tx];exact h2 hg
theorem oI{os os0:List (Nat×ah)} : ∀ n,aq os n=true→aj (os++os0) n=aj os n:=fun n h=>by
 rw[jY];cases hx:aj os n with
 |none=>simp[aq,hx] at h
 |some y=>rfl
theorem ON(bs:List aR)(x:aw)(hk:x.kind=1):cC Tryz.prog 172 [.ptr 1000000 [],enc x] (cj 1000000 bs) (iF 1000000 33 bs x):=by
 refine cC.bu Tryz.func172 RC Tq Vs (t7 rfl) (t7 rfl) kv (fun hwf W0 D0 E1 =>?_);simp only[AJ,LI,bj,zz4];clear hwf;have n3:aj (cj 1000000 bs) 3=none:=jX (by omega);have h0:aj (cj 1000000 bs) 1000000=some (.box (.agg [.mref 1000001])):=jW;have h1:aj (cj 1000000 bs) 1000001=some (.cq (dc bs) (dY 1000000 bs.length)):=ku;by_cases hd0:x.eV≤0
 ·have hc:decide (0<x.eV)=false:=by simp;omega
  have hdam:hJ bs x=true:=by simp[hJ,hd0]
  have R:=v6 @n3 (v6 @h0 (v6 @h1 (v6 @hc (v6 @eJ (v6 @gw (v6 @ew (v6 @bl @J)))))))
  repeat' ((first |(with_reducible refine .guard (fun hb =>?_) (fun hb =>?_) <;>try simp only[hb])|refine U.aX (by decide +kernel) rfl fun K hK =>?_|(refine .aQ [0,1,3,4,5,8,41] hK ?_;clear hK K)|(with_reducible refine .done (hK _ ?_);clear hK K)|refine U.of rfl ?_|(with_reducible refine au.aU (fun h =>?_) (fun h =>?_) <;>try simp only[h])) <;>try simp only[aZ,R,simprocAttr])
  all_goals clear R
  refine bh.wC (rr bs x) rfl (fun hg =>?_) (fun hg =>?_)
  ·try simp only[J,simprocAttr]
   refine .done (hK _ ?_);clear hK K;refine U.ret ?_;simp only[fD];exact fQ (b:=false) rfl oI (fun n x h=>e8 h) (jy (by simp[ef,hk,hg]))
  ·try simp only[J,simprocAttr]
   refine .done (hK _ ?_);clear hK K;refine U.ret ?_;simp only[fD];exact fQ (b:=true) rfl oI (fun n x h=>mZ h) (sA (.inl hk) hg hdam)
 have hc:decide (0<x.eV)=true:=by simp;omega
 rcases pc 1000000 bs x.eV with ⟨hg,hlk⟩ | ⟨i,hi,hg,hno,hlk⟩
 ·have hdam:hJ bs x=false:=by simp[hJ,hg];omega
  have R:=v6 @n3 (v6 @h0 (v6 @h1 (v6 @hc (v6 @hlk (v6 @eJ (v6 @gw (v6 @ew (v6 @bl @J))))))))
  repeat' ((first |(with_reducible refine .guard (fun hb =>?_) (fun hb =>?_) <;>try simp only[hb])|refine U.aX (by decide +kernel) rfl fun K hK =>?_|(refine .aQ [0,1,3,4,5,8,41] hK ?_;clear hK K)|(with_reducible refine .done (hK _ ?_);clear hK K)|refine U.of rfl ?_|(with_reducible refine au.aU (fun h =>?_) (fun h =>?_) <;>try simp only[h])) <;>try simp only[aZ,R,simprocAttr])
  all_goals clear R
  exact fQ (b:=false) rfl lx (fun n x h=>e8 h) (jy (by simp[ef,hk,hdam]))
 ·have hl:=l9 (B:=1000000) hi;have hr:=lv (B:=1000000) hi;obtain ⟨nl,hnl⟩:∃ nl,nl=1000000+2+2*i:=⟨_,rfl⟩
  obtain ⟨nr,hnr⟩:∃ nr,nr=1000000+3+2*i:=⟨_,rfl⟩
  rw[←hnl] at hl hlk;rw[←hnr] at hl hr;have e1:(nl=3)=False:=by simp;omega
  have e2:(nr=3)=False:=by simp;omega
  cases hs:(bs[i]).fg != x.fg with
  |true =>
   have hdam:hJ bs x=false:=by simp at hs;simp[hJ,hg,hs];omega
   have R:=v6 @n3 (v6 @h0 (v6 @h1 (v6 @hl (v6 @hr (v6 @e1 (v6 @e2 (v6 @hc (v6 @hlk (v6 @hs (v6 @l5 (v6 @eJ (v6 @gw (v6 @ew (v6 @bl @J))))))))))))))
   repeat' ((first |(with_reducible refine .guard (fun hb =>?_) (fun hb =>?_) <;>try simp only[hb])|refine U.aX (by decide +kernel) rfl fun K hK =>?_|refine .flat _ (jb _) rfl ?_|(refine .aQ [0,1,3,4,5,8,41] hK ?_;clear hK K)|(with_reducible refine .done (hK _ ?_);clear hK K)|refine U.of rfl ?_|(with_reducible refine au.aU (fun h =>?_) (fun h =>?_) <;>try simp only[h])) <;>try simp only[aZ,R,simprocAttr])
   all_goals clear R
   exact fQ (b:=false) rfl lx (fun n x h=>e8 h) (jy (by simp[ef,hk,hdam]))
  |false =>
   cases hdd:decide (0≤(bs[i]).eW) with
   |false =>
    have hdam:hJ bs x=true:=by simp at hs hdd;simp[hJ,hg,hs];omega
    have R:=v6 @n3 (v6 @h0 (v6 @h1 (v6 @hl (v6 @hr (v6 @e1 (v6 @e2 (v6 @hc (v6 @hlk (v6 @hs (v6 @hdd (v6 @l5 (v6 @eJ (v6 @gw (v6 @ew (v6 @bl @J)))))))))))))))
    repeat' ((first |(with_reducible refine .guard (fun hb =>?_) (fun hb =>?_) <;>try simp only[hb])|refine U.aX (by decide +kernel) rfl fun K hK =>?_|refine .flat _ (jb _) rfl ?_|(refine .aQ [0,1,3,4,5,8,41] hK ?_;clear hK K)|(with_reducible refine .done (hK _ ?_);clear hK K)|refine U.of rfl ?_|(with_reducible refine au.aU (fun h =>?_) (fun h =>?_) <;>try simp only[h])) <;>try simp only[aZ,R,simprocAttr])
    all_goals clear R
    refine bh.wC (rr bs x) rfl (fun hg =>?_) (fun hg =>?_)
    ·try simp only[J,simprocAttr]
     refine .done (hK _ ?_);clear hK K;refine U.ret ?_;simp only[fD];exact fQ (b:=false) rfl oI (fun n x h=>e8 h) (jy (by simp[ef,hk,hg]))
    ·try simp only[J,simprocAttr]
     refine .done (hK _ ?_);clear hK K;refine U.ret ?_;simp only[fD];exact fQ (b:=true) rfl oI (fun n x h=>mZ h) (sA (.inl hk) hg hdam)
   |true =>
    cases hdy:decide ((bs[i]).eW<x.day) with
    |true =>
     have hdam:hJ bs x=false:=by simp at hs hdd hdy;simp[hJ,hg,hs];omega
     have R:=v6 @n3 (v6 @h0 (v6 @h1 (v6 @hl (v6 @hr (v6 @e1 (v6 @e2 (v6 @hc (v6 @hlk (v6 @hs (v6 @hdd (v6 @hdy (v6 @l5 (v6 @eJ (v6 @gw (v6 @ew (v6 @bl @J))))))))))))))))
     repeat' ((first |(with_reducible refine .guard (fun hb =>?_) (fun hb =>?_) <;>try simp only[hb])|refine U.aX (by decide +kernel) rfl fun K hK =>?_|refine .flat _ (jb _) rfl ?_|(refine .aQ [0,1,3,4,5,8,41] hK ?_;clear hK K)|(with_reducible refine .done (hK _ ?_);clear hK K)|refine U.of rfl ?_|(with_reducible refine au.aU (fun h =>?_) (fun h =>?_) <;>try simp only[h])) <;>try simp only[aZ,R,simprocAttr])
     all_goals clear R
     exact fQ (b:=false) rfl lx (fun n x h=>e8 h) (jy (by simp[ef,hk,hdam]))
    |false =>
     have hdam:hJ bs x=true:=by simp at hs hdd hdy;simp[hJ,hg,hs];omega
     have R:=v6 @n3 (v6 @h0 (v6 @h1 (v6 @hl (v6 @hr (v6 @e1 (v6 @e2 (v6 @hc (v6 @hlk (v6 @hs (v6 @hdd (v6 @hdy (v6 @l5 (v6 @eJ (v6 @gw (v6 @ew (v6 @bl @J))))))))))))))))
     repeat' ((first |(with_reducible refine .guard (fun hb =>?_) (fun hb =>?_) <;>try simp only[hb])|refine U.aX (by decide +kernel) rfl fun K hK =>?_|refine .flat _ (jb _) rfl ?_|(refine .aQ [0,1,3,4,5,8,41] hK ?_;clear hK K)|(with_reducible refine .done (hK _ ?_);clear hK K)|refine U.of rfl ?_|(with_reducible refine au.aU (fun h =>?_) (fun h =>?_) <;>try simp only[h])) <;>try simp only[aZ,R,simprocAttr])
     all_goals clear R
     refine bh.wC (rr bs x) rfl (fun hg =>?_) (fun hg =>?_)
     ·try simp only[J,simprocAttr]
      refine .done (hK _ ?_);clear hK K;refine U.ret ?_;simp only[fD];exact fQ (b:=false) rfl oI (fun n x h=>e8 h) (jy (by simp[ef,hk,hg]))
     ·try simp only[J,simprocAttr]
      refine .done (hK _ ?_);clear hK K;refine U.ret ?_;simp only[fD];exact fQ (b:=true) rfl oI (fun n x h=>mZ h) (sA (.inl hk) hg hdam)
def kl:I:=.cL [.int .i64 1,.int .i64 2,.int .i64 3,.int .i64 4,.int .i64 5,.int .i64 6] [.func 172 [],.func 173 [],.func 174 [],.func 175 [],.func 176 [],.func 177 []]
theorem afV:fP (.i .i64) (.int .i64 1) (.func 172 []) [] []=some ([.int .i64 1],[.func 172 []]):=by simp[fP,eM,cg,I.cd]
theorem afW:fP (.i .i64) (.int .i64 2) (.func 173 []) [.int .i64 1] [.func 172 []]=some ([.int .i64 1,.int .i64 2],[.func 172 [],.func 173 []]):=by simp[fP,eM,cg,I.cd]
theorem afX:fP (.i .i64) (.int .i64 3) (.func 174 []) [.int .i64 1,.int .i64 2] [.func 172 [],.func 173 []]=some ([.int .i64 1,.int .i64 2,.int .i64 3],[.func 172 [],.func 173 [],.func 174 []]):=by simp[fP,eM,cg,I.cd]
theorem afY:fP (.i .i64) (.int .i64 4) (.func 175 []) [.int .i64 1,.int .i64 2,.int .i64 3] [.func 172 [],.func 173 [],.func 174 []]=some ([.int .i64 1,.int .i64 2,.int .i64 3,.int .i64 4],[.func 172 [],.func 173 [],.func 174 [],.func 175 []]):=by simp[fP,eM,cg,I.cd]
theorem afZ:fP (.i .i64) (.int .i64 5) (.func 176 []) [.int .i64 1,.int .i64 2,.int .i64 3,.int .i64 4] [.func 172 [],.func 173 [],.func 174 [],.func 175 []]=some ([.int .i64 1,.int .i64 2,.int .i64 3,.int .i64 4,.int .i64 5],[.func 172 [],.func 173 [],.func 174 [],.func 175 [],.func 176 []]):=by simp[fP,eM,cg,I.cd]
theorem af0:fP (.i .i64) (.int .i64 6) (.func 177 []) [.int .i64 1,.int .i64 2,.int .i64 3,.int .i64 4,.int .i64 5] [.func 172 [],.func 173 [],.func 174 [],.func 175 [],.func 176 []]=some ([.int .i64 1,.int .i64 2,.int .i64 3,.int .i64 4,.int .i64 5,.int .i64 6],[.func 172 [],.func 173 [],.func 174 [],.func 175 [],.func 176 [],.func 177 []]):=by simp[fP,eM,cg,I.cd]
theorem yR:aC Tryz.prog 139 [] kl:=by
 refine aC.bu Tryz.func139 Rf S1 U4 (t7 rfl) (fun hwf W0 D0 E1 =>?_);simp only[Aj,Lj,bj];refine .ak (by decide +kernel) fun K hK =>?_;simp only[En,J,simprocAttr];refine .done (hK _ ?_);clear hK K;refine .ak (by decide +kernel) fun K hK =>?_;simp only[Eo,J,simprocAttr]
 try simp only[ew,afV,afW,afX,afY,afZ,af0,J,simprocAttr]
 refine .done (hK _ ?_);clear hK K;refine U.ret ?_;simp only[J,simprocAttr];simp[kl,bg,ar,ct,dS,fC,I.bW,I.bp,kY,np];rfl
def dP(bs:List aR):List (Nat×ah):=(43,.box (.agg [.mref 41]))::(41,.cq (dc bs) (dY 2000 bs.length))::eI 2000 0 bs
def mX(bs:List aR)(b:aR):List (Nat×ah):=(41,.cq (dc (bs++[b])) (dY 2000 bs.length++[.ptr (2002+2*bs.length) []]))::(2002+2*bs.length,.box (ec b (.nils 6)))::dP bs
def ga(n:Nat):List (Nat×Nat):=(33,2002+2*n)::(1000000,43)::(1000001,41)::(List.range' 0 200).map fun j=>(1000002+j,2002+j)
theorem MY(m:Nat):∀ k a,bD ((List.range' a k).map fun j=>(1000002+j,2002+j)) m=if 1000002+a≤m∧m<1000002+a+k then m-998000 else m
 |0,a=>by
  rw[if_neg (by omega)];rfl
 |k+1,a=>by
  rw[List.range'_succ,zz9,bD,MY m k (a+1)];by_cases h:m=1000002+a
  ·rw[if_pos h,if_pos (by omega)];omega
  ·rw[if_neg h];by_cases h2:1000002+(a+1)≤m∧m<1000002+(a+1)+k
   ·rw[if_pos h2,if_pos (by omega)]
   ·rw[if_neg h2,if_neg (by omega)]
theorem lJ(n m:Nat):bD (ga n) m=if m=33 then 2002+2*n else if m=1000000 then 43 else if m=1000001 then 41 else if 1000002≤m∧m<1000202 then m-998000 else m:=by
 simp only[ga,bD,MY]
theorem MW{n i:Nat}(h:i≤80):bD (ga n) (1000000+2+2*i)=2000+2+2*i:=by
 rw[lJ,if_neg (by omega),if_neg (by omega),if_neg (by omega),if_pos (by omega)];omega
theorem ah3{n i:Nat}(h:i≤80):bD (ga n) (1000000+3+2*i)=2000+3+2*i:=by
 rw[lJ,if_neg (by omega),if_neg (by omega),if_neg (by omega),if_pos (by omega)];omega
theorem MT(n:Nat):bD (ga n) 1000000=43:=by rw[lJ];rfl
theorem MU(n:Nat):bD (ga n) 1000001=41:=by rw[lJ];rfl
theorem MV(n:Nat):bD (ga n) 33=2002+2*n:=by rw[lJ];rfl
theorem x3(ρ:List (Nat×Nat))(k:Nat)(v:ah)(os:List (Nat×ah)):dJ ρ ((k,v)::os)=(bD ρ k,v.aO (bD ρ))::dJ ρ os:=rfl
theorem MN(n:Nat):∀ (bs:List aR) (i:Nat),i+bs.length≤80→dJ (ga n) (eI 1000000 i bs)=eI 2000 i bs
 | [],_,_=>rfl
 |b::bs,i,h=>by
  simp only[zv5] at h;have ih:=MN n bs (i+1) (by omega);simp only[eI,x3,ih,MW (n:=n) (i:=i) (by omega),ah3 (n:=n) (i:=i) (by omega),ah.aO,iR,ec,I.aO,I.cP]
theorem MP(n:Nat){k:Nat}(h:k≤80):I.cP (bD (ga n)) (dY 1000000 k)=dY 2000 k:=by
 simp only[dY,od,List.map_map];refine List.map_congr_left fun i hi =>?_;have:=zx4.1 hi;simp only[Function.comp,I.aO,MW (n:=n) (i:=i) (by omega)]
theorem MO(ρ:Nat→Nat)(bs:List aR):I.cP ρ (dc bs)=dc bs:=by
 simp only[dc,iR]
theorem tz(n:Nat){bs:List aR}(h:bs.length≤80):dJ (ga n) (cj 1000000 bs)=dP bs:=by
 have h1:=MN n bs 0 (by omega);simp only[cj,dP,x3,h1,ah.aO,I.aO,I.cP,MO,MP n h,MT,MU,Nat.reduceAdd]
theorem ahR(ρ:Nat→Nat)(xs ys:List I):I.cP ρ (xs++ys)=I.cP ρ xs++I.cP ρ ys:=by simp only[od,zx6]
theorem ahP{bs:List aR}{b:aR}(h:bs.length≤80):dJ (ga bs.length) (gj 1000000 33 bs b)=mX bs b:=by
 have h1:=tz bs.length h;simp only[gj,mX,x3,h1,ah.aO,I.aO,I.cP,MO,ahR,MP bs.length h,MU,MV,ec,Nat.reduceAdd]
def sZ(n m:Nat):Prop:=m=33∨(1000000≤m∧m<1000002+2*n)
theorem tD{n k m m':Nat}(hk:k≤80)(hm:1000000≤m∧m<1000002+2*k)(hm':1000000≤m'∧m'<1000002+2*k)(h:bD (ga n) m=bD (ga n) m'):m=m':=by
 rw[lJ,lJ] at h;rw[if_neg (by omega),if_neg (show ¬ m'=33 by omega)] at h
 (repeat' split at h) <;>omega
theorem ah2{n m m':Nat}(hk:n≤80)(hm:sZ n m)(hm':sZ n m')(h:bD (ga n) m=bD (ga n) m'):m=m':=by
 simp only[sZ] at hm hm';rw[lJ,lJ] at h
 (repeat' split at h) <;>omega
theorem afF{ρ:List (Nat×Nat)}{os:List (Nat×ah)}{m:Nat}{y:ah}(inj:∀ m',aq os m'=true→bD ρ m'=bD ρ m→m'=m)(h:aj os m=some y):aj (dJ ρ os) (bD ρ m)=some (y.aO (bD ρ)):=by
 have h1:=qA ρ os [] (bD ρ m);rw[zw1] at h1;rw[h1];cases hp:pre ρ os (bD ρ m) with
 |none=>exact absurd rfl (xS hp (by simp[aq,h]))
 |some m' =>
  obtain ⟨k1,k2⟩:=lG hp;have:=inj m' k1 k2;subst this;simp only[h,zy3]
theorem wD{bs:List aR}{n:Nat} : aq (dP bs) n=decide (n=43∨n=41∨(2002≤n∧n<2002+2*bs.length)):=by
 have h2:aq (eI 2000 0 bs) n=decide (2002≤n∧n<2002+2*bs.length):=by
  by_cases h1:n<2002
  ·simp only[aq,sI 2000 bs 0 n (by omega)];simp;omega
  by_cases h3:2002+2*bs.length≤n
  ·simp only[aq,sG 2000 bs 0 n (by omega)];simp;omega
  ·rcases sW 2000 n bs.length with h | h | h | ⟨k,hk,h⟩ | ⟨k,hk,h⟩ | h
   ·omega
   ·omega
   ·omega
   ·have:=sH 2000 bs 0 k hk;rw[zz4] at this;rw[h];simp only[aq,this];simp;omega
   ·have:=sJ 2000 bs 0 k hk;rw[zz4] at this;rw[h];simp only[aq,this];simp;omega
   ·omega
 simp only[aq,dP,aj] at h2 ⊢;by_cases h3:n=43
 ·simp[h3]
 by_cases h4:n=41
 ·simp[h4]
 simp only[h3,h4,if_false,h2,false_or]
theorem cC.post{P:Program}{f:FuncId}{args:List I}{os:List (Nat×ah)}{post post':cR}(h:cC P f args os post)(hp:∀ r os',post r os'→post' r os'):cC P f args os post' :=
 ⟨h.1,fun w D E vs hs hD ho hv=>(h.2 w D E vs hs hD ho hv).mono fun _ _ ⟨v,D',E',r,os',k1,k2,k⟩=>⟨v,D',E',r,os',k1,hp _ _ k2,k⟩⟩
def mS:List I:=[.int .i64 1,.int .i64 2,.int .i64 3,.int .i64 4,.int .i64 5,.int .i64 6]
def mT:List I:=[.func 172 [],.func 173 [],.func 174 [],.func 175 [],.func 176 [],.func 177 []]
theorem afc{x:aw}(h:j6 x=true):0≤x.kind∧x.kind≤6∧(x.kind=2→x.eV=0):=by
 simp only[j6,zz2,decide_eq_true_eq] at h;obtain ⟨h1,h2,_⟩:=h;have h3:x.kind=2→x.eV=0:=fun hk=>by rw[h2];simp[nC,hk]
 simp only[oW] at h1;refine ⟨?_,?_,h3⟩
 all_goals
  split at h1
  ·omega
  ·simp only[zz2] at h1;obtain ⟨-,h1⟩:=h1
   repeat' split at h1
   all_goals first | omega | (simp only[decide_eq_true_eq] at h1;omega)
theorem uT{bs:List aR}{x:aw}(hok:j6 x=true)(hk0:x.kind≠0)(hd:(bs.map (·.no)).Nodup)(hlen:∀ b∈bs,b.bL.length≤1000) :
  ∃ f,fW (.i .i64) .da (.int .i64 x.kind) mS mT=some (.func f [],true)∧[172,173,174,175,176,177].contains f=true∧cC Tryz.prog f [.ptr 1000000 [],enc x] (cj 1000000 bs) (iF 1000000 33 bs x):=by
 obtain ⟨h1,h2,h3⟩:=afc hok;have h4:x.kind=1∨x.kind=2∨x.kind=3∨x.kind=4∨x.kind=5∨x.kind=6:=by omega
 rcases h4 with h | h | h | h | h | h
 ·exact ⟨172,by rw[h];simp[fW,eM,cg,mS,mT],rfl,ON bs x h⟩
 ·refine ⟨173,by rw[h];simp[fW,eM,cg,mS,mT],rfl,cC.post (rr bs x) ?_⟩;have hdam:hJ bs x=true:=by simp[hJ,h3 h]
  rintro r os' (⟨k1,rfl,rfl⟩ | ⟨k1,rfl,rfl⟩)
  ·exact jy (by simp[ef,h,k1])
  ·exact sA (.inr h) k1 hdam
 ·exact ⟨174,by rw[h];simp[fW,eM,cg,mS,mT],rfl,OO bs x 33 h hd⟩
 ·exact ⟨175,by rw[h];simp[fW,eM,cg,mS,mT],rfl,OP bs x 33 h hd hlen⟩
 ·exact ⟨176,by rw[h];simp[fW,eM,cg,mS,mT],rfl,OQ bs x 33 h hd⟩
 ·exact ⟨177,by rw[h];simp[fW,eM,cg,mS,mT],rfl,OR bs x 33 h hd⟩
theorem uo{bs bs':List aR}{x:aw}(hk:¬ (x.kind=1∨x.kind=2))(h:ef eD bs x=some bs'):bs'.length=bs.length:=by
 simp only[ef,if_neg hk] at h;split at h
 ·cases h
 ·simp only[zz0] at h;obtain ⟨b',_,rfl⟩:=h;simp[lM]
theorem cB.uT{hs:List FuncId}{K:ae→Prop}{f:FuncId}{x:aw}{avs:List I}{a1 a2:Option (List I)}{dst:Option Nat}{rest:List az}{ts:List (Nat×I)}{z y:ah}{bs:List aR}(hlen:bs.length≤60)(hf:hs.contains f=true)
  (hc:cC Tryz.prog f [.ptr 1000000 [],enc x] (cj 1000000 bs) (iF 1000000 33 bs x)) (hav:avs=[.ptr 43 [],enc x])
  (h1:ef eD bs x=none→cB Tryz.prog hs K (aA rest ((ar ts (dP bs++((900,z)::(dP bs++[(3,y)])))).aK dst (.bool false))))
  (h2:∀ bs',ef eD bs x=some bs'→¬ (x.kind=1∨x.kind=2)→cB Tryz.prog hs K (aA rest ((ar ts (dP bs'++((900,z)::(dP bs++[(3,y)])))).aK dst (.bool true))))
  (h3:ef eD bs x=some (bs++[fL x])→cB Tryz.prog hs K (aA rest ((ar ts (mX bs (fL x)++((900,z)::(dP bs++[(3,y)])))).aK dst (.bool true)))) :
  cB Tryz.prog hs K (.call f avs a1 a2 dst rest (ar ts ((900,z)::(dP bs++[(3,y)])))):=by
 subst hav;have nm:∀ {bs:List aR} {m},aq (cj 1000000 bs) m=true→1000000≤m∧m<1000002+2*bs.length:=fun {bs m} h=>by
  rw[m3] at h;simpa using h
 have hlow:∀ {bs':List aR},bs'.length≤60→∀ {m y},aj (cj 1000000 bs') m=some y→aj (dP bs') (bD (ga bs.length) m)=some (y.aO (bD (ga bs.length))):=fun {bs'} hl {m y} hy=>by
  rw[←tz bs.length (bs:=bs') (by omega)];exact afF (fun m' hm' he=>tD (by omega) (nm hm') (nm (by simp[aq,hy])) he) hy
 refine .xq false (ga bs.length) (cj 1000000 bs) [.ptr 1000000 [],enc x] _ hf hc ⟨fun m y' hy =>?_,fun m m' h h' e=>tD (n:=bs.length) (by omega) (nm h) (nm h') e⟩ ⟨.inl ⟨?_,?_,rfl⟩,.inl ⟨(jR _ _).symm,bA _ _,dz _⟩,trivial⟩ ?_ ?_
 ·have hm:=nm (bs:=bs) (m:=m) (by simp[aq,hy]);refine ⟨?_,e8 hy⟩;have h9:bD (ga bs.length) m≠900:=fun e=>by
   rw[lJ] at e
   (repeat' split at e) <;>omega
  simp only[aj,if_neg h9,jY,hlow hlen hy]
 ·simp only[I.aO,MT]
 ·simp only[I.only];simp[aq,jW]
 ·intro r os' hp;simp only[iF] at hp;split at hp
  ·obtain ⟨rfl,rfl⟩:=hp;exact ⟨fun m y hy=>⟨(e8 hy).1,(e8 hy).2,fun h=>by cases h⟩,fun m m' h h' e=>tD (n:=bs.length) (k:=bs.length) (by omega) (nm h) (nm h') e,fun m hm=>hm,(fun m a b=>by rw[a] at b;cases b),rfl,(fun h=>by cases h)⟩
  ·rename_i bs' hb;obtain ⟨rfl,rfl⟩:=hp;split
   ·rename_i hk;have hbs:bs'=bs++[fL x]:=by
     simp only[ef,if_pos hk] at hb;split at hb
     ·simpa[eD] using hb.symm
     ·cases hb
    subst hbs;have hN:∀ {m},aq (gj 1000000 33 bs (fL x)) m=true→sZ bs.length m:=fun {m} h=>by
     rw[mY] at h;simp only[Bool.or_eq_true,decide_eq_true_eq] at h;rcases h with h | h
     ·exact .inl h
     ·exact .inr (nm h)
    refine ⟨fun m y hy=>⟨(mZ hy).1,(mZ hy).2,fun h=>by cases h⟩,fun m m' h h' e=>ah2 (by omega) (hN h) (hN h') e,fun m hm =>?_,fun m a b =>?_,rfl,fun h=>by cases h⟩
    ·show aq (gj 1000000 33 bs (fL x)) m=true
     rw[mY,hm,Bool.or_true]
    ·have a':aq (gj 1000000 33 bs (fL x)) m=true:=a;rw[mY,b,Bool.or_false,decide_eq_true_eq] at a';subst a';rw[MV];refine ⟨?_,by omega⟩;have h9:¬ 2002+2*bs.length=900:=by omega
     have h3:¬ 2002+2*bs.length=3:=by omega
     have hno:aj (dP bs) (2002+2*bs.length)=none:=by
      have:=wD (bs:=bs) (n:=2002+2*bs.length);rw[decide_eq_false (by omega)] at this;simpa[aq] using this
     simp only[aj,if_neg h9,jY,hno,if_neg h3]
   ·rename_i hk;have hl:=uo hk hb;refine ⟨fun m y hy=>⟨(e8 hy).1,(e8 hy).2,fun h=>by cases h⟩,fun m m' h h' e=>tD (n:=bs.length) (k:=bs'.length) (by omega) (nm h) (nm h') e,fun m hm =>?_,fun m a b =>?_,rfl,fun h=>by cases h⟩
    ·rw[m3] at hm ⊢;rw[hl];exact hm
    ·rw[m3] at a b;rw[hl] at a;rw[a] at b;cases b
 ·intro r os' hp;simp only[iF] at hp;split at hp
  ·rename_i hb;obtain ⟨rfl,rfl⟩:=hp;rw[tz bs.length (by omega)];exact h1 hb
  ·rename_i bs' hb;obtain ⟨rfl,rfl⟩:=hp;split
   ·rename_i hk;have hbs:bs'=bs++[fL x]:=by
     simp only[ef,if_pos hk] at hb;split at hb
     ·simpa[eD] using hb.symm
     ·cases hb
    subst hbs;have e:dJ (ga bs.length) ((1000000+1,ah.cq (dc (bs++[fL x])) (dY 1000000 bs.length++[.ptr 33 []]))::(33,.box (ec (fL x) (.nils 6)))::cj 1000000 bs)=mX bs (fL x):=ahP (by omega);rw[e];exact h3 hb
   ·rename_i hk;have hl:=uo hk hb;rw[tz bs.length (by omega)];exact h2 bs' hb hk
def uj(a b c d e f:Int):aI 6 Int:=⟨[a,b,c,d,e,f],rfl⟩
def a5(a b c d e:Int):aI 5 Int:=⟨[a,b,c,d,e],rfl⟩
theorem Cn(a b c d e:Int):I.agg [.int .i64 a,.int .i64 b,.int .i64 c,.int .i64 d,.int .i64 e]=enc (a5 a b c d e):=rfl
theorem Co(a b c d e f:Int):I.agg [.int .i64 a,.int .i64 b,.int .i64 c,.int .i64 d,.int .i64 e,.int .i64 f]=enc (uj a b c d e f):=rfl
theorem oj{zs:List I}{i:Nat}{v z:I}{rest:List (Nat×I)}(h:zs[i]?=some z)(h1:v.cd=true)(h2:v.size=z.size):dR zs ((i,v)::rest)=dR (zs.set i v) rest:=by
 simp only[dR,h];rw[if_pos ⟨h1,h2⟩]
theorem Qv(o:Int)(m:aI 6 Int):dR [.int .i64 0,enc (uj 0 0 0 0 0 0)] [(0,.int .i64 o),(1,enc m)]=some [.int .i64 o,enc m]:=by
 have h2:((enc m:I).cd=true∧(enc m:I).size=(enc (uj 0 0 0 0 0 0)).size):=⟨dz _,by rw[fy,fy]⟩
 have h1:((I.int .i64 o).cd=true∧(I.int .i64 o).size=(I.int .i64 0).size):=⟨rfl,rfl⟩
 rw[oj rfl h1.1 h1.2,oj rfl h2.1 h2.2];rfl
theorem XK(o:Int)(m:aI 6 Int):I.agg [.int .i64 o,enc m]=enc (⟨o,m⟩:bZ):=rfl
theorem qd(w:aI 5 Int)(n:Int)(l:List bZ):I.agg [enc w,.int .i64 n,enc l]=enc (⟨w,n,l⟩:bQ):=rfl
theorem B1(a b:Item):decide (kX a b<0)=before a b:=by
 simp only[kX,lE,jf,before]
 repeat' split
 all_goals simp_all
 all_goals omega
theorem UB(a b:Item):(kX a b==0)=decide (a=b):=by
 rw[Bool.eq_iff_iff,beq_iff_eq,decide_eq_true_eq,Item.CG];simp only[kX,lE,jf]
 repeat' split
 all_goals (simp_all <;>try omega)
theorem uw{a b c:Item}(h:before a b=true)(k:before b c=true):before a c=true:=by
 simp only[before,Bool.or_eq_true,decide_eq_true_eq,zz2] at *;omega
theorem zE(a:Item):before a a=false:=by simp[before]
theorem B3(a b:Item):decide (0≤kX a b) = !before a b:=by
 rw[←B1];by_cases h:kX a b<0
 ·have:¬ 0≤kX a b:=by omega
  simp[h,this]
 ·have:0≤kX a b:=by omega
  simp[h,this]
theorem iC{l:List aw}{i:Nat}(h:i<l.length):l[i]=ab l i:=by simp[ab,h]
theorem kz{l:List aw}{i:Nat}(h:i<l.length)(A:ae):gP A 17 (i:Int) (enc l)=some (.ref (enc (ab l i))):=by
 rw[fJ 17 h rfl,iC h]
theorem gI{i n:Nat}(h:i<n):decide ((i:Int)<(n:Int))=true:=by simp;omega
theorem ib{i n:Nat}(h:¬ i<n):decide ((i:Int)<(n:Int))=false:=by simp;omega
theorem rj{n:Nat}(h:n≤9223372036854775807):IntKind.i64.wrap (n:Int)=(n:Int):=cA _ (by omega) (by omega)
theorem gb{i:Nat}(h:i<9223372036854775807):IntKind.i64.wrap ((i:Int)+1)=((i+1:Nat):Int):=by rw[cA _ (by omega) (by omega)];rfl
theorem ajb{i:Nat}(h:0<i)(h2:i<9223372036854775807):IntKind.i64.wrap ((i:Int)-1)=((i-1:Nat):Int):=by rw[cA _ (by omega) (by omega)];omega
theorem nY{l:List aw}(h:dC l=true):l.length≤60:=by simp[dC] at h;exact h.1
theorem xB{l:List aw}(h:dC l=true){i:Nat}(hi:i<l.length):j5 l i=true:=by
 simp only[dC,zz2,zy2,zx4] at h;exact h.2 i hi
theorem Ke{l:List aw}{i:Nat}(hi:i<l.length)(h:j5 l i=false):dC l=false:=by
 cases hk:dC l with
 |false=>rfl
 |true=>rw[xB hk hi] at h;cases h
theorem Kf{l:List aw}(hl:l.length≤60)(h:∀ i,i<l.length→j5 l i=true):dC l=true:=by
 simp only[dC,zz2,zy2,zx4,decide_eq_true_eq];exact ⟨hl,h⟩
theorem xC{l:List aw}(h:dC l=true){i:Nat}(hi:i<l.length):j6 (ab l i)=true:=by
 have:=xB h hi;simp only[j5,zz2] at this;exact this.1
theorem Kg{l:List aw}(h:dC l=true):∀ {j i:Nat},i<j→j<l.length→before (ab l i).bt (ab l j).bt=true
 |0,i,hij,_=>by omega
 |j+1,i,hij,hj=>by
  have h1:=xB h hj;simp only[j5,zz2,Bool.or_eq_true,decide_eq_true_eq,Nat.add_sub_cancel] at h1;have h2:=h1.2.resolve_left (by omega);by_cases e:i=j
  ·rw[e];exact h2
  ·exact uw (Kg h (j:=j) (by omega) (by omega)) h2
theorem JS{p:Nat→Prop}{i:Nat}(h:∀ j,j<i→p j)(hi:p i):∀ j,j<i+1→p j:=fun j hj=>by
 by_cases e:j=i
 ·exact e▸hi
 ·exact h j (by omega)
theorem za(l:List aw):aC Tryz.prog 64 [enc l] (enc (if dC l then (0:Int) else 41)):=by
 refine aC.bu Tryz.func64 Sa TZ V1 (t7 rfl) (fun hwf W0 D0 E1 =>?_);simp only[Bk,Mi,bj];have hlen:l.length≤maxLen:=((kM l).1 hwf.1).1;simp only[maxLen] at hlen;clear hwf;refine .ak (by decide +kernel) fun K hK =>?_;simp only[HS,J,simprocAttr];refine .done (hK _ ?_);clear hK K;refine U.seq (U.seq ?_);refine .bd (by decide +kernel) fun K hK =>?_;simp only[HT,J,simprocAttr]
 try simp only[bP,J,simprocAttr]
 refine .done (hK _ ?_);clear hK K;try simp only[al]
 refine U.bx ?_;simp only[au,J,simprocAttr];refine ⟨fun h =>?_,fun h =>?_⟩
 ·have R:=v6 @bl @J
  repeat' ((first |(with_reducible refine .guard (fun hb =>?_) (fun hb =>?_) <;>try simp only[hb])|refine U.aX (by decide +kernel) rfl fun K hK =>?_|(refine .aQ [0,2,3,4,7,8,9,10,11,33] hK ?_;clear hK K)|(with_reducible refine .done (hK _ ?_);clear hK K)|refine U.of rfl ?_|(with_reducible refine au.aU (fun h =>?_) (fun h =>?_) <;>try simp only[h])) <;>try simp only[aZ,R,simprocAttr])
  all_goals clear R
  have:¬ l.length≤60:=by simp at h;omega
  simp[dC,this]
 have hl6:l.length≤60:=by simp at h;omega
 refine U.skip ?_;try simp only[al,simprocAttr]
 refine U.seq (U.seq ?_);refine .bd (by decide +kernel) fun K hK =>?_;simp only[HU,J,simprocAttr]
 try simp only[bP,J,simprocAttr]
 refine .done (hK _ ?_);clear hK K;try simp only[al]
 refine U.block (U.loop (fun i:Nat=>ar [(0,enc l),(8,enc l),(9,.int .i64 l.length),(10,.int .i64 i)] []) (fun i=>i≤l.length∧∀ j,j<i→j5 l j=true) (fun i=>l.length-i) 0 ⟨by omega,fun k h=>by omega⟩ ?_ (fun i hi =>?_))
 ·refine aF.bY ?_ ?_ ?_ ?_ <;>simp[aV,bO,bM,br,aW,I.only,bA]
 by_cases hlt:i<l.length
 ·have he:=kz hlt;have hc:=gI hlt;have hw:=gb (i:=i) (by omega);by_cases h0:i=0
  ·have hc0:decide ((0:Int)<(i:Int))=false:=by simp;omega
   have R:=v6 @he (v6 @hc (v6 @hw (v6 @hc0 (v6 @B3 (v6 @bl @J)))))
   repeat' ((first |(with_reducible refine .guard (fun hb =>?_) (fun hb =>?_) <;>try simp only[hb])|refine U.aX (by decide +kernel) rfl fun K hK =>?_|refine .flat _ (yO _) rfl ?_|refine .flat _ (tX _ _) rfl ?_|(refine .aQ [0,2,3,4,7,8,9,10,11,33] hK ?_;clear hK K)|(with_reducible refine .done (hK _ ?_);clear hK K)|refine U.of rfl ?_|(with_reducible refine au.aU (fun h =>?_) (fun h =>?_) <;>try simp only[h])) <;>try simp only[aZ,R,simprocAttr])
   all_goals clear R
   all_goals first
    |(refine ⟨i+1,⟨by omega,JS hi.2 (by simp_all[j5])⟩,by omega,?_⟩;(refine aF.bY ?_ ?_ ?_ ?_ <;>simp[aV,bO,bM,br,aW,I.only,bA]))
    |(rw[Ke hlt (by simp_all[j5])];rfl)
  ·have he2:=kz (l:=l) (i:=i-1) (by omega);have hw2:=ajb (i:=i) (by omega) (by omega);have hc0:decide ((0:Int)<(i:Int))=true:=by simp;omega
   have R:=v6 @he (v6 @hc (v6 @hw (v6 @he2 (v6 @hw2 (v6 @hc0 (v6 @B3 (v6 @bl @J)))))))
   repeat' ((first |(with_reducible refine .guard (fun hb =>?_) (fun hb =>?_) <;>try simp only[hb])|refine U.aX (by decide +kernel) rfl fun K hK =>?_|refine .flat _ (yO _) rfl ?_|refine .flat _ (tX _ _) rfl ?_|(refine .aQ [0,2,3,4,7,8,9,10,11,33] hK ?_;clear hK K)|(with_reducible refine .done (hK _ ?_);clear hK K)|refine U.of rfl ?_|(with_reducible refine au.aU (fun h =>?_) (fun h =>?_) <;>try simp only[h])) <;>try simp only[aZ,R,simprocAttr])
   all_goals clear R
   all_goals first
    |(refine ⟨i+1,⟨by omega,JS hi.2 (by simp_all[j5])⟩,by omega,?_⟩;(refine aF.bY ?_ ?_ ?_ ?_ <;>simp[aV,bO,bM,br,aW,I.only,bA]))
    |(rw[Ke hlt (by simp_all[j5])];rfl)
 ·have hc:=ib hlt;have R:=v6 @hc (v6 @bl @J)
  repeat' ((first |(with_reducible refine .guard (fun hb =>?_) (fun hb =>?_) <;>try simp only[hb])|refine U.aX (by decide +kernel) rfl fun K hK =>?_|(refine .aQ [0,2,3,4,7,8,9,10,11,33] hK ?_;clear hK K)|(with_reducible refine .done (hK _ ?_);clear hK K)|refine U.of rfl ?_|(with_reducible refine au.aU (fun h =>?_) (fun h =>?_) <;>try simp only[h])) <;>try simp only[aZ,R,simprocAttr])
  all_goals clear R
  rw[Kf hl6 fun j hj=>hi.2 j (by omega)];rfl
theorem Ji{l:List aw}{a:Item}{i:Nat}(hi:i<l.length)(h:(ab l i).bt=a):l8 l a=true:=by
 simp only[l8,List.any_eq_true,decide_eq_true_eq];exact ⟨ab l i,by rw[←iC hi];exact zy6 _,h⟩
def cu(k:Nat)(ws:List Int):List (Nat×ah):=[(k,.box (.agg (ws.map enc)))]
theorem nT(p:Nat→Bool)(l:List Int):(I.agg (l.map enc)).only p=true:=by simp only[I.only];exact fe p l
theorem afH(l:List Int):(I.agg (l.map enc)).cS=true:=by simp only[I.cS];exact wT l
theorem nq{ws:List Int} : ∀ m,aq (cu 1000000 ws) m=true→1000000≤m:=fun m hm=>by rw[di.1 hm];exact zz6 _
def kb(ws:List Int)(i j:Nat):List Int:=(ws.set i (ws.getD j 0)).set j (ws.getD i 0)
theorem NK{A B C:List Int}{x y:Int}{i j:Nat}(hi:A.length=i)(hj:A.length+1+B.length=j):kb (A++x::B++y::C) i j=A++y::B++x::C:=by
 subst hi hj;have e1:(A++x::B++y::C).getD A.length 0=x:=by simp[zz1,zz3]
 have e2:(A++x::B++y::C).getD (A.length+1+B.length) 0=y:=by
  rw[zz1,zx9 (by simp;omega)];simp[];have:A.length+1+B.length-(A.length+(B.length+1))=0:=by omega
  rw[this];rfl
 simp only[kb,e1,e2];rw[zz3,List.set_append_right _ _ (zz6 _),Nat.sub_self,zy0,List.set_cons_zero];rw[List.set_append_right _ _ (by omega)];have:A.length+1+B.length-A.length=(B.length)+1:=by omega
 rw[this,List.set_cons_succ,List.set_append_right _ _ (zz6 _),Nat.sub_self,List.set_cons_zero];simp
theorem jh{n i:Nat}(h:i<n)(fs:List I):ma 1000000 [] 1 0 n 1 (i:Int) (some fs)=some (.ptr 1000000 [i]):=by
 have:=Jz (m:=1000000) (sz:=1) (lo:=0) (l:=n) (i:=i) (fs:=fs) h
 rwa [zz4] at this
theorem kc(x y:Nat)(h:x+y<9223372036854775807):IntKind.i64.wrap ((x:Int)+(y:Int))=((x+y:Nat):Int):=by rw[cA _ (by omega) (by omega)];omega
theorem iv{x y:Nat}(h:y≤x)(hx:x<9223372036854775807):IntKind.i64.wrap ((x:Int)-(y:Int))=((x-y:Nat):Int):=by rw[cA _ (by omega) (by omega)];omega
def jK(p x y z q:List Int)(i:Nat):List Int:=p++(z.take i++x.drop i)++y++(x.take i++z.drop i)++q
theorem aiP{p x y z q:List Int}{i a b:Nat}(hx:i<x.length)(hz:z.length=x.length)(ha:p.length=a)(hb:a+x.length+y.length=b):kb (jK p x y z q i) (a+i) (b+i)=jK p x y z q (i+1):=by
 have e1:jK p x y z q i=(p++z.take i)++x[i]::(x.drop (i+1)++y++x.take i)++z[i]::(z.drop (i+1)++q):=by
  simp only[jK];rw[zv2 hx,zv2 (l:=z) (by omega)];simp only[zz3,zy0]
 have e2:jK p x y z q (i+1)=(p++z.take i)++z[i]::(x.drop (i+1)++y++x.take i)++x[i]::(z.drop (i+1)++q):=by
  simp only[jK];rw[zy5 hx,zy5 (l:=z) (by omega)];simp only[zz3,zy0,zy8]
 rw[e1,e2];refine NK ?_ ?_
 ·simp;omega
 ·simp;omega
theorem aiO(p x y z q:List Int)(i:Nat)(hz:z.length=x.length)(hi:i≤x.length):(jK p x y z q i).length=p.length+x.length+y.length+x.length+q.length:=by
 simp only[jK,zz5,zx3,zx0];omega
def x9(ws:List Int):cR:=fun r os'=>r=.tuple []∧os'=cu 1000000 ws
theorem nj{ts:List (Nat×I)}{ws ws':List Int}{os:List (Nat×ah)}{post:cR}(hl:aj os 1000000=some (.box (.agg (ws.map enc))))(he:ws=ws')(hp:post (.tuple []) (cu 1000000 ws')):kQ [] post (ar ts os):=by
 subst he;exact ⟨cu 1000000 ws,[],mW hl (fun p=>nT p _),trivial,hp⟩
theorem uc(p x y z q:List Int)(a b n k:Nat)(f:I)(hz:z.length=x.length)(ha:p.length=a)(hb:a+x.length+y.length=b)(hk:x.length=k)(hn:b+k≤n)(hN:n≤1000) :
  cC Tryz.prog 216 [.view 1000000 [] 1 0 n,enc (a:Int),enc (b:Int),enc (k:Int),f] (cu 1000000 (p++x++y++z++q)) (x9 (p++z++y++x++q)):=by
 refine cC.bu Tryz.func216 RX TM VO (t7 rfl) (t7 rfl) nq (fun hwf W0 D0 E1 =>?_);simp only[A7,L5,bj,zz4,Nat.reduceAdd];clear hwf;refine .ak (by decide +kernel) fun K hK =>?_;simp only[G9,J,simprocAttr];refine .done (hK _ ?_);clear hK K;refine U.block (U.loop (fun i:Nat=>ar [(0,.view 1000000 [] 1 0 n),(1,.int .i64 a),(2,.int .i64 b),(3,.int .i64 k),(10,.int .i64 i)] (cu 1000000 (jK p x y z q i))) (fun i=>i≤k) (fun i=>k-i) 0 (by omega) ?_ (fun i hi =>?_))
 ·have e:jK p x y z q 0=p++x++y++z++q:=by simp[jK]
  rw[e];simp only[cu];refine aF.bY ?_ ?_ ?_ ?_ <;>simp[aV,bO,bM,br,aq,aW,ct,I.only,ah.only,fe,kD]
 by_cases hlt:i<k
 ·have hc:=gI hlt;have hw:=gb (i:=i) (by omega);have w1:=kc a i (by omega);have w2:=kc b i (by omega);have hst:=aiP (p:=p) (q:=q) (i:=i) (by omega) hz ha hb;have hl:=aiO p x y z q i hz (by omega);simp only[cu];generalize jK p x y z q i=ws at hst hl;have v1:=jh (n:=n) (i:=a+i) (by omega);have v2:=jh (n:=n) (i:=b+i) (by omega);have l1:=gA (xs:=ws) (i:=a+i) (by omega);have l2:=gA (xs:=ws) (i:=b+i) (by omega);have s1:=fun (A:ae) v ao rest=>nx (A:=A) (n:=1000000) (xs:=ws) (i:=a+i) (by omega) v ao rest;obtain ⟨ws2,hws2⟩:∃ ws2,ws2=ws.set (a+i) (ws.getD (b+i) 0):=⟨_,rfl⟩
  have s2:=fun (A:ae) v ao rest=>nx (A:=A) (n:=1000000) (xs:=ws2) (i:=b+i) (by rw[hws2];simp;omega) v ao rest;have l3:=gA (xs:=ws2) (i:=b+i) (by rw[hws2];simp;omega);have R:=v6 @hc (v6 @hw (v6 @w1 (v6 @w2 (v6 @v1 (v6 @v2 (v6 @l1 (v6 @l2 (v6 @s1 (v6 @s2 (v6 @l3 (v6 @eB (v6 @bl @J))))))))))))
  repeat' ((first |refine U.aX (by decide +kernel) rfl fun K hK =>?_|(refine .aQ [0,1,2,3,10,13] hK ?_;clear hK K)|(with_reducible refine .done (hK _ ?_);clear hK K)|refine U.of rfl ?_|(with_reducible refine au.aU (fun h =>?_) (fun h =>?_) <;>try simp only[h])) <;>try simp only[aZ,R,←hws2,simprocAttr])
  all_goals clear R
  refine ⟨i+1,by omega,by omega,?_⟩;rw[←hst];simp only[kb,←hws2];generalize ws2.set _ _=ws3;refine aF.bY ?_ ?_ ?_ ?_ <;>simp[aV,bO,bM,br,aq,aW,ct,I.only,ah.only,fe]
 ·have hc:=ib hlt;have he:i=k:=by omega
  subst he;have R:=v6 @hc (v6 @bl @J)
  repeat' ((first |refine U.aX (by decide +kernel) rfl fun K hK =>?_|(refine .aQ [0,1,2,3,10,13] hK ?_;clear hK K)|(with_reducible refine .done (hK _ ?_);clear hK K)|refine U.of rfl ?_|(with_reducible refine au.aU (fun h =>?_) (fun h =>?_) <;>try simp only[h])) <;>try simp only[aZ,R,simprocAttr])
  all_goals clear R
  rw[lI];refine nj rfl ?_ ⟨rfl,rfl⟩;have h1:z.take i=z:=zw6 (by omega);have h2:x.take i=x:=zw6 (by omega);have h3:z.drop i=[]:=zw7 (by omega);have h4:x.drop i=[]:=zw7 (by omega);simp only[jK,h1,h2,h3,h4,zw1]
end Go.Proofs.YtcldiigclhgafaaGreat
namespace Go.Proofs.YtcldiigclhgafaaGreat
open Go Go.Abs Go.Shelf
open Go.Abs.Enc (enc)
def afs:Go.Shelf.Ren:=⟨fun | 189=>107 | 125=>148 | 257=>147 | 128=>188 | 129=>189 | 294=>179 | 295=>180 | 296=>181 | 297=>182 | 298=>183 | 299=>184 | 216=>185 | 300=>186 | 301=>187 | 328=>205 | 329=>206 | 330=>207 | 331=>208 | 332=>209 | 215=>194 | 343=>214 | n=>n,fun | 28=>29 | 3=>3 | 46=>193 | 0=>0 | 51=>217 | 53=>219 | 4=>4 | 183=>210 | 182=>209 | 131=>150 | 5=>5 | 9=>9 | 218=>230 | 222=>234 | 228=>236 | 229=>237 | n=>n,fun | n=>n⟩
theorem JB:Go.Proofs.Lays.n189 Tryz.prog afs := {
 mixed:=by kernel_rfl
 f125:=Tryz.func148.trans (congrArg some (by kernel_rfl))
 f128:=Tryz.func188.trans (congrArg some (by kernel_rfl))
 f129:=Tryz.func189.trans (congrArg some (by kernel_rfl))
 f189:=Tryz.func107.trans (congrArg some (by kernel_rfl))
 f215:=Tryz.func194.trans (congrArg some (by kernel_rfl))
 f216:=Tryz.func185.trans (congrArg some (by kernel_rfl))
 f257:=Tryz.func147.trans (congrArg some (by kernel_rfl))
 f294:=Tryz.func179.trans (congrArg some (by kernel_rfl))
 f295:=Tryz.func180.trans (congrArg some (by kernel_rfl))
 f296:=Tryz.func181.trans (congrArg some (by kernel_rfl))
 f297:=Tryz.func182.trans (congrArg some (by kernel_rfl))
 f298:=Tryz.func183.trans (congrArg some (by kernel_rfl))
 f299:=Tryz.func184.trans (congrArg some (by kernel_rfl))
 f300:=Tryz.func186.trans (congrArg some (by kernel_rfl))
 f301:=Tryz.func187.trans (congrArg some (by kernel_rfl))
 f328:=Tryz.func205.trans (congrArg some (by kernel_rfl))
 f329:=Tryz.func206.trans (congrArg some (by kernel_rfl))
 f330:=Tryz.func207.trans (congrArg some (by kernel_rfl))
 f331:=Tryz.func208.trans (congrArg some (by kernel_rfl))
 f332:=Tryz.func209.trans (congrArg some (by kernel_rfl))
 f343:=Tryz.func214.trans (congrArg some (by kernel_rfl))
 t0:=Tryz.underlying0
 a0:=Tryz.isAgg0
 z0:=Tryz.sizeOf0
 v0:=Tryz.zeroValue0
 t3:=Tryz.underlying3
 a3:=Tryz.isAgg3
 z3:=Tryz.sizeOf3
 v3:=Tryz.zeroValue3
 t4:=Tryz.underlying4
 a4:=Tryz.isAgg4
 z4:=Tryz.sizeOf4
 v4:=Tryz.zeroValue4
 t5:=Tryz.underlying5
 a5:=Tryz.isAgg5
 z5:=Tryz.sizeOf5
 v5:=Tryz.zeroValue5
 t9:=Tryz.underlying9
 a9:=Tryz.isAgg9
 z9:=Tryz.sizeOf9
 v9:=Tryz.zeroValue9
 t28:=Tryz.underlying29
 a28:=Tryz.isAgg29
 z28:=Tryz.sizeOf29
 v28:=Tryz.zeroValue29
 t46:=Tryz.underlying193
 a46:=Tryz.isAgg193
 z46:=Tryz.sizeOf193
 v46:=Tryz.zeroValue193
 t51:=Tryz.underlying217
 a51:=Tryz.isAgg217
 z51:=Tryz.sizeOf217
 v51:=Tryz.zeroValue217
 t53:=Tryz.underlying219
 a53:=Tryz.isAgg219
 z53:=Tryz.sizeOf219
 v53:=Tryz.zeroValue219
 t131:=Tryz.underlying150
 a131:=Tryz.isAgg150
 z131:=Tryz.sizeOf150
 v131:=Tryz.zeroValue150
 t182:=Tryz.underlying209
 a182:=Tryz.isAgg209
 z182:=Tryz.sizeOf209
 v182:=Tryz.zeroValue209
 t183:=Tryz.underlying210
 a183:=Tryz.isAgg210
 z183:=Tryz.sizeOf210
 v183:=Tryz.zeroValue210
 t218:=Tryz.underlying230
 a218:=Tryz.isAgg230
 z218:=Tryz.sizeOf230
 v218:=Tryz.zeroValue230
 t222:=Tryz.underlying234
 a222:=Tryz.isAgg234
 z222:=Tryz.sizeOf234
 v222:=Tryz.zeroValue234
 t228:=Tryz.underlying236
 a228:=Tryz.isAgg236
 z228:=Tryz.sizeOf236
 v228:=Tryz.zeroValue236
 t229:=Tryz.underlying237
 a229:=Tryz.isAgg237
 z229:=Tryz.sizeOf237
 v229:=Tryz.zeroValue237 }
def dZ(xs:List Int):List Int:=xs.mergeSort fun x y=>decide (x≤y)
theorem MH{w:World}{D:aL}{E:aT} : ∀ {xs:List Int} {cs:List Value},aG w D E (xs.map enc) cs→cs=xs.map (Value.int .i64)∧∀ x∈xs,IntKind.i64.min≤x∧x≤IntKind.i64.max
 | [],cs,h=>by
  simp only[zx2,aG] at h;subst h;exact ⟨rfl,by simp⟩
 |x::xs,cs,h=>by
  simp only[zz9,aG] at h;obtain ⟨c1,c2,rfl,h1,h2⟩:=h;obtain ⟨rfl,h3⟩:=MH h2;have h1':c1=[.int .i64 x]∧IntKind.i64.min≤x∧x≤IntKind.i64.max:=h1;obtain ⟨rfl,h4⟩:=h1';refine ⟨rfl,fun y hy =>?_⟩;rcases zw9.1 hy with rfl | hy
  ·exact h4
  ·exact h3 y hy
theorem qO{w:World}{D:aL}{E:aT} : ∀ {xs:List Int},(∀ x∈xs,IntKind.i64.min≤x∧x≤IntKind.i64.max)→aG w D E (xs.map enc) (xs.map (Value.int .i64))
 | [],_=>rfl
 |x::xs,h=>⟨[.int .i64 x],xs.map (Value.int .i64),rfl,⟨rfl,h x (by simp)⟩,qO fun y hy=>h y (by simp[hy])⟩
theorem qW(xs:List Int):(I.agg (xs.map enc)).aJ=.dU (List.replicate xs.length .one):=by
 show cJ.dU (I.cN _)=_
 congr 1
 induction xs with
 |nil=>rfl
 |cons x xs ih=>simp only[zz9,I.cN,ih,zv5,List.replicate_succ];rfl
theorem ahH{xs ys q:List Int}(hl:ys.length=xs.length){cs:Array Value}(hc:cs.toList=(xs++q).map (Value.int .i64)):(Sort.putCells (Value.int .i64) 0 ys.toArray cs).toList=(ys++q).map (Value.int .i64):=by
 apply List.ext_getElem?;intro k;have h1:cs[k]?=((xs++q).map (Value.int .i64))[k]?:=by rw[←hc,zv0]
 rw[zv0,Sort.putCells,Array.getElem?_mapIdx,h1];simp only[zx7,List.size_toArray,zv4,true_and,zz4,Nat.sub_zero];by_cases hk:k<ys.length
 ·simp only[hk,if_true];rw[zx1 (by omega),zx1 hk,zz8 (by omega),zz8 hk];simp[hk]
 ·simp only[hk,if_false];rw[zx9 (by omega),zx9 (by omega),hl];cases (q[k-xs.length]?) <;>rfl
open Go.Sort Go.RowKit in
theorem Oc(xs q:List Int)(hn:xs.length≤200):cC Tryz.prog 107 [.view 1000000 [] 1 0 xs.length] (cu 1000000 (xs++q)) (x9 (dZ xs++q)):=by
 refine ⟨BH,fun w D E vs _ hD hO hv =>?_⟩;have ho:=hO.bU 1000000;simp only[cu,aj,if_true] at ho;obtain ⟨b,cs,T,av,-,hb,hr,hnD⟩:=ho;have hEn:∀ n,n≠1000000→E n=none:=fun n hn=>by
  have:=hO.bU n;simpa only[cu,aj,if_neg hn,cY] using this
 simp only[aE] at hv;obtain ⟨v,rest,cs',rfl,hp,hr',rfl⟩:=hv;obtain ⟨b',aJ,off,l,hE',hoff,hpart,rfl,hl1,hl2,hl3⟩:=hr';rw[av] at hE';simp only[u8,bS.aB.injEq] at hE';obtain ⟨rfl,rfl⟩:=hE';have hoff':off=0:=by
  have:(some 0:Option Nat)=some off:=by rw[←hoff];rw[qW];rfl
  injection this with this;exact this.symm
 subst hoff';have hp':v=.slice (some ⟨b,0,none⟩) xs.length (l.length-0):=by
  have:[Value.slice (some ⟨b,0+0*1,none⟩) xs.length (l.length-0)]=[v]:=hp;simpa using this.symm
 subst hp';obtain ⟨hcs,hrg⟩:=MH hr;have hbs:b<w.heap.size:=(zx8.1 hb).1;have hH:Holds (Value.int .i64) w b 0 xs.toArray:=fun j hj=>by
  simp only[List.size_toArray] at hj;constructor
  ·simp only[World.cell?,hb,Option.isSome_none,zz7,if_false,zz4];rw[←zv0,hcs];rw[zx6,zx1 (by simpa using hj)];simp[hj]
  ·simp[World.frozen?,hb]
 have hlen:(dZ xs).length=xs.length:=by simp[dZ]
 refine (Any.slices_Sort_int JB b 0 (l.length-0) xs w hH hbs (by omega)).mono ?_;rintro e w' ⟨rfl,n,os,rfl⟩;have hb1:(putRow (Value.int .i64) (Sort.ahead w n) b 0 (dZ xs).toArray).heap[b]?=some (.cells (putCells (Value.int .i64) 0 (dZ xs).toArray cs) T (0,0)):=by
  simp[putRow,mapBlock,Sort.ahead,Array.getElem?_modify,hb,onCells]
 have hother:∀ k,k<w.heap.size→k≠b→(grow (putRow (Value.int .i64) (Sort.ahead w n) b 0 (dZ xs).toArray) os).heap[k]?=w.heap[k]?:=fun k hk hkb=>by
  rw[heap_grow_old _ _ (by simpa[Sort.ahead] using hk)];simp[putRow,mapBlock,Sort.ahead,Array.getElem?_modify,Ne.symm hkb]
 have hb2:(grow (putRow (Value.int .i64) (Sort.ahead w n) b 0 (dZ xs).toArray) os).heap[b]?=some (.cells (putCells (Value.int .i64) 0 (dZ xs).toArray cs) T (0,0)):=by
  rw[heap_grow_old _ _ (by simpa[Sort.ahead] using hbs)];exact hb1
 have hsz:w.heap.size≤(grow (putRow (Value.int .i64) (Sort.ahead w n) b 0 (dZ xs).toArray) os).heap.size:=by simp[Sort.ahead]
 have hshow:(grow (putRow (Value.int .i64) (Sort.ahead w n) b 0 (xs.mergeSort fun x y=>decide (x≤y)).toArray) os)=(grow (putRow (Value.int .i64) (Sort.ahead w n) b 0 (dZ xs).toArray) os):=rfl;rw[hshow];have hw1:(grow (putRow (Value.int .i64) (Sort.ahead w n) b 0 (dZ xs).toArray) os).os=w.os:=rfl;have hw2:(grow (putRow (Value.int .i64) (Sort.ahead w n) b 0 (dZ xs).toArray) os).tape=w.tape:=rfl;have hw3:(grow (putRow (Value.int .i64) (Sort.ahead w n) b 0 (dZ xs).toArray) os).output=w.output:=rfl;revert hother hb2 hsz hw1 hw2 hw3;generalize grow (putRow (Value.int .i64) (Sort.ahead w n) b 0 (dZ xs).toArray) os=w2;intro hother hb2 hsz hw1 hw2 hw3;have hmem:∀ x∈dZ xs++q,IntKind.i64.min≤x∧x≤IntKind.i64.max:=fun x hx=>hrg x (by
  rcases zy7.1 hx with h | h
  ·exact List.mem_append_left _ (by simpa[dZ] using h)
  ·exact List.mem_append_right _ h)
 refine ⟨.tuple #[],D,E,.tuple [],cu 1000000 (dZ xs++q),rfl,⟨rfl,rfl⟩,⟨[],rfl,rfl⟩,⟨fun m =>?_,hO.cM⟩,⟨hw1,hw2,hw3,hsz,fun k hk =>?_⟩,fun _ _ h=>h,fun b0 o h=>Nat.lt_of_lt_of_le (hD b0 o h) hsz,fun _ _ h _ _=>h,fun m e h _=>⟨e,h,bS.le.refl e⟩,⟨fun b0 o ao hd hc =>?_,fun b0 es ck hd hc =>?_⟩⟩
 ·by_cases hm:m=1000000
  ·subst hm;simp only[cu,aj,if_true];refine ⟨b,_,T,?_,.inr ⟨1000000,_,av,rfl⟩,hb2,?_,hnD⟩
   ·rw[av,qW,qW,zz5,zz5,hlen]
   ·show aG w2 D E _ _
    rw[ahH hlen hcs];exact qO hmem
  ·simp only[cu,aj,if_neg hm,cY];exact hEn m hm
 ·by_cases hk2:k<w.heap.size
  ·exact hother k hk2 fun e=>hk (.inr ⟨1000000,_,av,by rw[e];rfl⟩)
  ·exact absurd (.inl (Nat.le_of_not_lt hk2)) hk
 ·have hne:b0≠b:=fun e=>hnD o (e▸hd);simp only[World.cell?,hother b0 (hD b0 o hd) hne] at hc ⊢;exact hc
 ·have hne:b0≠b:=fun e=>hnD 0 (e▸hd);rw[hother b0 (hD b0 0 hd) hne];exact hc
theorem Od(v:I)(hv0:v=.nils 1∨v=enc ([]:List Int)):aC Tryz.prog 107 [v] (.tuple []):=by
 refine ⟨BH,fun w D vs hD hv =>?_⟩;simp only[aE] at hv;obtain ⟨ao,rest,cs',rfl,hp,hr',rfl⟩:=hv;have hu:∃ a cap,ao=.slice a 0 cap:=by
  rcases hv0 with rfl | rfl
  ·have h1:cs'=[.slice none 0 0]:=hr';have h2:cs'=[ao]:=hp;rw[h1] at h2;exact ⟨none,0,by simpa using h2.symm⟩
  ·obtain ⟨a,cap,h1,_⟩:=hr';have h2:cs'=[ao]:=hp;rw[h1] at h2;exact ⟨a,cap,by simpa using h2.symm⟩
 obtain ⟨a,cap,rfl⟩:=hu;refine (Any.slices_Sort_int_none JB a cap w).mono ?_;rintro e w' ⟨rfl,rfl⟩;exact ⟨.tuple #[],D,rfl,⟨[],rfl,rfl⟩,⟨rfl,rfl,rfl,zz6 _,fun _ _=>rfl⟩,hD,fun _ _ h _=>h⟩
end Go.Proofs.YtcldiigclhgafaaGreat
namespace Go.Proofs.YtcldiigclhgafaaGreat
open Go Go.Abs
open Go.Abs.Enc (enc)
theorem sw{os os2 ow:List (Nat×ah)}{ts:List (Nat×I)}(h:fh os os2)(how:∀ m,aq ow m=true→m<1000000):∀ n x,aj os2 n=some x→(ar ts (ow++os2)).o n=some x∧x.only (aq os2)=true∧x.eH=true:=fun n x hx=>by
 have hn:aq os2 n=true:=by simp[aq,hx]
 have hg:=h.nL n (by rw[←h.same];exact hn);refine ⟨?_,h.ok n x hx⟩;simp only[ar,jY];cases hw:aj ow n with
 |none=>exact hx
 |some y=>have:=how n (by simp[aq,hw]);omega
def yK:aI 5 Int:=⟨List.replicate 5 0,rfl⟩
theorem XP:I.agg [.int .i64 0,.int .i64 0,.int .i64 0,.int .i64 0,.int .i64 0]=enc yK:=rfl
def gO(a b:Int):Int:=IntKind.i64.wrap ((BitVec.ofInt IntKind.i64.bits a ||| BitVec.ofInt IntKind.i64.bits b).toNat:Int)
def tR(c:List Int)(k:Nat)(x:aI 5 Int):aI 5 Int :=
 if bt c k%12<5 then gM (gM x k (shl 1 k)) k (gO ((gM x k (shl 1 k)).g k) (shl 1 (bt c k%12).toNat)) else gM x k (shl 1 k)
def fu(c:List Int):Nat→aI 5 Int
 |0=>yK
 |k+1=>tR c k (fu c k)
theorem Pm(c:List Int)(hc:c.length≤4611686018427387904):aC Tryz.prog 85 [enc c] (enc (fu c 5)):=by
 refine aC.bu Tryz.func85 Sm Ud Wd (t7 rfl) (fun hwf W0 D0 E1 =>?_);simp only[Bx,Mu,bj];refine .ak (by decide +kernel) fun K hK =>?_;simp only[Ig,J,simprocAttr];refine .done (hK _ ?_);clear hK K;refine .ak (by decide +kernel) fun K hK =>?_;simp only[Ih,J,simprocAttr];simp only[XP];refine .done (hK _ ?_);clear hK K;refine U.seq (U.seq ?_);refine .bd (by decide +kernel) fun K hK =>?_;simp only[Ii,J,simprocAttr];refine .done (hK _ ?_);clear hK K;try simp only[al]
 refine U.block (U.loop (fun k:Nat=>ar [(0,enc c),(2,.ptr 2 []),(3,.ptr 3 []),(4,.int .i64 k)] [(2,.box (enc yK)),(3,.box (enc (fu c k)))]) (fun k=>k≤5) (fun k=>5-k) 0 (by omega) ?_ (fun k hk =>?_))
 ·refine aF.bY ?_ ?_ ?_ ?_ <;>simp[aV,bO,bM,br,aq,aW,ct,I.only,ah.only,bA]
  all_goals rfl
 refine U.seq (U.seq ?_);refine .bd (by decide +kernel) fun K hK =>?_;simp only[Ij,J,simprocAttr];refine .done (hK _ ?_);clear hK K;try simp only[al]
 refine U.bx ?_;simp only[au,J,simprocAttr];refine ⟨fun h =>?_,fun h =>?_⟩
 ·have hlt:k<5:=by simp at h;omega
  refine U.skip ?_;try simp only[al,simprocAttr]
  refine U.seq (U.block ?_);refine .ak (by decide +kernel) fun K hK =>?_;simp only[Ik,J,simprocAttr]
  try simp only[bP,iI 1 (fu c k) hlt rfl,fF (fu c k) hlt,pP (fu c k) hlt,J,simprocAttr]
  refine .done (hK _ ?_);clear hK K;refine .ak (by decide +kernel) fun K hK =>?_;simp only[Il,J,simprocAttr]
  try simp only[cF,J,simprocAttr]
  refine .flat _ (lQ c k hc) rfl ?_
  try simp only[J,simprocAttr]
  refine .flat _ (ja (bt c k) 12 (by omega) (by omega)) rfl ?_
  try simp only[J,simprocAttr]
  refine .done (hK _ ?_);clear hK K;refine .ak (by decide +kernel) fun K hK =>?_;simp only[Im,J,simprocAttr];refine .done (hK _ ?_);clear hK K;have h0:0≤bt c k%12:=Int.emod_nonneg _ (by omega);refine U.bx ?_;simp only[au,J,simprocAttr];refine ⟨fun h =>?_,fun h =>?_⟩
  ·have h5:bt c k%12<5:=by simpa using h
   have e1:IntKind.i64.wrap (1*2^min k IntKind.i64.bits)=shl 1 k:=rfl;refine .bd (by decide +kernel) fun K hK =>?_;simp only[Io,J,simprocAttr]
   try simp only[e1,bP,iI 1 (gM (fu c k) k (shl 1 k)) hlt rfl,fF (gM (fu c k) k (shl 1 k)) hlt,h0,J,simprocAttr]
   try simp only[pP (gM (fu c k) k (shl 1 k)) hlt,J,simprocAttr]
   refine .done (hK _ ?_);clear hK K;try simp only[al,bJ]
   refine .bd (by decide +kernel) fun K hK =>?_;simp only[v7,J,simprocAttr];refine .done (hK _ ?_);clear hK K;try simp only[al]
   refine ⟨k+1,by omega,by omega,?_⟩;rw[cA _ (by omega) (by omega)];simp only[fu,tR,if_pos h5];refine aF.bY ?_ ?_ ?_ ?_ <;>simp[aV,bO,bM,br,aq,aW,ct,I.only,ah.only,bA]
   all_goals simp[gO,shl]
  ·have h5:¬ bt c k%12<5:=by simpa using h
   refine U.skip ?_;try simp only[al,bJ,simprocAttr]
   refine .bd (by decide +kernel) fun K hK =>?_;simp only[v7,J,simprocAttr];refine .done (hK _ ?_);clear hK K;try simp only[al]
   refine ⟨k+1,by omega,by omega,?_⟩;rw[cA _ (by omega) (by omega)];simp only[fu,tR,if_neg h5];refine aF.bY ?_ ?_ ?_ ?_ <;>simp[aV,bO,bM,br,aq,aW,ct,I.only,ah.only,bA]
   all_goals simp[shl]
 ·have hge:k=5:=by simp at h;omega
  subst hge;refine U.exit ?_;try simp only[al,bJ,simprocAttr]
  refine .ak (by decide +kernel) fun K hK =>?_;simp only[Ip,J,simprocAttr]
  try simp only[cv,J,simprocAttr]
  rw[eg (dz _) (by rw[fx];rfl) ((ev _).trans (ev _).symm)]
  try simp only[J,simprocAttr]
  refine .done (hK _ ?_);clear hK K;refine U.ret ?_;simp only[J,simprocAttr]
  try simp only[cv,cF,J,simprocAttr]
def km(k:Nat):Nat→Int
 |0=>((k / 5 / 5 / 5 / 5 / 5%5:Nat):Int)
 |1=>((k / 5 / 5 / 5 / 5%5:Nat):Int)
 |2=>((k / 5 / 5 / 5%5:Nat):Int)
 |3=>((k / 5 / 5%5:Nat):Int)
 |4=>((k / 5%5:Nat):Int)
 |5=>((k%5:Nat):Int)
 |_=>0
def rU(k:Nat):aI 6 Int:=⟨[km k 0,km k 1,km k 2,km k 3,km k 4,km k 5],rfl⟩
theorem Xk(k i:Nat):0≤km k i∧km k i≤4:=by
 unfold km;split <;>omega
theorem P2{n:Nat}{x y:aI n Int}(h:x.l=y.l):x=y:=by
 cases x;cases y;simp only at h;subst h;rfl
theorem ag3(k:Nat):cZ (rU k)=true:=by
 simp only[cZ,zy2,zx4];intro i hi;have:(rU k).g i=km k i:=by
  match i,hi with
  |0,_ | 1,_ | 2,_ | 3,_ | 4,_ | 5,_=>rfl
  |n+6,h=>exact absurd h (by omega)
 rw[this];have:=Xk k i;simp[cm,this.1,this.2]
theorem pO{A:ae}{n:Nat}{b:I}{v ao:aI 6 Int}{rest:List az} : dO A (some 6) n [] b (enc v) rest (some (enc ao))=aA rest (A.aN n (.box (enc v))):=by
 rw[eg (dz _) (by rw[fx];rfl) ((ev _).trans (ev _).symm),fR]
theorem aiH{A:ae}{n:Nat}{b:I}{v ao:bZ}{rest:List az} : dO A (some 7) n [] b (enc v) rest (some (enc ao))=aA rest (A.aN n (.box (enc v))):=by
 rw[eg (dz _) (by rw[fx];rfl) ((ev _).trans (ev _).symm),fR]
def mR(w:aI 5 Int)(a r:aI 6 Int):Int×Int:=if eP w then (if cZ a then (if fb r then (eE w a r,0) else (0,12)) else (0,10)) else (0,11)
theorem Pd(w:aI 5 Int)(a r:aI 6 Int):aC Tryz.prog 37 [enc w,enc a,enc r] (.tuple [enc (mR w a r).1,enc (mR w a r).2]):=by
 refine aC.bu Tryz.func37 R7 TW VY (t7 rfl) (fun hwf W0 D0 E1 =>?_);simp only[Bh,Mf,bj,zz4,Nat.reduceAdd];refine .ak (by decide +kernel) fun K hK =>?_;simp only[HJ,J,simprocAttr];refine .done (hK _ ?_);clear hK K;refine U.seq (U.seq ?_);refine .bd (by decide +kernel) fun K hK =>?_;simp only[HK,J,simprocAttr]
 try simp only[cv,cF,J,simprocAttr]
 refine .flat _ (zd w) rfl ?_;generalize hw:eP w=bw;cases bw
 ·try simp only[J,simprocAttr]
  refine .done (hK _ ?_);clear hK K;try simp only[al]
  refine U.bx ?_;simp only[au,J,simprocAttr];refine ⟨fun h =>?_,fun h =>?_⟩
  ·refine .ak (by decide +kernel) fun K hK =>?_;simp only[HL,J,simprocAttr];refine .done (hK _ ?_);clear hK K;refine U.ret ?_;simp only[al,J,simprocAttr];simp[mR,hw]
  ·cases h
 try simp only[J,simprocAttr]
 refine .done (hK _ ?_);clear hK K;refine U.bx ?_;simp only[au,J,simprocAttr];refine ⟨fun h =>?_,fun h =>?_⟩
 ·cases h
 refine U.skip ?_;try simp only[al,simprocAttr]
 refine U.seq (U.seq ?_);refine .bd (by decide +kernel) fun K hK =>?_;simp only[HM,J,simprocAttr]
 try simp only[cv,cF,J,simprocAttr]
 refine .flat _ (yM a) rfl ?_;generalize ha:cZ a=ba;cases ba
 ·try simp only[J,simprocAttr]
  refine .done (hK _ ?_);clear hK K;try simp only[al]
  refine U.bx ?_;simp only[au,J,simprocAttr];refine ⟨fun h =>?_,fun h =>?_⟩
  ·refine .ak (by decide +kernel) fun K hK =>?_;simp only[HN,J,simprocAttr];refine .done (hK _ ?_);clear hK K;refine U.ret ?_;simp only[al,J,simprocAttr];simp[mR,hw,ha]
  ·cases h
 try simp only[J,simprocAttr]
 refine .done (hK _ ?_);clear hK K;refine U.bx ?_;simp only[au,J,simprocAttr];refine ⟨fun h =>?_,fun h =>?_⟩
 ·cases h
 refine U.skip ?_;try simp only[al,simprocAttr]
 refine U.seq (U.seq ?_);refine .bd (by decide +kernel) fun K hK =>?_;simp only[HO,J,simprocAttr]
 try simp only[cv,cF,J,simprocAttr]
 refine .flat _ (N8 r) rfl ?_;generalize hr:fb r=aU;cases aU
 ·try simp only[J,simprocAttr]
  refine .done (hK _ ?_);clear hK K;try simp only[al]
  refine U.bx ?_;simp only[au,J,simprocAttr];refine ⟨fun h =>?_,fun h =>?_⟩
  ·refine .ak (by decide +kernel) fun K hK =>?_;simp only[HP,J,simprocAttr];refine .done (hK _ ?_);clear hK K;refine U.ret ?_;simp only[al,J,simprocAttr];simp[mR,hw,ha,hr]
  ·cases h
 try simp only[J,simprocAttr]
 refine .done (hK _ ?_);clear hK K;refine U.bx ?_;simp only[au,J,simprocAttr];refine ⟨fun h =>?_,fun h =>?_⟩
 ·cases h
 refine U.skip ?_;try simp only[al,simprocAttr]
 refine .ak (by decide +kernel) fun K hK =>?_;simp only[HQ,J,simprocAttr]
 try simp only[cv,cF,J,simprocAttr]
 refine .flat _ (N9 w a r ha) rfl ?_
 try simp only[J,simprocAttr]
 refine .done (hK _ ?_);clear hK K;refine .ak (by decide +kernel) fun K hK =>?_;simp only[HR,J,simprocAttr];refine .done (hK _ ?_);clear hK K;refine U.ret ?_;simp only[J,simprocAttr];simp[mR,hw,ha,hr]
theorem aii{w:aI 5 Int}{a:aI 6 Int}(hw:eP w=true)(ha:cZ a=true){i:Nat}(hi:i<6):(0≤yl w a i∧yl w a i≤31)∧yl w a i≠0:=by
 have a1:=mh ha hi;have a2:=xH hw (show (a.g i).toNat<5 by omega);exact ⟨a2.1,Qt a2.1 (by omega) a2.2⟩
theorem NT:∀ k j:Fin 5,(0≤shl 1 k.1∧shl 1 k.1≤31∧fj (shl 1 k.1) k.1=true)∧(0≤gO (shl 1 k.1) (shl 1 j.1)∧gO (shl 1 k.1) (shl 1 j.1)≤31∧fj (gO (shl 1 k.1) (shl 1 j.1)) k.1=true):=by decide +kernel
theorem NU(c:List Int):∀ n,n≤5→∀ j,j<n→0≤(fu c n).g j∧(fu c n).g j≤31∧fj ((fu c n).g j) j=true
 |0,_=>fun j h=>absurd h (by omega)
 |n+1,hn=>fun j hj=>by
  have ih:=NU c n (by omega);have hn5:n<5:=by omega
  simp only[fu,tR];have h0:0≤bt c n%12:=Int.emod_nonneg _ (by decide);split
  ·rename_i h12;rw[l7 _ _ _ _ hn5];split
   ·rename_i e;subst e;rw[l7 _ _ _ _ hn5,if_pos rfl];exact (NT ⟨n,hn5⟩ ⟨(bt c n%12).toNat,by omega⟩).2
   ·rw[l7 _ _ _ _ hn5,if_neg (by assumption)];exact ih j (by omega)
  ·rw[l7 _ _ _ _ hn5];split
   ·rename_i e;subst e;exact (NT ⟨n,hn5⟩ ⟨0,by decide⟩).1
   ·exact ih j (by omega)
theorem ag5(c:List Int):eP (fu c 5)=true:=by
 simp only[eP,zy2,zx4,zz2];intro k hk;obtain ⟨h1,h2,h3⟩:=NU c 5 (zz6 _) k hk;simp[cm,h1,h2,h3]
theorem af3(k:Nat):gK (k:Int) 1=((k / 5:Nat):Int)∧gK (k:Int) 2=((k / 5 / 5:Nat):Int)∧gK (k:Int) 3=((k / 5 / 5 / 5:Nat):Int)∧gK (k:Int) 4=((k / 5 / 5 / 5 / 5:Nat):Int)∧gK (k:Int) 5=((k / 5 / 5 / 5 / 5 / 5:Nat):Int):=by
 have h:∀ n:Nat,(n:Int).tdiv 5=((n / 5:Nat):Int):=fun n=>Int.ofNat_tdiv n 5;simp only[gK,h,and_self]
theorem Xl(k:Nat):jQ (k:Int) 6=rU k:=by
 obtain ⟨h1,h2,h3,h4,h5⟩:=af3 k;have h:∀ n:Nat,(n:Int).tmod 5=((n%5:Nat):Int):=fun n=>Int.ofNat_tmod n 5;have h0:gK (k:Int) 0=k:=rfl;refine P2 ?_;simp only[jQ,gM,rU,km,h0,h1,h2,h3,h4,h5,h];rfl
theorem Km(n:Int):cZ (jQ (n%15625) 6)=true:=by
 have h0:0≤n%15625:=Int.emod_nonneg _ (by decide);have e:n%15625=(((n%15625).toNat:Nat):Int):=by omega
 rw[e,Xl];exact ag3 _
theorem aim:∀ k:Fin 5,1≤shl 1 k.1∧shl 1 k.1≤31:=by decide +kernel
theorem uN(p q s:Nat→Bool):∀ n,(∀ i,i<n→p i=true→q i=true∨s i=true)→dn p n≤dn q n+dn s n
 |0,_=>by simp[dn]
 |n+1,h=>by
  have ih:=uN p q s n fun i hi=>h i (by omega);have hn:=h n (by omega);simp only[dn];cases hp:p n with
  |true=>rcases hn hp with h1 | h1 <;>simp only[h1,if_true] <;>(repeat' split) <;>omega
  |false=>simp only[zz7,if_false];(repeat' split) <;>omega
theorem xw{m:bQ}{i:Nat} : fZ m i=true↔(1≤(cw m i).b5∧(cw m i).b5≤99)∧cZ (cw m i).mark=true∧(i=0∨(cw m (i-1)).b5<(cw m i).b5)∧∀ j,j<i→jL m (cw m j).mark (cw m i).mark=false:=by
 simp only[fZ,cm,zz2,Bool.or_eq_true,decide_eq_true_eq,beq_iff_eq,zy2,zx4,Bool.not_eq_true']
theorem o6{w:aI 5 Int}{f:Int}{l:List bZ}{g:bZ}{i:Nat}(h:i<l.length):cw ⟨w,f,l++[g]⟩ i=cw ⟨w,f,l⟩ i:=by
 simp only[cw,zz1,zx1 h]
theorem Jg{w:aI 5 Int}{f:Int}{l:List bZ}{g:bZ} : cw ⟨w,f,l++[g]⟩ l.length=g:=by
 simp[cw,zz1]
def lC(c:List Int)(i:Nat)(o:Int):bZ:=⟨o,jQ (IntKind.i64.wrap (IntKind.i64.wrap (c.getD i 0*7)+i*2503)%15625) 6⟩
def qB(c:List Int)(i:Nat)(p:Int×List bZ):Int×List bZ :=
 (p.1+(1+c.getD i 0%4),if p.2.any (fun h=>jL ⟨fu c 5,bt c 5%2,p.2⟩ h.mark (lC c i 0).mark) then p.2 else p.2++[lC c i (p.1+(1+c.getD i 0%4))])
def cT(c:List Int):Nat→Int×List bZ
 |0=>(0,[])
 |i+1=>if i<c.length∧(cT c i).2.length<9 then qB c i (cT c i) else cT c i
def jA(c:List Int)(n:Nat):bQ:=⟨fu c 5,bt c 5%2,(cT c n).2⟩
def nc(c:List Int):bQ:=jA c 12
theorem JT{c:List Int}{i:Nat}(h:¬ (i<c.length∧(cT c i).2.length<9)):∀ n,i≤n→cT c n=cT c i
 |0,hn=>by
   have:i=0:=by omega
   subst this;rfl
 |n+1,hn=>by
  by_cases e:i=n+1
  ·subst e;rfl
  ·have ih:=JT h n (by omega);simp only[cT,ih];rw[if_neg];intro hh;exact h ⟨by omega,hh.2⟩
theorem JZ(n:Int):0≤n%4∧n%4<4:=⟨Int.emod_nonneg _ (by decide),Int.emod_lt_of_pos _ (by decide)⟩
theorem wY(c:List Int):∀ n,(0≤(cT c n).1∧(cT c n).1≤4*n)∧(cT c n).2.length≤9∧(cT c n).2.length≤n∧(∀ i,i<(cT c n).2.length→(cw (jA c n) i).b5≤(cT c n).1)∧(n≤12→∀ i,i<(cT c n).2.length→fZ (jA c n) i=true)
 |0=>by simp[cT]
 |n+1=>by
  obtain ⟨h1,h2,h3,h4,h5⟩:=wY c n;have m4:=JZ (c.getD n 0);by_cases hc:n<c.length∧(cT c n).2.length<9
  ·have hM:jA c n=⟨fu c 5,bt c 5%2,(cT c n).2⟩:=rfl;have hM1:jA c (n+1)=⟨fu c 5,bt c 5%2,(cT c (n+1)).2⟩:=rfl;have hU:cT c (n+1)=qB c n (cT c n):=by simp only[cT,if_pos hc]
   rw[hM1,hU];rw[hM] at h4 h5;generalize cT c n=p at h1 h2 h3 h4 h5 hc;obtain ⟨o,l⟩:=p;simp only at h1 h2 h3 h4 h5 hc;simp only[qB];split
   ·refine ⟨by omega,h2,by omega,fun i hi =>?_,fun hn i hi =>?_⟩
    ·have:=h4 i hi;omega
    ·exact h5 (by omega) i hi
   ·rename_i hany;have hnear:∀ g∈l,jL ⟨fu c 5,bt c 5%2,l⟩ g.mark (lC c n 0).mark=false:=by
     intro g hg;cases hh:jL ⟨fu c 5,bt c 5%2,l⟩ g.mark (lC c n 0).mark with
     |false=>rfl
     |true=>exact absurd (List.any_eq_true.2 ⟨g,hg,hh⟩) hany
    have ow:(lC c n (o+(1+c.getD n 0%4))).b5=o+(1+c.getD n 0%4):=rfl;have mk:(lC c n (o+(1+c.getD n 0%4))).mark=(lC c n 0).mark:=rfl;generalize hg:lC c n (o+(1+c.getD n 0%4))=g at ow mk;have hmk:cZ g.mark=true:=by rw[mk];exact Km _
    refine ⟨by omega,by simp;omega,by simp;omega,fun i hi =>?_,fun hn i hi =>?_⟩
    ·simp only[zz5,List.length_singleton] at hi;by_cases e:i=l.length
     ·subst e;rw[Jg];omega
     ·rw[o6 (by omega)];have:=h4 i (by omega);omega
    ·simp only[zz5,List.length_singleton] at hi;by_cases e:i=l.length
     ·subst e;rw[xw,Jg];refine ⟨by omega,hmk,?_,fun j hj =>?_⟩
      ·by_cases e0:l.length=0
       ·exact .inl e0
       ·right
        rw[o6 (by omega),ow];have:=h4 (l.length-1) (by omega);omega
      ·rw[o6 hj,mk];have:=hnear (cw ⟨fu c 5,bt c 5%2,l⟩ j) (by rw[←ic hj];exact zy6 hj);exact this
     ·have hi':i<l.length:=by omega
      have:=h5 (by omega) i hi';rw[xw] at this ⊢;rw[o6 hi'];refine ⟨this.1,this.2.1,?_,fun j hj =>?_⟩
      ·rcases this.2.2.1 with h | h
       ·exact .inl h
       ·right;rw[o6 (by omega)];exact h
      ·rw[o6 (by omega)];exact this.2.2.2 j hj
  ·have hU:cT c (n+1)=cT c n:=by simp only[cT,if_neg hc]
   have hM:jA c (n+1)=jA c n:=by simp only[jA,hU]
   rw[hU,hM];exact ⟨by omega,h2,by omega,h4,fun hn=>h5 (by omega)⟩
theorem Kk(c:List Int){n:Nat}(hn:n≤12):ed (jA c n)=true:=by
 obtain ⟨h1,h2,h3,h4,h5⟩:=wY c n;have m2:0≤bt c 5%2∧bt c 5%2<2:=⟨Int.emod_nonneg _ (by decide),Int.emod_lt_of_pos _ (by decide)⟩
 have e1:cm 0 2 (bt c 5%2)=true:=by simp[cm,m2.1];omega
 have e2:decide ((cT c n).2.length≤40)=true:=by simp;omega
 have e3:(List.range (cT c n).2.length).all (fZ (jA c n))=true:=by
  simp only[zy2,zx4];exact h5 hn
 simp only[jA] at e3;simp only[ed,jA,ag5,e1,e3,Bool.true_and,Bool.and_true];exact e2
theorem ag2(c:List Int):ed (nc c)=true:=Kk c (zz6 _)
theorem Ks{α:Type}[Enc α](l:List α):bV none (enc l)=true:=by simp[lh,lY]
theorem pj:(∀ (x:I) xs (f:I→Bool),(x::xs).all f=(f x&&xs.all f))∧(∀ f:I→Bool,([]:List I).all f=true)∧(∀ n p,(I.ptr n p).cd=true)∧(∀ b,(true&&b)=b) :=
 ⟨fun _ _ _=>List.all_cons,fun _=>List.all_nil,fun _ _=>rfl,fun _=>rfl⟩
theorem pB:∀ m,aq [] m=true→m<1000000:=fun m h=>by simp[aq,aj] at h
theorem OS(l:List aw)(hl:l.length≤60):uh Tryz.prog 178 [.ref (enc l)] l.length (fun k=>[.int .i64 ((l.length-1-k:Nat):Int),enc (ab l (l.length-1-k))]):=by
 intro Y v ai Ix os hv hY hI hIx h0;have hG:=hI 0 os h0;refine ke.bu Tryz.func178 BL Tw Vy (t7 rfl) (t7 rfl) hG.nL (fun hwf W0 D0 E1 =>?_);simp only[AP,LO,bj,zz4];refine .ak (by decide +kernel) fun K hK =>?_;simp only[FM,J,simprocAttr]
 try simp only[bP,bl,J,simprocAttr]
 rw[cA ((l.length:Int)-1) (by omega) (by omega)];refine .done (hK _ ?_);clear hK K;refine U.block (U.loop (fun s:Nat×List (Nat×ah)=>ar [(0,.raw v),(1,.ref (enc l)),(3,.int .i64 ((l.length:Int)-1-s.1))] s.2) (fun s=>s.1≤l.length∧ai s.1 s.2) (fun s=>l.length-s.1) (0,os) ⟨zv4 _,h0⟩ ?_ ?_)
 ·refine aF.c4 ?_ (fun n=>rfl);simp[aV,aW]
 rintro ⟨k,osk⟩ ⟨hk,hIk⟩;simp only at hk hIk ⊢;have gk:=hI k osk hIk;refine U.seq (U.seq ?_);refine .bd (by decide +kernel) fun K hK =>?_;simp only[FN,J,simprocAttr];refine .done (hK _ ?_);clear hK K;try simp only[al]
 refine U.bx ?_;simp only[au,J,simprocAttr];refine ⟨fun h =>?_,fun h =>?_⟩
 ·have hlt:k<l.length:=by simp at h;omega
  have hix:((l.length:Int)-1-k)=((l.length-1-k:Nat):Int):=by omega
  rw[hix];refine U.skip ?_;try simp only[al,simprocAttr]
  refine U.seq (U.block (U.seq ?_));refine .bd (by decide +kernel) fun K hK =>?_;simp only[FO,J,simprocAttr]
  try simp only[bl,kz (l:=l) (i:=l.length-1-k) (by omega),BQ,J,simprocAttr]
  refine bh.N0 (ow:=[]) (In:=ai (k+1)) (Ix:=Ix) (hY k osk _ hlt hIk (fun r os2 h=>h)) gk (hI _) hIx (by simp[I.bW,dM,I.bp]) pB (fun os2 h2 =>?_) (fun os2 h2 =>?_)
  ·try simp only[zy8,J,simprocAttr]
   refine .done (hK _ ?_);clear hK K;try simp only[al]
   refine U.bx ?_;simp only[au,J,simprocAttr];refine ⟨fun h =>?_,fun h =>?_⟩
   ·cases h
   refine U.skip ?_;try simp only[al,bJ,simprocAttr]
   refine .bd (by decide +kernel) fun K hK =>?_;simp only[FP,J,simprocAttr];refine .done (hK _ ?_);clear hK K;try simp only[al]
   refine ⟨(k+1,os2),⟨by simp only;omega,h2⟩,by simp only;omega,?_⟩;simp only;rw[cA _ (by omega) (by omega)];have e:(((l.length-1-k:Nat):Int)-1)=((l.length:Int)-1-((k+1:Nat):Int)):=by omega
   rw[e];refine aF.c4 ?_ (fun n=>rfl);simp[aV,aW]
  ·try simp only[zy8,J,simprocAttr]
   refine .done (hK _ ?_);clear hK K;try simp only[al]
   refine U.bx ?_;simp only[au,J,simprocAttr];refine ⟨fun h =>?_,fun h =>?_⟩
   ·refine U.ret ?_;simp only[al,bJ];rw[fD];exact ⟨os2,[],sw (ow:=[]) (hIx os2 h2) pB,trivial,rfl,.inr h2⟩
   ·cases h
 ·have he:k=l.length:=by simp at h;omega
  subst he;refine U.exit ?_;try simp only[al,bJ,simprocAttr]
  rw[lI];exact ⟨osk,[],sw (ow:=[]) gk pB,trivial,rfl,.inl hIk⟩
def iZ(p:Nat→Bool)(n:Nat):List Nat:=(List.range n).filter p
theorem NO(p:Nat→Bool)(n:Nat):iZ p (n+1)=iZ p n++(if p n then [n] else []):=by
 simp only[iZ,List.range_succ,List.filter_append,zw2,List.filter_nil]
theorem aiY{p:Nat→Bool}{i n:Nat}(hp:p i=true)(hi:i<n):(iZ p i).length<(iZ p n).length∧(iZ p n).getD (iZ p i).length 0=i:=by
 induction n with
 |zero=>omega
 |succ n ih =>
  rw[NO];by_cases e:i=n
  ·subst e;simp[hp]
  ·obtain ⟨h1,h2⟩:=ih (by omega);refine ⟨by rw[zz5];omega,?_⟩;rw[zz1,zx1 h1,←zz1];exact h2
theorem Ox(l:List aw)(bs:List Bool)(hl:l.length≤60)(hb:bs.length=l.length) :
  uh Tryz.prog 146 [.ref (enc l),.ref (enc bs)] (iZ (fun i=>bs.getD i false) l.length).length (fun k=>[.int .i64 (((iZ (fun i=>bs.getD i false) l.length).getD k 0:Nat):Int)]):=by
 intro Y v ai Ix os hv hY hI hIx h0;have hG:=hI 0 os h0;refine ke.bu Tryz.func146 BJ S7 Va (t7 rfl) (t7 rfl) hG.nL (fun hwf W0 D0 E1 =>?_);simp only[Ap,Lp,bj,zz4,Nat.reduceAdd];refine .ak (by decide +kernel) fun K hK =>?_;simp only[Ey,J,simprocAttr]
 try simp only[bP,bl,J,simprocAttr]
 refine .done (hK _ ?_);clear hK K;refine U.block (U.loop (fun s:Nat×List (Nat×ah)=>ar [(0,.raw v),(1,.ref (enc l)),(2,.ref (enc bs)),(6,.int .i64 l.length),(7,.int .i64 s.1)] s.2) (fun s=>s.1≤l.length∧ai (iZ (fun i=>bs.getD i false) s.1).length s.2) (fun s=>l.length-s.1) (0,os) ⟨zv4 _,h0⟩ ?_ ?_)
 ·refine aF.c4 ?_ (fun n=>rfl);simp[aV,aW]
 rintro ⟨i,osk⟩ ⟨hi,hIk⟩;simp only at hi hIk ⊢;have gk:=hI _ osk hIk;refine .ak (by decide +kernel) fun K hK =>?_;simp only[Ez,J,simprocAttr];refine .done (hK _ ?_);clear hK K;refine U.seq ?_;by_cases hlt:i<l.length
 ·have hc:=gI hlt;have hbi:∀ A,gP A 1 (i:Int) (enc bs)=some (.ref (.bool (bs.getD i false))):=fun A=>by
   rw[fJ 1 (by omega) rfl,zz1,zz8 (by omega)];rfl
  simp only[hc];refine U.bx ?_;simp only[au,J,simprocAttr];refine ⟨fun h =>?_,fun h =>?_⟩
  case refine_2=>cases h
  refine U.skip ?_;try simp only[al,simprocAttr]
  refine U.seq (U.block ?_);refine .ak (by decide +kernel) fun K hK =>?_;simp only[EA,J,simprocAttr];refine .done (hK _ ?_);clear hK K;refine U.seq ?_;have hsu:=NO (fun i=>bs.getD i false) i;cases hbv:bs.getD i false with
  |false =>
   rw[hbv] at hbi;refine .bd (by decide +kernel) fun K hK =>?_;simp only[vI,J,simprocAttr]
   try simp only[hbi,Ks,J,simprocAttr]
   refine .done (hK _ ?_);clear hK K;try simp only[al]
   refine U.bx ?_;simp only[au,J,simprocAttr];refine ⟨fun h =>?_,fun h =>?_⟩
   ·cases h
   refine U.skip ?_;try simp only[al,bJ,simprocAttr]
   refine .bd (by decide +kernel) fun K hK =>?_;simp only[vJ,J,simprocAttr];refine .done (hK _ ?_);clear hK K;try simp only[al]
   refine ⟨(i+1,osk),⟨by simp only;omega,?_⟩,by simp only;omega,?_⟩
   ·simp only[hsu,hbv,zz7,if_false,zw1];exact hIk
   ·simp only;rw[gb (by omega)];refine aF.c4 ?_ (fun n=>rfl);simp[aV,aW]
  |true =>
   rw[hbv] at hbi;obtain ⟨g1,g2⟩:=aiY (p:=fun i=>bs.getD i false) hbv hlt;have hsl:(iZ (fun i=>bs.getD i false) (i+1)).length=(iZ (fun i=>bs.getD i false) i).length+1:=by rw[hsu,hbv];simp
   have hy:=hY _ osk _ g1 hIk (fun r os2 h=>h);simp only at hy;rw[g2] at hy;refine .bd (by decide +kernel) fun K hK =>?_;simp only[vI,J,simprocAttr]
   try simp only[hbi,Ks,BQ,J,simprocAttr]
   refine bh.N0 (ow:=[]) (In:=ai ((iZ (fun i=>bs.getD i false) i).length+1)) (Ix:=Ix) hy gk (hI _) hIx rfl pB (fun os2 h2 =>?_) (fun os2 h2 =>?_)
   ·try simp only[zy8,J,simprocAttr]
    refine .done (hK _ ?_);clear hK K;try simp only[al]
    refine U.bx ?_;simp only[au,J,simprocAttr];refine ⟨fun h =>?_,fun h =>?_⟩
    ·cases h
    refine U.skip ?_;try simp only[al,bJ,simprocAttr]
    refine .bd (by decide +kernel) fun K hK =>?_;simp only[vJ,J,simprocAttr];refine .done (hK _ ?_);clear hK K;try simp only[al]
    refine ⟨(i+1,os2),⟨by simp only;omega,?_⟩,by simp only;omega,?_⟩
    ·simp only[hsl];exact h2
    ·simp only;rw[gb (by omega)];refine aF.c4 ?_ (fun n=>rfl);simp[aV,aW]
   ·try simp only[zy8,J,simprocAttr]
    refine .done (hK _ ?_);clear hK K;try simp only[al]
    refine U.bx ?_;simp only[au,J,simprocAttr];refine ⟨fun h =>?_,fun h =>?_⟩
    ·refine U.ret ?_;simp only[al,bJ];rw[fD];exact ⟨os2,[],sw (ow:=[]) (hIx os2 h2) pB,trivial,rfl,.inr h2⟩
    ·cases h
 ·have hc:=ib hlt;simp only[hc];refine U.bx ?_;simp only[au,J,simprocAttr];refine ⟨fun h =>?_,fun h =>?_⟩
  ·cases h
  have he:i=l.length:=by omega
  subst he;refine U.exit ?_;try simp only[al,bJ,simprocAttr]
  rw[lI];exact ⟨osk,[],sw (ow:=[]) gk pB,trivial,rfl,.inl hIk⟩
theorem Ow(l:List aw):aC Tryz.prog 145 [enc l] (.func 178 [.ref (enc l)]):=by
 refine aC.bu Tryz.func145 Rk S6 U9 (t7 rfl) (fun hwf W0 D0 E1 =>?_);simp only[Ao,Lo,bj];have R:=v6 @pj (v6 @bl (v6 @dM @J))
 repeat' ((first |refine U.aX (by decide +kernel) rfl fun K hK =>?_|(refine .aQ [0,1,2] hK ?_;clear hK K)|(with_reducible refine .done (hK _ ?_);clear hK K)|refine U.of rfl ?_|(with_reducible refine au.aU (fun h =>?_) (fun h =>?_) <;>try simp only[h])) <;>try simp only[aZ,R,simprocAttr])
 all_goals clear R
 all_goals rfl
def gS(l:List aw)(known:Int)(ks:List Item)(bs:List Bool):List (Nat×ah) :=
 [(1000002,.box (enc l)),(1000003,.box (.int .i64 known)),(1000005,.box (.mref 1000009)),(1000006,.box (.view 1000012 [] 1 0 l.length)),(1000009,.cq (ks.map enc) (List.replicate ks.length (.bool true))),(1000012,.box (.agg (bs.map enc)))]
theorem xN(p:Nat→Bool)(n:Nat)(b:Bool):I.b8 p (List.replicate n (.bool b))=true:=by
 induction n with
 |zero=>rfl
 |succ n ih=>simp[List.replicate_succ,I.b8,I.only,ih]
theorem ahS(ρ:Nat→Nat)(n:Nat)(b:Bool):I.cP ρ (List.replicate n (.bool b))=List.replicate n (.bool b):=by
 induction n with
 |zero=>rfl
 |succ n ih=>simp only[List.replicate_succ,I.cP,I.aO,ih]
theorem aiE(l:List aw)(known:Int)(ks:List Item)(bs:List Bool)(l':List aw)(known':Int)(ks':List Item)(bs':List Bool):fh (gS l known ks bs) (gS l' known' ks' bs'):=by
 refine ⟨fun n=>by simp only[gS,aq,aj];(repeat' split) <;>rfl,fun n x h =>?_,fun n h =>?_⟩
 ·simp only[gS,aj] at h
  repeat' split at h
  all_goals first | (cases h;done) | (simp only[u8] at h;subst h;exact ⟨by simp[gS,aq,aj,ah.only,bA,I.only,fe,xN],rfl⟩)
 ·simp only[gS,aq,aj] at h
  repeat' split at h
  all_goals first | omega | (simp at h;done)
def tK(l:List aw)(known:Int)(k:Nat)(ks:List Item)(bs:List Bool):Prop :=
 bs=List.replicate (l.length-k) false++(gu known (l.drop (l.length-k))).1∧∀ a,a∈ks↔a∈(gu known (l.drop (l.length-k))).2
theorem yw:(∀ (A:ae) n b m rest,dO A none n [] b (.mref m) rest (some (.raw (.map none)))=aA rest (A.aN n (.box (.mref m))))∧(∀ (A:ae) n b m p z lo k z2 rest,dO A none n [] b (.view m p z lo k) rest (some (.nils z2))=aA rest (A.aN n (.box (.view m p z lo k)))) ∧
  (∀ (A:ae) n b m p z lo k m' p' z' lo' k' rest,dO A none n [] b (.view m p z lo k) rest (some (.view m' p' z' lo' k'))=aA rest (A.aN n (.box (.view m p z lo k)))) :=
 ⟨fun _ _ _ _ _=>by rw[eg (s:=none) (v:=.mref _) (old:=.raw _) rfl rfl rfl,fR],fun _ _ _ _ _ _ _ _ _ _=>by rw[eg (s:=none) (v:=.view ..) (old:=.nils _) rfl rfl rfl,fR],fun _ _ _ m p z lo k m' p' z' lo' k' _=>by rw[eg (s:=none) (v:=.view m p z lo k) (old:=.view m' p' z' lo' k') rfl rfl rfl,fR]⟩
theorem yx(known:Int):∀ l:List aw,(gu known l).1.length=l.length
 | []=>rfl
 |x::l=>by simp only[gu,zv5,yx known l]
theorem Nt{l:List aw}{known:Int}{k:Nat}{ks:List Item}{bs:List Bool}(h:tK l known k ks bs)(hk:k≤l.length):bs.length=l.length:=by
 rw[h.1,zz5,List.length_replicate,yx,zx0];omega
def qE(l:List aw)(known:Int)(i:Nat)(ks:List Item):Bool:=decide ((ab l i).known≤known) && !decide ((ab l i).bt∈ks)
theorem aiC{l:List aw}{known:Int}{k i:Nat}{ks:List Item}{bs:List Bool}(hk:k<l.length)(hi:i=l.length-1-k)(h:tK l known k ks bs) :
  tK l known (k+1) (if (qE l known i ks&&((ab l i).kind==0))=true then mJ ks (ab l i).j4 else ks) (bs.set i (qE l known i ks)):=by
 have hkd:((ab l i).kind==0)=decide ((ab l i).kind=0):=rfl;rw[hkd];obtain ⟨h1,h2⟩:=h;have e1:l.length-k=i+1:=by omega
 have e2:l.length-(k+1)=i:=by omega
 rw[e1] at h1 h2;have hil:i<l.length:=by omega
 have hd:l.drop i=ab l i::l.drop (i+1):=by rw[zv2 hil,iC hil]
 have hb:qE l known i ks=(decide ((ab l i).known≤known) && !(gu known (l.drop (i+1))).2.contains (ab l i).bt):=by
  simp only[qE]
  congr 2
  rw[Bool.eq_iff_iff,decide_eq_true_eq,List.contains_iff_mem];exact h2 _
 refine ⟨?_,fun a =>?_⟩
 ·rw[e2,hd,h1];simp only[gu,←hb];rw[List.replicate_succ',zz3,List.set_append_right _ _ (by simp)];simp
 ·rw[e2,hd];simp only[gu,←hb];split
  ·rw[afO,zw9,h2]
  ·exact h2 a
theorem Ob(l:List aw)(known:Int)(hl:l.length≤60):aC Tryz.prog 105 [enc l,enc known] (.func 146 [.ref (enc l),.ref (enc (iX l known))]):=by
 refine aC.bu Tryz.func105 QT SF UI (t7 rfl) (fun hwf W0 D0 E1 =>?_);simp only[zR,KY,bj,zz4];clear hwf;refine .ak (by decide +kernel) fun K hK =>?_;simp only[Dp,J,simprocAttr]
 try simp only[bl,J,simprocAttr]
 refine .done (hK _ ?_);clear hK K;refine .ak (by decide +kernel) fun K hK =>?_;simp only[Dq,J,simprocAttr]
 try simp only[ew,yw,J,simprocAttr]
 refine .done (hK _ ?_);clear hK K;refine .ak (by decide +kernel) fun K hK =>?_;simp only[Dr,J,simprocAttr]
 try simp only[ew,bP,bl,J,simprocAttr]
 rw[afU (by omega) (by simp[maxLen];omega)]
 try simp only[yw,J,simprocAttr]
 refine .done (hK _ ?_);clear hK K;refine U.seq (U.seq ?_);refine .bd (by decide +kernel) fun K hK =>?_;simp only[Ds,J,simprocAttr]
 try simp only[bl,J,simprocAttr]
 refine .lead _ (Ow l) ?_
 try simp only[J,simprocAttr]
 refine .done (hK _ ?_);clear hK K;try simp only[al]
 refine U.block (U.kH (osb0:=gS l known [] (List.replicate l.length false)) (tsR:=[(2,.ptr 1000002 []),(3,.ptr 1000003 []),(5,.ptr 1000005 []),(6,.ptr 1000006 [])]) (ρ:=[(1999999,999999),(1000002,2),(1000003,3),(1000005,5),(1000006,6),(1000009,9),(1000012,12)])
  (fun k os=>∃ ks bs,os=gS l known ks bs∧tK l known k ks bs)
  (fun _ _=>False)
  rfl (t7 rfl) (by simp only[J,simprocAttr]) (by simp[I.bW,I.bp,dM]) BL (OS l hl) (fun _=>rfl) rfl rfl rfl (fun o=>⟨?_,?_⟩) ?_ ?_ ?_ ⟨[],_,rfl,?_⟩ ?_ ?_ ?_)
 ·intro n x hx;simp only[dy,gS,aj] at hx
  repeat' split at hx
  all_goals first | (cases hx;done) | (subst_vars;simp only[u8] at hx;subst hx;simp[dy,gS,aq,bD,aj,ah.aO,I.aO,I.cP,jR,ah.only,I.only,I.b8,bA,ah.eH,xN,ahS,Cp])
 ·intro a b ha hb;simp only[dy,gS,aq,aj] at ha hb
  repeat' split at ha
  all_goals first | (simp at ha;done) | skip
  all_goals (repeat' split at hb)
  all_goals first | (simp at hb;done) | (subst_vars;simp[bD])
 ·simp[mF,aW,I.aO,bD,I.only,gS,aq,aj]
 ·rintro k os ⟨ks,bs,rfl,_⟩;exact aiE ..
 ·rintro e os h;exact h.elim
 ·exact ⟨by simp[gu],fun a=>by simp[gu]⟩
 ·rintro k osb hk ⟨ks,bs,rfl,hst⟩ W1 D1 E1 afp o1 o2;have hbl:=Nt hst (Nat.le_of_lt hk);obtain ⟨i,hi⟩:∃ i,i=l.length-1-k:=⟨_,rfl⟩
  have hil:i<bs.length:=by omega
  have hil2:i<l.length:=by omega
  have hstep:=aiC hk hi hst;have hv:∀ fs,ma 1000012 [] 1 0 l.length 1 (i:Int) (some fs)=some (.ptr 1000012 [i]):=fun fs=>by
   have:=Jz (m:=1000012) (sz:=1) (lo:=0) (l:=l.length) (i:=i) (fs:=fs) hil2
   rwa [zz4] at this
  have hat2:∀ b,jO i [] (some ((bs.set i b).map enc))=some (.bool b):=fun b=>by
   rw[zy (by simpa using hil)];simp[zz1,hil]
  have hset:=fun (A:ae) v ao rest=>aiI (A:=A) (n:=1000012) hil v ao rest;have hat:=zy hil;have hlk:=afC qg (ab l i).bt ks;simp only[qN,dy,gS,←hi];have R:=v6 @bl @J
  repeat' ((first |(with_reducible refine .guard (fun hb =>?_) (fun hb =>?_) <;>try simp only[hb])|refine U.aX (by decide +kernel) rfl fun K hK =>?_|(refine .aQ [0,1,2,3,4,5,6,7,8,14,15,16,39] hK ?_;clear hK K)|(with_reducible refine .done (hK _ ?_);clear hK K)|refine U.of rfl ?_|(with_reducible refine au.aU (fun h =>?_) (fun h =>?_) <;>try simp only[h])) <;>try simp only[aZ,R,simprocAttr])
  all_goals clear R
  refine ⟨by simp[],?_⟩;rcases h1:decide ((ab l i).known≤known) <;>rcases h2:decide ((ab l i).bt∈ks) <;>rcases h3:(ab l i).kind==0
  all_goals
   simp only[qE,h1,h2,h3,Bool.not_true,Bool.not_false,Bool.and_true,Bool.and_false,zz7,if_true,if_false] at hstep;have hup:=af1 qg (ab l i).j4 ks
   try simp only[J,simprocAttr]
   have R:=v6 @h1 (v6 @h2 (v6 @h3 (v6 @hv (v6 @hset (v6 @hat (v6 @hat2 (v6 @hlk (v6 @hup (v6 @eJ (v6 @yw (v6 @ew (v6 @eB (v6 @bP (v6 @bl @J))))))))))))))
   repeat' ((first |(with_reducible refine .guard (fun hb =>?_) (fun hb =>?_) <;>try simp only[hb])|refine U.aX (by decide +kernel) rfl fun K hK =>?_|(refine .aQ [0,1,2,3,4,5,6,7,8,14,15,16,39] hK ?_;clear hK K)|(with_reducible refine .done (hK _ ?_);clear hK K)|refine U.of rfl ?_|(with_reducible refine au.aU (fun h =>?_) (fun h =>?_) <;>try simp only[h])) <;>try simp only[aZ,R,simprocAttr])
   all_goals clear R
   generalize bs.set i _=ajj at hstep ⊢
   try generalize mJ ks _=ks2 at hstep ⊢
   refine ⟨gS l known _ _,?_,_,_,rfl,hstep⟩;intro n x hx;simp only[dy,gS,aj] at hx
   (repeat' split at hx) <;>first
    |(cases hx;done)
    |(subst_vars;simp only[u8] at hx;subst hx;simp[gS,dy,aq,ar,aj,ah.only,I.only,bA,ah.eH,fe,xN])
 ·rintro os ⟨ks,bs,rfl,hst⟩;have hbs:bs=iX l known:=by
   have:=hst.1;simpa[iX] using this
  have hbl:=Nt hst (zz6 _)
  try simp only[gS,jn,jR,iR,zy0,zy8,al,bJ,simprocAttr]
  have R:=v6 @pj (v6 @bl @J)
  repeat' ((first |(with_reducible refine .guard (fun hb =>?_) (fun hb =>?_) <;>try simp only[hb])|refine U.aX (by decide +kernel) rfl fun K hK =>?_|(refine .aQ [0,1,2,3,4,5,6,7,8,14,15,16,39] hK ?_;clear hK K)|(with_reducible refine .done (hK _ ?_);clear hK K)|refine U.of rfl ?_|(with_reducible refine au.aU (fun h =>?_) (fun h =>?_) <;>try simp only[h])) <;>try simp only[aZ,R,simprocAttr])
  all_goals clear R
  have hfd:=fun A (ho:A.o 12=some (.box (.agg (bs.map enc))))=>X6 (A:=A) (m:=8) (n:=12) (sz:=1) ho rfl hbl.symm
  try simp only[gZ,J,simprocAttr]
  rw[hfd _ rfl]
  try simp only[hbs,J,simprocAttr]
 ·rintro e os h;exact h.elim
def fU(l:List aw)(x:Int):Int:=(ab l x.toNat).day
def jg(l:List aw)(x:Int):Prop:=0≤x∧x<l.length
def lW(l:List aw):Prop:=∀ i,i<l.length→0≤(ab l i).day∧(ab l i).day≤100000
def dA(l:List aw)(x y:Int):Prop:=fU l x<fU l y∨(fU l x=fU l y∧x<y)
def db(l:List aw)(s:List Int):Prop:=s.Pairwise (dA l)
theorem wX{l:List aw}{x y z:Int}(h:dA l x y)(k:dA l y z):dA l x z:=by
 simp only[dA] at *;omega
theorem sO{l:List aw}{x y:Int}(h:y<x):dA l x y↔fU l x<fU l y:=by
 simp only[dA];omega
theorem sN{l:List aw}{x y:Int}(h:y<x)(k:¬ fU l x<fU l y):dA l y x:=by
 simp only[dA];omega
theorem rq(l:List aw)(hd:lW l)(hl:l.length≤60)(x y:Int)(hx:jg l x)(hy:jg l y):aC Tryz.prog 138 [.int .i64 x,.int .i64 y,.ref (enc l)] (.int .i64 (fU l x-fU l y)):=by
 refine aC.bu Tryz.func138 Re S0 U3 (t7 rfl) (fun hwf W0 D0 E1 =>?_);simp only[Ai,Li,bj,zz4,Nat.reduceAdd];clear hwf;obtain ⟨i,rfl⟩:∃ i:Nat,x=i:=⟨x.toNat,by have:=hx.1;omega⟩
 obtain ⟨k,rfl⟩:∃ k:Nat,y=k:=⟨y.toNat,by have:=hy.1;omega⟩
 have hi:i<l.length:=by have:=hx.2;omega
 have hk:k<l.length:=by have:=hy.2;omega
 have v1:=kz hi;have v2:=kz hk;have d1:=hd i hi;have d2:=hd k hk;have hw:IntKind.i64.wrap ((ab l i).day-(ab l k).day)=(ab l i).day-(ab l k).day:=cA _ (by omega) (by omega);have R:=v6 @v1 (v6 @v2 (v6 @hw (v6 @bl @J)))
 repeat' ((first |refine U.aX (by decide +kernel) rfl fun K hK =>?_|(refine .aQ [0,1,2,5] hK ?_;clear hK K)|(with_reducible refine .done (hK _ ?_);clear hK K)|refine U.of rfl ?_|(with_reducible refine au.aU (fun h =>?_) (fun h =>?_) <;>try simp only[h])) <;>try simp only[aZ,R,simprocAttr])
 all_goals clear R
 simp only[fU,Int.toNat_natCast]
theorem aiQ{A C:List Int}{x y:Int}{i j:Nat}(hj:A.length=j)(hi:j+1=i):kb (A++y::x::C) i j=A++x::y::C:=by
 subst hj hi;have e1:(A++y::x::C).getD A.length 0=y:=by simp[zz1]
 have e2:(A++y::x::C).getD (A.length+1) 0=x:=by
  rw[zz1,zx9 (by omega)];simp
 simp only[kb,e1,e2];rw[List.set_append_right _ _ (by omega)];have:A.length+1-A.length=1:=by omega
 rw[this,List.set_append_right _ _ (by omega),Nat.sub_self];simp
theorem aiS{A C:List Int}{x y:Int}{i j:Nat}(hi:A.length=i)(hj:i+1=j):kb (A++x::y::C) i j=A++y::x::C:=by
 have:=NK (A:=A) (B:=[]) (C:=C) (x:=x) (y:=y) (i:=i) (j:=j) hi (by simp;omega);simpa using this
def dT(p t rest:List Int)(x:Int)(c:Nat):List Int:=p++(t.take c++x::t.drop c)++rest
theorem wK{p t rest:List Int}{x:Int}{c:Nat}(hc:c≤t.length):(dT p t rest x c).length=p.length+t.length+1+rest.length:=by
 simp only[dT,zz5,zx3,zv5,zx0];omega
theorem ae0{p t rest:List Int}{x:Int}{c a:Nat}(ha:p.length=a)(hc:c≤t.length):(dT p t rest x c).getD (a+c) 0=x:=by
 subst ha;have hl:(t.take c).length=c:=by rw[zx3];omega
 simp only[dT];rw[zz1,zz3,zx9 (by omega)];have:p.length+c-p.length=c:=by omega
 rw[this,zz3,zx9 (by omega),hl,Nat.sub_self];rfl
theorem ae1{p t rest:List Int}{x:Int}{c a:Nat}(ha:p.length=a)(hc:c<t.length):(dT p t rest x (c+1)).getD (a+c) 0=t[c]:=by
 subst ha;simp only[dT];rw[zz1,zz3,zx9 (by omega)];have:p.length+c-p.length=c:=by omega
 rw[this,zz3,zx1 (by rw[zx3];omega),List.getElem?_take_of_lt (by omega),zz8 hc];rfl
theorem Js{p t rest:List Int}{x:Int}{c a:Nat}(ha:p.length=a)(hc:c<t.length):kb (dT p t rest x (c+1)) (a+c+1) (a+c)=dT p t rest x c:=by
 have e1:dT p t rest x (c+1)=(p++t.take c)++t[c]::x::(t.drop (c+1)++rest):=by
  simp only[dT];rw[zy5 hc];simp only[zz3,zy0,zy8]
 have e2:dT p t rest x c=(p++t.take c)++x::t[c]::(t.drop (c+1)++rest):=by
  simp only[dT];rw[zv2 hc];simp only[zz3,zy0]
 rw[e1,e2];exact aiQ (by rw[zz5,zx3];omega) rfl
theorem yr{l:List aw}{t:List Int}{x:Int}{c:Nat}(hs:db l t)(h1:∀ y∈t.take c,dA l y x)(h2:∀ y∈t.drop c,dA l x y):db l (t.take c++x::t.drop c):=by
 have h:=hs;unfold db at *;rw[←zy9 c t,List.pairwise_append] at h;rw[List.pairwise_append];refine ⟨h.1,?_,fun y hy z hz =>?_⟩
 ·rw[List.pairwise_cons];exact ⟨h2,h.2.1⟩
 ·rcases zw9.1 hz with rfl | hz
  ·exact h1 y hy
  ·exact h.2.2 y hy z hz
theorem aiy{l:List aw}{t:List Int}{x:Int}{c:Nat}(hs:db l t)(hc:c<t.length)(h:dA l t[c] x):∀ y∈t.take (c+1),dA l y x:=by
 intro y hy;rw[zy5 hc,zy7,List.mem_singleton] at hy;rcases hy with hy | rfl
 ·refine wX ?_ h;have h3:=hs;unfold db at h3;rw[←zy9 c t,List.pairwise_append] at h3;exact h3.2.2 y hy _ (by rw[zv2 hc];exact List.mem_cons_self)
 ·exact h
def mG(l:List aw)(p s q:List Int):cR:=fun r os'=>r=.tuple []∧∃ s',s'.Perm s∧db l s'∧os'=cu 1000000 (p++s'++q)
structure ug where
 t:List Int
 k:Nat
theorem y6(l:List aw)(hd:lW l)(hl:l.length≤60)(p s q:List Int)(a b n:Nat)(ha:p.length=a)(hb:a+s.length=b)(hn:b≤n)(hnl:n≤(p++s++q).length)(hN:n≤1000)(hs:s.Pairwise (· < ·))(hS:∀ x∈s,jg l x) :
  cC Tryz.prog 203 [.view 1000000 [] 1 0 n,enc (a:Int),enc (b:Int),.func 138 [.ref (enc l)]] (cu 1000000 (p++s++q)) (mG l p s q):=by
 refine cC.bu Tryz.func203 BN BU B8 (t7 rfl) (t7 rfl) nq (fun hwf W0 D0 E1 =>?_);simp only[uB,x0,bj,zz4,Nat.reduceAdd];clear hwf;have w1:=gb (i:=a) (by omega);refine .ak (by decide +kernel) fun K hK =>?_;simp only[vV,J,simprocAttr]
 try simp only[w1,simprocAttr]
 refine .done (hK _ ?_);clear hK K;refine U.block (U.loop (fun g:ug=>ar [(0,.view 1000000 [] 1 0 n),(1,.int .i64 a),(2,.int .i64 b),(3,.func 138 [.ref (enc l)]),(8,.int .i64 ((a+g.k:Nat):Int))] (cu 1000000 (p++g.t++s.drop g.k++q))) (fun g=>1≤g.k∧g.t.Perm (s.take g.k)∧db l g.t∧a+g.k≤b+1) (fun g=>s.length-g.k) ⟨s.take 1,1⟩ ⟨zz6 _,.refl _,?_,by simp only;omega⟩ ?_ ?_)
 ·show db l (s.take 1)
  cases s <;>simp[db]
 ·have e:p++s.take 1++s.drop 1++q=p++s++q:=by rw[zz3 p,zy9]
  simp only[e];refine aF.c4 ?_ (fun n=>rfl);simp[aV,aW]
 rintro ⟨t,k⟩ ⟨g1,g2,g3,g4⟩;simp only at g1 g2 g3 g4 ⊢;refine U.seq (U.seq ?_);refine .bd (by decide +kernel) fun K hK =>?_;simp only[Gv,J,simprocAttr];refine .done (hK _ ?_);clear hK K;try simp only[al]
 refine U.bx ?_;simp only[au,J,simprocAttr];refine ⟨fun h =>?_,fun h =>?_⟩
 rotate_left
 ·have hk:s.length≤k:=by simp at h;omega
  refine U.exit ?_;try simp only[al,bJ,simprocAttr]
  rw[lI];refine nj rfl ?_ ⟨rfl,t,?_,g3,rfl⟩
  ·rw[zw7 hk,zw1]
  ·rwa [zw6 hk] at g2
 have hk:k<s.length:=by simp at h;omega
 have htl:t.length=k:=by rw[g2.length_eq,zx3];omega
 obtain ⟨x,hx⟩:∃ x,x=s[k]:=⟨_,rfl⟩
 have hxS:jg l x:=hS x (by rw[hx];exact zy6 _);have htS:∀ y∈t,jg l y∧y<x:=fun y hy=>by
  have hy2:=g2.mem_iff.1 hy;refine ⟨hS y (List.mem_of_mem_take hy2),?_⟩;obtain ⟨j,hj,rfl⟩:=zv6 hy2;rw[zx3] at hj;rw[List.getElem_take,hx];exact List.pairwise_iff_getElem.1 hs j k (by omega) hk (by omega)
 obtain ⟨rest,hrest⟩:∃ rest,rest=s.drop (k+1)++q:=⟨_,rfl⟩
 have e0:p++t++s.drop k++q=dT p t rest x k:=by
  rw[hrest,dT,zw6 (l:=t) (by omega),show t.drop k=[] from zw7 (by omega),zv2 hk,←hx];simp only[zz3,zy0,zy8]
 have hnr:n≤p.length+t.length+1+rest.length:=by
  rw[hrest];simp only[zz5,zx0] at hnl ⊢;omega
 rw[e0];refine U.skip ?_;try simp only[al,simprocAttr]
 refine U.seq (U.block ?_);refine .ak (by decide +kernel) fun K hK =>?_;simp only[Gw,J,simprocAttr];refine .done (hK _ ?_);clear hK K;refine U.block (U.loop (fun c:Nat=>ar [(0,.view 1000000 [] 1 0 n),(1,.int .i64 a),(2,.int .i64 b),(3,.func 138 [.ref (enc l)]),(8,.int .i64 ((a+k:Nat):Int)),(9,.int .i64 ((a+c:Nat):Int))] (cu 1000000 (dT p t rest x c))) (fun c=>c≤k∧∀ y∈t.drop c,dA l x y) (fun c=>c) k ⟨zz6 _,?_⟩ ?_ ?_)
 ·rw[zw7 (by omega)];intro y hy;cases hy
 ·refine aF.c4 ?_ (fun n=>rfl);simp[aV,aW]
 rintro c ⟨hc,hgt⟩;have bg:∀ c,c≤k→(∀ y∈t.drop c,dA l x y)→(∀ y∈t.take c,dA l y x)→∃ s':ug,(1≤s'.k∧s'.t.Perm (s.take s'.k)∧db l s'.t∧a+s'.k≤b+1)∧s.length-s'.k<s.length-k∧s'.k=k+1∧dT p t rest x c=p++s'.t++s.drop s'.k++q:=fun c hck h2 h1=>by
  refine ⟨⟨t.take c++x::t.drop c,k+1⟩,⟨by simp only;omega,?_,yr g3 h1 h2,by simp only;omega⟩,by simp only;omega,rfl,?_⟩
  ·simp only;rw[zy5 hk,←hx];refine List.perm_middle.trans ?_;rw[zy9];exact (g2.cons x).trans (List.perm_append_comm (l₁:=[x]))
  ·simp only[dT,hrest,zz3]
 have hexit:∀ ts,(∀ y∈t.take c,dA l y x)→Abs.b9 ts 0=.view 1000000 [] 1 0 n→Abs.b9 ts 1=.int .i64 a→Abs.b9 ts 2=.int .i64 b→Abs.b9 ts 3=.func 138 [.ref (enc l)]→Abs.b9 ts 8=.int .i64 ((a+(k+1):Nat):Int)→∃ s':ug,(1≤s'.k∧s'.t.Perm (s.take s'.k)∧db l s'.t∧a+s'.k≤b+1)∧s.length-s'.k<s.length-k∧Abs.aF (ar ts (cu 1000000 (dT p t rest x c))) (ar [(0,.view 1000000 [] 1 0 n),(1,.int .i64 a),(2,.int .i64 b),(3,.func 138 [.ref (enc l)]),(8,.int .i64 ((a+s'.k:Nat):Int))] (cu 1000000 (p++s'.t++s.drop s'.k++q))):=fun ts h1 t0 t1 t2 t3 t8=>by
  obtain ⟨s',k1,k2,k3,k4⟩:=bg c hc hgt h1;refine ⟨s',k1,k2,?_⟩;rw[k4,k3];refine aF.c4 ?_ (fun n=>rfl);simp only[aV,t0,t1,t2,t3,t8,and_self]
 have hw:=gb (i:=a+k) (by omega);have hws:(dT p t rest x c).length=p.length+t.length+1+rest.length:=wK (by omega);simp only[cu] at hexit ⊢;cases c with
 |zero =>
  have hc0:decide ((a:Int)<((a+0:Nat):Int))=false:=by simp
  have R:=v6 @hc0 (v6 @hw (v6 @bl @J))
  repeat' ((first |(with_reducible refine .guard (fun hb =>?_) (fun hb =>?_) <;>try simp only[hb])|refine U.aX (by decide +kernel) rfl fun K hK =>?_|(refine .aQ [0,1,2,3,8,9,14,34] hK ?_;clear hK K)|(with_reducible refine .done (hK _ ?_);clear hK K)|refine U.of rfl ?_|(with_reducible refine au.aU (fun h =>?_) (fun h =>?_) <;>try simp only[h])) <;>try simp only[aZ,R,simprocAttr])
  all_goals clear R
  exact hexit _ (by simp) rfl rfl rfl rfl rfl
 |succ c =>
  have hct:c<t.length:=by omega
  have hc0:decide ((a:Int)<((a+(c+1):Nat):Int))=true:=by simp;omega
  have wd:IntKind.i64.wrap (((a+(c+1):Nat):Int)-1)=((a+c:Nat):Int):=by rw[cA _ (by omega) (by omega)];omega
  have gx:=ae0 (p:=p) (t:=t) (rest:=rest) (x:=x) (c:=c+1) ha (by omega);have gy:=ae1 (p:=p) (t:=t) (rest:=rest) (x:=x) (c:=c) ha hct;have hstep:=Js (p:=p) (t:=t) (rest:=rest) (x:=x) (c:=c) ha hct;obtain ⟨hyS,hyx⟩:=htS t[c] (zy6 _);have hcmp:=rq l hd hl x t[c] hxS hyS;generalize hws0:dT p t rest x (c+1)=ws at *;have hi1:a+(c+1)<n:=by omega
  have hj1:a+c<n:=by omega
  obtain ⟨i1,hi1e⟩:∃ i1,i1=a+(c+1):=⟨_,rfl⟩
  obtain ⟨j1,hj1e⟩:∃ j1,j1=a+c:=⟨_,rfl⟩
  have hij:a+c+1=i1:=by omega
  rw[hij] at hstep;rw[←hi1e] at hi1 gx hc0 wd ⊢;rw[←hj1e] at hj1 gy wd hstep;have v1:=jh (n:=n) (i:=i1) hi1;have v2:=jh (n:=n) (i:=j1) hj1;have l1:=gA (xs:=ws) (i:=i1) (by omega);have l2:=gA (xs:=ws) (i:=j1) (by omega);have s1:=fun (A:ae) v ao rest=>nx (A:=A) (n:=1000000) (xs:=ws) (i:=i1) (by omega) v ao rest;obtain ⟨ws2,hws2⟩:∃ ws2,ws2=ws.set i1 (ws.getD j1 0):=⟨_,rfl⟩
  have hw2l:ws2.length=ws.length:=by rw[hws2];simp
  have s2:=fun (A:ae) v ao rest=>nx (A:=A) (n:=1000000) (xs:=ws2) (i:=j1) (by omega) v ao rest;have l3:=gA (xs:=ws2) (i:=j1) (by omega);rw[gx] at l1;rw[gy] at l2;rw[gy] at hws2;have hst2:ws2.set j1 x=dT p t rest x c:=by rw[←hstep];simp only[kb,gx,gy,←hws2]
  cases hlt:decide (fU l x-fU l t[c]<0) with
  |true =>
   have R:=v6 @hc0 (v6 @hw (v6 @wd (v6 @v1 (v6 @v2 (v6 @l1 (v6 @l2 (v6 @l3 (v6 @s1 (v6 @s2 (v6 @hst2 (v6 @hlt (v6 @eB (v6 @dM (v6 @bl @J))))))))))))))
   repeat' ((first |(with_reducible refine .guard (fun hb =>?_) (fun hb =>?_) <;>try simp only[hb])|refine U.aX (by decide +kernel) rfl fun K hK =>?_|refine .flat _ (hcmp) rfl ?_|(refine .aQ [0,1,2,3,8,9,14,34] hK ?_;clear hK K)|(with_reducible refine .done (hK _ ?_);clear hK K)|refine U.of rfl ?_|(with_reducible refine au.aU (fun h =>?_) (fun h =>?_) <;>try simp only[h])) <;>try simp only[aZ,R,←hws2,zy0,simprocAttr])
   all_goals clear R
   refine ⟨c,⟨by omega,fun y hy =>?_⟩,by omega,?_⟩
   ·rw[zv2 hct] at hy;rcases zw9.1 hy with rfl | hy
    ·rw[sO hyx];simp at hlt;omega
    ·exact hgt y hy
   ·rw[hj1e];refine aF.c4 ?_ (fun n =>?_)
    ·simp[aV,aW]
    ·simp only[aj];split <;>rfl
  |false =>
   have R:=v6 @hc0 (v6 @hw (v6 @wd (v6 @v1 (v6 @v2 (v6 @l1 (v6 @l2 (v6 @hlt (v6 @eB (v6 @dM (v6 @bl @J))))))))))
   repeat' ((first |(with_reducible refine .guard (fun hb =>?_) (fun hb =>?_) <;>try simp only[hb])|refine U.aX (by decide +kernel) rfl fun K hK =>?_|refine .flat _ (hcmp) rfl ?_|(refine .aQ [0,1,2,3,8,9,14,34] hK ?_;clear hK K)|(with_reducible refine .done (hK _ ?_);clear hK K)|refine U.of rfl ?_|(with_reducible refine au.aU (fun h =>?_) (fun h =>?_) <;>try simp only[h])) <;>try simp only[aZ,R,zy0,simprocAttr])
   all_goals clear R
   exact hexit _ (aiy g3 hct (sN hyx (by simp at hlt;omega))) rfl rfl rfl rfl rfl
def na(key:Nat→Int)(a b:Nat):Prop:=key a<key b∨(key a=key b∧a<b)
theorem wJ(key:Nat→Int)(i:Nat)(o:List Nat):(iJ key i o).Perm (i::o):=by
 have h:(o.takeWhile fun k=>decide (key k≤key i))++(o.dropWhile fun k=>decide (key k≤key i))=o:=List.takeWhile_append_dropWhile;have:=(List.perm_middle (a:=i) (l₁:=o.takeWhile fun k=>decide (key k≤key i)) (l₂:=o.dropWhile fun k=>decide (key k≤key i)))
 rw[h] at this;exact this
theorem Jr(key:Nat→Int)(i:Nat):∀ o:List Nat,o.Pairwise (na key)→(∀ x∈o,x<i)→(iJ key i o).Pairwise (na key)
 | [],_,_=>by simp[iJ]
 |a::o,hs,hi=>by
  obtain ⟨h1,h2⟩:=List.pairwise_cons.1 hs;by_cases ha:key a≤key i
  ·have e:iJ key i (a::o)=a::iJ key i o:=by simp[iJ,ha]
   rw[e];refine List.pairwise_cons.2 ⟨fun b hb =>?_,Jr key i o h2 fun x hx=>hi x (by simp[hx])⟩;rcases zw9.1 ((wJ key i o).mem_iff.1 hb) with rfl | hb
   ·have:=hi a (by simp);simp only[na];omega
   ·exact h1 b hb
  ·have e:iJ key i (a::o)=i::a::o:=by simp[iJ,ha]
   rw[e];refine List.pairwise_cons.2 ⟨fun b hb =>?_,hs⟩;rcases zw9.1 hb with rfl | hb
   ·simp only[na];omega
   ·have:=h1 b hb;simp only[na] at *;omega
theorem tj(key:Nat→Int):∀ (l o:List Nat),o.Pairwise (na key)→l.Pairwise (· < ·)→(∀ x∈o,∀ y∈l,x<y)→(l.foldl (fun o i=>iJ key i o) o).Perm (o++l)∧(l.foldl (fun o i=>iJ key i o) o).Pairwise (na key)
 | [],o,ho,_,_=>by simp[ho]
 |i::l,o,ho,hl,hx=>by
  obtain ⟨h1,h2⟩:=List.pairwise_cons.1 hl;have:=tj key l (iJ key i o) (Jr key i o ho fun x h=>hx x h i (by simp)) h2 fun x h y hy=>by
   rcases zw9.1 ((wJ key i o).mem_iff.1 h) with rfl | h
   ·exact h1 y hy
   ·exact hx x h y (by simp[hy])
  refine ⟨this.1.trans ?_,this.2⟩;exact ((wJ key i o).append_right l).trans List.perm_middle.symm
def du(l:List Nat):List Int:=l.map fun n:Nat=>(n:Int)
def lf(l:List aw)(day known:Int):List Int:=du (iA l day known)
def pA(l:List aw)(day known:Int):List Int:=du (jm l day known)
theorem aiL(l:List aw)(known:Int):(gv l known).Pairwise (· < ·):=List.Pairwise.filter _ List.pairwise_lt_range
theorem NC{l:List aw}{known:Int}{i:Nat}(h:i∈gv l known):i<l.length:=by
 simp only[gv,zw5,zx4] at h;exact h.1
theorem rW(l:List aw)(day known:Int):(iA l day known).Pairwise (· < ·):=List.Pairwise.filter _ (aiL l known)
theorem Cl{l:List aw}{day known:Int}{i:Nat}(h:i∈iA l day known):i<l.length:=NC (zw5.1 h).1
theorem XF(l:List aw)(day known:Int):(lf l day known).Pairwise (· < ·):=by
 refine List.pairwise_map.2 ((rW l day known).imp fun {a b} h =>?_)
 show (a:Int)<(b:Int)
 omega
theorem XE{l:List aw}{day known:Int} : ∀ x∈lf l day known,jg l x:=fun x hx=>by
 obtain ⟨i,hi,rfl⟩:=zx5.1 hx;have:=Cl hi;exact ⟨by omega,by omega⟩
theorem uX(l:List aw)(day known:Int):(iA l day known).length≤l.length:=by
 have h1:=zv3 (fun i=>decide ((ab l i).kind≠0)&&decide ((ab l i).day≤day)) (gv l known);have h2:=zv3 (fun i=>(iX l known).getD i false) (List.range l.length);rw[List.length_range] at h2;exact zv7 h1 h2
theorem ahl{l:List aw}{day known:Int}{s:List Int}(hp:s.Perm (lf l day known))(hs:db l s):s=pA l day known:=by
 have h0:=tj (fun i=>(ab l i).day) (iA l day known) [] (by simp) (rW l day known) (by simp);have h1:(pA l day known).Perm (lf l day known):=h0.1.map _;have h2:db l (pA l day known):=by
  refine List.pairwise_map.2 (h0.2.imp fun {a b} h =>?_);simp only[na] at h;simp only[dA,fU,Int.toNat_natCast];omega
 refine List.Perm.eq_of_pairwise (fun a b _ _ h k =>?_) hs h2 (hp.trans h1.symm);simp only[dA] at h k;omega
theorem ahn{l:List aw}{day known:Int}{i:Nat}(h:i∈jm l day known):i∈iA l day known:=by
 have h0:=tj (fun i=>(ab l i).day) (iA l day known) [] (by simp) (rW l day known) (by simp);exact h0.1.mem_iff.1 h
theorem KH(l:List aw)(day known:Int):(jm l day known).length=(iA l day known).length:=by
 have h0:=tj (fun i=>(ab l i).day) (iA l day known) [] (by simp) (rW l day known) (by simp);exact h0.1.length_eq
theorem agT{x:aw}(h:j6 x=true):0≤x.day∧x.day≤100000:=by
 simp only[j6,cm,zz2,decide_eq_true_eq] at h;omega
theorem NA(l:List aw)(known:Int):(iX l known).length=l.length:=yx known l
theorem O0(el:List aw):aC Tryz.prog 203 [enc ([]:List Int),.int .i64 0,.int .i64 0,.func 138 [.ref (enc el)]] (.tuple []):=by
 refine aC.bu Tryz.func203 BN BU B8 (t7 rfl) (fun hwf W0 D0 E1 =>?_);simp only[uB,x0,bj,zz4,Nat.reduceAdd];clear hwf;have hc:decide ((1:Int)<0)=false:=by decide
 have hw:IntKind.i64.wrap 1=1:=by decide
 refine .ak (by decide +kernel) fun K hK =>?_;simp only[vV,J,Nat.reduceEqDiff,reduceIte];refine .done (hK _ ?_);clear hK K;refine U.block (U.loop (fun _:Unit=>ar [(2,.int .i64 0),(8,.int .i64 1)] []) (fun _=>True) (fun _=>0) () trivial ?_ (fun _ _ =>?_))
 ·refine aF.bY ?_ ?_ ?_ ?_ <;>simp[*,aV,bO,bM,br,aW,I.only]
 have R:=v6 @hc (v6 @gZ (v6 @bP (v6 @bl @J)))
 repeat' ((first |(with_reducible refine .guard (fun hb =>?_) (fun hb =>?_) <;>try simp only[hb])|refine U.aX (by decide +kernel) rfl fun K hK =>?_|(refine .aQ [0,1,2,3,8,9,14,34] hK ?_;clear hK K)|(with_reducible refine .done (hK _ ?_);clear hK K)|refine U.of rfl ?_|(with_reducible refine au.aU (fun h =>?_) (fun h =>?_) <;>try simp only[h])) <;>try simp only[aZ,R,Nat.reduceEqDiff,reduceIte,Nat.reduceBEq])
 all_goals clear R
 rfl
theorem OM(el:List aw):aC Tryz.prog 171 [enc ([]:List Int),.int .i64 0,.func 138 [.ref (enc el)]] (.tuple []):=by
 refine aC.bu Tryz.func171 BK BS B6 (t7 rfl) (fun hwf W0 D0 E1 =>?_);simp only[uz,xY,bj,zz4,Nat.reduceAdd];clear hwf;have hc:decide ((20:Int)≤0)=false:=by decide
 have hc2:decide ((20:Int)<0)=false:=by decide
 refine .ak (by decide +kernel) fun K hK =>?_;simp only[vM,J];refine .done (hK _ ?_);clear hK K;refine .ak (by decide +kernel) fun K hK =>?_;simp only[vN,J,Nat.reduceEqDiff,reduceIte];refine .done (hK _ ?_);clear hK K;refine U.seq (U.block (U.loop (fun _:Unit=>ar [(0,enc ([]:List Int)),(1,.int .i64 0),(2,.func 138 [.ref (enc el)]),(6,.int .i64 20),(7,.int .i64 0),(8,.int .i64 20)] []) (fun _=>True) (fun _=>0) () trivial ?_ (fun _ _ =>?_)))
 ·refine aF.bY ?_ ?_ ?_ ?_ <;>simp[aV,bO,bM,br,aW,I.only,I.b8,bA]
 have R:=v6 @hc (v6 @gZ (v6 @bP (v6 @bl @J)))
 repeat' ((first |refine U.aX (by decide +kernel) rfl fun K hK =>?_|refine .lead _ (O0 el) ?_|(refine .aQ [0,1,2,6,7,8,9,13,30,35,54] hK ?_;clear hK K)|(with_reducible refine .done (hK _ ?_);clear hK K)|refine U.of rfl ?_|(with_reducible refine au.aU (fun h =>?_) (fun h =>?_) <;>try simp only[h])) <;>try simp only[aZ,R,Nat.reduceEqDiff,reduceIte,Nat.reduceBEq])
 all_goals clear R
 refine U.loop (fun _:Unit=>ar [(0,enc ([]:List Int)),(1,.int .i64 0),(2,.func 138 [.ref (enc el)]),(6,.int .i64 20)] []) (fun _=>True) (fun _=>0) () trivial ?_ (fun _ _ =>?_)
 ·refine aF.bY ?_ ?_ ?_ ?_ <;>simp[aV,bO,bM,br,aW,I.only,I.b8,bA]
 have R:=v6 @hc2 (v6 @gZ (v6 @bP (v6 @bl @J)))
 repeat' ((first |refine U.aX (by decide +kernel) rfl fun K hK =>?_|(refine .aQ [0,1,2,6,7,8,9,13,30,35,54] hK ?_;clear hK K)|(with_reducible refine .done (hK _ ?_);clear hK K)|refine U.of rfl ?_|(with_reducible refine au.aU (fun h =>?_) (fun h =>?_) <;>try simp only[h])) <;>try simp only[aZ,R,Nat.reduceEqDiff,reduceIte,Nat.reduceBEq])
 all_goals clear R
 rfl
theorem Ot(el:List aw):aC Tryz.prog 137 [enc ([]:List Int),.func 138 [.ref (enc el)]] (.tuple []):=by
 refine aC.bu Tryz.func137 BI BR B5 (t7 rfl) (fun hwf W0 D0 E1 =>?_);simp only[uy,xX,bj,zz4];clear hwf;have hz:(([]:List Int).length:Int)=0:=rfl;have R:=v6 @hz (v6 @gZ (v6 @bP (v6 @bl @J)))
 repeat' ((first |refine U.aX (by decide +kernel) rfl fun K hK =>?_|refine .lead _ (OM el) ?_|(refine .aQ [0,1] hK ?_;clear hK K)|(with_reducible refine .done (hK _ ?_);clear hK K)|refine U.of rfl ?_|(with_reducible refine au.aU (fun h =>?_) (fun h =>?_) <;>try simp only[h])) <;>try simp only[R,Nat.reduceEqDiff,reduceIte])
 all_goals clear R
 rfl
def ah4(l:List bZ):Prop:=∀ (i j:Nat) (hi:i<l.length) (hj:j<l.length),i<j→l[i].b5<l[j].b5
theorem ajl{m:bQ}(h:ed m=true):ah4 m.given:=by
 simp only[ed,zz2,zy2,zx4] at h;have h1:∀ i,i+1<m.given.length→(cw m i).b5<(cw m (i+1)).b5:=fun i hi=>by
  have:=h.2.2.2 (i+1) hi;simp only[fZ,zz2] at this;simpa using this.2.2.1
 intro i j hi hj hij;obtain ⟨d,rfl⟩:∃ d,j=i+1+d:=⟨j-(i+1),by omega⟩
 induction d with
 |zero=>rw[ic hi,ic hj];exact h1 i hj
 |succ d ih =>
  have hj':i+1+d<m.given.length:=by omega
  have:=ih hj' (by omega);rw[ic hi,ic hj'] at this;rw[ic hi,ic hj];have h3:=h1 (i+1+d) hj;have e:i+1+(d+1)=i+1+d+1:=by omega
  rw[e];omega
theorem Kj{m:bQ}(h:ed m=true):m.given.length≤40:=by
 simp only[ed,zz2,decide_eq_true_eq] at h;exact h.2.2.1
theorem Kl{m:bQ}(h:ed m=true):∀ g∈m.given,cZ g.mark=true:=fun g hg=>by
 simp only[ed,zz2,zy2,zx4] at h;obtain ⟨i,hi,rfl⟩:=zv6 hg;rw[ic hi];exact xy (h.2.2.2 i hi)
theorem OY(m:bQ)(r:aI 6 Int)(g:bZ)(hg:cZ g.mark=true):aC Tryz.prog 201 (enc g::[.ref (enc m),.ref (enc r)]) (enc (decide (m.dh<eE m.c5 g.mark r))):=by
 refine aC.bu Tryz.func201 RR TG VI (t7 rfl) (fun hwf W0 D0 E1 =>?_);simp only[AZ,LZ,bj,zz4,Nat.reduceAdd];refine .ak (by decide +kernel) fun K hK =>?_;simp only[Gq,J,simprocAttr]
 try simp only[dz,J,simprocAttr]
 refine .done (hK _ ?_);clear hK K;refine .ak (by decide +kernel) fun K hK =>?_;simp only[Gr,J,simprocAttr]
 try simp only[cv,cF,J,simprocAttr]
 refine .flat _ (OZ m.c5 g.mark r hg) rfl ?_
 try simp only[cv,J,simprocAttr]
 refine .done (hK _ ?_);clear hK K;refine U.ret ?_;simp only[J,simprocAttr]
def kG(m:bQ)(r:aI 6 Int):List bZ:=fA (fun g=>decide (m.dh<eE m.c5 g.mark r)) m.given
def KQ(d:Nat)(m:bQ)(r:aI 6 Int):cR:=fun x os'=>(kG m r=[]∧x=enc ([]:List bZ)∧os'=[])∨∃ k,x=.view d [] 7 0 (kG m r).length∧os'=iq d (kG m r) k
theorem OJ(m:bQ)(r:aI 6 Int)(hm:∀ g∈m.given,cZ g.mark=true)(hlen:m.given.length≤1000):cC Tryz.prog 168 [enc m,enc r] [] (KQ 7 m r):=by
 refine cC.bu Tryz.func168 RA Tn Vq (t7 rfl) (t7 rfl) (fun m hm=>by simp[aq,aj] at hm) (fun hwf W0 D0 E1 =>?_);simp only[AH,LG,bj,zz4];refine .ak (by decide +kernel) fun K hK =>?_;simp only[Fy,J,simprocAttr]
 try simp only[dz,J,simprocAttr]
 refine .done (hK _ ?_);clear hK K;refine .ak (by decide +kernel) fun K hK =>?_;simp only[Fz,J,simprocAttr]
 try simp only[cv,cF,J,simprocAttr]
 refine .bU false [(7,7)] [] [enc m.given] (uK m.given) rfl (yW m.given hlen) fS.nil ⟨.inl ⟨(jR _ _).symm,bA _ _,dz _⟩,trivial⟩ ?_ ?_
 ·rintro x os' (⟨_,h | h,rfl⟩ | ⟨_,k,rfl,rfl⟩)
  ·subst h;exact er.nil (fun _=>rfl) (fun h=>by cases h)
  ·subst h;exact er.nil (fun _=>rfl) (fun h=>by cases h)
  ·exact er.sX (fun p=>mb p _) (fun h=>by cases h) rfl (fun h=>by cases h) rfl (by decide)
 ·have hd:I.eG [.ref (enc m),.ref (enc r)]=true:=by simp only[I.eG,I.done,dM,zw3]
  rintro x os' (⟨hn,h,rfl⟩ | ⟨hn,k,rfl,rfl⟩)
  ·have hp:kG m r=[]:=by simp[kG,fA,hn]
   have key:∀ x,(x=.nils 7∨x=.c0 7)→bg true (ar [] []) x=some (enc ([]:List bZ)):=by rintro x (rfl | rfl) <;>rfl
   have hren:∀ x:I,(x=.nils 7∨x=.c0 7)→x.aO (bD [(7,7)])=x∧x.cd=true:=by rintro x (rfl | rfl) <;>exact ⟨by simp only[I.aO],rfl⟩
   rw[(hren x h).1]
   try simp only[jn,zy8,List.all_cons,List.all_nil,I.cd,zw3,J,simprocAttr]
   have hfx:∀ A,bg true A x=some (enc ([]:List bZ)):=fun A=>by rcases h with rfl | rfl <;>simp only[bg,gE,zx2] <;>rfl
   refine .hZ [2,3] (enc ([]:List bZ)) rfl (OX 201 [.ref (enc m),.ref (enc r)] hd) ?_ ?_ ?_
   ·try simp only[hfx,iL,zw2,List.filter_nil,List.contains_cons,Nat.reduceBEq,Bool.or_true,Bool.true_or,BEq.rfl,dM,J,simprocAttr]
   ·simp[cW,br]
   ·try simp only[fV,cW,zw2,List.filter_nil,List.contains_cons,Nat.reduceBEq,Bool.or_true,Bool.true_or,BEq.rfl,zz9,zx2,J,simprocAttr]
    refine .done (hK _ ?_);clear hK K;refine U.ret ?_;simp only[fD];exact ⟨[],[enc ([]:List bZ)],ql,⟨⟨_,rfl,.inl ⟨rfl,rfl,rfl⟩⟩,trivial⟩,.inl ⟨hp,rfl,rfl⟩⟩
  ·try simp only[iq,jn,iR,zy0,zy8,List.all_cons,List.all_nil,I.cd,zw3,J,simprocAttr]
   refine .bU true [(1000000,7)] (iq 1000000 m.given k) [.view 1000000 [] 7 0 m.given.length,.func 201 [.ref (enc m),.ref (enc r)]] (Cd 1000000 (kG m r)) rfl
    (OW m.given 201 [.ref (enc m),.ref (enc r)] hd (fun g=>decide (m.dh<eE m.c5 g.mark r)) (fun g hg=>OY m r g (hm g hg)) hlen k) ⟨?_,?_⟩ ⟨.inl ⟨?_,?_,rfl⟩,.inr ?_,trivial⟩ ?_ ?_
   ·intro n x h;simp only[iq,aj] at h;split at h
    ·rename_i hn';subst hn';simp only[u8] at h;subst h;exact ⟨by simp only[jn,iR,J,simprocAttr],mb _ _,rfl⟩
    ·cases h
   ·intro a b ha hb _;rw[di.1 ha,di.1 hb]
   ·try simp only[jn,simprocAttr]
   ·exact di.2 rfl
   ·try simp only[jC,iq,bD,cW,zw2,List.filter_nil,zz9,zx2,List.contains_cons,List.contains_nil,Nat.reduceBEq,Bool.or_false,BEq.rfl,dM,J,simprocAttr]
   ·rintro x os' ⟨k',rfl,rfl⟩;exact er.one (fun p=>mb p _) (fun _=>afN _) (di.2 rfl) (fun _=>rfl)
   ·rintro x os' ⟨k',rfl,rfl⟩
    try simp only[iq,jn,iR,zy0,zy8,J,simprocAttr]
    refine .done (hK _ ?_);clear hK K;refine U.ret ?_;simp only[fD];exact ⟨iq 7 (kG m r) k',[.view 7 [] 7 0 (kG m r).length],mW rfl (fun p=>mb p _),⟨⟨_,rfl,.inl ⟨rfl,rfl,rfl⟩⟩,trivial⟩,.inr ⟨k',rfl,rfl⟩⟩
def kE(l:List bZ)(i:Nat):List Int:=(l.take i).map (·.b5)
theorem ahq(l:List bZ):kE l 0=[]:=by simp[kE]
theorem ahp{l:List bZ}{i:Nat}(h:i<l.length):kE l (i+1)=kE l i++[l[i].b5]:=by
 simp only[kE];rw[zy5 h,zx6];rfl
theorem KI{l:List bZ}{i:Nat}(h:i≤l.length):(kE l i).length=i:=by simp[kE];omega
theorem aho(l:List bZ):kE l l.length=l.map (·.b5):=by simp[kE]
theorem OK(l:List bZ)(hlen:l.length≤1000):aC Tryz.prog 169 [enc l] (enc (l.map (·.b5))):=by
 refine aC.bu Tryz.func169 RB Tp Vr (t7 rfl) (fun hwf W0 D0 E1 =>?_);simp only[AI,LH,bj];refine .ak (by decide +kernel) fun K hK =>?_;simp only[FA,J,simprocAttr];refine .done (hK _ ?_);clear hK K;refine .ak (by decide +kernel) fun K hK =>?_;simp only[FB,J,simprocAttr];refine .done (hK _ ?_);clear hK K;refine U.seq ?_;refine U.seq (U.bd (by decide +kernel) fun K hK =>?_)
 try simp only[FC,bP,J,simprocAttr]
 refine .done (hK _ ?_);clear hK K;refine U.block (U.loop (fun i:Nat=>ar [(3,.own 3 (kE l i).length),(6,enc l),(7,.int .i64 l.length),(8,.int .i64 i)] [(3,.bT 3 1 ((kE l i).map enc))]) (fun i=>i≤l.length) (fun i=>l.length-i) 0 (zv4 _) ?_ (fun i hi =>?_))
 ·refine aF.rF 3 3 3 1 1 ?_ ?_ ?_
  ·simp only[oF,Nat.reduceEqDiff,reduceIte]
  ·simp only[oF]
  ·simp only[ahq,zx2,List.length_nil];refine aF.bY ?_ ?_ ?_ ?_ <;>simp[aV,bO,bM,br,aq,aW,ct,I.only,I.b8,ah.only,bA]
 ·refine .ak (by decide +kernel) fun K hK =>?_;simp only[FD,J,simprocAttr];refine .done (hK _ ?_);clear hK K;refine U.seq ?_;refine U.bx ?_;simp only[au,J,simprocAttr];refine ⟨fun h =>?_,fun h =>?_⟩
  ·have hlt:i<l.length:=by simpa using h
   refine U.skip ?_;try simp only[al,simprocAttr]
   refine U.seq (U.block ?_);refine .ak (by decide +kernel) fun K hK =>?_;simp only[FE,J,simprocAttr]
   try simp only[fJ 7 hlt rfl,cv,J,simprocAttr]
   rw[eg (dz _) (by rw[fx];rfl) ((ev _).trans rfl)]
   try simp only[J,simprocAttr]
   refine .done (hK _ ?_);clear hK K;refine .bd (by decide +kernel) fun K hK =>?_;simp only[FF,J,simprocAttr]
   try simp only[cv,J,simprocAttr]
   rw[nB 3 1 8 3 rfl rfl (by simp) (by simp[maxLen,KI hi];omega) (by simp[KI hi];omega)]
   try simp only[J,simprocAttr]
   refine .done (hK _ ?_);clear hK K;try simp only[al,bJ]
   refine .bd (by decide +kernel) fun K hK =>?_;simp only[FG,J,simprocAttr];refine .done (hK _ ?_);clear hK K;try simp only[al]
   refine ⟨i+1,by omega,by omega,?_⟩;rw[cA _ (by omega) (by omega),ahp hlt];refine aF.bY ?_ ?_ ?_ ?_ <;>simp[aV,bO,bM,br,aq,aW,ct,I.only,I.b8,ah.only,fe,kD,bA,jx]
  ·have hge:i=l.length:=by simp at h;omega
   subst hge;refine U.exit ?_;try simp only[al,bJ,simprocAttr]
   refine .ak (by decide +kernel) fun K hK =>?_;simp only[FH,J,simprocAttr];refine .done (hK _ ?_);clear hK K;refine U.ret ?_
   try simp only[aho,J,simprocAttr]
end Go.Proofs.YtcldiigclhgafaaGreat
