/-
  A part of the proof that the law RollLetters returns true for every input; five variables of Go's library start as the text lays them (the card ties them); conditions: none beyond the statement's own. (part 6 of 7)
-/
import Derived.Test.YtoffnnjbplgnaaaGreatDoorNje
set_option linter.unusedSimpArgs false
set_option linter.unusedVariables false
set_option maxHeartbeats 16000000
set_option maxRecDepth 100000
namespace Go.Abs
open Go Go.RowKit
theorem F7(ρ:Nat→Nat):∀ (ts:List (Nat×I)) (t:Nat),cE (ts.map fun q=>(q.1,q.2.aQ ρ)) t=(cE ts t).aQ ρ
 | [],_=>rfl
 |(k,v)::ts,t=>by
  simp only[zz9,cE];split
  ·rfl
  ·exact F7 ρ ts t
theorem bt.aQ{ts:List (Nat×I)}{os:List (Nat×al)}(ρ:List (Nat×Nat))(inj:∀ m m',ay os m=true→ay os m'=true→bp ρ m=bp ρ m'→m=m')(sm:∀ m,ay os m=true→bp ρ m<1000000∨bp ρ m=m)
  (hT:bU (ay os) ts) (hO:∀ n x,aq os n=some x→x.only (ay os)=true):bt (aC ts os) (aC (ts.map fun q=>(q.1,q.2.aQ (bp ρ))) (dp ρ os)):=by
 rintro c a w ⟨D,E,hs⟩
 let E':aU:=fun n=>match pre ρ os n with | some m=>E m | none=>none
 have aE:∀ m,ay os m=true→E' (bp ρ m)=E m:=fun m hm=>by
  show (match pre ρ os (bp ρ m) with | some m=>E m | none=>none)=E m
  cases hp:pre ρ os (bp ρ m) with
  |none=>exact absurd rfl (zP hp hm)
  |some m' =>
   obtain ⟨k1,k2⟩:=j6 hp;rw[inj m' m k1 hm k2]
 refine ⟨D,E',hs.sz,hs.fg,fun t =>?_,hs.dX,hs.df,hs.dy,fun n =>?_,fun n m e e' b h1 h2 h3 h4 =>?_,fun n e hn =>?_,hs.fu,hs.cR,hs.fO,hs.gq⟩
 ·simp only[aC,F7];exact (aV.aQ (p:=ay os) aE (zF hT t)).2 (hs.eG t)
 ·have hl:=s7 ρ os [] n;rw[zx2] at hl;simp only[aC,hl];cases hp:pre ρ os n with
  |none =>
   show (match pre ρ os n with | some m=>E m | none=>none)=none
   rw[hp]
  |some m =>
   obtain ⟨k1,k2⟩:=j6 hp;have hEn:E' n=E m:=by rw[←k2];exact aE m k1
   cases hx:aq os m with
   |none=>simp[ay,hx] at k1
   |some x =>
    have ho:=hs.bG m;have hon:=hO m x hx;simp only[aC,hx] at ho;simp only[hx,zy5];cases x with
    |box x =>
     simp only[al.aQ,dc];obtain ⟨b,cs,T,q1,q2,q3,q4,q5⟩:=ho;exact ⟨b,cs,T,by rw[hEn,pH];exact q1,q2,q3.aN (by rw[pH]),(ai.aQ (p:=ay os) aE x _ (by simpa[al.only] using hon)).2 q4,q5⟩
    |b6 T sz es =>
     simp only[al.aQ,dc];obtain ⟨aL,q1,q2,q3⟩:=ho;refine ⟨aL,by rw[hEn,pJ];exact q1,fun e he =>?_,?_⟩
     ·rw[ru] at he;obtain ⟨e',he',rfl⟩:=zx4.1 he;rw[rr];exact q2 e' he'
     ·cases aL with
      |none=>simp only at q3 ⊢;rw[q3];rfl
      |some bc =>
       obtain ⟨b,cap⟩:=bc;obtain ⟨cs,pr,rest,g1,g2,g3,g4,g5,g6,g7,g8⟩:=q3;exact ⟨cs,pr,rest,g1,g2,g3,(aK.aQ (p:=ay os) aE es _ (by simpa[al.only] using hon)).2 g4,g5,by rw[pJ];exact g6,g7,g8⟩
    |eN T xs =>
     simp only[al.aQ,dc];obtain ⟨aL,q1,q2,q3⟩:=ho;exact ⟨aL,by rw[hEn];exact q1,q2,q3⟩
    |dU x =>
     simp only[al.aQ,dc];obtain ⟨b,q1,q2⟩:=ho;exact ⟨b,by rw[hEn];exact q1,q2⟩
    |cI ks vs =>
     simp only[al.aQ,dc];obtain ⟨b,es,ck,q1,q2,q3,q4,q5,q6,q7⟩:=ho;simp only[al.only,zz0] at hon;exact ⟨b,es,ck,by rw[hEn];exact q1,q2,q3,q4,(aD.aQ (p:=ay os) aE ks _ hon.1).2 q5,(aD.aQ (p:=ay os) aE vs _ hon.2).2 q6,q7⟩
    |it ks vs left cur =>
     simp only[al.aQ,dc];obtain ⟨r,b,es,ck,eM,se,la,q1,q2,q3,q4,q5,q6,q7⟩:=ho;simp only[al.only,zz0] at hon;exact ⟨r,b,es,ck,eM,se,la,by rw[hEn];exact q1,q2,q3,q4,(aD.aQ (p:=ay os) aE ks _ hon.1).2 q5,(aD.aQ (p:=ay os) aE vs _ hon.2).2 q6,q7⟩
 ·have key:∀ n e,E' n=some e→∃ m,pre ρ os n=some m∧E m=some e:=fun n e h=>by
   have h':(match pre ρ os n with | some m=>E m | none=>none)=some e:=h;cases hp:pre ρ os n with
   |none=>rw[hp] at h';cases h'
   |some m=>rw[hp] at h';exact ⟨m,rfl,h'⟩
  obtain ⟨n',p1,p2⟩:=key n e h1;obtain ⟨m',p3,p4⟩:=key m e' h2;have:=hs.cV n' m' e e' b p2 p4 h3 h4;rw[←(j6 p1).2,←(j6 p3).2,this]
 ·cases hp:pre ρ os n with
  |none =>
   left
   show (match pre ρ os n with | some m=>E m | none=>none)=none
   rw[hp]
  |some m =>
   obtain ⟨k1,k2⟩:=j6 hp;have hEn:E' n=E m:=by rw[←k2];exact aE m k1
   rcases sm m k1 with h | h
   ·have:=(hs.fu n (by rw[hn];simp)).2;omega
   ·rw[hEn];have:m=n:=by omega
    subst this;exact hs.ev m e hn
theorem bt.agq{ts ts':List (Nat×I)}{os os':List (Nat×al)}(ρ:List (Nat×Nat))(inj:∀ m m',ay os m=true→ay os m'=true→bp ρ m=bp ρ m'→m=m')(sm:∀ m,ay os m=true→bp ρ m<1000000∨bp ρ m=m)
  (hT:bU (ay os) ts) (hO:∀ n x,aq os n=some x→x.only (ay os)=true) (h:bt (aC (ts.map fun q=>(q.1,q.2.aQ (bp ρ))) (dp ρ os)) (aC ts' os')):bt (aC ts os) (aC ts' os') :=
 (bt.aQ ρ inj sm hT hO).trans h
end Go.Abs
namespace Go.Proofs.YtoffnnjbplgnaaaGreatDoor
open Go Go.Abs
open Go.Abs.Enc (enc)
theorem lJ(a:Int){n:Int}(hn:0<n∧n≤4611686018427387904):0≤dD a n∧dD a n<n:=by
 have h1:-n<a.tmod n∧a.tmod n<n:=⟨Int.lt_tmod_of_pos a hn.1,Int.tmod_lt_of_pos a hn.1⟩
 rw[dD,eX _ (by omega) (by omega)];exact ⟨Int.tmod_nonneg _ (by omega),Int.tmod_lt_of_pos _ hn.1⟩
abbrev lZ:=bd 5 Int
end Go.Proofs.YtoffnnjbplgnaaaGreatDoor
namespace Go.Proofs.YtoffnnjbplgnaaaGreatDoor
open Go Go.Abs Go.ChangeShapes Go.WideShapes Go.RowKit
open Go.Abs.Enc (enc)
theorem Lx:lh Tryz.prog 66 lZ fun _=>True:=(afC (n:=5) (e:=3) (by kernel_rfl) Gq (by kernel_rfl) (by decide)).GP
end Go.Proofs.YtoffnnjbplgnaaaGreatDoor
namespace Go.Proofs.YtoffnnjbplgnaaaGreatDoor
open Go Go.Abs
open Go.Abs.Enc (enc)
theorem AT:∀ (a out b:List ah),cS out (a++b)=(cS out a&&cS (out++a) b)
 | [],out,b=>by simp[cS]
 |r::a,out,b=>by rw[zz8,cS,cS,AT a,zz7,List.singleton_append];simp only[Bool.and_assoc]
theorem wZ{a:List ah}{r:ah} : cS [] (a++[r])=true↔cS [] a=true∧bj r=true∧dQ a r=true:=by
 rw[AT];simp[cS]
theorem mN{p:List ah}(hp:cS [] p=true):kM (cC p)=true∧(cC p).Perm p∧mV (cC p)∧tK p=(cC p,0):=by
 obtain ⟨h1,h2⟩:=tJ (rS hp);exact ⟨Jr hp h1 h2,h1,h2,by rw[tK,if_pos hp]⟩
theorem KY{s:List ah}{r:ah}(h:cS [] (s++[r])=true):iN (cC s) r=(cC (s++[r]),0):=by
 obtain ⟨h1,h2,h3⟩:=wZ.1 h;obtain ⟨b1,b2,b3,_⟩:=mN h1;simp only[dQ,zz0,decide_eq_true_eq] at h3;have hn:ir s:=by have:=cW.vS ir.nil ((mQ s []).1 h1);simpa using this
 have hh:jD (cC s) r.bw=false:=by
  rw[jD,List.any_eq_false];intro q hq k;have hqs:=b2.mem_iff.1 hq;simp only[decide_eq_true_eq,ah.bw,Item.mk.injEq] at k;have:=(hn.lt q hqs).2;rw[k.1,h3.2,k.2] at this;omega
 have hc:bR (cC s) r.aI=bR s r.aI:=b2.countP_eq _;rw[iN,b1,h2,hh,hc,tI,ahc,af4,if_neg (by decide),if_neg (by decide),if_neg (by decide),if_neg (by omega),if_neg (by omega)]
structure fP (r:b7) (w:List ah) (firm:Nat):Prop where
 gu:cS [] w=true
 low:∀ x∈w,0≤x.aI∧x.aI≤2
 bD:iM firm w r.cd.bD r.cd.cT r.copy.bD r.copy.cT
theorem fP.zero:fP fU [] 0:=⟨rfl,(fun _ h=>by cases h),iM.zero⟩
theorem fP.have{r:b7}{w:List ah}{firm:Nat}(h:fP r w firm):ed r w=true:=by
 rw[ed,h.gu,zu6,zz0,decide_eq_true_eq];exact ⟨h.bD.cd,List.any_eq_true.2 ⟨firm,by have:=h.bD.eE;simp;omega,by rw[decide_eq_true_eq];exact h.bD.copy⟩⟩
theorem fP.FX{r:b7}{w:List ah}{firm:Nat}(h:fP r w firm):r.cd.bD.length≤14400∧r.cd.cT.length≤14400∧r.copy.bD.length≤14400∧r.copy.cT.length=0:=by
 have hl:=kE h.gu;have hk:=mR h.gu;have h1:=nT (w.take firm) (s:=1) (by omega) (fun x hx=>hk x (zx9 hx));have h2:=nT (w.drop firm) (s:=dK 1 (w.take firm)) (rK _) (fun x hx=>hk x (List.mem_of_mem_drop hx));rw[zz6] at h1;rw[zv3] at h2;rw[h.bD.iV,h.bD.iW,h.bD.iy,h.bD.iQ];exact ⟨by omega,by omega,by omega,rfl⟩
theorem fP.small{r:b7}{w:List ah}{firm:Nat}(h:fP r w firm):r.small:=by
 obtain ⟨h1,h2,h3,h4⟩:=h.FX;exact ⟨⟨by omega,by omega⟩,by omega,by omega⟩
theorem fP.seal{r:b7}{w:List ah}{firm:Nat}(h:fP r w firm):fP (gh r) w w.length:=by
 refine ⟨h.gu,h.low,?_⟩;have:=iM.all w;rw[←h.bD.cd] at this;exact this
theorem ahO{r:b7}{w:List ah}{x:ah}(hh:ed r w=true)(hx:cS [] (w++[x])=true):lg r w (cC w) x=(⟨⟨r.cd.bD,r.cd.cT++db (dK 1 w) x⟩,r.copy⟩,w++[x],0):=by
 have hn:x∉w:=fun hm=>by
  have:=List.pairwise_append.1 (rS hx);exact this.2.2 x hm x (zy7.2 rfl) ⟨rfl,rfl⟩
 rw[lg,hh,if_neg (by decide),mP,if_neg hn,KY hx,if_neg (by simp)]
theorem fP.wY{r:b7}{w:List ah}{firm:Nat}(h:fP r w firm){x:ah}(hx:cS [] (w++[x])=true)(hm:0≤x.aI∧x.aI≤2):fP ⟨⟨r.cd.bD,r.cd.cT++db (dK 1 w) x⟩,r.copy⟩ (w++[x]) firm :=
 ⟨hx,fun y hy=>by
  rcases zy6.1 hy with k | k
  ·exact h.low y k
  ·rw[zy7.1 k];exact hm,h.bD.wY x⟩
theorem FU{u:List UInt8}(hu:u.length≤140737488351232)(p:List Int)(i:Nat)(hpi:∀ x∈p,-9223372036854775808≤x∧x≤9223372036854775807):gH u (iK (fV u p i) p i):=by
 rw[iK];split
 ·rename_i hc;have hl:(fV u p i).length≤u.length:=by rw[fV,zz6];omega
  have:=ur (p:=p) (i:=i+2) (n:=(fV u p i).length) ⟨hc.2,by omega⟩ hpi;exact .Aw _ _ (by rw[fV] at this ⊢;omega)
 ·exact .mi _
theorem ahP{w:List ah}(h:cS [] w=true)(n:Nat):cS [] (w.take n)=true:=by
 rw[←zw1 n w,AT,zz0] at h;exact h.1
theorem fP.AE{r:b7}{w:List ah}{firm:Nat}(h:fP r w firm)(p:List Int)(hpi:∀ x∈p,-9223372036854775808≤x∧x≤9223372036854775807){x:b7}(hx:x=eZ r p∨∃ b,x=kN (eZ r p) b) :
  x.small∧∃ n t,firm≤n∧n≤w.length∧iY x=(⟨⟨t,[]⟩,⟨t,[]⟩⟩,w.take n)∧fP ⟨⟨t,[]⟩,⟨t,[]⟩⟩ (w.take n) n:=by
 obtain ⟨l1,l2,l3,l4⟩:=h.FX;have a1:=FU (u:=r.cd.cT) (by omega) p 0 hpi;have a2:=FU (u:=r.copy.cT) (by omega) p 3 hpi;have b1:(iK (fV r.cd.cT p 0) p 0).length≤r.cd.cT.length:=by rw[rI,fV,zz6];omega
 have b2:(iK (fV r.copy.cT p 3) p 3).length≤r.copy.cT.length:=by rw[rI,fV,zz6];omega
 have e1:(eZ r p).cd=⟨r.cd.bD++iK (fV r.cd.cT p 0) p 0,[]⟩:=rfl;have e2:(eZ r p).copy=⟨r.copy.bD++iK (fV r.copy.cT p 3) p 3,[]⟩:=rfl;have s1:(eZ r p).cd.small:=by rw[e1];exact ⟨by simp only[zz1];omega,by simp⟩
 have s2:(eZ r p).copy.small:=by rw[e2];exact ⟨by simp only[zz1];omega,by simp⟩
 have s0:dL.small ⟨[],[]⟩:=⟨by simp,by simp⟩
 have key:x.small∧((x.cd.all=r.cd.bD++iK (fV r.cd.cT p 0) p 0∧(x.copy.all=r.copy.bD++iK (fV r.copy.cT p 3) p 3∨x.copy.all=[]))∨(x.cd.all=[]∧x.copy.all=r.copy.bD++iK (fV r.copy.cT p 3) p 3)):=by
  rcases hx with rfl | ⟨b,rfl⟩
  ·exact ⟨⟨s1,s2⟩,.inl ⟨by rw[e1];exact zx2 _,.inl (by rw[e2];exact zx2 _)⟩⟩
  ·cases b
   ·exact ⟨⟨s0,s2⟩,.inr ⟨rfl,by show (eZ r p).copy.all=_;rw[e2];exact zx2 _⟩⟩
   ·exact ⟨⟨s1,s0⟩,.inl ⟨by show (eZ r p).cd.all=_;rw[e1];exact zx2 _,.inr rfl⟩⟩
 obtain ⟨hs,hab⟩:=key;obtain ⟨n,n1,n2,n3⟩:=h.bD.AE afv afq dQ ((mQ w []).1 h.gu) a1 a2 hab;refine ⟨hs,n,bW 1 (w.take n),n1,n2,by rw[iY,n3],ahP h.gu n,fun y hy=>h.low y (zx9 hy),?_⟩;have:=iM.all (w.take n);rw[zz6,Nat.min_eq_left n2] at this;exact this
structure dW where
 kind:Int
 nr:Int
 dst:Int
 raw:lZ
 jr:List Int
instance:Enc dW where
 enc x:=.agg [.int .i64 x.kind,.int .i64 x.nr,.int .i64 x.dst,enc x.raw,enc x.jr]
 sz:=9
 aN:=.dP [.one,.one,.one,.dP [.one,.one,.one,.one,.one],.one]
 gA:=true
 done e:=by simp only[I.done,I.gm,Enc.done,Bool.and_self]
 size e:=by simp only[I.size,I.sizes,gK];rfl
 iI e:=by simp only[I.aN,I.cB,cM];rfl
 agg _:=rfl
structure bN where
 bE:Int
 cz:b7
 wr:List ah
 cj:bd 6 (bd 6 Int)
instance:Enc bN where
 enc x:=.agg [.int .i64 x.bE,enc x.cz,enc x.wr,enc x.cj]
 sz:=42
 aN:=.dP [.one,.dP [.dP [.one,.one],.dP [.one,.one]],.one,.dP (List.replicate 6 (.dP (List.replicate 6 .one)))]
 gA:=true
 done e:=by simp only[I.done,I.gm,Enc.done,Bool.and_self]
 size e:=by simp only[I.size,I.sizes,gK];rfl
 iI e:=by simp only[I.aN,I.cB,cM];rfl
 agg _:=rfl
structure cQ where
 cH:Int
 dst:Int
 ql:Bool
 ae:bd 6 Int
 eL:List ah
instance:Enc cQ where
 enc x:=.agg [.int .i64 x.cH,.int .i64 x.dst,.bool x.ql,enc x.ae,enc x.eL]
 sz:=10
 aN:=.dP [.one,.one,.one,.dP (List.replicate 6 .one),.one]
 gA:=true
 done e:=by simp only[I.done,I.gm,Enc.done,Bool.and_self]
 size e:=by simp only[I.size,I.sizes,gK];rfl
 iI e:=by simp only[I.aN,I.cB,cM];rfl
 agg _:=rfl
structure dT where
 m:bN
instance:Enc dT where
 enc x:=.agg [enc x.m]
 sz:=42
 aN:=.dP [.dP [.one,.dP [.dP [.one,.one],.dP [.one,.one]],.one,.dP (List.replicate 6 (.dP (List.replicate 6 .one)))]]
 gA:=true
 done e:=by simp only[I.done,I.gm,Enc.done,Bool.and_self]
 size e:=by simp only[I.size,I.sizes,gK];rfl
 iI e:=by simp only[I.aN,I.cB,cM];rfl
 agg _:=rfl
def dj:bd 6 Int:=⟨[0,0,0,0,0,0],rfl⟩
def gY:bd 6 (bd 6 Int):=⟨[dj,dj,dj,dj,dj,dj],rfl⟩
def mC:bN:=⟨0,fU,[],gY⟩
def lH:cQ:=⟨0,0,false,dj,[]⟩
def lp(x:bd 6 Int):Bool:=x.l.all fun n=>dm 0 60 n
def qL(x:bd 6 (bd 6 Int)):Bool:=x.l.all lp
def jJ(m:bN):Bool:=qL m.cj&&(dm 0 5 m.bE&&ed m.cz m.wr)
def oD(x:cQ):Bool:=dm 0 5 x.cH&&(dm 0 5 x.dst&&(decide (x.cH≠x.dst)&&(lp x.ae&&(decide (x.eL.length≤6)&&x.eL.all bj))))
def td(bE:Int):bN×Int:=if dm 0 5 bE=true then (⟨bE,fU,[],gY⟩,0) else (mC,1)
def gQ(m:bN)(r:ah):ah := {r with aI:=m.bE,no:=(bR m.wr m.bE:Nat)}
def py(m:bN)(r:ah):bN×ah×Int :=
 if jJ m=false then (mC,default,85) else if (fN m.cz m.wr (gQ m r)).2.2≠0 then (mC,default,(fN m.cz m.wr (gQ m r)).2.2)
 else ({m with cz:=(fN m.cz m.wr (gQ m r)).1,wr:=(fN m.cz m.wr (gQ m r)).2.1},gQ m r,0)
def oc(m:bN)(dst:Int):bN×cQ×Int :=
 if jJ m=false then (mC,lH,85) else if dm 0 5 dst=false∨dst=m.bE then (mC,lH,1)
 else ({m with cz:=gh m.cz},⟨m.bE,dst,true,cX m.wr,[]⟩,0)
def jw(r:b7)(w:List ah):List ah→b7×List ah×Int
 | []=>(r,w,0)
 |x::t=>if (bR w x.aI:Int)<x.no then jw r w t else if (fN r w x).2.2≠0 then (r,w,(fN r w x).2.2) else jw (fN r w x).1 (fN r w x).2.1 t
def kq(a b:Int):Int:=if b>a then b else a
def vI(a b:bd 6 Int):bd 6 Int:=⟨(List.range 6).map fun i=>kq (a.g i) (b.g i),by simp⟩
def kS(k:bd 6 (bd 6 Int))(f:Nat)(h:bd 6 Int):bd 6 (bd 6 Int):=⟨k.l.set f (vI (k.l.getD f dj) h),by rw[List.length_set];exact k.h⟩
def jz(w:List ah)(h:bd 6 Int):List ah:=((cC w).filter fun r => !decide (r.no<h.g r.aI.toNat)).take 6
def nF(m:bN)(x:cQ):bN×List cQ×Int :=
 if jJ m=false then (mC,[],85) else if oD x=false∨x.dst≠m.bE then (mC,[],86)
 else if (jw m.cz m.wr x.eL).2.2≠0 then (mC,[],(jw m.cz m.wr x.eL).2.2)
 else
  (⟨m.bE,gh (jw m.cz m.wr x.eL).1,(jw m.cz m.wr x.eL).2.1,kS m.cj x.cH.toNat x.ae⟩,
   if x.ql then [⟨m.bE,x.cH,false,cX (jw m.cz m.wr x.eL).2.1,jz (jw m.cz m.wr x.eL).2.1 x.ae⟩]
   else if m.wr.length<(jw m.cz m.wr x.eL).2.1.length then [⟨m.bE,x.cH,true,cX (jw m.cz m.wr x.eL).2.1,[]⟩] else [],0)
def qE(r:b7)(p:List Int):b7:=if gx p 6 3=1 then kN (eZ r p) false else if gx p 6 3=2 then kN (eZ r p) true else eZ r p
def ry(m:bN)(p:List Int):bN×Int :=
 if jJ m=false then (mC,85) else (⟨m.bE,(iY (qE m.cz p)).1,(iY (qE m.cz p)).2,gY⟩,0)
end Go.Proofs.YtoffnnjbplgnaaaGreatDoor
namespace Go.Proofs.YtoffnnjbplgnaaaGreatDoor
open Go Go.Abs Go.ChangeShapes Go.WideShapes Go.RowKit
open Go.Abs.Enc (enc)
theorem Lv:lh Tryz.prog 160 dW fun a=>a.jr.length*8≤reachBytes:=⟨by kernel_rfl,by decide,fun h hw=>by
 obtain ⟨vs,ae,hr⟩:=afE [(3,0),(3,1),(3,2),(66,3),(32,8)]
  [(1,fun v=>∃ a:Int,True∧v=enc a),(1,fun v=>∃ a:Int,True∧v=enc a),(1,fun v=>∃ a:Int,True∧v=enc a),(5,fun v=>∃ a:lZ,True∧v=enc a),(1,fun v=>∃ a:(List Int),a.length*8≤reachBytes∧v=enc a)]
  (by kernel_rfl) (by simp only[tg];exact ⟨trivial,uv.br,trivial,uv.br,trivial,uv.br,trivial,Lx.br,trivial,BP.br,trivial⟩) (by kernel_rfl) h hw
 obtain ⟨v0,vs0,e0,h0,hv0⟩:=r7 ae;obtain ⟨a0,p0,f0⟩:∃ a:Int,True∧v0=enc a:=h0;obtain ⟨v1,vs1,e1,h1,hv1⟩:=r7 hv0;obtain ⟨a1,p1,f1⟩:∃ a:Int,True∧v1=enc a:=h1;obtain ⟨v2,vs2,e2,h2,hv2⟩:=r7 hv1;obtain ⟨a2,p2,f2⟩:∃ a:Int,True∧v2=enc a:=h2;obtain ⟨v3,vs3,e3,h3,hv3⟩:=r7 hv2;obtain ⟨a3,p3,f3⟩:∃ a:lZ,True∧v3=enc a:=h3;obtain ⟨v4,vs4,e4,h4,hv4⟩:=r7 hv3;obtain ⟨a4,p4,f4⟩:∃ a:(List Int),a.length*8≤reachBytes∧v4=enc a:=h4;have e5:=K5 hv4;rw[e0,e1,e2,e3,e4,e5,f0,f1,f2,f3,f4] at hr;refine ⟨⟨a0,a1,a2,a3,a4⟩,p4,?_⟩;exact hr⟩
theorem L6:Tryz.prog.bytesOf 160=88:=by kernel_rfl
theorem Lw:lh Tryz.prog 89 (List dW) fun l=>(∀ y∈l,y.jr.length*8≤reachBytes)∧l.length*88≤reachBytes:=by
 have h:=GQ (P:=Tryz.prog) (t:=89) (e:=160) (by kernel_rfl) Lv (by kernel_rfl);exact ⟨h.cells,h.rj,fun hx hw=>by
  obtain ⟨a,⟨h1,h2⟩,h3⟩:=h.oG hx hw;rw[L6] at h2;exact ⟨a,⟨h1,h2⟩,h3⟩⟩
end Go.Proofs.YtoffnnjbplgnaaaGreatDoor
namespace Go.Proofs.YtoffnnjbplgnaaaGreatDoor
open Go Go.Abs
open Go.Abs.Enc (enc)
theorem ahS{w:List ah}(h:cS [] w=true){a b:ah}(ha:a∈w)(hb:b∈w)(e:a.aI=b.aI∧a.no=b.no):a=b:=GV (rS h) ha hb e
theorem AU{w:List ah}(h:cS [] w=true)(m:Int)(k:Nat)(hk:k<bR w m):∃ r∈w,r.aI=m∧r.no=k:=by
 have:=cW.EG (out:=[]) (fun m k h=>by simp[bR] at h) ((mQ w []).1 h) m k (by rw[zy3];exact hk)
 rwa [zy3] at this
theorem ahR{w:List ah}(h:cS [] w=true){r:ah}(hr:r∈w):0≤r.no∧r.no<bR w r.aI:=by
 have:=cW.vS ir.nil ((mQ w []).1 h);rw[zy3] at this;exact this.lt r hr
theorem AS{r:b7}{w:List ah}{x:ah}(hw:cS [] w=true):fN r w x=lg r w (cC w) x:=(ahM r (fun _=>(mN hw).2.1) (fun _=>(mN hw).2.2.1) x).symm
theorem ahN{r:b7}{w:List ah}{f:Nat}{x:ah}(h:fP r w f)(hx:x∈w):fN r w x=(r,w,0):=by
 rw[AS h.gu,lg,h.have,if_neg (by decide),mP,if_pos hx]
theorem JU{r:b7}{w:List ah}{f:Nat}{x:ah}(h:fP r w f)(hx:cS [] (w++[x])=true):fN r w x=(⟨⟨r.cd.bD,r.cd.cT++db (dK 1 w) x⟩,r.copy⟩,w++[x],0):=by
 rw[AS h.gu,ahO h.have hx]
theorem wS{S:ah→Prop}(U:∀ a b,S a→S b→a.aI=b.aI→a.no=b.no→a=b)(B:∀ w,cS [] w=true→(∀ x∈w,S x)→w.length<60) :
  ∀ (xs:List ah) (r:b7) (w:List ah) (f:Nat),fP r w f→(∀ x∈w,S x)→(∀ x∈xs,S x∧bj x=true∧0≤x.aI∧x.aI≤2) →
   ∃ r' w',jw r w xs=(r',w',0)∧fP r' w' f∧w <+: w'∧∀ x∈w',S x
 | [],r,w,f,h,hw,_=>⟨r,w,rfl,h,List.prefix_refl _,hw⟩
 |x::xs,r,w,f,h,hw,hx=>by
  obtain ⟨s1,o1,m1⟩:=hx x zw9;have hxs:=fun y hy=>hx y (zu7 _ hy);rw[jw];by_cases hc:(bR w x.aI:Int)<x.no
  ·rw[if_pos hc];exact wS U B xs r w f h hw hxs
  rw[if_neg hc];by_cases hin:x∈w
  ·rw[ahN h hin,if_neg (by simp)];exact wS U B xs r w f h hw hxs
  ·have hn0:0≤x.no:=(nw (ny o1)).2.1.1;have he:(bR w x.aI:Int)=x.no:=by
    apply Decidable.byContradiction;intro hne;obtain ⟨k,hk⟩:=zy2 hn0;obtain ⟨q,hq,q1,q2⟩:=AU h.gu x.aI k (by omega);exact hin (U q x (hw q hq) s1 q1 (by rw[q2,hk])▸hq)
   have hlen:=B w h.gu hw;have hwx:cS [] (w++[x])=true:=wZ.2 ⟨h.gu,o1,by simp[dQ,hlen,he]⟩;rw[JU h hwx,if_neg (by simp)];obtain ⟨r',w',e1,e2,e3,e4⟩:=wS U B xs _ (w++[x]) f (h.wY hwx m1) (fun y hy=>by
    rcases zy6.1 hy with k | k
    ·exact hw y k
    ·rw[zy7.1 k];exact s1) hxs
   exact ⟨r',w',e1,e2,(List.prefix_append w [x]).trans e3,e4⟩
def e8{α:Type}(o:Nat→α)(i:Nat)(m:α):Nat→α:=fun k=>if k=i then m else o k
theorem kb{α:Type}(o:Nat→α)(i:Nat)(m:α):e8 o i m i=m:=if_pos rfl
theorem lf{α:Type}(o:Nat→α)(i:Nat)(m:α){k:Nat}(h:k≠i):e8 o i m k=o k:=if_neg h
def fh(o:Nat→bN)(f:Nat→Nat)(i:Nat):List ah:=(o i).wr.take (f i)
def gP(m:bN)(i x:Nat):Int:=(m.cj.at i dj).g x
structure qh (o:Nat→bN) (f:Nat→Nat) (s:cQ):Prop where
 cH:0≤s.cH∧s.cH≤2
 dst:0≤s.dst∧s.dst≤2
 zq:s.cH≠s.dst
 ae:∀ x:Nat,0≤s.ae.g x∧s.ae.g x≤bR (fh o f s.cH.toNat) (x:Nat)
 len:s.eL.length≤6
 r5:∀ r∈s.eL,bj r=true∧(0≤r.aI∧r.aI≤2)∧r∈fh o f r.aI.toNat
structure cY (o:Nat→bN) (f:Nat→Nat) (ls:List cQ) (j:Nat):Prop where
 iE:∀ i,i<3→fP (o i).cz (o i).wr (f i)
 bE:∀ i,i<3→(o i).bE=(i:Int)
 cj:∀ k,k<3→∀ i x:Nat,0≤gP (o k) i x∧gP (o k) i x≤(if i<3 then bR (fh o f i) (x:Nat) else 0:Nat)
 own:∀ i,i<3→∀ r∈(o i).wr,r.aI≠(i:Int)→r∈fh o f r.aI.toNat
 lt:∀ s∈ls,qh o f s
 lu:bR (o 0).wr 0+bR (o 1).wr 1+bR (o 2).wr 2≤j
section
variable {o:Nat→bN} {f:Nat→Nat} {ls:List cQ} {j:Nat}
theorem EC{i:Nat}{r:ah}(h:r∈fh o f i):r∈(o i).wr:=zx9 h
theorem sr{a b:List ah}(h:a <+: b)(m:Int):bR a m≤bR b m:=h.sublist.countP_le
theorem xO(i:Nat)(m:Int):bR (fh o f i) m≤bR (o i).wr m:=sr (List.take_prefix _ _) m
theorem ahx{i:Nat}(h:i<3):i=0∨i=1∨i=2:=by omega
theorem cY.step(h:cY o f ls j){i g d:Nat}{m:bN}(hi:i<3)(hk:fP m.cz m.wr g)(hme:m.bE=(i:Int))(hpre:fh o f i <+: m.wr.take g)(hown:∀ r∈m.wr,r.aI≠(i:Int)→r∈fh o f r.aI.toNat)
  (hkn:∀ i' x:Nat,0≤gP m i' x∧gP m i' x≤(if i'<3 then bR (fh o f i') (x:Nat) else 0:Nat)) (hc:bR m.wr (i:Nat)≤bR (o i).wr (i:Nat)+d):cY (e8 o i m) (e8 f i g) ls (j+d)∧∀ k,fh o f k <+: fh (e8 o i m) (e8 f i g) k:=by
 have mono:∀ k,fh o f k <+: fh (e8 o i m) (e8 f i g) k:=fun k=>by
  by_cases e:k=i
  ·subst e;simp only[fh,kb] at hpre ⊢;exact hpre
  ·simp only[fh,lf _ _ _ e];exact List.prefix_refl _
 have kn':∀ q:bN,(∀ i' x:Nat,0≤gP q i' x∧gP q i' x≤(if i'<3 then bR (fh o f i') (x:Nat) else 0:Nat))→∀ i' x:Nat,0≤gP q i' x∧gP q i' x≤(if i'<3 then bR (fh (e8 o i m) (e8 f i g) i') (x:Nat) else 0:Nat):=fun q hq i' x=>by
  have h1:=hq i' x;have h2:=sr (mono i') (x:Nat);refine ⟨h1.1,Int.le_trans h1.2 ?_⟩;split <;>omega
 refine ⟨⟨fun k hk' =>?_,fun k hk' =>?_,fun k hk' =>?_,fun k hk' r hr hne =>?_,fun s hs =>?_,?_⟩,mono⟩
 ·by_cases e:k=i
  ·subst e;rw[kb,kb];exact hk
  ·rw[lf _ _ _ e,lf _ _ _ e];exact h.iE k hk'
 ·by_cases e:k=i
  ·subst e;rw[kb];exact hme
  ·rw[lf _ _ _ e];exact h.bE k hk'
 ·by_cases e:k=i
  ·subst e;rw[kb];exact kn' m hkn
  ·rw[lf _ _ _ e];exact kn' _ (h.cj k hk')
 ·refine (mono _).subset ?_;by_cases e:k=i
  ·subst e;rw[kb] at hr;exact hown r hr hne
  ·rw[lf _ _ _ e] at hr;exact h.own k hk' r hr hne
 ·have q:=h.lt s hs;exact ⟨q.cH,q.dst,q.zq,fun x=>⟨(q.ae x).1,Int.le_trans (q.ae x).2 (Int.ofNat_le.2 (sr (mono _) _))⟩,q.len,fun r hr=>⟨(q.r5 r hr).1,(q.r5 r hr).2.1,(mono _).subset (q.r5 r hr).2.2⟩⟩
 ·have hc0:=h.lu;rcases ahx hi with rfl | rfl | rfl
  ·rw[kb,lf _ _ _ (show 1≠0 by decide),lf _ _ _ (show 2≠0 by decide)];simp only[Int.natCast_zero] at hc;omega
  ·rw[kb,lf _ _ _ (show 0≠1 by decide),lf _ _ _ (show 2≠1 by decide)];simp only[Int.natCast_one] at hc;omega
  ·rw[kb,lf _ _ _ (show 0≠2 by decide),lf _ _ _ (show 1≠2 by decide)];have e2:((2:Nat):Int)=2:=rfl;rw[e2] at hc;omega
theorem cY.BE(h:cY o f ls j){s:List cQ}(hs:∀ x∈s,qh o f x):cY o f (ls++s) j :=
 ⟨h.iE,h.bE,h.cj,h.own,fun x hx=>(zy6.1 hx).elim (h.lt x) (hs x),h.lu⟩
theorem cY.pY(h:cY o f ls j){s:List cQ}(hs:∀ x∈s,x∈ls):cY o f s j:=⟨h.iE,h.bE,h.cj,h.own,fun x hx=>h.lt x (hs x hx),h.lu⟩
theorem cY.eE(h:cY o f ls j){j':Nat}(hj:j≤j'):cY o f ls j':=⟨h.iE,h.bE,h.cj,h.own,h.lt,Nat.le_trans h.lu hj⟩
def nY(o:Nat→bN)(f:Nat→Nat)(i:Nat)(r:ah):Prop:=(0≤r.aI∧r.aI≤2)∧if r.aI=(i:Int) then r∈(o i).wr else r∈fh o f r.aI.toNat
theorem cY.Jp(h:cY o f ls j){i:Nat}(hi:i<3):∀ r∈(o i).wr,nY o f i r:=fun r hr=>⟨(h.iE i hi).low r hr,by
 split
 ·exact hr
 ·rename_i e;exact h.own i hi r hr e⟩
theorem nY.iF{i:Nat}{r:ah}(h:nY o f i r):r∈(o r.aI.toNat).wr:=by
 obtain ⟨_,h2⟩:=h;split at h2
 ·rename_i e;rw[e];exact h2
 ·exact EC h2
theorem cY.ahE(h:cY o f ls j){i:Nat}(a b:ah)(ha:nY o f i a)(hb:nY o f i b)(e1:a.aI=b.aI)(e2:a.no=b.no):a=b:=by
 have hb':=hb.iF;rw[←e1] at hb';exact ahS (h.iE a.aI.toNat (by have:=ha.1;omega)).gu ha.iF hb' ⟨e1,e2⟩
theorem FW:∀ w:List ah,(∀ x∈w,0≤x.aI∧x.aI≤2)→w.length=bR w 0+bR w 1+bR w 2
 | [],_=>rfl
 |x::w,h=>by
  have:=FW w fun y hy=>h y (zu7 _ hy);have hx:=h x zw9;simp only[bR,List.countP_cons,zx5,decide_eq_true_eq] at this ⊢;have:x.aI=0∨x.aI=1∨x.aI=2:=by omega
  rcases this with e | e | e <;>rw[e] <;>simp <;>omega
theorem cY.uG(h:cY o f ls j){i:Nat}{w:List ah}(hw:cS [] w=true)(hs:∀ x∈w,nY o f i x){k:Nat}(hk:k<3):bR w (k:Nat)≤bR (o k).wr (k:Nat):=by
 rcases Nat.eq_zero_or_pos (bR w (k:Nat)) with e | e
 ·omega
 ·obtain ⟨r,hr,h1,h2⟩:=AU hw (k:Nat) (bR w (k:Nat)-1) (by omega);have hm:=(hs r hr).iF;rw[h1,zw8] at hm;have:=(ahR (h.iE k hk).gu hm).2;rw[h1,h2] at this;omega
theorem cY.FV(h:cY o f ls j){i:Nat}{w:List ah}(hw:cS [] w=true)(hs:∀ x∈w,nY o f i x):w.length≤j:=by
 have h0:=h.uG hw hs (k:=0) (by decide);have h1:=h.uG hw hs (k:=1) (by decide);have h2:=h.uG hw hs (k:=2) (by decide);have:=h.lu;rw[FW w fun x hx=>(hs x hx).1];have e0:((0:Nat):Int)=0:=rfl;have e1:((1:Nat):Int)=1:=rfl;have e2:((2:Nat):Int)=2:=rfl;rw[e0] at h0;rw[e1] at h1;rw[e2] at h2;omega
theorem cY.len(h:cY o f ls j){i:Nat}(hi:i<3):(o i).wr.length≤j:=h.FV (h.iE i hi).gu (h.Jp hi)
theorem adE{k:bd 6 (bd 6 Int)}(h:∀ i x:Nat,0≤(k.at i dj).g x∧(k.at i dj).g x≤60):qL k=true:=by
 rw[qL,zx1];intro b6 hr;obtain ⟨i,hi,rfl⟩:=List.getElem_of_mem hr;rw[lp,zx1];intro n hn;obtain ⟨x,hx,rfl⟩:=List.getElem_of_mem hn;have:=h i x;have e:(k.at i dj).g x=k.l[i].l[x]:=by
  simp only[bd.at,bd.g,zz2,zz5 hi,Option.getD_some,zz5 hx]
 rw[e] at this;exact jE.2 this
theorem cY.v7(h:cY o f ls j){i:Nat}(hi:i<3):jJ (o i)=true:=by
 have h1:qL (o i).cj=true:=adE fun k x=>by
  have:=h.cj i hi k x;refine ⟨this.1,Int.le_trans this.2 ?_⟩;split
  ·rename_i hk;have a1:=xO (o:=o) (f:=f) k (x:Nat);have a2:=uF (o k).wr (x:Nat);have a3:=kE (h.iE k hk).gu;omega
  ·decide
 rw[jJ,h1,h.bE i hi,(h.iE i hi).have,show dm 0 5 (i:Int)=true by rw[jE];omega];rfl
structure ue (r:ah):Prop where
 kind:1≤r.kind∧r.kind≤40
 eP:0≤r.eP∧r.eP≤100000
 known:0≤r.known∧r.known≤100000
 of:r.gb=0∧r.gp=0
 text:gT r.text=true
theorem ue.ok{r:ah}(h:ue r){m:bN}(hm:0≤m.bE∧m.bE≤5)(hl:m.wr.length≤60):bj (gQ m r)=true:=by
 have hc:=uF m.wr m.bE;have hk:¬ r.kind=0:=by have:=h.kind;omega
 have h1:=h.kind;have h2:=h.eP;have h3:=h.known;simp only[bj,ij,gQ,ah.bw,ah.ic,if_neg hk,zz0,jE,decide_eq_true_eq,zA,h.of.1,h.of.2];exact ⟨⟨⟨by omega,by omega⟩,by omega,by omega,by omega,h.text⟩,trivial⟩
theorem cY.Gm(h:cY o f ls j)(hj:j<60){i:Nat}(hi:i<3){r:ah}(hr:ue r):∃ m,py (o i) r=(m,gQ (o i) r,0)∧cY (e8 o i m) f ls (j+1):=by
 have hk:=h.iE i hi;have hme:=h.bE i hi;have hl:=h.len hi;have ho:=hr.ok (m:=o i) (by rw[hme];omega) (by omega);have hw:cS [] ((o i).wr++[gQ (o i) r])=true:=wZ.2 ⟨hk.gu,ho,by
  simp only[dQ,gQ,zz0,decide_eq_true_eq];exact ⟨by omega,trivial⟩⟩
 have hmm:(gQ (o i) r).aI=(i:Int):=hme;have he:=JU hk hw;have hk2:=hk.wY hw (by rw[hmm];omega);refine ⟨_,by rw[py,h.v7 hi,he,if_neg (by decide),if_neg (by simp)],?_⟩;have:=(h.step (i:=i) (g:=f i) (d:=1) (m:=⟨(o i).bE,⟨⟨(o i).cz.cd.bD,(o i).cz.cd.cT++db (dK 1 (o i).wr) (gQ (o i) r)⟩,(o i).cz.copy⟩,(o i).wr++[gQ (o i) r],(o i).cj⟩) hi hk2 hme (by
   rw[zw4 hk.bD.eE];exact List.prefix_refl _) (fun q hq hne=>by
   rcases zy6.1 hq with k | k
   ·exact h.own i hi q k hne
   ·rw[zy7.1 k] at hne;exact absurd hmm hne) (h.cj i hi) (by
   show bR ((o i).wr++[gQ (o i) r]) _≤_
   rw[oh,if_pos hmm];exact zy1 _)).1
 have e:e8 f i (f i)=f:=by
  funext k;rw[e8];split
  ·rename_i e;rw[e]
  ·rfl
 rw[e] at this;exact this
theorem DB(w:List ah)(x:Nat):0≤(cX w).g x∧(cX w).g x≤bR w (x:Nat):=by
 by_cases h:x<6
 ·rw[qv w h];omega
 ·have:(cX w).g x=0:=by
   rw[bd.g,zz2,List.getElem?_eq_none (by rw[(cX w).h];omega)];rfl
  rw[this];omega
theorem cY.BN(h:cY o f ls j){i:Nat}(hi:i<3){dst:Int}(ht:0≤dst∧dst≤2)(hne:dst≠(i:Int)):∃ m s,oc (o i) dst=(m,s,0)∧cY (e8 o i m) (e8 f i (o i).wr.length) (ls++[s]) j:=by
 have hk:=h.iE i hi;have hme:=h.bE i hi;refine ⟨_,_,by rw[oc,h.v7 hi,if_neg (by decide),if_neg (by rw[hme,show dm 0 5 dst=true by rw[jE];omega];rintro (k | k);cases k;exact hne k)],?_⟩;obtain ⟨h1,h2⟩:=h.step (i:=i) (g:=(o i).wr.length) (d:=0) (m:=⟨(o i).bE,gh (o i).cz,(o i).wr,(o i).cj⟩) hi hk.seal hme (by rw[zv5];exact List.take_prefix _ _) (h.own i hi) (h.cj i hi) (zy1 _);refine h1.BE fun s hs =>?_;rw[zy7.1 hs];have hfp:fh (e8 o i ⟨(o i).bE,gh (o i).cz,(o i).wr,(o i).cj⟩) (e8 f i (o i).wr.length) i=(o i).wr:=by
  rw[fh,kb,kb];exact zv5
 have em:(o i).bE.toNat=i:=by rw[hme];rfl
 refine ⟨by show 0≤(o i).bE∧(o i).bE≤2;rw[hme];omega,ht,by simp only[hme];exact fun e=>hne e.symm,fun x =>?_,by simp,fun r hr=>by cases hr⟩;have q:=DB (o i).wr x;refine ⟨q.1,Int.le_trans q.2 (Int.ofNat_le.2 (Nat.le_of_eq ?_))⟩
 show bR _ _=bR (fh _ _ (o i).bE.toNat) _
 rw[em,hfp]
theorem aei(a b:bd 6 Int)(x:Nat):(vI a b).g x=if x<6 then kq (a.g x) (b.g x) else 0:=by
 rw[vI,bd.g,zz2,zx8];by_cases h:x<6
 ·rw[if_pos h,List.getElem?_range h];rfl
 ·rw[if_neg h,List.getElem?_eq_none (by simp;omega)];rfl
theorem adJ(k:bd 6 (bd 6 Int)){a:Nat}(ha:a<6)(h:bd 6 Int)(i:Nat):(kS k a h).at i dj=if i=a then vI (k.at a dj) h else k.at i dj:=by
 rw[kS,bd.at,zz2,List.getElem?_set];by_cases e:a=i
 ·subst e;rw[if_pos rfl,if_pos (by rw[k.h];exact ha),if_pos rfl];rfl
 ·rw[if_neg e,if_neg (fun k=>e k.symm),←zz2];rfl
theorem cY.IJ(h:cY o f ls j)(hj:j<60){s:cQ}(hs:qh o f s):∃ m b g,nF (o s.dst.toNat) s=(m,b,0)∧b.length≤1∧cY (e8 o s.dst.toNat m) (e8 f s.dst.toNat g) ls j∧∀ x∈b,qh (e8 o s.dst.toNat m) (e8 f s.dst.toNat g) x:=by
 obtain ⟨i,hi⟩:∃ i:Nat,s.dst.toNat=i:=⟨_,rfl⟩
 have hto:s.dst=(i:Int):=by have:=hs.dst;omega
 have hi3:i<3:=by have:=hs.dst;omega
 rw[hi];have hk:=h.iE i hi3;have hme:=h.bE i hi3;have hfr:=hs.cH;have hok:oD s=true:=by
  have a1:dm 0 5 s.cH=true:=by rw[jE];omega
  have a2:dm 0 5 s.dst=true:=by have:=hs.dst;rw[jE];omega
  have a3:lp s.ae=true:=by
   rw[lp,zx1];intro n hn;obtain ⟨x,hx,rfl⟩:=List.getElem_of_mem hn;have q:=hs.ae x;have e:s.ae.g x=s.ae.l[x]:=by simp only[bd.g,zz2,zz5 hx,Option.getD_some]
   have q1:=xO (o:=o) (f:=f) s.cH.toNat (x:Nat);have q2:=uF (o s.cH.toNat).wr (x:Nat);have q3:=kE (h.iE s.cH.toNat (by omega)).gu;rw[←e,jE];omega
  rw[oD,a1,a2,a3,decide_eq_true hs.zq,decide_eq_true hs.len,zx1.2 fun r hr=>(hs.r5 r hr).1];rfl
 have hS:∀ x∈s.eL,nY o f i x∧bj x=true∧0≤x.aI∧x.aI≤2:=fun x hx=>by
  obtain ⟨q1,q2,q3⟩:=hs.r5 x hx;refine ⟨⟨q2,?_⟩,q1,q2⟩;split
  ·rename_i e;rw[e,zw8] at q3;exact EC q3
  ·exact q3
 obtain ⟨r',w',t1,t2,t3,t4⟩:=wS (fun a b=>h.ahE a b) (fun w hw hq=>Nat.lt_of_le_of_lt (h.FV hw hq) hj) s.eL _ _ _ hk (h.Jp hi3) hS;have hcn:=h.uG t2.gu t4 hi3;have hkn:∀ i' x:Nat,0≤gP ⟨(o i).bE,gh r',w',kS (o i).cj s.cH.toNat s.ae⟩ i' x∧gP ⟨(o i).bE,gh r',w',kS (o i).cj s.cH.toNat s.ae⟩ i' x≤(if i'<3 then bR (fh o f i') (x:Nat) else 0:Nat):=fun i' x=>by
  have q:=h.cj i hi3 i' x;rw[gP];simp only[adJ _ (show s.cH.toNat<6 by omega)];by_cases e:i'=s.cH.toNat
  ·subst e;have q2:=hs.ae x;rw[gP] at q;rw[if_pos rfl,aei];rw[if_pos (show s.cH.toNat<3 by omega)] at q ⊢;simp only[kq]
   (repeat' split) <;>omega
  ·rw[if_neg e];exact q
 obtain ⟨n1,n2⟩:=h.step (i:=i) (g:=w'.length) (d:=0) (m:=⟨(o i).bE,gh r',w',kS (o i).cj s.cH.toNat s.ae⟩) hi3 t2.seal hme
  (by rw[zv5];exact (List.take_prefix _ _).trans t3) (fun q hq hne=>by
   have:=(t4 q hq).2;rw[if_neg hne] at this;exact this) hkn hcn
 have hfp:fh (e8 o i ⟨(o i).bE,gh r',w',kS (o i).cj s.cH.toNat s.ae⟩) (e8 f i w'.length) i=w':=by
  rw[fh,kb,kb];exact zv5
 have hsub:∀ q∈w',bj q=true∧(0≤q.aI∧q.aI≤2)∧q∈fh (e8 o i ⟨(o i).bE,gh r',w',kS (o i).cj s.cH.toNat s.ae⟩) (e8 f i w'.length) q.aI.toNat:=fun q hq=>by
  refine ⟨mR t2.gu q hq,(t4 q hq).1,?_⟩;by_cases e:q.aI=(i:Int)
  ·rw[e,zw8,hfp];exact hq
  ·have:=(t4 q hq).2;rw[if_neg e] at this;exact (n2 _).subset this
 have em:(o i).bE.toNat=i:=by rw[hme];rfl
 have hlt:∀ (b:Bool) (l:List ah),l.length≤6→(∀ q∈l,q∈w')→qh (e8 o i ⟨(o i).bE,gh r',w',kS (o i).cj s.cH.toNat s.ae⟩) (e8 f i w'.length) ⟨(o i).bE,s.cH,b,cX w',l⟩:=fun b l hl hq =>
  ⟨by simp only[hme];omega,hfr,by simp only[hme,←hto];exact fun e=>hs.zq e.symm,fun x=>by
   have q:=DB w' x;refine ⟨q.1,Int.le_trans q.2 (Int.ofNat_le.2 (Nat.le_of_eq ?_))⟩
   show bR _ _=bR (fh _ _ (o i).bE.toNat) _
   rw[em,hfp],hl,fun r hr=>hsub r (hq r hr)⟩
 refine ⟨_,_,w'.length,by rw[nF,h.v7 hi3,hok,t1,if_neg (by decide),if_neg (by rw[hto,hme];simp),if_neg (by simp)],?_,n1,?_⟩
 ·(repeat' split) <;>simp
 ·intro x hx;simp only at hx;split at hx
  ·rw[zy7.1 hx];refine hlt _ _ (by rw[jz,zz6];omega) fun q hq =>?_;exact (mN t2.gu).2.1.mem_iff.1 (List.mem_filter.1 (zx9 hq)).1
  ·split at hx
   ·rw[zy7.1 hx];exact hlt _ _ (by simp) fun q hq=>by cases hq
   ·cases hx
theorem BK(i x:Nat):(gY.at i dj).g x=0:=by
 have h6:∀ x,dj.g x=0:=fun x=>by
  by_cases h:x<6
  ·have:x=0∨x=1∨x=2∨x=3∨x=4∨x=5:=by omega
   rcases this with rfl | rfl | rfl | rfl | rfl | rfl <;>rfl
  ·rw[bd.g,zz2,List.getElem?_eq_none (by rw[dj.h];omega)];rfl
 have:gY.at i dj=dj:=by
  by_cases h:i<6
  ·have:i=0∨i=1∨i=2∨i=3∨i=4∨i=5:=by omega
   rcases this with rfl | rfl | rfl | rfl | rfl | rfl <;>rfl
  ·rw[bd.at,zz2,List.getElem?_eq_none (by rw[gY.h];omega)];rfl
 rw[this,h6]
theorem SF(r:b7)(p:List Int):qE r p=eZ r p∨∃ b,qE r p=kN (eZ r p) b:=by
 rw[qE];(repeat' split)
 ·exact .inr ⟨_,rfl⟩
 ·exact .inr ⟨_,rfl⟩
 ·exact .inl rfl
theorem cY.rest(h:cY o f ls j){i:Nat}(hi:i<3){p:List Int}(hpi:∀ x∈p,-9223372036854775808≤x∧x≤9223372036854775807) :
  ∃ m n,ry (o i) p=(m,0)∧f i≤n∧n≤(o i).wr.length∧m.wr=(o i).wr.take n∧cY (e8 o i m) (e8 f i n) ls j:=by
 have hk:=h.iE i hi;have hme:=h.bE i hi;obtain ⟨_,n,t,n1,n2,e1,k2⟩:=hk.AE p hpi (SF (o i).cz p);refine ⟨⟨(o i).bE,⟨⟨t,[]⟩,⟨t,[]⟩⟩,(o i).wr.take n,gY⟩,n,by rw[ry,h.v7 hi,e1,if_neg (by decide)],n1,n2,rfl,?_⟩;refine (h.step (i:=i) (g:=n) (d:=0) (m:=⟨(o i).bE,⟨⟨t,[]⟩,⟨t,[]⟩⟩,(o i).wr.take n,gY⟩) hi k2 hme ?_ (fun r hr hne=>h.own i hi r (zx9 hr) hne) (fun i' x =>?_) ?_).1
 ·simp only[fh,List.take_take,Nat.min_self];exact List.take_prefix_take_left n1
 ·rw[gP];simp only[BK];exact ⟨Int.le_refl _,Int.natCast_nonneg _⟩
 ·exact sr (List.take_prefix _ _) _
end
def dn(a:Int):I:=.agg [.int .i64 a,enc fU,.nils 8,enc gY]
theorem cJ:(I.agg [.int .i64 0,.int .i64 0,.int .i64 0,.int .i64 0,.int .i64 0,.int .i64 0]=enc dj)∧(I.agg [enc dj,enc dj,enc dj,enc dj,enc dj,enc dj]=enc gY)∧(type_of% @jX)∧(∀ a:Int,I.agg [.int .i64 a,enc fU,.nils 8,enc gY]=dn a) ∧
  (∀ a:Int,fi [.int .i64 0,enc fU,.nils 8,enc gY] [(0,.int .i64 a)]=some [.int .i64 a,enc fU,.nils 8,enc gY]) ∧
  (∀ A n b rest (a c:Int),de A (some 42) n [] b (dn a) rest (some (dn c))=au rest (A.aM n (.box (dn a))))∧(∀ A n b rest (q:bN) (c:Int),de A (some 42) n [] b (enc q) rest (some (dn c))=au rest (A.aM n (.box (enc q)))) ∧
  (∀ A n b rest (q r:bN),de A (some 42) n [] b (enc q) rest (some (enc r))=au rest (A.aM n (.box (enc q))))∧(∀ a:Int,bS (some 42) (dn a)=true)∧(∀ a:Int,(dn a).cm=true)∧(∀ aG A (a:Int),bh aG A (dn a)=some (enc (⟨a,fU,[],gY⟩:bN))) ∧
  (∀ q:bN,bS (some 42) (enc q)=true)∧(∀ m:bN,(enc m).dC=some [.int .i64 m.bE,enc m.cz,enc m.wr,enc m.cj])∧(∀ m:bN,(enc m).at [0]=some (.int .i64 m.bE))∧(∀ m:bN,(enc m).at [1]=some (enc m.cz))∧(∀ m:bN,(enc m).at [2]=some (enc m.wr))∧(∀ m:bN,(enc m).at [3]=some (enc m.cj)) ∧
  (∀ (a:Int) (r:b7) (w:List ah) (k:bd 6 (bd 6 Int)) p,e9 [.int .i64 a,enc r,enc w,enc k] 1 1 p=some p)∧(∀ (a:Int) (r:b7) (w:List ah) (k:bd 6 (bd 6 Int)) p,e9 [.int .i64 a,enc r,enc w,enc k] 2 5 p=some p)∧(∀ (a:Int) (r:b7) (w:List ah) (k:bd 6 (bd 6 Int)) p,e9 [.int .i64 a,enc r,enc w,enc k] 3 6 p=some p) ∧
  (∀ k:bd 6 (bd 6 Int),bS (some 36) (enc k)=true)∧(∀ k:bd 6 Int,bS (some 6) (enc k)=true)∧(∀ A n b rest (q r:bd 6 Int),de A (some 6) n [] b (enc q) rest (some (enc r))=au rest (A.aM n (.box (enc q)))) :=
 ⟨rfl,rfl,jX,fun _=>rfl,fun _=>rfl,
  fun A n b rest a c=>by rw[dS (s:=some 42) (v:=dn a) (old:=dn c) rfl rfl rfl,ez],
  fun A n b rest q c=>by rw[dS (s:=some 42) (v:=enc q) (old:=dn c) (dH _) (by rw[eQ];rfl) (cM _),ez],
  fun A n b rest q r=>by rw[dS (s:=some 42) (v:=enc q) (old:=enc r) (dH _) (by rw[eQ];rfl) ((cM _).trans (cM _).symm),ez],
  fun _=>rfl,fun _=>rfl,fun aG A a=>by simp only[dn,bh,bO,jW];rfl,fun _=>by rw[eQ];rfl,fun _=>rfl,fun _=>rfl,fun _=>rfl,fun _=>rfl,fun _=>rfl,
  fun _ _ _ _ _=>rfl,fun _ _ _ _ _=>rfl,fun _ _ _ _ _=>rfl,fun _=>by rw[eQ];rfl,fun _=>by rw[eQ];rfl,
  fun A n b rest q r=>by rw[dS (s:=some 6) (v:=enc q) (old:=enc r) (dH _) (by rw[eQ];rfl) ((cM _).trans (cM _).symm),ez]⟩
theorem KA(bE:Int):aP Tryz.prog 55 [enc bE] (.tuple [enc (td bE).1,enc (td bE).2]):=by
 refine aP.bM Tryz.func55 Nc OO Qq (t7 rfl) (fun hwf W0 bI E1 =>?_);simp only[CU,H6,bC];clear hwf;have f:=rX bE;rw[td];cases q:dm 0 5 bE
 ·rw[q] at f;rw[if_neg (by decide)];have R:=y6 @cJ aw
  repeat' ((first |refine ab.aA (by decide +kernel) rfl fun K hK =>?_|refine .flat _ (f) rfl ?_|(refine .av [0,2,3,6] hK ?_;clear hK K)|(with_reducible refine .done (hK _ ?_);clear hK K)|refine ab.of rfl ?_|(with_reducible refine ar.az (fun h =>?_) (fun h =>?_) <;>try simp only[h])) <;>try simp only[aB,R,simprocAttr])
  all_goals clear R
  all_goals rfl
 ·rw[q] at f;rw[if_pos rfl];have R:=y6 @cJ aw
  repeat' ((first |refine ab.aA (by decide +kernel) rfl fun K hK =>?_|refine .flat _ (f) rfl ?_|(refine .av [0,2,3,6] hK ?_;clear hK K)|(with_reducible refine .done (hK _ ?_);clear hK K)|refine ab.of rfl ?_|(with_reducible refine ar.az (fun h =>?_) (fun h =>?_) <;>try simp only[h])) <;>try simp only[aB,R,simprocAttr])
  all_goals clear R
  all_goals rfl
def nA(n:Int):Bool := !dm 0 60 n
def mu:List Int→Nat→Int
 | [],_=>-1
 |n::l,i=>if nA n=true then (i:Int) else mu l (i+1)
theorem Fm:∀ (l:List Int) (i:Nat),decide (mu l i≥0)=l.any nA
 | [],i=>by simp[mu]
 |n::l,i=>by
  rw[mu,List.any_cons];cases h:nA n
  ·rw[if_neg (by decide),Fm l (i+1)];rfl
  ·rw[if_pos rfl];simp
theorem Ku(l:List Int)(hl:l.length≤4000000000000):aP Tryz.prog 187 [enc l,.func 167 []] (enc (mu l 0)):=by
 refine aP.bM Tryz.func187 MX OA Qc (t7 rfl) (fun hwf W0 bI E1 =>?_);simp only[CH,HQ,bC,zz4];clear hwf;have R:=aw
 repeat' ((first |refine ab.aA (by decide +kernel) rfl fun K hK =>?_|(refine .av [0,1,4,5,7,8,9,16] hK ?_;clear hK K)|(with_reducible refine .done (hK _ ?_);clear hK K)|refine ab.of rfl ?_|(with_reducible refine ar.az (fun h =>?_) (fun h =>?_) <;>try simp only[h])) <;>try simp only[aB,R,simprocAttr])
 all_goals clear R
 refine ab.loop (fun i:Nat=>aC [(0,enc l),(1,.func 167 []),(7,.int .i64 l.length),(8,.int .i64 i)] []) (fun i=>i≤l.length∧mu l 0=mu (l.drop i) i) (fun i=>l.length-i) 0 ⟨zv6 _,by simp⟩ ?_ ?_
 ·refine bt.cF ?_ ?_ ?_ ?_ <;>simp[bT,bZ,bU,bB,bJ,I.only,I.bY,bg]
 rintro i ⟨hi,heq⟩;rw[heq];by_cases hlt:i<l.length
 ·have hlc:=ga hlt;have he:=fun A=>gB (A:=A) 1 hlt rfl;have hw:=eO (i:=i) (by omega);have hd:=zu3 hlt;rw[hd,mu] at heq ⊢;generalize l[i]=n at *;have f:=Ks n;rw[show (!dm 0 60 n)=nA n from rfl] at f;cases q:nA n
  ·rw[q] at f;rw[q,if_neg (by decide)] at heq;rw[if_neg (by decide)];have R:=y6 @hlc (y6 @he (y6 @hw aw))
   repeat' ((first |refine ab.aA (by decide +kernel) rfl fun K hK =>?_|refine .flat _ (f) rfl ?_|(refine .av [0,1,4,5,7,8,9,16] hK ?_;clear hK K)|(with_reducible refine .done (hK _ ?_);clear hK K)|refine ab.of rfl ?_|(with_reducible refine ar.az (fun h =>?_) (fun h =>?_) <;>try simp only[h])) <;>try simp only[aB,R,zz8,simprocAttr])
   all_goals clear R
   refine ⟨i+1,⟨by omega,heq▸rfl⟩,by omega,?_⟩;clear hd heq;refine bt.cF ?_ ?_ ?_ ?_ <;>simp[bT,bZ,bU,bB,bJ,I.only,I.bY,bg]
  ·rw[q] at f;rw[if_pos rfl];have R:=y6 @hlc (y6 @he (y6 @hw aw))
   repeat' ((first |refine ab.aA (by decide +kernel) rfl fun K hK =>?_|refine .flat _ (f) rfl ?_|(refine .av [0,1,4,5,7,8,9,16] hK ?_;clear hK K)|(with_reducible refine .done (hK _ ?_);clear hK K)|refine ab.of rfl ?_|(with_reducible refine ar.az (fun h =>?_) (fun h =>?_) <;>try simp only[h])) <;>try simp only[aB,R,zz8,simprocAttr])
   all_goals clear R
 ·have hlc:=gM hlt;rw[zv9 (by omega),mu];have R:=y6 @hlc aw
  repeat' ((first |refine ab.aA (by decide +kernel) rfl fun K hK =>?_|(refine .av [0,1,4,5,7,8,9,16] hK ?_;clear hK K)|(with_reducible refine .done (hK _ ?_);clear hK K)|refine ab.of rfl ?_|(with_reducible refine ar.az (fun h =>?_) (fun h =>?_) <;>try simp only[h])) <;>try simp only[aB,R,simprocAttr])
  all_goals clear R
theorem Kr(l:List Int)(hl:l.length≤4000000000000):aP Tryz.prog 166 [enc l,.func 167 []] (enc (l.any nA)):=by
 refine aP.bM Tryz.func166 MT Ov P7 (t7 rfl) (fun hwf W0 bI E1 =>?_);simp only[CE,HL,bC,zz4];clear hwf;have f:=Ku l hl;have h:=Fm l 0;generalize mu l 0=n at *;generalize l.any nA=b at *;have R:=y6 @h aw
 repeat' ((first |refine ab.aA (by decide +kernel) rfl fun K hK =>?_|refine .flat _ (f) rfl ?_|(refine .av [0,1,4] hK ?_;clear hK K)|(with_reducible refine .done (hK _ ?_);clear hK K)|refine ab.of rfl ?_|(with_reducible refine ar.az (fun h =>?_) (fun h =>?_) <;>try simp only[h])) <;>try simp only[aB,R,simprocAttr])
 all_goals clear R
theorem Lq(x:bd 6 Int):lp x = !x.l.any nA:=by
 rw[lp,List.all_eq_not_any_not];rfl
theorem Ba(x:bd 6 Int):aP Tryz.prog 147 [enc x] (enc (lp x)):=by
 refine aP.bM Tryz.func147 MH Oi PY (t7 rfl) (fun hwf W0 bI E1 =>?_);simp only[Cv,HB,bC];clear hwf;have f:=Kr x.l (by rw[x.h];decide);have ae:jB 1 0 6 (some (x.l.map enc))=some (enc x.l):=by
  have:=oj (α:=Int) (sz:=1) (xs:=x.l) (k:=6) rfl;rw[zv8 (by rw[x.h];exact zy1 _)] at this;exact this
 rw[Lq];have hva:∀ y,p8 6 1 (x.l.map enc) y=some y:=fun y=>by
  have he:gL 6 1 (x.l.map (enc (α:=Int)))=true:=sw 6 1 x.l x.h rfl;rw[p8,if_pos ⟨he,by decide,by decide⟩]
 generalize x.l.any nA=b at *;have R:=y6 @ae (y6 @hva (y6 @cJ (y6 @fM aw)))
 repeat' ((first |refine ab.aA (by decide +kernel) rfl fun K hK =>?_|refine .flat _ (f) rfl ?_|(refine .av [0,1,2] hK ?_;clear hK K)|(with_reducible refine .done (hK _ ?_);clear hK K)|refine ab.of rfl ?_|(with_reducible refine ar.az (fun h =>?_) (fun h =>?_) <;>try simp only[h])) <;>try simp only[aB,R,simprocAttr])
 all_goals clear R
theorem tX(m:bN)(hr:m.cz.small)(hl:m.wr.length≤4000000000000):aP Tryz.prog 111 [enc m] (enc (jJ m)):=by
 refine aP.bM Tryz.func111 Mf NT PA (t7 rfl) (fun hwf W0 bI E1 =>?_);simp only[B9,He,bC];clear hwf;have R:=y6 @cJ aw
 repeat' ((first |(with_reducible refine .guard (fun hb =>?_) (fun hb =>?_) <;>try simp only[hb])|refine ab.aA (by decide +kernel) rfl fun K hK =>?_|(refine .av [0,1,2,4,6,7,8,12] hK ?_;clear hK K)|(with_reducible refine .done (hK _ ?_);clear hK K)|refine ab.of rfl ?_|(with_reducible refine ar.az (fun h =>?_) (fun h =>?_) <;>try simp only[h])) <;>try simp only[aB,R,simprocAttr])
 all_goals clear R
 refine ab.loop (fun i:Nat=>aC [(1,.ptr 1 []),(6,enc m.cj),(7,.int .i64 (i:Int))] [(1,.box (enc m))]) (fun i=>i≤6∧qL m.cj=(m.cj.l.drop i).all lp) (fun i=>6-i) 0 ⟨by decide,by simp[qL]⟩ ?_ ?_
 ·refine bt.cF ?_ ?_ ?_ ?_ <;>simp[bT,bZ,bU,bB,ay,bJ,dz,I.only,al.only,bg]
  all_goals rfl
 rintro i ⟨hi,heq⟩;rw[jJ,heq];by_cases hlt:i<6
 ·have hc:decide ((i:Int)<6)=true:=decide_eq_true (by omega);have hix:=fun (s:Option Nat)=>yZ (x:=m.cj) 6 (s:=s) (k:=(i:Int)) ⟨by omega,by simpa using hlt⟩ rfl;simp only[zw8] at hix;have hw:=eO (i:=i) (by omega);have hd:=zu3 (m.cj.lt hlt);rw[hd,List.all_cons] at heq ⊢;generalize m.cj.l[i]'(m.cj.lt hlt)=x at *;have f:=Ba x;cases q:lp x
  ·rw[q] at f;rw[Bool.false_and,Bool.false_and];have R:=y6 @hc (y6 @hix (y6 @hw (y6 @cJ aw)))
   repeat' ((first |(with_reducible refine .guard (fun hb =>?_) (fun hb =>?_) <;>try simp only[hb])|refine ab.aA (by decide +kernel) rfl fun K hK =>?_|refine .flat _ (f) rfl ?_|(refine .av [0,1,2,4,6,7,8,12] hK ?_;clear hK K)|(with_reducible refine .done (hK _ ?_);clear hK K)|refine ab.of rfl ?_|(with_reducible refine ar.az (fun h =>?_) (fun h =>?_) <;>try simp only[h])) <;>try simp only[aB,R,simprocAttr])
   all_goals clear R
  ·rw[q] at f heq;rw[zu6] at heq;have R:=y6 @hc (y6 @hix (y6 @hw (y6 @cJ aw)))
   repeat' ((first |(with_reducible refine .guard (fun hb =>?_) (fun hb =>?_) <;>try simp only[hb])|refine ab.aA (by decide +kernel) rfl fun K hK =>?_|refine .flat _ (f) rfl ?_|(refine .av [0,1,2,4,6,7,8,12] hK ?_;clear hK K)|(with_reducible refine .done (hK _ ?_);clear hK K)|refine ab.of rfl ?_|(with_reducible refine ar.az (fun h =>?_) (fun h =>?_) <;>try simp only[h])) <;>try simp only[aB,R,simprocAttr])
   all_goals clear R
   refine ⟨i+1,⟨by omega,heq▸rfl⟩,by omega,?_⟩;clear hd heq hix;refine bt.cF ?_ ?_ ?_ ?_ <;>simp[bT,bZ,bU,bB,ay,bJ,dz,I.only,al.only,bg]
   all_goals rfl
 ·have hc:decide ((i:Int)<6)=false:=decide_eq_false (by omega);rw[zv9 (by rw[m.cj.h];omega),List.all_nil,zu6];have f1:=rX m.bE;have f2:=Bp m.cz hr m.wr hl;cases q:dm 0 5 m.bE
  ·rw[q] at f1;have R:=y6 @hc (y6 @cJ aw)
   repeat' ((first |(with_reducible refine .guard (fun hb =>?_) (fun hb =>?_) <;>try simp only[hb])|refine ab.aA (by decide +kernel) rfl fun K hK =>?_|refine .flat _ (f1) rfl ?_|(refine .av [0,1,2,4,6,7,8,12] hK ?_;clear hK K)|(with_reducible refine .done (hK _ ?_);clear hK K)|refine ab.of rfl ?_|(with_reducible refine ar.az (fun h =>?_) (fun h =>?_) <;>try simp only[h])) <;>try simp only[aB,R,simprocAttr])
   all_goals clear R
   all_goals rfl
  ·rw[q] at f1;rw[zu6];generalize ed m.cz m.wr=b at *;have R:=y6 @hc (y6 @cJ (y6 @fD aw))
   repeat' ((first |(with_reducible refine .guard (fun hb =>?_) (fun hb =>?_) <;>try simp only[hb])|refine ab.aA (by decide +kernel) rfl fun K hK =>?_|refine .flat _ (f1) rfl ?_|refine .flat _ (f2) rfl ?_|(refine .av [0,1,2,4,6,7,8,12] hK ?_;clear hK K)|(with_reducible refine .done (hK _ ?_);clear hK K)|refine ab.of rfl ?_|(with_reducible refine ar.az (fun h =>?_) (fun h =>?_) <;>try simp only[h])) <;>try simp only[aB,R,simprocAttr])
   all_goals clear R
def kn(p:ah→Bool)(l:List ah):Int:=match l.findIdx? p with
 |some i=>i
 |none=>-1
def kY(k:Nat)(ws:List ah):List (Nat×al):=[(k,.box (.agg (ws.map enc)))]
theorem qT(p:Nat→Bool)(l:List ah):(I.agg (l.map enc)).only p=true:=by simp only[I.only];exact oE p l
theorem agL{ws:List ah} : ∀ m,ay (kY 1000000 ws) m=true→1000000≤m:=fun m hm=>by rw[ee.1 hm];exact zy1 _
theorem FA{n i:Nat}(h:i<n)(fs:List I):mw 1000000 [] 8 0 n 8 (i:Int) (some fs)=some (.ptr 1000000 [i]):=by
 have:=FB (m:=1000000) (sz:=8) (lo:=0) (l:=n) (i:=i) (fs:=fs) h
 rwa [zz4] at this
theorem ahl{A:af}{n i:Nat}{xs:List ah}(h:i<xs.length)(v u:ah){rest:List aF} : de A (some 8) n [i] (.agg (xs.map enc)) (enc v) rest (some (enc u))=au rest (A.aM n (.box (.agg ((xs.set i v).map enc)))):=by
 rw[dS (dH v) (by rw[eQ];rfl) ((cM v).trans (cM u).symm)];have h2:(xs.map (enc (α:=ah)))[i]?=some (enc (xs[i])):=by simp[h]
 simp only[I.dR,h2,List.map_set]
def DQ(xs:List ah)(p:ah→Bool)(N:Nat):cv:=fun r os'=>∃ us:List ah,r=.view 1000000 [] 8 0 (xs.filter fun x => !p x).length∧os'=kY 1000000 us∧us.take (xs.filter fun x => !p x).length=(xs.filter fun x => !p x)∧us.length=N
theorem xb{k0:Nat}(hk0:k0<1000000)(l:List ah)(caps:List I)(hcaps:I.gm caps=true)(p:ah→Bool)(hl:l.length≤1000)(hf:∀ x∈l,aP Tryz.prog k0 (enc x::caps) (enc (p x))):aP Tryz.prog 146 [enc l,.func k0 caps] (enc (kn p l)):=by
 refine aP.bM Tryz.func146 MG Oh PX (t7 rfl) (fun hwf W0 bI E1 =>?_);simp only[Cu,HA,bC,zz4];clear hwf;have hlk:(k0<1000000)=True:=eq_true hk0;have hlk2:decide (k0<1000000)=true:=decide_eq_true hk0;have hcl:I.cG caps=true:=qz caps hcaps;have hfc:∀ aG A,bO aG A caps=some caps:=fun aG A=>pj aG A caps hcaps;have hon:∀ q,I.bY q caps=true:=fun q=>mF q caps hcl;have R:=y6 @hlk (y6 @hlk2 (y6 @hfc aw))
 repeat' ((first |refine ab.aA (by decide +kernel) rfl fun K hK =>?_|(refine .av [0,1,4,5,7,8,9,16] hK ?_;clear hK K)|(with_reducible refine .done (hK _ ?_);clear hK K)|refine ab.of rfl ?_|(with_reducible refine ar.az (fun h =>?_) (fun h =>?_) <;>try simp only[h])) <;>try simp only[aB,R,simprocAttr])
 all_goals clear R
 refine ab.loop (fun i:Nat=>aC [(0,enc l),(1,.func k0 caps),(7,.int .i64 l.length),(8,.int .i64 i)] []) (fun i=>i≤l.length∧∀ k,k<i→∀ h:k<l.length,p l[k]=false) (fun i=>l.length-i) 0 ⟨zv6 _,fun k h=>by omega⟩ ?_ (fun i hi =>?_)
 ·refine bt.cF ?_ ?_ ?_ ?_ <;>simp[*,bT,bZ,bU,bB,bJ,I.only,bg]
 obtain ⟨hi1,hi2⟩:=hi;by_cases hlt:i<l.length
 ·have hlc:=ga hlt;have he:=fun A=>gB (A:=A) 8 hlt rfl;have hw:=eO (i:=i) (by omega);have hP:=hf _ (zv4 hlt);rcases q:p l[i]
  ·rw[q] at hP;have R:=y6 @hlk (y6 @hlk2 (y6 @hlc (y6 @he (y6 @hw (y6 @hfc aw)))))
   repeat' ((first |refine ab.aA (by decide +kernel) rfl fun K hK =>?_|refine .flat _ (hP) rfl ?_|(refine .av [0,1,4,5,7,8,9,16] hK ?_;clear hK K)|(with_reducible refine .done (hK _ ?_);clear hK K)|refine ab.of rfl ?_|(with_reducible refine ar.az (fun h =>?_) (fun h =>?_) <;>try simp only[h])) <;>try simp only[aB,R,zz8,simprocAttr])
   all_goals clear R
   refine ⟨i+1,⟨by omega,fun k hk h =>?_⟩,by omega,?_⟩
   ·by_cases e:k=i
    ·subst e;exact q
    ·exact hi2 k (by omega) h
   ·refine bt.cF ?_ ?_ ?_ ?_ <;>simp[*,bT,bZ,bU,bB,bJ,I.only,bg]
  ·rw[q] at hP;have hm:kn p l=(i:Int):=by
    have:l.findIdx? p=some i:=List.findIdx?_eq_some_iff_getElem.2 ⟨hlt,q,fun j hj=>by simp[hi2 j hj (by omega)]⟩;simp only[kn,this]
   rw[hm];have R:=y6 @hlk (y6 @hlk2 (y6 @hlc (y6 @he (y6 @hfc aw))))
   repeat' ((first |refine ab.aA (by decide +kernel) rfl fun K hK =>?_|refine .flat _ (hP) rfl ?_|(refine .av [0,1,4,5,7,8,9,16] hK ?_;clear hK K)|(with_reducible refine .done (hK _ ?_);clear hK K)|refine ab.of rfl ?_|(with_reducible refine ar.az (fun h =>?_) (fun h =>?_) <;>try simp only[h])) <;>try simp only[aB,R,zz8,simprocAttr])
   all_goals clear R
 ·have hlc:=gM hlt;have hm:kn p l=-1:=by
   have:l.findIdx? p=none:=List.findIdx?_eq_none_iff.2 fun x hx=>by
    obtain ⟨k,hk,rfl⟩:=List.mem_iff_getElem.1 hx;exact hi2 k (by omega) hk
   simp only[kn,this]
  rw[hm];have R:=y6 @hlk (y6 @hlk2 (y6 @hlc aw))
  repeat' ((first |refine ab.aA (by decide +kernel) rfl fun K hK =>?_|(refine .av [0,1,4,5,7,8,9,16] hK ?_;clear hK K)|(with_reducible refine .done (hK _ ?_);clear hK K)|refine ab.of rfl ?_|(with_reducible refine ar.az (fun h =>?_) (fun h =>?_) <;>try simp only[h])) <;>try simp only[aB,R,simprocAttr])
  all_goals clear R
theorem J3{k0:Nat}(hk0:k0<1000000)(caps:List I)(hcaps:I.gm caps=true):aP Tryz.prog 106 [enc ([]:List ah),.func k0 caps] (enc ([]:List ah)):=by
 refine aP.bM Tryz.func106 Di Ds DH (t7 rfl) (fun hwf W0 bI E1 =>?_);simp only[xC,zU,bC,zz4];clear hwf;have hlk:(k0<1000000)=True:=eq_true hk0;have hlk2:decide (k0<1000000)=true:=decide_eq_true hk0;have hfc:∀ aG A,bO aG A caps=some caps:=fun aG A=>pj aG A caps hcaps;have hF:=xb hk0 ([]:List ah) caps hcaps (fun _=>true) (by simp) (fun x h=>by cases h);have h1:kn (fun _=>true) []=-1:=rfl;rw[h1] at hF;have q1:((-1:Int)==-1)=true:=rfl;have R:=y6 @hlk (y6 @hlk2 (y6 @q1 (y6 @hfc aw)))
 repeat' ((first |refine ab.aA (by decide +kernel) rfl fun K hK =>?_|refine .flat _ (hF) rfl ?_|(refine .av [0,1,4,5,6,7,12,19,29] hK ?_;clear hK K)|(with_reducible refine .done (hK _ ?_);clear hK K)|refine ab.of rfl ?_|(with_reducible refine ar.az (fun h =>?_) (fun h =>?_) <;>try simp only[h])) <;>try simp only[aB,R,simprocAttr])
 all_goals clear R
theorem J2{k0:Nat}(hk0:k0<1000000)(xs q:List ah)(hn:xs.length≤200)(hq:0<(xs++q).length)(caps:List I)(hcaps:I.gm caps=true)(p:ah→Bool)(hf:∀ x∈xs,aP Tryz.prog k0 (enc x::caps) (enc (p x))) :
  ep Tryz.prog 106 [.view 1000000 [] 8 0 xs.length,.func k0 caps] (kY 1000000 (xs++q)) (DQ xs p (xs++q).length):=by
 refine ep.bM Tryz.func106 Di Ds DH (t7 rfl) (t7 rfl) agL (fun hwf W0 bI E1 =>?_);simp only[xC,zU,bC,zz4];clear hwf;have hlk:(k0<1000000)=True:=eq_true hk0;have hlk2:decide (k0<1000000)=true:=decide_eq_true hk0;have hcl:I.cG caps=true:=qz caps hcaps;have hfc:∀ aG A,bO aG A caps=some caps:=fun aG A=>pj aG A caps hcaps;have hon:∀ q,I.bY q caps=true:=fun q=>mF q caps hcl;have hF:=xb hk0 xs caps hcaps p (by omega) hf;have hfp:jB 8 0 xs.length (some ((xs++q).map enc))=some (enc xs):=by rw[oj (α:=ah) (sz:=8) rfl,zu8]
 simp only[kY];cases hfi:xs.findIdx? p with
 |none =>
  have hi:kn p xs=-1:=by simp[kn,hfi]
  rw[hi] at hF;rw[List.findIdx?_eq_none_iff] at hfi;have hk:(xs.filter fun x => !p x)=xs:=by
   rw[List.filter_eq_self];intro x hx;simp[hfi x hx]
  have q1:((-1:Int)==-1)=true:=rfl;have R:=y6 @hlk (y6 @hlk2 (y6 @q1 (y6 @hfp (y6 @hfc (y6 @qq (y6 @fM aw))))))
  repeat' ((first |refine ab.aA (by decide +kernel) rfl fun K hK =>?_|refine .flat _ (hF) rfl ?_|(refine .av [0,1,4,5,6,7,12,19,29] hK ?_;clear hK K)|(with_reducible refine .done (hK _ ?_);clear hK K)|refine ab.of rfl ?_|(with_reducible refine ar.az (fun h =>?_) (fun h =>?_) <;>try simp only[h])) <;>try simp only[aB,R,simprocAttr])
  all_goals clear R
  rw[ky];exact ⟨kY 1000000 (xs++q),[.view 1000000 [] 8 0 xs.length],km rfl (fun p=>qT p _),⟨⟨_,rfl,.inl ⟨rfl,rfl,rfl⟩⟩,trivial⟩,xs++q,by rw[hk];rfl,rfl,by rw[hk,zu8],rfl⟩
 |some i0 =>
  obtain ⟨q1,q2,q3⟩:=List.findIdx?_eq_some_iff_getElem.1 hfi;have hi:kn p xs=(i0:Int):=by simp[kn,hfi]
  rw[hi] at hF;have hstart:xs.take i0=(xs.take (i0+1)).filter fun x => !p x:=by
   rw[zu0 q1,List.filter_append,List.filter_cons,q2];simp only[Bool.not_true,zy0,if_false,List.filter_nil,zx2]
   symm
   rw[List.filter_eq_self];intro x hx;obtain ⟨j,hj,rfl⟩:=List.mem_take_iff_getElem.1 hx;have:=q3 j (by omega);simpa using this
  have n1:((i0:Int)==-1)=false:=beq_eq_false_iff_ne.2 (by omega);have hwi:=eO (i:=i0) (by omega);have R:=y6 @hlk (y6 @hlk2 (y6 @n1 (y6 @hwi (y6 @hfp (y6 @hfc (y6 @qq (y6 @fM aw)))))))
  repeat' ((first |refine ab.aA (by decide +kernel) rfl fun K hK =>?_|refine .flat _ (hF) rfl ?_|(refine .av [0,1,4,5,6,7,12,19,29] hK ?_;clear hK K)|(with_reducible refine .done (hK _ ?_);clear hK K)|refine ab.of rfl ?_|(with_reducible refine ar.az (fun h =>?_) (fun h =>?_) <;>try simp only[h])) <;>try simp only[aB,R,simprocAttr])
  all_goals clear R
  refine ab.loop (fun s:List ah×Nat×Nat=>aC [(0,.view 1000000 [] 8 0 xs.length),(1,.func k0 caps),(5,.int .i64 s.2.1),(6,.int .i64 s.2.2)] (kY 1000000 s.1)) (fun s=>s.1.length=(xs++q).length∧s.2.1<s.2.2∧s.2.2≤xs.length∧s.1.take s.2.1=(xs.take s.2.2).filter (fun x => !p x)∧s.1.drop s.2.2=(xs++q).drop s.2.2) (fun s=>xs.length-s.2.2) (xs++q,i0,i0+1) ⟨rfl,by simp only;omega,by simp only;omega,?_,rfl⟩ ?_ ?_
  ·simp only;rw[zw4 (by omega)];exact hstart
  ·simp only[kY];refine bt.cF ?_ ?_ ?_ ?_ <;>simp[*,bT,bZ,bU,bB,ay,bJ,dz,I.only,al.only,oE,afz]
  rintro ⟨ws,i,j⟩ ⟨c1,c2,c3,c4,c5⟩;simp only at c1 c2 c3 c4 c5 ⊢;simp only[kY];have hlen:(xs++q).length=xs.length+q.length:=zz1;by_cases hlt:j<xs.length
  ·have hc:=ga hlt;have hwj:=eO (i:=j) (by omega);have hwi2:=eO (i:=i) (by omega);have v1:=FA (n:=xs.length) (i:=j) hlt;have v2:=FA (n:=xs.length) (i:=i) (by omega);have l1:=BO (xs:=ws) (i:=j) (default:ah) (by omega);have l2:=BO (xs:=ws) (i:=i) (default:ah) (by omega);have hwj2:ws.getD j (default:ah)=xs[j]:=by
    have h1:(ws.drop j)[0]?=((xs++q).drop j)[0]?:=by rw[c5]
    simp only[List.getElem?_drop,Nat.add_zero] at h1;rw[zz2,h1,zx0 hlt,zz5 hlt];rfl
   rw[hwj2] at l1;have hP:=hf _ (zv4 hlt);have ht:(xs.take (j+1)).filter (fun x => !p x)=(xs.take j).filter (fun x => !p x)++if (!p xs[j]) then [xs[j]] else []:=by
    rw[zu0 hlt,List.filter_append,List.filter_cons,List.filter_nil]
   have s1:=fun (A:af) v u rest=>ahl (A:=A) (n:=1000000) (xs:=ws) (i:=i) (rest:=rest) (by omega) v u;generalize xs[j]=y at l1 hP ht;rcases hp:p y
   ·rw[hp] at hP ht;simp only[Bool.not_false,if_true] at ht;have R:=y6 @hlk (y6 @hlk2 (y6 @hc (y6 @hwj (y6 @hwi2 (y6 @v1 (y6 @v2 (y6 @l1 (y6 @l2 (y6 @s1 (y6 @hfc (y6 @fB (y6 @fb (y6 @qq (y6 @fM aw))))))))))))))
    repeat' ((first |refine ab.aA (by decide +kernel) rfl fun K hK =>?_|refine .flat _ (hP) rfl ?_|(refine .av [0,1,4,5,6,7,12,19,29] hK ?_;clear hK K)|(with_reducible refine .done (hK _ ?_);clear hK K)|refine ab.of rfl ?_|(with_reducible refine ar.az (fun h =>?_) (fun h =>?_) <;>try simp only[h])) <;>try simp only[aB,R,zz8,simprocAttr])
    all_goals clear R
    refine ⟨(ws.set i y,i+1,j+1),⟨by simp[c1],by simp only;omega,by simp only;omega,?_,?_⟩,by simp only;omega,?_⟩
    ·simp only;rw[ht,←c4,zu0 (by simp;omega),List.take_set_of_le (zy1 _)];simp
    ·simp only;rw[List.drop_set_of_lt (by omega)];have:(ws.drop j).drop 1=((xs++q).drop j).drop 1:=by rw[c5]
     simpa[List.drop_drop] using this
    ·simp only[];generalize ws.set i y=us;refine bt.cF ?_ ?_ ?_ ?_ <;>simp[*,bT,bZ,bU,bB,ay,bJ,dz,I.only,al.only,oE]
   ·rw[hp] at hP ht;simp only[Bool.not_true,zy0,if_false,zx2] at ht;have R:=y6 @hlk (y6 @hlk2 (y6 @hc (y6 @hwj (y6 @v1 (y6 @l1 (y6 @hfc (y6 @fB (y6 @fb (y6 @qq (y6 @fM aw))))))))))
    repeat' ((first |refine ab.aA (by decide +kernel) rfl fun K hK =>?_|refine .flat _ (hP) rfl ?_|(refine .av [0,1,4,5,6,7,12,19,29] hK ?_;clear hK K)|(with_reducible refine .done (hK _ ?_);clear hK K)|refine ab.of rfl ?_|(with_reducible refine ar.az (fun h =>?_) (fun h =>?_) <;>try simp only[h])) <;>try simp only[aB,R,zz8,simprocAttr])
    all_goals clear R
    refine ⟨(ws,i,j+1),⟨c1,by simp only;omega,by simp only;omega,?_,?_⟩,by simp only;omega,?_⟩
    ·simp only;rw[ht];exact c4
    ·simp only;have:(ws.drop j).drop 1=((xs++q).drop j).drop 1:=by rw[c5]
     simpa[List.drop_drop] using this
    ·simp only[];refine bt.cF ?_ ?_ ?_ ?_ <;>simp[*,bT,bZ,bU,bB,ay,bJ,dz,I.only,al.only,oE]
  ·have hj:j=xs.length:=by omega
   subst hj;have hc:=gM hlt;rw[zv5] at c4;have hlk:(xs.filter fun x => !p x).length=i:=by rw[←c4,zz6];omega
   have hsl2:=nQ (n:=1000000) (p:=[]) (sz:=8) (k:=xs.length) (total:=ws.length) (i:=i) (by omega) (by omega) (by omega);have hsl3:=fun us:List ah=>fun (hu:us.length=ws.length)=>wI (n:=1000000) (p:=[]) (sz:=8) (k:=xs.length) (total:=us.length) (i:=i) (by omega) (by omega);have hml2:∀ us:List ah,(us.map (enc (α:=ah))).length=us.length:=fun us=>by simp
   have hclr:=fun (A:af) rest ho=>Pq (A:=A) (rest:=rest) (esz:=8) (α:=ah) (default:ah) (n:=1000000) (lo:=i) (k:=xs.length-i) (xs:=ws) ho (by omega);obtain ⟨us,hus⟩:∃ us,us=ws.take i++(List.replicate (xs.length-i) (default:ah)++ws.drop (i+(xs.length-i))):=⟨_,rfl⟩
   have hul:us.length=ws.length:=by
    rw[hus];simp only[zz1,zz6,List.length_replicate,zv3];omega
   have hut:us.take i=xs.filter fun x => !p x:=by
    rw[hus,zw4 (by rw[zz6];omega),List.take_take,Nat.min_self,c4]
   have hsl3:=hsl3 us hul;simp only[←hus] at hclr;refine ab.seq (ab.seq ?_);refine .js (by decide +kernel) fun K hK =>?_;simp only[EU,aZ,simprocAttr]
   try simp only[hc,fM,aZ,simprocAttr]
   refine .done (hK _ ?_);clear hK K;try simp only[di]
   refine ab.iT ?_;simp only[ar,aZ,simprocAttr];refine ⟨fun h =>?_,fun h =>?_⟩
   ·cases h
   refine ab.exit ?_;try simp only[di,mc,simprocAttr]
   refine .ew (by decide +kernel) fun K hK =>?_;simp only[ES,aZ,simprocAttr]
   try simp only[hml2,hsl2,zw2,fB,fM,aZ,simprocAttr]
   rw[hclr _ _ rfl]
   try simp only[aZ,simprocAttr]
   refine .done (hK _ ?_);clear hK K;refine .ew (by decide +kernel) fun K hK =>?_;simp only[ET,aZ,simprocAttr]
   try simp only[hml2,hsl3,zw2,fM,aZ,simprocAttr]
   refine .done (hK _ ?_);clear hK K;refine ab.ret ?_;simp only[ky];exact ⟨kY 1000000 us,[.view 1000000 [] 8 0 i],km rfl (fun p=>qT p _),⟨⟨_,rfl,.inl ⟨rfl,rfl,rfl⟩⟩,trivial⟩,us,by rw[hlk];rfl,rfl,by rw[hlk];exact hut,by omega⟩
def fH(a b:Int)(k:Bool)(h:bd 6 Int):I:=.agg [.int .i64 a,.int .i64 b,.bool k,enc h,.nils 8]
theorem eY:(∀ x:cQ,(enc x).dC=some [.int .i64 x.cH,.int .i64 x.dst,.bool x.ql,enc x.ae,enc x.eL])∧(∀ x:cQ,(enc x).at [0]=some (.int .i64 x.cH))∧(∀ x:cQ,(enc x).at [1]=some (.int .i64 x.dst))∧(∀ x:cQ,(enc x).at [2]=some (.bool x.ql)) ∧
  (∀ x:cQ,(enc x).at [3]=some (enc x.ae))∧(∀ x:cQ,(enc x).at [4]=some (enc x.eL))∧(∀ x:cQ,bS (some 10) (enc x)=true)∧(∀ (a b:Int) (k:Bool) (h:bd 6 Int) (l:List ah) p,e9 [.int .i64 a,.int .i64 b,.bool k,enc h,enc l] 1 1 p=some p) ∧
  (∀ (a b:Int) (k:Bool) (h:bd 6 Int) (l:List ah) p,e9 [.int .i64 a,.int .i64 b,.bool k,enc h,enc l] 2 2 p=some p)∧(∀ (a b:Int) (k:Bool) (h:bd 6 Int) (l:List ah) p,e9 [.int .i64 a,.int .i64 b,.bool k,enc h,enc l] 3 3 p=some p) ∧
  (∀ (a b:Int) (k:Bool) (h:bd 6 Int) (l:List ah) p,e9 [.int .i64 a,.int .i64 b,.bool k,enc h,enc l] 4 9 p=some p) ∧
  (I.agg [.int .i64 0,.int .i64 0,.bool false,enc dj,.nils 8]=fH 0 0 false dj)∧(∀ (a b:Int) (k:Bool) (h:bd 6 Int),I.agg [.int .i64 a,.int .i64 b,.bool k,enc h,.nils 8]=fH a b k h) ∧
  (∀ (a b:Int) (k:Bool) (h:bd 6 Int),bS (some 10) (fH a b k h)=true)∧(∀ (a b:Int) (k:Bool) (h:bd 6 Int),(fH a b k h).cm=true)∧(∀ aG A (a b:Int) (k:Bool) (h:bd 6 Int),bh aG A (fH a b k h)=some (enc (⟨a,b,k,h,[]⟩:cQ))) ∧
  (∀ A n c rest (q:cQ) (a b:Int) (k:Bool) (h:bd 6 Int),de A (some 10) n [] c (enc q) rest (some (fH a b k h))=au rest (A.aM n (.box (enc q))))∧(∀ A n c rest (q r:cQ),de A (some 10) n [] c (enc q) rest (some (enc r))=au rest (A.aM n (.box (enc q)))) ∧
  (∀ A n c rest (a b a' b':Int) (k k':Bool) (h h':bd 6 Int),de A (some 10) n [] c (fH a b k h) rest (some (fH a' b' k' h'))=au rest (A.aM n (.box (fH a b k h)))) ∧
  (∀ aG A,bh aG A (.nils 10)=some (enc ([]:List cQ))) :=
 ⟨fun _=>rfl,fun _=>rfl,fun _=>rfl,fun _=>rfl,fun _=>rfl,fun _=>rfl,fun _=>by rw[eQ];rfl,fun _ _ _ _ _ _=>rfl,fun _ _ _ _ _ _=>rfl,fun _ _ _ _ _ _=>rfl,
  fun _ _ _ _ _ _=>pA (by simp) (by simp[I.sizes,I.size,gK,uO,uP]),rfl,fun _ _ _ _=>rfl,fun a b k h=>by simp[bS,fH,I.isAgg,I.size,I.sizes,gK,uO,uP],fun _ _ _ _=>rfl,
  fun aG A a b k h=>by simp only[fH,bh,bO,jW];rfl,
  fun A n c rest q a b k h=>by rw[dS (s:=some 10) (v:=enc q) (old:=fH a b k h) (dH _) (by rw[eQ];rfl) ((cM _).trans (by simp only[fH,I.aN,I.cB,cM];rfl)),ez],
  fun A n c rest q r=>by rw[dS (s:=some 10) (v:=enc q) (old:=enc r) (dH _) (by rw[eQ];rfl) ((cM _).trans (cM _).symm),ez],
  fun A n c rest a b a' b' k k' h h'=>by rw[dS (s:=some 10) (v:=fH a b k h) (old:=fH a' b' k' h') rfl (by simp[bS,fH,I.isAgg,I.size,I.sizes,gK,uO,uP]) (by simp only[fH,I.aN,I.cB,cM]),ez],
  fun aG A=>by simp only[bh];rfl⟩
def nv(r:ah):Bool := !bj r
theorem Km(r:ah):aP Tryz.prog 150 [enc r] (enc (nv r)):=by
 refine aP.bM Tryz.func150 MK Om P1 (t7 rfl) (fun hwf W0 bI E1 =>?_);simp only[Cy,HE,bC];clear hwf;have f:=qe r;rw[nv];generalize bj r=b at *;have R:=y6 @fb aw
 repeat' ((first |refine ab.aA (by decide +kernel) rfl fun K hK =>?_|refine .flat _ (f) rfl ?_|(refine .av [0,1,2] hK ?_;clear hK K)|(with_reducible refine .done (hK _ ?_);clear hK K)|refine ab.of rfl ?_|(with_reducible refine ar.az (fun h =>?_) (fun h =>?_) <;>try simp only[h])) <;>try simp only[aB,R,simprocAttr])
 all_goals clear R
theorem adl(p:ah→Bool)(l:List ah):decide (kn p l≥0)=l.any p:=by
 rw[kn];cases h:l.findIdx? p with
 |none =>
  have:=List.findIdx?_eq_none_iff.1 h;rw[show l.any p=false from List.any_eq_false.2 fun x hx=>by rw[this x hx];decide];rfl
 |some i =>
  obtain ⟨q1,q2,_⟩:=List.findIdx?_eq_some_iff_getElem.1 h;rw[show l.any p=true from List.any_eq_true.2 ⟨_,zv4 q1,q2⟩];exact decide_eq_true (by show (0:Int)≤(i:Int);omega)
theorem Kl(l:List ah)(hl:l.length≤1000):aP Tryz.prog 149 [enc l,.func 150 []] (enc (l.any nv)):=by
 refine aP.bM Tryz.func149 MI Oj PZ (t7 rfl) (fun hwf W0 bI E1 =>?_);simp only[Cw,HC,bC,zz4];clear hwf;have f:=xb (k0:=150) (by decide) l [] rfl nv hl fun x _=>Km x;have h:=adl nv l;generalize kn nv l=n at *;generalize l.any nv=b at *;have R:=y6 @h aw
 repeat' ((first |refine ab.aA (by decide +kernel) rfl fun K hK =>?_|refine .flat _ (f) rfl ?_|(refine .av [0,1,4] hK ?_;clear hK K)|(with_reducible refine .done (hK _ ?_);clear hK K)|refine ab.of rfl ?_|(with_reducible refine ar.az (fun h =>?_) (fun h =>?_) <;>try simp only[h])) <;>try simp only[aB,R,simprocAttr])
 all_goals clear R
theorem J4(x:cQ):aP Tryz.prog 118 [enc x] (enc (oD x)):=by
 refine aP.bM Tryz.func118 Mk NY PF (t7 rfl) (fun hwf W0 bI E1 =>?_);simp only[Ce,Hj,bC];clear hwf;have f1:=rX x.cH;have f2:=rX x.dst;have f3:=Ba x.ae;rw[oD];cases q1:dm 0 5 x.cH
 ·rw[q1] at f1;have R:=y6 @cJ (y6 @eY aw)
  repeat' ((first |(with_reducible refine .guard (fun hb =>?_) (fun hb =>?_) <;>try simp only[hb])|refine ab.aA (by decide +kernel) rfl fun K hK =>?_|refine .flat _ (f1) rfl ?_|(refine .av [0,1,2] hK ?_;clear hK K)|(with_reducible refine .done (hK _ ?_);clear hK K)|refine ab.of rfl ?_|(with_reducible refine ar.az (fun h =>?_) (fun h =>?_) <;>try simp only[h])) <;>try simp only[aB,R,simprocAttr])
  all_goals clear R
  all_goals rfl
 rw[q1] at f1;rw[zu6];cases q2:dm 0 5 x.dst
 ·rw[q2] at f2;have R:=y6 @cJ (y6 @eY aw)
  repeat' ((first |(with_reducible refine .guard (fun hb =>?_) (fun hb =>?_) <;>try simp only[hb])|refine ab.aA (by decide +kernel) rfl fun K hK =>?_|refine .flat _ (f1) rfl ?_|refine .flat _ (f2) rfl ?_|(refine .av [0,1,2] hK ?_;clear hK K)|(with_reducible refine .done (hK _ ?_);clear hK K)|refine ab.of rfl ?_|(with_reducible refine ar.az (fun h =>?_) (fun h =>?_) <;>try simp only[h])) <;>try simp only[aB,R,simprocAttr])
  all_goals clear R
  all_goals rfl
 rw[q2] at f2;rw[zu6];by_cases q3:x.cH=x.dst
 ·rw[decide_eq_false (by simpa using q3)];have h3:(x.cH != x.dst)=false:=by simp[q3]
  have R:=y6 @h3 (y6 @cJ (y6 @eY aw))
  repeat' ((first |(with_reducible refine .guard (fun hb =>?_) (fun hb =>?_) <;>try simp only[hb])|refine ab.aA (by decide +kernel) rfl fun K hK =>?_|refine .flat _ (f1) rfl ?_|refine .flat _ (f2) rfl ?_|(refine .av [0,1,2] hK ?_;clear hK K)|(with_reducible refine .done (hK _ ?_);clear hK K)|refine ab.of rfl ?_|(with_reducible refine ar.az (fun h =>?_) (fun h =>?_) <;>try simp only[h])) <;>try simp only[aB,R,simprocAttr])
  all_goals clear R
  all_goals rfl
 rw[decide_eq_true q3,zu6];have h3:(x.cH != x.dst)=true:=by simpa using q3
 cases q4:lp x.ae
 ·rw[q4] at f3;have R:=y6 @h3 (y6 @cJ (y6 @eY aw))
  repeat' ((first |(with_reducible refine .guard (fun hb =>?_) (fun hb =>?_) <;>try simp only[hb])|refine ab.aA (by decide +kernel) rfl fun K hK =>?_|refine .flat _ (f1) rfl ?_|refine .flat _ (f2) rfl ?_|refine .flat _ (f3) rfl ?_|(refine .av [0,1,2] hK ?_;clear hK K)|(with_reducible refine .done (hK _ ?_);clear hK K)|refine ab.of rfl ?_|(with_reducible refine ar.az (fun h =>?_) (fun h =>?_) <;>try simp only[h])) <;>try simp only[aB,R,simprocAttr])
  all_goals clear R
  all_goals rfl
 rw[q4] at f3;rw[zu6];by_cases q5:x.eL.length≤6
 ·have h5:decide ((x.eL.length:Int)≤6)=true:=decide_eq_true (by omega);have f4:=Kl x.eL (by omega);rw[decide_eq_true q5,zu6];have ha:x.eL.all bj = !x.eL.any nv:=by rw[List.all_eq_not_any_not];rfl
  rw[ha];generalize x.eL.any nv=b at *;have R:=y6 @h3 (y6 @h5 (y6 @cJ (y6 @eY (y6 @fp aw))))
  repeat' ((first |(with_reducible refine .guard (fun hb =>?_) (fun hb =>?_) <;>try simp only[hb])|refine ab.aA (by decide +kernel) rfl fun K hK =>?_|refine .flat _ (f1) rfl ?_|refine .flat _ (f2) rfl ?_|refine .flat _ (f3) rfl ?_|refine .flat _ (f4) rfl ?_|(refine .av [0,1,2] hK ?_;clear hK K)|(with_reducible refine .done (hK _ ?_);clear hK K)|refine ab.of rfl ?_|(with_reducible refine ar.az (fun h =>?_) (fun h =>?_) <;>try simp only[h])) <;>try simp only[aB,R,simprocAttr])
  all_goals clear R
  all_goals rfl
 ·have h5:decide ((x.eL.length:Int)≤6)=false:=decide_eq_false (by omega);rw[decide_eq_false q5];have R:=y6 @h3 (y6 @h5 (y6 @cJ (y6 @eY (y6 @fp aw))))
  repeat' ((first |(with_reducible refine .guard (fun hb =>?_) (fun hb =>?_) <;>try simp only[hb])|refine ab.aA (by decide +kernel) rfl fun K hK =>?_|refine .flat _ (f1) rfl ?_|refine .flat _ (f2) rfl ?_|refine .flat _ (f3) rfl ?_|(refine .av [0,1,2] hK ?_;clear hK K)|(with_reducible refine .done (hK _ ?_);clear hK K)|refine ab.of rfl ?_|(with_reducible refine ar.az (fun h =>?_) (fun h =>?_) <;>try simp only[h])) <;>try simp only[aB,R,simprocAttr])
  all_goals clear R
  all_goals rfl
theorem Gd:(∀ (x:I) xs (f:I→Bool),(x::xs).all f=(f x&&xs.all f))∧(∀ f:I→Bool,([]:List I).all f=true)∧(∀ n p,(I.ptr n p).cm=true)∧(∀ b,(true&&b)=b) :=
 ⟨fun _ _ _=>List.all_cons,fun _=>List.all_nil,fun _ _=>rfl,fun _=>rfl⟩
theorem gI:(∀ c:dT,(enc c).dC=some [enc c.m])∧(∀ c:dT,(enc c).at [0]=some (enc c.m))∧(∀ c:dT,(enc c).at [0,0]=some (.int .i64 c.m.bE))∧(∀ c:dT,(enc c).at [0,1]=some (enc c.m.cz))∧(∀ c:dT,(enc c).at [0,2]=some (enc c.m.wr))∧(∀ c:dT,(enc c).at [0,3]=some (enc c.m.cj)) ∧
  (∀ (a:Int) (q:bN),fi [dn a] [(0,enc q)]=some [enc q])∧(∀ q:bN,I.agg [enc q]=enc (⟨q⟩:dT))∧(∀ n p,(I.ptr n p).cm=true) ∧
  (∀ A n rest (c:dT) (q r:b7),de A (some 4) n [0,1] (enc c) (enc q) rest (some (enc r))=au rest (A.aM n (.box (enc (⟨⟨c.m.bE,q,c.m.wr,c.m.cj⟩⟩:dT))))) ∧
  (∀ A n rest (c:dT) (q r:List ah),de A none n [0,2] (enc c) (enc q) rest (some (enc r))=au rest (A.aM n (.box (enc (⟨⟨c.m.bE,c.m.cz,q,c.m.cj⟩⟩:dT))))) ∧
  (∀ A n rest (m:bN) (q r:b7),de A (some 4) n [1] (enc m) (enc q) rest (some (enc r))=au rest (A.aM n (.box (enc (⟨m.bE,q,m.wr,m.cj⟩:bN))))) ∧
  (∀ A n rest (m:bN) (q r:List ah),de A none n [2] (enc m) (enc q) rest (some (enc r))=au rest (A.aM n (.box (enc (⟨m.bE,m.cz,q,m.cj⟩:bN))))) :=
 ⟨fun _=>rfl,fun _=>rfl,fun _=>rfl,fun _=>rfl,fun _=>rfl,fun _=>rfl,fun a q=>by simp[fi,dH,gK];rfl,fun _=>rfl,fun _ _=>rfl,
  fun A n rest c q r=>by rw[dS (s:=some 4) (v:=enc q) (old:=enc r) (dH _) (by rw[eQ];rfl) ((cM _).trans (cM _).symm)];rfl,
  fun A n rest c q r=>by rw[dS (s:=none) (v:=enc q) (old:=enc r) (dH _) rfl ((cM _).trans (cM _).symm)];rfl,
  fun A n rest c q r=>by rw[dS (s:=some 4) (v:=enc q) (old:=enc r) (dH _) (by rw[eQ];rfl) ((cM _).trans (cM _).symm)];rfl,
  fun A n rest c q r=>by rw[dS (s:=none) (v:=enc q) (old:=enc r) (dH _) rfl ((cM _).trans (cM _).symm)];rfl⟩
theorem dG.aeu{k:Nat}{os0:List (Nat×al)}{r c:I}(h1:∀ p,c.only p=true)(h3:r.only (ay [(k,.box c)])=true)(h5:aq os0 k=none)(h6:k<1000000):dG false [] [] os0 r [(k,.box c)]:=by
 refine ⟨fun m x h =>?_,fun m m' h h' _ =>?_,fun m h=>by simp[ay,aq] at h,fun m h _ =>?_,h3,fun h=>by cases h⟩
 ·simp only[aq] at h;split at h
  ·simp only[v6] at h;subst h;exact ⟨h1 _,rfl,fun h=>by cases h⟩
  ·cases h
 ·rw[ee.1 h,ee.1 h']
 ·rw[ee.1 h];simp[bp,h5,h6]
def zN(v:I)(m:bN):cv:=fun r os'=>r=v∧os'=[(1000000,.box (enc (⟨m⟩:dT)))]
def G3(m:bN):cv:=fun r os'=>r=.ptr 9 []∧os'=[(9,.box (enc (⟨m⟩:dT)))]
theorem GI{x:al} : ∀ m,ay [(1000000,x)] m=true→1000000≤m:=fun m hm=>by rw[ee.1 hm];exact zy1 _
theorem sd{aG:Bool}{A:af}{ρ:List (Nat×Nat)}{os:List (Nat×al)} : ∀ cs:List I,(∀ x∈cs,x.bF=true∧x.cm=true)→gZ aG A ρ os cs cs
 | [],_=>trivial
 |x::cs,h=>⟨.inl ⟨(rp _ x (h x zw9).1).symm,nz _ x (h x zw9).1,(h x zw9).2⟩,sd cs fun y hy=>h y (zu7 _ hy)⟩
theorem JM:(∀ p,(I.tuple []).only p=true)∧∀ ρ,(I.tuple []).aQ ρ=I.tuple []:=⟨fun _=>by simp[I.only,I.bY],fun _=>by simp[I.aQ,I.dq]⟩
theorem wU(k:Int):(∀ p,(I.int .i64 k).only p=true)∧∀ ρ,(I.int .i64 k).aQ ρ=I.int .i64 k:=⟨fun _=>by simp[I.only],fun _=>by simp[I.aQ]⟩
section
variable {f n:Nat} {m m':bN} {v:I} {avs cargs:List I} {a1 a2:Option (List I)} {dst:Option Nat} {rest:List aF} {ts:List (Nat×I)} {os0:List (Nat×al)} {K:af→Prop}
theorem Pe(hn:aq os0 n=some (.box (enc (⟨m⟩:dT)))):fj [(1000000,n)] [(1000000,.box (enc (⟨m⟩:dT)))] os0:=by
 refine ⟨fun k x hx =>?_,fun k k' hk hk' _=>by rw[ee.1 hk,ee.1 hk']⟩;simp only[aq] at hx;split at hx
 ·rename_i e;subst e;cases hx;refine ⟨?_,bg _ _,rfl⟩;rw[show bp [(1000000,n)] 1000000=n from rfl,hn];simp only[al.aQ,gz]
 ·cases hx
theorem aY.qp(hc:ep Tryz.prog f (.ptr 1000000 []::cargs) [(1000000,.box (enc (⟨m⟩:dT)))] (zN v m'))(hn:aq os0 n=some (.box (enc (⟨m⟩:dT))))(hav:avs=.ptr n []::cargs)(hca:∀ x∈cargs,x.bF=true∧x.cm=true)(ae:(∀ p,v.only p=true)∧∀ ρ,v.aQ ρ=v)
  (h:aY Tryz.prog fS false K (au rest ((aC ts ((n,.box (enc (⟨m'⟩:dT)))::os0)).aR dst v))):aY Tryz.prog fS false K (.call f avs a1 a2 dst rest (aC ts os0)):=by
 subst hav;refine .bG false [(1000000,n)] [(1000000,.box (enc (⟨m⟩:dT)))] (.ptr 1000000 []::cargs) _ rfl hc (Pe hn) ⟨.inl ⟨rfl,by simp[I.only,ay,aq],rfl⟩,sd cargs hca⟩ ?_ ?_
 ·rintro r os' ⟨rfl,rfl⟩;exact dG.one (fun p=>bg p _) (fun h=>by cases h) (ae.1 _) (fun h=>by cases h)
 ·rintro r os' ⟨rfl,rfl⟩;rw[ae.2];simpa only[dp,zz9,zy9,bp,if_true,al.aQ,gz,zz8,zy3] using h
theorem aY.uE(d:Nat)(hc:ep Tryz.prog 112 [enc m] [] (G3 m))(hav:avs=[enc m])(hd:aq os0 d=none)(hd2:d<1000000)
  (h:aY Tryz.prog fS false K (au rest ((aC ts ((d,.box (enc (⟨m⟩:dT)))::os0)).aR dst (.ptr d [])))):aY Tryz.prog fS false K (.call 112 avs a1 a2 dst rest (aC ts os0)):=by
 subst hav;refine .bG false [(9,d)] [] [enc m] _ rfl hc fj.nil ⟨.inl ⟨(gz _ _).symm,bg _ _,dH _⟩,trivial⟩ ?_ ?_
 ·rintro r os' ⟨rfl,rfl⟩;exact dG.qV (fun p=>bg p _) (fun h=>by cases h) (by simp[I.only,ay,aq]) (fun h=>by cases h) hd hd2
 ·rintro r os' ⟨rfl,rfl⟩;simpa only[dp,zz9,zy9,bp,if_true,al.aQ,I.aQ,gz,zz8,zy3] using h
end
theorem xa(m:bN)(hl:m.wr.length≤1000):ep Tryz.prog 112 [enc m] [] (G3 m):=by
 refine ep.bM Tryz.func112 Mg NU PB (t7 rfl) (t7 rfl) (fun m hm=>by simp[ay,aq] at hm) (fun hwf W0 bI E1 =>?_);simp only[Ca,Hf,bC];clear hwf;have f:=qf m.wr hl;have hall:([I.ptr 9 []].all fun y=>y.cm)=true:=rfl;have R:=y6 @hall (y6 @cJ (y6 @gI (y6 @fp aw)))
 repeat' ((first |refine ab.aA (by decide +kernel) rfl fun K hK =>?_|refine .lead _ (f) ?_|(refine .av [0,1,2] hK ?_;clear hK K)|(with_reducible refine .done (hK _ ?_);clear hK K)|refine ab.of rfl ?_|(with_reducible refine ar.az (fun h =>?_) (fun h =>?_) <;>try simp only[h])) <;>try simp only[aB,R,simprocAttr])
 all_goals clear R
 exact ⟨[(9,.box (enc (⟨m⟩:dT)))],[.ptr 9 []],km rfl (fun p=>bg p _),⟨⟨_,rfl,.inl ⟨rfl,rfl,rfl⟩⟩,trivial⟩,rfl,rfl⟩
def aR(m:bN)(r:ah):bN:=if (fN m.cz m.wr r).2.2=0 then ⟨m.bE,(fN m.cz m.wr r).1,(fN m.cz m.wr r).2.1,m.cj⟩ else m
theorem ahL{r:b7}{w:List ah}{x:ah}(h:ed r w=true):mP r w (cC w) x=fN r w x:=by
 have hw:cS [] w=true:=by simp only[ed,zz0] at h;exact h.1.1
 rw[AS hw,lg,h,if_neg (by decide)]
theorem AX(m:bN)(hh:ed m.cz m.wr=true)(hr:m.cz.small)(r:ah):ep Tryz.prog 113 [.ptr 1000000 [],enc r] [(1000000,.box (enc (⟨m⟩:dT)))] (zN (.int .i64 (fN m.cz m.wr r).2.2) (aR m r)):=by
 have hw:cS [] m.wr=true:=by simp only[ed,zz0] at hh;exact hh.1.1
 have hl:=kE hw;have f:=Bq m.cz hr m.wr (cC m.wr) hl (mR hw) (by rw[tI];exact hl) (Bt m.wr (by omega) (rS hw)) r;rw[ahL hh] at f;refine ep.bM Tryz.func113 Mh NV PC (t7 rfl) (t7 rfl) GI (fun hwf W0 bI E1 =>?_);simp only[Cb,Hg,bC,zz4];clear hwf;rw[aR];generalize fN m.cz m.wr r=q at *;obtain ⟨q1,q2,e⟩:=q;simp only at f ⊢;by_cases he:e=0
 ·subst he;rw[if_pos rfl];have R:=y6 @cJ (y6 @gI (y6 @fI (y6 @jX (y6 @fD (y6 @fp aw)))))
  repeat' ((first |refine ab.aA (by decide +kernel) rfl fun K hK =>?_|refine .lead _ (f) ?_|(refine .av [0,1,3,4,5,6,7,25] hK ?_;clear hK K)|(with_reducible refine .done (hK _ ?_);clear hK K)|refine ab.of rfl ?_|(with_reducible refine ar.az (fun h =>?_) (fun h =>?_) <;>try simp only[h])) <;>try simp only[aB,R,simprocAttr])
  all_goals clear R
  exact ⟨[(1000000,.box (enc (⟨⟨m.bE,q1,q2,m.cj⟩⟩:dT)))],[.int .i64 0],km rfl (fun p=>bg p _),⟨⟨_,rfl,.inl ⟨rfl,rfl,rfl⟩⟩,trivial⟩,rfl,rfl⟩
 ·rw[if_neg he];have hb:(e==0)=false:=beq_eq_false_iff_ne.2 he;have R:=y6 @hb (y6 @cJ (y6 @gI (y6 @fI (y6 @jX (y6 @fD (y6 @fp aw))))))
  repeat' ((first |refine ab.aA (by decide +kernel) rfl fun K hK =>?_|refine .lead _ (f) ?_|(refine .av [0,1,3,4,5,6,7,25] hK ?_;clear hK K)|(with_reducible refine .done (hK _ ?_);clear hK K)|refine ab.of rfl ?_|(with_reducible refine ar.az (fun h =>?_) (fun h =>?_) <;>try simp only[h])) <;>try simp only[aB,R,simprocAttr])
  all_goals clear R
  exact ⟨[(1000000,.box (enc (⟨m⟩:dT)))],[.int .i64 e],km rfl (fun p=>bg p _),⟨⟨_,rfl,.inl ⟨rfl,rfl,rfl⟩⟩,trivial⟩,rfl,rfl⟩
theorem AY(m:bN)(hr:m.cz.small):ep Tryz.prog 115 [.ptr 1000000 []] [(1000000,.box (enc (⟨m⟩:dT)))] (zN (.tuple []) ⟨m.bE,gh m.cz,m.wr,m.cj⟩):=by
 have f:=Bf m.cz hr;refine ep.bM Tryz.func115 Mi NW PD (t7 rfl) (t7 rfl) GI (fun hwf W0 bI E1 =>?_);simp only[Cc,Hh,bC];clear hwf;generalize gh m.cz=q at *;have R:=y6 @cJ (y6 @gI (y6 @fI (y6 @jX (y6 @fD (y6 @fp aw)))))
 repeat' ((first |refine ab.aA (by decide +kernel) rfl fun K hK =>?_|refine .flat _ (f) rfl ?_|(refine .av [0] hK ?_;clear hK K)|(with_reducible refine .done (hK _ ?_);clear hK K)|refine ab.of rfl ?_|(with_reducible refine ar.az (fun h =>?_) (fun h =>?_) <;>try simp only[h])) <;>try simp only[R,simprocAttr])
 all_goals clear R
 exact ⟨[(1000000,.box (enc (⟨⟨m.bE,q,m.wr,m.cj⟩⟩:dT)))],[],km rfl (fun p=>bg p _),trivial,rfl,rfl⟩
theorem AZ(m:bN)(hl:m.wr.length≤1000)(hin:qI m.wr)(t:Int)(b:Bool):aP Tryz.prog 116 [.ref (enc (⟨m⟩:dT)),enc t,enc b] (enc (⟨m.bE,t,b,cX m.wr,[]⟩:cQ)):=by
 have f:=qd m.wr (by omega) hin;refine aP.bM Tryz.func116 Mj NX PE (t7 rfl) (fun hwf W0 bI E1 =>?_);simp only[Cd,Hi,bC,zz4,Nat.reduceAdd];clear hwf;generalize cX m.wr=h at *;have hs:fi [.int .i64 0,.int .i64 0,.bool false,enc dj,.nils 8] [(0,.int .i64 m.bE),(1,.int .i64 t),(2,.bool b),(3,enc h)]=some [.int .i64 m.bE,.int .i64 t,.bool b,enc h,.nils 8]:=by simp[fi,I.cm,I.size,gK]
 have R:=y6 @hs (y6 @cJ (y6 @eY (y6 @gI (y6 @fI (y6 @jX (y6 @fD (y6 @fp aw)))))))
 repeat' ((first |refine ab.aA (by decide +kernel) rfl fun K hK =>?_|refine .lead _ (f) ?_|(refine .av [0,1,2,6] hK ?_;clear hK K)|(with_reducible refine .done (hK _ ?_);clear hK K)|refine ab.of rfl ?_|(with_reducible refine ar.az (fun h =>?_) (fun h =>?_) <;>try simp only[h])) <;>try simp only[aB,R,simprocAttr])
 all_goals clear R
 all_goals rfl
def ox(h:bd 6 Int)(r:ah):Bool:=decide (r.no<h.g r.aI.toNat)
theorem Kn(x:ah)(hx:0≤x.aI∧x.aI≤5)(h:bd 6 Int):aP Tryz.prog 151 [enc x,.ref (enc h)] (enc (ox h x)):=by
 refine aP.bM Tryz.func151 ML On P2 (t7 rfl) (fun hwf W0 bI E1 =>?_);simp only[Cz,HF,bC,zz4];clear hwf;obtain ⟨k,hk⟩:=zy2 hx.1;have hk6:k<6:=by omega
 have hib:=fun {y:Option I} =>vh 1 h (y:=y) (show (0:Int)≤(k:Int)∧(k:Int)<(6:Nat) by omega) rfl;have hg:=yN h hk6;rw[ox,hk,zw8];generalize h.g k=n at *;have R:=y6 @hk (y6 @hib (y6 @hg (y6 @zw8 aw)))
 repeat' ((first |refine ab.aA (by decide +kernel) rfl fun K hK =>?_|(refine .av [0,1,2,3] hK ?_;clear hK K)|(with_reducible refine .done (hK _ ?_);clear hK K)|refine ab.of rfl ?_|(with_reducible refine ar.az (fun h =>?_) (fun h =>?_) <;>try simp only[h])) <;>try simp only[aB,R,simprocAttr])
 all_goals clear R
theorem KK(l:List ah)(hn0:l≠[])(hl:l.length≤900)(hp:l.Pairwise (fun x y=>¬ (x.aI=y.aI∧x.no=y.no))):ep Tryz.prog 95 [enc l] [] (fun r os'=>r=.agg [.view 64 [] 8 0 l.length]∧∃ k,os'=[(64,.box (.agg ((cC l++List.replicate k cN).map enc)))]):=by
 refine ep.bM Tryz.func95 xG xJ xR (t7 rfl) (t7 rfl) (fun m hm=>by simp[ay,aq] at hm) (fun hwf W0 bI E1 =>?_);simp only[uA,wi,bC];clear hwf;have hsl:(cC l).length=l.length:=(tJ hp).1.length_eq;have R:=y6 @im aw
 repeat' ((first |refine ab.aA (by decide +kernel) rfl fun K hK =>?_|(refine .av [0,2,3] hK ?_;clear hK K)|(with_reducible refine .done (hK _ ?_);clear hK K)|refine ab.of rfl ?_|(with_reducible refine ar.az (fun h =>?_) (fun h =>?_) <;>try simp only[h])) <;>try simp only[aB,R,simprocAttr])
 all_goals clear R
 refine .bG false [(7,64)] [] [enc l] (qt l) rfl (ua l (by omega)) fj.nil ⟨.inl ⟨(gz _ _).symm,bg _ _,dH _⟩,trivial⟩ ?_ ?_
 ·rintro x os' (⟨h,_⟩ | ⟨_,k,rfl,rfl⟩)
  ·exact absurd h hn0
  ·exact dG.qV (fun p=>fR p _) (fun h=>by cases h) rfl (fun h=>by cases h) rfl (by decide)
 rintro x os' (⟨h,_⟩ | ⟨hn,k,rfl,rfl⟩)
 ·exact absurd h hn0
 try simp only[fJ,iH,jt,zz8,zy3,aZ,simprocAttr]
 refine .done (hK _ ?_);clear hK K;refine .ew (by decide +kernel) fun K hK =>?_;simp only[yL,aZ,simprocAttr];refine .bG false [(1000000,64)] (kz 1000000 (l++List.replicate k cN)) [.view 1000000 [] 8 0 l.length,.func 142 []] (Ax l (List.replicate k cN)) rfl (A9 l _ hn0 (by omega) hp) ⟨?_,?_⟩ ⟨.inl ⟨?_,?_,rfl⟩,.inl ⟨rfl,rfl,rfl⟩,trivial⟩ ?_ ?_
 ·intro n x h;simp only[kz,aq] at h;split at h
  ·rename_i hn';subst hn';simp only[v6] at h;subst h;exact ⟨by simp only[iH,jt,aZ,simprocAttr],fR _ _,rfl⟩
  ·cases h
 ·intro a b ha hb _;rw[Go.Abs.ee.1 ha,Go.Abs.ee.1 hb]
 ·try simp only[iH,simprocAttr]
 ·exact Go.Abs.ee.2 rfl
 ·rintro x os' ⟨rfl,rfl⟩;exact dG.mE (fun p=>fR p _) (fun h=>by cases h) rfl (fun h=>by cases h)
 rintro x os' ⟨rfl,rfl⟩
 try simp only[kz,iH,jt,zz8,zy3,aZ,simprocAttr]
 refine .done (hK _ ?_);clear hK K;have hst:∀ A rest,de A (some 1) 2 [] (.agg [.nils 8]) (.agg [.view 64 [] 8 0 l.length]) rest (some (.agg [.nils 8]))=au rest (A.aM 2 (.box (.agg [.view 64 [] 8 0 l.length]))):=fun A rest=>by rw[dS (s:=some 1) (v:=.agg [.view 64 [] 8 0 l.length]) (old:=.agg [.nils 8]) rfl rfl rfl,ez]
 have hbl:fi [.nils 8] [(0,.view 64 [] 8 0 l.length)]=some [.view 64 [] 8 0 l.length]:=rfl;have hiv:(I.agg [.view 64 [] 8 0 l.length]).cm=true:=rfl;have R:=y6 @hst (y6 @hbl (y6 @hiv (y6 @fp aw)))
 repeat' ((first |refine ab.aA (by decide +kernel) rfl fun K hK =>?_|(refine .av [0,2,3] hK ?_;clear hK K)|(with_reducible refine .done (hK _ ?_);clear hK K)|refine ab.of rfl ?_|(with_reducible refine ar.az (fun h =>?_) (fun h =>?_) <;>try simp only[h])) <;>try simp only[aB,R,simprocAttr])
 all_goals clear R
 refine ⟨[(64,.box (.agg ((cC l++List.replicate k cN).map enc)))],[.agg [.view 64 [] 8 0 l.length]],km rfl (fun p=>qT p _),⟨⟨.agg [.view 64 [] 8 0 l.length],?_,.inl ⟨rfl,rfl,rfl⟩⟩,trivial⟩,rfl,k,rfl⟩;simp[oK,ct,aC,Abs.cE,aq,I.at,bS,I.isAgg,I.size,I.sizes]
theorem yr:(∀ l:List ah,qF 0 0 none (some [enc l])=some (enc l))∧(∀ n k,qF 0 0 none (some [.view n [] 8 0 k])=some (.view n [] 8 0 k)):=⟨fun _=>rfl,fun _ _=>rfl⟩
theorem L4(h:bd 6 Int):jz [] h=[]:=rfl
theorem J5(m:bN)(hh:ed m.cz m.wr=true)(h:bd 6 Int):aP Tryz.prog 119 [.ref (enc (⟨m⟩:dT)),enc h] (enc (jz m.wr h)):=by
 have hw:cS [] m.wr=true:=by simp only[ed,zz0] at hh;exact hh.1.1
 have hl:=kE hw;refine aP.bM Tryz.func119 Ml NZ PG (t7 rfl) (fun hwf W0 bI E1 =>?_);simp only[Cf,Hk,bC,zz4];clear hwf;refine ab.seq (ab.AR (aC [(0,.ref (enc (⟨m⟩:dT))),(3,.ref (enc h))] []) ?_ fun B hB=>ab.sub hB ?_)
 ·have R:=y6 @cJ aw
  repeat' ((first |refine ab.aA (by decide +kernel) rfl fun K hK =>?_|(refine .av [0,1,3,4,5] hK ?_;clear hK K)|(with_reducible refine .done (hK _ ?_);clear hK K)|refine ab.of rfl ?_|(with_reducible refine ar.az (fun h =>?_) (fun h =>?_) <;>try simp only[h])) <;>try simp only[aB,R,simprocAttr])
  all_goals clear R
  refine bt.mr [3] 3 (x:=.ptr 3 []) (y:=.ref (enc h)) rfl ?_ ?_ ?_ ?_ ?_ ?_
  ·rw[ph];simp[mn,dM,aC,iU,aq,iR,jy]
  ·simp[dN,bB]
  ·simp[bT,hU,bJ,I.only,bg]
  ·simp[bZ]
  ·simp[bU,I.only,bg]
  ·simp[bB]
 obtain ⟨caps,hcap⟩:∃ caps:List I,caps=[.ref (enc h)]:=⟨_,rfl⟩
 have hcaps:I.gm caps=true:=by rw[hcap];simp only[I.gm,I.done,iR,Bool.and_self]
 have hcl2:I.cG caps=true:=qz caps hcaps;have hr1:(I.ref (enc h)).cm=true:=rfl;have hca:(caps.all fun y=>y.cm)=true:=by rw[hcap];rfl
 have hcc:[I.ref (enc h)]=caps:=hcap.symm;have hfc:∀ aG A,bO aG A caps=some caps:=fun aG A=>pj aG A caps hcaps;have hf:∀ x∈cC m.wr,aP Tryz.prog 151 (enc x::caps) (enc (ox h x)):=fun x hx=>by
  rw[hcap];exact Kn x (lM (mR hw x ((mN hw).2.1.mem_iff.1 hx))) h
 have hsl:(cC m.wr).length=m.wr.length:=tI _;have R:=y6 @cJ (y6 @gI (y6 @Gd (y6 @fI (y6 @fp aw))))
 repeat' ((first |refine ab.aA (by decide +kernel) rfl fun K hK =>?_|(refine .av [0,1,3,4,5] hK ?_;clear hK K)|(with_reducible refine .done (hK _ ?_);clear hK K)|refine ab.of rfl ?_|(with_reducible refine ar.az (fun h =>?_) (fun h =>?_) <;>try simp only[h])) <;>try simp only[aB,R,simprocAttr])
 all_goals clear R
 by_cases hn:m.wr=[]
 ·have hb:jz m.wr h=[]:=by rw[hn];exact L4 h
  rw[hn];have f95:=xe;have f106:=J3 (k0:=151) (by decide) caps hcaps;have f93:=qf [] (by simp);refine .lead _ f95 ?_
  try simp only[yr,hcc,hca,hfc,aw,aZ,simprocAttr]
  have hs1:=fun A=>wH (l:=([]:List ah)) (k:=0) A (esz:=8) rfl (zy1 _);have R:=y6 @hs1 (y6 @yr (y6 @hr1 (y6 @hcc (y6 @hca (y6 @hfc (y6 @Gd (y6 @fI (y6 @fp aw))))))))
  repeat' ((first |refine ab.aA (by decide +kernel) rfl fun K hK =>?_|refine .lead _ (f106) ?_|refine .lead _ (f93) ?_|(refine .av [0,1,3,4,5] hK ?_;clear hK K)|(with_reducible refine .done (hK _ ?_);clear hK K)|refine ab.of rfl ?_|(with_reducible refine ar.az (fun h =>?_) (fun h =>?_) <;>try simp only[h])) <;>try simp only[aB,R,simprocAttr])
  all_goals clear R
  rw[hb]
  all_goals rfl
 ·refine .bG false [] [] [enc m.wr] _ rfl (KK m.wr hn (by omega) (rS hw)) fj.nil ⟨.inl ⟨(gz _ _).symm,bg _ _,dH _⟩,trivial⟩ ?_ ?_
  ·rintro r os' ⟨rfl,k,rfl⟩;exact dG.aeu (fun p=>qT p _) rfl rfl (by decide)
  rintro r os' ⟨rfl,k,rfl⟩
  try simp only[yr,iH,jt,zz8,zy3,hcc,hca,hfc,aZ,simprocAttr]
  refine .bG false [(1000000,64)] (kY 1000000 (cC m.wr++List.replicate k cN)) [.view 1000000 [] 8 0 (cC m.wr).length,.func 151 caps] (DQ (cC m.wr) (ox h) (cC m.wr++List.replicate k cN).length) rfl (J2 (k0:=151) (by decide) (cC m.wr) _ (by omega) (by have:=zv2.2 hn;rw[zz1];omega) caps hcaps _ hf) ⟨?_,?_⟩ ⟨.inl ⟨?_,?_,rfl⟩,.inl ⟨?_,?_,?_⟩,trivial⟩ ?_ ?_
  ·intro n x h;simp only[kY,aq] at h;split at h
   ·rename_i hn';subst hn';simp only[v6] at h;subst h;exact ⟨by simp only[iH,jt,aZ,simprocAttr],qT _ _,rfl⟩
   ·cases h
  ·intro a b ha hb _;rw[Go.Abs.ee.1 ha,Go.Abs.ee.1 hb]
  ·try simp only[hsl,iH,simprocAttr]
  ·exact Go.Abs.ee.2 rfl
  ·simp only[hcap,I.aQ,I.dq,gz]
  ·simp only[I.only];exact mF _ caps hcl2
  ·exact FC (by simp only[I.bF];exact hcl2)
  ·rintro x os' ⟨us,rfl,rfl,hu1,hu2⟩;exact dG.mE (fun p=>qT p _) (fun h=>by cases h) rfl (fun h=>by cases h)
  rintro x os' ⟨us,rfl,rfl,hu1,hu2⟩;have hbr:jz m.wr h=((cC m.wr).filter fun x => !ox h x).take 6:=rfl;have hul:0<us.length:=by rw[hu2];have:=zv2.2 hn;simp;omega
  have hle:((cC m.wr).filter fun x => !ox h x).length≤us.length:=by rw[hu2,zz1];have:=List.length_filter_le (fun x => !ox h x) (cC m.wr);omega
  generalize jz m.wr h=Y at *;generalize (cC m.wr).filter (fun x => !ox h x)=Z at *;subst hbr;obtain ⟨j,hj⟩:∃ j,j=min Z.length 6:=⟨_,rfl⟩
  have hmn:(if (6:Int)<(Z.length:Int) then (6:Int) else (Z.length:Int))=(j:Int):=by split <;>omega
  have hs3:=wI (n:=64) (p:=[]) (sz:=8) (k:=Z.length) (total:=us.length) (i:=j) (by omega) hul;have hul2:(us.map (enc (α:=ah))).length=us.length:=by simp
  have hfv:jB 8 0 j (some (us.map enc))=some (enc (Z.take 6)):=by
   rw[oj (α:=ah) (sz:=8) rfl,←hu1,List.take_take]
   congr 2
   congr 1
   omega
  have f93:=qf (Z.take 6) (by rw[zz6];omega)
  try simp only[kY,iH,jt,zz8,zy3,aZ,simprocAttr]
  refine .done (hK _ ?_);clear hK K;have R:=y6 @hmn (y6 @hs3 (y6 @hul2 (y6 @hfv (y6 @fM (y6 @fI (y6 @fp (y6 @bA aw)))))))
  repeat' ((first |refine ab.aA (by decide +kernel) rfl fun K hK =>?_|refine .lead _ (f93) ?_|(refine .av [0,1,3,4,5] hK ?_;clear hK K)|(with_reducible refine .done (hK _ ?_);clear hK K)|refine ab.of rfl ?_|(with_reducible refine ar.az (fun h =>?_) (fun h =>?_) <;>try simp only[h])) <;>try simp only[aB,R,zw2,simprocAttr])
  all_goals clear R
  refine .kQ [64] _ rfl f93 ?_ ?_ ?_
  ·simp only[Et,Eu,sB,aC,iU,List.filter,List.contains,List.elem];simp[aq,hfv,mg,dM,eC,I.dC,jy]
  ·simp[dN,bB]
  try simp only[dN,hU,List.filter,List.contains,List.elem,I.only,I.bY,bg,aZ,simprocAttr]
  refine .done (hK _ ?_);clear hK K;have R:=aw
  repeat' ((first |refine ab.aA (by decide +kernel) rfl fun K hK =>?_|(refine .av [0,1,3,4,5] hK ?_;clear hK K)|(with_reducible refine .done (hK _ ?_);clear hK K)|refine ab.of rfl ?_|(with_reducible refine ar.az (fun h =>?_) (fun h =>?_) <;>try simp only[h])) <;>try simp only[aB,R,simprocAttr])
  all_goals clear R
  all_goals rfl
theorem tj{m:bN}(h:jJ m=true):(0≤m.bE∧m.bE≤5)∧ed m.cz m.wr=true:=by
 simp only[jJ,zz0,jE] at h;exact h.2
theorem yS{m:bN}(h:jJ m=true):cS [] m.wr=true∧m.wr.length≤60∧qI m.wr:=by
 have h2:=(tj h).2;have hw:cS [] m.wr=true:=by simp only[ed,zz0] at h2;exact h2.1.1
 exact ⟨hw,kE hw,fun r hr=>lM (mR hw r hr)⟩
theorem wP:(∀ A n rest (r:ah) (a b:Int) (o:Item),de A (some 2) n [0] (enc r) (.agg [.int .i64 a,.int .i64 b]) rest (some (enc o))=au rest (A.aM n (.box (enc ({r with aI:=a,no:=b} : ah)))))∧(∀ r:ah,(enc r).at [0]=some (enc r.bw)) ∧
  (∀ x y,fi [.int .i64 0,.int .i64 0] [(0,.int .i64 x),(1,.int .i64 y)]=some [.int .i64 x,.int .i64 y])∧(∀ x y,(I.agg [.int .i64 x,.int .i64 y]).cm=true)∧(type_of% @fB) :=
 ⟨fun A n rest r a b o=>by rw[dS (s:=some 2) (v:=.agg [.int .i64 a,.int .i64 b]) (old:=enc o) rfl rfl rfl];rfl,fun _=>rfl,fun _ _=>rfl,fun _ _=>rfl,fB⟩
theorem KB(m:bN)(hr:m.cz.small)(hl:m.wr.length≤4000000000000)(r:ah):aP Tryz.prog 57 [enc m,enc r] (.tuple [enc (py m r).1,enc (py m r).2.1,enc (py m r).2.2]):=by
 have f111:=tX m hr hl;rw[py];refine aP.bM Tryz.func57 Nd OP Qr (t7 rfl) (fun hwf W0 bI E1 =>?_);simp only[CV,H7,bC,zz4];clear hwf;cases q1:jJ m
 ·rw[q1] at f111;rw[if_pos rfl];have R:=y6 @cJ (y6 @wP (y6 @fb aw))
  repeat' ((first |refine ab.aA (by decide +kernel) rfl fun K hK =>?_|refine .flat _ (f111) rfl ?_|(refine .av [0,1,2,3,4,5,6,7,8,11,30] hK ?_;clear hK K)|(with_reducible refine .done (hK _ ?_);clear hK K)|refine ab.of rfl ?_|(with_reducible refine ar.az (fun h =>?_) (fun h =>?_) <;>try simp only[h])) <;>try simp only[aB,R,simprocAttr])
  all_goals clear R
  all_goals rfl
 rw[q1] at f111;rw[if_neg (by decide)];obtain ⟨hme,hh⟩:=tj q1;obtain ⟨hw,hwl,hin⟩:=yS q1;have f112:=xa m (by omega);have f100:=qd m.wr (by omega) hin;have hix:=vr m.wr hme;have f113:=AX m hh hr (gQ m r);rw[aR] at f113;generalize hc6:cX m.wr=C at *;have hnx:({r with aI:=m.bE,no:=(bR m.wr m.bE:Nat)} : ah)=gQ m r:=rfl;have hcl:∀ x∈[enc (gQ m r)],x.bF=true∧x.cm=true:=fun x hx=>by rw[zy7.1 hx];exact ⟨iR _,dH _⟩
 generalize fN m.cz m.wr (gQ m r)=q at *;obtain ⟨q1',q2',e⟩:=q;simp only at f113 ⊢;by_cases he:e=0
 ·subst he;rw[if_neg (by simp)];rw[if_pos rfl] at f113;have R:=y6 @hix (y6 @hnx (y6 @cJ (y6 @wP (y6 @fb (y6 @gI (y6 @fI (y6 @fp aw)))))))
  repeat' ((first |refine ab.aA (by decide +kernel) rfl fun K hK =>?_|refine .flat _ (f111) rfl ?_|refine aY.uE 7 f112 rfl rfl (by decide) ?_|refine .lead _ (f100) ?_|refine aY.qp (n:=7) f113 rfl rfl hcl (wU _) ?_|(refine ab.ik (gs:=sF) [] [(7,[7]),(34,[7]),(35,[7]),(36,[7]),(3,[3]),(4,[4]),(5,[5])] [0,1,2,3,4,5,6,7] (by decide +kernel) (dB.of (by simp[gn,bJ,kp,I.only])) fun K hK =>?_;simp only[gE,sF,zw6,zw7,R,simprocAttr])|(refine .av [0,1,2,3,4,5,6,7,8,11,30] hK ?_;clear hK K)|(with_reducible refine .done (hK _ ?_);clear hK K)|refine ab.of rfl ?_|(with_reducible refine ar.az (fun h =>?_) (fun h =>?_) <;>try simp only[h])) <;>try simp only[aB,R,simprocAttr])
  all_goals clear R
  all_goals rfl
 ·rw[if_pos he];rw[if_neg he] at f113;have hb:(e != 0)=true:=by simpa using he
  have R:=y6 @hb (y6 @hix (y6 @hnx (y6 @cJ (y6 @wP (y6 @fb (y6 @gI (y6 @fI (y6 @fp aw))))))))
  repeat' ((first |refine ab.aA (by decide +kernel) rfl fun K hK =>?_|refine .flat _ (f111) rfl ?_|refine aY.uE 7 f112 rfl rfl (by decide) ?_|refine .lead _ (f100) ?_|refine aY.qp (n:=7) f113 rfl rfl hcl (wU _) ?_|(refine ab.ik (gs:=sF) [] [(7,[7]),(34,[7]),(35,[7]),(36,[7]),(3,[3]),(4,[4]),(5,[5])] [0,1,2,3,4,5,6,7] (by decide +kernel) (dB.of (by simp[gn,bJ,kp,I.only,bg])) fun K hK =>?_;simp only[gE,sF,zw6,zw7,R,simprocAttr])|(refine .av [0,1,2,3,4,5,6,7,8,11,30] hK ?_;clear hK K)|(with_reducible refine .done (hK _ ?_);clear hK K)|refine ab.of rfl ?_|(with_reducible refine ar.az (fun h =>?_) (fun h =>?_) <;>try simp only[h])) <;>try simp only[aB,R,simprocAttr])
  all_goals clear R
  all_goals rfl
theorem KC(m:bN)(hr:m.cz.small)(hl:m.wr.length≤4000000000000)(t:Int):aP Tryz.prog 59 [enc m,enc t] (.tuple [enc (oc m t).1,enc (oc m t).2.1,enc (oc m t).2.2]):=by
 have f111:=tX m hr hl;have f110:=rX t;rw[oc];refine aP.bM Tryz.func59 Nf OQ Qs (t7 rfl) (fun hwf W0 bI E1 =>?_);simp only[CW,H8,bC,zz4];clear hwf;cases q1:jJ m
 ·rw[q1] at f111;rw[if_pos rfl];have R:=y6 @cJ (y6 @eY aw)
  repeat' ((first |(with_reducible refine .guard (fun hb =>?_) (fun hb =>?_) <;>try simp only[hb])|refine ab.aA (by decide +kernel) rfl fun K hK =>?_|refine .flat _ (f111) rfl ?_|(refine .av [0,1,2,4,5,6,7,8,14] hK ?_;clear hK K)|(with_reducible refine .done (hK _ ?_);clear hK K)|refine ab.of rfl ?_|(with_reducible refine ar.az (fun h =>?_) (fun h =>?_) <;>try simp only[h])) <;>try simp only[aB,R,simprocAttr])
  all_goals clear R
  all_goals rfl
 rw[q1] at f111;rw[if_neg (by decide)];cases q2:dm 0 5 t
 ·rw[q2] at f110;rw[if_pos (.inl rfl)];have R:=y6 @cJ (y6 @eY aw)
  repeat' ((first |(with_reducible refine .guard (fun hb =>?_) (fun hb =>?_) <;>try simp only[hb])|refine ab.aA (by decide +kernel) rfl fun K hK =>?_|refine .flat _ (f111) rfl ?_|refine .flat _ (f110) rfl ?_|(refine .av [0,1,2,4,5,6,7,8,14] hK ?_;clear hK K)|(with_reducible refine .done (hK _ ?_);clear hK K)|refine ab.of rfl ?_|(with_reducible refine ar.az (fun h =>?_) (fun h =>?_) <;>try simp only[h])) <;>try simp only[aB,R,simprocAttr])
  all_goals clear R
  all_goals rfl
 rw[q2] at f110;by_cases q3:t=m.bE
 ·rw[if_pos (.inr q3)];have h3:(t==m.bE)=true:=by simp[q3]
  have R:=y6 @h3 (y6 @cJ (y6 @eY aw))
  repeat' ((first |(with_reducible refine .guard (fun hb =>?_) (fun hb =>?_) <;>try simp only[hb])|refine ab.aA (by decide +kernel) rfl fun K hK =>?_|refine .flat _ (f111) rfl ?_|refine .flat _ (f110) rfl ?_|(refine .av [0,1,2,4,5,6,7,8,14] hK ?_;clear hK K)|(with_reducible refine .done (hK _ ?_);clear hK K)|refine ab.of rfl ?_|(with_reducible refine ar.az (fun h =>?_) (fun h =>?_) <;>try simp only[h])) <;>try simp only[aB,R,simprocAttr])
  all_goals clear R
  all_goals rfl
 have h3:(t==m.bE)=false:=beq_eq_false_iff_ne.2 q3;rw[if_neg (by rintro (k | k);cases k;exact q3 k)];obtain ⟨hme,hh⟩:=tj q1;obtain ⟨hw,hwl,hin⟩:=yS q1;have f112:=xa m (by omega);have f115:=AY m hr;have f116:=AZ ⟨m.bE,gh m.cz,m.wr,m.cj⟩ (by simp only;omega) hin t true;have hnil:∀ x∈([]:List I),x.bF=true∧x.cm=true:=fun x hx=>by cases hx
 generalize gh m.cz=Q at *;have R:=y6 @h3 (y6 @cJ (y6 @eY (y6 @gI (y6 @fI (y6 @fp aw)))))
 repeat' ((first |(with_reducible refine .guard (fun hb =>?_) (fun hb =>?_) <;>try simp only[hb])|refine ab.aA (by decide +kernel) rfl fun K hK =>?_|refine .flat _ (f111) rfl ?_|refine .flat _ (f110) rfl ?_|refine aY.uE 7 f112 rfl rfl (by decide) ?_|(refine .av [0,1,2,4,5,6,7,8,14] hK ?_;clear hK K)|(with_reducible refine .done (hK _ ?_);clear hK K)|refine ab.of rfl ?_|(with_reducible refine ar.az (fun h =>?_) (fun h =>?_) <;>try simp only[h])) <;>try simp only[aB,R,simprocAttr])
 all_goals clear R
 refine aY.qp (n:=7) f115 rfl rfl hnil JM ?_
 try simp only[aZ,simprocAttr]
 refine .done (hK _ ?_);clear hK K;refine ab.sub (bt.mr [7] 7 (x:=.ptr 7 []) (y:=.ref (enc (⟨⟨m.bE,Q,m.wr,m.cj⟩⟩:dT))) (ts':=[(1,.int .i64 t),(7,.ref (enc (⟨⟨m.bE,Q,m.wr,m.cj⟩⟩:dT))),(5,.ptr 5 []),(4,.ptr 4 [])]) (os':=[(5,.box (fH 0 0 false dj)),(4,.box (dn 0))]) rfl ?_ ?_ ?_ ?_ ?_ ?_) ?_
 ·rw[ph];simp[mn,dM,aC,iU,aq,iR,jy]
 ·simp[dN,bB,al.only,I.only,I.bY,bg,fH,dn]
 ·simp[bT,hU,bJ,I.only,I.bY,bg]
 ·simp[bZ,dN,aq]
 ·simp[bU,ay,aq,I.only,bg]
 ·simp[bB,al.only,I.only,I.bY,bg,fH,dn]
 have R:=y6 @cJ (y6 @eY (y6 @gI (y6 @fI (y6 @fp aw))))
 repeat' ((first |(with_reducible refine .guard (fun hb =>?_) (fun hb =>?_) <;>try simp only[hb])|refine ab.aA (by decide +kernel) rfl fun K hK =>?_|refine .lead _ (f116) ?_|(refine ab.ik (gs:=yx) [] [(7,[]),(30,[]),(31,[]),(32,[]),(34,[]),(4,[4]),(5,[5])] [0,1,2,3,4,5,6,7,8,9] (by decide +kernel) (dB.of (by simp[gn,bJ,kp,I.only,bg])) fun K hK =>?_;simp only[gE,yx,zw6,zw7,R,simprocAttr])|(refine .av [0,1,2,4,5,6,7,8,14] hK ?_;clear hK K)|(with_reducible refine .done (hK _ ?_);clear hK K)|refine ab.of rfl ?_|(with_reducible refine ar.az (fun h =>?_) (fun h =>?_) <;>try simp only[h])) <;>try simp only[aB,R,simprocAttr])
 all_goals clear R
 all_goals rfl
theorem Ff{r:b7}{w:List ah}(h:ed r w=true):r.cd.bD.length+r.cd.cT.length≤14400∧r.copy.bD.length+r.copy.cT.length≤14400:=by
 simp only[ed,zz0,decide_eq_true_eq,List.any_eq_true] at h;obtain ⟨⟨h1,h2⟩,i,_,h3⟩:=h;have hl:=kE h1;have hk:=mR h1;have t1:=nT w (s:=1) (by omega) hk;have t2:=nT (w.take i) (s:=1) (by omega) (fun x hx=>hk x (zx9 hx));rw[zz6] at t2;rw[←h2,dL.all,zz1] at t1;rw[←h3,dL.all,zz1] at t2;omega
theorem ahu{r:b7}{w:List ah}(h:ed r w=true)(p:List Int):(eZ r p).small:=by
 obtain ⟨h1,h2⟩:=Ff h;have b1:(iK (fV r.cd.cT p 0) p 0).length≤r.cd.cT.length:=by rw[rI,fV,zz6];omega
 have b2:(iK (fV r.copy.cT p 3) p 3).length≤r.copy.cT.length:=by rw[rI,fV,zz6];omega
 have e1:(eZ r p).cd=⟨r.cd.bD++iK (fV r.cd.cT p 0) p 0,[]⟩:=rfl;have e2:(eZ r p).copy=⟨r.copy.bD++iK (fV r.copy.cT p 3) p 3,[]⟩:=rfl;exact ⟨by rw[e1];exact ⟨by simp only[zz1];omega,by simp⟩,by rw[e2];exact ⟨by simp only[zz1];omega,by simp⟩⟩
theorem B3{r:b7}(h:r.small)(b:Bool):(kN r b).small:=by
 have s0:dL.small ⟨[],[]⟩:=⟨by simp,by simp⟩
 cases b
 ·exact ⟨s0,h.2⟩
 ·exact ⟨h.1,s0⟩
theorem zw:(∀ (a:Int) (z:b7) (l:List ah),fi [.int .i64 0,enc fU,.nils 8,enc gY] [(0,.int .i64 a),(1,enc z),(2,enc l)]=some [.int .i64 a,enc z,enc l,enc gY])∧(∀ (a:Int) (z:b7) (l:List ah),I.agg [.int .i64 a,enc z,enc l,enc gY]=enc (⟨a,z,l,gY⟩:bN)) :=
 ⟨fun _ _ _=>rfl,fun _ _ _=>rfl⟩
theorem Bj(m:bN)(hr:m.cz.small)(hl:m.wr.length≤4000000000000)(p:List Int)(hp:p.length≤100000000000000)(hpi:∀ x∈p,-9223372036854775808≤x∧x≤9223372036854775807):aP Tryz.prog 63 [enc m,enc p] (.tuple [enc (ry m p).1,enc (ry m p).2]):=by
 have f111:=tX m hr hl;rw[ry];refine aP.bM Tryz.func63 Nh OS Qu (t7 rfl) (fun hwf W0 bI E1 =>?_);simp only[CY,Ia,bC,zz4];clear hwf;cases q1:jJ m
 ·rw[q1] at f111;rw[if_pos rfl];have R:=y6 @cJ aw
  repeat' ((first |refine ab.aA (by decide +kernel) rfl fun K hK =>?_|refine .flat _ (f111) rfl ?_|(refine .av [0,1,2,4,5,6,7,8,11,18,19,23] hK ?_;clear hK K)|(with_reducible refine .done (hK _ ?_);clear hK K)|refine ab.of rfl ?_|(with_reducible refine ar.az (fun h =>?_) (fun h =>?_) <;>try simp only[h])) <;>try simp only[aB,R,simprocAttr])
  all_goals clear R
  all_goals rfl
 rw[q1] at f111;rw[if_neg (by decide)];have f22:=tZ m.cz hr p hp hpi;have f121:=tY p 6 3 (by decide) (by decide) (by omega)
 replace f121:aP Tryz.prog 121 [enc p,.int .i64 6,.int .i64 3] (.int .i64 (gx p 6 3)):=f121
 have hsm:=ahu (tj q1).2 p;have f24:=xd (eZ m.cz p) false;have f24':=xd (eZ m.cz p) true;have hb1:=B3 hsm false;have hb2:=B3 hsm true;rw[qE];generalize kN (eZ m.cz p) false=B1 at *;generalize kN (eZ m.cz p) true=B2 at *;generalize eZ m.cz p=B0 at *;generalize gx p 6 3=k at *;by_cases k1:k=1
 ·have e1:(k==1)=true:=by simp[k1]
  have f18:=oS B1 hb1;rw[if_pos k1];generalize iY B1=Q at *;have R:=y6 @e1 (y6 @zw (y6 @cJ (y6 @jX (y6 @fD (y6 @fp aw)))))
  repeat' ((first |refine ab.aA (by decide +kernel) rfl fun K hK =>?_|refine .flat _ (f111) rfl ?_|refine .flat _ (f22) rfl ?_|refine .flat _ (f121) rfl ?_|refine .flat _ (f24) rfl ?_|refine .lead _ (f18) ?_|(refine .av [0,1,2,4,5,6,7,8,11,18,19,23] hK ?_;clear hK K)|(with_reducible refine .done (hK _ ?_);clear hK K)|refine ab.of rfl ?_|(with_reducible refine ar.az (fun h =>?_) (fun h =>?_) <;>try simp only[h])) <;>try simp only[aB,R,simprocAttr])
  all_goals clear R
  all_goals rfl
 have e1:(k==1)=false:=beq_eq_false_iff_ne.2 k1;rw[if_neg k1];by_cases k2:k=2
 ·have e2:(k==2)=true:=by simp[k2]
  have f18:=oS B2 hb2;rw[if_pos k2];generalize iY B2=Q at *;have R:=y6 @e1 (y6 @e2 (y6 @zw (y6 @cJ (y6 @jX (y6 @fD (y6 @fp aw))))))
  repeat' ((first |refine ab.aA (by decide +kernel) rfl fun K hK =>?_|refine .flat _ (f111) rfl ?_|refine .flat _ (f22) rfl ?_|refine .flat _ (f121) rfl ?_|refine .flat _ (f24') rfl ?_|refine .lead _ (f18) ?_|(refine .av [0,1,2,4,5,6,7,8,11,18,19,23] hK ?_;clear hK K)|(with_reducible refine .done (hK _ ?_);clear hK K)|refine ab.of rfl ?_|(with_reducible refine ar.az (fun h =>?_) (fun h =>?_) <;>try simp only[h])) <;>try simp only[aB,R,simprocAttr])
  all_goals clear R
  all_goals rfl
 ·have e2:(k==2)=false:=beq_eq_false_iff_ne.2 k2;have f18:=oS B0 hsm;rw[if_neg k2];generalize iY B0=Q at *;have R:=y6 @e1 (y6 @e2 (y6 @zw (y6 @cJ (y6 @jX (y6 @fD (y6 @fp aw))))))
  repeat' ((first |refine ab.aA (by decide +kernel) rfl fun K hK =>?_|refine .flat _ (f111) rfl ?_|refine .flat _ (f22) rfl ?_|refine .flat _ (f121) rfl ?_|refine .lead _ (f18) ?_|(refine .av [0,1,2,4,5,6,7,8,11,18,19,23] hK ?_;clear hK K)|(with_reducible refine .done (hK _ ?_);clear hK K)|refine ab.of rfl ?_|(with_reducible refine ar.az (fun h =>?_) (fun h =>?_) <;>try simp only[h])) <;>try simp only[aB,R,simprocAttr])
  all_goals clear R
  all_goals rfl
theorem aet:(∀ d rest A x y,bx A d (.max2 x y) rest=cL (ta (aj A x) (aj A y)) (c6 d rest A))∧(∀ a b,ta (.int .i64 a) (.int .i64 b)=some (.int .i64 (if b>a then b else a))):=⟨fun _ _ _ _ _=>rfl,fun _ _=>rfl⟩
theorem adf{r:b7}{w:List ah}{x:ah}(h:ed r w=true)(he:(fN r w x).2.2=0):ed (fN r w x).1 (fN r w x).2.1=true:=by
 have hw:cS [] w=true:=by simp only[ed,zz0] at h;exact h.1.1
 rw[fN,if_neg (by rw[h];decide)] at he ⊢;by_cases e1:(lj bj w x 80 82 83 2).2≠0
 ·rw[if_pos e1] at he;exact absurd he e1
 rw[if_neg e1];by_cases e2:(lj bj w x 80 82 83 2).1=false
 ·rw[if_pos e2];exact h
 rw[if_neg e2];have key:bj x=true∧w.find? (jc x)=none∧¬ x.no>(bR w x.aI:Int)∧w.length≠60:=by
  cases o:bj x
  ·rw[lj,if_pos o] at e2;exact absurd rfl e2
  cases hf:w.find? (jc x) with
  |some r =>
   rw[lj,if_neg (by rw[o];decide),hf] at e2;simp only at e2;split at e2 <;>exact absurd rfl e2
  |none =>
   by_cases g:x.no>(bR w x.aI:Int)
   ·rw[lj,if_neg (by rw[o];decide),hf] at e2;simp only[if_pos g] at e2;exact absurd trivial e2
   by_cases g2:w.length=60
   ·rw[lj,if_neg (by rw[o];decide),hf] at e2;simp only[if_neg g,if_pos g2] at e2;exact absurd trivial e2
   exact ⟨rfl,rfl,g,g2⟩
 obtain ⟨k1,k2,k3,k4⟩:=key;have hn0:0≤x.no:=(nw (ny k1)).2.1.1;have hl:=kE hw;have hc:(bR w x.aI:Int)=x.no:=by
  apply Decidable.byContradiction;intro hne;obtain ⟨k,hk⟩:=zy2 hn0;obtain ⟨q,hq,q1,q2⟩:=AU hw x.aI k (by omega);have:=List.find?_eq_none.1 k2 q hq;rw[jc,decide_eq_true_eq] at this;exact this ⟨q1,by rw[q2,hk]⟩
 have hwx:cS [] (w++[x])=true:=wZ.2 ⟨hw,k1,by simp only[dQ,zz0,decide_eq_true_eq];exact ⟨by omega,hc⟩⟩;have h':=h;simp only[ed,zz0,decide_eq_true_eq,List.any_eq_true] at h';obtain ⟨⟨_,h2⟩,i,hi,h3⟩:=h';rw[ed,hwx,zu6,zz0,decide_eq_true_eq];refine ⟨?_,List.any_eq_true.2 ⟨i,by simp at hi ⊢;omega,?_⟩⟩
 ·rw[(rO w x 1).1,←h2,dL.all,dL.all,zz7]
 ·rw[decide_eq_true_eq,zw4 (by simp at hi;omega)];exact h3
theorem Fg{r:b7}{w:List ah}(h:ed r w=true):r.small:=by
 obtain ⟨h1,h2⟩:=Ff h;exact ⟨⟨by omega,by omega⟩,by omega,by omega⟩
theorem ade{r:b7}{w:List ah}(h:ed r w=true):ed (gh r) w=true:=by
 simp only[ed,zz0,decide_eq_true_eq,List.any_eq_true] at h ⊢;obtain ⟨⟨h1,h2⟩,_⟩:=h;have e:(r.cd.all++[])=bW 1 w:=by rw[zx2,h2]
 exact ⟨⟨h1,e⟩,w.length,by simp,by rw[zv5];exact e⟩
def jn(a b:bd 6 Int)(j:Nat):bd 6 Int:=⟨(List.range 6).map fun i=>if i<j then kq (a.g i) (b.g i) else a.g i,by simp⟩
def iD(k:bd 6 (bd 6 Int))(f:Nat)(h:bd 6 Int)(j:Nat):bd 6 (bd 6 Int):=⟨k.l.set f (jn (k.l.getD f dj) h j),by rw[List.length_set];exact k.h⟩
theorem aej(a b:bd 6 Int)(j:Nat){i:Nat}(hi:i<6):(jn a b j).l[i]'((jn a b j).lt hi)=if i<j then kq (a.g i) (b.g i) else a.g i:=by simp[jn]
theorem ael(a b:bd 6 Int):jn a b 0=a:=by
 obtain ⟨l,h⟩:=a;simp only[jn,Nat.not_lt_zero,if_false,bd.mk.injEq];refine List.ext_getElem (by simp[h]) fun i h1 h2 =>?_;simp[bd.g,h2]
theorem adI(k:bd 6 (bd 6 Int)){f:Nat}(hf:f<6)(h:bd 6 Int):iD k f h 0=k:=by
 obtain ⟨l,hl⟩:=k;simp only[iD,ael,bd.mk.injEq];rw[zz2,zz5 (by rw[hl];exact hf),Option.getD_some,List.set_getElem_self]
theorem adH(k:bd 6 (bd 6 Int))(f:Nat)(h:bd 6 Int):iD k f h 6=kS k f h:=by
 simp only[iD,kS,bd.mk.injEq]
 congr 1
theorem An{α:Type}[Enc α]{n:Nat}(x:bd n α){k:Nat}(hk:k<n)(p:List Nat)(v:I)(y:α)(h:(enc (x.l[k]'(x.lt hk)):I).dR p v=enc y):(enc x:I).dR (k::p) v=enc (⟨x.l.set k y,by rw[List.length_set];exact x.h⟩:bd n α):=by
 have h1:(enc x:I).dC=some (x.l.map enc):=rfl;rw[wG,h1];simp only[pR,E5 x hk,rG,h]
 change I.agg _=I.agg ((x.l.set k y).map enc)
 rw[List.map_set]
theorem aek(a b:bd 6 Int){j:Nat}(hj:j<6):(⟨(jn a b j).l.set j (kq (a.g j) (b.g j)),by rw[List.length_set];exact (jn a b j).h⟩:bd 6 Int)=jn a b (j+1):=by
 simp only[jn,bd.mk.injEq];refine List.ext_getElem (by simp) fun i h1 h2 =>?_;simp only[List.getElem_set,List.getElem_map,List.getElem_range];by_cases e:j=i
 ·subst e;simp
 ·rw[if_neg e];by_cases e2:i<j
  ·rw[if_pos e2,if_pos (by omega)]
  ·rw[if_neg e2,if_neg (by omega)]
theorem y7(k:bd 6 (bd 6 Int)){f:Nat}(hf:f<6)(h:bd 6 Int)(j:Nat):(iD k f h j).l[f]'((iD k f h j).lt hf)=jn (k.l.getD f dj) h j:=by simp[iD]
theorem adG(k:bd 6 (bd 6 Int)){f:Nat}(hf:f<6)(h:bd 6 Int){j:Nat}(hj:j<6):(enc (iD k f h j):I).dR [f,j] (.int .i64 (kq ((k.l.getD f dj).g j) (h.g j)))=enc (iD k f h (j+1)):=by
 rw[An (iD k f h j) hf [j] _ (jn (k.l.getD f dj) h (j+1)) (by
  rw[y7 k hf];rw[An (jn (k.l.getD f dj) h j) hj [] _ (kq ((k.l.getD f dj).g j) (h.g j)) (by rw[ez];rfl),aek _ _ hj])]
 simp[iD]
theorem adF(k:bd 6 (bd 6 Int)){f:Nat}(hf:f<6)(h:bd 6 Int){j:Nat}(hj:j<6):(enc (iD k f h j):I).at [f,j]=some (.int .i64 ((k.l.getD f dj).g j)):=by
 have e1:(enc (iD k f h j):I).at [f,j]=iv f [j] (some ((iD k f h j).l.map enc)):=rfl;rw[e1,o8 (x:=iD k f h j) hf,y7 k hf];have e2:(enc (jn (k.l.getD f dj) h j):I).at [j]=iv j [] (some ((jn (k.l.getD f dj) h j).l.map enc)):=rfl;rw[e2,o8 (x:=jn (k.l.getD f dj) h j) hj,aej _ _ _ hj,if_neg (by omega),jy];rfl
theorem sj(x:cQ):iO 10 (some [enc x])=some (enc [x]):=si 10 x rfl
theorem wM:(∀ A n rest (q:cQ) (l r:List ah),de A none n [4] (enc q) (enc l) rest (some (enc r))=au rest (A.aM n (.box (enc (⟨q.cH,q.dst,q.ql,q.ae,l⟩:cQ)))))∧(∀ A n rest (q:cQ) (b c:Bool),de A none n [2] (enc q) (.bool b) rest (some (.bool c))=au rest (A.aM n (.box (enc (⟨q.cH,q.dst,b,q.ae,q.eL⟩:cQ))))) :=
 ⟨fun A n rest q l r=>by rw[dS (s:=none) (v:=enc l) (old:=enc r) (dH _) rfl ((cM _).trans (cM _).symm)];rfl,
  fun A n rest q b c=>by rw[dS (s:=none) (v:=.bool b) (old:=.bool c) rfl rfl rfl];rfl⟩
theorem nm{α:Type}[Enc α]{A:af}{n:Nat}{p:List Nat}{b:I}{k lu esz:Nat}{x:bd lu α}(h:A.o n=some (.box b))(hb:b.at p=some (enc x))(hs:Enc.sz α=esz)(hk:k<lu):fY A lu esz (k:Int) (.ptr n p)=some (.ptr n (p++[k])):=by
 show gN (k:Int) lu (lF lu esz n p k (eC (dM p (A.o n))))=_
 have hf:eC (dM p (A.o n))=some (x.l.map enc):=by rw[h];show eC (b.at p)=_;rw[hb];rfl
 rw[hf,adi esz (x:=x) ⟨by omega,by simpa using hk⟩ hs];simp
theorem adA(h:bd 6 Int){j:Nat}(hj:j<6):ov 6 1 none (j:Int) (some (h.l.map enc))=some (.int .i64 (h.g j)):=by
 rw[yZ (x:=h) 1 (k:=(j:Int)) ⟨by omega,by simpa using hj⟩ rfl];simp only[zw8,bd.u5 h hj];rfl
def xk(m:bN)(x:cQ)(y:Nat×b7×List ah):af:=aC [(2,.ptr 2 []),(3,.ptr 3 []),(4,.ptr 4 []),(7,.ptr 7 []),(34,enc x.eL),(35,.int .i64 (x.eL.length:Int)),(36,.int .i64 (y.1:Int))] [(7,.box (enc (⟨⟨m.bE,y.2.1,y.2.2,m.cj⟩⟩:dT))),(4,.box (dn 0)),(3,.box (enc x)),(2,.box (enc m))]
def KP(m:bN)(x:cQ)(y:Nat×b7×List ah):Prop:=y.1≤x.eL.length∧ed y.2.1 y.2.2=true∧jw m.cz m.wr x.eL=jw y.2.1 y.2.2 (x.eL.drop y.1)
theorem KD(m:bN)(hr:m.cz.small)(hl:m.wr.length≤4000000000000)(x:cQ)(hxl:x.eL.length≤4000000000000):aP Tryz.prog 61 [enc m,enc x] (.tuple [enc (nF m x).1,enc (nF m x).2.1,enc (nF m x).2.2]):=by
 obtain ⟨Q,hQ⟩:∃ Q,Q=nF m x:=⟨_,rfl⟩
 rw[←hQ];rw[nF] at hQ;have f111:=tX m hr hl;have f118:=J4 x;refine aP.bM Tryz.func61 Ng OR Qt (t7 rfl) (fun hwf W0 bI E1 =>?_);simp only[CX,H9,bC,zz4];clear hwf;cases q1:jJ m
 ·rw[q1] at f111;rw[q1,if_pos rfl] at hQ;subst hQ;have R:=y6 @cJ (y6 @eY aw)
  repeat' ((first |(with_reducible refine .guard (fun hb =>?_) (fun hb =>?_) <;>try simp only[hb])|refine ab.aA (by decide +kernel) rfl fun K hK =>?_|refine .flat _ (f111) rfl ?_|(refine .av [0,1,2,3,4,5,6,7,9,10,11,12,13,14,19,34,35,36,37,53,58,65,66,67,92,110] hK ?_;clear hK K)|(with_reducible refine .done (hK _ ?_);clear hK K)|refine ab.of rfl ?_|(with_reducible refine ar.az (fun h =>?_) (fun h =>?_) <;>try simp only[h])) <;>try simp only[aB,R,simprocAttr])
  all_goals clear R
  all_goals rfl
 rw[q1] at f111;rw[q1,if_neg (by decide)] at hQ;cases q2:oD x
 ·rw[q2] at f118;rw[q2,if_pos (.inl rfl)] at hQ;subst hQ;have R:=y6 @cJ (y6 @eY aw)
  repeat' ((first |(with_reducible refine .guard (fun hb =>?_) (fun hb =>?_) <;>try simp only[hb])|refine ab.aA (by decide +kernel) rfl fun K hK =>?_|refine .flat _ (f111) rfl ?_|refine .flat _ (f118) rfl ?_|(refine .av [0,1,2,3,4,5,6,7,9,10,11,12,13,14,19,34,35,36,37,53,58,65,66,67,92,110] hK ?_;clear hK K)|(with_reducible refine .done (hK _ ?_);clear hK K)|refine ab.of rfl ?_|(with_reducible refine ar.az (fun h =>?_) (fun h =>?_) <;>try simp only[h])) <;>try simp only[aB,R,simprocAttr])
  all_goals clear R
  all_goals rfl
 rw[q2] at f118;by_cases q3:x.dst=m.bE
 rotate_left
 ·rw[if_pos (.inr q3)] at hQ;subst hQ;have h3:(x.dst != m.bE)=true:=by simpa using q3
  have R:=y6 @h3 (y6 @cJ (y6 @eY aw))
  repeat' ((first |(with_reducible refine .guard (fun hb =>?_) (fun hb =>?_) <;>try simp only[hb])|refine ab.aA (by decide +kernel) rfl fun K hK =>?_|refine .flat _ (f111) rfl ?_|refine .flat _ (f118) rfl ?_|(refine .av [0,1,2,3,4,5,6,7,9,10,11,12,13,14,19,34,35,36,37,53,58,65,66,67,92,110] hK ?_;clear hK K)|(with_reducible refine .done (hK _ ?_);clear hK K)|refine ab.of rfl ?_|(with_reducible refine ar.az (fun h =>?_) (fun h =>?_) <;>try simp only[h])) <;>try simp only[aB,R,simprocAttr])
  all_goals clear R
  all_goals rfl
 have h3:(x.dst != m.bE)=false:=by simp[q3]
 rw[if_neg (by rw[q2];rintro (k | k);cases k;exact k q3)] at hQ;obtain ⟨hme,hh⟩:=tj q1;obtain ⟨hw,hwl,hin⟩:=yS q1;have f112:=xa m (by omega);have hall:=fun r hr=>by
  have:=q2;simp only[oD,zz0,zx1] at this;exact this.2.2.2.2.2 r hr
 have hfr:0≤x.cH∧x.cH≤5:=by
  have:=q2;simp only[oD,zz0,jE] at this;exact this.1
 have R:=y6 @h3 (y6 @cJ (y6 @eY (y6 @gI (y6 @fI (y6 @fp aw)))))
 repeat' ((first |(with_reducible refine .guard (fun hb =>?_) (fun hb =>?_) <;>try simp only[hb])|refine ab.aA (by decide +kernel) rfl fun K hK =>?_|refine .flat _ (f111) rfl ?_|refine .flat _ (f118) rfl ?_|refine aY.uE 7 f112 rfl rfl (by decide) ?_|(refine .av [0,1,2,3,4,5,6,7,9,10,11,12,13,14,19,34,35,36,37,53,58,65,66,67,92,110] hK ?_;clear hK K)|(with_reducible refine .done (hK _ ?_);clear hK K)|refine ab.of rfl ?_|(with_reducible refine ar.az (fun h =>?_) (fun h =>?_) <;>try simp only[h])) <;>try simp only[aB,R,simprocAttr])
 all_goals clear R
 refine ab.loop (xk m x) (KP m x) (fun y=>x.eL.length-y.1) (0,m.cz,m.wr) ⟨zv6 _,hh,rfl⟩ ?_ ?_
 ·simp only[xk];refine bt.cF ?_ ?_ ?_ ?_ <;>simp[bT,bZ,bU,bB,ay,bJ,dz,I.only,I.bY,al.only,bg,dn]
  all_goals rfl
 rintro ⟨i,r,w⟩ ⟨hi,hhv,htk⟩;simp only at hi hhv htk;simp only[xk];have hwi:cS [] w=true:=by simp only[ed,zz0] at hhv;exact hhv.1.1
 have hwil:=kE hwi;have hini:qI w:=fun r hr=>lM (mR hwi r hr);by_cases hlt:i<x.eL.length
 ·have hc:=ga hlt;have he:=fun A=>gB (A:=A) 8 hlt rfl;have hiw:=eO (i:=i) (by omega);have hd:=zu3 hlt;rw[hd] at htk;have hok:=hall _ (zv4 hlt);generalize x.eL[i]=q at *;rw[jw] at htk;have f100:=qd w (by omega) hini;have hix:=vr w (lM hok);generalize cX w=C at *;by_cases hgt:(bR w q.aI:Int)<q.no
  ·rw[if_pos hgt] at htk;have hg:decide ((bR w q.aI:Int)<q.no)=true:=decide_eq_true hgt;have R:=y6 @hc (y6 @he (y6 @hiw (y6 @hix (y6 @hg (y6 @cJ (y6 @gI (y6 @eY (y6 @fB (y6 @fb (y6 @fI (y6 @fp aw)))))))))))
   repeat' ((first |(with_reducible refine .guard (fun hb =>?_) (fun hb =>?_) <;>try simp only[hb])|refine ab.aA (by decide +kernel) rfl fun K hK =>?_|refine .lead _ (f100) ?_|(refine .av [0,1,2,3,4,5,6,7,9,10,11,12,13,14,19,34,35,36,37,53,58,65,66,67,92,110] hK ?_;clear hK K)|(with_reducible refine .done (hK _ ?_);clear hK K)|refine ab.of rfl ?_|(with_reducible refine ar.az (fun h =>?_) (fun h =>?_) <;>try simp only[h])) <;>try simp only[aB,R,simprocAttr])
   all_goals clear R
   refine ⟨(i+1,r,w),⟨by simp only;omega,hhv,htk⟩,by simp only;omega,?_⟩;simp only[];refine bt.cF ?_ ?_ ?_ ?_ <;>simp[bT,bZ,bU,bB,ay,bJ,dz,I.only,I.bY,al.only,bg,dn]
   all_goals rfl
  rw[if_neg hgt] at htk;have hg:decide ((bR w q.aI:Int)<q.no)=false:=decide_eq_false hgt;have hhw:=adf (x:=q) hhv;have f113:=AX ⟨m.bE,r,w,m.cj⟩ hhv (Fg hhv) q;rw[aR] at f113;simp only at f113;have hcl:∀ z∈[enc q],z.bF=true∧z.cm=true:=fun z hz=>by rw[zy7.1 hz];exact ⟨iR _,dH _⟩
  generalize fN r w q=y at *;obtain ⟨r',w',e⟩:=y;simp only at f113 htk hhw;by_cases h0:e=0
  ·subst h0;rw[if_pos rfl] at f113;rw[if_neg (by simp)] at htk;have hn0:((0:Int) != 0)=false:=rfl;have R:=y6 @hc (y6 @he (y6 @hiw (y6 @hix (y6 @hg (y6 @hn0 (y6 @cJ (y6 @gI (y6 @eY (y6 @fB (y6 @fb (y6 @fI (y6 @fp aw))))))))))))
   repeat' ((first |(with_reducible refine .guard (fun hb =>?_) (fun hb =>?_) <;>try simp only[hb])|refine ab.aA (by decide +kernel) rfl fun K hK =>?_|refine .lead _ (f100) ?_|refine aY.qp (n:=7) f113 rfl rfl hcl (wU _) ?_|(refine .av [0,1,2,3,4,5,6,7,9,10,11,12,13,14,19,34,35,36,37,53,58,65,66,67,92,110] hK ?_;clear hK K)|(with_reducible refine .done (hK _ ?_);clear hK K)|refine ab.of rfl ?_|(with_reducible refine ar.az (fun h =>?_) (fun h =>?_) <;>try simp only[h])) <;>try simp only[aB,R,simprocAttr])
   all_goals clear R
   refine ⟨(i+1,r',w'),⟨by simp only;omega,hhw rfl,htk⟩,by simp only;omega,?_⟩;simp only[];refine bt.cF ?_ ?_ ?_ ?_ <;>simp[bT,bZ,bU,bB,ay,bJ,dz,I.only,I.bY,al.only,bg,dn]
   all_goals rfl
  ·rw[if_neg h0] at f113;rw[if_pos h0] at htk;have hn0:(e != 0)=true:=by simpa using h0
   rw[htk,if_pos h0] at hQ;subst hQ;have R:=y6 @hc (y6 @he (y6 @hiw (y6 @hix (y6 @hg (y6 @hn0 (y6 @cJ (y6 @gI (y6 @eY (y6 @fB (y6 @fb (y6 @fI (y6 @fp aw))))))))))))
   repeat' ((first |(with_reducible refine .guard (fun hb =>?_) (fun hb =>?_) <;>try simp only[hb])|refine ab.aA (by decide +kernel) rfl fun K hK =>?_|refine .lead _ (f100) ?_|refine aY.qp (n:=7) f113 rfl rfl hcl (wU _) ?_|(refine .av [0,1,2,3,4,5,6,7,9,10,11,12,13,14,19,34,35,36,37,53,58,65,66,67,92,110] hK ?_;clear hK K)|(with_reducible refine .done (hK _ ?_);clear hK K)|refine ab.of rfl ?_|(with_reducible refine ar.az (fun h =>?_) (fun h =>?_) <;>try simp only[h])) <;>try simp only[aB,R,simprocAttr])
   all_goals clear R
   all_goals rfl
 have hc:=gM hlt;rw[zv9 (by omega),jw] at htk;rw[htk,if_neg (by simp)] at hQ;simp only at hQ;clear htk;have f115:=AY ⟨m.bE,r,w,m.cj⟩ (Fg hhv);have hhs:=ade hhv;simp only at f115;have hnil:∀ z∈([]:List I),z.bF=true∧z.cm=true:=fun z hz=>by cases hz
 obtain ⟨cH,hfr'⟩:=zy2 hfr.1;rw[hfr',zw8] at hQ;have hf6:cH<6:=by omega
 generalize gh r=sq at *;have R:=y6 @hc (y6 @cJ (y6 @gI (y6 @eY (y6 @fI (y6 @fp aw)))))
 repeat' ((first |(with_reducible refine .guard (fun hb =>?_) (fun hb =>?_) <;>try simp only[hb])|refine ab.aA (by decide +kernel) rfl fun K hK =>?_|refine aY.qp (n:=7) f115 rfl rfl hnil JM ?_|(refine .av [0,1,2,3,4,5,6,7,9,10,11,12,13,14,19,34,35,36,37,53,58,65,66,67,92,110] hK ?_;clear hK K)|(with_reducible refine .done (hK _ ?_);clear hK K)|refine ab.of rfl ?_|(with_reducible refine ar.az (fun h =>?_) (fun h =>?_) <;>try simp only[h])) <;>try simp only[aB,R,simprocAttr])
 all_goals clear R
 refine ab.loop (fun j:Nat=>aC [(2,.ptr 2 []),(3,.ptr 3 []),(4,.ptr 4 []),(7,.ptr 7 []),(65,enc x.ae),(66,.int .i64 (j:Int))] [(7,.box (enc (⟨⟨m.bE,sq,w,iD m.cj cH x.ae j⟩⟩:dT))),(4,.box (dn 0)),(3,.box (enc x)),(2,.box (enc m))]) (fun j=>j≤6) (fun j=>6-j) 0 (by decide) ?_ ?_
 ·rw[adI m.cj hf6];refine bt.cF ?_ ?_ ?_ ?_ <;>simp[bT,bZ,bU,bB,ay,bJ,dz,I.only,I.bY,al.only,bg,dn]
  all_goals rfl
 intro j hj;by_cases hj6:j<6
 ·have hc:decide ((j:Int)<6)=true:=decide_eq_true (by omega);have hjw:=eO (i:=j) (by omega);have hix:=adA x.ae hj6;have hset:=adG m.cj hf6 x.ae hj6;have hget:=adF m.cj hf6 x.ae hj6;have hrow:=y7 m.cj hf6 x.ae j;have hr1:∀ K:bd 6 (bd 6 Int),(enc K:I).at [cH]=some (enc (K.l[cH]'(K.lt hf6))):=fun K=>by
   have e1:(enc K:I).at [cH]=iv cH [] (some (K.l.map enc)):=rfl;rw[e1,o8 (x:=K) hf6,jy]
  obtain ⟨K,hK0⟩:∃ K,K=iD m.cj cH x.ae j:=⟨_,rfl⟩
  obtain ⟨K',hK1⟩:∃ K',K'=iD m.cj cH x.ae (j+1):=⟨_,rfl⟩
  rw[←hK0] at hset hget ⊢;rw[←hK1] at hset;have hia1:∀ A:af,A.o 7=some (.box (enc (⟨⟨m.bE,sq,w,K⟩⟩:dT)))→fY A 6 6 (cH:Int) (.ptr 7 [0,3])=some (.ptr 7 [0,3,cH]):=fun A h=>nm (x:=K) h rfl rfl hf6;have hia2:∀ A:af,A.o 7=some (.box (enc (⟨⟨m.bE,sq,w,K⟩⟩:dT)))→fY A 6 1 (j:Int) (.ptr 7 [0,3,cH])=some (.ptr 7 [0,3,cH,j]):=fun A h=>nm (x:=K.l[cH]'(K.lt hf6)) h (hr1 K) rfl hj6;generalize (m.cj.l.getD cH dj).g j=a at *;generalize x.ae.g j=b at *;have hgt:(enc (⟨⟨m.bE,sq,w,K⟩⟩:dT)).at [0,3,cH,j]=some (.int .i64 a):=hget;have hst:∀ A rest,de A none 7 [0,3,cH,j] (enc (⟨⟨m.bE,sq,w,K⟩⟩:dT)) (.int .i64 (kq a b)) rest (some (.int .i64 a))=au rest (A.aM 7 (.box (enc (⟨⟨m.bE,sq,w,K'⟩⟩:dT)))):=fun A rest=>by
   rw[dS (s:=none) (v:=.int .i64 (kq a b)) (old:=.int .i64 a) rfl rfl rfl];have e:(enc (⟨⟨m.bE,sq,w,K⟩⟩:dT):I).dR [0,3,cH,j] (.int .i64 (kq a b))=.agg [.agg [.int .i64 m.bE,enc sq,enc w,(enc K:I).dR [cH,j] (.int .i64 (kq a b))]]:=rfl;rw[e,hset];rfl
  have hmx:∀ a b:Int,(if b>a then b else a)=kq a b:=fun _ _=>rfl;have R:=y6 @hc (y6 @hjw (y6 @hix (y6 @hfr' (y6 @hia1 (y6 @hia2 (y6 @hgt (y6 @hst (y6 @hmx (y6 @aet (y6 @cJ (y6 @gI (y6 @eY (y6 @fI (y6 @fp aw))))))))))))))
  repeat' ((first |(with_reducible refine .guard (fun hb =>?_) (fun hb =>?_) <;>try simp only[hb])|refine ab.aA (by decide +kernel) rfl fun K hK =>?_|(refine .av [0,1,2,3,4,5,6,7,9,10,11,12,13,14,19,34,35,36,37,53,58,65,66,67,92,110] hK ?_;clear hK K)|(with_reducible refine .done (hK _ ?_);clear hK K)|refine ab.of rfl ?_|(with_reducible refine ar.az (fun h =>?_) (fun h =>?_) <;>try simp only[h])) <;>try simp only[aB,R,simprocAttr])
  all_goals clear R
  refine ⟨j+1,by omega,by omega,?_⟩;rw[←hK1];refine bt.cF ?_ ?_ ?_ ?_ <;>simp[bT,bZ,bU,bB,ay,bJ,dz,I.only,I.bY,al.only,bg,dn]
  all_goals rfl
 have hje:j=6:=by omega
 subst hje;rw[adH];generalize kS m.cj cH x.ae=K at *;obtain ⟨k1,hk1⟩:∃ k1:dT,k1=⟨⟨m.bE,sq,w,K⟩⟩:=⟨_,rfl⟩
 rw[←hk1];refine ab.sub (bt.mr [7] 7 (x:=.ptr 7 []) (y:=.ref (enc k1)) (ts':=[(2,.ptr 2 []),(3,.ptr 3 []),(4,.ptr 4 []),(7,.ref (enc k1)),(65,enc x.ae),(66,.int .i64 6)]) (os':=[(4,.box (dn 0)),(3,.box (enc x)),(2,.box (enc m))]) rfl ?_ ?_ ?_ ?_ ?_ ?_) ?_
 ·rw[ph];simp[mn,dM,aC,iU,aq,iR,jy]
 ·simp[dN,bB,al.only,I.only,I.bY,bg,dn]
 ·simp[bT,hU,bJ,I.only,bg]
 ·simp[bZ,dN,aq]
 ·simp[bU,ay,aq,I.only,bg]
 ·simp[bB,al.only,I.only,I.bY,bg,dn]
 have hm1:(⟨m.bE,sq,w,K⟩:bN)=k1.m:=by rw[hk1]
 have f116:=fun b=>AZ ⟨m.bE,sq,w,K⟩ (by simp only;omega) hini x.cH b;have f119:=J5 ⟨m.bE,sq,w,K⟩ hhs x.ae;simp only at f116 f119;rw[←hk1] at f116 f119;rw[←hfr'] at hQ;have hq1:(enc k1:I).dC=some [enc k1.m]:=rfl;have hme':k1.m.bE=m.bE:=by rw[hk1]
 have hwr':k1.m.wr=w:=by rw[hk1]
 rw[hm1] at hQ;clear hk1 hm1 hfr';cases hq:x.ql
 ·rw[hq,if_neg (by decide)] at hQ;by_cases hgt:m.wr.length<w.length
  ·rw[if_pos hgt] at hQ;have hg:decide ((w.length:Int)>(m.wr.length:Int))=true:=decide_eq_true (by omega);subst hQ;have f116:=f116 true;have R:=y6 @hq (y6 @hg (y6 @hwr' (y6 @sj (y6 @wM (y6 @cJ (y6 @eY (y6 @gI (y6 @fI (y6 @fp aw)))))))))
   repeat' ((first |(with_reducible refine .guard (fun hb =>?_) (fun hb =>?_) <;>try simp only[hb])|(refine ab.ik (gs:=yA) [10000116] [(7,[]),(121,[]),(122,[]),(123,[]),(3,[3]),(126,[3]),(4,[4]),(128,[])] [0,1,2,3,4,5,6,7,8,9,10,11] (by decide +kernel) (dB.of (by simp[gn,bJ,kp,I.only,bg])) fun K hK =>?_;simp only[gE,yA,zw6,zw7,R,simprocAttr])|refine ab.aA (by decide +kernel) rfl fun K hK =>?_|refine .lead _ (f116) ?_|(refine .av [0,1,2,3,4,5,6,7,9,10,11,12,13,14,19,34,35,36,37,53,58,65,66,67,92,110] hK ?_;clear hK K)|(with_reducible refine .done (hK _ ?_);clear hK K)|refine ab.of rfl ?_|(with_reducible refine ar.az (fun h =>?_) (fun h =>?_) <;>try simp only[h])) <;>try simp only[aB,R,decide_false,simprocAttr])
   all_goals clear R
   all_goals rfl
  ·rw[if_neg hgt] at hQ;have hg:decide ((w.length:Int)>(m.wr.length:Int))=false:=decide_eq_false (by omega);subst hQ;have R:=y6 @hq (y6 @hg (y6 @hwr' (y6 @sj (y6 @wM (y6 @cJ (y6 @eY (y6 @gI (y6 @fI (y6 @fp aw)))))))))
   repeat' ((first |(with_reducible refine .guard (fun hb =>?_) (fun hb =>?_) <;>try simp only[hb])|refine ab.aA (by decide +kernel) rfl fun K hK =>?_|(refine .av [0,1,2,3,4,5,6,7,9,10,11,12,13,14,19,34,35,36,37,53,58,65,66,67,92,110] hK ?_;clear hK K)|(with_reducible refine .done (hK _ ?_);clear hK K)|refine ab.of rfl ?_|(with_reducible refine ar.az (fun h =>?_) (fun h =>?_) <;>try simp only[h])) <;>try simp only[aB,R,decide_false,simprocAttr])
   all_goals clear R
   all_goals rfl
 ·rw[hq,if_pos rfl] at hQ;subst hQ;have f116:=f116 false;generalize jz w x.ae=Y at *;have R:=y6 @hq (y6 @sj (y6 @wM (y6 @cJ (y6 @eY (y6 @gI (y6 @fI (y6 @fp aw)))))))
  repeat' ((first |(with_reducible refine .guard (fun hb =>?_) (fun hb =>?_) <;>try simp only[hb])|refine ab.aA (by decide +kernel) rfl fun K hK =>?_|refine .lead _ (f116) ?_|refine .lead _ (f119) ?_|(refine .av [0,1,2,3,4,5,6,7,9,10,11,12,13,14,19,34,35,36,37,53,58,65,66,67,92,110] hK ?_;clear hK K)|(with_reducible refine .done (hK _ ?_);clear hK K)|refine ab.of rfl ?_|(with_reducible refine ar.az (fun h =>?_) (fun h =>?_) <;>try simp only[h])) <;>try simp only[aB,R,decide_false,simprocAttr])
  all_goals clear R
  generalize (⟨m.bE,x.cH,false,cX w,Y⟩:cQ)=lz;refine ab.sub (bt.mr [13] 13 (x:=.ptr 13 []) (y:=.ref (enc lz)) (ts':=[(4,.ptr 4 []),(7,.ref (enc k1)),(13,.ref (enc lz))]) (os':=[(4,.box (dn 0))]) rfl ?_ ?_ ?_ ?_ ?_ ?_) ?_
  ·rw[ph];simp[mn,dM,aC,iU,aq,iR,jy]
  ·simp[dN,bB,al.only,I.only,I.bY,bg,dn]
  ·simp[bT,hU,bJ,I.only,bg]
  ·simp[bZ,dN,aq]
  ·simp[bU,ay,aq,I.only,bg]
  ·simp[bB,al.only,I.only,I.bY,bg,dn]
  have R:=y6 @sj (y6 @wM (y6 @cJ (y6 @eY (y6 @gI (y6 @fI (y6 @fp aw))))))
  repeat' ((first |(with_reducible refine .guard (fun hb =>?_) (fun hb =>?_) <;>try simp only[hb])|refine ab.aA (by decide +kernel) rfl fun K hK =>?_|(refine ab.ik (gs:=yz) [] [(7,[]),(104,[]),(105,[]),(106,[]),(13,[]),(108,[]),(4,[4])] [0,1,2,3,4,5,6,7,8] (by decide +kernel) (dB.of (by simp[gn,bJ,kp,I.only,bg])) fun K hK =>?_;simp only[gE,yz,zw6,zw7,R,simprocAttr])|(refine .av [0,1,2,3,4,5,6,7,9,10,11,12,13,14,19,34,35,36,37,53,58,65,66,67,92,110] hK ?_;clear hK K)|(with_reducible refine .done (hK _ ?_);clear hK K)|refine ab.of rfl ?_|(with_reducible refine ar.az (fun h =>?_) (fun h =>?_) <;>try simp only[h])) <;>try simp only[aB,R,simprocAttr])
  all_goals clear R
  all_goals rfl
section
variable {α:Type} [Enc α] {P:Program} {hs:List FuncId} {Y:Value→List I→List (Nat×al)→cv→Prop} {K:af→Prop} {rest:List aF} {d e esz bytes:Nat}
def kc(esz:Nat)(v:I)(os:List (Nat×al))(l:List α)(S:List Nat):Prop:=(l=[]∧(v=.c0 esz∨v=.nils esz))∨∃ n qs,n∈S∧v=.view n [] esz 0 l.length∧aq os n=some (.box (.agg (l.map enc++qs)))∧∀ q∈qs,q.aN=Enc.aN α∧∀ p,q.only p=true
theorem Ju{A:af}{n:Nat}{l:List α}{qs:List I}(ho:A.o n=some (.box (.agg (l.map enc++qs)))):du A esz (.view n [] esz 0 l.length)=some (l.map enc):=by
 rw[ahg,ho]
 show rJ esz esz 0 l.length (some (l.map enc++qs))=_
 simp only[rJ];rw[if_pos ⟨by simp,trivial⟩,List.drop_zero,zw4 (by simp),zv8 (by simp)]
theorem Fb(z:I)(hz:z.aN=Enc.aN α∧∀ p,z.only p=true){ts:List (Nat×I)}{os:List (Nat×al)}{v:I}{l ys:List α}{S:List Nat}(hsz:Enc.sz α=esz)(hg:kc esz v os l S)(hf:aq os d=none)(hb:(l.length+ys.length)*bytes≤140737488355328)(hml:l.length+ys.length≤maxLen) :
  (∃ v' os',eT (aC ts os) (some d) e esz bytes z (enc ys) rest v=au rest (aC ((d,v')::ts) os')∧kc esz v' os' (l++ys) (d::S)∧∀ m,m∉d::S→aq os' m=aq os m) ∨
  (∃ p,∃ v':Nat→I,∃ os':Nat→List (Nat×al),eT (aC ts os) (some d) e esz bytes z (enc ys) rest v=.any p (fun m=>au rest (aC ((d,v' m)::ts) (os' m)))∧∀ k,kc esz (v' k) (os' k) (l++ys) (d::S)∧∀ m,m∉d::S→aq (os' k) m=aq os m):=by
 have hc0:∀ w:I,w=.c0 esz∨w=.nils esz→du (aC ts os) esz w=some []:=fun w hw=>by rcases hw with rfl | rfl <;>rfl
 by_cases hy:ys=[]
 ·subst hy;rw[zx2];rcases hg with ⟨rfl,ae⟩ | ⟨n,qs,hn,rfl,ho,hq⟩
  ·refine .inl ⟨v,os,?_,.inl ⟨rfl,ae⟩,fun _ _=>rfl⟩;have h1:=hc0 v ae;rcases ae with rfl | rfl <;>(simp only[eT,h1,jR _ esz ([]:List α) hsz,eI,zy9,if_true];rfl)
  ·refine .inl ⟨_,os,?_,.inr ⟨n,qs,zu7 _ hn,rfl,ho,hq⟩,fun _ _=>rfl⟩;have h1:=Ju (A:=aC ts os) (esz:=esz) ho;simp only[eT,h1,jR _ esz ([]:List α) hsz,eI,zy9,if_true];rfl
 ·have hne:ys.map (enc (α:=α))≠[]:=by simpa using hy
  rcases hg with ⟨rfl,ae⟩ | ⟨n,qs,hn,rfl,ho,hq⟩
  ·refine .inr ⟨fun m=>ys.length+m≤maxLen,fun m=>.view d [] esz 0 ys.length,fun m=>(d,.box (.agg (ys.map enc++List.replicate m z)))::os,?_,fun k=>⟨.inr ⟨d,List.replicate k z,zw9,by simp,by simp[aq],fun q hq=>by rw[(List.mem_replicate.1 hq).2];exact hz⟩,fun m hm =>?_⟩⟩
   rotate_left 1
   ·rw[dz,if_neg (fun h=>by rw[h] at hm;exact hm zw9)]
   have h1:=hc0 v ae;have hf':(aC ts os).o d=none:=hf;have hb':ys.length*bytes≤140737488355328:=by simpa using hb
   have hm':ys.length≤maxLen:=by simpa using hml
   rcases ae with rfl | rfl <;>(simp only[eT,h1,jR _ esz ys hsz,eI,if_neg hne,fE,hf',zv1,zz4,zz3,if_pos (y6 hb' hm'),zy3];rfl)
  ·have ho':(aC ts os).o n=some (.box (.agg (l.map enc++qs))):=ho;have h1:=Ju (A:=aC ts os) (esz:=esz) ho;have h2:(I.agg (l.map (enc (α:=α))++qs)).at []=some (.agg (l.map enc++qs)):=rfl;have hf':(aC ts os).o d=none:=hf;by_cases hr:ys.length≤qs.length
   ·refine .inl ⟨.view n [] esz 0 (l.length+ys.length),(n,.box (.agg ((l++ys).map enc++qs.drop ys.length)))::os,?_,.inr ⟨n,qs.drop ys.length,zu7 _ hn,by simp,by simp[aq],fun q h=>hq q (List.mem_of_mem_drop h)⟩,fun m hm =>?_⟩
    ·have h3:I.cB (ys.map (enc (α:=α)))=I.cB (((l.map (enc (α:=α))++qs).drop l.length).take ys.length):=by
      rw[List.drop_left' (by simp),rH,I.c7]
      symm
      rw[List.eq_replicate_iff];refine ⟨by simp;omega,fun b hb =>?_⟩;obtain ⟨q,hq1,rfl⟩:=zx4.1 hb;exact (hq q (zx9 hq1)).1
     simp only[eT,h1,jR _ esz ys hsz,eI];rw[if_neg hne];simp only[ho',h2,zz3,zz4,zz1];rw[if_pos (by omega),if_pos ⟨rfl,by rw[zz3,zz4];exact h3⟩];simp only[jd,ez,zz3];have e1:(l.map (enc (α:=α))++qs).take l.length++(ys.map enc++(l.map enc++qs).drop (l.length+ys.length))=(l++ys).map enc++qs.drop ys.length:=by
      rw[List.take_left' (by simp),List.drop_append,zv9 (by simp),zy3,zw3,zz7]
      congr 3
      simp
     rw[e1];rfl
    ·rw[dz,if_neg (fun h=>by rw[h] at hm;exact hm (zu7 _ hn))]
   ·refine .inr ⟨fun m=>l.length+ys.length+m≤maxLen,fun m=>.view d [] esz 0 (l.length+ys.length),fun m=>(d,.box (.agg (l.map enc++(ys.map enc++List.replicate m z))))::os,?_,fun k=>⟨.inr ⟨d,List.replicate k z,zw9,by simp,by simp[aq],fun q hq=>by rw[(List.mem_replicate.1 hq).2];exact hz⟩,fun m hm =>?_⟩⟩
    rotate_left 1
    ·rw[dz,if_neg (fun h=>by rw[h] at hm;exact hm zw9)]
    simp only[eT,h1,jR _ esz ys hsz,eI];rw[if_neg hne];simp only[ho',h2,zz3,zz4,zz1];rw[if_neg (by omega)];simp only[fE,hf',zz3];rw[if_pos ⟨hb,hml⟩];rfl
theorem bQ.kl(z:I)(hz:z.aN=Enc.aN α∧∀ p,z.only p=true){ts:List (Nat×I)}{os:List (Nat×al)}{v:I}{l ys:List α}{S:List Nat}(hsz:Enc.sz α=esz)(hg:kc esz v os l S)(hf:aq os d=none)(hb:(l.length+ys.length)*bytes≤140737488355328)(hml:l.length+ys.length≤maxLen)
  (h:∀ v' os',kc esz v' os' (l++ys) (d::S)→(∀ m,m∉d::S→aq os' m=aq os m)→bQ P Y hs K (au rest (aC ((d,v')::ts) os'))):bQ P Y hs K (eT (aC ts os) (some d) e esz bytes z (enc ys) rest v):=by
 rcases Fb (rest:=rest) (e:=e) z hz hsz hg hf hb hml (ts:=ts) with ⟨v',os',h1,h2,h3⟩ | ⟨p,v',os',h1,h2⟩
 ·rw[h1];exact h v' os' h2 h3
 ·rw[h1];exact .any fun m _=>h _ _ (h2 m).1 (h2 m).2
theorem aY.kl(z:I)(hz:z.aN=Enc.aN α∧∀ p,z.only p=true){ts:List (Nat×I)}{os:List (Nat×al)}{v:I}{l ys:List α}{S:List Nat}(hsz:Enc.sz α=esz)(hg:kc esz v os l S)(hf:aq os d=none)(hb:(l.length+ys.length)*bytes≤140737488355328)(hml:l.length+ys.length≤maxLen)
  (h:∀ v' os',kc esz v' os' (l++ys) (d::S)→(∀ m,m∉d::S→aq os' m=aq os m)→aY P Y false K (au rest (aC ((d,v')::ts) os'))):aY P Y false K (eT (aC ts os) (some d) e esz bytes z (enc ys) rest v):=by
 rcases Fb (rest:=rest) (e:=e) z hz hsz hg hf hb hml (ts:=ts) with ⟨v',os',h1,h2,h3⟩ | ⟨p,v',os',h1,h2⟩
 ·rw[h1];exact h v' os' h2 h3
 ·rw[h1];exact .any rfl fun m _=>h _ _ (h2 m).1 (h2 m).2
theorem ada(os:List (Nat×al))(S:List Nat):kc esz (.c0 esz) os ([]:List α) S:=.inl ⟨rfl,.inl rfl⟩
theorem ac9{v:I}{os:List (Nat×al)}{l:List α}{S:List Nat}{A:af}(hsz:Enc.sz α=esz)(h:kc esz v os l S)(hA:∀ m∈S,A.o m=aq os m):bh true A v=some (enc l):=by
 rcases h with ⟨rfl,rfl | rfl⟩ | ⟨n,qs,hn,rfl,ho,hq⟩
 ·simp only[bh,hG,zy9,hsz]
 ·simp only[bh,hG,zy9,hsz]
 ·rw[sB,hA n hn,ho]
  show jB esz 0 l.length (some (l.map enc++qs))=_
  have e:((l.map (enc (α:=α))++qs).drop 0).take l.length=l.map enc:=by rw[List.drop_zero,List.take_left' (by simp)]
  simp only[jB,e,qu,if_true];rw[hG,hsz]
end
def rN:List (List UInt8):=[[],[111,102,32,97,32,98,101,97,115,116],[97,32,116,101,120,116,32,116,104,97,116,32,116,101,97,114,115,32,115,111,109,101,119,104,101,114,101,32,105,110,32,105,116,115,32,109,105,100,115,116]]
def rL(k:Int):List UInt8:=rN.getD k.toNat []
def nE(n:Int)(g:lZ):ah:=⟨0,0,1+dD (g.g 1) n,dD (g.g 2) 50,dD (g.g 3) 50,0,0,rL (dD (g.g 4) 3)⟩
def dw(o:bd 3 bN)(i:Nat):bN:=o.l.getD i mC
def oM(o:bd 3 bN)(i:Nat)(m:bN):bd 3 bN:=⟨o.l.set i m,by rw[List.length_set];exact o.h⟩
def jZ(y:dW):Nat:=(dD y.nr 3).toNat
def oQ(y:dW):Int:=((jZ y:Int)+1+dD y.dst 2).tmod 3
def nZ(n:Int)(o:bd 3 bN)(ls:List cQ)(y:dW):bd 3 bN×List cQ :=
 if dD y.kind 8=3∨dD y.kind 8=4 then (oM o (jZ y) (oc (dw o (jZ y)) (oQ y)).1,ls++[(oc (dw o (jZ y)) (oQ y)).2.1])
 else if dD y.kind 8=5∨dD y.kind 8=6 then
  if ls=[] then (o,ls) else
   (oM o (ls.getD (dD y.dst ls.length).toNat lH).dst.toNat (nF (dw o (ls.getD (dD y.dst ls.length).toNat lH).dst.toNat) (ls.getD (dD y.dst ls.length).toNat lH)).1,
    (if y.nr.tmod 2=0 then ls.take (dD y.dst ls.length).toNat++ls.drop ((dD y.dst ls.length).toNat+1) else ls)++(nF (dw o (ls.getD (dD y.dst ls.length).toNat lH).dst.toNat) (ls.getD (dD y.dst ls.length).toNat lH)).2.1)
 else if dD y.kind 8=7 then (oM o (jZ y) (ry (dw o (jZ y)) y.jr).1,ls)
 else (oM o (jZ y) (py (dw o (jZ y)) (nE n y.raw)).1,ls)
def kr(i:Int):bN:=⟨i,fU,[],gY⟩
def os0:bd 3 bN:=⟨[kr 0,kr 1,kr 2],rfl⟩
def jx(n:Int)(p:bd 3 bN×List cQ):List dW→bd 3 bN×List cQ
 | []=>p
 |y::l=>jx n (nZ n p.1 p.2 y) l
theorem BD(n:Int):∀ (l:List dW) (p:bd 3 bN×List cQ) (y:dW),jx n p (l++[y])=nZ n (jx n p l).1 (jx n p l).2 y
 | [],_,_=>rfl
 |x::l,p,y=>by rw[zz8,jx,jx,BD n l]
theorem u9(o:bd 3 bN){i:Nat}(hi:i<3)(m:bN):dw (oM o i m)=e8 (dw o) i m:=by
 funext k
 rw[dw,oM,e8,zz2,List.getElem?_set];by_cases e:i=k
 ·subst e;rw[if_pos rfl,if_pos (by rw[o.h];exact hi),if_pos rfl];rfl
 ·rw[if_neg e,if_neg (fun h=>e h.symm),←zz2];rfl
theorem zj(y:dW):jZ y<3∧dD y.nr 3=(jZ y:Int):=by
 have:=lJ y.nr (n:=3) (by decide);rw[jZ];omega
theorem JJ(y:dW):(0≤oQ y∧oQ y≤2)∧oQ y≠(jZ y:Int):=by
 have h1:=(zj y).1;have h2:=lJ y.dst (n:=2) (by decide);rw[oQ,Int.tmod_eq_emod_of_nonneg (by omega)];omega
theorem ahv{k:Int}(h:0≤k∧k<3):gT (rL k)=true:=by
 have:k=0∨k=1∨k=2:=by omega
 rcases this with rfl | rfl | rfl <;>decide +kernel
theorem IH{n:Int}(hn:1≤n∧n≤40)(g:lZ):ue (nE n g):=by
 have p1:=lJ (g.g 1) (n:=n) (by omega);have p2:=lJ (g.g 2) (n:=50) (by decide);have p3:=lJ (g.g 3) (n:=50) (by decide);exact ⟨by simp only[nE];omega,by simp only[nE];omega,by simp only[nE];omega,⟨rfl,rfl⟩,ahv (lJ (g.g 4) (n:=3) (by decide))⟩
theorem Gh:cY (dw os0) (fun _=>0) [] 0:=by
 have hw:∀ i,i<3→(dw os0 i)=kr i:=fun i hi=>by
  have:i=0∨i=1∨i=2:=by omega
  rcases this with rfl | rfl | rfl <;>rfl
 refine ⟨fun i hi=>by rw[hw i hi];exact fP.zero,fun i hi=>by rw[hw i hi];rfl,fun k hk i x =>?_,fun i hi r hr =>?_,fun s hs=>(by cases hs),by decide⟩
 ·rw[hw k hk,gP];simp only[kr,BK];exact ⟨Int.le_refl _,Int.natCast_nonneg _⟩
 ·rw[hw i hi] at hr;cases hr
section
variable {o:bd 3 bN} {f:Nat→Nat} {ls:List cQ} {j:Nat} {n:Int} {y:dW}
theorem G1(h:cY (dw o) f ls j)(hl:ls≠[]):(dD y.dst ls.length).toNat<ls.length∧qh (dw o) f (ls.getD (dD y.dst ls.length).toNat lH)∨4611686018427387904<ls.length:=by
 by_cases hb:ls.length≤4611686018427387904
 ·have hp:0<ls.length:=zv2.2 hl;have:=lJ y.dst (n:=(ls.length:Int)) (by omega);have hlt:(dD y.dst ls.length).toNat<ls.length:=by omega
  exact .inl ⟨hlt,h.lt _ (by rw[zz2,zz5 hlt,Option.getD_some];exact zv4 hlt)⟩
 ·exact .inr (by omega)
theorem cY.BC(h:cY (dw o) f ls j)(hj:j<60)(hl:ls.length≤j)(hn:1≤n∧n≤40)(hp:∀ x∈y.jr,-9223372036854775808≤x∧x≤9223372036854775807) :
  ∃ f',cY (dw (nZ n o ls y).1) f' (nZ n o ls y).2 (j+1)∧(nZ n o ls y).2.length≤j+1:=by
 obtain ⟨hm,_⟩:=zj y;rw[nZ];split
 ·obtain ⟨t1,t2⟩:=JJ y;obtain ⟨m,s,e,k⟩:=h.BN hm t1 t2;rw[e];refine ⟨_,by rw[u9 o hm];exact k.eE (by omega),by simp only[zz1,List.length_singleton];omega⟩
 split
 ·split
  ·exact ⟨f,h.eE (by omega),by simp only;omega⟩
  ·rename_i hne;rcases G1 (y:=y) h hne with ⟨hlt,hs⟩ | hb
   ·have hd:(ls.getD (dD y.dst ls.length).toNat lH).dst.toNat<3:=by have:=hs.dst;omega
    obtain ⟨m,b,g,e,k1,k2,k3⟩:=h.IJ hj hs;rw[e];refine ⟨_,by
     rw[u9 o hd];refine ((k2.pY (s:=if y.nr.tmod 2=0 then ls.take (dD y.dst ls.length).toNat++ls.drop ((dD y.dst ls.length).toNat+1) else ls) fun x hx =>?_).BE k3).eE (by omega);split at hx
     ·rcases zy6.1 hx with q | q
      ·exact zx9 q
      ·exact List.mem_of_mem_drop q
     ·exact hx,?_⟩
    simp only;split <;>(simp only[zz1,zz6,zv3];omega)
   ·omega
 split
 ·obtain ⟨m,q,e,k1,k2,k3,k4⟩:=h.rest hm hp;rw[e];exact ⟨_,by rw[u9 o hm];exact k4.eE (by omega),by simp only;omega⟩
 ·obtain ⟨m,e,k⟩:=h.Gm hj hm (IH hn y.raw);rw[e];exact ⟨_,by rw[u9 o hm];exact k,by simp only;omega⟩
end
def fo:I:=.agg [dn 0,dn 0,dn 0]
def mB:Nat→I
 |0=>fo
 |1=>.agg [enc (kr 0),dn 0,dn 0]
 |2=>.agg [enc (kr 0),enc (kr 1),dn 0]
 |_=>enc os0
theorem p5(a:Int):(dn a).size=42:=by simp only[dn,I.size,I.sizes,gK];rfl
theorem AJ(m:bN):(enc m:I).size=42:=gK m
theorem jH:(I.agg [dn 0,dn 0,dn 0]=fo)∧(∀ o:bd 3 bN,bS (some 126) (enc o)=true)∧(bS (some 126) fo=true)∧(fo.cm=true)∧(∀ A n b rest (o:bd 3 bN),de A (some 126) n [] b (enc o) rest (some fo)=au rest (A.aM n (.box (enc o)))) ∧
  (∀ A n b rest (o q:bd 3 bN),de A (some 126) n [] b (enc o) rest (some (enc q))=au rest (A.aM n (.box (enc o)))) :=
 ⟨rfl,fun _=>by rw[eQ];rfl,by simp[bS,fo,I.isAgg,I.size,I.sizes,p5],rfl,
  fun A n b rest o=>by rw[dS (s:=some 126) (v:=enc o) (old:=fo) (dH _) (by rw[eQ];rfl) (cM _),ez],
  fun A n b rest o q=>by rw[dS (s:=some 126) (v:=enc o) (old:=enc q) (dH _) (by rw[eQ];rfl) ((cM _).trans (cM _).symm),ez]⟩
theorem jI(p:Nat→Bool):fo.only p=true:=by simp[fo,dn,I.only,I.bY,bg]
theorem Gp(k:Nat)(p:Nat→Bool):(mB k).only p=true:=by
 match k with
 |0=>exact jI p
 |1=>simp[mB,dn,I.only,I.bY,bg]
 |2=>simp[mB,dn,I.only,I.bY,bg]
 |_+3=>exact bg _ _
theorem adj{A:af}{n k:Nat}{x y z:I}(hx:x.size=42)(hy:y.size=42)(hz:z.size=42)(hk:k<3)(h:A.o n=some (.box (.agg [x,y,z]))):fY A 3 42 (k:Int) (.ptr n [])=some (.ptr n [k]):=by
 have hf:eC (dM [] (A.o n))=some [x,y,z]:=by rw[h];rfl
 show gN (k:Int) 3 (lF 3 42 n [] k (eC (dM [] (A.o n))))=_
 rw[hf];have he:gL 3 42 [x,y,z]=true:=by simp[gL,hx,hy,hz]
 simp only[gN,lF,jl,he,if_true];rw[if_pos (by omega)];simp
theorem aeG{k:Nat}(hk:k<3):∃ x y z:I,mB k=.agg [x,y,z]∧x.size=42∧y.size=42∧z.size=42∧(mB k).at [k]=some (dn 0)∧∀ A rest,de A (some 42) 5 [k] (mB k) (enc (kr k)) rest (some (dn 0))=au rest (A.aM 5 (.box (mB (k+1)))):=by
 have hst:∀ (b:I) (A:af) (rest:List aF),de A (some 42) 5 [k] b (enc (kr k)) rest (some (dn 0))=au rest (A.aM 5 (.box (b.dR [k] (enc (kr k))))):=fun b A rest=>dS (s:=some 42) (v:=enc (kr k)) (old:=dn 0) (dH _) (by rw[eQ];rfl) (cM _);have:k=0∨k=1∨k=2:=by omega
 rcases this with rfl | rfl | rfl
 ·exact ⟨_,_,_,rfl,p5 0,p5 0,p5 0,rfl,fun A rest=>hst _ A rest⟩
 ·exact ⟨_,_,_,rfl,AJ _,p5 0,p5 0,rfl,fun A rest=>hst _ A rest⟩
 ·exact ⟨_,_,_,rfl,AJ _,AJ _,p5 0,rfl,fun A rest=>hst _ A rest⟩
theorem vU(o:bd 3 bN){k:Nat}(hk:k<3):(∀ A:af,A.o 5=some (.box (enc o))→fY A 3 42 (k:Int) (.ptr 5 [])=some (.ptr 5 [k]))∧(enc o:I).at [k]=some (enc (dw o k))∧∀ A rest (m:bN),de A (some 42) 5 [k] (enc o) (enc m) rest (some (enc (dw o k)))=au rest (A.aM 5 (.box (enc (oM o k m)))):=by
 have hg:o.l[k]'(o.lt hk)=dw o k:=by rw[dw,zz2,zz5 (o.lt hk)];rfl
 refine ⟨fun A h =>?_,?_,fun A rest m =>?_⟩
 ·have:=nm (A:=A) (n:=5) (p:=[]) (b:=enc o) (x:=o) (esz:=42) h rfl rfl hk;simpa using this
 ·have e1:(enc o:I).at [k]=iv k [] (some (o.l.map enc)):=rfl;rw[e1,o8 (x:=o) hk,jy,hg]
 ·rw[dS (s:=some 42) (v:=enc m) (old:=enc (dw o k)) (dH _) (by rw[eQ];rfl) ((cM _).trans (cM _).symm),An o hk [] _ m (ez _ _)];rfl
theorem l9:(∀ x:dW,(enc x).dC=some [.int .i64 x.kind,.int .i64 x.nr,.int .i64 x.dst,enc x.raw,enc x.jr])∧(∀ (a b c:Int) (r:lZ) (l:List Int) p,e9 [.int .i64 a,.int .i64 b,.int .i64 c,enc r,enc l] 1 1 p=some p)∧(∀ (a b c:Int) (r:lZ) (l:List Int) p,e9 [.int .i64 a,.int .i64 b,.int .i64 c,enc r,enc l] 2 2 p=some p) ∧
  (∀ (a b c:Int) (r:lZ) (l:List Int) p,e9 [.int .i64 a,.int .i64 b,.int .i64 c,enc r,enc l] 3 3 p=some p)∧(∀ (a b c:Int) (r:lZ) (l:List Int) p,e9 [.int .i64 a,.int .i64 b,.int .i64 c,enc r,enc l] 4 8 p=some p) ∧
  (∀ x:dW,(enc x).at [0]=some (.int .i64 x.kind))∧(∀ x:dW,(enc x).at [1]=some (.int .i64 x.nr))∧(∀ x:dW,(enc x).at [2]=some (.int .i64 x.dst))∧(∀ x:dW,(enc x).at [4]=some (enc x.jr))∧(∀ x:dW,bS (some 9) (enc x)=true) ∧
  (∀ A n b rest (q:dW),de A (some 9) n [] b (enc q) rest (some (.agg [.int .i64 0,.int .i64 0,.int .i64 0,.agg [.int .i64 0,.int .i64 0,.int .i64 0,.int .i64 0,.int .i64 0],.nils 1]))=au rest (A.aM n (.box (enc q)))) :=
 ⟨fun _=>rfl,fun _ _ _ _ _ _=>rfl,fun _ _ _ _ _ _=>rfl,fun _ _ _ _ _ _=>rfl,fun _ _ _ r _ _=>pA (by simp) (by simp[I.sizes,I.size,gK,uO,uP]),fun _=>rfl,fun _=>rfl,fun _=>rfl,fun _=>rfl,fun _=>by rw[eQ];rfl,
  fun A n b rest q=>by rw[dS (s:=some 9) (v:=enc q) (old:=.agg [.int .i64 0,.int .i64 0,.int .i64 0,.agg [.int .i64 0,.int .i64 0,.int .i64 0,.int .i64 0,.int .i64 0],.nils 1]) (dH _) (by rw[eQ];rfl) (cM _),ez]⟩
theorem vg{A:af}{n:Nat}{k1 k2 k3 a b c d e:Int}{l:List Int}(h:A.o n=some (.box (enc (⟨k1,k2,k3,⟨[a,b,c,d,e],rfl⟩,l⟩:dW)))):fY A 5 1 1 (.ptr n [3])=some (.ptr n [3,1])∧fY A 5 1 2 (.ptr n [3])=some (.ptr n [3,2])∧fY A 5 1 3 (.ptr n [3])=some (.ptr n [3,3])∧fY A 5 1 4 (.ptr n [3])=some (.ptr n [3,4]):=by
 have hf:eC (dM [3] (A.o n))=some [.int .i64 a,.int .i64 b,.int .i64 c,.int .i64 d,.int .i64 e]:=by rw[h];rfl
 refine ⟨?_,?_,?_,?_⟩ <;>simp[fY,lF,gN,jl,hf,gL,I.size]
theorem Lt(k1 k2 k3 a b c d e:Int)(l:List Int):(enc (⟨k1,k2,k3,⟨[a,b,c,d,e],rfl⟩,l⟩:dW)).at [3,1]=some (.int .i64 b)∧(enc (⟨k1,k2,k3,⟨[a,b,c,d,e],rfl⟩,l⟩:dW)).at [3,2]=some (.int .i64 c) ∧
  (enc (⟨k1,k2,k3,⟨[a,b,c,d,e],rfl⟩,l⟩:dW)).at [3,3]=some (.int .i64 d)∧(enc (⟨k1,k2,k3,⟨[a,b,c,d,e],rfl⟩,l⟩:dW)).at [3,4]=some (.int .i64 e):=⟨rfl,rfl,rfl,rfl⟩
mutual
theorem wy(ρ:Nat→Nat):∀ x:I,x.only (fun _=>false)=true→x.aQ ρ=x
 | .agg fs,h | .tuple fs,h=>by simp only[I.only] at h;simp only[I.aQ];rw[rv ρ fs h]
 | .slice _ es,h=>by simp only[I.only] at h;simp only[I.aQ];rw[rv ρ es h]
 | .ref x,h=>by simp only[I.only] at h;simp only[I.aQ];rw[wy ρ x h]
 | .func _ caps,h=>by simp only[I.only] at h;simp only[I.aQ];rw[rv ρ caps h]
 | .iface _ v,h=>by simp only[I.only] at h;simp only[I.aQ];rw[wy ρ v h]
 | .ptr _ _,h | .own _ _,h | .view _ _ _ _ _,h | .mref _,h | .dx _,h=>by simp only[I.only] at h;cases h
 | .dA ks vs,h=>by simp only[I.only,zz0] at h;simp only[I.aQ];rw[rv ρ ks h.1,rv ρ vs h.2]
 | .bool _,_ | .int _ _,_ | .ak _,_ | .nilp,_ | .dO,_ | .dh,_ | .any,_ | .raw _,_ | .nils _,_ | .c0 _,_ | .undef,_ | .dv,_=>by simp only[I.aQ]
theorem rv(ρ:Nat→Nat):∀ xs:List I,I.bY (fun _=>false) xs=true→I.dq ρ xs=xs
 | [],_=>rfl
 |x::xs,h=>by simp only[I.bY,zz0] at h;simp only[I.dq];rw[wy ρ x h.1,rv ρ xs h.2]
end
theorem zG{p:Nat→Bool} : ∀ {xs:List I},(∀ x∈xs,x.only p=true)→I.bY p xs=true
 | [],_=>rfl
 |x::xs,h=>by simp only[I.bY,zz0];exact ⟨h x zw9,zG fun y hy=>h y (zu7 _ hy)⟩
def kH(v:I)(osL:List (Nat×al))(ls:List cQ):Prop:=(ls=[]∧(v=.c0 10∨v=.nils 10)∧osL=[])∨∃ qs,v=.view 9 [] 10 0 ls.length∧osL=[(9,.box (.agg (ls.map enc++qs)))]∧∀ q∈qs,q.aN=Enc.aN cQ∧∀ p,q.only p=true
theorem kH.kl{v:I}{osL os:List (Nat×al)}{ls:List cQ}(h:kH v osL ls)(ho:aq os 9=aq osL 9):kc 10 v os ls [9]:=by
 rcases h with ⟨rfl,ae,rfl⟩ | ⟨qs,rfl,rfl,hq⟩
 ·exact .inl ⟨rfl,ae⟩
 ·exact .inr ⟨9,qs,by simp,rfl,by rw[ho];rfl,hq⟩
theorem kH.no{v:I}{osL:List (Nat×al)}{ls:List cQ}(h:kH v osL ls)(d:Nat)(hd:d≠9):aq osL d=none:=by
 rcases h with ⟨rfl,ae,rfl⟩ | ⟨qs,rfl,rfl,hq⟩
 ·rfl
 ·simp[aq,hd]
theorem kH.len{v:I}{osL:List (Nat×al)}{ls:List cQ}(h:kH v osL ls):∀ A,kV A v=some (.int .i64 (ls.length:Int)):=by
 rcases h with ⟨rfl,rfl | rfl,rfl⟩ | ⟨qs,rfl,rfl,hq⟩
 ·intro A;rfl
 ·intro A;rfl
 ·intro A;rfl
def jg(l:List dW)(i:Nat)(v:I):List (Nat×I):=[(0,enc l),(2,.ptr 2 []),(5,.ptr 5 []),(9,v),(10,.int .i64 (i:Int))]
def r4(l:List dW)(x:Nat×bd 3 bN×List cQ×I×List (Nat×al)):af:=aC (jg l x.1 x.2.2.2.1) ((5,.box (enc x.2.1))::(2,.box fo)::x.2.2.2.2)
theorem NM{l:List dW}{i:Nat}{o:bd 3 bN}{ls:List cQ}{ts:List (Nat×I)}{os:List (Nat×al)}{v:I}{S:List Nat}(hg:kc 10 v os ls S)(hS:∀ m∈S,m≠5∧m≠2∧m<1000000)(h5:aq os 5=some (.box (enc o)))(h2:aq os 2=some (.box fo))(ht:bT ts (jg l i v)) :
  ∃ w osL,kH w osL ls∧bt (aC ts os) (r4 l (i,o,ls,w,osL)):=by
 rcases hg with ⟨rfl,ae⟩ | ⟨n,qs,hn,rfl,ho,hq⟩
 ·refine ⟨v,[],.inl ⟨rfl,ae,rfl⟩,bt.cF ht ⟨h5,h2,trivial⟩ ?_ ?_⟩
  ·rcases ae with rfl | rfl <;>simp[jg,bU,ay,aq,I.only,bg]
  ·simp[bB,al.only,bg,jI]
 ·obtain ⟨n5,n2,nl⟩:=hS n hn;have hqo:∀ p,(I.agg (ls.map enc++qs)).only p=true:=fun p=>by
   simp only[I.only];refine zG fun x hx =>?_;rcases zy6.1 hx with q | q
   ·obtain ⟨z,_,rfl⟩:=zx4.1 q;exact bg _ _
   ·exact (hq x q).2 p
  refine ⟨.view 9 [] 10 0 ls.length,[(9,.box (.agg (ls.map enc++qs)))],.inr ⟨qs,rfl,rfl,hq⟩,?_⟩;have hin:∀ m,ay [(5,al.box (enc o)),(2,.box fo),(n,.box (.agg (ls.map enc++qs)))] m=true→m=5∨m=2∨m=n:=fun m hm=>by
   simp only[ay,dz,F3] at hm;by_cases e1:m=5
   ·exact .inl e1
   by_cases e2:m=2
   ·exact .inr (.inl e2)
   by_cases e3:m=n
   ·exact .inr (.inr e3)
   simp[e1,e2,e3] at hm
  have hT:bU (ay [(5,al.box (enc o)),(2,.box fo),(n,.box (.agg (ls.map enc++qs)))]) (jg l i (.view n [] 10 0 ls.length)):=by
   simp[jg,bU,ay,aq,I.only,bg,n5,n2]
  have hO:∀ p,bB p [(5,al.box (enc o)),(2,.box fo),(n,.box (.agg (ls.map enc++qs)))]:=fun p=>by
   simp[bB,al.only,bg,jI,hqo]
  refine (bt.cF (ts':=jg l i (.view n [] 10 0 ls.length)) (os':=[(5,.box (enc o)),(2,.box fo),(n,.box (.agg (ls.map enc++qs)))]) ht ⟨h5,h2,ho,trivial⟩ hT (hO _)).trans ?_;refine bt.agq [(n,9)] (fun a b ha hb =>?_) (fun m hm =>?_) hT (fun k x hx=>zE (hO _) k x hx) ?_
  ·rcases hin a ha with e | e | e <;>rcases hin b hb with e' | e' | e' <;>subst e <;>subst e' <;>simp[bp,n5,n2,Ne.symm n5,Ne.symm n2]
  ·rcases hin m hm with e | e | e <;>subst e <;>simp[bp,Ne.symm n5,Ne.symm n2]
  ·have gF:∀ x:I,(∀ p,x.only p=true)→x.aQ (bp [(n,9)])=x:=fun x h=>wy _ x (h _);have rl:(enc l:I).aQ (bp [(n,9)])=enc l:=gF _ fun p=>bg _ _;have ro:(enc o:I).aQ (bp [(n,9)])=enc o:=gF _ fun p=>bg _ _;have rz:fo.aQ (bp [(n,9)])=fo:=gF _ jI;have rq:(I.agg (ls.map enc++qs)).aQ (bp [(n,9)])=.agg (ls.map enc++qs):=gF _ hqo;simp only[jg,dp,zz9,zy9,al.aQ,rl,ro,rz,rq];simp only[I.aQ,bp,Ne.symm n5,Ne.symm n2,if_false,if_true];exact bt.refl _
theorem kH.bh{v:I}{osL:List (Nat×al)}{ls:List cQ}(h:kH v osL ls){ts:List (Nat×I)}{os:List (Nat×al)}(h9:aq os 9=aq osL 9):bh true (aC ts (iU [9] os)) v=some (enc ls):=by
 refine ac9 (S:=[9]) rfl (h.kl h9) fun m hm =>?_
 show aq (iU [9] os) m=_
 rw[qR,zy7.1 hm];simp
theorem GN{p q:Nat→Bool}(h:∀ n,p n=true→q n=true):∀ {ts:List (Nat×I)},bU p ts→bU q ts
 | [],_=>trivial
 |(_,v)::r,hx=>by simp only[bU] at hx ⊢;exact ⟨j5 h v hx.1,GN h hx.2⟩
theorem GM{p q:Nat→Bool}(h:∀ n,p n=true→q n=true):∀ {os:List (Nat×al)},bB p os→bB q os
 | [],_=>trivial
 |(_,v)::r,hx=>by simp only[bB] at hx ⊢;exact ⟨al.j5 h v hx.1,GM h hx.2⟩
theorem Fv(a b:List (Nat×al))(n:Nat):ay (a++b) n=(ay a n||ay b n):=by
 induction a with
 |nil=>simp[ay,aq]
 |cons x a ih =>
  obtain ⟨k,x⟩:=x;simp only[ay,zz8,dz] at ih ⊢;by_cases e:n=k
  ·simp[e]
  ·simp only[if_neg e];exact ih
theorem JB{os b:List (Nat×al)} : ∀ {a:List (Nat×al)},bZ os a→bZ os b→bZ os (a++b)
 | [],_,h=>h
 |(_,_)::r,h1,h2=>by simp only[bZ,zz8] at h1 ⊢;exact ⟨h1.1,JB h1.2 h2⟩
theorem GK{p:Nat→Bool}{b:List (Nat×al)} : ∀ {a:List (Nat×al)},bB p a→bB p b→bB p (a++b)
 | [],_,h=>h
 |(_,_)::r,h1,h2=>by simp only[bB,zz8] at h1 ⊢;exact ⟨h1.1,GK h1.2 h2⟩
theorem kH.sub{v:I}{osL:List (Nat×al)}{ls:List cQ}(h:kH v osL ls){ts tsF:List (Nat×I)}{os osF:List (Nat×al)}(ht:bT ts ((9,v)::tsF))(hO:bZ os osF)(h9:aq os 9=aq osL 9)(hT:bU (ay osF) tsF)(hF:bB (ay osF) osF):bt (aC ts os) (aC ((9,v)::tsF) (osF++osL)):=by
 rcases h with ⟨rfl,ae,rfl⟩ | ⟨qs,rfl,rfl,hq⟩
 ·rw[zx2];refine bt.cF ht hO ⟨?_,hT⟩ hF;rcases ae with rfl | rfl <;>rfl
 ·have m:∀ n,ay osF n=true→ay (osF++[(9,al.box (.agg (ls.map enc++qs)))]) n=true:=fun n h=>by rw[Fv,h];rfl
  refine bt.cF ht (JB hO ⟨?_,trivial⟩) ⟨?_,GN m hT⟩ (GK (GM m hF) ⟨?_,trivial⟩)
  ·rw[h9];rfl
  ·show ay _ 9=true
   rw[Fv];simp[ay,aq]
  ·show (I.agg (ls.map enc++qs)).only _=true
   simp only[I.only];refine zG fun x hx =>?_;rcases zy6.1 hx with q | q
   ·obtain ⟨z,_,rfl⟩:=zx4.1 q;exact bg _ _
   ·exact (hq x q).2 _
def rU(l:List dW):bd 3 bN×List cQ:=jx 40 (os0,[]) (l.take 14)
def xf(l:List dW)(k:Nat):af:=aC [(0,enc l),(2,.ptr 2 []),(3,.nils 10),(4,.bool false),(5,.ptr 5 []),(6,.int .i64 (k:Int))] [(5,.box (mB k)),(2,.box fo)]
def Bv(l:List dW)(x:Nat×bd 3 bN×List cQ×I×List (Nat×al)):Prop:=x.1≤l.length∧x.1≤14∧kH x.2.2.2.1 x.2.2.2.2 x.2.2.1∧(∃ f,cY (dw x.2.1) f x.2.2.1 x.1)∧x.2.2.1.length≤x.1∧(x.2.1,x.2.2.1)=jx 40 (os0,[]) (l.take x.1)
theorem JQ{y:dW}(h:(enc y:I).wf):∀ x∈y.jr,-9223372036854775808≤x∧x≤9223372036854775807:=by
 have h2:(enc y.jr:I).wf:=by
  have:I.gr [.int .i64 y.kind,.int .i64 y.nr,.int .i64 y.dst,enc y.raw,enc y.jr]:=h;simp only[I.gr] at this;exact this.2.2.2.2.1
 exact fun x hx=>(JR x).1 (((wX y.jr).1 h2).2 x hx)
theorem cY.sz{o:Nat→bN}{f:Nat→Nat}{ls:List cQ}{j:Nat}(h:cY o f ls j)(hj:j≤60){i:Nat}(hi:i<3):(o i).cz.small∧(o i).wr.length≤4000000000000:=by
 have:=h.len hi;exact ⟨(h.iE i hi).small,by omega⟩
theorem tU:(fH 0 0 false dj).aN=Enc.aN cQ∧∀ p,(fH 0 0 false dj).only p=true:=⟨by simp only[fH,I.aN,I.cB,cM];rfl,fun p=>by simp[fH,I.only,I.bY,bg]⟩
theorem ag9{α:Type}[Enc α](A:af){l:List α}{esz k:Nat}(hs:Enc.sz α=esz)(h:k≤l.length):j9 A esz (some (.int .i64 (k:Int))) none none (enc l)=some (enc (l.drop k)):=by
 simp only[j9,hG,hs,if_true,jO,jj,zz3];rw[if_pos (by omega)];simp only[Option.isSome_none,zy0,false_and,if_false,zw8];rw[zv8 (by simp),List.map_drop]
theorem rA{l:List dW}{i:Nat}{o:bd 3 bN}{ls:List cQ}{ts:List (Nat×I)}{os:List (Nat×al)}{v:I}{S:List Nat}(hg:kc 10 v os ls S)(hS:∀ m∈S,m≠5∧m≠2∧m<1000000)(h5:aq os 5=some (.box (enc o)))(h2:aq os 2=some (.box fo))(ht:bT ts (jg l (i+1) v))(hlt:i<l.length)(h14:i<14)
  (hN:∃ f,cY (dw o) f ls (i+1)∧ls.length≤i+1) (hA:(o,ls)=jx 40 (os0,[]) (l.take (i+1))):∃ s',Bv l s'∧14-s'.1<14-i∧bt (aC ts os) (r4 l s'):=by
 obtain ⟨w,osL,q1,q2⟩:=NM hg hS h5 h2 ht;obtain ⟨f,n1,n2⟩:=hN;exact ⟨(i+1,o,ls,w,osL),⟨by simp only;omega,by simp only;omega,q1,⟨f,n1⟩,n2,hA⟩,by simp only;omega,q2⟩
theorem LY:(∀ x y z:Int,∀ t:List UInt8,fi [.agg [.int .i64 0,.int .i64 0],.int .i64 0,.int .i64 0,.int .i64 0,.agg [.int .i64 0,.int .i64 0],.ak ⟨#[]⟩] [(1,.int .i64 x),(2,.int .i64 y),(3,.int .i64 z),(5,enc (aH.of t))]=some [.agg [.int .i64 0,.int .i64 0],.int .i64 x,.int .i64 y,.int .i64 z,.agg [.int .i64 0,.int .i64 0],enc (aH.of t)]) ∧
  (∀ x y z:Int,∀ t:List UInt8,I.agg [.agg [.int .i64 0,.int .i64 0],.int .i64 x,.int .i64 y,.int .i64 z,.agg [.int .i64 0,.int .i64 0],enc (aH.of t)]=enc (⟨0,0,x,y,z,0,0,t⟩:ah)):=⟨fun _ _ _ _=>rfl,fun _ _ _ _=>rfl⟩
theorem L5:iO 1 (some [.ak ⟨#[]⟩,.ak ⟨#[111,102,32,97,32,98,101,97,115,116]⟩,.ak ⟨#[97,32,116,101,120,116,32,116,104,97,116,32,116,101,97,114,115,32,115,111,109,101,119,104,101,114,101,32,105,110,32,105,116,115,32,109,105,100,115,116]⟩])=some (enc (rN.map aH.of)):=xB (ys:=rN.map aH.of) 1 rfl
theorem adh{k:Int}(h:0≤k∧k<3):∀ A,jY A 1 k (enc (rN.map aH.of))=some (.ref (enc (aH.of (rL k)))):=by
 intro A;obtain ⟨k,rfl⟩:=zy2 h.1;have hk3:k<(rN.map aH.of).length:=by simp[rN];omega
 refine (gB 1 hk3 rfl).trans ?_;rw[List.getElem_map,rL,zw8,zz2,zz5 (by simpa using hk3)];rfl
theorem KE(l:List dW)(hl:l.length≤4000000000000)(hlp:∀ y∈l,y.jr.length≤100000000000000):aP Tryz.prog 68 [enc l] (.tuple [enc (rU l).1,enc (rU l).2,enc true]):=by
 refine aP.bM Tryz.func68 Ni OT Qv (t7 rfl) (fun hwf W0 bI E1 =>?_);simp only[CZ,Ib,bC];have hli:∀ y∈l,∀ x∈y.jr,-9223372036854775808≤x∧x≤9223372036854775807:=fun y hy=>JQ (((wX l).1 hwf.1).2 y hy);clear hwf;have R:=y6 @cJ (y6 @jH aw)
 repeat' ((first |(with_reducible refine .guard (fun hb =>?_) (fun hb =>?_) <;>try simp only[hb])|refine ab.aA (by decide +kernel) rfl fun K hK =>?_|(refine .av [0,2,3,4,5,6,7,8,9,10,11,12,13,14,15,16,17,18,19,20,21,22,23,24,25,27,36,48,60,98,103,122,131,136,153,166,175,189,201] hK ?_;clear hK K)|(with_reducible refine .done (hK _ ?_);clear hK K)|refine ab.of rfl ?_|(with_reducible refine ar.az (fun h =>?_) (fun h =>?_) <;>try simp only[h])) <;>try simp only[aB,R,simprocAttr])
 all_goals clear R
 refine ab.loop (xf l) (fun k=>k≤3) (fun k=>3-k) 0 (zv6 _) ?_ ?_
 ·simp only[xf];refine bt.cF ?_ ?_ ?_ ?_ <;>simp[bT,bZ,bU,bB,ay,bJ,dz,I.only,al.only,bg,jI,Gp]
  all_goals rfl
 intro k hk;simp only[xf];by_cases hk3:k<3
 ·have c1:decide ((k:Int)<3)=true:=decide_eq_true (by omega);have hkw:=eO (i:=k) (by omega);have f55:=KA (k:Int);have hn:td (k:Int)=(kr k,0):=by rw[td,if_pos (jE.2 (by omega))];rfl
  rw[hn] at f55;obtain ⟨x,y,z,h1,h2,h3,h4,h5,h6⟩:=aeG hk3;have hia:=fun (A:af) (h:A.o 5=some (.box (mB k)))=>adj h2 h3 h4 hk3 (h1▸h);clear h1;have R:=y6 @c1 (y6 @hkw (y6 @hia (y6 @h5 (y6 @h6 (y6 @cJ (y6 @jH aw))))))
  repeat' ((first |(with_reducible refine .guard (fun hb =>?_) (fun hb =>?_) <;>try simp only[hb])|refine ab.aA (by decide +kernel) rfl fun K hK =>?_|refine .lead _ (f55) ?_|(refine .av [0,2,3,4,5,6,7,8,9,10,11,12,13,14,15,16,17,18,19,20,21,22,23,24,25,27,36,48,60,98,103,122,131,136,153,166,175,189,201] hK ?_;clear hK K)|(with_reducible refine .done (hK _ ?_);clear hK K)|refine ab.of rfl ?_|(with_reducible refine ar.az (fun h =>?_) (fun h =>?_) <;>try simp only[h])) <;>try simp only[aB,R,simprocAttr])
  all_goals clear R
  refine ⟨k+1,by omega,by omega,?_⟩;refine bt.cF ?_ ?_ ?_ ?_ <;>simp[bT,bZ,bU,bB,ay,bJ,dz,I.only,al.only,bg,jI,Gp]
  all_goals rfl
 have hk':k=3:=by omega
 subst hk';have h3S:mB 3=enc os0:=rfl;rw[h3S];have R:=y6 @cJ (y6 @jH aw)
 repeat' ((first |(with_reducible refine .guard (fun hb =>?_) (fun hb =>?_) <;>try simp only[hb])|refine ab.aA (by decide +kernel) rfl fun K hK =>?_|(refine .av [0,2,3,4,5,6,7,8,9,10,11,12,13,14,15,16,17,18,19,20,21,22,23,24,25,27,36,48,60,98,103,122,131,136,153,166,175,189,201] hK ?_;clear hK K)|(with_reducible refine .done (hK _ ?_);clear hK K)|refine ab.of rfl ?_|(with_reducible refine ar.az (fun h =>?_) (fun h =>?_) <;>try simp only[h])) <;>try simp only[aB,R,decide_false,simprocAttr])
 all_goals clear R
 refine ab.loop (r4 l) (Bv l) (fun x=>14-x.1) (0,os0,[],.nils 10,[]) ⟨zv6 _,by decide,.inl ⟨rfl,.inr rfl,rfl⟩,⟨_,Gh⟩,zv6 _,rfl⟩ ?_ ?_
 ·simp only[r4,jg];refine bt.cF ?_ ?_ ?_ ?_ <;>simp[bT,bZ,bU,bB,ay,bJ,dz,I.only,al.only,bg,jI]
  all_goals rfl
 rintro ⟨i,o,ls,v,osL⟩ ⟨hi1,hi2,hLR,⟨f,hN⟩,hll,hA⟩;simp only at hi1 hi2 hLR hN hll hA;simp only[r4,jg];by_cases hx:i<l.length∧i<14
 rotate_left
 ·have he:rU l=(o,ls):=by
   rw[hA,rU]
   congr 1
   by_cases e:i<14
   ·rw[zv8 (by omega),zv8 (by omega)]
   ·have:i=14:=by omega
    rw[this]
  rw[he];refine ab.sub (bt.mr [9] 9 (x:=v) (y:=enc ls) (ts':=[(0,enc l),(2,.ptr 2 []),(5,.ptr 5 []),(9,enc ls),(10,.int .i64 (i:Int))]) (os':=[(5,.box (enc o)),(2,.box fo)]) rfl (hLR.bh (by simp[aq])) ?_ ?_ ?_ ?_ ?_) ?_
  ·rcases hLR with ⟨_,_,rfl⟩ | ⟨qs,_,rfl,hq⟩ <;>simp[dN,bB,al.only,bg,jI]
  ·simp[bT,hU,bJ,I.only,bg]
  ·rcases hLR with ⟨_,_,rfl⟩ | ⟨qs,_,rfl,hq⟩ <;>simp[bZ,dN,aq]
  ·simp[bU,ay,aq,I.only,bg]
  ·simp[bB,al.only,bg,jI]
  by_cases hB:i<l.length
  ·have c1:=ga hB;have c2:decide ((i:Int)<14)=false:=decide_eq_false (by omega);have R:=y6 @c1 (y6 @c2 (y6 @cJ (y6 @jH aw)))
   repeat' ((first |(with_reducible refine .guard (fun hb =>?_) (fun hb =>?_) <;>try simp only[hb])|refine ab.aA (by decide +kernel) rfl fun K hK =>?_|(refine .av [0,2,3,4,5,6,7,8,9,10,11,12,13,14,15,16,17,18,19,20,21,22,23,24,25,27,36,48,60,98,103,122,131,136,153,166,175,189,201] hK ?_;clear hK K)|(with_reducible refine .done (hK _ ?_);clear hK K)|refine ab.of rfl ?_|(with_reducible refine ar.az (fun h =>?_) (fun h =>?_) <;>try simp only[h])) <;>try simp only[aB,R,simprocAttr])
   all_goals clear R
   all_goals rfl
  ·have c1:=gM hB;have R:=y6 @c1 (y6 @cJ (y6 @jH aw))
   repeat' ((first |(with_reducible refine .guard (fun hb =>?_) (fun hb =>?_) <;>try simp only[hb])|refine ab.aA (by decide +kernel) rfl fun K hK =>?_|(refine .av [0,2,3,4,5,6,7,8,9,10,11,12,13,14,15,16,17,18,19,20,21,22,23,24,25,27,36,48,60,98,103,122,131,136,153,166,175,189,201] hK ?_;clear hK K)|(with_reducible refine .done (hK _ ?_);clear hK K)|refine ab.of rfl ?_|(with_reducible refine ar.az (fun h =>?_) (fun h =>?_) <;>try simp only[h])) <;>try simp only[aB,R,simprocAttr])
   all_goals clear R
   all_goals rfl
 obtain ⟨hlt,h14⟩:=hx;have c1:=ga hlt;have c2:decide ((i:Int)<14)=true:=decide_eq_true (by omega);have hiw:=eO (i:=i) (by omega);have he:=fun A=>gB (A:=A) 9 hlt rfl;have hyp:=hlp _ (zv4 hlt);have hyi:=hli _ (zv4 hlt);have hN':=cY.BC (y:=l[i]) (n:=40) hN (by omega) hll ⟨by decide,by decide⟩ hyi;have hA':(nZ 40 o ls l[i])=jx 40 (os0,[]) (l.take (i+1)):=by rw[lX hlt,BD,←hA]
 generalize l[i]=y at *;obtain ⟨k,dJ,ds,raw,pk⟩:=y;obtain ⟨a,b,c,d,e,rfl⟩:∃ a b c d e:Int,raw=⟨[a,b,c,d,e],rfl⟩:=by
  obtain ⟨l,h⟩:=raw
  match l,h with
  | [a,b,c,d,e],_=>exact ⟨a,b,c,d,e,rfl⟩
 simp only at hyp hyi;have f28m:=nW dJ 3 (by decide);have f28k:=nW k 8 (by decide);obtain ⟨hw3,hwm⟩:=zj ⟨k,dJ,ds,⟨[a,b,c,d,e],rfl⟩,pk⟩;have htE:oQ ⟨k,dJ,ds,⟨[a,b,c,d,e],rfl⟩,pk⟩=((jZ ⟨k,dJ,ds,⟨[a,b,c,d,e],rfl⟩,pk⟩:Int)+1+dD ds 2).tmod 3:=rfl;rw[nZ] at hN' hA';simp only at hN' hA' hwm;rw[hwm] at f28m;have htk:=JJ ⟨k,dJ,ds,⟨[a,b,c,d,e],rfl⟩,pk⟩;generalize oQ ⟨k,dJ,ds,⟨[a,b,c,d,e],rfl⟩,pk⟩=t at *;generalize jZ ⟨k,dJ,ds,⟨[a,b,c,d,e],rfl⟩,pk⟩=w at *;generalize dD k 8=kk at *;have n11:=hLR.no 11 (by decide);have n13:=hLR.no 13 (by decide);have n14:=hLR.no 14 (by decide);have n17:=hLR.no 17 (by decide);have n18:=hLR.no 18 (by decide);have n21:=hLR.no 21 (by decide);have n23:=hLR.no 23 (by decide);have n24:=hLR.no 24 (by decide);obtain ⟨g1,g2,g3⟩:=vU o hw3;obtain ⟨z1,z2⟩:=hN.sz (by omega) hw3;have R:=y6 @c1 (y6 @c2 (y6 @he (y6 @n11 (y6 @l9 (y6 @cJ (y6 @jH aw))))))
 repeat' ((first |(with_reducible refine .guard (fun hb =>?_) (fun hb =>?_) <;>try simp only[hb])|refine ab.aA (by decide +kernel) rfl fun K hK =>?_|refine .flat _ (f28m) rfl ?_|(refine .av [0,2,3,4,5,6,7,8,9,10,11,12,13,14,15,16,17,18,19,20,21,22,23,24,25,27,36,48,60,98,103,122,131,136,153,166,175,189,201] hK ?_;clear hK K)|(with_reducible refine .done (hK _ ?_);clear hK K)|refine ab.of rfl ?_|(with_reducible refine ar.az (fun h =>?_) (fun h =>?_) <;>try simp only[h])) <;>try simp only[aB,R,simprocAttr])
 all_goals clear R
 refine .flat _ f28k rfl ?_
 try simp only[aZ,simprocAttr]
 refine .av [0,2,5,9,10,11,12,60] hK ?_;clear hK K;generalize hy:(⟨k,dJ,ds,⟨[a,b,c,d,e],rfl⟩,pk⟩:dW)=y;refine ab.block ?_;refine ab.seq ?_;refine ab.AR (aC [(9,v),(0,enc l),(2,.ptr 2 []),(5,.ptr 5 []),(10,.int .i64 (i:Int)),(11,.ptr 11 []),(12,.int .i64 (w:Int)),(60,.int .i64 kk),(103,.bool (decide (kk=3∨kk=4)))] ((11,.box (enc y))::(5,.box (enc o))::(2,.box fo)::osL)) ?_ fun B hB=>ab.sub hB ?_
 ·by_cases e3:kk=3
  ·subst e3;have R:=aw
   repeat' ((first |(with_reducible refine .guard (fun hb =>?_) (fun hb =>?_) <;>try simp only[hb])|refine ab.aA (by decide +kernel) rfl fun K hK =>?_|(refine .av [0,2,3,4,5,6,7,8,9,10,11,12,13,14,15,16,17,18,19,20,21,22,23,24,25,27,36,48,60,98,103,122,131,136,153,166,175,189,201] hK ?_;clear hK K)|(with_reducible refine .done (hK _ ?_);clear hK K)|refine ab.of rfl ?_|(with_reducible refine ar.az (fun h =>?_) (fun h =>?_) <;>try simp only[h])) <;>try simp only[aB,R,simprocAttr])
   all_goals clear R
   refine hLR.sub (osF:=[(11,.box (enc y)),(5,.box (enc o)),(2,.box fo)]) ?_ ?_ ?_ ?_ ?_
   ·simp[bT,bJ]
   ·simp[bZ,aq]
   ·simp[aq]
   ·simp[bU,ay,aq,I.only,bg]
   ·simp[bB,al.only,bg,jI]
  ·have e3':(kk==3)=false:=by simpa using e3
   have e34:(kk==4)=decide (kk=3∨kk=4):=by by_cases h:kk=4 <;>simp[e3,h]
   have R:=y6 @e3' (y6 @e34 aw)
   repeat' ((first |(with_reducible refine .guard (fun hb =>?_) (fun hb =>?_) <;>try simp only[hb])|refine ab.aA (by decide +kernel) rfl fun K hK =>?_|(refine .av [0,2,3,4,5,6,7,8,9,10,11,12,13,14,15,16,17,18,19,20,21,22,23,24,25,27,36,48,60,98,103,122,131,136,153,166,175,189,201] hK ?_;clear hK K)|(with_reducible refine .done (hK _ ?_);clear hK K)|refine ab.of rfl ?_|(with_reducible refine ar.az (fun h =>?_) (fun h =>?_) <;>try simp only[h])) <;>try simp only[aB,R,simprocAttr])
   all_goals clear R
   refine hLR.sub (osF:=[(11,.box (enc y)),(5,.box (enc o)),(2,.box fo)]) ?_ ?_ ?_ ?_ ?_
   ·simp[bT,bJ]
   ·simp[bZ,aq]
   ·simp[aq]
   ·simp[bU,ay,aq,I.only,bg]
   ·simp[bB,al.only,bg,jI]
 by_cases k3:kk=3∨kk=4
 ·rw[if_pos k3] at hN' hA';rw[decide_eq_true k3];obtain ⟨m',s,ea,_⟩:=hN.BN hw3 htk.1 htk.2;have f59:=KC (dw o w) z1 z2 t;rw[ea] at f59 hN' hA';simp only at f59 hN' hA';have f28d:=nW ds 2 (by decide);have pd:=lJ ds (n:=2) (by decide);have hw1:IntKind.i64.wrap ((w:Int)+1)=(w:Int)+1:=eX _ (by omega) (by omega);have hw2:IntKind.i64.wrap ((w:Int)+1+dD ds 2)=(w:Int)+1+dD ds 2:=eX _ (by omega) (by omega);subst hy;have R:=y6 @hw1 (y6 @hw2 (y6 @sj (y6 @n13 (y6 @n14 (y6 @g1 (y6 @g2 (y6 @g3 (y6 @l9 (y6 @eY (y6 @cJ (y6 @jH aw)))))))))))
  repeat' ((first |(with_reducible refine .guard (fun hb =>?_) (fun hb =>?_) <;>try simp only[hb])|(refine ab.ik (gs:=yB) [10000028,10000059] [(13,[13]),(14,[14])] [0,1,2,3,4,5,6,7,8,9,10,11,12,13,14,15,16,17,18,19] (by decide +kernel) (dB.of (by simp[gn,bJ,kp,I.only])) fun K hK =>?_;simp only[gE,yB,zw6,zw7,R,simprocAttr])|refine ab.aA (by decide +kernel) rfl fun K hK =>?_|refine .flat _ (f28d) rfl ?_|refine .lead _ (f59) ?_|(refine .av [0,2,3,4,5,6,7,8,9,10,11,12,13,14,15,16,17,18,19,20,21,22,23,24,25,27,36,48,60,98,103,122,131,136,153,166,175,189,201] hK ?_;clear hK K)|(with_reducible refine .done (hK _ ?_);clear hK K)|refine ab.of rfl ?_|(with_reducible refine ar.az (fun h =>?_) (fun h =>?_) <;>try simp only[h])) <;>try simp only[aB,R,←htE,simprocAttr])
  all_goals clear R
  refine aY.kl _ tU (ys:=[s]) rfl (hLR.kl (by simp[aq])) (by simp[aq,hLR.no 130 (by decide)]) (by simp only[List.length_singleton];omega) (by simp only[List.length_singleton];unfold maxLen;omega) fun v' os' hg ho =>?_
  try simp only[aZ,simprocAttr]
  refine .done (hK _ ?_);clear hK K;have R:=y6 @hiw aw
  repeat' ((first |(with_reducible refine .guard (fun hb =>?_) (fun hb =>?_) <;>try simp only[hb])|refine ab.aA (by decide +kernel) rfl fun K hK =>?_|(refine .av [0,2,3,4,5,6,7,8,9,10,11,12,13,14,15,16,17,18,19,20,21,22,23,24,25,27,36,48,60,98,103,122,131,136,153,166,175,189,201] hK ?_;clear hK K)|(with_reducible refine .done (hK _ ?_);clear hK K)|refine ab.of rfl ?_|(with_reducible refine ar.az (fun h =>?_) (fun h =>?_) <;>try simp only[h])) <;>try simp only[aB,R,simprocAttr])
  all_goals clear R
  exact rA hg (fun m hm=>by simp at hm;omega) (by rw[ho 5 (by decide)];simp[aq]) (by rw[ho 2 (by decide)];simp[aq]) (by simp[jg,bT,bJ]) hlt h14 hN' hA'
 rw[if_neg k3] at hN' hA';rw[decide_eq_false k3];refine ab.of rfl ?_
 try simp only[aB,aZ,simprocAttr]
 refine ab.seq ?_;refine ab.AR (aC [(9,v),(0,enc l),(2,.ptr 2 []),(5,.ptr 5 []),(10,.int .i64 (i:Int)),(11,.ptr 11 []),(12,.int .i64 (w:Int)),(60,.int .i64 kk),(131,.bool (decide (kk=5∨kk=6)))] ((11,.box (enc y))::(5,.box (enc o))::(2,.box fo)::osL)) ?_ fun B hB=>ab.sub hB ?_
 ·by_cases e3:kk=5
  ·subst e3;have R:=aw
   repeat' ((first |(with_reducible refine .guard (fun hb =>?_) (fun hb =>?_) <;>try simp only[hb])|refine ab.aA (by decide +kernel) rfl fun K hK =>?_|(refine .av [0,2,3,4,5,6,7,8,9,10,11,12,13,14,15,16,17,18,19,20,21,22,23,24,25,27,36,48,60,98,103,122,131,136,153,166,175,189,201] hK ?_;clear hK K)|(with_reducible refine .done (hK _ ?_);clear hK K)|refine ab.of rfl ?_|(with_reducible refine ar.az (fun h =>?_) (fun h =>?_) <;>try simp only[h])) <;>try simp only[aB,R,simprocAttr])
   all_goals clear R
   refine hLR.sub (osF:=[(11,.box (enc y)),(5,.box (enc o)),(2,.box fo)]) ?_ ?_ ?_ ?_ ?_
   ·simp[bT,bJ]
   ·simp[bZ,aq]
   ·simp[aq]
   ·simp[bU,ay,aq,I.only,bg]
   ·simp[bB,al.only,bg,jI]
  ·have e3':(kk==5)=false:=by simpa using e3
   have e34:(kk==6)=decide (kk=5∨kk=6):=by by_cases h:kk=6 <;>simp[e3,h]
   have R:=y6 @e3' (y6 @e34 aw)
   repeat' ((first |(with_reducible refine .guard (fun hb =>?_) (fun hb =>?_) <;>try simp only[hb])|refine ab.aA (by decide +kernel) rfl fun K hK =>?_|(refine .av [0,2,3,4,5,6,7,8,9,10,11,12,13,14,15,16,17,18,19,20,21,22,23,24,25,27,36,48,60,98,103,122,131,136,153,166,175,189,201] hK ?_;clear hK K)|(with_reducible refine .done (hK _ ?_);clear hK K)|refine ab.of rfl ?_|(with_reducible refine ar.az (fun h =>?_) (fun h =>?_) <;>try simp only[h])) <;>try simp only[aB,R,simprocAttr])
   all_goals clear R
   refine hLR.sub (osF:=[(11,.box (enc y)),(5,.box (enc o)),(2,.box fo)]) ?_ ?_ ?_ ?_ ?_
   ·simp[bT,bJ]
   ·simp[bZ,aq]
   ·simp[aq]
   ·simp[bU,ay,aq,I.only,bg]
   ·simp[bB,al.only,bg,jI]
 by_cases k5:kk=5∨kk=6
 ·rw[if_pos k5] at hN' hA';rw[decide_eq_true k5];have hlen:=hLR.len;by_cases hls:ls=[]
  ·rw[if_pos hls] at hN' hA';have q0:((ls.length:Int)==0)=true:=by rw[hls];rfl
   have hg:kc 10 v ((11,al.box (enc y))::(5,.box (enc o))::(2,.box fo)::osL) ls [9]:=hLR.kl (by simp[aq]);have R:=y6 @hlen (y6 @q0 (y6 @hiw aw))
   repeat' ((first |(with_reducible refine .guard (fun hb =>?_) (fun hb =>?_) <;>try simp only[hb])|refine ab.aA (by decide +kernel) rfl fun K hK =>?_|(refine .av [0,2,3,4,5,6,7,8,9,10,11,12,13,14,15,16,17,18,19,20,21,22,23,24,25,27,36,48,60,98,103,122,131,136,153,166,175,189,201] hK ?_;clear hK K)|(with_reducible refine .done (hK _ ?_);clear hK K)|refine ab.of rfl ?_|(with_reducible refine ar.az (fun h =>?_) (fun h =>?_) <;>try simp only[h])) <;>try simp only[aB,R,simprocAttr])
   all_goals clear R
   exact rA hg (fun m hm=>by simp at hm;omega) (by simp[aq]) (by simp[aq]) (by simp[jg,bT,bJ]) hlt h14 hN' hA'
  rw[if_neg hls] at hN' hA';have hp0:=zv2.2 hls;have hpk:=G1 (y:=⟨k,dJ,ds,⟨[a,b,c,d,e],rfl⟩,pk⟩) hN hls;simp only at hpk;have pq:=lJ ds (n:=(ls.length:Int)) ⟨by omega,by omega⟩;have f28l:=nW ds (ls.length:Int) (by omega);obtain ⟨q,hq⟩:=zy2 pq.1;rw[hq] at f28l hpk hN' hA';rw[zw8] at hpk hN' hA';rcases hpk with ⟨hq1,hs⟩ | hb
  rotate_left
  ·exact absurd hb (by omega)
  have hxe:(ls.map (enc (α:=cQ)))[q]?=some (enc (ls.getD q lH)):=by
   rw[zx8,zz2,zz5 hq1];rfl
  generalize ls.getD q lH=x at *;obtain ⟨av,hdn⟩:=zy2 hs.dst.1;have hd3:av<3:=by have:=hs.dst;omega
  obtain ⟨m',bl,g,ea,hb1,_,_⟩:=hN.IJ (by omega) hs;rw[hdn,zw8] at ea hN' hA';obtain ⟨g1',g2',g3'⟩:=vU o hd3;obtain ⟨z1',z2'⟩:=hN.sz (by omega) hd3;have f61:=KD (dw o av) z1' z2' x (by have:=hs.len;omega);rw[ea] at f61 hN' hA';simp only at f61 hN' hA';have u0:decide ((av:Int)<0)=false:=decide_eq_false (by omega);have u2:decide ((av:Int)>2)=false:=decide_eq_false (by omega);have q0:((ls.length:Int)==0)=false:=beq_eq_false_iff_ne.2 (by omega);have ht1:(ls.take q).length=q:=by rw[zz6];omega
  have ht2:(ls.drop (q+1)).length=ls.length-(q+1):=zv3;have hqw:=eO (i:=q) (by omega);rcases id hLR with ⟨h0,_⟩ | ⟨qs,rfl,rfl,hqs⟩
  ·exact absurd h0 hls
  have hisv:∀ A:af,A.o 9=some (.box (.agg (ls.map enc++qs)))→jY A 10 (q:Int) (.view 9 [] 10 0 ls.length)=some (.ptr 9 [q]):=fun A h=>by
   rw[vp,h]
   show mw 9 [] 10 0 ls.length 10 q (some (ls.map enc++qs))=_
   simp only[mw];rw[if_pos ⟨trivial,by omega,by omega⟩];simp
  have hat9:(I.agg (ls.map enc++qs)).at [q]=some (enc x):=by
   have e1:(I.agg (ls.map enc++qs)).at [q]=od [] (ls.map enc++qs)[q]?:=rfl;rw[e1,zx0 (by simpa using hq1),hxe];exact jy _
  by_cases hev:dJ.tmod 2=0
  ·rw[if_pos hev] at hN' hA';have hev':(dJ.tmod 2==0)=true:=by simpa using hev
   subst hy;have R:=y6 @hlen (y6 @q0 (y6 @hisv (y6 @hat9 (y6 @hdn (y6 @u0 (y6 @u2 (y6 @hev' (y6 @n17 (y6 @n18 (y6 @g1' (y6 @g2' (y6 @g3' (y6 @l9 (y6 @eY (y6 @cJ (y6 @jH aw))))))))))))))))
   repeat' ((first |(with_reducible refine .guard (fun hb =>?_) (fun hb =>?_) <;>try simp only[hb])|(refine ab.ik (gs:=sG) [10000061] [(18,[18])] [0,1,2,3,4,5,6,7,8,9,10,11,12,13] (by decide +kernel) (dB.of (by simp[gn,bJ,kp,I.only])) fun K hK =>?_;simp only[gE,sG,zw6,zw7,R,simprocAttr])|refine ab.aA (by decide +kernel) rfl fun K hK =>?_|refine .flat _ (f28l) rfl ?_|refine .lead _ (f61) ?_|(refine .av [0,2,3,4,5,6,7,8,9,10,11,12,13,14,15,16,17,18,19,20,21,22,23,24,25,27,36,48,60,98,103,122,131,136,153,166,175,189,201] hK ?_;clear hK K)|(with_reducible refine .done (hK _ ?_);clear hK K)|refine ab.of rfl ?_|(with_reducible refine ar.az (fun h =>?_) (fun h =>?_) <;>try simp only[h])) <;>try simp only[aB,R,simprocAttr])
   all_goals clear R
   refine ab.sub (bt.mr [9] 9 (x:=.view 9 [] 10 0 ls.length) (y:=enc ls) (ts':=[(0,enc l),(2,.ptr 2 []),(5,.ptr 5 []),(9,enc ls),(10,.int .i64 (i:Int)),(16,.int .i64 (q:Int)),(19,enc bl)]) (os':=[(5,.box (enc (oM o av m'))),(2,.box fo)]) rfl (hLR.bh (by simp[aq])) ?_ ?_ ?_ ?_ ?_) ?_
   ·simp[dN,bB,al.only,I.only,I.bY,bg,jI,dn,fH]
   ·simp[bT,hU,bJ,I.only,bg]
   ·simp[bZ,dN,aq]
   ·simp[bU,ay,aq,I.only,bg]
   ·simp[bB,al.only,bg,jI]
   have s1:=fun A=>wH A (l:=ls) (esz:=10) (k:=q) rfl (by omega);have s2:=fun A=>ag9 A (l:=ls) (esz:=10) (k:=q+1) rfl (by omega);have R:=y6 @s1 (y6 @s2 (y6 @hqw (y6 @l9 (y6 @eY (y6 @cJ (y6 @jH (y6 @fM aw)))))))
   repeat' ((first |(with_reducible refine .guard (fun hb =>?_) (fun hb =>?_) <;>try simp only[hb])|refine ab.aA (by decide +kernel) rfl fun K hK =>?_|(refine ab.ik (gs:=yC) [] [(176,[])] [0,1,2,3,5,6,7,8,4,9,10] (by decide +kernel) (dB.of (by simp[gn,bJ,kp,I.only])) fun K hK =>?_;simp only[gE,yC,zw6,zw7,R,zw2,simprocAttr])|(refine .av [0,2,3,4,5,6,7,8,9,10,11,12,13,14,15,16,17,18,19,20,21,22,23,24,25,27,36,48,60,98,103,122,131,136,153,166,175,189,201] hK ?_;clear hK K)|(with_reducible refine .done (hK _ ?_);clear hK K)|refine ab.of rfl ?_|(with_reducible refine ar.az (fun h =>?_) (fun h =>?_) <;>try simp only[h])) <;>try simp only[aB,R,zw2,zy5,simprocAttr])
   all_goals clear R
   refine bQ.kl _ tU (ys:=ls.take q) rfl (ada _ []) (by simp[aq]) (by simp only[zv1];omega) (by simp only[zv1];unfold maxLen;omega) fun v1 os1 hg1 ho1 =>?_;rw[zy3] at hg1
   try simp only[aZ,simprocAttr]
   refine bQ.kl _ tU (ys:=ls.drop (q+1)) rfl hg1 (by rw[ho1 185 (by decide)];simp[aq]) (by omega) (by unfold maxLen;omega) fun v2 os2 hg2 ho2 =>?_
   try simp only[aZ,simprocAttr]
   refine .av [0,2,5,9,10,11,12,16,19] hK ?_;clear hK K;have R:=aw
   repeat' ((first |(with_reducible refine .guard (fun hb =>?_) (fun hb =>?_) <;>try simp only[hb])|refine ab.aA (by decide +kernel) rfl fun K hK =>?_|(refine .av [0,2,3,4,5,6,7,8,9,10,11,12,13,14,15,16,17,18,19,20,21,22,23,24,25,27,36,48,60,98,103,122,131,136,153,166,175,189,201] hK ?_;clear hK K)|(with_reducible refine .done (hK _ ?_);clear hK K)|refine ab.of rfl ?_|(with_reducible refine ar.az (fun h =>?_) (fun h =>?_) <;>try simp only[h])) <;>try simp only[aB,R,simprocAttr])
   all_goals clear R
   refine aY.kl _ tU (ys:=bl) rfl hg2 (by rw[ho2 188 (by decide),ho1 188 (by decide)];simp[aq]) (by simp only[zz1];omega) (by simp only[zz1];unfold maxLen;omega) fun v' os' hg ho =>?_
   try simp only[aZ,simprocAttr]
   refine .done (hK _ ?_);clear hK K;have R:=y6 @hiw aw
   repeat' ((first |(with_reducible refine .guard (fun hb =>?_) (fun hb =>?_) <;>try simp only[hb])|refine ab.aA (by decide +kernel) rfl fun K hK =>?_|(refine .av [0,2,3,4,5,6,7,8,9,10,11,12,13,14,15,16,17,18,19,20,21,22,23,24,25,27,36,48,60,98,103,122,131,136,153,166,175,189,201] hK ?_;clear hK K)|(with_reducible refine .done (hK _ ?_);clear hK K)|refine ab.of rfl ?_|(with_reducible refine ar.az (fun h =>?_) (fun h =>?_) <;>try simp only[h])) <;>try simp only[aB,R,simprocAttr])
   all_goals clear R
   exact rA hg (fun m hm=>by simp at hm;omega) (by rw[ho 5 (by decide),ho2 5 (by decide),ho1 5 (by decide)];simp[aq]) (by rw[ho 2 (by decide),ho2 2 (by decide),ho1 2 (by decide)];simp[aq]) (by simp[jg,bT,bJ]) hlt h14 hN' hA'
  ·rw[if_neg hev] at hN' hA';have hev':(dJ.tmod 2==0)=false:=beq_eq_false_iff_ne.2 hev;subst hy;have R:=y6 @hlen (y6 @q0 (y6 @hisv (y6 @hat9 (y6 @hdn (y6 @u0 (y6 @u2 (y6 @hev' (y6 @n17 (y6 @n18 (y6 @g1' (y6 @g2' (y6 @g3' (y6 @l9 (y6 @eY (y6 @cJ (y6 @jH aw))))))))))))))))
   repeat' ((first |(with_reducible refine .guard (fun hb =>?_) (fun hb =>?_) <;>try simp only[hb])|(refine ab.ik (gs:=sG) [10000061] [(18,[18])] [0,1,2,3,4,5,6,7,8,9,10,11,12,13] (by decide +kernel) (dB.of (by simp[gn,bJ,kp,I.only])) fun K hK =>?_;simp only[gE,sG,zw6,zw7,R,simprocAttr])|refine ab.aA (by decide +kernel) rfl fun K hK =>?_|refine .flat _ (f28l) rfl ?_|refine .lead _ (f61) ?_|(refine .av [0,2,3,4,5,6,7,8,9,10,11,12,13,14,15,16,17,18,19,20,21,22,23,24,25,27,36,48,60,98,103,122,131,136,153,166,175,189,201] hK ?_;clear hK K)|(with_reducible refine .done (hK _ ?_);clear hK K)|refine ab.of rfl ?_|(with_reducible refine ar.az (fun h =>?_) (fun h =>?_) <;>try simp only[h])) <;>try simp only[aB,R,simprocAttr])
   all_goals clear R
   refine aY.kl _ tU (ys:=bl) rfl (hLR.kl (by simp[aq])) (by simp[aq]) (by omega) (by unfold maxLen;omega) fun v' os' hg ho =>?_
   try simp only[aZ,simprocAttr]
   refine .done (hK _ ?_);clear hK K;have R:=y6 @hiw aw
   repeat' ((first |(with_reducible refine .guard (fun hb =>?_) (fun hb =>?_) <;>try simp only[hb])|refine ab.aA (by decide +kernel) rfl fun K hK =>?_|(refine .av [0,2,3,4,5,6,7,8,9,10,11,12,13,14,15,16,17,18,19,20,21,22,23,24,25,27,36,48,60,98,103,122,131,136,153,166,175,189,201] hK ?_;clear hK K)|(with_reducible refine .done (hK _ ?_);clear hK K)|refine ab.of rfl ?_|(with_reducible refine ar.az (fun h =>?_) (fun h =>?_) <;>try simp only[h])) <;>try simp only[aB,R,simprocAttr])
   all_goals clear R
   exact rA hg (fun m hm=>by simp at hm;omega) (by rw[ho 5 (by decide)];simp[aq]) (by rw[ho 2 (by decide)];simp[aq]) (by simp[jg,bT,bJ]) hlt h14 hN' hA'
 rw[if_neg k5] at hN' hA';rw[decide_eq_false k5];subst hy;by_cases k7:kk=7
 ·rw[if_pos k7] at hN' hA';subst k7;obtain ⟨m',g,ea,_⟩:=hN.rest hw3 hyi;have f63:=Bj (dw o w) z1 z2 pk hyp hyi;rw[ea] at f63 hN' hA';simp only at f63 hN' hA';have okp:bS none (enc pk)=true:=rfl;have R:=y6 @okp (y6 @hiw (y6 @n21 (y6 @g1 (y6 @g2 (y6 @g3 (y6 @l9 (y6 @eY (y6 @cJ (y6 @jH aw)))))))))
  repeat' ((first |(with_reducible refine .guard (fun hb =>?_) (fun hb =>?_) <;>try simp only[hb])|(refine ab.ik (gs:=yD) [10000063] [(21,[21])] [0,1,2,3,4,5,6,7,8,9,10,11] (by decide +kernel) (dB.of (by simp[gn,bJ,kp,I.only])) fun K hK =>?_;simp only[gE,yD,zw6,zw7,R,simprocAttr])|refine ab.aA (by decide +kernel) rfl fun K hK =>?_|refine .lead _ (f63) ?_|(refine .av [0,2,3,4,5,6,7,8,9,10,11,12,13,14,15,16,17,18,19,20,21,22,23,24,25,27,36,48,60,98,103,122,131,136,153,166,175,189,201] hK ?_;clear hK K)|(with_reducible refine .done (hK _ ?_);clear hK K)|refine ab.of rfl ?_|(with_reducible refine ar.az (fun h =>?_) (fun h =>?_) <;>try simp only[h])) <;>try simp only[aB,R,simprocAttr])
  all_goals clear R
  exact rA (hLR.kl (by simp[aq])) (fun m hm=>by simp at hm;omega) (by simp[aq]) (by simp[aq]) (by simp[jg,bT,bJ]) hlt h14 hN' hA'
 rw[if_neg k7] at hN' hA';have k7':(kk==7)=false:=by simpa using k7
 obtain ⟨m',ea,_⟩:=hN.Gm (by omega) hw3 (IH (n:=40) ⟨by decide,by decide⟩ ⟨[a,b,c,d,e],rfl⟩);have hmn:(gQ (dw o w) (nE 40 ⟨[a,b,c,d,e],rfl⟩)).aI=(w:Int):=hN.bE w hw3;have f57:=KB (dw o w) z1 z2 (nE 40 ⟨[a,b,c,d,e],rfl⟩);rw[ea] at f57 hN' hA';simp only at f57 hN' hA';generalize gQ (dw o w) (nE 40 ⟨[a,b,c,d,e],rfl⟩)=ja at *;have hrc:nE 40 ⟨[a,b,c,d,e],rfl⟩=⟨0,0,1+dD b 40,dD c 50,dD d 50,0,0,rL (dD e 3)⟩:=rfl;rw[hrc] at f57;have f28b:=nW b 40 (by decide);have f28c:=nW c 50 (by decide);have f28d:=nW d 50 (by decide);have f28e:=nW e 3 (by decide);have pb:=lJ b (n:=40) (by decide);have htx:=adh (lJ e (n:=3) (by decide));have hwb:IntKind.i64.wrap (1+dD b 40)=1+dD b 40:=eX _ (by omega) (by omega);have i1:=fun (A:af) (h:A.o 11=some (.box (enc (⟨k,dJ,ds,⟨[a,b,c,d,e],rfl⟩,pk⟩:dW))))=>(vg h).1;have i2:=fun (A:af) (h:A.o 11=some (.box (enc (⟨k,dJ,ds,⟨[a,b,c,d,e],rfl⟩,pk⟩:dW))))=>(vg h).2.1;have i3:=fun (A:af) (h:A.o 11=some (.box (enc (⟨k,dJ,ds,⟨[a,b,c,d,e],rfl⟩,pk⟩:dW))))=>(vg h).2.2.1;have i4:=fun (A:af) (h:A.o 11=some (.box (enc (⟨k,dJ,ds,⟨[a,b,c,d,e],rfl⟩,pk⟩:dW))))=>(vg h).2.2.2;have ad:=Lt k dJ ds a b c d e pk;have hne:((w:Int) != (w:Int))=false:=by simp
 generalize dD b 40=b' at *;generalize dD c 50=c' at *;generalize dD d 50=d' at *;generalize dD e 3=e' at *;generalize rL e'=tx at *;have R:=y6 @k7' (y6 @hiw (y6 @hmn (y6 @hne (y6 @hwb (y6 @htx (y6 @L5 (y6 @LY (y6 @i1 (y6 @i2 (y6 @i3 (y6 @i4 (y6 @ad (y6 @n23 (y6 @n24 (y6 @g1 (y6 @g2 (y6 @g3 (y6 @l9 (y6 @fb (y6 @wP (y6 @fB (y6 @eY (y6 @cJ (y6 @jH aw))))))))))))))))))))))))
 repeat' ((first |(with_reducible refine .guard (fun hb =>?_) (fun hb =>?_) <;>try simp only[hb])|(refine ab.ik (gs:=yE) [10000028,10000057] [(23,[23]),(24,[24])] [0,1,2,3,4,5,8,9,10,12,13,14,16,17,18,19,6,7,11,15,20,21,22,23,24,25,26,27,28,29,30,31,32,33] (by decide +kernel) (dB.of (by simp[gn,bJ,kp,I.only])) fun K hK =>?_;simp only[gE,yE,zw6,zw7,R,simprocAttr])|refine ab.aA (by decide +kernel) rfl fun K hK =>?_|refine .flat _ (f28b) rfl ?_|refine .flat _ (f28c) rfl ?_|refine .flat _ (f28d) rfl ?_|refine .flat _ (f28e) rfl ?_|refine .lead _ (f57) ?_|(refine .av [0,2,3,4,5,6,7,8,9,10,11,12,13,14,15,16,17,18,19,20,21,22,23,24,25,27,36,48,60,98,103,122,131,136,153,166,175,189,201] hK ?_;clear hK K)|(with_reducible refine .done (hK _ ?_);clear hK K)|refine ab.of rfl ?_|(with_reducible refine ar.az (fun h =>?_) (fun h =>?_) <;>try simp only[h])) <;>try simp only[aB,R,simprocAttr])
 all_goals clear R
 exact rA (hLR.kl (by simp[aq])) (fun m hm=>by simp at hm;omega) (by simp[aq]) (by simp[aq]) (by simp[jg,bT,bJ]) hlt h14 hN' hA'
theorem DC{w:List ah}(hw:cS [] w=true):cX (cC w)=cX w:=by
 have e:∀ m,bR (cC w) m=bR w m:=fun m=>(mN hw).2.1.countP_eq _;simp only[cX,e]
theorem cY.all(n:Int)(hn:1≤n∧n≤40):∀ (l:List dW) (o:bd 3 bN) (ls:List cQ) (f:Nat→Nat) (j:Nat),cY (dw o) f ls j→ls.length≤j→j+l.length≤60→(∀ y∈l,∀ x∈y.jr,-9223372036854775808≤x∧x≤9223372036854775807) →
  ∃ f',cY (dw (jx n (o,ls) l).1) f' (jx n (o,ls) l).2 (j+l.length)∧(jx n (o,ls) l).2.length≤j+l.length
 | [],o,ls,f,j,h,hl,_,_=>⟨f,h,hl⟩
 |y::l,o,ls,f,j,h,hl,hj,hp=>by
  simp only[zx5] at hj;obtain ⟨f1,h1,h2⟩:=h.BC (y:=y) (by omega) hl hn (hp y zw9);obtain ⟨f2,h3,h4⟩:=cY.all n hn l _ _ f1 (j+1) h1 h2 (by omega) fun z hz=>hp z (zu7 _ hz);have e:j+(y::l).length=j+1+l.length:=by rw[zx5];omega
  rw[e,jx];exact ⟨f2,h3,h4⟩
theorem adK{o:Nat→bN}{f:Nat→Nat}{ls:List cQ}{j:Nat}(h:cY o f ls j){k i n:Nat}(hk:k<3)(hi:i<3)(hn:f i≤n)(x:Nat):gP (o k) i x≤bR (o i).wr (x:Nat)∧gP (o k) i x≤bR ((o i).wr.take n) (x:Nat):=by
 have h1:=(h.cj k hk i x).2;rw[if_pos hi] at h1;have h2:bR (fh o f i) (x:Nat)≤bR ((o i).wr.take n) (x:Nat):=sr (List.take_prefix_take_left hn) _;have h3:bR (fh o f i) (x:Nat)≤bR (o i).wr (x:Nat):=xO i _;exact ⟨Int.le_trans h1 (Int.ofNat_le.2 h3),Int.le_trans h1 (Int.ofNat_le.2 h2)⟩
theorem vT(o:bd 3 bN){k:Nat}(hk:k<3)(q:List Nat):(enc o:I).at (k::q)=(enc (dw o k):I).at q:=by
 have hg:o.l[k]'(o.lt hk)=dw o k:=by rw[dw,zz2,zz5 (o.lt hk)];rfl
 have e1:(enc o:I).at (k::q)=iv k q (some (o.l.map enc)):=sf _ _ _;rw[e1,o8 (x:=o) hk,hg]
theorem FF(k:bd 6 (bd 6 Int)){i:Nat}(hi:i<6)(q:List Nat):(enc k:I).at (i::q)=(enc (k.at i dj):I).at q:=by
 have hg:k.l[i]'(k.lt hi)=k.at i dj:=by rw[bd.at,zz2,zz5 (k.lt hi)];rfl
 have e1:(enc k:I).at (i::q)=iv i q (some (k.l.map enc)):=sf _ _ _;rw[e1,o8 (x:=k) hi,hg]
theorem xr(h:bd 6 Int){i:Nat}(hi:i<6):(enc h:I).at [i]=some (.int .i64 (h.g i)):=by
 have e1:(enc h:I).at [i]=iv i [] (some (h.l.map enc)):=sf _ _ _;rw[e1,mb h hi,jy]
theorem Gu(m:bN)(q:List Nat):(enc m:I).at (3::q)=(enc m.cj:I).at q:=by
 rw[sf];rfl
theorem ahh:(∀ A n b rest (q:iL),de A (some 1) n [] b (enc q) rest (some (.agg [.nils 8]))=au rest (A.aM n (.box (enc q))))∧(∀ q:iL,bS (some 1) (enc q)=true) :=
 ⟨fun A n b rest q=>by rw[dS (s:=some 1) (v:=enc q) (old:=.agg [.nils 8]) (dH _) rfl rfl,ez],fun _=>rfl⟩
theorem Ka(l:List dW)(hl:l.length≤4000000000000)(hlp:∀ y∈l,y.jr.length≤100000000000000)(p:List Int)(hp:p.length≤100000000000000):aP Tryz.prog 13 [enc l,enc p] (enc true):=by
 refine aP.bM Tryz.func13 Ms N7 PM (t7 rfl) (fun hwf W0 bI E1 =>?_);simp only[Ck,Hq,bC,zz4];have hpi:∀ x∈p,-9223372036854775808≤x∧x≤9223372036854775807:=fun x hx=>(JR x).1 (((wX p).1 hwf.2.1).2 x hx);have hli:∀ y∈l,∀ x∈y.jr,-9223372036854775808≤x∧x≤9223372036854775807:=fun y hy=>JQ (((wX l).1 hwf.1).2 y hy);clear hwf;have f68:=KE l hl hlp;have hlt:(l.take 14).length≤14:=by rw[zz6];omega
 obtain ⟨f,hN,hll⟩:=cY.all 40 ⟨by decide,by decide⟩ (l.take 14) os0 [] _ 0 Gh (zv6 _) (by omega) fun y hy=>hli y (zx9 hy);obtain ⟨A,hA⟩:∃ A,A=rU l:=⟨_,rfl⟩
 have hA':jx 40 (os0,[]) (l.take 14)=A:=hA.symm;rw[hA'] at hN hll;rw[←hA] at f68;clear hA hA';obtain ⟨o,ls⟩:=A;simp only at hN hll f68;have hN:=hN.eE (j':=14) (by omega);have uy:decide ((ls.length:Int)>100)=false:=decide_eq_false (by omega);have R:=y6 @uy (y6 @l9 (y6 @cJ (y6 @jH aw)))
 repeat' ((first |(with_reducible refine .guard (fun hb =>?_) (fun hb =>?_) <;>try simp only[hb])|refine ab.aA (by decide +kernel) rfl fun K hK =>?_|refine .flat _ (Ki) rfl ?_|refine .lead _ (f68) ?_|(refine .av [0,1,4,5,6,7,8,9,10,11,12,13,14,15,16,17,18,19,20,21,39,41,93,95,99,127] hK ?_;clear hK K)|(with_reducible refine .done (hK _ ?_);clear hK K)|refine ab.of rfl ?_|(with_reducible refine ar.az (fun h =>?_) (fun h =>?_) <;>try simp only[h])) <;>try simp only[aB,R,simprocAttr])
 all_goals clear R
 refine ab.loop (fun i:Nat=>aC [(1,enc p),(6,.ptr 6 []),(9,.int .i64 (i:Int))] [(6,.box (enc o))]) (fun i=>i≤3) (fun i=>3-i) 0 (zv6 _) ?_ ?_
 ·refine bt.cF ?_ ?_ ?_ ?_ <;>simp[bT,bZ,bU,bB,ay,bJ,dz,I.only,al.only,bg]
  all_goals rfl
 intro i hi;by_cases hi3:i<3
 rotate_left
 ·have:i=3:=by omega
  subst this;have R:=aw
  repeat' ((first |(with_reducible refine .guard (fun hb =>?_) (fun hb =>?_) <;>try simp only[hb])|refine ab.aA (by decide +kernel) rfl fun K hK =>?_|(refine .av [0,1,4,5,6,7,8,9,10,11,12,13,14,15,16,17,18,19,20,21,39,41,93,95,99,127] hK ?_;clear hK K)|(with_reducible refine .done (hK _ ?_);clear hK K)|refine ab.of rfl ?_|(with_reducible refine ar.az (fun h =>?_) (fun h =>?_) <;>try simp only[h])) <;>try simp only[aB,R,decide_false,simprocAttr])
  all_goals clear R
  all_goals rfl
 have c1:decide ((i:Int)<3)=true:=decide_eq_true (by omega);have hiw:=eO (i:=i) (by omega);have g1:∀ A:af,A.o 6=some (.box (enc o))→fY A 3 42 (i:Int) (.ptr 6 [])=some (.ptr 6 [i]):=fun A h=>nm (p:=[]) (x:=o) h rfl rfl hi3;have g2:=(vU o hi3).2.1;have g4:(enc o:I).at [i,2]=some (enc (dw o i).wr):=(vT o hi3 [2]).trans rfl;obtain ⟨z1,z2⟩:=hN.sz (by omega) hi3;obtain ⟨m,n,e,n1,n2,hmw,hN2⟩:=hN.rest hi3 hpi;have f63:=Bj (dw o i) z1 z2 p hp hpi;rw[e] at f63;have hw:=(hN.iE i hi3).gu;have hw2:=(hN2.iE i hi3).gu;rw[kb] at hw2;have hml:m.wr.length≤4000000000000:=by have:=kE hw2;omega
 have f41:=Bh (dw o i).wr z2;rw[(mN hw).2.2.2] at f41;have f41':=Bh m.wr hml;rw[(mN hw2).2.2.2] at f41';have f47:=Bi (cC (dw o i).wr) (by rw[tI];exact z2);rw[sJ,if_pos (mN hw).1,DC hw] at f47;have f47':=Bi (cC m.wr) (by rw[tI];exact hml);rw[sJ,if_pos (mN hw2).1,DC hw2] at f47';have hkn:∀ j,j<3→∀ x,x<6→gP (dw o j) i x≤(cX (dw o i).wr).g x∧gP (dw o j) i x≤(cX m.wr).g x:=fun j hj x hx=>by
  rw[qv _ hx,qv _ hx,hmw];exact adK hN hj hi3 n1 x
 generalize cX (dw o i).wr=H1 at *;generalize cX m.wr=H2 at *;generalize cC (dw o i).wr=L1 at *;generalize cC m.wr=L2 at *;simp only at f63 f41 f41' f47 f47';have R:=y6 @c1 (y6 @g1 (y6 @g2 (y6 @g4 (y6 @ahh (y6 @l9 (y6 @cJ (y6 @jH aw)))))))
 repeat' ((first |(with_reducible refine .guard (fun hb =>?_) (fun hb =>?_) <;>try simp only[hb])|refine ab.aA (by decide +kernel) rfl fun K hK =>?_|refine .lead _ (f63) ?_|refine .lead _ (f41) ?_|refine .lead _ (f41') ?_|refine .lead _ (f47) ?_|refine .lead _ (f47') ?_|(refine .av [0,1,4,5,6,7,8,9,10,11,12,13,14,15,16,17,18,19,20,21,39,41,93,95,99,127] hK ?_;clear hK K)|(with_reducible refine .done (hK _ ?_);clear hK K)|refine ab.of rfl ?_|(with_reducible refine ar.az (fun h =>?_) (fun h =>?_) <;>try simp only[h])) <;>try simp only[aB,R,simprocAttr])
 all_goals clear R
 refine ab.loop (fun j:Nat=>aC [(1,enc p),(6,.ptr 6 []),(9,.int .i64 (i:Int)),(16,.ptr 16 []),(18,.ptr 18 []),(20,.int .i64 (j:Int))] [(6,.box (enc o)),(16,.box (enc H1)),(18,.box (enc H2))]) (fun j=>j≤3) (fun j=>3-j) 0 (zv6 _) ?_ ?_
 ·refine bt.cF ?_ ?_ ?_ ?_ <;>simp[bT,bZ,bU,bB,ay,bJ,dz,I.only,al.only,bg]
  all_goals rfl
 intro j hj;by_cases hj3:j<3
 rotate_left
 ·have:j=3:=by omega
  subst this;have R:=y6 @hiw aw
  repeat' ((first |(with_reducible refine .guard (fun hb =>?_) (fun hb =>?_) <;>try simp only[hb])|refine ab.aA (by decide +kernel) rfl fun K hK =>?_|(refine .av [0,1,4,5,6,7,8,9,10,11,12,13,14,15,16,17,18,19,20,21,39,41,93,95,99,127] hK ?_;clear hK K)|(with_reducible refine .done (hK _ ?_);clear hK K)|refine ab.of rfl ?_|(with_reducible refine ar.az (fun h =>?_) (fun h =>?_) <;>try simp only[h])) <;>try simp only[aB,R,decide_false,simprocAttr])
  all_goals clear R
  refine ⟨i+1,by omega,by omega,?_⟩;refine bt.cF ?_ ?_ ?_ ?_ <;>simp[bT,bZ,bU,bB,ay,bJ,dz,I.only,al.only,bg]
  all_goals rfl
 have c2:decide ((j:Int)<3)=true:=decide_eq_true (by omega);have hjw:=eO (i:=j) (by omega);have R:=y6 @c2 aw
 repeat' ((first |(with_reducible refine .guard (fun hb =>?_) (fun hb =>?_) <;>try simp only[hb])|refine ab.aA (by decide +kernel) rfl fun K hK =>?_|(refine .av [0,1,4,5,6,7,8,9,10,11,12,13,14,15,16,17,18,19,20,21,39,41,93,95,99,127] hK ?_;clear hK K)|(with_reducible refine .done (hK _ ?_);clear hK K)|refine ab.of rfl ?_|(with_reducible refine ar.az (fun h =>?_) (fun h =>?_) <;>try simp only[h])) <;>try simp only[aB,R,simprocAttr])
 all_goals clear R
 refine ab.loop (fun k:Nat=>aC [(1,enc p),(6,.ptr 6 []),(9,.int .i64 (i:Int)),(16,.ptr 16 []),(18,.ptr 18 []),(20,.int .i64 (j:Int)),(21,.int .i64 (k:Int))] [(6,.box (enc o)),(16,.box (enc H1)),(18,.box (enc H2))]) (fun k=>k≤6) (fun k=>6-k) 0 (zv6 _) ?_ ?_
 ·refine bt.cF ?_ ?_ ?_ ?_ <;>simp[bT,bZ,bU,bB,ay,bJ,dz,I.only,al.only,bg]
  all_goals rfl
 intro k hk;by_cases hk6:k<6
 rotate_left
 ·have:k=6:=by omega
  subst this;have R:=y6 @hjw aw
  repeat' ((first |(with_reducible refine .guard (fun hb =>?_) (fun hb =>?_) <;>try simp only[hb])|refine ab.aA (by decide +kernel) rfl fun K hK =>?_|(refine .av [0,1,4,5,6,7,8,9,10,11,12,13,14,15,16,17,18,19,20,21,39,41,93,95,99,127] hK ?_;clear hK K)|(with_reducible refine .done (hK _ ?_);clear hK K)|refine ab.of rfl ?_|(with_reducible refine ar.az (fun h =>?_) (fun h =>?_) <;>try simp only[h])) <;>try simp only[aB,R,decide_false,simprocAttr])
  all_goals clear R
  refine ⟨j+1,by omega,by omega,?_⟩;refine bt.cF ?_ ?_ ?_ ?_ <;>simp[bT,bZ,bU,bB,ay,bJ,dz,I.only,al.only,bg]
  all_goals rfl
 have c3:decide ((k:Int)<6)=true:=decide_eq_true (by omega);have hkw:=eO (i:=k) (by omega);obtain ⟨h1,h2⟩:=hkn j hj3 k hk6;have r1:∀ A:af,A.o 6=some (.box (enc o))→fY A 3 42 (j:Int) (.ptr 6 [])=some (.ptr 6 [j]):=fun A h=>nm (p:=[]) (x:=o) h rfl rfl hj3;have gF:=(vU o hj3).2.1;have ja:∀ A:af,A.o 6=some (.box (enc o))→fY A 6 6 (i:Int) (.ptr 6 [j,3])=some (.ptr 6 [j,3,i]):=fun A h=>nm (p:=[j,3]) (x:=(dw o j).cj) h ((vT o hj3 [3]).trans rfl) rfl (by omega);have e3:(enc o:I).at [j,3,i]=some (enc ((dw o j).cj.at i dj)):=by rw[vT o hj3,Gu,FF _ (by omega),jy]
 have rn:∀ A:af,A.o 6=some (.box (enc o))→fY A 6 1 (k:Int) (.ptr 6 [j,3,i])=some (.ptr 6 [j,3,i,k]):=fun A h=>nm (p:=[j,3,i]) (x:=(dw o j).cj.at i dj) h e3 rfl hk6;have af7:(enc o:I).at [j,3,i,k]=some (.int .i64 (gP (dw o j) i k)):=by rw[vT o hj3,Gu,FF _ (by omega),xr _ hk6];rfl
 have af8:∀ A:af,A.o 16=some (.box (enc H1))→fY A 6 1 (k:Int) (.ptr 16 [])=some (.ptr 16 [k]):=fun A h=>nm (p:=[]) (x:=H1) h rfl rfl hk6;have af9:∀ A:af,A.o 18=some (.box (enc H2))→fY A 6 1 (k:Int) (.ptr 18 [])=some (.ptr 18 [k]):=fun A h=>nm (p:=[]) (x:=H2) h rfl rfl hk6;have aga:=xr H1 hk6;have agb:=xr H2 hk6;generalize gP (dw o j) i k=u at *;generalize H1.g k=u1 at *;generalize H2.g k=u2 at *;have d1:decide (u>u1)=false:=decide_eq_false (by omega);have d2:decide (u>u2)=false:=decide_eq_false (by omega);clear e3;have R:=y6 @c3 (y6 @hkw (y6 @gF (y6 @r1 (y6 @ja (y6 @rn (y6 @af7 (y6 @af8 (y6 @af9 (y6 @aga (y6 @agb (y6 @d1 (y6 @d2 (y6 @l9 (y6 @cJ (y6 @jH aw)))))))))))))))
 repeat' ((first |(with_reducible refine .guard (fun hb =>?_) (fun hb =>?_) <;>try simp only[hb])|refine ab.aA (by decide +kernel) rfl fun K hK =>?_|(refine .av [0,1,4,5,6,7,8,9,10,11,12,13,14,15,16,17,18,19,20,21,39,41,93,95,99,127] hK ?_;clear hK K)|(with_reducible refine .done (hK _ ?_);clear hK K)|refine ab.of rfl ?_|(with_reducible refine ar.az (fun h =>?_) (fun h =>?_) <;>try simp only[h])) <;>try simp only[aB,R,simprocAttr])
 all_goals clear R
 refine ⟨k+1,by omega,by omega,?_⟩;refine bt.cF ?_ ?_ ?_ ?_ <;>simp[bT,bZ,bU,bB,ay,bJ,dz,I.only,al.only,bg]
 all_goals rfl
end Go.Proofs.YtoffnnjbplgnaaaGreatDoor
