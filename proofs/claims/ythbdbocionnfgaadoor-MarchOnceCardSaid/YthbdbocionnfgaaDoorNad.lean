/-
  A part of the proof that the law MarchOnce returns true for every input; three tables of Go's library start as the text lays them (the card ties them); conditions: none beyond the statement's own. (part 4 of 7)
-/
import Derived.WalkKit
import Derived.Tactics
import Derived.Tactics2
import Derived.RecoverIn
import Derived.Shelf.Sort.Plain
import Derived.Shelf.Slices.In.SortNone
import Derived.Test.YthbdbocionnfgaaDoorNac
set_option linter.unusedSimpArgs false
set_option linter.unusedVariables false
set_option maxHeartbeats 16000000
set_option maxRecDepth 100000
namespace Go.Proofs.YthbdbocionnfgaaDoor
open Go Go.Abs
open Go.Abs.Enc (enc)
structure aI where
 kind:Int
 aC:Int
 other:Int
 no:Int
 deriving DecidableEq,Inhabited
instance:Enc aI where
 enc g:=.agg [.int .i64 g.kind,.int .i64 g.aC,.int .i64 g.other,.int .i64 g.no]
 sz:=4
 bd:=.eK [.one,.one,.one,.one]
 im:=true
 done g:=by simp only[I.done,I.fK,Bool.and_self]
 size g:=by simp only[I.size,I.sizes]
 jq g:=by simp only[I.bd,I.cV]
 agg _:=rfl
structure cL where
 kind:Int
 fC:Int
 to:Int
 aC:Int
 no:Int
 deriving DecidableEq,Inhabited
instance:Enc cL where
 enc g:=.agg [.int .i64 g.kind,.int .i64 g.fC,.int .i64 g.to,.int .i64 g.aC,.int .i64 g.no]
 sz:=5
 bd:=.eK [.one,.one,.one,.one,.one]
 im:=true
 done g:=by simp only[I.done,I.fK,Bool.and_self]
 size g:=by simp only[I.size,I.sizes]
 jq g:=by simp only[I.bd,I.cV]
 agg _:=rfl
structure dI where
 no:Int
 to:Int
 aC:Int
 ev:Bool
 deriving DecidableEq,Inhabited
instance:Enc dI where
 enc g:=.agg [.int .i64 g.no,.int .i64 g.to,.int .i64 g.aC,.bool g.ev]
 sz:=4
 bd:=.eK [.one,.one,.one,.one]
 im:=true
 done g:=by simp only[I.done,I.fK,Bool.and_self]
 size g:=by simp only[I.size,I.sizes]
 jq g:=by simp only[I.bd,I.cV]
 agg _:=rfl
theorem mW{fs:List I}{f off:Nat}{v:I}(U:f<fs.length)(h:I.sizes (fs.take f)=off):dR fs f off v=some v:=by simp[dR,h,U]
theorem G6 :
  (∀ g:aI,(enc g).dP=some [.int .i64 g.kind,.int .i64 g.aC,.int .i64 g.other,.int .i64 g.no])∧(∀ g:cL,(enc g).dP=some [.int .i64 g.kind,.int .i64 g.fC,.int .i64 g.to,.int .i64 g.aC,.int .i64 g.no]) ∧
  (∀ g:dI,(enc g).dP=some [.int .i64 g.no,.int .i64 g.to,.int .i64 g.aC,.bool g.ev]) ∧
  (∀ (a b c d:I) v,(a.size=1∧b.size=1∧c.size=1)→dR [a,b,c,d] 0 0 v=some v) ∧
  (∀ (g:aI),b8 (some 4) (enc g)=true)∧(∀ (g:cL),b8 (some 5) (enc g)=true)∧(∀ (g:dI),b8 (some 4) (enc g)=true) ∧
  (∀ (fs:List I) x,(x::fs)[0]?=some x)∧(∀ (fs:List I) x n,(x::fs)[n+1]?=fs[n]?)∧(∀ (fs:List I) x,(x::fs)[1]?=fs[0]?)∧(∀ (fs:List I) x,(x::fs)[2]?=fs[1]?)∧(∀ (fs:List I) x,(x::fs)[3]?=fs[2]?)∧(∀ (fs:List I) x,(x::fs)[4]?=fs[3]?) :=
 ⟨fun _=>rfl,fun _=>rfl,fun _=>rfl,fun a b c d v h=>mW (by simp) (by simp[I.sizes]),fun _=>by rw[fB];rfl,fun _=>by rw[fB];rfl,fun _=>by rw[fB];rfl,fun _ _=>rfl,fun _ _ _=>rfl,fun _ _=>rfl,fun _ _=>rfl,fun _ _=>rfl,fun _ _=>rfl⟩
theorem Ev:(∀ (a b c d:Int) v,dR [.int .i64 a,.int .i64 b,.int .i64 c,.int .i64 d] 0 0 v=some v)∧(∀ (a b c d:Int) v,dR [.int .i64 a,.int .i64 b,.int .i64 c,.int .i64 d] 1 1 v=some v)∧(∀ (a b c d:Int) v,dR [.int .i64 a,.int .i64 b,.int .i64 c,.int .i64 d] 2 2 v=some v)∧(∀ (a b c d:Int) v,dR [.int .i64 a,.int .i64 b,.int .i64 c,.int .i64 d] 3 3 v=some v) ∧
  (∀ (a b c d e:Int) v,dR [.int .i64 a,.int .i64 b,.int .i64 c,.int .i64 d,.int .i64 e] 0 0 v=some v)∧(∀ (a b c d e:Int) v,dR [.int .i64 a,.int .i64 b,.int .i64 c,.int .i64 d,.int .i64 e] 1 1 v=some v)∧(∀ (a b c d e:Int) v,dR [.int .i64 a,.int .i64 b,.int .i64 c,.int .i64 d,.int .i64 e] 2 2 v=some v)∧(∀ (a b c d e:Int) v,dR [.int .i64 a,.int .i64 b,.int .i64 c,.int .i64 d,.int .i64 e] 3 3 v=some v)∧(∀ (a b c d e:Int) v,dR [.int .i64 a,.int .i64 b,.int .i64 c,.int .i64 d,.int .i64 e] 4 4 v=some v) ∧
  (∀ (a b c:Int) (d:Bool) v,dR [.int .i64 a,.int .i64 b,.int .i64 c,.bool d] 0 0 v=some v)∧(∀ (a b c:Int) (d:Bool) v,dR [.int .i64 a,.int .i64 b,.int .i64 c,.bool d] 1 1 v=some v)∧(∀ (a b c:Int) (d:Bool) v,dR [.int .i64 a,.int .i64 b,.int .i64 c,.bool d] 2 2 v=some v)∧(∀ (a b c:Int) (d:Bool) v,dR [.int .i64 a,.int .i64 b,.int .i64 c,.bool d] 3 3 v=some v) :=
 ⟨fun _ _ _ _ _=>rfl,fun _ _ _ _ _=>rfl,fun _ _ _ _ _=>rfl,fun _ _ _ _ _=>rfl,fun _ _ _ _ _ _=>rfl,fun _ _ _ _ _ _=>rfl,fun _ _ _ _ _ _=>rfl,fun _ _ _ _ _ _=>rfl,fun _ _ _ _ _ _=>rfl,fun _ _ _ _ _=>rfl,fun _ _ _ _ _=>rfl,fun _ _ _ _ _=>rfl,fun _ _ _ _ _=>rfl⟩
theorem aK:(type_of% @G6)∧(type_of% @Ev)∧(∀ {α:Type} [Enc α] (aJ:Bool) (A:ai) (x:α),bn aJ A (enc x)=some (enc x))∧(∀ {α:Type} [Enc α] (x:α),(enc x).bT=true)∧(type_of% @n7)∧(type_of% @Ea)∧(type_of% @qn)∧(type_of% @oF)∧(type_of% @bK) :=
 ⟨G6,Ev,@mH,@eF,n7,Ea,qn,oF,bK⟩
def c6(lo hi n:Int):Bool:=decide (lo≤n)&&decide (n≤hi)
theorem p5(n lo hi:Int):bm Tryd.prog 51 [enc n,enc lo,enc hi] (enc (c6 lo hi n)):=by
 refine bm.cg Tryd.func51 Ke K7 L9 (u8 rfl) (fun hwf W0 bO E1 =>?_);simp only[AV,FJ,bQ,zz1,Nat.reduceAdd];have R:=y6 @oF @bK
 repeat' ((first |(with_reducible refine .guard (fun hb =>?_) (fun hb =>?_) <;>try simp only[hb])|refine ae.aM (by decide +kernel) rfl fun K hK =>?_|(refine .aD [0,1,2,6] hK ?_;clear hK K)|(with_reducible refine .done (hK _ ?_);clear hK K)|refine ae.of rfl ?_|(with_reducible refine aF.aL (fun h =>?_) (fun h =>?_) <;>try simp only[h])) <;>try simp only[aN,R,simprocAttr])
 all_goals clear R
 all_goals (simp at *;simp_all[c6])
 all_goals omega
theorem nG(n:Int):bm Tryd.prog 32 [enc n] (enc (c6 0 5 n)):=by
 refine bm.cg Tryd.func32 JY KS LS (u8 rfl) (fun hwf W0 bO E1 =>?_);simp only[AH,Ft,bQ];have R:=y6 @oF @bK
 repeat' ((first |(with_reducible refine .guard (fun hb =>?_) (fun hb =>?_) <;>try simp only[hb])|refine ae.aM (by decide +kernel) rfl fun K hK =>?_|refine .flat _ (p5 n 0 5) rfl ?_|(refine .aD [0,2] hK ?_;clear hK K)|(with_reducible refine .done (hK _ ?_);clear hK K)|refine ae.of rfl ?_|(with_reducible refine aF.aL (fun h =>?_) (fun h =>?_) <;>try simp only[h])) <;>try simp only[aN,R,simprocAttr])
 all_goals clear R
theorem oI(n:Int):bm Tryd.prog 33 [enc n] (enc (c6 1 9999 n)):=by
 refine bm.cg Tryd.func33 JZ KT LU (u8 rfl) (fun hwf W0 bO E1 =>?_);simp only[AI,Fu,bQ];have R:=y6 @oF @bK
 repeat' ((first |(with_reducible refine .guard (fun hb =>?_) (fun hb =>?_) <;>try simp only[hb])|refine ae.aM (by decide +kernel) rfl fun K hK =>?_|refine .flat _ (p5 n 1 9999) rfl ?_|(refine .aD [0,2] hK ?_;clear hK K)|(with_reducible refine .done (hK _ ?_);clear hK K)|refine ae.of rfl ?_|(with_reducible refine aF.aL (fun h =>?_) (fun h =>?_) <;>try simp only[h])) <;>try simp only[aN,R,simprocAttr])
 all_goals clear R
theorem zy(n:Int):bm Tryd.prog 56 [enc n] (enc (c6 1 200 n)):=by
 refine bm.cg Tryd.func56 Kh La Mc (u8 rfl) (fun hwf W0 bO E1 =>?_);simp only[AY,FM,bQ];have R:=y6 @oF @bK
 repeat' ((first |(with_reducible refine .guard (fun hb =>?_) (fun hb =>?_) <;>try simp only[hb])|refine ae.aM (by decide +kernel) rfl fun K hK =>?_|refine .flat _ (p5 n 1 200) rfl ?_|(refine .aD [0,2] hK ?_;clear hK K)|(with_reducible refine .done (hK _ ?_);clear hK K)|refine ae.of rfl ?_|(with_reducible refine aF.aL (fun h =>?_) (fun h =>?_) <;>try simp only[h])) <;>try simp only[aN,R,simprocAttr])
 all_goals clear R
def gU(x:aI):Bool :=
 if x.kind=1∨x.kind=2 then c6 1 9999 x.aC&&(x.other==0&&x.no==0)
 else if 3≤x.kind∧x.kind≤8 then c6 1 9999 x.aC&&(c6 0 5 x.other&&c6 1 200 x.no)
 else false
theorem HY(x:aI):bm Tryd.prog 59 [enc x] (enc (gU x)):=by
 refine bm.cg Tryd.func59 Ki Lc Me (u8 rfl) (fun hwf W0 bO E1 =>?_);simp only[A1,FO,bQ];have R:=aK
 repeat' ((first |(with_reducible refine .guard (fun hb =>?_) (fun hb =>?_) <;>try simp only[hb])|refine ae.aM (by decide +kernel) rfl fun K hK =>?_|refine .flat _ (oI x.aC) rfl ?_|refine .flat _ (nG x.other) rfl ?_|refine .flat _ (zy x.no) rfl ?_|(refine .aD [0,1,2,4,5,21] hK ?_;clear hK K)|(with_reducible refine .done (hK _ ?_);clear hK K)|refine ae.of rfl ?_|(with_reducible refine aF.aL (fun h =>?_) (fun h =>?_) <;>try simp only[h])) <;>try simp only[aN,R,simprocAttr])
 all_goals clear R
 all_goals (simp_all[gU])
 all_goals (intros;exfalso;omega)
def lT(r:cL):Bool:=c6 1 4 r.kind&&(c6 0 5 r.fC&&(c6 0 5 r.to&&((r.fC != r.to)&&(c6 1 9999 r.aC&&c6 1 200 r.no))))
theorem HI(r:cL):bm Tryd.prog 42 [enc r] (enc (lT r)):=by
 refine bm.cg Tryd.func42 J6 K0 L1 (u8 rfl) (fun hwf W0 bO E1 =>?_);simp only[AP,FC,bQ];have R:=aK
 repeat' ((first |(with_reducible refine .guard (fun hb =>?_) (fun hb =>?_) <;>try simp only[hb])|refine ae.aM (by decide +kernel) rfl fun K hK =>?_|refine .flat _ (p5 r.kind 1 4) rfl ?_|refine .flat _ (nG r.fC) rfl ?_|refine .flat _ (nG r.to) rfl ?_|refine .flat _ (oI r.aC) rfl ?_|refine .flat _ (zy r.no) rfl ?_|(refine .aD [0,1,2] hK ?_;clear hK K)|(with_reducible refine .done (hK _ ?_);clear hK K)|refine ae.of rfl ?_|(with_reducible refine aF.aL (fun h =>?_) (fun h =>?_) <;>try simp only[h])) <;>try simp only[aN,R,simprocAttr])
 all_goals clear R
 all_goals (simp_all[lT])
theorem h0{i n:Nat}(h:i<n):decide ((i:Int)<(n:Int))=true:=by simp;omega
theorem hE{i n:Nat}(h:¬ i<n):decide ((i:Int)<(n:Int))=false:=by simp;omega
theorem gl{i:Nat}(h:i<9223372036854775807):IntKind.i64.wrap ((i:Int)+1)=((i+1:Nat):Int):=by rw[jv _ (by omega) (by omega)];rfl
theorem Il(x y:cL):x=y↔x.kind=y.kind∧x.fC=y.fC∧x.to=y.to∧x.aC=y.aC∧x.no=y.no:=by cases x;cases y;simp
theorem Io(x y:dI):x=y↔x.no=y.no∧x.to=y.to∧x.aC=y.aC∧x.ev=y.ev:=by cases x;cases y;simp
theorem B9(x y:cL):b7 (.bl [.i .i64,.i .i64,.i .i64,.i .i64,.i .i64]) (enc x) (enc y)=some (decide (x=y)):=by
 show b7 (.bl [.i .i64,.i .i64,.i .i64,.i .i64,.i .i64]) (.agg [.int .i64 x.kind,.int .i64 x.fC,.int .i64 x.to,.int .i64 x.aC,.int .i64 x.no]) (.agg [.int .i64 y.kind,.int .i64 y.fC,.int .i64 y.to,.int .i64 y.aC,.int .i64 y.no])=_
 simp[b7,iK,jK,Il];rfl
theorem NL(x y:dI):b7 (.bl [.i .i64,.i .i64,.i .i64,.b]) (enc x) (enc y)=some (decide (x=y)):=by
 show b7 (.bl [.i .i64,.i .i64,.i .i64,.b]) (.agg [.int .i64 x.no,.int .i64 x.to,.int .i64 x.aC,.bool x.ev]) (.agg [.int .i64 y.no,.int .i64 y.to,.int .i64 y.aC,.bool y.ev])=_
 simp[b7,iK,jK,Io];rfl
theorem XB(x y:Int):(x != y) = !decide (x=y):=by by_cases h:x=y <;>simp[h]
theorem Hv(a b:List Int):bm Tryd.prog 21 [enc a,enc b] (enc (decide (a=b))):=by
 refine bm.cg Tryd.func21 JN KH LH (u8 rfl) (fun hwf W0 bO E1 =>?_);simp only[Aw,Fh,bQ,zz1];have hlen:a.length≤maxLen:=((pY a).1 hwf.1).1;simp only[maxLen] at hlen;clear hwf;by_cases hl:a.length=b.length
 case neg =>
  have hn:((a.length:Int) != (b.length:Int))=true:=by simp;omega
  have R:=y6 @hn aK
  repeat' ((first |(with_reducible refine .guard (fun hb =>?_) (fun hb =>?_) <;>try simp only[hb])|refine ae.aM (by decide +kernel) rfl fun K hK =>?_|(refine .aD [0,1,4,5,10,12,13,14,24] hK ?_;clear hK K)|(with_reducible refine .done (hK _ ?_);clear hK K)|refine ae.of rfl ?_|(with_reducible refine aF.aL (fun h =>?_) (fun h =>?_) <;>try simp only[h])) <;>try simp only[aN,R,simprocAttr])
  all_goals clear R
  have:¬ a=b:=fun e=>hl (by rw[e]);simp[this]
 have hn:((a.length:Int) != (b.length:Int))=false:=by simp;omega
 have R:=y6 @hn aK
 repeat' ((first |(with_reducible refine .guard (fun hb =>?_) (fun hb =>?_) <;>try simp only[hb])|refine ae.aM (by decide +kernel) rfl fun K hK =>?_|(refine .aD [0,1,4,5,10,12,13,14,24] hK ?_;clear hK K)|(with_reducible refine .done (hK _ ?_);clear hK K)|refine ae.of rfl ?_|(with_reducible refine aF.aL (fun h =>?_) (fun h =>?_) <;>try simp only[h])) <;>try simp only[aN,R,simprocAttr])
 all_goals clear R
 refine ae.loop (fun i:Nat=>au [(0,enc a),(1,enc b),(12,.int .i64 a.length),(13,.int .i64 i)] []) (fun i=>i≤a.length∧∀ k,k<i→a[k]?=b[k]?) (fun i=>a.length-i) 0 ⟨zw4 _,fun k h=>by omega⟩ ?_ (fun i hi =>?_)
 ·refine bt.c8 ?_ ?_ ?_ ?_ <;>simp[cn,cY,cu,cB,cw,I.only,cv]
 obtain ⟨hi1,hi2⟩:=hi;by_cases hlt:i<a.length
 ·have hc:=h0 hlt;have he:=fun A=>fT (A:=A) 1 hlt rfl;have hlt2:i<b.length:=by omega
  have he2:=fun A=>fT (A:=A) 1 hlt2 rfl;have hw:=gl (i:=i) (by omega);have hq:=XB a[i] b[i];rcases hp:decide (a[i]=b[i])
  ·rw[hp] at hq;have R:=y6 @hc (y6 @he (y6 @he2 (y6 @hq aK)))
   repeat' ((first |(with_reducible refine .guard (fun hb =>?_) (fun hb =>?_) <;>try simp only[hb])|refine ae.aM (by decide +kernel) rfl fun K hK =>?_|(refine .aD [0,1,4,5,10,12,13,14,24] hK ?_;clear hK K)|(with_reducible refine .done (hK _ ?_);clear hK K)|refine ae.of rfl ?_|(with_reducible refine aF.aL (fun h =>?_) (fun h =>?_) <;>try simp only[h])) <;>try simp only[aN,R,simprocAttr])
   all_goals clear R
   have:¬ a=b:=fun e=>by subst e;simp at hp
   simp[this]
  ·rw[hp] at hq;have R:=y6 @hc (y6 @he (y6 @he2 (y6 @hq (y6 @hw aK))))
   repeat' ((first |(with_reducible refine .guard (fun hb =>?_) (fun hb =>?_) <;>try simp only[hb])|refine ae.aM (by decide +kernel) rfl fun K hK =>?_|(refine .aD [0,1,4,5,10,12,13,14,24] hK ?_;clear hK K)|(with_reducible refine .done (hK _ ?_);clear hK K)|refine ae.of rfl ?_|(with_reducible refine aF.aL (fun h =>?_) (fun h =>?_) <;>try simp only[h])) <;>try simp only[aN,R,simprocAttr])
   all_goals clear R
   refine ⟨i+1,⟨by omega,fun k hk =>?_⟩,by omega,?_⟩
   ·by_cases e:k=i
    ·subst e;have:a[k]=b[k]:=by simpa using hp
     simp[hlt,hlt2,this]
    ·exact hi2 k (by omega)
   ·refine bt.c8 ?_ ?_ ?_ ?_ <;>simp[cn,cY,cu,cB,cw,I.only,cv]
 ·have hc:=hE hlt;have R:=y6 @hc aK
  repeat' ((first |(with_reducible refine .guard (fun hb =>?_) (fun hb =>?_) <;>try simp only[hb])|refine ae.aM (by decide +kernel) rfl fun K hK =>?_|(refine .aD [0,1,4,5,10,12,13,14,24] hK ?_;clear hK K)|(with_reducible refine .done (hK _ ?_);clear hK K)|refine ae.of rfl ?_|(with_reducible refine aF.aL (fun h =>?_) (fun h =>?_) <;>try simp only[h])) <;>try simp only[aN,R,simprocAttr])
  all_goals clear R
  have:a=b:=List.ext_getElem? fun k=>by
   by_cases hk:k<i
   ·exact hi2 k hk
   ·rw[List.getElem?_eq_none (by omega),List.getElem?_eq_none (by omega)]
  simp[this]
theorem zq(a b:List cL):bm Tryd.prog 20 [enc a,enc b] (enc (decide (a=b))):=by
 refine bm.cg Tryd.func20 JM KG LG (u8 rfl) (fun hwf W0 bO E1 =>?_);simp only[Av,Fg,bQ,zz1];have hlen:a.length≤maxLen:=((pY a).1 hwf.1).1;simp only[maxLen] at hlen;clear hwf;by_cases hl:a.length=b.length
 case neg =>
  have hn:((a.length:Int) != (b.length:Int))=true:=by simp;omega
  have R:=y6 @hn aK
  repeat' ((first |(with_reducible refine .guard (fun hb =>?_) (fun hb =>?_) <;>try simp only[hb])|refine ae.aM (by decide +kernel) rfl fun K hK =>?_|(refine .aD [0,1,4,5,10,12,13,14,24] hK ?_;clear hK K)|(with_reducible refine .done (hK _ ?_);clear hK K)|refine ae.of rfl ?_|(with_reducible refine aF.aL (fun h =>?_) (fun h =>?_) <;>try simp only[h])) <;>try simp only[aN,R,simprocAttr])
  all_goals clear R
  have:¬ a=b:=fun e=>hl (by rw[e]);simp[this]
 have hn:((a.length:Int) != (b.length:Int))=false:=by simp;omega
 have R:=y6 @hn aK
 repeat' ((first |(with_reducible refine .guard (fun hb =>?_) (fun hb =>?_) <;>try simp only[hb])|refine ae.aM (by decide +kernel) rfl fun K hK =>?_|(refine .aD [0,1,4,5,10,12,13,14,24] hK ?_;clear hK K)|(with_reducible refine .done (hK _ ?_);clear hK K)|refine ae.of rfl ?_|(with_reducible refine aF.aL (fun h =>?_) (fun h =>?_) <;>try simp only[h])) <;>try simp only[aN,R,simprocAttr])
 all_goals clear R
 refine ae.loop (fun i:Nat=>au [(0,enc a),(1,enc b),(12,.int .i64 a.length),(13,.int .i64 i)] []) (fun i=>i≤a.length∧∀ k,k<i→a[k]?=b[k]?) (fun i=>a.length-i) 0 ⟨zw4 _,fun k h=>by omega⟩ ?_ (fun i hi =>?_)
 ·refine bt.c8 ?_ ?_ ?_ ?_ <;>simp[cn,cY,cu,cB,cw,I.only,cv]
 obtain ⟨hi1,hi2⟩:=hi;by_cases hlt:i<a.length
 ·have hc:=h0 hlt;have he:=fun A=>fT (A:=A) 5 hlt rfl;have hlt2:i<b.length:=by omega
  have he2:=fun A=>fT (A:=A) 5 hlt2 rfl;have hw:=gl (i:=i) (by omega);have hq:=B9 a[i] b[i];rcases hp:decide (a[i]=b[i])
  ·rw[hp] at hq;have R:=y6 @hc (y6 @he (y6 @he2 (y6 @hq aK)))
   repeat' ((first |(with_reducible refine .guard (fun hb =>?_) (fun hb =>?_) <;>try simp only[hb])|refine ae.aM (by decide +kernel) rfl fun K hK =>?_|(refine .aD [0,1,4,5,10,12,13,14,24] hK ?_;clear hK K)|(with_reducible refine .done (hK _ ?_);clear hK K)|refine ae.of rfl ?_|(with_reducible refine aF.aL (fun h =>?_) (fun h =>?_) <;>try simp only[h])) <;>try simp only[aN,R,simprocAttr])
   all_goals clear R
   have:¬ a=b:=fun e=>by subst e;simp at hp
   simp[this]
  ·rw[hp] at hq;have R:=y6 @hc (y6 @he (y6 @he2 (y6 @hq (y6 @hw aK))))
   repeat' ((first |(with_reducible refine .guard (fun hb =>?_) (fun hb =>?_) <;>try simp only[hb])|refine ae.aM (by decide +kernel) rfl fun K hK =>?_|(refine .aD [0,1,4,5,10,12,13,14,24] hK ?_;clear hK K)|(with_reducible refine .done (hK _ ?_);clear hK K)|refine ae.of rfl ?_|(with_reducible refine aF.aL (fun h =>?_) (fun h =>?_) <;>try simp only[h])) <;>try simp only[aN,R,simprocAttr])
   all_goals clear R
   refine ⟨i+1,⟨by omega,fun k hk =>?_⟩,by omega,?_⟩
   ·by_cases e:k=i
    ·subst e;have:a[k]=b[k]:=by simpa using hp
     simp[hlt,hlt2,this]
    ·exact hi2 k (by omega)
   ·refine bt.c8 ?_ ?_ ?_ ?_ <;>simp[cn,cY,cu,cB,cw,I.only,cv]
 ·have hc:=hE hlt;have R:=y6 @hc aK
  repeat' ((first |(with_reducible refine .guard (fun hb =>?_) (fun hb =>?_) <;>try simp only[hb])|refine ae.aM (by decide +kernel) rfl fun K hK =>?_|(refine .aD [0,1,4,5,10,12,13,14,24] hK ?_;clear hK K)|(with_reducible refine .done (hK _ ?_);clear hK K)|refine ae.of rfl ?_|(with_reducible refine aF.aL (fun h =>?_) (fun h =>?_) <;>try simp only[h])) <;>try simp only[aN,R,simprocAttr])
  all_goals clear R
  have:a=b:=List.ext_getElem? fun k=>by
   by_cases hk:k<i
   ·exact hi2 k hk
   ·rw[List.getElem?_eq_none (by omega),List.getElem?_eq_none (by omega)]
  simp[this]
structure aW where
 aB:Int
 j:List aI
 cq:Int
 deriving DecidableEq,Inhabited
instance:Enc aW where
 enc g:=.agg [.int .i64 g.aB,enc g.j,.int .i64 g.cq]
 sz:=3
 bd:=.eK [.one,.one,.one]
 im:=true
 done g:=by simp only[I.done,I.fK,Enc.done,Bool.and_self]
 size g:=by simp only[I.size,I.sizes,ue,rR]
 jq g:=by simp only[I.bd,I.cV,fg,wW]
 agg _:=rfl
theorem gL:(∀ g:aW,(enc g).dP=some [.int .i64 g.aB,enc g.j,.int .i64 g.cq])∧(∀ (a c:Int) (b:List aI) v,dR [.int .i64 a,enc b,.int .i64 c] 0 0 v=some v)∧(∀ (a c:Int) (b:List aI) v,dR [.int .i64 a,enc b,.int .i64 c] 1 1 v=some v)∧(∀ (a c:Int) (b:List aI) v,dR [.int .i64 a,enc b,.int .i64 c] 2 2 v=some v) ∧
  (∀ (g:aW),b8 (some 3) (enc g)=true)∧(∀ (g:List aI),b8 none (enc g)=true) :=
 ⟨fun _=>rfl,fun _ _ _ _=>mW (by simp) rfl,fun _ _ _ _=>mW (by simp) rfl,fun _ _ _ _=>mW (by simp) (by simp[I.sizes,I.size,ue,rR]),fun _=>by rw[fB];rfl,fun _=>by simp[rQ,rP]⟩
theorem Jv(aB:Int):(dY [.int .i64 0,.nils 4,.int .i64 0] [(0,.int .i64 aB)]).map I.agg=some (I.agg [.int .i64 aB,.nils 4,.int .i64 0]):=by
 simp[dY,I.bT,I.size]
theorem tV:(dY [.int .i64 0,.nils 4,.int .i64 0] []).map I.agg=some (I.agg [.int .i64 0,.nils 4,.int .i64 0]):=by
 simp[dY]
theorem vC(A:ai)(n:Nat)(b:I)(x y u v:Int)(rest:List aw):da A (some 3) n [] b (.agg [.int .i64 x,.nils 4,.int .i64 y]) rest (some (.agg [.int .i64 u,.nils 4,.int .i64 v]))=aA rest (A.aV n (.box (.agg [.int .i64 x,.nils 4,.int .i64 y]))):=dS rfl rfl rfl
def mT(aB:Int):aW×Int:=if c6 0 5 aB then (⟨aB,[],0⟩,0) else (⟨0,[],0⟩,90)
theorem vS(aB:Int):bm Tryd.prog 12 [enc aB] (.tuple [enc (mT aB).1,enc (mT aB).2]):=by
 refine bm.cg Tryd.func12 JE Ky Lx (u8 rfl) (fun hwf W0 bO E1 =>?_);simp only[Am,E7,bQ];have R:=y6 @gL (y6 @Jv (y6 @tV (y6 @vC aK)))
 repeat' ((first |(with_reducible refine .guard (fun hb =>?_) (fun hb =>?_) <;>try simp only[hb])|refine ae.aM (by decide +kernel) rfl fun K hK =>?_|refine .flat _ (nG aB) rfl ?_|(refine .aD [0,2,3,6] hK ?_;clear hK K)|(with_reducible refine .done (hK _ ?_);clear hK K)|refine ae.of rfl ?_|(with_reducible refine aF.aL (fun h =>?_) (fun h =>?_) <;>try simp only[h])) <;>try simp only[aN,R,simprocAttr])
 all_goals clear R
 all_goals (simp_all[mT];try rfl)
end Go.Proofs.YthbdbocionnfgaaDoor
namespace Go.Abs
open Go Go.RowKit
open Enc (enc)
def xM:Option Nat→Code
 |none=>.ret
 |some id=>.exit id
def Ci:Option Nat→Exit
 |none=>.ret
 |some id=>.exit id
def ru(o:Obj)(A:ai)(os:List (Nat×ao)):Prop:=∀ n x,aj (ej o os) n=some x→A.o n=some x∧x.only (av (ej o os))=true∧x.eg=true
def Gv(o:Obj)(In:List (Nat×ao)→Prop)(Ix:Option Nat→List (Nat×ao)→Prop):Exit→ai→Prop
 | .normal,A=>∃ os,ru o A os∧In os
 | .ret,A=>∃ os,ru o A os∧Ix none os
 | .exit id,A=>∃ os,ru o A os∧Ix (some id) os
 |_,_=>False
def Ip(P:Program)(nn:Nat)(x y:bD)(ps:List Nat)(tsR:List (Nat×I))(N:Nat)(item:Nat→List I)(ar:Nat→List (Nat×ao)→Prop)(Ix:Option Nat→List (Nat×ao)→Prop):Prop :=
 ∀ k osb,k<N→ar k osb→∀ (w:World) (D:aU) (E:bf) (l:Nat) (o1 o2:Obj),
  ae ⟨P,w,D,nn,cE E,E,dv,some l,none⟩ x (eb (fun B=>B.o 1999999=some (.dC o1)∧ae ⟨P,w,D,nn,cE E,E,dv,some l,none⟩ y (Gv o2 (ar (k+1)) Ix) (B.aV 1999999 (.dC o2))) (fun _ _=>False)) (au (vj ps (item k) tsR) (ej o1 osb))
section
variable {c:cX} {Q:Exit→ai→Prop}
theorem WG{o:Obj}{A:ai}{os:List (Nat×ao)}(h:ru o A os)(o':Obj):∀ n x,aj (ej o' os) n=some x→(A.aV 1999999 (.dC o')).o n=some x∧x.only (av (ej o' os))=true∧x.eg=true:=fun n x hx=>by
 have e:av (ej o' os)=av (ej o os):=by funext m;rw[lO,lO]
 rw[e];by_cases hn:n=1999999
 ·subst hn;rw[qL,if_pos rfl,v6] at hx;subst hx;exact ⟨by simp[ai.aV],rfl,rfl⟩
 ·rw[qL,if_neg hn] at hx;obtain ⟨U,ab⟩:=h n x (by rw[qL,if_neg hn];exact hx);exact ⟨by simp only[ai.aV,if_neg hn];exact U,ab⟩
theorem ae.np{f:aR}{ps:List Nat}{x y:bD}{ts tsR:List (Nat×I)}{os0 osb0:List (Nat×ao)}{ρ:List (Nat×Nat)}{g:FuncId}{caps:List I}{N:Nat}{item:Nat→List I}
  (ar:Nat→List (Nat×ao)→Prop) (Ix:Option Nat→List (Nat×ao)→Prop) (hr0:c.l4=none∧c.fx=none) (hn6:c.n≤1000000)
  (hf:ak (au ts os0) f=.func g caps) (hcl:I.b9 caps=true) (hcb:fe c.P g=true) (hit:zF c.P g caps N item) (hlen:∀ k,(item k).length=ps.length)
  (hfree:aj os0 999999=none) (h19:av osb0 1999999=false) (hρ:bx ρ 1999999=999999)
  (hgv:∀ o,gE ρ (ej o osb0) ((999999,.dC o)::os0)) (hts:oA ρ (av osb0) ts tsR)
  (hI:∀ k os,ar k os→e7 osb0 os) (hIx:∀ e os,Ix e os→e7 osb0 os) (aZ:ar 0 osb0)
  (hround:Ip c.P c.n x y ps tsR N item ar Ix)
  (hdone:∀ os,ar N os→Q .normal (au ts (df ρ os++os0))) (hexit:∀ e os,Ix e os→Q (Ci e) (au ts (df ρ os++os0))) :
  ae c (.np f ps x y) Q (au ts os0):=by
 obtain ⟨hr,hbase⟩:=hr0;intro code hc a w hs;cases code <;>simp only[eE] at hc <;>try (first | (cases hc;done) | ((repeat' split at hc) <;>cases hc;done))
 rename_i cf cps cx cy;split at hc
 case h_2=>cases hc
 rename_i f' x' y' hcf hcx hcy;split at hc
 case isFalse=>cases hc
 rename_i hpn;simp only[v6,bD.np.injEq] at hc;obtain ⟨rfl,rfl,rfl,rfl⟩:=hc;obtain ⟨D,E,hs⟩:=hs;have hF:c.bH=Fence.wide:=by unfold cX.bH;rw[hr]
 have hE0:c.dn 999999=none:=hs.kT (.inr (by decide));have hval:∃ vs:List Value,a.eval cf=.func (.func g) #[] vs.toArray∧aG w D E caps vs:=by
  have hv:=bZ hs hcf;rw[hf] at hv;obtain ⟨cs,q1,q2⟩:=hv;simp only[al] at q2;obtain ⟨vs,q3,q4⟩:=q2;exact ⟨vs,by rw[←nX (Bv hcb)];simpa[bG,I.isAgg,q3] using q1.symm,q4⟩
 obtain ⟨vs,hval,hvs⟩:=hval;rw[hF];refine wpIn_rangeFunc fun fn hfn =>?_;obtain ⟨rec,hrec⟩:∃ rec:LoopState→Option Code→Loop,rec=fun bl pe => { state:=bl,pending:=pe,fn,tmps:=a.tmps,params:=cps,assign:=cx,body:=cy,defers:=w.heap.size } :=⟨_,rfl⟩
 obtain ⟨E1,hs1,hE1,hup⟩:=hs.enter hbase hfree hE0 (o:=.loop (rec .ready none)) rfl;obtain ⟨W1,hW1⟩:∃ W1,(w.alloc (.deferred (some []))).alloc (.loop (rec .ready none))=W1:=⟨_,rfl⟩
 rw[hW1] at hs1 hup;obtain ⟨l,hl⟩:∃ l,l=w.heap.size+1:=⟨_,rfl⟩
 rw[←hl] at hE1;obtain ⟨yv,hyv⟩:∃ yv:Value,yv=.func (.yield l) #[] #[]:=⟨_,rfl⟩
 obtain ⟨a1,ha1⟩:∃ a1:Act,a1 = { a with defers := { target:=.collected w.heap.size,args := #[] } :: a.defers } :=⟨_,rfl⟩
 rw[←ha1] at hs1;refine ⟨l,[{ target:=.collected w.heap.size,args := #[] }],W1,{ target:=.fn (.func g) vs.toArray,args := #[yv] },W1,g,#[yv]++vs.toArray,W1,?_,?_,?_,?_,fun _=>by decide,?_⟩
 ·rw[←hW1,hrec,hl];exact run_enterLoop_outer _ _ _ _ _
 ·simp only[resolve,hval,hyv];simp[go_sem]
 ·intro f' _;trivial
 ·simp only[invoke,ou hcb]
 ·-- the iterator's own bargain
  have hG0:=hI 0 osb0 aZ;obtain ⟨I',hI'⟩:∃ I':Nat→List (Nat×ao)→Prop,I'=fun k os=>∃ osb,os=ej (.loop (rec .ready none)) osb∧ar k osb:=⟨_,rfl⟩
  obtain ⟨Ix',hIx'⟩:∃ Ix':List (Nat×ao)→Prop,Ix'=fun os=>∃ e osb,os=ej (.loop (rec .done (some (xM e)))) osb∧Ix e osb:=⟨_,rfl⟩
  obtain ⟨os1,hos1⟩:∃ os1,os1=ej (.loop (rec .ready none)) osb0:=⟨_,rfl⟩
  obtain ⟨Y,hY⟩:∃ Y:Value→List I→List (Nat×ao)→cA→Prop,Y=fun v args os post=>v=yv∧∃ k,args=item k∧k<N∧I' k os∧∀ r os2,(r=.bool true∧I' (k+1) os2)∨(r=.bool false∧Ix' os2)→post r os2:=⟨_,rfl⟩
  have fX:∀ k os',I' k os'→e7 os1 os':=fun k os' h=>by
   rw[hI'] at h;obtain ⟨osb,rfl,h⟩:=h;rw[hos1];exact (hI k osb h).ej _ _
  have goodx:∀ os',Ix' os'→e7 os1 os':=fun os' h=>by
   rw[hIx'] at h;obtain ⟨e,osb,rfl,h⟩:=h;rw[hos1];exact (hIx e osb h).ej _ _
  have hctr:=hit Y yv I' Ix' os1 (by rw[hyv];rfl) (fun k os' post hk U ab=>by rw[hY];exact ⟨rfl,k,rfl,hk,U,ab⟩) fX goodx (by rw[hI'];exact ⟨osb0,hos1,aZ⟩);have hgv1:gE ρ os1 ((999999,.dC (.loop (rec .ready none)))::os0):=by rw[hos1];exact hgv _
  obtain ⟨A0,hA0⟩:∃ A0:ai,A0=au ts ((999999,.dC (.loop (rec .ready none)))::os0):=⟨_,rfl⟩
  have hand:oK (Calls c.P g) (fun w D E=>∀ n,p9 ⟨c.P,w,D,n,cE E,E,Y,none,none⟩) (.raw yv::caps) os1 (fun r os'=>r=.tuple []∧(I' N os'∨Ix' os')):=fun w D E vs hy hlive hheld hv=>by
   refine (hctr.2 w D E vs hy hlive hheld hv).mono fun e w' ⟨v,he,D',E',r,os',q⟩=>⟨v,D',E',r,os',he,q⟩
  have hshare:=hs1.pM;obtain ⟨Dh,hDh⟩:∃ Dh,Dh=pJ (au ts ((999999,.dC (.loop (rec .ready none)))::os0)) D E1:=⟨_,rfl⟩
  rw[←hDh] at hshare;have hsh:=hshare.1;obtain ⟨Eh,hEh⟩:∃ Eh,Eh=ay ρ os1 E1:=⟨_,rfl⟩
  have isrec:av os1 1999999=true:=by rw[hos1,lO];simp
  have hEl:Eh 1999999=some (.op l):=by rw[hEh];simp only[ay,isrec,if_true,hρ];exact hE1
  have EhIn:∀ n e,Eh n=some e→av os1 n=true:=fun n e h=>by
   rw[hEh] at h;simp only[ay] at h;split at h
   ·assumption
   ·cases h
  have hyok:∀ n,p9 ⟨c.P,W1,Dh,n,cE Eh,Eh,Y,none,none⟩:=by
   refine fun n=>⟨by rw[hEh];exact hs1.qH,?_⟩
   intro v' args os' post' hYv w2 D2 E2 vs2 hsince hlive hheld hrvs;rw[hY] at hYv;obtain ⟨rfl,k,rfl,hkN,hIk,hpost⟩:=hYv;have hIk0:=hIk;rw[hI'] at hIk;obtain ⟨osb,rfl,hIk⟩:=hIk;have gk:=fX k _ hIk0;have gkb:=hI k osb hIk;have in2:∀ m,av os1 m=true→E2 m≠none:=fun m hm=>by
    rw[←gk.same m] at hm;cases hx:aj (ej (.loop (rec .ready none)) osb) m with
    |none=>simp[av,hx] at hm
    |some x=>have:=hheld.bP m;rw[hx] at this;exact uX this
   have same2:∀ m e,Eh m=some e→e.eg=true→E2 m=some e:=fun m e he hfx=>by
    rcases hsince.dQ m e he with h | ⟨e',h,hle⟩
    ·exact absurd h (in2 m (EhIn m e he))
    ·rw[hle.eq hfx] at h;exact h
   have hEl2:E2 1999999=some (.op l):=same2 _ _ hEl rfl;have hob:=hheld.bP 1999999;rw[qL,if_pos rfl] at hob;obtain ⟨b,j1,_,j3,_,_⟩:=hob;rw[hEl2] at j1;cases j1;have hsz:vs2.toArray.size=cps.size:=by have:=te hrvs;rw[hlen] at this;simpa using this
   have hyr:=run_yield (P:=c.P) (args:=vs2.toArray) j3 (by rw[hrec];exact hsz);rw[hrec] at hyr;refine ⟨l,hyv,fn,_,cx,cy,hyr,roundIn_of_wpIn trivial ?_⟩;clear hyr
   -- the round's own frame
   obtain ⟨cr,hcr⟩:∃ cr:cX,cr=⟨c.P,w2,D2,c.n,cE E2,E2,dv,some l,none⟩:=⟨_,rfl⟩
   have hFr:cr.bH=Fence.wide.inRound l:=by rw[hcr];rfl
   have hlat:dU W1 Dh Eh w2 D2 E2:=by
    refine ⟨hsince.cR,hsince.fw.cell,fun m b bd he=>same2 m _ he rfl,fun m aH l he =>?_,fun m b he=>same2 m _ he rfl,fun m b he=>same2 m _ he rfl,hsince.fw.jB⟩;rcases hsince.dQ m _ he with h | ⟨e',h,hle⟩
    ·exact absurd h (in2 m (EhIn m _ he))
    ·rcases hle with rfl | ⟨_,_,blk',l',e,rfl,k1,k2⟩
     ·exact ⟨aH,l,h,zz5 _,fun _=>rfl⟩
     ·cases e;exact ⟨blk',l',h,k1,k2⟩
   have hslots:oA ρ (av os1) ts tsR:=by
    have:∀ tsR:List (Nat×I),oA ρ (av osb0) ts tsR→oA ρ (av os1) ts tsR:=by
     intro tsR
     induction tsR with
     |nil=>exact fun h=>h
     |cons q r ih =>
      intro h;obtain ⟨U,ab,af⟩:=h;exact ⟨U,jh (fun n hn=>by rw[hos1,lO,hn];simp) _ ab,ih af⟩
    exact this tsR hts
   have hsr:aY cr (au tsR (ej (.loop (rec .ready none)) osb)) { tmps:=a.tmps,defers:=[] } w2 D2 E2:=by
    rw[hcr];refine ⟨hs.sz,⟨[],rfl,.nil,fun _ h=>by simp at h⟩,fun t =>?_,e8.refl _ _,fun _ _ h _=>h,hlive,fun m=>(hheld.bP m).kv fun e b he hb=>.inr ⟨m,e,he,hb⟩,hheld.cO,fun _ e h=>.inr ⟨e,h,.refl e⟩,fun m hm =>?_,fun _ _ h=>h,⟨hsince.sr,fun _ _ _ _ h=>h.elim⟩,.refl _ _⟩
    ·rcases GN hslots t with h | ⟨U,ab⟩
     ·simp only[au];rw[h];simp[bg]
     ·have af:=hsh.dN t;rw[ha1] at af;simp only[au] at af ⊢;rw[U] at af;have aq:=(bg.a8 (w:=W1) (D:=Dh) (p:=av os1) (ρ:=bx ρ) (E:=Eh) (E':=E1) (fun n hn=>by rw[hEh];simp only[ay,hn,if_true]) ab).1 af;exact bg.later hlat aq
    ·have hmi:av os1 m=true:=by
      rw[←gk.same m];have:=hheld.bP m;cases hx:aj (ej (.loop (rec .ready none)) osb) m with
      |none=>rw[hx] at this;exact absurd this hm
      |some x=>simp[av,hx]
     have:=gk.mL m hmi;exact ⟨Nat.le_trans hn6 this,this⟩
   have hsp:=aY.E5 cps.toList vs2 (item k) tsR _ hsr (fun p hp=>by rw[hcr];have:=zx2.1 hpn p hp;simpa using this) hrvs (by have:=hsz;simpa using this.symm);have htm:(cps.zip vs2.toArray).foldl (fun t (q:Tmp×Value)=>t.setIfInBounds q.1 q.2) a.tmps=(cps.toList.zip vs2).foldl (fun t q=>t.setIfInBounds q.1 q.2) a.tmps:=by
    rw[←Array.foldl_toList];simp
   have hx:=hround k osb hkN hIk w2 D2 E2 l (.loop (rec .ready none)) (.loop { rec .ready none with state:=.busy });rw[←hcr] at hx;have hx1:=hx cx (by rw[hcr];exact hcx) _ w2 ⟨D2,E2,hsp⟩;rw[hFr] at hx1;simp only[←htm] at hx1;rw[hcr] at hx1;refine wpIn_mono hx1 ?_;rintro e ax wx ⟨B,hq,hsx⟩;rw[←hcr] at hq hsx;cases e <;>simp only[eb] at hq <;>try exact hq.elim
   simp only[Exit.then];obtain ⟨hB1,hB2⟩:=hq;obtain ⟨Dx,Ex,hsx⟩:=hsx;have hElx:Ex 1999999=some (.op l):=by
    have ho:=hsx.bP 1999999;rw[hB1] at ho;rcases hsx.xn (n:=1999999) (by rw[hcr];exact hEl2) rfl with h | h
    ·exact absurd h (uX ho)
    ·exact h
   have hLx:wx.heap[l]?=some (.loop (rec .ready none)):=by
    have ho:=hsx.bP 1999999;rw[hB1] at ho;obtain ⟨b,k1,_,k3,_⟩:=ho;rw[hElx] at k1;cases k1;exact k3
   refine ⟨_,run_beginRound hLx (by rw[hrec]),?_⟩;have hsb:=hsx.y9 (o':=.loop { rec .ready none with state:=.busy }) hB1 hElx rfl;have hy1:=hB2 cy (by rw[hcr];exact hcy) _ _ ⟨Dx,Ex,hsb⟩;rw[hFr] at hy1;rw[hcr] at hy1;refine wpIn_mono hy1 ?_;rintro e a3 w3 ⟨A3,hq3,D3,E3,hs3⟩;rw[←hcr] at hs3
   -- the end of the round
   have bn:∀ (os:List (Nat×ao)) (jump:Option Code),ru (.loop { rec .ready none with state:=.busy }) A3 os→(post' (.bool jump.isNone) (ej (.loop (rec (if jump.isNone then .ready else .done) jump)) os)) →
     ∃ v w',(Instr.endRound l jump).run c.P w3=.ok v w'∧(fun e w'=>∃ v D' E' r os',e=Ending.returned v∧post' r os'∧bg w' D' E' r v∧ki (fun b=>w2.heap.size≤b∨cE E2 b) w' D' E' (aj os') ∧
      e8 (fun b=>w2.heap.size≤b∨cE E2 b) w2 w'∧(∀ b o,D2 b o→D' b o)∧(∀ b o,D' b o→b<w'.heap.size)∧(∀ b o,D' b o→b<w2.heap.size→¬ cE E2 b→D2 b o) ∧
      (∀ n e,E2 n=some e→av os' n=true→∃ e',E' n=some e'∧e.le e')∧h4 w2 D2 w') (.returned v) w':=fun os jump hbk hp=>by
    have hA3:A3.o 1999999=some (.dC (.loop { rec .ready none with state:=.busy })):=(hbk 1999999 _ (by rw[qL,if_pos rfl])).1;have hEl3:E3 1999999=some (.op l):=by
     have ho:=hs3.bP 1999999;rw[hA3] at ho;rcases hs3.xn (n:=1999999) (by rw[hcr];exact hEl2) rfl with h | h
     ·exact absurd h (uX ho)
     ·exact h
    have hL3:w3.heap[l]?=some (.loop { rec .ready none with state:=.busy }):=by
     have ho:=hs3.bP 1999999;rw[hA3] at ho;obtain ⟨b,k1,_,k3,_⟩:=ho;rw[hEl3] at k1;cases k1;exact k3
    have hend:=run_endRound (P:=c.P) jump hL3;have erec:({ rec .ready none with state:=if jump.isNone then LoopState.ready else .done,pending:=jump } : Loop)=rec (if jump.isNone then .ready else .done) jump:=by rw[hrec]
    have hend':(Instr.endRound l jump).run c.P w3=.ok (.bool jump.isNone) (w3.putObj l (.loop (rec (if jump.isNone then .ready else .done) jump))):=by
     rw[hend];rw[hrec]
    have hs4:=hs3.y9 (o':=.loop (rec (if jump.isNone then .ready else .done) jump)) hA3 hEl3 rfl;rw[hcr] at hs4;obtain ⟨D',E',_,_,_,q1,q2,q3,q4,q5,q6⟩:=hs4.xS (WG hbk _);exact ⟨_,_,hend',_,D',E',.bool jump.isNone,_,rfl,hp,⟨[.bool jump.isNone],by simp[bG,I.isAgg],by simp[al]⟩,q1,q2,q3,q4,q5,q6⟩
   cases e with
   |normal =>
    obtain ⟨os,hbk,hin⟩:=hq3;exact bn os none hbk (hpost _ _ (.inl ⟨rfl,by rw[hI'];exact ⟨os,rfl,hin⟩⟩))
   |ret =>
    obtain ⟨os,hbk,hin⟩:=hq3;exact bn os (some .ret) hbk (hpost _ _ (.inr ⟨rfl,by rw[hIx'];exact ⟨none,os,rfl,hin⟩⟩))
   |exit id =>
    obtain ⟨os,hbk,hin⟩:=hq3;exact bn os (some (.exit id)) hbk (hpost _ _ (.inr ⟨rfl,by rw[hIx'];exact ⟨some id,os,rfl,hin⟩⟩))
   |goto t=>exact hq3.elim
   |panic ch=>exact hq3.elim
   |outgrown=>exact hq3.elim
  -- the call
  have hargs:fJ (bg W1 D E1) (.raw yv::caps) (yv::vs):=by
   exact .cons ⟨[yv],by simp[bG,I.isAgg],by rw[hyv];exact ⟨rfl,rfl⟩⟩ (td (hup caps vs hvs))
  have hus:=hand.use (ρ:=ρ) hs1 false (fun h=>h.mono) ⟨(fun h=>by cases h),fun _=>by rw[←hDh,←hEh];exact hyok⟩ hgv1 (tT _ (by simp[I.b9,I.bC,hcl]))
   (fun r os' hp=>by
    have gg:e7 os1 os':=by
     rcases hp.2 with h | h
     ·exact fX _ _ h
     ·exact goodx _ h
    refine ⟨fun m x hx=>⟨(gg.ok m x hx).1,(gg.ok m x hx).2,fun h=>by cases h⟩,fun m m' U ab=>hgv1.inj m m' (by rw[←gg.same];exact U) (by rw[←gg.same];exact ab),fun m hm=>by rw[gg.same];exact hm,fun m U ab=>(by rw[gg.same,ab] at U;cases U),(by rw[hp.1];simp[I.only,I.b6]),fun h=>by cases h⟩) hargs
  have ecl : #[yv]++vs.toArray=(yv::vs).toArray:=by simp
  rw[ecl];refine CallsIn.mono (callsIn_wide.2 hus) ?_;rintro e w3 ⟨v,r,os',D2,E2,rfl,hp,hs2,_,hE2⟩;have key:∀ (o3:Obj) (osb:List (Nat×ao)),os'=ej o3 osb→qE o3=true→E2 999999=some (.op l)∧w3.heap[l]?=some o3∧∀ o4,qE o4=true→b5 c (au ts (df ρ osb++os0)) a1 (w3.putObj l o4):=fun o3 osb he af=>by
   subst he;have hn2:E2 999999=some (.op l):=by
    obtain ⟨e',U,ab⟩:=hE2 1999999 (.op l) (by rw[←hEh];exact hEl) (by rw[lO];simp);rw[hρ] at U;rw[U,ab.eq rfl]
   have eos:df ρ (ej o3 osb)=(999999,.dC o3)::df ρ osb:=by simp only[ej,df,zz4,hρ,ao.a8]
   rw[eos] at hs2;have ha:(au ts ((999999,ao.dC o3)::df ρ osb++(999999,.dC (.loop (rec .ready none)))::os0)).o 999999=some (.dC o3):=by simp[au,aj]
   have hgb:∀ m,av osb m=true→bx ρ m≠999999:=fun m hm e=>by
    have h5:av (ej o3 osb) m=true:=by rw[lO,hm];simp
    have g5:e7 os1 (ej o3 osb):=by
     rcases hp.2 with h | h
     ·exact fX _ _ h
     ·exact goodx _ h
    have h6:=hgv1.inj m 1999999 (by rw[←g5.same];exact h5) isrec (by rw[hρ];exact e);subst h6;have h7:e7 osb0 osb:=by
     rcases hp.2 with h | h
     ·rw[hI'] at h;obtain ⟨osb',h8,h9⟩:=h;simp only[ej,zv0] at h8;rw[h8.2];exact hI _ _ h9
     ·rw[hIx'] at h;obtain ⟨e,osb',h8,h9⟩:=h;simp only[ej,zv0] at h8;rw[h8.2];exact hIx _ _ h9
    rw[h7.same,h19] at hm;cases hm
   refine ⟨hn2,?_,fun o4 aq =>?_⟩
   ·have ho:=hs2.bP 999999;rw[ha] at ho;obtain ⟨b,k1,_,k3,_⟩:=ho;rw[hn2] at k1;cases k1;exact k3
   ·have h5:=(hs2.y9 (o':=o4) ha hn2 aq).NF hn2;have hst:(⟨((au ts ((999999,ao.dC o3)::df ρ osb++(999999,.dC (.loop (rec .ready none)))::os0)).aV 999999 (.dC o4)).t,fun m=>if m=999999 then none else
      ((au ts ((999999,ao.dC o3)::df ρ osb++(999999,.dC (.loop (rec .ready none)))::os0)).aV 999999 (.dC o4)).o m⟩:ai)=au ts (df ρ osb++os0):=by
     simp only[au,ai.aV]
     congr 1
     funext m
     by_cases hm:m=999999
     ·subst hm;simp only[if_true,qM];cases hq:pre ρ osb 999999 with
      |none=>exact hfree.symm
      |some k=>exact absurd (jk hq).2 (hgb k (jk hq).1)
     ·simp only[if_neg hm,zz2,aj,qM]
    rw[hst] at h5;exact ⟨D2,_,h5⟩
  rcases hp.2 with h | h
  ·rw[hI'] at h;obtain ⟨osb,he,hin⟩:=h;obtain ⟨k1,k2,k3⟩:=key _ osb he rfl;refine ⟨none,_,(by have:=run_endLoop (P:=c.P) k2 (by rw[hrec];simp);rw[hrec] at this;exact this),_,hdone osb hin,?_⟩;have:=k3 (.loop { rec .ready none with state:=.exhausted }) rfl;rw[ha1] at this;rw[hrec] at this;exact this
  ·rw[hIx'] at h;obtain ⟨e,osb,he,hin⟩:=h;obtain ⟨k1,k2,k3⟩:=key _ osb he rfl;refine ⟨some (xM e),_,(by have:=run_endLoop (P:=c.P) k2 (by rw[hrec];simp);rw[hrec] at this;exact this),?_⟩;have:=k3 (.loop { rec .done (some (xM e)) with state:=.exhausted }) rfl;rw[ha1] at this;rw[hrec] at this;have hq:uK c Q (Ci e) { a with defers := { target:=.collected w.heap.size,args := #[] } :: a.defers } _:=⟨_,hexit e osb hin,this⟩
   cases e with
   |none=>exact wpIn_ret hq
   |some id=>exact wpIn_exit hq
end
mutual
theorem kY{ρ:Nat→Nat}(h:∀ n,ρ n=n):∀ x:I,x.a8 ρ=x
 | .agg fs | .tuple fs=>by simp only[I.a8];rw[ni h fs]
 | .slice _ es=>by simp only[I.a8];rw[ni h es]
 | .ref x=>by simp only[I.a8];rw[kY h x]
 | .func _ caps=>by simp only[I.a8];rw[ni h caps]
 | .iface _ v=>by simp only[I.a8];rw[kY h v]
 | .ptr _ _ | .own _ _ | .view _ _ _ _ _ | .mref _ | .dp _=>by simp only[I.a8,h]
 | .dk ks vs=>by simp only[I.a8];rw[ni h ks,ni h vs]
 | .bool _ | .int _ _ | .bR _ | .nilp | .dA | .dW | .any | .raw _ | .nils _ | .c0 _ | .undef | .du=>by simp only[I.a8]
theorem ni{ρ:Nat→Nat}(h:∀ n,ρ n=n):∀ xs:List I,I.dm ρ xs=xs
 | []=>rfl
 |x::xs=>by simp only[I.dm];rw[kY h x,ni h xs]
end
theorem ao.kY{ρ:Nat→Nat}(h:∀ n,ρ n=n):∀ x:ao,x.a8 ρ=x
 | .box x=>by simp only[ao.a8,Abs.kY h]
 | .bU _ _ es=>by simp only[ao.a8,ni h]
 | .dC _=>rfl
 | .dD _ _=>rfl
 | .bA _ _=>by simp only[ao.a8,ni h]
 | .it _ _ _ _=>by simp only[ao.a8,ni h]
theorem nh(os:List (Nat×ao)):df [] os=os:=by
 simp only[df];have:(fun q:Nat×ao=>(bx [] q.1,q.2.a8 (bx [])))=id:=by
  funext q
  rw[ao.kY (ρ:=bx []) (fun n=>rfl)];rfl
 rw[this,List.map_id]
theorem fU(a b:List (Nat×ao))(n:Nat):aj (a++b) n=match aj a n with
  |some x=>some x
  |none=>aj b n:=by
 induction a with
 |nil=>rfl
 |cons q a ih =>
  obtain ⟨k,v⟩:=q;simp only[zz2,aj];split
  ·rfl
  ·exact ih
theorem e7.none{os os':List (Nat×ao)}(h:e7 os os'){n:Nat}(hn:n<1000000):aj os' n=none:=by
 cases hx:aj os' n with
 |none=>rfl
 |some x =>
  have U:av os' n=true:=by simp[av,hx]
  rw[h.same] at U;exact absurd (h.mL n U) (by omega)
theorem bt.slots{ts ts':List (Nat×I)}{os os':List (Nat×ao)}(U:cn ts ts')(ab:∀ n,aj os n=aj os' n):bt (au ts os) (au ts' os'):=by
 have e:au ts os=au ts os':=by
  simp only[au];congr 1;funext n;exact ab n
 rw[e];rintro c a w ⟨D,E,hs⟩;refine ⟨D,E,hs.sz,hs.eB,fun t =>?_,hs.dG,hs.cZ,hs.aQ,hs.bP,hs.cO,hs.dQ,hs.eL,hs.cR,hs.eV,hs.fw⟩;rcases vG U t with h | h
 ·simp only[au];rw[h];simp[bg]
 ·have:=hs.dN t;simp only[au] at *;rw[h];exact this
theorem tU{os osk os2 ow:List (Nat×ao)}{ts:List (Nat×I)}(U:e7 os osk)(ab:e7 os os2)(how:∀ m,av ow m=true→m<1000000):au ts (df [] os2++(ow++osk))=au ts (ow++os2):=by
 simp only[au,nh]
 congr 1
 funext n
 simp only[fU];cases hw:aj ow n with
 |none =>
  simp only;cases af:aj os2 n with
  |some x=>rfl
  |none =>
   simp only;cases aq:aj osk n with
   |none=>rfl
   |some x =>
    have h5:av osk n=true:=by simp[av,aq]
    rw[U.same,←ab.same] at h5;simp[av,af] at h5
 |some x =>
  simp only;rw[ab.none (how n (by simp[av,hw]))]
theorem gE.fX{os osk ow:List (Nat×ao)}(U:e7 os osk)(how:∀ m,av ow m=true→m<1000000):gE [] osk (ow++osk):=by
 refine ⟨fun m x hx =>?_,fun m m' _ _ h=>h⟩;have hm:av osk m=true:=by simp[av,hx]
 have hg:=U.mL m (by rw[←U.same];exact hm);obtain ⟨k1,k2⟩:=U.ok m x hx;refine ⟨?_,k1,k2⟩;rw[ao.kY (ρ:=bx []) (fun n=>rfl)];simp only[bx,fU];cases hw:aj ow m with
 |none=>exact hx
 |some y=>have:=how m (by simp[av,hw]);omega
theorem gm.fX{os osk os2 os0:List (Nat×ao)}{r:I}(U:e7 os osk)(ab:e7 os os2)(hr:r.bC=true):gm false [] osk os0 r os2:=by
 refine ⟨fun m x hx=>⟨(ab.ok m x hx).1,(ab.ok m x hx).2,fun h=>by cases h⟩,fun m m' _ _ h=>h,fun m hm=>by rw[ab.same,←U.same];exact hm,fun m af aq =>?_,kD _ r hr,fun h=>by cases h⟩;rw[ab.same,←U.same,aq] at af;cases af
theorem aT.tz{P:Program}{Y:Value→List I→List (Nat×ao)→cA→Prop}{K:ai→Prop}{v:Value}{vs:List I}{dst:Option Nat}{rest:List aw}{ts:List (Nat×I)}{os osk ow:List (Nat×ao)}{In Ix:List (Nat×ao)→Prop}
  (hY:Y v vs osk (fun r os2=>(r=.bool true∧In os2)∨(r=.bool false∧Ix os2))) (hk:e7 os osk) (hi:∀ os',In os'→e7 os os') (hx:∀ os',Ix os'→e7 os os') (hcl:I.b9 vs=true) (how:∀ m,av ow m=true→m<1000000)
  (U:∀ os2,In os2→aT P Y false K (aA rest ((au ts (ow++os2)).aX dst (.bool true)))) (ab:∀ os2,Ix os2→aT P Y false K (aA rest ((au ts (ow++os2)).aX dst (.bool false)))) :
  aT P Y false K (.lE v vs dst rest (au ts (ow++osk))):=by
 refine .vN osk vs _ rfl hY (gE.fX hk how) (tT vs hcl) ?_ ?_
 ·rintro r os' (⟨rfl,h⟩ | ⟨rfl,h⟩)
  ·exact gm.fX hk (hi _ h) rfl
  ·exact gm.fX hk (hx _ h) rfl
 ·rintro r os' (⟨rfl,h⟩ | ⟨rfl,h⟩)
  ·rw[tU hk (hi _ h) how];exact U os' h
  ·rw[tU hk (hx _ h) how];exact ab os' h
theorem tZ(A:ai)(d:Option Nat)(args:List I)(rest:List aw)(v:Value):rK A d args rest (.raw v)=.lE v args d rest A:=rfl
end Go.Abs
namespace Go.Proofs.YthbdbocionnfgaaDoor
open Go Go.Abs
open Go.Abs.Enc (enc)
structure az where
 aB:Int
 here:List Int
 all:List dI
 aQ:List Nat
 bN:List aI
 deriving Inhabited
structure jI where
 fC:Int
 no:Int
 deriving DecidableEq
instance:Enc jI where
 enc g:=.agg [.int .i64 g.fC,.int .i64 g.no]
 sz:=2
 bd:=.eK [.one,.one]
 im:=true
 done g:=by simp only[I.done,I.fK,Bool.and_self]
 size g:=by simp only[I.size,I.sizes]
 jq g:=by simp only[I.bd,I.cV]
 agg _:=rfl
theorem ug(x y:jI):b7 (.bl [.i .i64,.i .i64]) (enc x) (enc y)=some (decide (x=y)):=by
 show b7 (.bl [.i .i64,.i .i64]) (.agg [.int .i64 x.fC,.int .i64 x.no]) (.agg [.int .i64 y.fC,.int .i64 y.no])=_
 have:x=y↔x.fC=y.fC∧x.no=y.no:=by cases x;cases y;simp
 simp[b7,iK,jK,this];rfl
theorem eU(a b:Int):b7 (.i .i64) (enc a) (enc b)=some (decide (a=b)):=by
 show b7 (.i .i64) (.int .i64 a) (.int .i64 b)=_
 simp[b7];rfl
def ec(x:aI):jI:=⟨x.other,x.no⟩
def az.bh(s:az)(i:Nat):dI:=s.all.getD i default
def az.vv(s:az):List dI:=s.aQ.map s.bh
def az.bu(s:az):List Int:=s.aQ.map fun i:Nat=>((i:Int)+1)
def az.fN(s:az)(b:Int):Bool:=s.vv.any fun r=>decide (r.aC=b)
def az.db(s:az):List jI:=s.bN.map ec
def az.unknown(s:az)(x:aI):Bool:=(x.other != s.aB) && !decide (ec x∈s.db)
def az.at(s:az)(no:Int):Option Nat:=s.aQ.find? fun i=>decide (no=(i:Int)+1)
def az.on(s:az)(x:aI):Option Nat:=match s.at x.no with
 |some i=>if (s.bh i).to=x.other∧(s.bh i).aC=x.aC then some i else none
 |none=>none
def bF(B i:Nat):Nat:=B+5+i
def ga(B d k i:Nat):Nat:=if i=k then d else B+5+i
def oE(B:Nat)(aB pL:Int):I:=.agg [.int .i64 aB,.mref (B+1),.mref (B+2),.int .i64 pL,.mref (B+3),.mref (B+4)]
def qC(l:List Int):ao:=.bA (l.map enc) (List.replicate l.length (.bool true))
def dT(ν:Nat→Nat)(l:List Nat):List I:=l.map fun i=>.ptr (ν i) []
def pH(ν:Nat→Nat)(s:az):ao:=.bA (s.bu.map enc) (dT ν s.aQ)
def sk(s:az):ao:=.bA (s.db.map enc) (s.bN.map enc)
def hZ:List I:=[.int .i64 1,.int .i64 2,.int .i64 3,.int .i64 4,.int .i64 5,.int .i64 6,.int .i64 7,.int .i64 8]
def qm(B:Nat):ao:=.bA hZ [.func 1000064 [.ptr B []],.func 1000065 [.ptr B []],.func 1000066 [.ptr B []],.func 1000067 [.ptr B []],.func 1000068 [.ptr B []],.func 1000069 [.ptr B []],.func 1000070 [.ptr B []],.func 1000071 [.ptr B []]]
def jN(ν:Nat→Nat):Nat→List dI→List (Nat×ao)
 |_,[]=>[]
 |i,r::l=>(ν i,.box (enc r))::jN ν (i+1) l
def dZ(B:Nat)(ν:Nat→Nat)(s:az):List (Nat×ao) :=
 (B,.box (oE B s.aB s.all.length))::(B+1,qC s.here)::(B+2,pH ν s)::(B+3,sk s)::(B+4,qm B)::jN ν 0 s.all
structure gN (B:Nat) (ν:Nat→Nat) (k:Nat):Prop where
 out:∀ i,i<k→ν i<B∨B+5≤ν i
 inj:∀ i j,i<k→j<k→ν i=ν j→i=j
theorem gN.bF(B k:Nat):gN B (bF B) k:=⟨fun i _=>.inr (by simp[Go.Proofs.YthbdbocionnfgaaDoor.bF]),fun i j _ _ h=>by simp[Go.Proofs.YthbdbocionnfgaaDoor.bF] at h;exact h⟩
theorem gN.ga{B d k m:Nat}(h:d<B)(hm:m≤k+1):gN B (ga B d k) m :=
 ⟨fun i _=>by simp only[Go.Proofs.YthbdbocionnfgaaDoor.ga];split <;>omega,fun i j hi hj h=>by simp only[Go.Proofs.YthbdbocionnfgaaDoor.ga] at h;(repeat' split at h) <;>omega⟩
theorem mV{B d k i:Nat}(h:i<k):ga B d k i=bF B i:=by simp only[ga,bF];rw[if_neg (by omega)]
theorem Ah{ν:Nat→Nat} : ∀ (l:List dI) (i k:Nat) (h:k<l.length),(∀ a b,a<i+l.length→b<i+l.length→ν a=ν b→a=b)→aj (jN ν i l) (ν (i+k))=some (.box (enc l[k]))
 | [],_,_,h,_=>by simp at h
 |r::l,i,0,_,_=>by simp[jN,aj]
 |r::l,i,k+1,h,hj=>by
  simp only[zv1] at h hj;simp only[jN,aj];rw[if_neg (fun e=>by have:=hj _ _ (by omega) (by omega) e;omega)];have:=Ah l (i+1) k (by omega) (fun a b ha hb=>hj a b (by omega) (by omega));rw[show i+1+k=i+(k+1) by omega] at this;simpa using this
theorem Aj{ν:Nat→Nat}{n:Nat} : ∀ (l:List dI) (i:Nat),(∀ k,k<l.length→n≠ν (i+k))→aj (jN ν i l) n=none
 | [],_,_=>rfl
 |r::l,i,h=>by
  simp only[zv1] at h;simp only[jN,aj];rw[if_neg (by have:=h 0 (by omega);simpa using this)];exact Aj l (i+1) fun k hk=>by have:=h (k+1) (by omega);rw[show i+1+k=i+(k+1) by omega];exact this
theorem Ai{ν ν':Nat→Nat} : ∀ (l:List dI) (i:Nat),(∀ k,k<i+l.length→ν k=ν' k)→jN ν i l=jN ν' i l
 | [],_,_=>rfl
 |r::l,i,h=>by
  simp only[zv1] at h;simp only[jN,h i (by omega),Ai l (i+1) fun k hk=>h k (by omega)]
theorem aac{B:Nat}{ν ν':Nat→Nat}{s:az}(hl:∀ i∈s.aQ,i<s.all.length)(h:∀ k,k<s.all.length→ν k=ν' k):dZ B ν s=dZ B ν' s:=by
 have U:dT ν s.aQ=dT ν' s.aQ:=List.map_congr_left fun i hi=>by rw[h i (hl i hi)]
 simp only[dZ,pH,U,Ai s.all 0 (by simpa using h)]
section
variable {B:Nat} {ν:Nat→Nat} {s:az}
theorem zf(B:Nat)(ν:Nat→Nat)(k n:Nat):n=B∨n=B+1∨n=B+2∨n=B+3∨n=B+4∨((n<B∨B+5≤n)∧(∃ i,i<k∧n=ν i))∨((n<B∨B+5≤n)∧∀ i,i<k→n≠ν i):=by
 by_cases U:n=B
 ·exact .inl U
 by_cases ab:n=B+1
 ·exact .inr (.inl ab)
 by_cases af:n=B+2
 ·exact .inr (.inr (.inl af))
 by_cases aq:n=B+3
 ·exact .inr (.inr (.inr (.inl aq)))
 by_cases h5:n=B+4
 ·exact .inr (.inr (.inr (.inr (.inl h5))))
 have h6:n<B∨B+5≤n:=by omega
 by_cases h7:∃ i,i<k∧n=ν i
 ·exact .inr (.inr (.inr (.inr (.inr (.inl ⟨h6,h7⟩)))))
 ·exact .inr (.inr (.inr (.inr (.inr (.inr ⟨h6,fun i hi e=>h7 ⟨i,hi,e⟩⟩)))))
theorem fH:aj (dZ B ν s) B=some (.box (oE B s.aB s.all.length)):=by simp[dZ,aj]
theorem gj:aj (dZ B ν s) (B+1)=some (qC s.here):=by simp[dZ,aj]
theorem gz:aj (dZ B ν s) (B+2)=some (pH ν s):=by simp[dZ,aj]
theorem gA:aj (dZ B ν s) (B+3)=some (sk s):=by simp[dZ,aj]
theorem pS:aj (dZ B ν s) (B+4)=some (qm B):=by simp[dZ,aj]
theorem jE(hg:gN B ν s.all.length){i:Nat}(hi:i<s.all.length):aj (dZ B ν s) (ν i)=some (.box (enc s.all[i])):=by
 have U:=hg.out i hi;simp only[dZ,aj];rw[if_neg (by omega),if_neg (by omega),if_neg (by omega),if_neg (by omega),if_neg (by omega)];have:=Ah (ν:=ν) s.all 0 i hi (by simpa using hg.inj)
 rwa [zz1] at this
theorem eI{n:Nat}(U:n<B∨B+5≤n)(h:∀ i,i<s.all.length→n≠ν i):aj (dZ B ν s) n=none:=by
 simp only[dZ,aj];rw[if_neg (by omega),if_neg (by omega),if_neg (by omega),if_neg (by omega),if_neg (by omega)];exact Aj s.all 0 (by simpa using h)
theorem dM(hg:gN B ν s.all.length){n:Nat} : av (dZ B ν s) n=true↔(B≤n∧n≤B+4)∨∃ i,i<s.all.length∧n=ν i:=by
 rcases zf B ν s.all.length n with h | h | h | h | h | ⟨h,i,hi,e⟩ | ⟨h,hn⟩
 ·subst h;simp only[av,fH];simp
 ·subst h;simp only[av,gj];simp
 ·subst h;simp only[av,gz];simp
 ·subst h;simp only[av,gA];simp
 ·subst h;simp only[av,pS];simp
 ·subst e;simp only[av,jE hg hi];simp only[Option.isSome_some,true_iff];exact .inr ⟨i,hi,rfl⟩
 ·simp only[av,eI h hn];simp only[Option.isSome_none,zz3,false_iff];rintro (ab | ⟨i,hi,e⟩)
  ·omega
  ·exact hn i hi e
theorem Yz(p:Nat→Bool)(h:p B=true):ao.only p (qm B)=true:=by
 simp[qm,hZ,ao.only,I.only,I.b6,h]
theorem ED(p:Nat→Bool):∀ l:List Nat,(∀ i∈l,p (ν i)=true)→I.b6 p (dT ν l)=true
 | [],_=>rfl
 |i::l,h=>by
  have ih:=ED p l fun j hj=>h j (by simp[hj]);simp only[dT] at ih;simp only[dT,zz4,I.b6,I.only,ih,h i (by simp),Bool.and_self]
theorem EF(p:Nat→Bool):∀ n:Nat,I.b6 p (List.replicate n (.bool true))=true
 |0=>rfl
 |n+1=>by simp[List.replicate_succ,I.b6,I.only,EF p n]
theorem mf(hg:gN B ν s.all.length)(hl:∀ i∈s.aQ,i<s.all.length){n:Nat}{x:ao}(h:aj (dZ B ν s) n=some x):x.only (av (dZ B ν s))=true∧x.eg=true:=by
 have hin:∀ n,(B≤n∧n≤B+4)→av (dZ B ν s) n=true:=fun n hn=>(dM hg).2 (.inl hn);rcases zf B ν s.all.length n with ab | ab | ab | ab | ab | ⟨ab,i,hi,e⟩ | ⟨ab,hn⟩
 ·subst ab;rw[fH] at h;cases h;simp[ao.only,I.only,I.b6,ao.eg,oE,hin]
 ·subst ab;rw[gj] at h;cases h;simp only[qC,ao.only,eN,EF,Bool.and_self,ao.eg,true_and]
 ·subst ab;rw[gz] at h;cases h;refine ⟨?_,rfl⟩;simp only[pH,ao.only,eN,Bool.true_and];exact ED _ _ fun i hi=>(dM hg).2 (.inr ⟨i,hl i hi,rfl⟩)
 ·subst ab;rw[gA] at h;cases h;simp only[sk,ao.only,eN,Bool.and_self,ao.eg,true_and]
 ·subst ab;rw[pS] at h;cases h;exact ⟨Yz _ (hin _ (by omega)),rfl⟩
 ·subst e;rw[jE hg hi] at h;cases h;exact ⟨cv _ _,rfl⟩
 ·rw[eI ab hn] at h;cases h
theorem aad(hg:gN 1000000 ν s.all.length)(h:∀ i,i<s.all.length→1000000≤ν i):∀ m,av (dZ 1000000 ν s) m=true→1000000≤m:=fun m hm=>by
 rcases (dM hg).1 hm with ab | ⟨i,hi,rfl⟩
 ·omega
 ·exact h i hi
end
def j8(s:az):I:=.dk (s.bu.map enc) (s.aQ.map fun i=>.ref (enc (s.bh i)))
def kn(l:List Int):I:=.dk (l.map enc) (List.replicate l.length (.bool true))
def kU(s:az):I:=.dk (s.db.map enc) (s.bN.map enc)
def tY:I:=.dk hZ (List.replicate 8 .any)
def gi(s:az):I:=.agg [.int .i64 s.aB,kn s.here,j8 s,.int .i64 s.all.length,kU s,tY]
theorem rN:∀ n:Nat,I.b9 (List.replicate n (.bool true))=true
 |0=>rfl
 |n+1=>by simp[List.replicate_succ,I.b9,I.bC,rN n]
theorem wO{α:Type}[Enc α](f:Nat→α):∀ l:List Nat,I.b9 (l.map fun i=>.ref (enc (f i)))=true
 | []=>rfl
 |i::l=>by simp[I.b9,I.bC,kl,wO f l]
theorem BN(s:az):(gi s).bC=true:=by
 simp[gi,kn,j8,kU,tY,hZ,I.bC,I.b9,iJ,rN,wO,List.replicate]
theorem xh{A:ai}{m:Nat}{x:I}(h:x.bC=true):c4 A (m+1) x=some x:=by simp[c4,h]
theorem xX{A:ai}{m:Nat} : ∀ {l:List I},I.b9 l=true→fZ (c4 A (m+1)) l=some l
 | [],_=>rfl
 |x::l,h=>by
  simp only[I.b9,t8] at h;simp only[fZ,xh h.1,xX h.2]
theorem ui{A:ai}{m n:Nat}{ks vs vs':List I}(ho:A.o n=some (.bA ks vs))(hk:I.b9 ks=true)(hv:fZ (c4 A m) vs=some vs'):c4 A (m+1) (.mref n)=some (.dk ks vs'):=by
 simp only[c4,I.bC,zz3,if_false,ho,hk,if_true,hv,zy2]
theorem D8{A:ai}{m:Nat}{ν:Nat→Nat}{f:Nat→dI} : ∀ {l:List Nat},(∀ i∈l,A.o (ν i)=some (.box (enc (f i))))→fZ (c4 A (m+2)) (dT ν l)=some (l.map fun i=>.ref (enc (f i)))
 | [],_=>rfl
 |i::l,h=>by
  have ih:=D8 (m:=m) (l:=l) fun j hj=>h j (by simp[hj]);simp only[dT] at ih;have U:c4 A (m+2) (.ptr (ν i) [])=some (.ref (enc (f i))):=by
   have hcl:(I.ptr (ν i) []).bC=false:=by simp[I.bC]
   rw[c4];simp only[hcl,zz3,if_false,cJ,h i (by simp),I.at,xh (kl (f i)),zy2]
  simp only[dT,zz4,fZ,U,ih]
structure zE (A:ai) (B:Nat) (ν:Nat→Nat) (s:az):Prop where
 aZ:A.o B=some (.box (oE B s.aB s.all.length))
 U:A.o (B+1)=some (qC s.here)
 ab:A.o (B+2)=some (pH ν s)
 af:A.o (B+3)=some (sk s)
 aq:A.o (B+4)=some (qm B)
 aJ:∀ i,i<s.all.length→A.o (ν i)=some (.box (enc (s.bh i)))
 cP:∀ i∈s.aQ,i<s.all.length
theorem ik{A:ai}{B:Nat}{ν:Nat→Nat}{s:az}(h:zE A B ν s)(m:Nat):c4 A (m+5) (oE B s.aB s.all.length)=some (gi s):=by
 have i0:∀ (k:IntKind) (v:Int),c4 A (m+4) (.int k v)=some (.int k v):=fun _ _=>xh (m:=m+3) rfl;have i1:c4 A (m+4) (.mref (B+1))=some (kn s.here):=ui h.U (iJ _) (xX (m:=m+2) (rN _));have i2:c4 A (m+4) (.mref (B+2))=some (j8 s):=ui h.ab (iJ _) (D8 (m:=m+1) fun i hi=>h.aJ i (h.cP i hi));have i3:c4 A (m+4) (.mref (B+3))=some (kU s):=ui h.af (iJ _) (xX (m:=m+2) (iJ _));have i4:c4 A (m+4) (.mref (B+4))=some tY:=ui h.aq (by simp[hZ,I.b9,I.bC]) (by
  have hf:∀ k:Nat,1000000≤k→c4 A (m+3) (.func k [.ptr B []])=some .any:=fun k hk=>by
   rw[c4];have hcl:(I.func k [.ptr B []]).bC=false:=by simp[I.bC,I.b9]
   simp only[hcl,zz3,if_false,if_neg (show ¬ k<1000000 by omega)]
  simp only[fZ,hf 1000064 (by decide),hf 1000065 (by decide),hf 1000066 (by decide),hf 1000067 (by decide),hf 1000068 (by decide),hf 1000069 (by decide),hf 1000070 (by decide),hf 1000071 (by decide)];rfl)
 rw[oE,c4];simp only[I.bC,I.b9,Bool.and_false,Bool.false_and,zz3,if_false,fZ,i0,i1,i2,i3,i4,zy2];rfl
def c7(s:az):I:=.ref (gi s)
theorem nC(s:az):(c7 s).bC=true:=by simp only[c7,I.bC,BN]
theorem Cj:(∀ A s,jy A 0 0 (c7 s)=some (.ref (.int .i64 s.aB)))∧(∀ A s,jy A 1 1 (c7 s)=some (.ref (kn s.here)))∧(∀ A s,jy A 2 2 (c7 s)=some (.ref (j8 s)))∧(∀ A s,jy A 3 3 (c7 s)=some (.ref (.int .i64 s.all.length))) ∧
  (∀ A s,jy A 4 4 (c7 s)=some (.ref (kU s))):=by
 refine ⟨fun A s =>?_,fun A s =>?_,fun A s =>?_,fun A s =>?_,fun A s =>?_⟩ <;>simp[c7,gi,jy,I.dP,rW,qz,dR,I.sizes,I.size,kn,j8,kU,tY]
theorem WH(l:List Int):(kn l).bC=true:=by simp only[kn,I.bC,iJ,rN,Bool.and_self]
theorem Zx(s:az):(j8 s).bC=true:=by simp only[j8,I.bC,iJ,wO,Bool.and_self]
theorem WY(s:az):(kU s).bC=true:=by simp only[kU,I.bC,iJ,Bool.and_self]
theorem dh:(type_of% @Cj)∧(∀ s,(c7 s).bC=true)∧(∀ aJ A s,bn aJ A (c7 s)=some (c7 s))∧(∀ s,(c7 s).bT=true)∧(∀ s,b8 none (c7 s)=true)∧(∀ s,mU (c7 s)=some (c7 s))∧(∀ p s,(c7 s).only p=true) ∧
  (∀ l,(kn l).bT=true)∧(∀ l,b8 none (kn l)=true)∧(∀ l,(j8 l).bT=true)∧(∀ l,b8 none (j8 l)=true)∧(∀ l,(kU l).bT=true)∧(∀ l,b8 none (kU l)=true)∧(∀ l,(kn l).bC=true)∧(∀ l,(j8 l).bC=true)∧(∀ l,(kU l).bC=true) ∧
  (∀ A l,gx A (kn l)=some (l.map enc,List.replicate l.length (.bool true)))∧(∀ A s,gx A (j8 s)=some (s.bu.map enc,s.aQ.map fun i=>.ref (enc (s.bh i))))∧(∀ A s,gx A (kU s)=some (s.db.map enc,s.bN.map enc)) ∧
  (∀ x,b8 none (.ref x)=true)∧(∀ x,mU (.ref x)=some (.ref x)) :=
 ⟨Cj,nC,fun aJ A s=>by
  have h:=nC s;simp only[c7,I.bC] at h;simp only[c7,bn,h,if_true],fun _=>rfl,fun _=>rfl,fun _=>rfl,fun p s=>kD p _ (nC s),fun _=>rfl,fun _=>rfl,fun _=>rfl,fun _=>rfl,fun _=>rfl,fun _=>rfl,WH,Zx,WY,
  fun _ _=>rfl,fun _ _=>rfl,fun _ _=>rfl,fun _=>rfl,fun _=>rfl⟩
theorem Es{A:ai}{d:Option Nat}{n:Nat}{rest:List aw}{ks vs:List I}{cur:Option Nat} : qR A d n rest (some (.it ks vs [] cur))=aA rest (A.aX d (.tuple [.bool false])):=by
 simp only[qR,if_true]
theorem aT.iR{P:Program}{Y:Value→List I→List (Nat×ao)→cA→Prop}{K:ai→Prop}{A:ai}{d:Option Nat}{n:Nat}{rest:List aw}{ks vs:List I}{left:List Nat}{cur:Option Nat}(hl:left≠[])
  (h:∀ i,i∈left→∃ kk x,ks[i]?=some kk∧vs[i]?=some x∧aT P Y false K (aA rest ((A.aV n (.it ks vs (left.filter (· != i)) (some i))).aX d (.tuple [.bool true,kk,x])))) :
  aT P Y false K (qR A d n rest (some (.it ks vs left cur))):=by
 simp only[qR,if_neg hl];refine .any rfl fun i hi =>?_;obtain ⟨kk,x,U,ab,af⟩:=h i hi;simp only[U,ab];exact af
theorem DR{n i:Nat}{aD left:List Nat}(hC:(aD++left).Perm (List.range n))(hi:i∈left):(left.filter (· != i)).length<left.length∧((aD++[i])++left.filter (· != i)).Perm (List.range n):=by
 refine ⟨?_,?_⟩
 ·rcases Nat.lt_or_ge (left.filter (· != i)).length left.length with h | h
  ·exact h
  ·have:=List.filter_eq_self.1 (List.Sublist.eq_of_length_le List.filter_sublist h) i hi;simp at this
 have hnd:left.Nodup:=(zv2.1 (hC.nodup_iff.2 List.nodup_range)).2.1;have U:left.Perm (i::left.filter (· != i)):=by
  have ab:(left.filter (· == i)).length=1:=by
   have:=List.nodup_iff_count.1 hnd i;have af:=List.count_pos_iff.2 hi;have aq:left.count i=(left.filter (· == i)).length:=by rw[List.count,List.countP_eq_length_filter]
   omega
  have h5:left.filter (· == i)=[i]:=by
   obtain ⟨a,ha⟩:=List.length_eq_one_iff.1 ab;have:a∈left.filter (· == i):=by rw[ha];simp
   have:=(zx5.1 this).2;simp at this;rw[ha,this]
  have h6:=(List.filter_append_perm (· == i) left).symm;rw[h5] at h6;exact h6
 refine List.Perm.trans ?_ hC;rw[zz9];exact (U.symm).append_left aD
def zK(s:az)(b:Int)(t:List Nat×List Nat×Option Nat):ai :=
 au [(0,c7 s),(1,.int .i64 b),(11,.dp 11)] [(11,.it (s.bu.map enc) (s.aQ.map fun i=>.ref (enc (s.bh i))) t.2.1 t.2.2)]
theorem rv(s:az)(b:Int):bm Tryd.prog 34 [c7 s,enc b] (enc (s.fN b)):=by
 refine bm.cg Tryd.func34 J0 KU LV (u8 rfl) (fun hwf W0 bO E1 =>?_);simp only[AJ,Fv,bQ,zz1];clear hwf;refine .gy (by decide +kernel) fun K hK =>?_;simp only[CO,bK,simprocAttr];refine .done (hK _ ?_);clear hK K;refine ae.seq (ae.seq ?_);refine .kI (by decide +kernel) fun K hK =>?_;simp only[CP,bK,simprocAttr]
 try simp only[dh,j8,br,n7,bK,simprocAttr]
 refine .done (hK _ ?_);clear hK K;try simp only[eb]
 have hlen:s.bu.length=s.aQ.length:=by simp[az.bu]
 refine ae.block (ae.loop (zK s b) (fun t=>(t.1++t.2.1).Perm (List.range s.aQ.length)∧∀ i∈t.1,(s.bh (s.aQ.getD i 0)).aC≠b) (fun t=>t.2.1.length) ([],List.range s.aQ.length,none) ⟨by simp,by simp⟩ ?_ ?_)
 ·refine bt.slots ?_ (fun n =>?_)
  ·simp[cn,cw]
  ·simp only[cW,sw,zz7,hlen]
 rintro ⟨aD,left,cur⟩ ⟨hC,hA⟩;simp only at hC hA;simp only[zK];by_cases hl:left=[]
 ·subst hl;have hno:s.fN b=false:=by
   simp only[az.fN,az.vv,List.any_map,List.any_eq_false,Function.comp,decide_eq_true_eq];intro i hi e;obtain ⟨k,hk,rfl⟩:=List.mem_iff_getElem.1 hi;have hm:k∈aD:=(show aD.Perm _ by simpa using hC).mem_iff.2 (zy9.2 hk);have:=hA k hm;simp only[zz0,zx0 hk,Option.getD_some] at this;exact this e
  refine .gy (by decide +kernel) fun K hK =>?_;simp only[xt,bK,simprocAttr]
  try simp only[n7,Es,bK,simprocAttr]
  refine .done (hK _ ?_);clear hK K;refine ae.seq ?_;refine ae.jW ?_;simp only[aF,bK,simprocAttr];refine ⟨fun h =>?_,fun h =>?_⟩
  case refine_1=>cases h
  refine ae.exit ?_;try simp only[eb,jL,simprocAttr]
  rw[hno];have R:=aK
  repeat' ((first |(with_reducible refine .guard (fun hb =>?_) (fun hb =>?_) <;>try simp only[hb])|refine ae.aM (by decide +kernel) rfl fun K hK =>?_|(refine .aD [0,1,4,6,11,13,21] hK ?_;clear hK K)|(with_reducible refine .done (hK _ ?_);clear hK K)|refine ae.of rfl ?_|(with_reducible refine aF.aL (fun h =>?_) (fun h =>?_) <;>try simp only[h])) <;>try simp only[aN,R,simprocAttr])
  all_goals clear R
 ·refine .gy (by decide +kernel) fun K hK =>?_;simp only[xt,bK,simprocAttr]
  try simp only[n7,bK,simprocAttr]
  refine aT.iR hl fun i hi =>?_;have hib:i<s.aQ.length:=zy9.1 (hC.mem_iff.1 (by simp[hi]));obtain ⟨hm,hC2⟩:=DR hC hi;have hk1:(s.bu.map (enc (α:=Int)))[i]?=some (enc (((s.aQ[i]:Nat):Int)+1)):=by simp[az.bu,hib]
  have hk2:(s.aQ.map fun i=>I.ref (enc (s.bh i)))[i]?=some (.ref (enc (s.bh s.aQ[i]))):=by simp[hib]
  refine ⟨_,_,hk1,hk2,?_⟩;have hent:nU (s.bu.map enc) (s.aQ.map fun i=>I.ref (enc (s.bh i))) (some i)=some (.tuple [enc (((s.aQ[i]:Nat):Int)+1),.ref (enc (s.bh s.aQ[i]))]):=by
   simp only[nU,hk1,hk2]
  have hx:s.aQ.getD i 0=s.aQ[i]:=by simp[zz0,hib]
  try simp only[bK,simprocAttr]
  refine .done (hK _ ?_);clear hK K;refine ae.seq ?_;refine ae.jW ?_;simp only[aF,bK,simprocAttr];refine ⟨fun h =>?_,fun h =>?_⟩
  case refine_2=>cases h
  refine ae.skip ?_;try simp only[eb,simprocAttr]
  refine ae.block ?_;rcases q:((s.bh s.aQ[i]).aC==b)
  ·have R:=y6 @hent (y6 @q aK)
   repeat' ((first |(with_reducible refine .guard (fun hb =>?_) (fun hb =>?_) <;>try simp only[hb])|refine ae.aM (by decide +kernel) rfl fun K hK =>?_|(refine .aD [0,1,4,6,11,13,21] hK ?_;clear hK K)|(with_reducible refine .done (hK _ ?_);clear hK K)|refine ae.of rfl ?_|(with_reducible refine aF.aL (fun h =>?_) (fun h =>?_) <;>try simp only[h])) <;>try simp only[aN,R,simprocAttr])
   all_goals clear R
   refine ⟨(aD++[i],left.filter (· != i),some i),⟨hC2,fun j hj =>?_⟩,hm,?_⟩
   ·rcases zy4.1 hj with hj | hj
    ·exact hA j hj
    ·rw[zy1.1 hj,hx];simpa using q
   ·simp only[];refine bt.slots ?_ (fun n =>?_)
    ·simp[cn,cw]
    ·simp only[cW,sw];(repeat' split) <;>simp_all
  ·have hyes:s.fN b=true:=by
    simp only[az.fN,az.vv,List.any_map,List.any_eq_true,Function.comp,decide_eq_true_eq];exact ⟨s.aQ[i],zw7 hib,by simpa using q⟩
   rw[hyes];have R:=y6 @hent (y6 @q aK)
   repeat' ((first |(with_reducible refine .guard (fun hb =>?_) (fun hb =>?_) <;>try simp only[hb])|refine ae.aM (by decide +kernel) rfl fun K hK =>?_|(refine .aD [0,1,4,6,11,13,21] hK ?_;clear hK K)|(with_reducible refine .done (hK _ ?_);clear hK K)|refine ae.of rfl ?_|(with_reducible refine aF.aL (fun h =>?_) (fun h =>?_) <;>try simp only[h])) <;>try simp only[aN,R,simprocAttr])
   all_goals clear R
theorem Xi(s:az)(x:aI):∃ v:I,v.bT=true∧b8 (some 4) v=true∧v.bd=.eK [.one,.one,.one,.one]∧fu (.bl [.i .i64,.i .i64]) (.agg [.int .i64 0,.int .i64 0,.int .i64 0,.int .i64 0]) (.agg [.int .i64 x.other,.int .i64 x.no]) (s.db.map enc) (s.bN.map enc)=some (v,decide (ec x∈s.db)):=by
 have h:=uL ug (.agg [.int .i64 0,.int .i64 0,.int .i64 0,.int .i64 0]) (ec x) s.db (s.bN.map enc);have hm:=rY (k:=ec x) (ks:=s.db);have e:(enc (ec x):I)=.agg [.int .i64 x.other,.int .i64 x.no]:=rfl;rw[e] at h;rw[h,←hm];cases hf:s.db.findIdx? fun y=>decide (ec x=y) with
 |none=>exact ⟨_,rfl,rfl,rfl,rfl⟩
 |some i =>
  have hi:=(List.findIdx?_eq_some_iff_getElem.1 hf).1;have hi2:i<s.bN.length:=by simpa[az.db] using hi
  refine ⟨enc s.bN[i],eF _,by rw[fB];rfl,fg _,?_⟩;simp[hi2]
theorem tF(s:az)(x:aI):bm Tryd.prog 85 [c7 s,enc x] (enc (s.unknown x)):=by
 refine bm.cg Tryd.func85 Kn Lh Ms (u8 rfl) (fun hwf W0 bO E1 =>?_);simp only[A7,F3,bQ,zz1];clear hwf;obtain ⟨v,hv1,hv2,hv3,hlk⟩:=Xi s x;have hbld:(dY [.int .i64 0,.int .i64 0] [(0,.int .i64 x.other),(1,.int .i64 x.no)]).map I.agg=some (.agg [.int .i64 x.other,.int .i64 x.no]):=by simp[dY,I.bT,I.size]
 have hst:∀ A rest b,da A (some 4) 5 [] b v rest (some (.agg [.int .i64 0,.int .i64 0,.int .i64 0,.int .i64 0]))=aA rest (A.aV 5 (.box v)):=fun A rest b=>dS hv1 hv2 hv3;simp only[az.unknown];rcases q:(x.other != s.aB) <;>rcases q2:decide (ec x∈s.db)
 all_goals
  rw[q2] at hlk;have R:=y6 @q (y6 @hv1 (y6 @hv2 (y6 @hbld (y6 @hst (y6 @hlk (y6 @dh (y6 @br aK)))))))
  repeat' ((first |(with_reducible refine .guard (fun hb =>?_) (fun hb =>?_) <;>try simp only[hb])|refine ae.aM (by decide +kernel) rfl fun K hK =>?_|(refine .aD [0,1,3,4,6] hK ?_;clear hK K)|(with_reducible refine .done (hK _ ?_);clear hK K)|refine ae.of rfl ?_|(with_reducible refine aF.aL (fun h =>?_) (fun h =>?_) <;>try simp only[h])) <;>try simp only[aN,R,simprocAttr])
  all_goals clear R
  rfl
theorem Ce{α β:Type}(f:α→β):∀ (l:List α) (k:Nat),(l.map f).eraseIdx k=(l.eraseIdx k).map f
 | [],_=>rfl
 |_::_,0=>rfl
 |x::l,k+1=>by simp only[zz4,List.eraseIdx_cons_succ,Ce f l k]
section
variable {α ι:Type} [Enc α] [DecidableEq α] [DecidableEq ι] {ty:cD}
omit [Enc α] [DecidableEq ι] in
theorem Cx(f:ι→α)(g:ι→I)(z:I)(k:α):∀ l:List ι,(match (l.map f).findIdx? fun x=>decide (k=x) with
   |some i=>((l.map g)[i]?).map fun v=>(v,true)
   |none=>some (z,false))=(match l.find? fun i=>decide (k=f i) with
   |some i=>some (g i,true)
   |none=>some (z,false))
 | []=>rfl
 |x::l=>by
  have ih:=Cx f g z k l;simp only[zz4,List.findIdx?_cons,List.find?_cons];by_cases h:k=f x
  ·simp[h]
  ·simp only[h,decide_false,zz3,if_false];rw[←ih];cases (l.map f).findIdx? fun x=>decide (k=x) with
   |none=>rfl
   |some i=>simp
omit [DecidableEq ι] in
theorem xT(ay:∀ x y:α,b7 ty (enc x) (enc y)=some (decide (x=y)))(f:ι→α)(g:ι→I)(z:I)(k:α)(l:List ι) :
  fu ty z (enc k) ((l.map f).map enc) (l.map g)=match l.find? fun i=>decide (k=f i) with
   |some i=>some (g i,true)
   |none=>some (z,false):=by
 exact (uL ay z k _ _).trans (Cx f g z k l)
theorem Eb(ay:∀ x y:α,b7 ty (enc x) (enc y)=some (decide (x=y)))(f:ι→α)(g:ι→I)(hf:∀ a b,f a=f b→a=b){l:List ι}{i:ι}(hi:i∈l) :
  mS ty (enc (f i)) ((l.map f).map enc) (l.map g)=some (((l.erase i).map f).map enc,(l.erase i).map g):=by
 have hf2:∀ a,(f i=f a)=(i=a):=fun a=>propext ⟨hf i a,fun e=>by rw[e]⟩;have key:∀ l:List ι,i∈l→∃ k,(l.map f).findIdx? (fun x=>decide (f i=x))=some k∧l.eraseIdx k=l.erase i:=by
  intro l
  induction l with
  |nil=>intro h;cases h
  |cons x l ih =>
   intro h;simp only[zz4,List.findIdx?_cons,hf2];by_cases e:i=x
   ·subst e;exact ⟨0,by simp,by simp⟩
   ·obtain ⟨k,U,ab⟩:=ih (by simpa[e] using h);refine ⟨k+1,?_,?_⟩
    ·simp only[e,decide_false,zz3,if_false,U,zy2]
    ·rw[List.eraseIdx_cons_succ,ab,List.erase_cons_tail (by simpa using fun h=>e h.symm)]
 obtain ⟨k,U,ab⟩:=key l hi;simp only[mS,ay,Option.isSome_some,if_true,uq ay,U,zy2,Nat.add_zero];rw[←ab];simp only[Ce]
end
theorem Gq(l:List Int):List.replicate l.length (I.bool true)=l.map fun _=>.bool true:=by
 induction l with
 |nil=>rfl
 |cons x l ih=>simp[List.replicate_succ,ih]
theorem Ec{l:List Int}{b:Int}(h:b∈l):mS (.i .i64) (.int .i64 b) (l.map enc) (List.replicate l.length (.bool true))=some ((l.erase b).map enc,List.replicate (l.erase b).length (.bool true)):=by
 have:=Eb eU (fun x:Int=>x) (fun _=>.bool true) (fun _ _ h=>h) h;simp only[List.map_id',eJ] at this;rw[Gq,Gq];exact this
theorem iw{s:az}{no:Int}{i:Nat}(h:s.at no=some i):i∈s.aQ∧no=(i:Int)+1 :=
 ⟨List.mem_of_find?_eq_some h,by simpa using List.find?_some h⟩
theorem uM{s:az}(g:Nat→I)(no:Int):fu (.i .i64) .nilp (.int .i64 no) (s.bu.map enc) (s.aQ.map g)=match s.at no with
   |some i=>some (g i,true)
   |none=>some (.nilp,false):=by
 have h:=xT eU (fun i:Nat=>(i:Int)+1) g .nilp no s.aQ;rw[eJ] at h;refine h.trans ?_;unfold az.at;generalize s.aQ.find? (fun i:Nat=>decide (no=(i:Int)+1))=q;cases q <;>rfl
theorem Ed{s:az}(g:Nat→I){i:Nat}(h:i∈s.aQ):mS (.i .i64) (.int .i64 ((i:Int)+1)) (s.bu.map enc) (s.aQ.map g)=some (({ s with aQ:=s.aQ.erase i } : az).bu.map enc,(s.aQ.erase i).map g) :=
 Eb eU (fun i:Nat=>(i:Int)+1) g (fun a b h=>by omega) h
theorem mX{s:az}{x:aI}{i:Nat}(h:s.on x=some i):s.at x.no=some i∧(s.bh i).to=x.other∧(s.bh i).aC=x.aC:=by
 simp only[az.on] at h;split at h
 ·rename_i j hj;split at h
  ·rename_i hh;cases h;exact ⟨hj,hh⟩
  ·cases h
 ·cases h
def eM(s:az)(x:aI):Option az :=
 if x.kind=1 then if x.aC∈s.here∨s.fN x.aC=true then none else some { s with here:=fP s.here x.aC }
 else if x.kind=2 then if x.aC∈s.here then some { s with here:=s.here.erase x.aC } else none
 else if x.kind=3 then if x.aC∈s.here∧x.other≠s.aB∧x.no=(s.all.length:Int)+1 then
  some { s with here:=s.here.erase x.aC,all:=s.all++[⟨x.no,x.other,x.aC,false⟩],aQ:=s.aQ++[s.all.length] } else none
 else if x.kind=4 then match s.on x with
  |some i=>if (s.bh i).ev then none else some { s with all:=s.all.set i { s.bh i with ev:=true } }
  |none=>none
 else if x.kind=5 then match s.on x with
  |some i=>some { s with aQ:=s.aQ.erase i }
  |none=>none
 else if x.kind=6 then match s.on x with
  |some i=>if (s.bh i).ev then some { s with aQ:=s.aQ.erase i,here:=fP s.here x.aC } else none
  |none=>none
 else if x.kind=7 then if s.unknown x=true∧x.aC∉s.here∧s.fN x.aC=false then some { s with bN:=s.bN++[x],here:=fP s.here x.aC } else none
 else if x.kind=8 then if s.unknown x=true then some { s with bN:=s.bN++[x] } else none
 else none
def eS(s:az)(x:aI):Option az:=if gU x then eM s x else none
structure cG (s:az):Prop where
 cP:∀ i∈s.aQ,i<s.all.length
 kB:s.aQ.Nodup
 ah:s.here.Nodup
theorem qa{l:List Int}{b:Int}(h:l.Nodup):(fP l b).Nodup:=by
 unfold fP;split
 ·exact h
 ·rename_i hb;exact zv2.2 ⟨h,by simp,fun a ha c hc e=>by rw[zy1.1 hc] at e;exact hb (e▸ha)⟩
theorem cG.next{s s':az}{x:aI}(h:cG s)(hn:eM s x=some s'):cG s'∧s'.aB=s.aB∧s'.all.length≤s.all.length+1∧(x.kind≠3→s'.all.length=s.all.length):=by
 obtain ⟨U,ab,af⟩:=h;simp only[eM] at hn;split at hn
 ·split at hn <;>cases hn
  exact ⟨⟨U,ab,qa af⟩,rfl,by simp,fun _=>rfl⟩
 split at hn
 ·split at hn <;>cases hn
  exact ⟨⟨U,ab,af.erase _⟩,rfl,by simp,fun _=>rfl⟩
 split at hn
 ·rename_i hk;split at hn <;>cases hn
  refine ⟨⟨fun i hi =>?_,?_,af.erase _⟩,rfl,by simp,fun h=>absurd hk h⟩
  ·simp only[zy4,zy1] at hi;simp only[zz6,List.length_singleton];rcases hi with hi | hi
   ·have:=U i hi;omega
   ·omega
  ·exact zv2.2 ⟨ab,by simp,fun a ha c hc e=>by rw[zy1.1 hc] at e;have:=U a ha;omega⟩
 split at hn
 ·split at hn
  ·split at hn <;>cases hn
   exact ⟨⟨fun i hi=>by simpa using U i hi,ab,af⟩,rfl,by simp,fun _=>by simp⟩
  ·cases hn
 split at hn
 ·split at hn <;>cases hn
  exact ⟨⟨fun i hi=>U i (List.mem_of_mem_erase hi),ab.erase _,af⟩,rfl,by simp,fun _=>rfl⟩
 split at hn
 ·split at hn
  ·split at hn <;>cases hn
   exact ⟨⟨fun i hi=>U i (List.mem_of_mem_erase hi),ab.erase _,qa af⟩,rfl,by simp,fun _=>rfl⟩
  ·cases hn
 split at hn
 ·split at hn <;>cases hn
  exact ⟨⟨U,ab,qa af⟩,rfl,by simp,fun _=>rfl⟩
 split at hn
 ·split at hn <;>cases hn
  exact ⟨⟨U,ab,af⟩,rfl,by simp,fun _=>rfl⟩
 cases hn
theorem iq{ts:List (Nat×I)}{os:List (Nat×ao)}{B:Nat}{ν:Nat→Nat}{s:az}(hg:gN B ν s.all.length)(hl:∀ i∈s.aQ,i<s.all.length)(h:∀ n,av (dZ B ν s) n=true→aj os n=aj (dZ B ν s) n):zE (au ts os) B ν s:=by
 have go:∀ n x,aj (dZ B ν s) n=some x→(au ts os).o n=some x:=fun n x hx=>(h n (by simp[av,hx])).trans hx;refine ⟨go _ _ fH,go _ _ gj,go _ _ gz,go _ _ gA,go _ _ pS,fun i hi =>?_,hl⟩;rw[go _ _ (jE hg hi)];simp[az.bh,zz0,hi]
def fI:List PanicEntry:=[{ v:=.iface 112 (.agg #[]),recovered:=false }]
theorem Xr(w:World):Calls Tryd.prog 58 #[.bool false] w fun e w'=>e=.panicked fI∧w'=w:=by
 go_enter Tryd.func58,Tryd.ntmps58
 go_wp2
 exact ⟨rfl,rfl,rfl⟩
theorem HX:fj Tryd.prog 58 fI [enc false] [] (fun os'=>os'=[]) :=
 fj.YM Bj (fun w D vs hv=>by
  have hv':aG w D dn [.bool false] vs:=hv;simp only[aG] at hv';obtain ⟨v,rest,cs,rfl,U,ab,rfl⟩:=hv';have:v=.bool false:=lg (jY U ab);subst this;exact Xr w) rfl
theorem lu:bm Tryd.prog 58 [enc true] (.tuple []):=by
 refine bm.cg Tryd.func58 Bj Lb Md (u8 rfl) (fun hwf W0 bO E1 =>?_);simp only[AZ,FN,bQ];have R:=y6 @oF @bK
 repeat' ((first |(with_reducible refine .guard (fun hb =>?_) (fun hb =>?_) <;>try simp only[hb])|refine ae.aM (by decide +kernel) rfl fun K hK =>?_|(refine .aD [0,3] hK ?_;clear hK K)|(with_reducible refine .done (hK _ ?_);clear hK K)|refine ae.of rfl ?_|(with_reducible refine aF.aL (fun h =>?_) (fun h =>?_) <;>try simp only[h])) <;>try simp only[aN,R,simprocAttr])
 all_goals clear R
 all_goals rfl
theorem Zd:tG Tryd.prog 57:=⟨Bi,fun b T w x hb=>by
 refine callsDIn_of_wpSIn Tryd.func57 rfl trivial fun c₀ cs hu =>?_;apply wpSIn_seq;apply wpSIn_region;simp[wpOpsSIn,go_sem,recoverD,hu,Tryd.ntmps57,Exit.thenS];apply wpSIn_seq;apply wpSIn_region;simp[wpOpsSIn,go_sem,Exit.thenS];refine wpSIn_cond (t:=false) (by simp[Act.eval,Array.replicate]) ?_;simp only[zz3,if_false];refine wpSIn_of_wpIn rfl (wpIn_skip ?_);cases c₀
 simp_all[bodyPostS,results,Tryd.results57]⟩
theorem Zc:tB Tryd.prog 57 fI:=⟨Bi,fun b T w x hb=>by
 have hc:w.cell? ⟨b,0,none⟩=some (.bool x):=by simp[World.cell?,hb]
 have hz:w.frozen? ⟨b,0,none⟩=false:=by simp[World.frozen?,hb]
 have hta:∀ W,(Instr.typeAssert (.iface 112 (.agg #[])) 20 112 true).run Tryd.prog W=.ok (.tuple #[.agg #[],.bool true]) W:=fun W=>by
  simp[Instr.typeAssert,run_underlying Tryd.underlying112]
 refine callsDIn_of_wpSIn Tryd.func57 rfl trivial fun c₀ cs hu =>?_;apply wpSIn_seq;apply wpSIn_region;simp[wpOpsSIn,go_sem,recoverD,hu,Tryd.ntmps57,Exit.thenS,fI];apply wpSIn_seq;apply wpSIn_region;simp[wpOpsSIn,go_sem,Exit.thenS];refine wpSIn_cond (t:=true) (by simp[Act.eval,Array.replicate]) ?_;simp only[if_true];apply wpSIn_seq;apply wpSIn_seq;apply wpSIn_region;simp[wpOpsSIn,go_sem,Exit.thenS,hta];apply wpSIn_seq;apply wpSIn_region;simp[wpOpsSIn,go_sem,Exit.thenS];refine wpSIn_cond (t:=false) (by simp[Act.eval,Array.replicate]) ?_;simp only[zz3,if_false];refine wpSIn_of_wpIn rfl (wpIn_skip ?_);simp only[Exit.thenS];have hb2:(w.alloc (.cells #[] 112)).heap[b]?=some (.cells #[.bool x] T (0,0)):=(RowKit.Below.heap_alloc _ _ _ (fS hb)).trans hb;have hc2:(w.alloc (.cells #[] 112)).cell? ⟨b,0,none⟩=some (.bool x):=by simp[World.cell?,hb2]
 have hz2:(w.alloc (.cells #[] 112)).frozen? ⟨b,0,none⟩=false:=by simp[World.frozen?,hb2]
 apply wpSIn_region;simp[wpOpsSIn,go_sem,hc2,hz2,bodyPostS,results,Tryd.results57];exact ⟨rfl,_,rI _ _,rfl⟩⟩
abbrev aO(s:az):List (Nat×ao):=dZ 1000000 (bF 1000000) s
def od(s:az):cA:=fun r os'=>r=.tuple []∧os'=aO s
def kG(s:az)(os':List (Nat×ao)):Prop:=os'=aO s
theorem dF(k:Nat):gN 1000000 (bF 1000000) k:=gN.bF _ _
theorem dx{s:az} : ∀ m,av (aO s) m=true→1000000≤m:=aad (dF _) fun i _=>by simp[bF];omega
theorem ja{s:az}(hk:cG s){n:Nat}{x:ao}(h:aj (aO s) n=some x):x.only (av (aO s))=true∧x.eg=true:=mf (dF _) hk.cP h
theorem nk{ts:List (Nat×I)}{os os':List (Nat×ao)}{post:cA}(ho:∀ n,av os' n=true→aj os n=aj os' n)(hg:∀ n x,aj os' n=some x→x.only (av os')=true∧x.eg=true)(hp:post (kF []) os'):jw [] post (au ts os) :=
 ⟨os',[],fun n x hx=>⟨by show aj os n=some x;rw[ho n (by simp[av,hx])];exact hx,hg n x hx⟩,trivial,hp⟩
theorem nl(rs post)(A:ai):pF rs post .normal A=jw rs post A:=rfl
theorem iV{Q:Exit→ai→Prop}{ts:List (Nat×I)}{os0:List (Nat×ao)}(hq:Q (.panic fI) (au ts os0)):oN Tryd.prog Q 58 [.bool false] (au ts os0) :=
 .mk false [] [] [enc false] fI _ HX ⟨fun m x h=>by simp[aj] at h,fun m m' h=>by simp[av,aj] at h⟩ ⟨.inl ⟨rfl,rfl,rfl⟩,trivial⟩
  (fun os' h=>by subst h;exact ⟨fun m x h=>by simp[aj] at h,fun m m' h=>by simp[av,aj] at h,fun m h=>h,fun m h=>by simp[av,aj] at h,rfl,fun h=>by cases h⟩) (fun os' h=>by subst h;exact hq)
theorem iv{s:az}(hk:cG s){ts:List (Nat×I)}{z:ao} : yw fI (kG s) (.panic fI) (au ts ((3,z)::aO s)) :=
 ⟨rfl,nk (fun n hn=>by have:=dx n hn;simp only[aj];rw[if_neg (by omega)]) (fun _ _ h=>ja hk h) ⟨rfl,rfl⟩⟩
theorem bw:(∀ (a b:Int) v,dR [.int .i64 a,.mref 1000001,.mref 1000002,.int .i64 b,.mref 1000003,.mref 1000004] 0 0 v=some v)∧(∀ (a b:Int) v,dR [.int .i64 a,.mref 1000001,.mref 1000002,.int .i64 b,.mref 1000003,.mref 1000004] 1 1 v=some v)∧(∀ (a b:Int) v,dR [.int .i64 a,.mref 1000001,.mref 1000002,.int .i64 b,.mref 1000003,.mref 1000004] 2 2 v=some v)∧(∀ (a b:Int) v,dR [.int .i64 a,.mref 1000001,.mref 1000002,.int .i64 b,.mref 1000003,.mref 1000004] 3 3 v=some v)∧(∀ (a b:Int) v,dR [.int .i64 a,.mref 1000001,.mref 1000002,.int .i64 b,.mref 1000003,.mref 1000004] 4 4 v=some v)∧(∀ (a b:Int) v,dR [.int .i64 a,.mref 1000001,.mref 1000002,.int .i64 b,.mref 1000003,.mref 1000004] 5 5 v=some v)∧(∀ a b c d e:I,(I.agg [a,.mref 1000001,b,c,d,e]).bC=false) :=
 ⟨fun _ _ _=>rfl,fun _ _ _=>rfl,fun _ _ _=>rfl,fun _ _ _=>rfl,fun _ _ _=>rfl,fun _ _ _=>rfl,fun a b c d e=>by simp[I.bC,I.b9]⟩
theorem H2(s:az)(hk:cG s)(x:aI)(hy:x.aC∉s.here∧s.fN x.aC=false):cQ Tryd.prog 64 [.ptr 1000000 [],enc x] (aO s) (od { s with here:=fP s.here x.aC }):=by
 refine cQ.cg Tryd.func64 Bk BC Mi (u8 rfl) (u8 rfl) dx (fun hwf W0 bO E1 =>?_);simp only[wA,FT,bQ,zz1];clear hwf;have n3:aj (aO s) 3=none:=eI (.inl (by omega)) fun i _=>by simp[bF];omega
 have aZ:aj (aO s) 1000000=some (.box (.agg [.int .i64 s.aB,.mref 1000001,.mref 1000002,.int .i64 s.all.length,.mref 1000003,.mref 1000004])):=fH;have U:aj (aO s) 1000001=some (.bA (s.here.map enc) (List.replicate s.here.length (.bool true))):=gj;have ab:aj (aO s) 1000002=some (.bA (s.bu.map enc) (dT (bF 1000000) s.aQ)):=gz;have af:aj (aO s) 1000003=some (.bA (s.db.map enc) (s.bN.map enc)):=gA;have hfin:∀ ts,c4 (au ts ((3,.box (enc x))::aO s)) 9 (.agg [.int .i64 s.aB,.mref 1000001,.mref 1000002,.int .i64 s.all.length,.mref 1000003,.mref 1000004])=some (gi s):=fun ts =>
  ik (iq (dF _) hk.cP fun n hn=>by have:=dx n hn;simp only[aj];rw[if_neg (by omega)]) 4
 have hlk:=gw eU x.aC s.here;rw[eJ] at hlk;have q1:decide (x.aC∈s.here)=false:=decide_eq_false hy.1;have hF:=rv s x.aC;rw[hy.2] at hF;have hup:=x8 eU x.aC s.here;rw[eJ] at hup;have R:=y6 @n3 (y6 @aZ (y6 @U (y6 @hfin (y6 @hlk (y6 @q1 (y6 @hup (y6 @bw (y6 @br aK))))))))
 repeat' ((first |(with_reducible refine .guard (fun hb =>?_) (fun hb =>?_) <;>try simp only[hb])|refine ae.aM (by decide +kernel) rfl fun K hK =>?_|refine .flat _ (hF) rfl ?_|refine .flat _ (lu) rfl ?_|(refine .aD [0,1,3] hK ?_;clear hK K)|(with_reducible refine .done (hK _ ?_);clear hK K)|refine ae.of rfl ?_|(with_reducible refine aF.aL (fun h =>?_) (fun h =>?_) <;>try simp only[h])) <;>try simp only[aN,R,simprocAttr])
 all_goals clear R
 rw[nl];refine nk (fun n hn =>?_) (fun _ _ h=>ja (s := { s with here:=fP s.here x.aC }) ⟨hk.cP,hk.kB,qa hk.ah⟩ h) ⟨rfl,rfl⟩;have:=dx n hn;simp only[aO,dZ,aj];rw[if_neg (show ¬ n=3 by omega)]
 (repeat' split) <;>first | rfl | omega
theorem H3(s:az)(hk:cG s)(x:aI)(hy:x.aC∈s.here∨s.fN x.aC=true):fj Tryd.prog 64 fI [.ptr 1000000 [],enc x] (aO s) (kG s):=by
 refine fj.mk Tryd.func64 Bk BC (u8 rfl) (u8 rfl) dx (fun hwf W0 bO E1 =>?_);simp only[wA,bQ,zz1];clear hwf;have n3:aj (aO s) 3=none:=eI (.inl (by omega)) fun i _=>by simp[bF];omega
 have aZ:aj (aO s) 1000000=some (.box (.agg [.int .i64 s.aB,.mref 1000001,.mref 1000002,.int .i64 s.all.length,.mref 1000003,.mref 1000004])):=fH;have U:aj (aO s) 1000001=some (.bA (s.here.map enc) (List.replicate s.here.length (.bool true))):=gj;have ab:aj (aO s) 1000002=some (.bA (s.bu.map enc) (dT (bF 1000000) s.aQ)):=gz;have af:aj (aO s) 1000003=some (.bA (s.db.map enc) (s.bN.map enc)):=gA;have hfin:∀ ts,c4 (au ts ((3,.box (enc x))::aO s)) 9 (.agg [.int .i64 s.aB,.mref 1000001,.mref 1000002,.int .i64 s.all.length,.mref 1000003,.mref 1000004])=some (gi s):=fun ts =>
  ik (iq (dF _) hk.cP fun n hn=>by have:=dx n hn;simp only[aj];rw[if_neg (by omega)]) 4
 have hlk:=gw eU x.aC s.here;rw[eJ] at hlk;have hF:=rv s x.aC;rcases q1:decide (x.aC∈s.here)
 ·have q2:s.fN x.aC=true:=hy.resolve_left (by simpa using q1);rw[q2] at hF;have R:=y6 @n3 (y6 @aZ (y6 @U (y6 @hfin (y6 @hlk (y6 @q1 (y6 @bw (y6 @br aK)))))))
  repeat' ((first |(with_reducible refine .guard (fun hb =>?_) (fun hb =>?_) <;>try simp only[hb])|(refine ae.j6 (gs:=r5) 15 [] [] [0,1,2,3,4,5,6,7,8,9,10,11,12,13,14] (by decide +kernel) rfl (dy.of (by simp[gI])) fun K hK =>?_;simp only[gJ,r5,gS,zz2,zw1,List.take_zero,zx8,zx9,R,simprocAttr])|refine ae.aM (by decide +kernel) rfl fun K hK =>?_|refine .flat _ (hF) rfl ?_|(refine .aD [0,1,3] hK ?_;clear hK K)|(with_reducible refine .done (hK _ ?_);clear hK K)|refine ae.of rfl ?_|(with_reducible refine aF.aL (fun h =>?_) (fun h =>?_) <;>try simp only[h])) <;>try simp only[aN,R,simprocAttr])
  all_goals clear R
  exact .call (iV (iv hk))
 ·have R:=y6 @n3 (y6 @aZ (y6 @U (y6 @hfin (y6 @hlk (y6 @q1 (y6 @bw (y6 @br aK)))))))
  repeat' ((first |(with_reducible refine .guard (fun hb =>?_) (fun hb =>?_) <;>try simp only[hb])|(refine ae.j6 (gs:=r5) 15 [] [] [0,1,2,3,4,5,6,7,8,9,10,11,12,13,14] (by decide +kernel) rfl (dy.of (by simp[gI])) fun K hK =>?_;simp only[gJ,r5,gS,zz2,zw1,List.take_zero,zx8,zx9,R,simprocAttr])|refine ae.aM (by decide +kernel) rfl fun K hK =>?_|refine .flat _ (hF) rfl ?_|(refine .aD [0,1,3] hK ?_;clear hK K)|(with_reducible refine .done (hK _ ?_);clear hK K)|refine ae.of rfl ?_|(with_reducible refine aF.aL (fun h =>?_) (fun h =>?_) <;>try simp only[h])) <;>try simp only[aN,R,simprocAttr])
  all_goals clear R
  exact .call (iV (iv hk))
theorem H4(s:az)(hk:cG s)(x:aI)(hy:x.aC∈s.here):cQ Tryd.prog 65 [.ptr 1000000 [],enc x] (aO s) (od { s with here:=s.here.erase x.aC }):=by
 refine cQ.cg Tryd.func65 Bl BD Mj (u8 rfl) (u8 rfl) dx (fun hwf W0 bO E1 =>?_);simp only[wB,FU,bQ,zz1];clear hwf;have n3:aj (aO s) 3=none:=eI (.inl (by omega)) fun i _=>by simp[bF];omega
 have aZ:aj (aO s) 1000000=some (.box (.agg [.int .i64 s.aB,.mref 1000001,.mref 1000002,.int .i64 s.all.length,.mref 1000003,.mref 1000004])):=fH;have U:aj (aO s) 1000001=some (.bA (s.here.map enc) (List.replicate s.here.length (.bool true))):=gj;have ab:aj (aO s) 1000002=some (.bA (s.bu.map enc) (dT (bF 1000000) s.aQ)):=gz;have af:aj (aO s) 1000003=some (.bA (s.db.map enc) (s.bN.map enc)):=gA;have hfin:∀ ts,c4 (au ts ((3,.box (enc x))::aO s)) 9 (.agg [.int .i64 s.aB,.mref 1000001,.mref 1000002,.int .i64 s.all.length,.mref 1000003,.mref 1000004])=some (gi s):=fun ts =>
  ik (iq (dF _) hk.cP fun n hn=>by have:=dx n hn;simp only[aj];rw[if_neg (by omega)]) 4
 have hlk:=gw eU x.aC s.here;rw[eJ] at hlk;have q1:decide (x.aC∈s.here)=true:=decide_eq_true hy;have hdl:=Ec hy;have R:=y6 @n3 (y6 @aZ (y6 @U (y6 @hfin (y6 @hlk (y6 @q1 (y6 @hdl (y6 @bw (y6 @br aK))))))))
 repeat' ((first |(with_reducible refine .guard (fun hb =>?_) (fun hb =>?_) <;>try simp only[hb])|refine ae.aM (by decide +kernel) rfl fun K hK =>?_|refine .flat _ (lu) rfl ?_|(refine .aD [0,1,3] hK ?_;clear hK K)|(with_reducible refine .done (hK _ ?_);clear hK K)|refine ae.of rfl ?_|(with_reducible refine aF.aL (fun h =>?_) (fun h =>?_) <;>try simp only[h])) <;>try simp only[aN,R,simprocAttr])
 all_goals clear R
 rw[nl];refine nk (fun n hn =>?_) (fun _ _ h=>ja (s := { s with here:=s.here.erase x.aC }) ⟨hk.cP,hk.kB,hk.ah.erase _⟩ h) ⟨rfl,rfl⟩;have:=dx n hn;simp only[aO,dZ,aj];rw[if_neg (show ¬ n=3 by omega)]
 (repeat' split) <;>first | rfl | omega
theorem H5(s:az)(hk:cG s)(x:aI)(hy:x.aC∉s.here):fj Tryd.prog 65 fI [.ptr 1000000 [],enc x] (aO s) (kG s):=by
 refine fj.mk Tryd.func65 Bl BD (u8 rfl) (u8 rfl) dx (fun hwf W0 bO E1 =>?_);simp only[wB,bQ,zz1];clear hwf;have n3:aj (aO s) 3=none:=eI (.inl (by omega)) fun i _=>by simp[bF];omega
 have aZ:aj (aO s) 1000000=some (.box (.agg [.int .i64 s.aB,.mref 1000001,.mref 1000002,.int .i64 s.all.length,.mref 1000003,.mref 1000004])):=fH;have U:aj (aO s) 1000001=some (.bA (s.here.map enc) (List.replicate s.here.length (.bool true))):=gj;have ab:aj (aO s) 1000002=some (.bA (s.bu.map enc) (dT (bF 1000000) s.aQ)):=gz;have af:aj (aO s) 1000003=some (.bA (s.db.map enc) (s.bN.map enc)):=gA;have hfin:∀ ts,c4 (au ts ((3,.box (enc x))::aO s)) 9 (.agg [.int .i64 s.aB,.mref 1000001,.mref 1000002,.int .i64 s.all.length,.mref 1000003,.mref 1000004])=some (gi s):=fun ts =>
  ik (iq (dF _) hk.cP fun n hn=>by have:=dx n hn;simp only[aj];rw[if_neg (by omega)]) 4
 have hlk:=gw eU x.aC s.here;rw[eJ] at hlk;have q1:decide (x.aC∈s.here)=false:=decide_eq_false hy;have R:=y6 @n3 (y6 @aZ (y6 @U (y6 @hfin (y6 @hlk (y6 @q1 (y6 @bw (y6 @br aK)))))))
 repeat' ((first |(with_reducible refine .guard (fun hb =>?_) (fun hb =>?_) <;>try simp only[hb])|(refine ae.j6 (gs:=xw) 7 [] [] [0,1,2,3,4,5,6] (by decide +kernel) rfl (dy.of (by simp[gI])) fun K hK =>?_;simp only[gJ,xw,gS,zz2,zw1,List.take_zero,zx8,zx9,R,simprocAttr])|refine ae.aM (by decide +kernel) rfl fun K hK =>?_|(refine .aD [0,1,3] hK ?_;clear hK K)|(with_reducible refine .done (hK _ ?_);clear hK K)|refine ae.of rfl ?_|(with_reducible refine aF.aL (fun h =>?_) (fun h =>?_) <;>try simp only[h])) <;>try simp only[aN,R,simprocAttr])
 all_goals clear R
 exact .call (iV (iv hk))
def EU(s:az)(i:Nat):cA:=fun r os'=>r=.ptr (bF 1000000 i) []∧os'=aO s
theorem kC:(∀ i,(3=bF 1000000 i)=False)∧(∀ i,(bF 1000000 i=3)=False):=⟨fun i=>by simp[bF];omega,fun i=>by simp[bF];omega⟩
theorem rA(s:az)(hk:cG s)(x:aI)(i:Nat)(hy:s.on x=some i):cQ Tryd.prog 84 [.ptr 1000000 [],enc x] (aO s) (EU s i):=by
 refine cQ.cg Tryd.func84 Bt BK Mr (u8 rfl) (u8 rfl) dx (fun hwf W0 bO E1 =>?_);simp only[wI,F2,bQ,zz1];clear hwf;have n3:aj (aO s) 3=none:=eI (.inl (by omega)) fun i _=>by simp[bF];omega
 have aZ:aj (aO s) 1000000=some (.box (.agg [.int .i64 s.aB,.mref 1000001,.mref 1000002,.int .i64 s.all.length,.mref 1000003,.mref 1000004])):=fH;have U:aj (aO s) 1000001=some (.bA (s.here.map enc) (List.replicate s.here.length (.bool true))):=gj;have ab:aj (aO s) 1000002=some (.bA (s.bu.map enc) (dT (bF 1000000) s.aQ)):=gz;have af:aj (aO s) 1000003=some (.bA (s.db.map enc) (s.bN.map enc)):=gA;have hfin:∀ ts,c4 (au ts ((3,.box (enc x))::aO s)) 9 (.agg [.int .i64 s.aB,.mref 1000001,.mref 1000002,.int .i64 s.all.length,.mref 1000003,.mref 1000004])=some (gi s):=fun ts =>
  ik (iq (dF _) hk.cP fun n hn=>by have:=dx n hn;simp only[aj];rw[if_neg (by omega)]) 4
 have hlk:=gw eU x.aC s.here;rw[eJ] at hlk;obtain ⟨ha,hb1,hb2⟩:=mX hy;have hil:=(iw ha).1;have hlt:=hk.cP i hil;have hlr:=uM (s:=s) (fun i=>.ptr (bF 1000000 i) []) x.no;have hpt:(s.aQ.map fun i=>I.ptr (bF 1000000 i) [])=dT (bF 1000000) s.aQ:=rfl;rw[hpt] at hlr;rw[ha] at hlr;simp only at hlr;have hb:aj (aO s) (bF 1000000 i)=some (.box (enc (s.bh i))):=by
  have:=jE (dF s.all.length) (B:=1000000) hlt;rw[this];simp[az.bh,zz0,hlt]
 have q1:((s.bh i).to==x.other)=true:=by simpa using hb1
 have q2:((s.bh i).aC==x.aC)=true:=by simpa using hb2
 have R:=y6 @n3 (y6 @aZ (y6 @ab (y6 @hb (y6 @hlr (y6 @q1 (y6 @q2 (y6 @kC (y6 @bw (y6 @br aK)))))))))
 repeat' ((first |(with_reducible refine .guard (fun hb =>?_) (fun hb =>?_) <;>try simp only[hb])|refine ae.aM (by decide +kernel) rfl fun K hK =>?_|refine .flat _ (lu) rfl ?_|(refine .aD [0,1,3,4,5,6] hK ?_;clear hK K)|(with_reducible refine .done (hK _ ?_);clear hK K)|refine ae.of rfl ?_|(with_reducible refine aF.aL (fun h =>?_) (fun h =>?_) <;>try simp only[h])) <;>try simp only[aN,R,simprocAttr])
 all_goals clear R
 refine ⟨aO s,[.ptr (bF 1000000 i) []],fun n y hy=>⟨?_,ja hk hy⟩,⟨⟨_,rfl,.inl ⟨rfl,rfl,?_⟩⟩,trivial⟩,rfl,rfl⟩
 ·have:=dx (s:=s) n (by simp[av,hy])
  show aj ((3,_)::aO s) n=_
  simp only[aj];rw[if_neg (by omega)];exact hy
 ·exact (dM (dF _)).2 (.inr ⟨i,hlt,rfl⟩)
theorem Ii(s:az)(hk:cG s)(x:aI)(hy:s.on x=none):fj Tryd.prog 84 fI [.ptr 1000000 [],enc x] (aO s) (kG s):=by
 refine fj.mk Tryd.func84 Bt BK (u8 rfl) (u8 rfl) dx (fun hwf W0 bO E1 =>?_);simp only[wI,bQ,zz1];clear hwf;have n3:aj (aO s) 3=none:=eI (.inl (by omega)) fun i _=>by simp[bF];omega
 have aZ:aj (aO s) 1000000=some (.box (.agg [.int .i64 s.aB,.mref 1000001,.mref 1000002,.int .i64 s.all.length,.mref 1000003,.mref 1000004])):=fH;have U:aj (aO s) 1000001=some (.bA (s.here.map enc) (List.replicate s.here.length (.bool true))):=gj;have ab:aj (aO s) 1000002=some (.bA (s.bu.map enc) (dT (bF 1000000) s.aQ)):=gz;have af:aj (aO s) 1000003=some (.bA (s.db.map enc) (s.bN.map enc)):=gA;have hfin:∀ ts,c4 (au ts ((3,.box (enc x))::aO s)) 9 (.agg [.int .i64 s.aB,.mref 1000001,.mref 1000002,.int .i64 s.all.length,.mref 1000003,.mref 1000004])=some (gi s):=fun ts =>
  ik (iq (dF _) hk.cP fun n hn=>by have:=dx n hn;simp only[aj];rw[if_neg (by omega)]) 4
 have hlk:=gw eU x.aC s.here;rw[eJ] at hlk;have hlr:=uM (s:=s) (fun i=>.ptr (bF 1000000 i) []) x.no;have hpt:(s.aQ.map fun i=>I.ptr (bF 1000000 i) [])=dT (bF 1000000) s.aQ:=rfl;rw[hpt] at hlr;cases ha:s.at x.no with
 |none =>
  rw[ha] at hlr;simp only at hlr;have R:=y6 @n3 (y6 @aZ (y6 @ab (y6 @hlr (y6 @kC (y6 @bw (y6 @br aK))))))
  repeat' ((first |(with_reducible refine .guard (fun hb =>?_) (fun hb =>?_) <;>try simp only[hb])|(refine ae.j6 (gs:=o8) 19 [] [] [0,1,2,3,4,5,6,7,8,9,10,11,12,13,14,15,16,17,18] (by decide +kernel) rfl (dy.of (by simp[gI])) fun K hK =>?_;simp only[gJ,o8,gS,zz2,zw1,List.take_zero,zx8,zx9,R,simprocAttr])|refine ae.aM (by decide +kernel) rfl fun K hK =>?_|(refine .aD [0,1,3,4,5,6] hK ?_;clear hK K)|(with_reducible refine .done (hK _ ?_);clear hK K)|refine ae.of rfl ?_|(with_reducible refine aF.aL (fun h =>?_) (fun h =>?_) <;>try simp only[h])) <;>try simp only[aN,R,simprocAttr])
  all_goals clear R
  exact .call (iV (iv hk))
 |some i =>
  have hil:=(iw ha).1;have hlt:=hk.cP i hil;rw[ha] at hlr;simp only at hlr;have hb:aj (aO s) (bF 1000000 i)=some (.box (enc (s.bh i))):=by
   have:=jE (dF s.all.length) (B:=1000000) hlt;rw[this];simp[az.bh,zz0,hlt]
  rcases q1:((s.bh i).to==x.other)
  ·have R:=y6 @n3 (y6 @aZ (y6 @ab (y6 @hb (y6 @hlr (y6 @q1 (y6 @kC (y6 @bw (y6 @br aK))))))))
   repeat' ((first |(with_reducible refine .guard (fun hb =>?_) (fun hb =>?_) <;>try simp only[hb])|(refine ae.j6 (gs:=o8) 19 [] [] [0,1,2,3,4,5,6,7,8,9,10,11,12,13,14,15,16,17,18] (by decide +kernel) rfl (dy.of (by simp[gI])) fun K hK =>?_;simp only[gJ,o8,gS,zz2,zw1,List.take_zero,zx8,zx9,R,simprocAttr])|refine ae.aM (by decide +kernel) rfl fun K hK =>?_|(refine .aD [0,1,3,4,5,6] hK ?_;clear hK K)|(with_reducible refine .done (hK _ ?_);clear hK K)|refine ae.of rfl ?_|(with_reducible refine aF.aL (fun h =>?_) (fun h =>?_) <;>try simp only[h])) <;>try simp only[aN,R,simprocAttr])
   all_goals clear R
   exact .call (iV (iv hk))
  ·have q2:((s.bh i).aC==x.aC)=false:=by
    simp only[az.on,ha] at hy;split at hy
    ·cases hy
    ·rename_i h;simp only[beq_iff_eq] at q1;simp only[beq_eq_false_iff_ne,ne_eq];exact fun e=>h ⟨q1,e⟩
   have R:=y6 @n3 (y6 @aZ (y6 @ab (y6 @hb (y6 @hlr (y6 @q1 (y6 @q2 (y6 @kC (y6 @bw (y6 @br aK)))))))))
   repeat' ((first |(with_reducible refine .guard (fun hb =>?_) (fun hb =>?_) <;>try simp only[hb])|(refine ae.j6 (gs:=o8) 19 [] [] [0,1,2,3,4,5,6,7,8,9,10,11,12,13,14,15,16,17,18] (by decide +kernel) rfl (dy.of (by simp[gI])) fun K hK =>?_;simp only[gJ,o8,gS,zz2,zw1,List.take_zero,zx8,zx9,R,simprocAttr])|refine ae.aM (by decide +kernel) rfl fun K hK =>?_|(refine .aD [0,1,3,4,5,6] hK ?_;clear hK K)|(with_reducible refine .done (hK _ ?_);clear hK K)|refine ae.of rfl ?_|(with_reducible refine aF.aL (fun h =>?_) (fun h =>?_) <;>try simp only[h])) <;>try simp only[aN,R,simprocAttr])
   all_goals clear R
   exact .call (iV (iv hk))
theorem z7{ts:List (Nat×I)}{s:az}{z:ao} : au ts (aO s++((3,z)::aO s))=au ts ((3,z)::aO s):=by
 simp only[au,ai.mk.injEq,true_and]
 funext n
 rw[fU];cases h:aj (aO s) n with
 |none=>rfl
 |some y =>
  have:=dx (s:=s) n (by simp[av,h]);simp only[aj];rw[if_neg (by omega),h]
theorem Dm{s:az}(hk:cG s){z:ao} : gE [] (aO s) ((3,z)::aO s):=by
 refine ⟨fun m y hy=>⟨?_,ja hk hy⟩,fun m m' _ _ h=>h⟩;have hm:=dx (s:=s) m (by simp[av,hy]);rw[ao.kY (ρ:=bx []) (fun n=>rfl)]
 show aj ((3,z)::aO s) m=some y
 simp only[aj];rw[if_neg (by omega)];exact hy
theorem wj{s:az}(hk:cG s){os0:List (Nat×ao)}{r:I}(hr:r.only (av (aO s))=true):gm false [] (aO s) os0 r (aO s) :=
 ⟨fun _ _ hy=>⟨(ja hk hy).1,(ja hk hy).2,fun h=>by cases h⟩,fun m m' _ _ h=>h,fun m hm=>hm,(fun m a b=>by rw[a] at b;cases b),hr,(fun h=>by cases h)⟩
theorem tS{s:az}{x:aI}{A:ai} : ib false A [] (aO s) [.ptr 1000000 [],enc x] [.ptr 1000000 [],enc x] :=
 ⟨.inl ⟨rfl,(dM (dF _)).2 (.inl (by omega)),rfl⟩,.inl ⟨(km _ _).symm,cv _ _,eF _⟩,trivial⟩
theorem aT.ta{K:ai→Prop}{s:az}{x:aI}{i:Nat}{avs:List I}{a1 a2:Option (List I)}{dst:Option Nat}{rest:List aw}{ts:List (Nat×I)}{z:ao}(hk:cG s)(hil:i<s.all.length)(hc:cQ Tryd.prog 84 [.ptr 1000000 [],enc x] (aO s) (EU s i))(hav:avs=[.ptr 1000000 [],enc x])
  (h:aT Tryd.prog dv false K (aA rest ((au ts ((3,z)::aO s)).aX dst (.ptr (bF 1000000 i) [])))):aT Tryd.prog dv false K (.call 84 avs a1 a2 dst rest (au ts ((3,z)::aO s))):=by
 subst hav;refine .bP false [] (aO s) [.ptr 1000000 [],enc x] _ rfl hc (Dm hk) tS ?_ ?_
 ·rintro r os' ⟨rfl,rfl⟩;exact wj hk ((dM (dF _)).2 (.inr ⟨i,hil,rfl⟩))
 ·rintro r os' ⟨rfl,rfl⟩;rw[nh,z7];exact h
theorem yx{Q:Exit→ai→Prop}{s:az}(hk:cG s){x:aI}(hy:s.on x=none){ts:List (Nat×I)}{z:ao}(hq:Q (.panic fI) (au ts ((3,z)::aO s))):oN Tryd.prog Q 84 [.ptr 1000000 [],enc x] (au ts ((3,z)::aO s)) :=
 .mk false [] (aO s) [.ptr 1000000 [],enc x] fI _ (Ii s hk x hy) (Dm hk) tS (fun os' h=>by cases h;exact wj hk rfl) (fun os' h=>by cases h;rw[nh,z7];exact hq)
theorem H9(s:az)(hk:cG s)(x:aI)(i:Nat)(hy:s.on x=some i):cQ Tryd.prog 68 [.ptr 1000000 [],enc x] (aO s) (od { s with aQ:=s.aQ.erase i }):=by
 refine cQ.cg Tryd.func68 Bo BG Mm (u8 rfl) (u8 rfl) dx (fun hwf W0 bO E1 =>?_);simp only[wE,FX,bQ,zz1];clear hwf;have n3:aj (aO s) 3=none:=eI (.inl (by omega)) fun i _=>by simp[bF];omega
 have aZ:aj (aO s) 1000000=some (.box (.agg [.int .i64 s.aB,.mref 1000001,.mref 1000002,.int .i64 s.all.length,.mref 1000003,.mref 1000004])):=fH;have U:aj (aO s) 1000001=some (.bA (s.here.map enc) (List.replicate s.here.length (.bool true))):=gj;have ab:aj (aO s) 1000002=some (.bA (s.bu.map enc) (dT (bF 1000000) s.aQ)):=gz;have af:aj (aO s) 1000003=some (.bA (s.db.map enc) (s.bN.map enc)):=gA;have hfin:∀ ts,c4 (au ts ((3,.box (enc x))::aO s)) 9 (.agg [.int .i64 s.aB,.mref 1000001,.mref 1000002,.int .i64 s.all.length,.mref 1000003,.mref 1000004])=some (gi s):=fun ts =>
  ik (iq (dF _) hk.cP fun n hn=>by have:=dx n hn;simp only[aj];rw[if_neg (by omega)]) 4
 have hlk:=gw eU x.aC s.here;rw[eJ] at hlk;obtain ⟨ha,hb1,hb2⟩:=mX hy;have hil:=(iw ha).1;have hno:=(iw ha).2;have hlt:=hk.cP i hil;have hb:aj (aO s) (bF 1000000 i)=some (.box (enc (s.bh i))):=by
  have:=jE (dF s.all.length) (B:=1000000) hlt;rw[this];simp[az.bh,zz0,hlt]
 have hdl:=Ed (s:=s) (fun i=>.ptr (bF 1000000 i) []) hil;rw[←hno] at hdl;have hpt:(s.aQ.map fun i=>I.ptr (bF 1000000 i) [])=dT (bF 1000000) s.aQ:=rfl;rw[hpt] at hdl;have R:=y6 @n3 (y6 @aZ (y6 @ab (y6 @hb (y6 @hdl (y6 @kC (y6 @bw (y6 @br aK)))))))
 repeat' ((first |(with_reducible refine .guard (fun hb =>?_) (fun hb =>?_) <;>try simp only[hb])|refine ae.aM (by decide +kernel) rfl fun K hK =>?_|refine aT.ta hk hlt (rA s hk x i hy) rfl ?_|(refine .aD [0,1,3] hK ?_;clear hK K)|(with_reducible refine .done (hK _ ?_);clear hK K)|refine ae.of rfl ?_|(with_reducible refine aF.aL (fun h =>?_) (fun h =>?_) <;>try simp only[h])) <;>try simp only[aN,R,simprocAttr])
 all_goals clear R
 rw[nl];refine nk (fun n hn =>?_) (fun _ _ h=>ja (s := { s with aQ:=s.aQ.erase i }) ⟨fun j hj=>hk.cP j (List.mem_of_mem_erase hj),hk.kB.erase _,hk.ah⟩ h) ⟨rfl,rfl⟩;have:=dx n hn;simp only[aO,dZ,aj];rw[if_neg (show ¬ n=3 by omega)]
 (repeat' split) <;>first | rfl | omega
theorem Ia(s:az)(hk:cG s)(x:aI)(hy:s.on x=none):fj Tryd.prog 68 fI [.ptr 1000000 [],enc x] (aO s) (kG s):=by
 refine fj.mk Tryd.func68 Bo BG (u8 rfl) (u8 rfl) dx (fun hwf W0 bO E1 =>?_);simp only[wE,bQ,zz1];clear hwf;have n3:aj (aO s) 3=none:=eI (.inl (by omega)) fun i _=>by simp[bF];omega
 have aZ:aj (aO s) 1000000=some (.box (.agg [.int .i64 s.aB,.mref 1000001,.mref 1000002,.int .i64 s.all.length,.mref 1000003,.mref 1000004])):=fH;have U:aj (aO s) 1000001=some (.bA (s.here.map enc) (List.replicate s.here.length (.bool true))):=gj;have ab:aj (aO s) 1000002=some (.bA (s.bu.map enc) (dT (bF 1000000) s.aQ)):=gz;have af:aj (aO s) 1000003=some (.bA (s.db.map enc) (s.bN.map enc)):=gA;have hfin:∀ ts,c4 (au ts ((3,.box (enc x))::aO s)) 9 (.agg [.int .i64 s.aB,.mref 1000001,.mref 1000002,.int .i64 s.all.length,.mref 1000003,.mref 1000004])=some (gi s):=fun ts =>
  ik (iq (dF _) hk.cP fun n hn=>by have:=dx n hn;simp only[aj];rw[if_neg (by omega)]) 4
 have hlk:=gw eU x.aC s.here;rw[eJ] at hlk;have R:=y6 @n3 (y6 @aZ (y6 @ab (y6 @kC (y6 @bw (y6 @br aK)))))
 repeat' ((first |(with_reducible refine .guard (fun hb =>?_) (fun hb =>?_) <;>try simp only[hb])|(refine ae.pA (gs:=C4) (gs1:=[_,_]) rfl fun K hK =>?_)|refine ae.aM (by decide +kernel) rfl fun K hK =>?_|(refine .aD [0,1,3] hK ?_;clear hK K)|(with_reducible refine .done (hK _ ?_);clear hK K)|refine ae.of rfl ?_|(with_reducible refine aF.aL (fun h =>?_) (fun h =>?_) <;>try simp only[h])) <;>try simp only[aN,R,simprocAttr])
 all_goals clear R
 exact .call (yx hk hy (iv hk))
theorem Kq{s:az}{i:Nat}(hlt:i<s.all.length)(r:dI){z:ao} : ∀ n,1000000≤n→aj ((bF 1000000 i,.box (enc r))::(3,z)::aO s) n=aj (aO { s with all:=s.all.set i r }) n:=by
 intro n hn;have hlen:(s.all.set i r).length=s.all.length:=List.length_set;simp only[aj];rw[if_neg (show ¬ n=3 by omega)];rcases zf 1000000 (bF 1000000) s.all.length n with h | h | h | h | h | ⟨h,j,hj,e⟩ | ⟨h,hno⟩
 ·subst h;rw[if_neg (by simp[bF];omega)];simp only[aO,fH,hlen]
 ·subst h;rw[if_neg (by simp[bF];omega)];simp only[aO,gj]
 ·subst h;rw[if_neg (by simp[bF];omega)];simp only[aO,gz];rfl
 ·subst h;rw[if_neg (by simp[bF];omega)];simp only[aO,gA];rfl
 ·subst h;rw[if_neg (by simp[bF];omega)];simp only[aO,pS]
 ·subst e;have U:=jE (B:=1000000) (ν:=bF 1000000) (s:=s) (dF _) hj;have ab:=jE (B:=1000000) (ν:=bF 1000000) (s := { s with all:=s.all.set i r }) (dF _) (i:=j) (by simpa using hj);simp only[aO,U,ab];by_cases e:j=i
  ·subst e;simp
  ·have:¬ bF 1000000 j=bF 1000000 i:=by simp[bF];omega
   rw[if_neg this];simp[Ne.symm e]
 ·have U:=eI (B:=1000000) (ν:=bF 1000000) (s:=s) h hno;have ab:=eI (B:=1000000) (ν:=bF 1000000) (s := { s with all:=s.all.set i r }) h (by simpa using hno);simp only[aO,U,ab];rw[if_neg (hno i hlt)]
theorem H8(s:az)(hk:cG s)(x:aI)(i:Nat)(hy:s.on x=some i)(hc:(s.bh i).ev=false):cQ Tryd.prog 67 [.ptr 1000000 [],enc x] (aO s) (od { s with all:=s.all.set i { s.bh i with ev:=true } }):=by
 refine cQ.cg Tryd.func67 Bn BF Ml (u8 rfl) (u8 rfl) dx (fun hwf W0 bO E1 =>?_);simp only[wD,FW,bQ,zz1];clear hwf;have n3:aj (aO s) 3=none:=eI (.inl (by omega)) fun i _=>by simp[bF];omega
 have aZ:aj (aO s) 1000000=some (.box (.agg [.int .i64 s.aB,.mref 1000001,.mref 1000002,.int .i64 s.all.length,.mref 1000003,.mref 1000004])):=fH;have U:aj (aO s) 1000001=some (.bA (s.here.map enc) (List.replicate s.here.length (.bool true))):=gj;have ab:aj (aO s) 1000002=some (.bA (s.bu.map enc) (dT (bF 1000000) s.aQ)):=gz;have af:aj (aO s) 1000003=some (.bA (s.db.map enc) (s.bN.map enc)):=gA;have hfin:∀ ts,c4 (au ts ((3,.box (enc x))::aO s)) 9 (.agg [.int .i64 s.aB,.mref 1000001,.mref 1000002,.int .i64 s.all.length,.mref 1000003,.mref 1000004])=some (gi s):=fun ts =>
  ik (iq (dF _) hk.cP fun n hn=>by have:=dx n hn;simp only[aj];rw[if_neg (by omega)]) 4
 have hlk:=gw eU x.aC s.here;rw[eJ] at hlk;obtain ⟨ha,hb1,hb2⟩:=mX hy;have hil:=(iw ha).1;have hno:=(iw ha).2;have hlt:=hk.cP i hil;have hb:aj (aO s) (bF 1000000 i)=some (.box (enc (s.bh i))):=by
  have:=jE (dF s.all.length) (B:=1000000) hlt;rw[this];simp[az.bh,zz0,hlt]
 have hst:∀ A rest,da A none (bF 1000000 i) [3] (enc (s.bh i)) (.bool true) rest (some (.bool false))=aA rest (A.aV (bF 1000000 i) (.box (enc { s.bh i with ev:=true }))):=fun A rest=>dS rfl rfl rfl;have R:=y6 @n3 (y6 @aZ (y6 @ab (y6 @hb (y6 @hc (y6 @hst (y6 @kC (y6 @bw (y6 @br aK))))))))
 repeat' ((first |(with_reducible refine .guard (fun hb =>?_) (fun hb =>?_) <;>try simp only[hb])|refine ae.aM (by decide +kernel) rfl fun K hK =>?_|refine aT.ta hk hlt (rA s hk x i hy) rfl ?_|refine .flat _ (lu) rfl ?_|(refine .aD [0,1,3,4] hK ?_;clear hK K)|(with_reducible refine .done (hK _ ?_);clear hK K)|refine ae.of rfl ?_|(with_reducible refine aF.aL (fun h =>?_) (fun h =>?_) <;>try simp only[h])) <;>try simp only[aN,R,simprocAttr])
 all_goals clear R
 rw[nl];exact nk (fun n hn=>Kq hlt _ n (dx n hn)) (fun _ _ h=>ja (s := { s with all:=s.all.set i { s.bh i with ev:=true } }) ⟨fun j hj=>by simpa using hk.cP j hj,hk.kB,hk.ah⟩ h) ⟨rfl,rfl⟩
theorem zB(s:az)(hk:cG s)(x:aI)(hy:∀ i,s.on x=some i→(s.bh i).ev=true):fj Tryd.prog 67 fI [.ptr 1000000 [],enc x] (aO s) (kG s):=by
 refine fj.mk Tryd.func67 Bn BF (u8 rfl) (u8 rfl) dx (fun hwf W0 bO E1 =>?_);simp only[wD,bQ,zz1];clear hwf;have n3:aj (aO s) 3=none:=eI (.inl (by omega)) fun i _=>by simp[bF];omega
 have aZ:aj (aO s) 1000000=some (.box (.agg [.int .i64 s.aB,.mref 1000001,.mref 1000002,.int .i64 s.all.length,.mref 1000003,.mref 1000004])):=fH;have U:aj (aO s) 1000001=some (.bA (s.here.map enc) (List.replicate s.here.length (.bool true))):=gj;have ab:aj (aO s) 1000002=some (.bA (s.bu.map enc) (dT (bF 1000000) s.aQ)):=gz;have af:aj (aO s) 1000003=some (.bA (s.db.map enc) (s.bN.map enc)):=gA;have hfin:∀ ts,c4 (au ts ((3,.box (enc x))::aO s)) 9 (.agg [.int .i64 s.aB,.mref 1000001,.mref 1000002,.int .i64 s.all.length,.mref 1000003,.mref 1000004])=some (gi s):=fun ts =>
  ik (iq (dF _) hk.cP fun n hn=>by have:=dx n hn;simp only[aj];rw[if_neg (by omega)]) 4
 have hlk:=gw eU x.aC s.here;rw[eJ] at hlk;cases hy2:s.on x with
 |none =>
  have R:=y6 @n3 (y6 @aZ (y6 @ab (y6 @kC (y6 @bw (y6 @br aK)))))
  repeat' ((first |(with_reducible refine .guard (fun hb =>?_) (fun hb =>?_) <;>try simp only[hb])|(refine ae.pA (gs:=C2) (gs1:=[_,_]) rfl fun K hK =>?_)|refine ae.aM (by decide +kernel) rfl fun K hK =>?_|(refine .aD [0,1,3,4] hK ?_;clear hK K)|(with_reducible refine .done (hK _ ?_);clear hK K)|refine ae.of rfl ?_|(with_reducible refine aF.aL (fun h =>?_) (fun h =>?_) <;>try simp only[h])) <;>try simp only[aN,R,simprocAttr])
  all_goals clear R
  exact .call (yx hk hy2 (iv hk))
 |some i =>
  have hc:=hy i hy2;have hy:=hy2;obtain ⟨ha,hb1,hb2⟩:=mX hy;have hil:=(iw ha).1;have hno:=(iw ha).2;have hlt:=hk.cP i hil;have hb:aj (aO s) (bF 1000000 i)=some (.box (enc (s.bh i))):=by
   have:=jE (dF s.all.length) (B:=1000000) hlt;rw[this];simp[az.bh,zz0,hlt]
  have R:=y6 @n3 (y6 @aZ (y6 @ab (y6 @hb (y6 @hc (y6 @kC (y6 @bw (y6 @br aK)))))))
  repeat' ((first |(with_reducible refine .guard (fun hb =>?_) (fun hb =>?_) <;>try simp only[hb])|(refine ae.pA (gs:=C3) (gs1:=[_,_,_,_,_]) rfl fun K hK =>?_)|refine ae.aM (by decide +kernel) rfl fun K hK =>?_|refine aT.ta hk hlt (rA s hk x i hy) rfl ?_|(refine .aD [0,1,3,4] hK ?_;clear hK K)|(with_reducible refine .done (hK _ ?_);clear hK K)|refine ae.of rfl ?_|(with_reducible refine aF.aL (fun h =>?_) (fun h =>?_) <;>try simp only[h])) <;>try simp only[aN,R,simprocAttr])
  all_goals clear R
  exact .call (iV (iv hk))
theorem Ib(s:az)(hk:cG s)(x:aI)(i:Nat)(hy:s.on x=some i)(hc:(s.bh i).ev=true):cQ Tryd.prog 69 [.ptr 1000000 [],enc x] (aO s) (od { s with aQ:=s.aQ.erase i,here:=fP s.here x.aC }):=by
 refine cQ.cg Tryd.func69 Bp BH Mn (u8 rfl) (u8 rfl) dx (fun hwf W0 bO E1 =>?_);simp only[wF,FY,bQ,zz1];clear hwf;have n3:aj (aO s) 3=none:=eI (.inl (by omega)) fun i _=>by simp[bF];omega
 have aZ:aj (aO s) 1000000=some (.box (.agg [.int .i64 s.aB,.mref 1000001,.mref 1000002,.int .i64 s.all.length,.mref 1000003,.mref 1000004])):=fH;have U:aj (aO s) 1000001=some (.bA (s.here.map enc) (List.replicate s.here.length (.bool true))):=gj;have ab:aj (aO s) 1000002=some (.bA (s.bu.map enc) (dT (bF 1000000) s.aQ)):=gz;have af:aj (aO s) 1000003=some (.bA (s.db.map enc) (s.bN.map enc)):=gA;have hfin:∀ ts,c4 (au ts ((3,.box (enc x))::aO s)) 9 (.agg [.int .i64 s.aB,.mref 1000001,.mref 1000002,.int .i64 s.all.length,.mref 1000003,.mref 1000004])=some (gi s):=fun ts =>
  ik (iq (dF _) hk.cP fun n hn=>by have:=dx n hn;simp only[aj];rw[if_neg (by omega)]) 4
 have hlk:=gw eU x.aC s.here;rw[eJ] at hlk;obtain ⟨ha,hb1,hb2⟩:=mX hy;have hil:=(iw ha).1;have hno:=(iw ha).2;have hlt:=hk.cP i hil;have hb:aj (aO s) (bF 1000000 i)=some (.box (enc (s.bh i))):=by
  have:=jE (dF s.all.length) (B:=1000000) hlt;rw[this];simp[az.bh,zz0,hlt]
 have hdl:=Ed (s:=s) (fun i=>.ptr (bF 1000000 i) []) hil;rw[←hno] at hdl;have hpt:(s.aQ.map fun i=>I.ptr (bF 1000000 i) [])=dT (bF 1000000) s.aQ:=rfl;rw[hpt] at hdl;have hup:=x8 eU x.aC s.here;rw[eJ] at hup;have R:=y6 @n3 (y6 @aZ (y6 @U (y6 @ab (y6 @hb (y6 @hc (y6 @hdl (y6 @hup (y6 @kC (y6 @bw (y6 @br aK))))))))))
 repeat' ((first |(with_reducible refine .guard (fun hb =>?_) (fun hb =>?_) <;>try simp only[hb])|refine ae.aM (by decide +kernel) rfl fun K hK =>?_|refine aT.ta hk hlt (rA s hk x i hy) rfl ?_|refine .flat _ (lu) rfl ?_|(refine .aD [0,1,3] hK ?_;clear hK K)|(with_reducible refine .done (hK _ ?_);clear hK K)|refine ae.of rfl ?_|(with_reducible refine aF.aL (fun h =>?_) (fun h =>?_) <;>try simp only[h])) <;>try simp only[aN,R,simprocAttr])
 all_goals clear R
 rw[nl];refine nk (fun n hn =>?_) (fun _ _ h=>ja (s := { s with aQ:=s.aQ.erase i,here:=fP s.here x.aC }) ⟨fun j hj=>hk.cP j (List.mem_of_mem_erase hj),hk.kB.erase _,qa hk.ah⟩ h) ⟨rfl,rfl⟩;have:=dx n hn;simp only[aO,dZ,aj];rw[if_neg (show ¬ n=3 by omega)]
 (repeat' split) <;>first | rfl | omega
theorem zC(s:az)(hk:cG s)(x:aI)(hy:∀ i,s.on x=some i→(s.bh i).ev=false):fj Tryd.prog 69 fI [.ptr 1000000 [],enc x] (aO s) (kG s):=by
 refine fj.mk Tryd.func69 Bp BH (u8 rfl) (u8 rfl) dx (fun hwf W0 bO E1 =>?_);simp only[wF,bQ,zz1];clear hwf;have n3:aj (aO s) 3=none:=eI (.inl (by omega)) fun i _=>by simp[bF];omega
 have aZ:aj (aO s) 1000000=some (.box (.agg [.int .i64 s.aB,.mref 1000001,.mref 1000002,.int .i64 s.all.length,.mref 1000003,.mref 1000004])):=fH;have U:aj (aO s) 1000001=some (.bA (s.here.map enc) (List.replicate s.here.length (.bool true))):=gj;have ab:aj (aO s) 1000002=some (.bA (s.bu.map enc) (dT (bF 1000000) s.aQ)):=gz;have af:aj (aO s) 1000003=some (.bA (s.db.map enc) (s.bN.map enc)):=gA;have hfin:∀ ts,c4 (au ts ((3,.box (enc x))::aO s)) 9 (.agg [.int .i64 s.aB,.mref 1000001,.mref 1000002,.int .i64 s.all.length,.mref 1000003,.mref 1000004])=some (gi s):=fun ts =>
  ik (iq (dF _) hk.cP fun n hn=>by have:=dx n hn;simp only[aj];rw[if_neg (by omega)]) 4
 have hlk:=gw eU x.aC s.here;rw[eJ] at hlk;cases hy2:s.on x with
 |none =>
  have R:=y6 @n3 (y6 @aZ (y6 @ab (y6 @kC (y6 @bw (y6 @br aK)))))
  repeat' ((first |(with_reducible refine .guard (fun hb =>?_) (fun hb =>?_) <;>try simp only[hb])|(refine ae.pA (gs:=xy) (gs1:=[_,_]) rfl fun K hK =>?_)|refine ae.aM (by decide +kernel) rfl fun K hK =>?_|(refine .aD [0,1,3] hK ?_;clear hK K)|(with_reducible refine .done (hK _ ?_);clear hK K)|refine ae.of rfl ?_|(with_reducible refine aF.aL (fun h =>?_) (fun h =>?_) <;>try simp only[h])) <;>try simp only[aN,R,simprocAttr])
  all_goals clear R
  exact .call (yx hk hy2 (iv hk))
 |some i =>
  have hc:=hy i hy2;have hy:=hy2;obtain ⟨ha,hb1,hb2⟩:=mX hy;have hil:=(iw ha).1;have hno:=(iw ha).2;have hlt:=hk.cP i hil;have hb:aj (aO s) (bF 1000000 i)=some (.box (enc (s.bh i))):=by
   have:=jE (dF s.all.length) (B:=1000000) hlt;rw[this];simp[az.bh,zz0,hlt]
  have R:=y6 @n3 (y6 @aZ (y6 @ab (y6 @hb (y6 @hc (y6 @kC (y6 @bw (y6 @br aK)))))))
  repeat' ((first |(with_reducible refine .guard (fun hb =>?_) (fun hb =>?_) <;>try simp only[hb])|(refine ae.pA (gs:=xy) (gs1:=[_,_,_,_,_,_]) rfl fun K hK =>?_)|refine ae.aM (by decide +kernel) rfl fun K hK =>?_|refine aT.ta hk hlt (rA s hk x i hy) rfl ?_|(refine .aD [0,1,3] hK ?_;clear hK K)|(with_reducible refine .done (hK _ ?_);clear hK K)|refine ae.of rfl ?_|(with_reducible refine aF.aL (fun h =>?_) (fun h =>?_) <;>try simp only[h])) <;>try simp only[aN,R,simprocAttr])
  all_goals clear R
  exact .call (iV (iv hk))
theorem El{s:az}{x:aI}(h:ec x∉s.db):fE (.bl [.i .i64,.i .i64]) (.agg [.int .i64 x.other,.int .i64 x.no]) (enc x) (s.db.map enc) (s.bN.map enc)=some ((({ s with bN:=s.bN++[x] } : az).db).map enc,(s.bN++[x]).map enc):=by
 have hm:=x7 ug (ec x) (enc x) (eF x) s.db (s.bN.map enc);have hf:=rY (k:=ec x) (ks:=s.db);rw[decide_eq_false h] at hf;have e:(enc (ec x):I)=.agg [.int .i64 x.other,.int .i64 x.no]:=rfl;rw[e] at hm;rw[hm];cases hq:s.db.findIdx? fun y=>decide (ec x=y) with
 |none=>simp[az.db]
 |some i=>rw[hq] at hf;cases hf
theorem G7{s:az}{x:aI}(h:s.unknown x=true):ec x∉s.db:=by
 simp only[az.unknown,t8,Bool.not_eq_true',decide_eq_false_iff_not] at h;exact h.2
theorem Ag(x:aI):(dY [.int .i64 0,.int .i64 0] [(0,.int .i64 x.other),(1,.int .i64 x.no)]).map I.agg=some (.agg [.int .i64 x.other,.int .i64 x.no]):=by simp[dY,I.bT,I.size]
theorem If(s:az)(hk:cG s)(x:aI)(hy:s.unknown x=true):cQ Tryd.prog 71 [.ptr 1000000 [],enc x] (aO s) (od { s with bN:=s.bN++[x] }):=by
 refine cQ.cg Tryd.func71 Br BJ Mp (u8 rfl) (u8 rfl) dx (fun hwf W0 bO E1 =>?_);simp only[wH,F0,bQ,zz1];clear hwf;have n3:aj (aO s) 3=none:=eI (.inl (by omega)) fun i _=>by simp[bF];omega
 have aZ:aj (aO s) 1000000=some (.box (.agg [.int .i64 s.aB,.mref 1000001,.mref 1000002,.int .i64 s.all.length,.mref 1000003,.mref 1000004])):=fH;have U:aj (aO s) 1000001=some (.bA (s.here.map enc) (List.replicate s.here.length (.bool true))):=gj;have ab:aj (aO s) 1000002=some (.bA (s.bu.map enc) (dT (bF 1000000) s.aQ)):=gz;have af:aj (aO s) 1000003=some (.bA (s.db.map enc) (s.bN.map enc)):=gA;have hfin:∀ ts,c4 (au ts ((3,.box (enc x))::aO s)) 9 (.agg [.int .i64 s.aB,.mref 1000001,.mref 1000002,.int .i64 s.all.length,.mref 1000003,.mref 1000004])=some (gi s):=fun ts =>
  ik (iq (dF _) hk.cP fun n hn=>by have:=dx n hn;simp only[aj];rw[if_neg (by omega)]) 4
 have hlk:=gw eU x.aC s.here;rw[eJ] at hlk;have hF:=tF s x;rw[hy] at hF;have hup:=El (G7 hy);have R:=y6 @n3 (y6 @aZ (y6 @af (y6 @hfin (y6 @hup (y6 @Ag (y6 @bw (y6 @br aK)))))))
 repeat' ((first |(with_reducible refine .guard (fun hb =>?_) (fun hb =>?_) <;>try simp only[hb])|refine ae.aM (by decide +kernel) rfl fun K hK =>?_|refine .flat _ (hF) rfl ?_|refine .flat _ (lu) rfl ?_|(refine .aD [0,1,3] hK ?_;clear hK K)|(with_reducible refine .done (hK _ ?_);clear hK K)|refine ae.of rfl ?_|(with_reducible refine aF.aL (fun h =>?_) (fun h =>?_) <;>try simp only[h])) <;>try simp only[aN,R,simprocAttr])
 all_goals clear R
 rw[nl];refine nk (fun n hn =>?_) (fun _ _ h=>ja (s := { s with bN:=s.bN++[x] }) ⟨hk.cP,hk.kB,hk.ah⟩ h) ⟨rfl,rfl⟩;have:=dx n hn;simp only[aO,dZ,aj];rw[if_neg (show ¬ n=3 by omega)]
 (repeat' split) <;>first | rfl | omega
theorem Ig(s:az)(hk:cG s)(x:aI)(hy:s.unknown x=false):fj Tryd.prog 71 fI [.ptr 1000000 [],enc x] (aO s) (kG s):=by
 refine fj.mk Tryd.func71 Br BJ (u8 rfl) (u8 rfl) dx (fun hwf W0 bO E1 =>?_);simp only[wH,bQ,zz1];clear hwf;have n3:aj (aO s) 3=none:=eI (.inl (by omega)) fun i _=>by simp[bF];omega
 have aZ:aj (aO s) 1000000=some (.box (.agg [.int .i64 s.aB,.mref 1000001,.mref 1000002,.int .i64 s.all.length,.mref 1000003,.mref 1000004])):=fH;have U:aj (aO s) 1000001=some (.bA (s.here.map enc) (List.replicate s.here.length (.bool true))):=gj;have ab:aj (aO s) 1000002=some (.bA (s.bu.map enc) (dT (bF 1000000) s.aQ)):=gz;have af:aj (aO s) 1000003=some (.bA (s.db.map enc) (s.bN.map enc)):=gA;have hfin:∀ ts,c4 (au ts ((3,.box (enc x))::aO s)) 9 (.agg [.int .i64 s.aB,.mref 1000001,.mref 1000002,.int .i64 s.all.length,.mref 1000003,.mref 1000004])=some (gi s):=fun ts =>
  ik (iq (dF _) hk.cP fun n hn=>by have:=dx n hn;simp only[aj];rw[if_neg (by omega)]) 4
 have hlk:=gw eU x.aC s.here;rw[eJ] at hlk;have hF:=tF s x;rw[hy] at hF;have R:=y6 @n3 (y6 @aZ (y6 @af (y6 @hfin (y6 @bw (y6 @br aK)))))
 repeat' ((first |(with_reducible refine .guard (fun hb =>?_) (fun hb =>?_) <;>try simp only[hb])|(refine ae.pA (gs:=C5) (gs1:=[_,_,_]) rfl fun K hK =>?_)|refine ae.aM (by decide +kernel) rfl fun K hK =>?_|refine .flat _ (hF) rfl ?_|(refine .aD [0,1,3] hK ?_;clear hK K)|(with_reducible refine .done (hK _ ?_);clear hK K)|refine ae.of rfl ?_|(with_reducible refine aF.aL (fun h =>?_) (fun h =>?_) <;>try simp only[h])) <;>try simp only[aN,R,simprocAttr])
 all_goals clear R
 exact .call (iV (iv hk))
theorem Ic(s:az)(hk:cG s)(x:aI)(hy:s.unknown x=true∧x.aC∉s.here∧s.fN x.aC=false):cQ Tryd.prog 70 [.ptr 1000000 [],enc x] (aO s) (od { s with bN:=s.bN++[x],here:=fP s.here x.aC }):=by
 refine cQ.cg Tryd.func70 Bq BI Mo (u8 rfl) (u8 rfl) dx (fun hwf W0 bO E1 =>?_);simp only[wG,FZ,bQ,zz1];clear hwf;have n3:aj (aO s) 3=none:=eI (.inl (by omega)) fun i _=>by simp[bF];omega
 have aZ:aj (aO s) 1000000=some (.box (.agg [.int .i64 s.aB,.mref 1000001,.mref 1000002,.int .i64 s.all.length,.mref 1000003,.mref 1000004])):=fH;have U:aj (aO s) 1000001=some (.bA (s.here.map enc) (List.replicate s.here.length (.bool true))):=gj;have ab:aj (aO s) 1000002=some (.bA (s.bu.map enc) (dT (bF 1000000) s.aQ)):=gz;have af:aj (aO s) 1000003=some (.bA (s.db.map enc) (s.bN.map enc)):=gA;have hfin:∀ ts,c4 (au ts ((3,.box (enc x))::aO s)) 9 (.agg [.int .i64 s.aB,.mref 1000001,.mref 1000002,.int .i64 s.all.length,.mref 1000003,.mref 1000004])=some (gi s):=fun ts =>
  ik (iq (dF _) hk.cP fun n hn=>by have:=dx n hn;simp only[aj];rw[if_neg (by omega)]) 4
 have hlk:=gw eU x.aC s.here;rw[eJ] at hlk;have hF:=tF s x;rw[hy.1] at hF;have hF2:=rv s x.aC;rw[hy.2.2] at hF2;have q1:decide (x.aC∈s.here)=false:=decide_eq_false hy.2.1;have hup:=El (G7 hy.1);have hup2:=x8 eU x.aC s.here;rw[eJ] at hup2;have R:=y6 @n3 (y6 @aZ (y6 @U (y6 @af (y6 @hfin (y6 @hlk (y6 @q1 (y6 @hup (y6 @hup2 (y6 @Ag (y6 @bw (y6 @br aK)))))))))))
 repeat' ((first |(with_reducible refine .guard (fun hb =>?_) (fun hb =>?_) <;>try simp only[hb])|refine ae.aM (by decide +kernel) rfl fun K hK =>?_|refine .flat _ (hF) rfl ?_|refine .flat _ (hF2) rfl ?_|refine .flat _ (lu) rfl ?_|(refine .aD [0,1,3] hK ?_;clear hK K)|(with_reducible refine .done (hK _ ?_);clear hK K)|refine ae.of rfl ?_|(with_reducible refine aF.aL (fun h =>?_) (fun h =>?_) <;>try simp only[h])) <;>try simp only[aN,R,simprocAttr])
 all_goals clear R
 rw[nl];refine nk (fun n hn =>?_) (fun _ _ h=>ja (s := { s with bN:=s.bN++[x],here:=fP s.here x.aC }) ⟨hk.cP,hk.kB,qa hk.ah⟩ h) ⟨rfl,rfl⟩;have:=dx n hn;simp only[aO,dZ,aj];rw[if_neg (show ¬ n=3 by omega)]
 (repeat' split) <;>first | rfl | omega
theorem Ie(s:az)(hk:cG s)(x:aI)(hy:¬ (s.unknown x=true∧x.aC∉s.here∧s.fN x.aC=false)):fj Tryd.prog 70 fI [.ptr 1000000 [],enc x] (aO s) (kG s):=by
 refine fj.mk Tryd.func70 Bq BI (u8 rfl) (u8 rfl) dx (fun hwf W0 bO E1 =>?_);simp only[wG,bQ,zz1];clear hwf;have n3:aj (aO s) 3=none:=eI (.inl (by omega)) fun i _=>by simp[bF];omega
 have aZ:aj (aO s) 1000000=some (.box (.agg [.int .i64 s.aB,.mref 1000001,.mref 1000002,.int .i64 s.all.length,.mref 1000003,.mref 1000004])):=fH;have U:aj (aO s) 1000001=some (.bA (s.here.map enc) (List.replicate s.here.length (.bool true))):=gj;have ab:aj (aO s) 1000002=some (.bA (s.bu.map enc) (dT (bF 1000000) s.aQ)):=gz;have af:aj (aO s) 1000003=some (.bA (s.db.map enc) (s.bN.map enc)):=gA;have hfin:∀ ts,c4 (au ts ((3,.box (enc x))::aO s)) 9 (.agg [.int .i64 s.aB,.mref 1000001,.mref 1000002,.int .i64 s.all.length,.mref 1000003,.mref 1000004])=some (gi s):=fun ts =>
  ik (iq (dF _) hk.cP fun n hn=>by have:=dx n hn;simp only[aj];rw[if_neg (by omega)]) 4
 have hlk:=gw eU x.aC s.here;rw[eJ] at hlk;have hF:=tF s x;have hF2:=rv s x.aC;rcases q0:s.unknown x
 ·rw[q0] at hF;have R:=y6 @n3 (y6 @aZ (y6 @U (y6 @af (y6 @hfin (y6 @hlk (y6 @bw (y6 @br aK)))))))
  repeat' ((first |(with_reducible refine .guard (fun hb =>?_) (fun hb =>?_) <;>try simp only[hb])|(refine ae.j6 (gs:=o7) 20 [] [] [0,1,2,3,4,5,6,7,8,9,10,11,12,13,14,15,16,17,18,19] (by decide +kernel) rfl (dy.of (by simp[gI])) fun K hK =>?_;simp only[gJ,o7,gS,zz2,zw1,List.take_zero,zx8,zx9,R,simprocAttr])|refine ae.aM (by decide +kernel) rfl fun K hK =>?_|refine .flat _ (hF) rfl ?_|(refine .aD [0,1,3] hK ?_;clear hK K)|(with_reducible refine .done (hK _ ?_);clear hK K)|refine ae.of rfl ?_|(with_reducible refine aF.aL (fun h =>?_) (fun h =>?_) <;>try simp only[h])) <;>try simp only[aN,R,simprocAttr])
  all_goals clear R
  exact .call (iV (iv hk))
 rw[q0] at hF;rcases q1:decide (x.aC∈s.here)
 ·have q2:s.fN x.aC=true:=by
   rcases q2:s.fN x.aC
   ·exact absurd ⟨q0,of_decide_eq_false q1,q2⟩ hy
   ·rfl
  rw[q2] at hF2;have R:=y6 @n3 (y6 @aZ (y6 @U (y6 @af (y6 @hfin (y6 @hlk (y6 @q1 (y6 @bw (y6 @br aK))))))))
  repeat' ((first |(with_reducible refine .guard (fun hb =>?_) (fun hb =>?_) <;>try simp only[hb])|(refine ae.j6 (gs:=o7) 20 [] [] [0,1,2,3,4,5,6,7,8,9,10,11,12,13,14,15,16,17,18,19] (by decide +kernel) rfl (dy.of (by simp[gI])) fun K hK =>?_;simp only[gJ,o7,gS,zz2,zw1,List.take_zero,zx8,zx9,R,simprocAttr])|refine ae.aM (by decide +kernel) rfl fun K hK =>?_|refine .flat _ (hF) rfl ?_|refine .flat _ (hF2) rfl ?_|(refine .aD [0,1,3] hK ?_;clear hK K)|(with_reducible refine .done (hK _ ?_);clear hK K)|refine ae.of rfl ?_|(with_reducible refine aF.aL (fun h =>?_) (fun h =>?_) <;>try simp only[h])) <;>try simp only[aN,R,simprocAttr])
  all_goals clear R
  exact .call (iV (iv hk))
 ·have R:=y6 @n3 (y6 @aZ (y6 @U (y6 @af (y6 @hfin (y6 @hlk (y6 @q1 (y6 @bw (y6 @br aK))))))))
  repeat' ((first |(with_reducible refine .guard (fun hb =>?_) (fun hb =>?_) <;>try simp only[hb])|(refine ae.j6 (gs:=o7) 20 [] [] [0,1,2,3,4,5,6,7,8,9,10,11,12,13,14,15,16,17,18,19] (by decide +kernel) rfl (dy.of (by simp[gI])) fun K hK =>?_;simp only[gJ,o7,gS,zz2,zw1,List.take_zero,zx8,zx9,R,simprocAttr])|refine ae.aM (by decide +kernel) rfl fun K hK =>?_|refine .flat _ (hF) rfl ?_|(refine .aD [0,1,3] hK ?_;clear hK K)|(with_reducible refine .done (hK _ ?_);clear hK K)|refine ae.of rfl ?_|(with_reducible refine aF.aL (fun h =>?_) (fun h =>?_) <;>try simp only[h])) <;>try simp only[aN,R,simprocAttr])
  all_goals clear R
  exact .call (iV (iv hk))
abbrev gW(k:Nat)(s:az):List (Nat×ao):=dZ 1000000 (ga 1000000 57 k) s
def vf(k:Nat)(s:az):cA:=fun r os'=>r=.tuple []∧os'=gW k s
theorem hJ{k m:Nat}(h:m≤k+1):gN 1000000 (ga 1000000 57 k) m:=gN.ga (by omega) h
theorem vB{s:az}(hk:cG s){k:Nat}(h:s.all.length≤k):gW k s=aO s:=aac hk.cP fun i hi=>mV (by omega)
def jn(s:az)(x:aI):az := { s with here:=s.here.erase x.aC,all:=s.all++[⟨x.no,x.other,x.aC,false⟩],aQ:=s.aQ++[s.all.length] }
theorem ZN{s:az}(hk:cG s)(x:aI):cG (jn s x):=by
 refine ⟨fun i hi =>?_,?_,hk.ah.erase _⟩
 ·simp only[jn,zy4,zy1] at hi;simp only[jn,zz6,List.length_singleton];rcases hi with hi | hi
  ·have:=hk.cP i hi;omega
  ·omega
 ·exact zv2.2 ⟨hk.kB,by simp,fun a ha c hc e=>by rw[zy1.1 hc] at e;have:=hk.cP a ha;omega⟩
theorem XA{s:az}(hk:cG s){no:Int}(hno:no=(s.all.length:Int)+1)(v:I)(hv:v.bT=true):fE (.i .i64) (.int .i64 no) v (s.bu.map enc) (dT (bF 1000000) s.aQ)=some ((s.bu++[no]).map enc,dT (bF 1000000) s.aQ++[v]):=by
 have hm:=x7 eU no v hv s.bu (dT (bF 1000000) s.aQ);rw[eJ] at hm;rw[hm];have hf:=rY (k:=no) (ks:=s.bu);have:no∉s.bu:=fun h=>by
  obtain ⟨i,hi,e⟩:=zy5.1 h;have:=hk.cP i hi;omega
 rw[decide_eq_false this] at hf;cases hq:s.bu.findIdx? fun y=>decide (no=y) with
 |none=>rfl
 |some i=>rw[hq] at hf;cases hf
theorem H6(s:az)(hk:cG s)(hlen:s.all.length≤100000)(x:aI)(hy:x.aC∈s.here∧x.other≠s.aB∧x.no=(s.all.length:Int)+1):cQ Tryd.prog 66 [.ptr 1000000 [],enc x] (aO s) (vf s.all.length (jn s x)):=by
 refine cQ.cg Tryd.func66 Bm BE Mk (u8 rfl) (u8 rfl) dx (fun hwf W0 bO E1 =>?_);simp only[wC,FV,bQ,zz1];clear hwf;have n3:aj (aO s) 3=none:=eI (.inl (by omega)) fun i _=>by simp[bF];omega
 have n57:aj (aO s) 57=none:=eI (.inl (by omega)) fun i _=>by simp[bF];omega
 have aZ:aj (aO s) 1000000=some (.box (.agg [.int .i64 s.aB,.mref 1000001,.mref 1000002,.int .i64 s.all.length,.mref 1000003,.mref 1000004])):=fH;have U:aj (aO s) 1000001=some (.bA (s.here.map enc) (List.replicate s.here.length (.bool true))):=gj;have ab:aj (aO s) 1000002=some (.bA (s.bu.map enc) (dT (bF 1000000) s.aQ)):=gz;have hlk:=gw eU x.aC s.here;rw[eJ] at hlk;have q1:decide (x.aC∈s.here)=true:=decide_eq_true hy.1;have q2:(x.other != s.aB)=true:=by simpa using hy.2.1
 have hw:IntKind.i64.wrap ((s.all.length:Int)+1)=(s.all.length:Int)+1:=jv _ (by omega) (by omega);have q3:(x.no==(s.all.length:Int)+1)=true:=by simpa using hy.2.2
 have hdl:=Ec hy.1;have hup:=XA hk hy.2.2 (.ptr 57 []) rfl;have hst:∀ A rest,da A none 1000000 [3] (.agg [.int .i64 s.aB,.mref 1000001,.mref 1000002,.int .i64 s.all.length,.mref 1000003,.mref 1000004]) (.int .i64 ((s.all.length:Int)+1)) rest (some (.int .i64 s.all.length)) =
   aA rest (A.aV 1000000 (.box (.agg [.int .i64 s.aB,.mref 1000001,.mref 1000002,.int .i64 ((s.all.length:Int)+1),.mref 1000003,.mref 1000004]))):=fun A rest=>dS rfl rfl rfl
 have hbld:(dY [.int .i64 0,.int .i64 0,.int .i64 0,.bool false] [(0,.int .i64 x.no),(1,.int .i64 x.other),(2,.int .i64 x.aC)]).map I.agg=some (enc (⟨x.no,x.other,x.aC,false⟩:dI)):=by simp[dY,I.bT,I.size];rfl
 have offT:∀ (a b:Int) v,dR [.int .i64 a,.mref 1000001,.mref 1000002,.int .i64 (b+1),.mref 1000003,.mref 1000004] 2 2 v=some v:=fun a b v=>rfl;have R:=y6 @n3 (y6 @n57 (y6 @aZ (y6 @U (y6 @ab (y6 @hlk (y6 @q1 (y6 @q2 (y6 @hw (y6 @q3 (y6 @hdl (y6 @hup (y6 @hst (y6 @hbld (y6 @offT (y6 @bw (y6 @br aK))))))))))))))))
 repeat' ((first |(with_reducible refine .guard (fun hb =>?_) (fun hb =>?_) <;>try simp only[hb])|refine ae.aM (by decide +kernel) rfl fun K hK =>?_|refine .flat _ (lu) rfl ?_|(refine .aD [0,1,3] hK ?_;clear hK K)|(with_reducible refine .done (hK _ ?_);clear hK K)|refine ae.of rfl ?_|(with_reducible refine aF.aL (fun h =>?_) (fun h =>?_) <;>try simp only[h])) <;>try simp only[aN,R,simprocAttr])
 all_goals clear R
 rw[nl];have hg:=hJ (k:=s.all.length) (m:=(jn s x).all.length) (by simp[jn]);refine nk (fun n hn =>?_) (fun _ _ h=>mf hg (ZN hk x).cP h) ⟨rfl,rfl⟩;have hl1:(jn s x).all.length=s.all.length+1:=by simp[jn]
 have hp:dT (ga 1000000 57 s.all.length) (s.aQ++[s.all.length])=dT (bF 1000000) s.aQ++[.ptr 57 []]:=by
  simp only[dT,zy8,zz4,zx6]
  congr 1
  ·exact List.map_congr_left fun i hi=>by rw[mV (hk.cP i hi)]
  ·simp[ga]
 have hnu:(jn s x).bu=s.bu++[x.no]:=by simp[az.bu,jn,hy.2.2]
 rcases (dM hg).1 hn with hb | ⟨j,hj,rfl⟩
 ·have hc:n=1000000∨n=1000001∨n=1000002∨n=1000003∨n=1000004:=by omega
  rcases hc with rfl | rfl | rfl | rfl | rfl
  ·rw[fH];simp[aj,oE,jn]
  ·rw[show (1000001:Nat)=1000000+1 from rfl,gj];simp[aj,qC,jn]
  ·rw[show (1000002:Nat)=1000000+2 from rfl,gz];simp only[pH,hnu];simp only[jn,hp];simp[aj]
  ·rw[show (1000003:Nat)=1000000+3 from rfl,gA];have:=gA (B:=1000000) (ν:=bF 1000000) (s:=s);simp only[aj,Nat.reduceAdd,Nat.reduceEqDiff,if_false];exact this
  ·rw[show (1000004:Nat)=1000000+4 from rfl,pS];have:=pS (B:=1000000) (ν:=bF 1000000) (s:=s);simp only[aj,Nat.reduceAdd,Nat.reduceEqDiff,if_false];exact this
 ·rw[jE hg hj];by_cases e:j=s.all.length
  ·subst e;simp[aj,ga,jn]
  ·have hj2:j<s.all.length:=by omega
   rw[mV hj2];have:=jE (B:=1000000) (ν:=bF 1000000) (s:=s) (dF _) hj2;simp only[aj];rw[if_neg (by simp[bF];omega),if_neg (by simp[bF];omega),if_neg (by simp[bF];omega),if_neg (by simp[bF];omega),if_neg (by simp[bF];omega),this];simp[jn,List.getElem_append_left hj2]
theorem H7(s:az)(hk:cG s)(hlen:s.all.length≤100000)(x:aI)(hy:¬ (x.aC∈s.here∧x.other≠s.aB∧x.no=(s.all.length:Int)+1)):fj Tryd.prog 66 fI [.ptr 1000000 [],enc x] (aO s) (kG s):=by
 refine fj.mk Tryd.func66 Bm BE (u8 rfl) (u8 rfl) dx (fun hwf W0 bO E1 =>?_);simp only[wC,bQ,zz1];clear hwf;have n3:aj (aO s) 3=none:=eI (.inl (by omega)) fun i _=>by simp[bF];omega
 have aZ:aj (aO s) 1000000=some (.box (.agg [.int .i64 s.aB,.mref 1000001,.mref 1000002,.int .i64 s.all.length,.mref 1000003,.mref 1000004])):=fH;have U:aj (aO s) 1000001=some (.bA (s.here.map enc) (List.replicate s.here.length (.bool true))):=gj;have hlk:=gw eU x.aC s.here;rw[eJ] at hlk;have hw:IntKind.i64.wrap ((s.all.length:Int)+1)=(s.all.length:Int)+1:=jv _ (by omega) (by omega);rcases q1:decide (x.aC∈s.here)
 ·have R:=y6 @n3 (y6 @aZ (y6 @U (y6 @hlk (y6 @q1 (y6 @bw (y6 @br aK))))))
  repeat' ((first |(with_reducible refine .guard (fun hb =>?_) (fun hb =>?_) <;>try simp only[hb])|(refine ae.j6 (gs:=o6) 26 [] [] [0,1,2,3,4,5,6,7,8,9,10,11,12,13,14,15,16,17,18,19,20,21,22,23,24,25] (by decide +kernel) rfl (dy.of (by simp[gI])) fun K hK =>?_;simp only[gJ,o6,gS,zz2,zw1,List.take_zero,zx8,zx9,R,simprocAttr])|refine ae.aM (by decide +kernel) rfl fun K hK =>?_|(refine .aD [0,1,3] hK ?_;clear hK K)|(with_reducible refine .done (hK _ ?_);clear hK K)|refine ae.of rfl ?_|(with_reducible refine aF.aL (fun h =>?_) (fun h =>?_) <;>try simp only[h])) <;>try simp only[aN,R,simprocAttr])
  all_goals clear R
  exact .call (iV (iv hk))
 rcases q2:(x.other != s.aB)
 ·have R:=y6 @n3 (y6 @aZ (y6 @U (y6 @hlk (y6 @q1 (y6 @q2 (y6 @bw (y6 @br aK)))))))
  repeat' ((first |(with_reducible refine .guard (fun hb =>?_) (fun hb =>?_) <;>try simp only[hb])|(refine ae.j6 (gs:=o6) 26 [] [] [0,1,2,3,4,5,6,7,8,9,10,11,12,13,14,15,16,17,18,19,20,21,22,23,24,25] (by decide +kernel) rfl (dy.of (by simp[gI])) fun K hK =>?_;simp only[gJ,o6,gS,zz2,zw1,List.take_zero,zx8,zx9,R,simprocAttr])|refine ae.aM (by decide +kernel) rfl fun K hK =>?_|(refine .aD [0,1,3] hK ?_;clear hK K)|(with_reducible refine .done (hK _ ?_);clear hK K)|refine ae.of rfl ?_|(with_reducible refine aF.aL (fun h =>?_) (fun h =>?_) <;>try simp only[h])) <;>try simp only[aN,R,simprocAttr])
  all_goals clear R
  exact .call (iV (iv hk))
 have q3:(x.no==(s.all.length:Int)+1)=false:=by
  rcases q3:(x.no==(s.all.length:Int)+1)
  ·rfl
  ·exact absurd ⟨of_decide_eq_true q1,by simpa using q2,by simpa using q3⟩ hy
 have R:=y6 @n3 (y6 @aZ (y6 @U (y6 @hlk (y6 @q1 (y6 @q2 (y6 @hw (y6 @q3 (y6 @bw (y6 @br aK)))))))))
 repeat' ((first |(with_reducible refine .guard (fun hb =>?_) (fun hb =>?_) <;>try simp only[hb])|(refine ae.j6 (gs:=o6) 26 [] [] [0,1,2,3,4,5,6,7,8,9,10,11,12,13,14,15,16,17,18,19,20,21,22,23,24,25] (by decide +kernel) rfl (dy.of (by simp[gI])) fun K hK =>?_;simp only[gJ,o6,gS,zz2,zw1,List.take_zero,zx8,zx9,R,simprocAttr])|refine ae.aM (by decide +kernel) rfl fun K hK =>?_|(refine .aD [0,1,3] hK ?_;clear hK K)|(with_reducible refine .done (hK _ ?_);clear hK K)|refine ae.of rfl ?_|(with_reducible refine aF.aL (fun h =>?_) (fun h =>?_) <;>try simp only[h])) <;>try simp only[aN,R,simprocAttr])
 all_goals clear R
 exact .call (iV (iv hk))
def ea(s:az)(x:aI):az×Bool:=match eS s x with
 |some s'=>(s',true)
 |none=>(s,false)
def EV(s:az)(x:aI):cA:=fun r os'=>r=.bool (ea s x).2∧os'=gW s.all.length (ea s x).1
def jO(B:Nat):List I:=[.func 1000064 [.ptr B []],.func 1000065 [.ptr B []],.func 1000066 [.ptr B []],.func 1000067 [.ptr B []],.func 1000068 [.ptr B []],.func 1000069 [.ptr B []],.func 1000070 [.ptr B []],.func 1000071 [.ptr B []]]
def lr(s:az)(x:aI)(f:FuncId):Prop:=match eM s x with
 |some s'=>cQ Tryd.prog f [.ptr 1000000 [],enc x] (aO s) (vf s.all.length s')
 |none=>fj Tryd.prog f fI [.ptr 1000000 [],enc x] (aO s) (kG s)
theorem cQ.post{P:Program}{f:FuncId}{args:List I}{os:List (Nat×ao)}{post post':cA}(h:cQ P f args os post)(hp:∀ r os',post r os'→post' r os'):cQ P f args os post' :=
 ⟨h.1,fun w D E vs hs hD ho hv=>(h.2 w D E vs hs hD ho hv).mono fun _ _ ⟨v,D',E',r,os',k1,k2,k⟩=>⟨v,D',E',r,os',k1,hp _ _ k2,k⟩⟩
theorem pw{s s':az}{x:aI}(hk:cG s)(hn:eM s x=some s')(hx:x.kind≠3):∀ r os',od s' r os'→vf s.all.length s' r os':=by
 rintro r os' ⟨rfl,rfl⟩;obtain ⟨U,_,_,aq⟩:=hk.next hn
 exact ⟨rfl,(vB U (Nat.le_of_eq (aq hx))).symm⟩
theorem x3{s:az}(hk:cG s)(hlen:s.all.length≤100000){x:aI}(hx:gU x=true) :
  ∃ f:Nat,fu (.i .i64) .dA (.int .i64 x.kind) hZ (jO 1000000)=some (.func (f+1000000) [.ptr 1000000 []],true)∧[64,65,66,67,68,69,70,71].contains f=true∧lr s x f:=by
 have aq:x.kind=1∨x.kind=2∨x.kind=3∨x.kind=4∨x.kind=5∨x.kind=6∨x.kind=7∨x.kind=8:=by
  simp only[gU] at hx;split at hx
  ·omega
  ·split at hx
   ·omega
   ·cases hx
 have lk:∀ n:Int,x.kind=n→fu (.i .i64) .dA (.int .i64 x.kind) hZ (jO 1000000)=fu (.i .i64) .dA (.int .i64 n) hZ (jO 1000000):=fun n h=>by rw[h]
 rcases aq with h | h | h | h | h | h | h | h
 ·refine ⟨64,by rw[h];simp[fu,eG,b7,hZ,jO],rfl,?_⟩;simp only[lr,eM,h,if_true];split
  ·rename_i s' hs;split at hs
   ·cases hs
   ·rename_i hh;cases hs;have hy:x.aC∉s.here∧s.fN x.aC=false:=⟨fun h=>hh (.inl h),by rcases q:s.fN x.aC;rfl;exact absurd (.inr q) hh⟩
    exact cQ.post (H2 s hk x hy) (pw (x:=x) hk (by simp[eM,h,hy.1,hy.2]) (by omega))
  ·rename_i hs;split at hs
   ·rename_i hh;exact H3 s hk x hh
   ·cases hs
 ·refine ⟨65,by rw[h];simp[fu,eG,b7,hZ,jO],rfl,?_⟩;simp only[lr,eM,h,Int.reduceEq,if_false,if_true];split
  ·rename_i s' hs;split at hs
   ·rename_i hh;cases hs;exact cQ.post (H4 s hk x hh) (pw (x:=x) hk (by simp[eM,h,hh]) (by omega))
   ·cases hs
  ·rename_i hs;split at hs
   ·cases hs
   ·rename_i hh;exact H5 s hk x hh
 ·refine ⟨66,by rw[h];simp[fu,eG,b7,hZ,jO],rfl,?_⟩;simp only[lr,eM,h,Int.reduceEq,if_false,if_true];split
  ·rename_i s' hs;split at hs
   ·rename_i hh;cases hs;exact H6 s hk hlen x hh
   ·cases hs
  ·rename_i hs;split at hs
   ·cases hs
   ·rename_i hh;exact H7 s hk hlen x hh
 ·refine ⟨67,by rw[h];simp[fu,eG,b7,hZ,jO],rfl,?_⟩;simp only[lr,eM,h,Int.reduceEq,if_false,if_true];cases ho:s.on x with
  |none=>exact zB s hk x fun i hi=>by rw[ho] at hi;cases hi
  |some i =>
   cases hc:(s.bh i).ev with
   |true =>
    simp only[hc,if_true];exact zB s hk x fun j hj=>by rw[ho] at hj;cases hj;exact hc
   |false =>
    simp only[hc,zz3,if_false];exact cQ.post (H8 s hk x i ho hc) (pw (x:=x) hk (by simp[eM,h,ho,hc]) (by omega))
 ·refine ⟨68,by rw[h];simp[fu,eG,b7,hZ,jO],rfl,?_⟩;simp only[lr,eM,h,Int.reduceEq,if_false,if_true];cases ho:s.on x with
  |none=>exact Ia s hk x ho
  |some i=>exact cQ.post (H9 s hk x i ho) (pw (x:=x) hk (by simp[eM,h,ho]) (by omega))
 ·refine ⟨69,by rw[h];simp[fu,eG,b7,hZ,jO],rfl,?_⟩;simp only[lr,eM,h,Int.reduceEq,if_false,if_true];cases ho:s.on x with
  |none=>exact zC s hk x fun i hi=>by rw[ho] at hi;cases hi
  |some i =>
   cases hc:(s.bh i).ev with
   |false =>
    simp only[hc,zz3,if_false];exact zC s hk x fun j hj=>by rw[ho] at hj;cases hj;exact hc
   |true =>
    simp only[hc,if_true];exact cQ.post (Ib s hk x i ho hc) (pw (x:=x) hk (by simp[eM,h,ho,hc]) (by omega))
 ·refine ⟨70,by rw[h];simp[fu,eG,b7,hZ,jO],rfl,?_⟩;simp only[lr,eM,h,Int.reduceEq,if_false,if_true];split
  ·rename_i s' hs;split at hs
   ·rename_i hh;cases hs;exact cQ.post (Ic s hk x hh) (pw (x:=x) hk (by simp[eM,h,hh.1,hh.2.1,hh.2.2]) (by omega))
   ·cases hs
  ·rename_i hs;split at hs
   ·cases hs
   ·rename_i hh;exact Ie s hk x hh
 ·refine ⟨71,by rw[h];simp[fu,eG,b7,hZ,jO],rfl,?_⟩;simp only[lr,eM,h,Int.reduceEq,if_false,if_true];cases hu:s.unknown x with
  |true =>
   simp only[if_true];exact cQ.post (If s hk x hu) (pw (x:=x) hk (by simp[eM,h,hu]) (by omega))
  |false =>
   simp only[zz3,if_false];exact Ig s hk x hu
def dL(x:aI)(b:Bool)(l:List (Nat×ao)):List (Nat×ao):=(1900004,.box (.bool b))::(1900003,.box (enc x))::l
def na(s:az)(x:aI):cA:=fun r os'=>r=.bool (ea s x).2∧os'=dL x (ea s x).2 (gW s.all.length (ea s x).1)
def l3:List (Nat×Nat):=[(1900003,3),(1900004,4)]
theorem tl{s:az}(hk:cG s)(x:aI):cG (ea s x).1∧(ea s x).1.aB=s.aB∧s.all.length≤(ea s x).1.all.length∧(ea s x).1.all.length≤s.all.length+1:=by
 simp only[ea];cases h:eS s x with
 |none=>exact ⟨hk,rfl,zz5 _,by simp⟩
 |some s' =>
  simp only[eS] at h;split at h
  ·obtain ⟨U,ab,af,aq⟩:=hk.next h
   refine ⟨U,ab,?_,af⟩;by_cases hk3:x.kind=3
   ·simp only[eM,hk3,Int.reduceEq,if_false,if_true] at h;split at h <;>cases h
    simp
   ·exact Nat.le_of_eq (aq hk3).symm
  ·cases h
theorem vA{s:az}{k:Nat}(h:s.all.length≤k+1){n:Nat}(hn:av (gW k s) n=true):n=57∨(1000000≤n∧n<1000006+k):=by
 rcases (dM (hJ h)).1 hn with ab | ⟨i,hi,rfl⟩
 ·omega
 ·simp only[ga];split <;>omega
theorem mc{s:az}{n:Nat}(hn:av (aO s) n=true):1000000≤n∧n<1000005+s.all.length:=by
 rcases (dM (dF _)).1 hn with ab | ⟨i,hi,rfl⟩
 ·omega
 ·simp only[bF];omega
theorem j2{x:aI}{b:Bool}{l:List (Nat×ao)}{n:Nat} : av (dL x b l) n=true↔n=1900004∨n=1900003∨av l n=true:=by
 simp only[av,dL,aj];by_cases U:n=1900004
 ·simp[U]
 by_cases ab:n=1900003
 ·simp[ab]
 simp[U,ab]
theorem sM{x:aI}{b:Bool}{l:List (Nat×ao)}(hl:∀ m y,aj l m=some y→y.only (av l)=true∧y.eg=true){n:Nat}{y:ao}(h:aj (dL x b l) n=some y):y.only (av (dL x b l))=true∧y.eg=true:=by
 simp only[dL,aj] at h;split at h
 ·cases h;exact ⟨rfl,rfl⟩
 split at h
 ·cases h;exact ⟨cv _ _,rfl⟩
 obtain ⟨U,ab⟩:=hl n y h;refine ⟨ao.jh (fun m hm=>j2.2 (.inr (.inr hm))) y U,ab⟩
theorem yK(ρ:List (Nat×Nat))(k:Nat)(v:ao)(os:List (Nat×ao)):df ρ ((k,v)::os)=(bx ρ k,v.a8 (bx ρ))::df ρ os:=rfl
theorem Gj{ρ:List (Nat×Nat)}{ν ν':Nat→Nat} : ∀ (l:List dI) (i:Nat),(∀ k,k<i+l.length→bx ρ (ν k)=ν' k)→df ρ (jN ν i l)=jN ν' i l
 | [],_,_=>rfl
 |r::l,i,h=>by
  simp only[zv1] at h;simp only[jN,yK,h i (by omega),ao.a8,km,Gj l (i+1) fun k hk=>h k (by omega)]
theorem Gm{ρ:Nat→Nat}{ν ν':Nat→Nat} : ∀ l:List Nat,(∀ i∈l,ρ (ν i)=ν' i)→I.dm ρ (dT ν l)=dT ν' l
 | [],_=>rfl
 |i::l,h=>by
  have ih:=Gm (ρ:=ρ) l fun j hj=>h j (by simp[hj]);simp only[dT] at ih;simp only[dT,zz4,I.dm,I.a8,h i (by simp),ih]
theorem Gl{ρ:List (Nat×Nat)}{B B':Nat}{ν ν':Nat→Nat}{s:az}(hl:∀ i∈s.aQ,i<s.all.length)(aZ:∀ j,j<5→bx ρ (B+j)=B'+j)(h:∀ k,k<s.all.length→bx ρ (ν k)=ν' k):df ρ (dZ B ν s)=dZ B' ν' s:=by
 have hB:bx ρ B=B':=aZ 0 (by omega);have U:=aZ 1 (by omega);have ab:=aZ 2 (by omega);have af:=aZ 3 (by omega);have aq:=aZ 4 (by omega);have hp:=Gm (ρ:=bx ρ) s.aQ fun i hi=>h i (hl i hi);have hr:I.dm (bx ρ) (List.replicate s.here.length (.bool true))=List.replicate s.here.length (.bool true):=oq _ _ (rN _);simp only[dZ,yK,hB,U,ab,af,aq,Gj s.all 0 (by simpa using h),oE,qC,pH,sk,qm,hZ,ao.a8,I.a8,I.dm,pE,hp,hr]
theorem sx{ρ:List (Nat×Nat)}{os:List (Nat×ao)}{m:Nat}{y:ao}(inj:∀ m',av os m'=true→bx ρ m'=bx ρ m→m'=m)(h:aj os m=some y):aj (df ρ os) (bx ρ m)=some (y.a8 (bx ρ)):=by
 have U:=qM ρ os [] (bx ρ m);rw[zy3] at U;rw[U];cases hp:pre ρ os (bx ρ m) with
 |none=>exact absurd rfl (vh hp (by simp[av,h]))
 |some m' =>
  obtain ⟨k1,k2⟩:=jk hp;have:=inj m' k1 k2;subst this;simp only[h,zy2]
theorem nr(m:Nat):bx l3 m=if m=1900003 then 3 else if m=1900004 then 4 else m:=rfl
theorem Gi{s:az}(hk:cG s){k:Nat}(h:s.all.length≤k+1)(hlen:k≤100000):df l3 (gW k s)=gW k s :=
 Gl hk.cP (fun j hj=>by rw[nr,if_neg (by omega),if_neg (by omega)]) fun i hi=>by
  have:ga 1000000 57 k i=57∨(1000000≤ga 1000000 57 k i∧ga 1000000 57 k i<1000006+k):=by simp only[ga];split <;>omega
  rw[nr,if_neg (by omega),if_neg (by omega)]
theorem Zk{s:az}(hk:cG s)(hlen:s.all.length≤100000):df l3 (aO s)=aO s:=by
 rw[←vB hk (zz5 _)];exact Gi hk (by omega) hlen
def yO:bD:=.seq (.cm none CY) (.seq (.cm MJ r2) (.seq (.cm none SP) .ret))
theorem Nc:Tryd.f44.body.bind (wR Tryd.prog Tryd.f44.ntmps)=some (.cm none CX,57,4,5,yO):=by kernel_rfl
def qT(s:az)(x:aI):List (Nat×ao):=(4,.box (.bool false))::(3,.box (enc x))::aO s
theorem WE{s:az}(hk:cG s)(hlen:s.all.length≤100000)(x:aI):gE l3 (dL x false (aO s)) (qT s x):=by
 refine ⟨fun m y hy=>⟨?_,sM (fun _ _ h=>ja hk h) hy⟩,fun m m' hm hm' e =>?_⟩
 ·simp only[dL,aj] at hy;split at hy
  ·rename_i h;subst h;cases hy;rfl
  split at hy
  ·rename_i h;subst h;cases hy;simp only[ao.a8,km];rfl
  ·have hm:=mc (s:=s) (n:=m) (by simp[av,hy]);have e:bx l3 m=m:=by rw[nr,if_neg (by omega),if_neg (by omega)]
   have:=sx (ρ:=l3) (os:=aO s) (m:=m) (fun m' hm' he=>by
    have:=mc hm';rw[e,nr,if_neg (by omega),if_neg (by omega)] at he;exact he) hy
   rw[Zk hk hlen] at this;rw[e] at this ⊢;simp only[qT,aj];rw[if_neg (by omega),if_neg (by omega)];exact this
 ·have key:∀ m,av (dL x false (aO s)) m=true→m=1900004∨m=1900003∨(1000000≤m∧m<1900000):=fun m hm=>by
   rcases j2.1 hm with h | h | h
   ·exact .inl h
   ·exact .inr (.inl h)
   ·have:=mc h;exact .inr (.inr (by omega))
  have k1:=key m hm;have k2:=key m' hm';rw[nr,nr] at e
  (repeat' split at e) <;>omega
theorem I5{s:az}(hk:cG s)(hlen:s.all.length≤100000)(x:aI):∀ r os',na s x r os'→gm false l3 (dL x false (aO s)) (qT s x) r os':=by
 rintro r os' ⟨rfl,rfl⟩;obtain ⟨U,ab,af,aq⟩:=tl hk x;have hon:∀ m y,aj (gW s.all.length (ea s x).1) m=some y→y.only (av (gW s.all.length (ea s x).1))=true∧y.eg=true:=fun m y h=>mf (hJ aq) U.cP h;have key:∀ m,av (dL x (ea s x).2 (gW s.all.length (ea s x).1)) m=true→m=1900004∨m=1900003∨m=57∨(1000000≤m∧m<1900000):=fun m hm=>by
  rcases j2.1 hm with h | h | h
  ·exact .inl h
  ·exact .inr (.inl h)
  ·have:=vA aq h;omega
 refine ⟨fun m y hy=>⟨(sM hon hy).1,(sM hon hy).2,fun h=>by cases h⟩,fun m m' hm hm' e =>?_,fun m hm =>?_,fun m hm hno =>?_,rfl,fun h=>by cases h⟩
 ·have k1:=key m hm;have k2:=key m' hm';rw[nr,nr] at e
  (repeat' split at e) <;>omega
 ·rcases j2.1 hm with h | h | h
  ·exact j2.2 (.inl h)
  ·exact j2.2 (.inr (.inl h))
  ·refine j2.2 (.inr (.inr ?_));rcases (dM (dF _)).1 h with h5 | ⟨i,hi,rfl⟩
   ·exact (dM (hJ aq)).2 (.inl h5)
   ·exact (dM (hJ aq)).2 (.inr ⟨i,by omega,(mV hi).symm⟩)
 ·have hno2:¬ (m=1900004∨m=1900003∨av (aO s) m=true):=fun h=>by
   rw[j2.2 h] at hno;cases hno
  rcases j2.1 hm with h | h | h
  ·exact absurd (.inl h) hno2
  ·exact absurd (.inr (.inl h)) hno2
  ·have h57:m=57:=by
    rcases (dM (hJ aq)).1 h with h5 | ⟨i,hi,e⟩
    ·exact absurd (.inr (.inr ((dM (dF _)).2 (.inl h5)))) hno2
    ·by_cases hi2:i=s.all.length
     ·subst hi2;simpa[ga] using e
     ·exact absurd (.inr (.inr ((dM (dF _)).2 (.inr ⟨i,by omega,by rw[e,mV (by omega)]⟩)))) hno2
   subst h57;refine ⟨?_,by decide⟩
   show aj (qT s x) 57=none
   simp only[qT,aj,Nat.reduceEqDiff,if_false];exact eI (.inl (by omega)) fun i _=>by simp[bF];omega
theorem I3{s:az}(hk:cG s)(hlen:s.all.length≤100000)(x:aI):∀ r os',na s x r os'→∃ osF,r.flat=true∧r.a8 (bx l3)=r∧(∀ m z,aj osF m=some z→aj (df l3 os'++qT s x) m=some z∧z.only (av osF)=true∧z.eg=true)∧EV s x r osF:=by
 rintro r os' ⟨rfl,rfl⟩;obtain ⟨U,ab,af,aq⟩:=tl hk x;refine ⟨gW s.all.length (ea s x).1,rfl,rfl,fun m z hz=>⟨?_,mf (hJ aq) U.cP hz⟩,rfl,rfl⟩;have hm:=vA aq (n:=m) (by simp[av,hz]);simp only[dL,yK,Gi U aq hlen,zz2,aj,nr];rw[if_neg (by simp only[Nat.reduceEqDiff,if_false,if_true];omega),if_neg (by simp only[if_true];omega),fU,hz]
theorem Xj(f:Nat):(f+1000000<1000000)=False:=by simp
theorem Dl{s:az}(hk:cG s)(hlen:s.all.length≤100000)(x:aI)(b:Bool):gE [] (aO s) (dL x b (aO s)):=by
 refine ⟨fun m y hy=>⟨?_,ja hk hy⟩,fun m m' _ _ h=>h⟩;have hm:=mc (s:=s) (n:=m) (by simp[av,hy]);rw[ao.kY (ρ:=bx []) (fun n=>rfl)]
 show aj (dL x b (aO s)) m=some y
 simp only[dL,aj];rw[if_neg (by omega),if_neg (by omega)];exact hy
theorem Z6{s s':az}(hk':cG s')(af:s.all.length≤s'.all.length)(aq:s'.all.length≤s.all.length+1)(x:aI):gm false [] (aO s) (dL x false (aO s)) (.tuple []) (gW s.all.length s'):=by
 refine ⟨fun m y hy=>⟨(mf (hJ aq) hk'.cP hy).1,(mf (hJ aq) hk'.cP hy).2,fun h=>by cases h⟩,fun m m' _ _ h=>h,fun m hm =>?_,fun m hm hno =>?_,rfl,fun h=>by cases h⟩
 ·rcases (dM (dF _)).1 hm with h5 | ⟨i,hi,rfl⟩
  ·exact (dM (hJ aq)).2 (.inl h5)
  ·exact (dM (hJ aq)).2 (.inr ⟨i,by omega,(mV hi).symm⟩)
 ·have h57:m=57:=by
   rcases (dM (hJ aq)).1 hm with h5 | ⟨i,hi,e⟩
   ·rw[(dM (dF _)).2 (.inl h5)] at hno;cases hno
   ·by_cases hi2:i=s.all.length
    ·subst hi2;simpa[ga] using e
    ·rw[(dM (dF _)).2 (.inr ⟨i,by omega,by rw[e,mV (by omega)]⟩)] at hno;cases hno
  subst h57;refine ⟨?_,by decide⟩
  show aj (dL x false (aO s)) 57=none
  simp only[dL,aj,Nat.reduceEqDiff,if_false];exact eI (.inl (by omega)) fun i _=>by simp[bF];omega
theorem cj.x3{hs:List FuncId}{K:ai→Prop}{f:FuncId}{s s':az}{x:aI}{avs:List I}{a1 a2:Option (List I)}{dst:Option Nat}{rest:List aw}{ts:List (Nat×I)}(hk:cG s)(hlen:s.all.length≤100000)(hk':cG s')(af:s.all.length≤s'.all.length)(aq:s'.all.length≤s.all.length+1)
  (hf:hs.contains f=true) (hc:cQ Tryd.prog f [.ptr 1000000 [],enc x] (aO s) (vf s.all.length s')) (hav:avs=[.ptr 1000000 [],enc x])
  (h:cj Tryd.prog dv hs K (aA rest ((au ts (gW s.all.length s'++dL x false (aO s))).aX dst (.tuple [])))):cj Tryd.prog dv hs K (.call f avs a1 a2 dst rest (au ts (dL x false (aO s)))):=by
 subst hav;refine .yf false [] (aO s) [.ptr 1000000 [],enc x] _ hf hc (Dl hk hlen x false) tS ?_ ?_
 ·rintro r os' ⟨rfl,rfl⟩;exact Z6 hk' af aq x
 ·rintro r os' ⟨rfl,rfl⟩;rw[nh];exact h
theorem YG{Q:Exit→ai→Prop}{f:FuncId}{s:az}{x:aI}(hk:cG s)(hlen:s.all.length≤100000)(hc:fj Tryd.prog f fI [.ptr 1000000 [],enc x] (aO s) (kG s)){ts:List (Nat×I)}(hq:Q (.panic fI) (au ts (aO s++dL x false (aO s)))):oN Tryd.prog Q f [.ptr 1000000 [],enc x] (au ts (dL x false (aO s))) :=
 .mk false [] (aO s) [.ptr 1000000 [],enc x] fI _ hc (Dl hk hlen x false) tS (fun os' h=>by cases h;exact wj hk rfl) (fun os' h=>by cases h;rw[nh];exact hq)
theorem I1{ts:List (Nat×I)}{s:az}{x:aI}(hlen:s.all.length≤100000):au ts (aO s++dL x false (aO s))=au ts (dL x false (aO s)):=by
 simp only[au,ai.mk.injEq,true_and]
 funext n
 rw[fU];cases h:aj (aO s) n with
 |none=>rfl
 |some y =>
  have:=mc (s:=s) (n:=n) (by simp[av,h]);simp only[dL,aj];rw[if_neg (by omega),if_neg (by omega),h]
theorem Gd{s:az}{x:aI}(hk:cG s)(hlen:s.all.length≤100000)(hn:ea s x=(s,false)){ts:List (Nat×I)}(ht:Abs.bI ts 4=.ptr 1900004 []):sY [.cell 4 none] (na s x) fI 1900004 (.panic fI) (au ts (dL x false (aO s))):=by
 refine ⟨rfl,⟨false,rfl⟩,dL x false (aO s),[.bool false],fun m z hz=>⟨?_,sM (fun _ _ h=>ja hk h) hz⟩,⟨⟨.bool false,?_,.inl ⟨rfl,rfl,rfl⟩⟩,trivial⟩,?_⟩
 ·show aj ((1900004,.box (.bool false))::dL x false (aO s)) m=some z
  simp only[aj];split
  ·rename_i h;subst h;exact hz
  ·exact hz
 ·show (match cJ _ (Abs.bI ts 4) with | some x=>if b8 none x=true then some x else none | none=>none)=some (I.bool false)
  rw[ht];rfl
 ·show na s x (.bool false) (dL x false (aO s))
  simp only[na];rw[hn];exact ⟨rfl,congrArg _ (vB hk (zz5 _)).symm⟩
theorem Zr{s:az}(hk:cG s)(hlen:s.all.length≤100000)(x:aI)(W:World)(D:aU)(E:bf)(n:Nat)(d:Deferred) :
  ae ⟨Tryd.prog,W,D,n,cE E,E,dv,none,some [d]⟩ yO (sY [.cell 4 none] (na s x) fI 1900004) (au [(0,.ptr 1000000 []),(3,.ptr 1900003 []),(4,.ptr 1900004 [])] (dL x false (aO s))):=by
 have aZ:aj (dL x false (aO s)) 1000000=some (.box (.agg [.int .i64 s.aB,.mref 1000001,.mref 1000002,.int .i64 s.all.length,.mref 1000003,.mref 1000004])):=by
  simp only[dL,aj,Nat.reduceEqDiff,if_false];exact fH
 have aq:aj (dL x false (aO s)) 1000004=some (.bA hZ (jO 1000000)):=by
  simp only[dL,aj,Nat.reduceEqDiff,if_false];exact pS
 have hb3:aj (dL x false (aO s)) 1900003=some (.box (enc x)):=rfl;have hb4:aj (dL x false (aO s)) 1900004=some (.box (.bool false)):=rfl;have hF:=HY x;simp only[yO];rcases hx:gU x
 ·rw[hx] at hF;have hn:ea s x=(s,false):=by simp[ea,eS,hx]
  have R:=y6 @aZ (y6 @aq (y6 @hb3 (y6 @hb4 (y6 @bw (y6 @br aK)))))
  repeat' ((first |(with_reducible refine .guard (fun hb =>?_) (fun hb =>?_) <;>try simp only[hb])|(refine ae.pA (gs:=CY) (gs1:=[_,_]) rfl fun K hK =>?_)|refine ae.aM (by decide +kernel) rfl fun K hK =>?_|refine .flat _ (hF) rfl ?_|(refine .aD [0,1,3,4] hK ?_;clear hK K)|(with_reducible refine .done (hK _ ?_);clear hK K)|refine ae.of rfl ?_|(with_reducible refine aF.aL (fun h =>?_) (fun h =>?_) <;>try simp only[h])) <;>try simp only[aN,R,simprocAttr])
  all_goals clear R
  exact .call (iV (Gd hk hlen hn rfl))
 rw[hx] at hF;obtain ⟨f,hlk,hfc,hdo⟩:=x3 hk hlen hx;have hfl:=uh f;have hlm:=Xj f;have hkd:(enc x:I).dP=some [.int .i64 x.kind,.int .i64 x.aC,.int .i64 x.other,.int .i64 x.no]:=rfl;simp only[lr] at hdo;cases hn:eM s x with
 |none =>
  rw[hn] at hdo;have hn2:ea s x=(s,false):=by simp[ea,eS,hx,hn]
  have R:=y6 @aZ (y6 @aq (y6 @hb3 (y6 @hb4 (y6 @hlk (y6 @hfl (y6 @hlm (y6 @bw (y6 @br aK))))))))
  repeat' ((first |(with_reducible refine .guard (fun hb =>?_) (fun hb =>?_) <;>try simp only[hb])|(refine ae.j6 (gs:=r2) 8 [] [] [0,1,2,3,4,5,6,7] (by decide +kernel) rfl (dy.of (by simp[gI])) fun K hK =>?_;simp only[gJ,r2,gS,zz2,zw1,List.take_zero,zx8,zx9,R,simprocAttr])|refine ae.aM (by decide +kernel) rfl fun K hK =>?_|refine .flat _ (hF) rfl ?_|refine .flat _ (lu) rfl ?_|(refine .aD [0,1,3,4] hK ?_;clear hK K)|(with_reducible refine .done (hK _ ?_);clear hK K)|refine ae.of rfl ?_|(with_reducible refine aF.aL (fun h =>?_) (fun h =>?_) <;>try simp only[h])) <;>try simp only[aN,R,simprocAttr])
  all_goals clear R
  refine .fy (f:=f+1000000) (caps:=[.ptr 1000000 []]) rfl ?_;rw[uh,xd];exact YG hk hlen hdo (by rw[I1 hlen];exact Gd hk hlen hn2 rfl)
 |some s' =>
  rw[hn] at hdo;have hn2:ea s x=(s',true):=by simp[ea,eS,hx,hn]
  have hso:=tl hk x;rw[hn2] at hso;simp only at hso;obtain ⟨k1,k2,k3,k4⟩:=hso;have e4:∀ n,n=1900004∨n=1900003→aj (gW s.all.length s') n=none:=fun n hn=>by
   rcases hn with rfl | rfl <;>exact eI (.inr (by omega)) fun i hi=>by simp only[ga];split <;>omega
  have hb4':aj (gW s.all.length s'++dL x false (aO s)) 1900004=some (.box (.bool false)):=by
   rw[fU,e4 _ (.inl rfl)];exact hb4
  have hst:∀ A rest,da A none 1900004 [] (.bool false) (.bool true) rest (some (.bool false))=aA rest (A.aV 1900004 (.box (.bool true))):=fun A rest=>dS rfl rfl rfl;have R:=y6 @aZ (y6 @aq (y6 @hb3 (y6 @hb4 (y6 @hb4' (y6 @hst (y6 @hlk (y6 @hfl (y6 @hlm (y6 @bw (y6 @br aK))))))))))
  repeat' ((first |(with_reducible refine .guard (fun hb =>?_) (fun hb =>?_) <;>try simp only[hb])|(refine ae.sZ (gs:=r2) [64,65,66,67,68,69,70,71] [] [0,1,2,3,4,5,6,7,8] (by decide +kernel) (dy.of (by simp[gI])) fun K hK =>?_;simp only[gJ,r2,zx8,zx9,R,simprocAttr])|refine ae.aM (by decide +kernel) rfl fun K hK =>?_|refine .flat _ (hF) rfl ?_|refine .flat _ (lu) rfl ?_|refine cj.x3 hk hlen k1 k3 k4 hfc hdo rfl ?_|(refine .aD [0,1,3,4] hK ?_;clear hK K)|(with_reducible refine .done (hK _ ?_);clear hK K)|refine ae.of rfl ?_|(with_reducible refine aF.aL (fun h =>?_) (fun h =>?_) <;>try simp only[h])) <;>try simp only[aN,R,simprocAttr])
  all_goals clear R
  refine ⟨⟨true,rfl⟩,dL x true (gW s.all.length s'),[.bool true],fun m z hz=>⟨?_,sM (fun _ _ h=>mf (hJ k4) k1.cP h) hz⟩,⟨⟨.bool true,rfl,.inl ⟨rfl,rfl,rfl⟩⟩,trivial⟩,?_⟩
  ·show aj ((1900004,.box (.bool true))::(gW s.all.length s'++dL x false (aO s))) m=some z
   simp only[dL,aj] at hz ⊢;split
   ·rename_i h;rw[if_pos h] at hz;exact hz
   rename_i h;rw[if_neg h] at hz;rw[fU];split at hz
   ·rename_i ab;rw[ab,e4 _ (.inr rfl),←ab];simp only[aj,if_neg h];exact hz
   ·rw[hz]
  ·show na s x (.bool true) (dL x true (gW s.all.length s'))
   simp only[na];rw[hn2];exact ⟨rfl,rfl⟩
theorem HK(s:az)(hk:cG s)(hlen:s.all.length≤100000)(x:aI):cQ Tryd.prog 44 [.ptr 1000000 [],enc x] (aO s) (EV s x):=by
 refine cQ.Ys Tryd.func44 J8 Nc L3 (u8 rfl) (u8 rfl) dx Zd Zc (by decide) fun hwf W0 bO E1 =>?_;simp only[bQ,zz1];clear hwf;have n3:aj (aO s) 3=none:=eI (.inl (by omega)) fun i _=>by simp[bF];omega
 have n4:aj (aO s) 4=none:=eI (.inl (by omega)) fun i _=>by simp[bF];omega
 refine .kI (by decide +kernel) fun K hK =>?_
 try simp only[CX,n3,n4,aK,bK,simprocAttr]
 refine .done (hK _ ?_);simp only[eb];refine ⟨_,_,l3,dL x false (aO s),[0,3,4],[.ptr 1000000 [],.ptr 1900003 [],.ptr 1900004 []],1900004,false,na s x,rfl,?_⟩;exact {
  fQ:=rfl
  Dk:=WE hk hlen x
  arg:=⟨.inl ⟨rfl,j2.2 (.inr (.inr ((dM (dF _)).2 (.inl (by omega))))),rfl⟩,.inl ⟨rfl,j2.2 (.inr (.inl rfl)),rfl⟩,.inl ⟨rfl,j2.2 (.inl rfl),rfl⟩,trivial⟩
  Aa:=I5 hk hlen x
  GM:=rfl
  box:=rfl
  mL:=fun m hm=>by
   have:1000000≤m:=by
    rcases j2.1 hm with h | h | h
    ·omega
    ·omega
    ·exact (mc h).1
   exact ⟨Nat.le_trans (u8 rfl) this,this⟩
  rest:=fun W D E d=>Zr hk hlen x W D E _ d
  gG:=I3 hk hlen x }
end Go.Proofs.YthbdbocionnfgaaDoor
namespace Go.Abs
open Go Go.RowKit
theorem bt.fn{ts ts':List (Nat×I)}{os os':List (Nat×ao)}(U:cn ts ts')(ab:∀ n,aj os' n=none∨aj os' n=aj os n)(af:cu (av os') ts')(aq:∀ n x,aj os' n=some x→x.only (av os')=true):bt (au ts os) (au ts' os'):=by
 rintro c a w ⟨D,E,hs⟩;have hp:∀ n,av os' n=true→(if av os' n then E n else none)=E n:=fun n hn=>by simp[hn]
 refine ⟨D,fun n=>if av os' n then E n else none,hs.sz,hs.eB,fun t =>?_,hs.dG,hs.cZ,hs.aQ,fun n =>?_,fun n m e e' b U ab af aq =>?_,fun n e hn =>?_,hs.eL,hs.cR,hs.eV,hs.fw⟩
 ·have:=vG U t;rcases this with h | h
  ·simp only[au];rw[h];simp[bg]
  ·refine bg.c9 (p:=av os') hp (u6 af t) ?_;have:=hs.dN t;simp only[au] at *;rw[h];exact this
 ·have ho:=hs.bP n;simp only[au] at *;rcases ab n with h | h
  ·rw[h];simp[cN,av,h]
  ·rw[h];by_cases hin:aj os n=none
   ·rw[hin];simp[cN,av,h,hin]
   ·have ay:(if av os' n then E n else none)=E n:=hp n (by simp[av,h];cases hh:aj os n <;>simp_all);cases hx:aj os n with
    |none=>exact absurd hx hin
    |some x =>
     have hon:=aq n x (h.trans hx);rw[hx] at ho;cases x with
     |box x =>
      obtain ⟨b,cs,T,k1,k2,k3,k4,k5⟩:=ho;exact ⟨b,cs,T,ay.trans k1,k2,k3,al.c9 hp _ _ (by simpa[ao.only] using hon) k4,k5⟩
     |bU T sz es =>
      obtain ⟨aH,k1,k2,k3⟩:=ho;refine ⟨aH,ay.trans k1,k2,?_⟩;cases aH with
      |none=>exact k3
      |some bc =>
       obtain ⟨b,cap⟩:=bc;obtain ⟨cs,pre,rest,q1,q2,q3,q4,q5⟩:=k3;exact ⟨cs,pre,rest,q1,q2,q3,aP.c9 hp _ _ (by simpa[ao.only] using hon) q4,q5⟩
     |dD T xs =>
      obtain ⟨aH,k1,k2,k3⟩:=ho;exact ⟨aH,ay.trans k1,k2,k3⟩
     |dC x =>
      obtain ⟨b,k1,k2⟩:=ho;exact ⟨b,ay.trans k1,k2⟩
     |bA ks vs =>
      obtain ⟨b,es,ck,k1,k2,k3,k4,k5,k6,k7⟩:=ho;simp only[ao.only,t8] at hon;exact ⟨b,es,ck,ay.trans k1,k2,k3,k4,aG.c9 hp _ _ hon.1 k5,aG.c9 hp _ _ hon.2 k6,k7⟩
     |it ks vs left cur =>
      obtain ⟨r,b,es,ck,si,se,la,k1,k2,k3,k4,k5,k6,k7⟩:=ho;simp only[ao.only,t8] at hon;exact ⟨r,b,es,ck,si,se,la,ay.trans k1,k2,k3,k4,aG.c9 hp _ _ hon.1 k5,aG.c9 hp _ _ hon.2 k6,k7⟩
 ·refine hs.cO n m e e' b ?_ ?_ af aq
  ·split at U
   ·exact U
   ·cases U
  ·split at ab
   ·exact ab
   ·cases ab
 ·by_cases hi:av os' n=true
  ·simp only[hi,if_true];exact hs.dQ n e hn
  ·simp only[hi];exact .inl rfl
end Go.Abs
namespace Go.Proofs.YthbdbocionnfgaaDoor
open Go Go.Abs
open Go.Abs.Enc (enc)
theorem Ek:(∀ v:I,v.bT=true→fE (.i .i64) (.int .i64 1) v [] []=some ([.int .i64 1],[v]))∧(∀ a1 v:I,v.bT=true→fE (.i .i64) (.int .i64 2) v [.int .i64 1] [a1]=some ([.int .i64 1,.int .i64 2],[a1,v]))∧(∀ a1 a2 v:I,v.bT=true→fE (.i .i64) (.int .i64 3) v [.int .i64 1,.int .i64 2] [a1,a2]=some ([.int .i64 1,.int .i64 2,.int .i64 3],[a1,a2,v]))∧(∀ a1 a2 a3 v:I,v.bT=true→fE (.i .i64) (.int .i64 4) v [.int .i64 1,.int .i64 2,.int .i64 3] [a1,a2,a3]=some ([.int .i64 1,.int .i64 2,.int .i64 3,.int .i64 4],[a1,a2,a3,v]))∧(∀ a1 a2 a3 a4 v:I,v.bT=true→fE (.i .i64) (.int .i64 5) v [.int .i64 1,.int .i64 2,.int .i64 3,.int .i64 4] [a1,a2,a3,a4]=some ([.int .i64 1,.int .i64 2,.int .i64 3,.int .i64 4,.int .i64 5],[a1,a2,a3,a4,v]))∧(∀ a1 a2 a3 a4 a5 v:I,v.bT=true→fE (.i .i64) (.int .i64 6) v [.int .i64 1,.int .i64 2,.int .i64 3,.int .i64 4,.int .i64 5] [a1,a2,a3,a4,a5]=some ([.int .i64 1,.int .i64 2,.int .i64 3,.int .i64 4,.int .i64 5,.int .i64 6],[a1,a2,a3,a4,a5,v]))∧(∀ a1 a2 a3 a4 a5 a6 v:I,v.bT=true→fE (.i .i64) (.int .i64 7) v [.int .i64 1,.int .i64 2,.int .i64 3,.int .i64 4,.int .i64 5,.int .i64 6] [a1,a2,a3,a4,a5,a6]=some ([.int .i64 1,.int .i64 2,.int .i64 3,.int .i64 4,.int .i64 5,.int .i64 6,.int .i64 7],[a1,a2,a3,a4,a5,a6,v]))∧(∀ a1 a2 a3 a4 a5 a6 a7 v:I,v.bT=true→fE (.i .i64) (.int .i64 8) v [.int .i64 1,.int .i64 2,.int .i64 3,.int .i64 4,.int .i64 5,.int .i64 6,.int .i64 7] [a1,a2,a3,a4,a5,a6,a7]=some ([.int .i64 1,.int .i64 2,.int .i64 3,.int .i64 4,.int .i64 5,.int .i64 6,.int .i64 7,.int .i64 8],[a1,a2,a3,a4,a5,a6,a7,v])) :=
 ⟨fun  v h=>by simp[fE,eG,b7,I.bT];try exact h,fun a1 v h=>by simp[fE,eG,b7,I.bT];try exact h,fun a1 a2 v h=>by simp[fE,eG,b7,I.bT];try exact h,fun a1 a2 a3 v h=>by simp[fE,eG,b7,I.bT];try exact h,fun a1 a2 a3 a4 v h=>by simp[fE,eG,b7,I.bT];try exact h,fun a1 a2 a3 a4 a5 v h=>by simp[fE,eG,b7,I.bT];try exact h,fun a1 a2 a3 a4 a5 a6 v h=>by simp[fE,eG,b7,I.bT];try exact h,fun a1 a2 a3 a4 a5 a6 a7 v h=>by simp[fE,eG,b7,I.bT];try exact h⟩
theorem bJ:(∀ f c,(I.func f c).bT=true)∧(∀ n,(I.mref n).bT=true)∧(∀ n p,(I.ptr n p).bT=true):=⟨fun _ _=>rfl,fun _=>rfl,fun _ _=>rfl⟩
def pk(aB:Int):List (Nat×ao):=[(9,.box (.agg [.int .i64 aB,.mref 5,.mref 6,.int .i64 0,.mref 7,.mref 11])),(5,.bA [] []),(6,.bA [] []),(7,.bA [] []),(11,.bA hZ (jO 9))]
def eh(aB:Int):az:=⟨aB,[],[],[],[]⟩
def YQ(aB:Int):cA:=fun r os'=>r=.ptr 9 []∧os'=pk aB
theorem HU(aB:Int):cQ Tryd.prog 53 [enc aB] [] (YQ aB):=by
 refine cQ.cg Tryd.func53 Kf K8 Ma (u8 rfl) (u8 rfl) (fun m hm=>by simp[av,aj] at hm) (fun hwf W0 bO E1 =>?_);simp only[AW,FK,bQ];clear hwf;have hbld:(dY [.int .i64 0,.raw (.map none),.raw (.map none),.int .i64 0,.raw (.map none),.raw (.map none)] [(0,.int .i64 aB),(1,.mref 5),(2,.mref 6),(4,.mref 7)]).map I.agg=some (.agg [.int .i64 aB,.mref 5,.mref 6,.int .i64 0,.mref 7,.raw (.map none)]):=by simp[dY,I.bT,I.size]
 have hst:∀ A rest,da A none 9 [5] (.agg [.int .i64 aB,.mref 5,.mref 6,.int .i64 0,.mref 7,.raw (.map none)]) (.mref 11) rest (some (.raw (.map none)))=aA rest (A.aV 9 (.box (.agg [.int .i64 aB,.mref 5,.mref 6,.int .i64 0,.mref 7,.mref 11]))):=fun A rest=>dS rfl rfl rfl;have hval:∀ a b c d e f:I,(I.agg [a,b,c,d,e,f]).bT=true:=fun _ _ _ _ _ _=>rfl;have hoff:∀ v,dR [.int .i64 aB,.mref 5,.mref 6,.int .i64 0,.mref 7,.raw (.map none)] 5 5 v=some v:=fun _=>rfl;have hall:([I.ptr 9 []].all fun y=>y.bT)=true:=rfl;have R:=y6 @hall (y6 @hbld (y6 @hst (y6 @hval (y6 @hoff (y6 @Ek (y6 @bJ (y6 @bw (y6 @br aK))))))))
 repeat' ((first |(with_reducible refine .guard (fun hb =>?_) (fun hb =>?_) <;>try simp only[hb])|refine ae.aM (by decide +kernel) rfl fun K hK =>?_|(refine .aD [0,2,3] hK ?_;clear hK K)|(with_reducible refine .done (hK _ ?_);clear hK K)|refine ae.of rfl ?_|(with_reducible refine aF.aL (fun h =>?_) (fun h =>?_) <;>try simp only[h])) <;>try simp only[aN,R,simprocAttr])
 all_goals clear R
 refine ⟨pk aB,[.ptr 9 []],fun n x hx =>?_,⟨⟨_,rfl,.inl ⟨rfl,rfl,rfl⟩⟩,trivial⟩,rfl,rfl⟩;simp only[pk,aj] at hx
 (repeat' split at hx) <;>first
  |(cases hx;done)
  |(rename_i h;subst h;cases hx;exact ⟨rfl,rfl,rfl⟩)
abbrev dq(s:az):List (Nat×ao):=dZ 2000 (bF 2000) s
def yP:List (Nat×Nat):=[(9,2000),(5,2001),(6,2002),(7,2003),(11,2004)]
theorem Zm(aB:Int):df yP (pk aB)=dq (eh aB):=rfl
theorem kW(aB:Int):cG (eh aB):=⟨fun i hi=>by simp[eh] at hi,by simp[eh],by simp[eh]⟩
theorem aT.eh{K:ai→Prop}{aB:Int}{avs:List I}{a1 a2:Option (List I)}{dst:Option Nat}{rest:List aw}{ts:List (Nat×I)}{os0:List (Nat×ao)}(hav:avs=[enc aB])(hno:∀ m,2000≤m→m<1000000→aj os0 m=none)
  (h:aT Tryd.prog dv false K (aA rest ((au ts (dq (Go.Proofs.YthbdbocionnfgaaDoor.eh aB)++os0)).aX dst (.ptr 2000 [])))):aT Tryd.prog dv false K (.call 53 avs a1 a2 dst rest (au ts os0)):=by
 subst hav;have key:∀ m,av (pk aB) m=true→m=9∨m=5∨m=6∨m=7∨m=11:=fun m hm=>by
  simp only[av,pk,aj] at hm
  (repeat' split at hm) <;>first | omega | (simp at hm;done)
 refine .bP false yP [] [enc aB] _ rfl (HU aB) ⟨fun m x hx=>by simp[aj] at hx,fun m m' hm=>by simp[av,aj] at hm⟩ ⟨.inl ⟨(km _ _).symm,cv _ _,eF _⟩,trivial⟩ ?_ ?_
 ·rintro r os' ⟨rfl,rfl⟩;refine ⟨fun m y hy =>?_,fun m m' hm hm' e =>?_,fun m hm=>by simp[av,aj] at hm,fun m hm _ =>?_,rfl,fun h=>by cases h⟩
  ·simp only[pk,aj] at hy
   (repeat' split at hy) <;>first
    |(cases hy;done)
    |(rename_i h;subst h;cases hy;exact ⟨rfl,rfl,fun h=>by cases h⟩)
  ·rcases key m hm with rfl | rfl | rfl | rfl | rfl <;>rcases key m' hm' with rfl | rfl | rfl | rfl | rfl <;>first | rfl | (simp[yP,bx] at e;done)
  ·rcases key m hm with rfl | rfl | rfl | rfl | rfl <;>exact ⟨hno _ (by decide) (by decide),by decide⟩
 ·rintro r os' ⟨rfl,rfl⟩;rw[Zm];exact h
def qZ(k:Nat):List (Nat×Nat):=(57,2005+k)::(List.range' 0 400).map fun j=>(1000000+j,2000+j)
theorem Gu(m:Nat):∀ k a,bx ((List.range' a k).map fun j=>(1000000+j,2000+j)) m=if 1000000+a≤m∧m<1000000+a+k then m-998000 else m
 |0,a=>by
  rw[if_neg (by omega)];rfl
 |k+1,a=>by
  rw[List.range'_succ,zz4,bx,Gu m k (a+1)];by_cases h:m=1000000+a
  ·rw[if_pos h,if_pos (by omega)];omega
  ·rw[if_neg h];by_cases ab:1000000+(a+1)≤m∧m<1000000+(a+1)+k
   ·rw[if_pos ab,if_pos (by omega)]
   ·rw[if_neg ab,if_neg (by omega)]
theorem kJ(k m:Nat):bx (qZ k) m=if m=57 then 2005+k else if 1000000≤m∧m<1000400 then m-998000 else m:=by
 simp only[qZ,bx,Gu,Nat.add_zero,Nat.reduceAdd]
theorem jc(k:Nat):gN 2000 (bF 2000) k:=gN.bF _ _
theorem me{s:az}(hk:cG s){n:Nat}{x:ao}(h:aj (dq s) n=some x):x.only (av (dq s))=true∧x.eg=true:=mf (jc _) hk.cP h
theorem zc{s:az}{n:Nat}(hn:av (dq s) n=true):2000≤n∧n<2005+s.all.length:=by
 rcases (dM (jc _)).1 hn with ab | ⟨i,hi,rfl⟩
 ·omega
 ·simp only[bF];omega
theorem Gh{s:az}(hk:cG s){k:Nat}(h:s.all.length≤k+1)(hlen:k≤300):df (qZ k) (gW k s)=dq s :=
 Gl hk.cP (fun j hj=>by rw[kJ,if_neg (by omega),if_pos (by omega)];omega) fun i hi=>by
  simp only[ga,bF];split
  ·rename_i e;rw[kJ,if_pos rfl];omega
  ·rw[kJ,if_neg (by omega),if_pos (by omega)];omega
theorem Zi{s:az}(hk:cG s){k:Nat}(h:s.all.length≤k)(hlen:k≤300):df (qZ k) (aO s)=dq s:=by
 rw[←vB hk h];exact Gh hk (by omega) hlen
theorem aT.tq{K:ai→Prop}{s s2:az}{b:Bool}{x:aI}{avs:List I}{a1 a2:Option (List I)}{dst:Option Nat}{rest:List aw}{ts:List (Nat×I)}{ow:List (Nat×ao)}(hk:cG s)(hlen:s.all.length≤300)(hav:avs=[.ptr 2000 [],enc x])(how:∀ m,2000≤m→aj ow m=none)(hst:ea s x=(s2,b))
  (h:aT Tryd.prog dv false K (aA rest ((au ts (dq s2++(ow++dq s))).aX dst (.bool b)))):aT Tryd.prog dv false K (.call 44 avs a1 a2 dst rest (au ts (ow++dq s))):=by
 subst hav;obtain ⟨U,ab,af,aq⟩:=tl hk x;refine .bP false (qZ s.all.length) (aO s) [.ptr 1000000 [],enc x] _ rfl (HK s hk (by omega) x) ⟨fun m y hy=>⟨?_,ja hk hy⟩,fun m m' hm hm' e =>?_⟩ ⟨.inl ⟨?_,(dM (dF _)).2 (.inl (by omega)),rfl⟩,.inl ⟨(km _ _).symm,cv _ _,eF _⟩,trivial⟩ ?_ ?_
 ·have hm:=mc (s:=s) (n:=m) (by simp[av,hy]);have:=sx (ρ:=qZ s.all.length) (os:=aO s) (m:=m) (fun m' hm' he=>by
   have:=mc hm';rw[kJ,kJ] at he
   (repeat' split at he) <;>omega) hy
  rw[Zi hk (zz5 _) hlen] at this;rw[fU,how]
  ·exact this
  ·rw[kJ,if_neg (by omega),if_pos (by omega)];omega
 ·have k1:=mc hm;have k2:=mc hm';rw[kJ,kJ] at e
  (repeat' split at e) <;>omega
 ·simp only[I.a8,kJ];rfl
 ·rintro r os' ⟨rfl,rfl⟩;refine ⟨fun m y hy=>⟨(mf (hJ aq) U.cP hy).1,(mf (hJ aq) U.cP hy).2,fun h=>by cases h⟩,fun m m' hm hm' e =>?_,fun m hm =>?_,fun m hm hno =>?_,rfl,fun h=>by cases h⟩
  ·have k1:=vA aq hm;have k2:=vA aq hm';have e1:∀ m,m=57∨(1000000≤m∧m<1000005+s.all.length)→True:=fun _ _=>trivial;have key:∀ m,av (gW s.all.length (ea s x).1) m=true→m=57∨(1000000≤m∧m<1000005+s.all.length):=fun m hm=>by
    rcases (dM (hJ aq)).1 hm with h5 | ⟨i,hi,rfl⟩
    ·omega
    ·simp only[ga];split <;>omega
   have k1:=key m hm;have k2:=key m' hm';rw[kJ,kJ] at e
   (repeat' split at e) <;>omega
  ·rcases (dM (dF _)).1 hm with h5 | ⟨i,hi,rfl⟩
   ·exact (dM (hJ aq)).2 (.inl h5)
   ·exact (dM (hJ aq)).2 (.inr ⟨i,by omega,(mV hi).symm⟩)
  ·have h57:m=57:=by
    rcases (dM (hJ aq)).1 hm with h5 | ⟨i,hi,e⟩
    ·rw[(dM (dF _)).2 (.inl h5)] at hno;cases hno
    ·by_cases hi2:i=s.all.length
     ·subst hi2;simpa[ga] using e
     ·rw[(dM (dF _)).2 (.inr ⟨i,by omega,by rw[e,mV (by omega)]⟩)] at hno;cases hno
   subst h57;rw[kJ,if_pos rfl];refine ⟨?_,by omega⟩;rw[fU,how _ (by omega)];exact eI (.inr (by omega)) fun i hi=>by simp only[bF];omega
 ·rintro r os' ⟨rfl,rfl⟩;rw[Gh U aq hlen,hst];exact h
def fO:az→List aI→Option az
 |s,[]=>some s
 |s,x::l=>match eS s x with
  |some s'=>fO s' l
  |none=>none
theorem ot:∀ (l:List aI) (s:az) (l2:List aI),fO s (l++l2)=(fO s l).bind fun s'=>fO s' l2
 | [],s,l2=>rfl
 |x::l,s,l2=>by
  simp only[zz2,fO];cases eS s x with
  |none=>rfl
  |some s'=>exact ot l s' l2
theorem zi{s s':az}{x:aI}(hk:cG s)(h:eS s x=some s'):cG s'∧s'.aB=s.aB∧s'.all.length≤s.all.length+1:=by
 simp only[eS] at h;split at h
 ·obtain ⟨U,ab,af,_⟩:=hk.next h
  exact ⟨U,ab,af⟩
 ·cases h
theorem nv:∀ {l:List aI} {s s':az},cG s→fO s l=some s'→cG s'∧s'.aB=s.aB∧s'.all.length≤s.all.length+l.length
 | [],s,s',hk,h=>by cases h;exact ⟨hk,rfl,zz5 _⟩
 |x::l,s,s',hk,h=>by
  simp only[fO] at h;cases hx:eS s x with
  |none=>rw[hx] at h;cases h
  |some s2 =>
   rw[hx] at h;obtain ⟨U,ab,af⟩:=zi hk hx;obtain ⟨k1,k2,k3⟩:=nv U h;exact ⟨k1,k2.trans ab,by simp only[zv1];omega⟩
def eQ(aB:Int)(l:List aI):Option az:=fO (eh aB) l
def sQ(aB:Int)(l:List aI):cA:=fun r os'=>match eQ aB l with
 |some s=>r=.tuple [.ptr 2000 [],.bool true]∧os'=dq s
 |none=>r=.tuple [.nilp,.bool false]∧os'=[]
def tK(l:List aI)(t:Nat×az):ai:=au [(6,.ptr 2000 []),(11,enc l),(12,.int .i64 l.length),(13,.int .i64 t.1)] (dq t.2)
theorem HE(aB:Int)(l:List aI)(hl:l.length≤200):cQ Tryd.prog 38 [enc aB,enc l] [] (sQ aB l):=by
 refine cQ.cg Tryd.func38 Bd Bz BS (u8 rfl) (u8 rfl) (fun m hm=>by simp[av,aj] at hm) (fun hwf W0 bO E1 =>?_);simp only[wv,yF,bQ,zz1];clear hwf;have R:=y6 @bJ (y6 @bw (y6 @br aK))
 repeat' ((first |(with_reducible refine .guard (fun hb =>?_) (fun hb =>?_) <;>try simp only[hb])|refine ae.aM (by decide +kernel) rfl fun K hK =>?_|refine aT.eh rfl (fun _ _ _=>rfl) ?_|(refine .aD [0,1,4,5,6,8,11,12,13,14,20] hK ?_;clear hK K)|(with_reducible refine .done (hK _ ?_);clear hK K)|refine ae.of rfl ?_|(with_reducible refine aF.aL (fun h =>?_) (fun h =>?_) <;>try simp only[h])) <;>try simp only[aN,R,simprocAttr])
 all_goals clear R
 refine ae.loop (tK l) (fun t=>t.1≤l.length∧fO (eh aB) (l.take t.1)=some t.2) (fun t=>l.length-t.1) (0,eh aB) ⟨zw4 _,rfl⟩ ?_ ?_
 ·rw[zy3];refine bt.fn ?_ (fun n=>.inr rfl) ?_ (fun n x h=>(me (kW aB) h).1)
  ·simp[cn,cw]
  ·have:=(dM (jc (eh aB).all.length) (n:=2000)).2 (.inl (by omega));simp[cu,I.only,cv,this]
 rintro ⟨i,s⟩ ⟨hi,hrun⟩;simp only at hi hrun;obtain ⟨hk,hme,hln⟩:=nv (kW aB) hrun;have hln2:s.all.length≤i:=by simpa[eh,hi] using hln
 have kA:aj (dq s) 8=none:=eI (.inl (by omega)) fun i _=>by simp[bF];omega
 simp only[tK];by_cases hlt:i<l.length
 ·have hc:=h0 hlt;have he:=fun A=>fT (A:=A) 4 hlt rfl;have hw:=gl (i:=i) (by omega);have hst:∀ A rest,da A (some 4) 8 [] (.agg [.int .i64 0,.int .i64 0,.int .i64 0,.int .i64 0]) (enc l[i]) rest (some (.agg [.int .i64 0,.int .i64 0,.int .i64 0,.int .i64 0]))=aA rest (A.aV 8 (.box (enc l[i]))):=fun A rest=>dS (eF _) (by rw[fB];rfl) (fg _);have how:∀ (a b:ao) m,2000≤m→aj [(8,a),(8,b)] m=none:=fun a b m hm=>by simp only[aj];rw[if_neg (by omega),if_neg (by omega)]
  have hsp:l=l.take i++l[i]::l.drop (i+1):=by simp
  cases hn:eS s l[i] with
  |none =>
   have hs:ea s l[i]=(s,false):=by simp[ea,hn]
   have R:=y6 @hc (y6 @he (y6 @hst (y6 @kA (y6 @bJ (y6 @bw (y6 @br aK))))))
   repeat' ((first |(with_reducible refine .guard (fun hb =>?_) (fun hb =>?_) <;>try simp only[hb])|refine ae.aM (by decide +kernel) rfl fun K hK =>?_|refine aT.tq (ow:=[(8,_),(8,_)]) hk (by omega) rfl (how _ _) hs ?_|(refine .aD [0,1,4,5,6,8,11,12,13,14,20] hK ?_;clear hK K)|(with_reducible refine .done (hK _ ?_);clear hK K)|refine ae.of rfl ?_|(with_reducible refine aF.aL (fun h =>?_) (fun h =>?_) <;>try simp only[h])) <;>try simp only[aN,R,simprocAttr])
   all_goals clear R
   have hno:eQ aB l=none:=by
    rw[eQ,hsp,ot,hrun];simp only[Option.bind_some,fO,hn]
   refine ⟨[],[.nilp,.bool false],fun n x hx=>by simp[aj] at hx,⟨⟨_,rfl,.inl ⟨rfl,rfl,rfl⟩⟩,⟨_,rfl,.inl ⟨rfl,rfl,rfl⟩⟩,trivial⟩,?_⟩;unfold sQ;rw[hno];exact ⟨rfl,rfl⟩
  |some s2 =>
   have hs:ea s l[i]=(s2,true):=by simp[ea,hn]
   have R:=y6 @hc (y6 @he (y6 @hst (y6 @hw (y6 @kA (y6 @bJ (y6 @bw (y6 @br aK)))))))
   repeat' ((first |(with_reducible refine .guard (fun hb =>?_) (fun hb =>?_) <;>try simp only[hb])|refine ae.aM (by decide +kernel) rfl fun K hK =>?_|refine aT.tq (ow:=[(8,_),(8,_)]) hk (by omega) rfl (how _ _) hs ?_|(refine .aD [0,1,4,5,6,8,11,12,13,14,20] hK ?_;clear hK K)|(with_reducible refine .done (hK _ ?_);clear hK K)|refine ae.of rfl ?_|(with_reducible refine aF.aL (fun h =>?_) (fun h =>?_) <;>try simp only[h])) <;>try simp only[aN,R,simprocAttr])
   all_goals clear R
   obtain ⟨hk2,hme2,hln3⟩:=zi hk hn;refine ⟨(i+1,s2),⟨by simp only;omega,?_⟩,by simp only;omega,?_⟩
   ·rw[zy0 hlt,ot,hrun];simp only[Option.bind_some,fO,hn]
   ·refine bt.fn ?_ (fun n =>?_) ?_ (fun n x h=>(me hk2 h).1)
    ·simp[cn,cw]
    ·simp only[fU];cases aj (dq s2) n with
     |none=>exact .inl rfl
     |some y=>exact .inr rfl
    ·have:=(dM (jc s2.all.length) (n:=2000)).2 (.inl (by omega));simp[cu,I.only,cv,this]
 ·have hge:i=l.length:=by omega
  have hc:=hE hlt;subst hge;rw[List.take_length] at hrun;have R:=y6 @hc (y6 @bJ (y6 @bw (y6 @br aK)))
  repeat' ((first |(with_reducible refine .guard (fun hb =>?_) (fun hb =>?_) <;>try simp only[hb])|refine ae.aM (by decide +kernel) rfl fun K hK =>?_|(refine .aD [0,1,4,5,6,8,11,12,13,14,20] hK ?_;clear hK K)|(with_reducible refine .done (hK _ ?_);clear hK K)|refine ae.of rfl ?_|(with_reducible refine aF.aL (fun h =>?_) (fun h =>?_) <;>try simp only[h])) <;>try simp only[aN,R,simprocAttr])
  all_goals clear R
  refine ⟨dq s,[.ptr 2000 [],.bool true],fun n x hx=>⟨hx,me hk hx⟩,⟨⟨_,rfl,.inl ⟨rfl,rfl,?_⟩⟩,⟨_,rfl,.inl ⟨rfl,rfl,rfl⟩⟩,trivial⟩,?_⟩
  ·exact (dM (jc s.all.length) (n:=2000)).2 (.inl (by omega))
  ·unfold sQ eQ;rw[hrun];exact ⟨rfl,rfl⟩
theorem aT.Ga{K:ai→Prop}{aB:Int}{l:List aI}{avs:List I}{a1 a2:Option (List I)}{dst:Option Nat}{rest:List aw}{ts:List (Nat×I)}{os0:List (Nat×ao)}(hl:l.length≤200)(hav:avs=[enc aB,enc l])(hno:∀ m,2000≤m→m<1000000→aj os0 m=none)
  (U:eQ aB l=none→aT Tryd.prog dv false K (aA rest ((au ts os0).aX dst (.tuple [.nilp,.bool false]))))
  (ab:∀ s,eQ aB l=some s→aT Tryd.prog dv false K (aA rest ((au ts (dq s++os0)).aX dst (.tuple [.ptr 2000 [],.bool true])))):aT Tryd.prog dv false K (.call 38 avs a1 a2 dst rest (au ts os0)):=by
 subst hav;refine .bP false [] [] [enc aB,enc l] _ rfl (HE aB l hl) ⟨fun m x hx=>by simp[aj] at hx,fun m m' hm=>by simp[av,aj] at hm⟩ ⟨.inl ⟨(km _ _).symm,cv _ _,eF _⟩,.inl ⟨(km _ _).symm,cv _ _,eF _⟩,trivial⟩ ?_ ?_
 ·intro r os' hp;unfold sQ at hp;cases hr:eQ aB l with
  |none =>
   rw[hr] at hp;obtain ⟨rfl,rfl⟩:=hp;exact ⟨fun m y hy=>by simp[aj] at hy,fun m m' hm=>by simp[av,aj] at hm,fun m hm=>hm,fun m hm=>by simp[av,aj] at hm,rfl,fun h=>by cases h⟩
  |some s =>
   rw[hr] at hp;obtain ⟨rfl,rfl⟩:=hp;obtain ⟨hk,hme,hln⟩:=nv (kW aB) hr;have hln2:s.all.length≤200:=by have:(Go.Proofs.YthbdbocionnfgaaDoor.eh aB).all.length=0:=rfl;omega
   refine ⟨fun m y hy=>⟨(me hk hy).1,(me hk hy).2,fun h=>by cases h⟩,fun m m' _ _ h=>h,fun m hm=>by simp[av,aj] at hm,fun m hm _ =>?_,?_,fun h=>by cases h⟩
   ·have:=zc hm;exact ⟨hno m (by omega) (by omega),by simp only[bx];omega⟩
   ·have:=(dM (jc s.all.length) (n:=2000)).2 (.inl (by omega));simp[I.only,I.b6,this]
 ·intro r os' hp;unfold sQ at hp;cases hr:eQ aB l with
  |none =>
   rw[hr] at hp;obtain ⟨rfl,rfl⟩:=hp;exact U hr
  |some s =>
   rw[hr] at hp;obtain ⟨rfl,rfl⟩:=hp;rw[nh];exact ab s hr
theorem aT.Gb{K:ai→Prop}{aB:Int}{l:List aI}{avs:List I}{a1 a2:Option (List I)}{dst:Option Nat}{rest:List aw}{ts:List (Nat×I)}{os0:List (Nat×ao)}(hl:l.length≤200)(hr:eQ aB l=none)(hav:avs=[enc aB,enc l])(hno:∀ m,2000≤m→m<1000000→aj os0 m=none)
  (U:aT Tryd.prog dv false K (aA rest ((au ts os0).aX dst (.tuple [.nilp,.bool false])))):aT Tryd.prog dv false K (.call 38 avs a1 a2 dst rest (au ts os0)) :=
 aT.Ga hl hav hno (fun _=>U) fun s h=>by rw[hr] at h;cases h
theorem aT.Gc{K:ai→Prop}{aB:Int}{l:List aI}{s:az}{avs:List I}{a1 a2:Option (List I)}{dst:Option Nat}{rest:List aw}{ts:List (Nat×I)}{os0:List (Nat×ao)}(hl:l.length≤200)(hr:eQ aB l=some s)(hav:avs=[enc aB,enc l])(hno:∀ m,2000≤m→m<1000000→aj os0 m=none)
  (U:aT Tryd.prog dv false K (aA rest ((au ts (dq s++os0)).aX dst (.tuple [.ptr 2000 [],.bool true])))):aT Tryd.prog dv false K (.call 38 avs a1 a2 dst rest (au ts os0)) :=
 aT.Ga hl hav hno (fun h=>by rw[hr] at h;cases h) fun s' h=>by rw[hr] at h;cases h;exact U
theorem uV(k:Nat)(hk:k<2000)(z:ao):∀ m,2000≤m→m<1000000→aj [(k,z)] m=none:=fun m h _=>by simp only[aj];rw[if_neg (by omega)]
theorem bp:(∀ aJ A,bn aJ A .nilp=some .nilp)∧(∀ aJ A (x:I),x.bC=true→bn aJ A (.ref x)=some (.ref x)):=⟨fun _ _=>by simp only[bn],fun _ _ x h=>by simp only[bn,h,if_true]⟩
def iF(p:aW):Bool:=c6 0 5 p.aB&&(decide (p.j.length≤200)&&c6 0 p.j.length p.cq)
def cK(p:aW):Option az:=if iF p then eQ p.aB p.j else none
def ji(o:Option az):I:=match o with
 |some s=>.tuple [c7 s,.int .i64 0]
 |none=>.tuple [.nilp,.int .i64 91]
def oe(p:aW):cA:=fun r os'=>match cK p with
 |some s=>r=.tuple [.ptr 2000 [],.int .i64 0]∧os'=dq s
 |none=>r=.tuple [.nilp,.int .i64 91]∧os'=[]
theorem fF{p:aW}{s:az}(h:cK p=some s):cG s∧s.aB=p.aB∧s.all.length≤p.j.length∧p.j.length≤200∧iF p=true∧eQ p.aB p.j=some s:=by
 simp only[cK] at h;split at h
 ·rename_i hh;obtain ⟨hk,hme,hln⟩:=nv (kW p.aB) h;refine ⟨hk,hme,by simpa[eh] using hln,?_,hh,h⟩;simp only[iF,t8,decide_eq_true_eq] at hh;exact hh.2.1
 ·cases h
theorem Ob{s:az}(hk:cG s)(z:ao):∀ ts,c4 (au ts (dq s++[(1,z)])) 9 (.agg [.int .i64 s.aB,.mref 2001,.mref 2002,.int .i64 s.all.length,.mref 2003,.mref 2004])=some (gi s):=fun ts =>
 ik (iq (jc _) hk.cP fun n hn=>by
  rw[fU];cases h:aj (dq s) n with
  |none=>simp[av,h] at hn
  |some y=>rfl) 4
theorem x9:∀ a b c d e:I,(I.agg [a,.mref 2001,b,c,d,e]).bC=false:=fun a b c d e=>by simp[I.bC,I.b9]
theorem DX(s:az)(z:ao):aj (dq s++[(1,z)]) 2000=some (.box (.agg [.int .i64 s.aB,.mref 2001,.mref 2002,.int .i64 s.all.length,.mref 2003,.mref 2004])):=by
 rw[fU,fH];rfl
theorem DY(s:az)(z:ao):aj (dq s++[(1,z)]) 1=some z:=by
 rw[fU,eI (.inl (by omega)) fun i _=>by simp only[bF];omega];rfl
theorem ET{p:aW}(h:I.gB [enc p]):p.j.length≤maxLen :=
 ((pY p.j).1 (by have:=h.1;simp only[enc,I.wf,I.gB] at this;exact this.2.1)).1
theorem oH(p:aW):bm Tryd.prog 24 [enc p] (ji (cK p)):=by
 refine bm.cg Tryd.func24 Bb Bx BQ (u8 rfl) (fun hwf W0 bO E1 =>?_);simp only[wq,yD,bQ];have hlen:=ET hwf;clear hwf;have hg:decide ((p.j.length:Int)>200) = !decide (p.j.length≤200):=by by_cases h:p.j.length≤200 <;>simp[h] <;>omega
 have hF1:=nG p.aB;have hF2:=p5 p.cq 0 p.j.length;rcases q1:c6 0 5 p.aB <;>rcases q2:decide (p.j.length≤200) <;>rcases q3:c6 0 p.j.length p.cq
 case true.true.true =>
  have hok:iF p=true:=by simp[iF,q1,q2,q3]
  have hl:p.j.length≤200:=of_decide_eq_true q2;have hop:cK p=eQ p.aB p.j:=by simp[cK,hok]
  rw[q1] at hF1;rw[q3] at hF2;rw[q2] at hg;rw[hop];cases hr:eQ p.aB p.j with
  |none =>
   have R:=y6 @hg (y6 @bp (y6 @gL (y6 @bJ (y6 @bw (y6 @br aK)))))
   repeat' ((first |(with_reducible refine .guard (fun hb =>?_) (fun hb =>?_) <;>try simp only[hb])|refine ae.aM (by decide +kernel) rfl fun K hK =>?_|refine .flat _ (hF1) rfl ?_|refine .flat _ (hF2) rfl ?_|refine aT.Gb hl hr rfl (uV 1 (by decide) _) ?_|(refine .aD [0,1,2,3,4,5,24,34] hK ?_;clear hK K)|(with_reducible refine .done (hK _ ?_);clear hK K)|refine ae.of rfl ?_|(with_reducible refine aF.aL (fun h =>?_) (fun h =>?_) <;>try simp only[h])) <;>try simp only[aN,R,simprocAttr])
   all_goals clear R
   rfl
  |some s =>
   have hfin:=Ob (nv (kW p.aB) hr).1 (.box (enc p));have hla:=DX s (.box (enc p));have hlb:=DY s (.box (enc p));have R:=y6 @hg (y6 @hfin (y6 @hla (y6 @hlb (y6 @x9 (y6 @bp (y6 @gL (y6 @bJ (y6 @bw (y6 @br aK)))))))))
   repeat' ((first |(with_reducible refine .guard (fun hb =>?_) (fun hb =>?_) <;>try simp only[hb])|refine ae.aM (by decide +kernel) rfl fun K hK =>?_|refine .flat _ (hF1) rfl ?_|refine .flat _ (hF2) rfl ?_|refine aT.Gc hl hr rfl (uV 1 (by decide) _) ?_|(refine .aD [0,1,2,3,4,5,24,34] hK ?_;clear hK K)|(with_reducible refine .done (hK _ ?_);clear hK K)|refine ae.of rfl ?_|(with_reducible refine aF.aL (fun h =>?_) (fun h =>?_) <;>try simp only[h])) <;>try simp only[aN,R,simprocAttr])
   all_goals clear R
   rfl
 all_goals
  have hop:cK p=none:=by simp[cK,iF,q1,q2,q3]
  rw[q1] at hF1;rw[q3] at hF2;rw[q2] at hg;rw[hop];have R:=y6 @hg (y6 @bp (y6 @gL (y6 @bJ (y6 @bw (y6 @br aK)))))
  repeat' ((first |(with_reducible refine .guard (fun hb =>?_) (fun hb =>?_) <;>try simp only[hb])|refine ae.aM (by decide +kernel) rfl fun K hK =>?_|refine .flat _ (hF1) rfl ?_|refine .flat _ (hF2) rfl ?_|(refine .aD [0,1,2,3,4,5,24,34] hK ?_;clear hK K)|(with_reducible refine .done (hK _ ?_);clear hK K)|refine ae.of rfl ?_|(with_reducible refine aF.aL (fun h =>?_) (fun h =>?_) <;>try simp only[h])) <;>try simp only[aN,R,simprocAttr])
  all_goals clear R
  rfl
theorem zr(p:aW):cQ Tryd.prog 24 [enc p] [] (oe p):=by
 refine cQ.cg Tryd.func24 Bb Bx BQ (u8 rfl) (u8 rfl) (fun m hm=>by simp[av,aj] at hm) (fun hwf W0 bO E1 =>?_);simp only[wq,yD,bQ];have hlen:=ET hwf;clear hwf;have hg:decide ((p.j.length:Int)>200) = !decide (p.j.length≤200):=by by_cases h:p.j.length≤200 <;>simp[h] <;>omega
 have hF1:=nG p.aB;have hF2:=p5 p.cq 0 p.j.length;have fail:∀ ts os,cK p=none→Abs.bI ts 2=.nilp→Abs.bI ts 3=.int .i64 91→jw [.tmp 2,.tmp 3] (oe p) (au ts os):=fun ts os hop ab af=>by
  refine ⟨[],[.nilp,.int .i64 91],fun n x hx=>by simp[aj] at hx,⟨⟨.nilp,congrArg some ab,.inl ⟨rfl,rfl,rfl⟩⟩,⟨.int .i64 91,congrArg some af,.inl ⟨rfl,rfl,rfl⟩⟩,trivial⟩,?_⟩;unfold oe;rw[hop];exact ⟨rfl,rfl⟩
 rcases q1:c6 0 5 p.aB <;>rcases q2:decide (p.j.length≤200) <;>rcases q3:c6 0 p.j.length p.cq
 case true.true.true =>
  have hok:iF p=true:=by simp[iF,q1,q2,q3]
  have hl:p.j.length≤200:=of_decide_eq_true q2;have hop:cK p=eQ p.aB p.j:=by simp[cK,hok]
  rw[q1] at hF1;rw[q3] at hF2;rw[q2] at hg;cases hr:eQ p.aB p.j with
  |none =>
   rw[hr] at hop;have R:=y6 @hg (y6 @bp (y6 @gL (y6 @bJ (y6 @bw (y6 @br aK)))))
   repeat' ((first |(with_reducible refine .guard (fun hb =>?_) (fun hb =>?_) <;>try simp only[hb])|refine ae.aM (by decide +kernel) rfl fun K hK =>?_|refine .flat _ (hF1) rfl ?_|refine .flat _ (hF2) rfl ?_|refine aT.Gb hl hr rfl (uV 1 (by decide) _) ?_|(refine .aD [0,1,2,3,4,5,24,34] hK ?_;clear hK K)|(with_reducible refine .done (hK _ ?_);clear hK K)|refine ae.of rfl ?_|(with_reducible refine aF.aL (fun h =>?_) (fun h =>?_) <;>try simp only[h])) <;>try simp only[aN,R,simprocAttr])
   all_goals clear R
   exact fail _ _ hop rfl rfl
  |some s =>
   have hk:=(nv (kW p.aB) hr).1;rw[hr] at hop;have hla:=DX s (.box (enc p));have hlb:=DY s (.box (enc p));have R:=y6 @hg (y6 @hla (y6 @hlb (y6 @x9 (y6 @bp (y6 @gL (y6 @bJ (y6 @bw (y6 @br aK))))))))
   repeat' ((first |(with_reducible refine .guard (fun hb =>?_) (fun hb =>?_) <;>try simp only[hb])|refine ae.aM (by decide +kernel) rfl fun K hK =>?_|refine .flat _ (hF1) rfl ?_|refine .flat _ (hF2) rfl ?_|refine aT.Gc hl hr rfl (uV 1 (by decide) _) ?_|(refine .aD [0,1,2,3,4,5,24,34] hK ?_;clear hK K)|(with_reducible refine .done (hK _ ?_);clear hK K)|refine ae.of rfl ?_|(with_reducible refine aF.aL (fun h =>?_) (fun h =>?_) <;>try simp only[h])) <;>try simp only[aN,R,simprocAttr])
   all_goals clear R
   refine ⟨dq s,[.ptr 2000 [],.int .i64 0],fun n x hx=>⟨?_,me hk hx⟩,⟨⟨_,rfl,.inl ⟨rfl,rfl,?_⟩⟩,⟨_,rfl,.inl ⟨rfl,rfl,rfl⟩⟩,trivial⟩,?_⟩
   ·show aj (dq s++_) n=some x
    rw[fU,hx]
   ·exact (dM (jc s.all.length) (n:=2000)).2 (.inl (by omega))
   ·unfold oe;rw[hop];exact ⟨rfl,rfl⟩
 all_goals
  have hop:cK p=none:=by simp[cK,iF,q1,q2,q3]
  rw[q1] at hF1;rw[q3] at hF2;rw[q2] at hg;have R:=y6 @hg (y6 @bp (y6 @gL (y6 @bJ (y6 @bw (y6 @br aK)))))
  repeat' ((first |(with_reducible refine .guard (fun hb =>?_) (fun hb =>?_) <;>try simp only[hb])|refine ae.aM (by decide +kernel) rfl fun K hK =>?_|refine .flat _ (hF1) rfl ?_|refine .flat _ (hF2) rfl ?_|(refine .aD [0,1,2,3,4,5,24,34] hK ?_;clear hK K)|(with_reducible refine .done (hK _ ?_);clear hK K)|refine ae.of rfl ?_|(with_reducible refine aF.aL (fun h =>?_) (fun h =>?_) <;>try simp only[h])) <;>try simp only[aN,R,simprocAttr])
  all_goals clear R
  exact fail _ _ hop rfl rfl
def oU(p:aW):Int:=match cK p with
 |some _=>0
 |none=>91
theorem rz(p:aW):bm Tryd.prog 36 [enc p] (enc (oU p)):=by
 refine bm.cg Tryd.func36 J2 KW LX (u8 rfl) (fun hwf W0 bO E1 =>?_);simp only[AL,Fx,bQ];have hF:=oH p;simp only[oU];cases ho:cK p with
 |none =>
  rw[ho] at hF;simp only[ji] at hF;have R:=y6 @bp (y6 @gL (y6 @bJ (y6 @bw (y6 @br aK))))
  repeat' ((first |(with_reducible refine .guard (fun hb =>?_) (fun hb =>?_) <;>try simp only[hb])|refine ae.aM (by decide +kernel) rfl fun K hK =>?_|refine .lead _ (hF) ?_|(refine .aD [0,1,2,4] hK ?_;clear hK K)|(with_reducible refine .done (hK _ ?_);clear hK K)|refine ae.of rfl ?_|(with_reducible refine aF.aL (fun h =>?_) (fun h =>?_) <;>try simp only[h])) <;>try simp only[aN,R,simprocAttr])
  all_goals clear R
  all_goals rfl
 |some s =>
  rw[ho] at hF;simp only[ji] at hF;have R:=y6 @dh (y6 @bp (y6 @gL (y6 @bJ (y6 @bw (y6 @br aK)))))
  repeat' ((first |(with_reducible refine .guard (fun hb =>?_) (fun hb =>?_) <;>try simp only[hb])|refine ae.aM (by decide +kernel) rfl fun K hK =>?_|refine .lead _ (hF) ?_|(refine .aD [0,1,2,4] hK ?_;clear hK K)|(with_reducible refine .done (hK _ ?_);clear hK K)|refine ae.of rfl ?_|(with_reducible refine aF.aL (fun h =>?_) (fun h =>?_) <;>try simp only[h])) <;>try simp only[aN,R,simprocAttr])
  all_goals clear R
  all_goals rfl
def ft:aI:=⟨0,0,0,0⟩
theorem qu:I.agg [.int .i64 0,.int .i64 0,.int .i64 0,.int .i64 0]=enc ft:=rfl
instance:tH aI:=⟨fun _=>rfl⟩
def pI(k:Nat)(l:List aI)(m:Nat):List (Nat×ao):=[(k,.box (.agg ((l++List.replicate m ft).map enc)))]
def rM(l:List aI)(v:I)(os':List (Nat×ao)):Prop:=(l=[]∧(v=.nils 4∨v=.c0 4)∧os'=[])∨(l≠[]∧∃ m,v=.view 7 [] 4 0 l.length∧os'=pI 7 l m)
def YO(l:List aI):cA:=fun r os'=>rM l r os'
theorem HP(l:List aI)(hl:l.length≤1000):cQ Tryd.prog 49 [enc l] [] (YO l):=by
 refine cQ.cg Tryd.func49 Bf BB BU (u8 rfl) (u8 rfl) (fun m hm=>by simp[av,aj] at hm) (fun hwf W0 bO E1 =>?_);simp only[wz,yH,bQ];refine .gy (by decide +kernel) fun K hK =>?_;simp only[xu,bK,simprocAttr];refine .done (hK _ ?_);clear hK K;refine ae.seq (ae.seq ?_);by_cases hn:l=[]
 ·subst hn;refine .kI (by decide +kernel) fun K hK =>?_;simp only[r3,bK,simprocAttr];simp only[vK,List.isEmpty_nil,qP];refine .any rfl fun b _ =>?_
  try simp only[bK,simprocAttr]
  generalize (b==0)=t;cases t
  ·refine .done (hK _ ?_);clear hK K;try simp only[eb]
   refine ae.jW ?_;simp only[aF,bK,simprocAttr];refine ⟨fun h =>?_,fun h =>?_⟩
   ·cases h
   refine ae.skip ?_;try simp only[eb,simprocAttr]
   refine .gy (by decide +kernel) fun K hK =>?_;simp only[r4,bK,simprocAttr]
   try simp only[dX,qu,bK,simprocAttr]
   refine .done (hK _ ?_);clear hK K;refine ae.ret ?_;simp only[nm];exact ⟨[],[.c0 4],Dn,⟨⟨.c0 4,rfl,.inl ⟨rfl,rfl,rfl⟩⟩,trivial⟩,.inl ⟨rfl,.inr rfl,rfl⟩⟩
  ·refine .done (hK _ ?_);clear hK K;refine ae.jW ?_;simp only[aF,bK,simprocAttr];refine ⟨fun h =>?_,fun h =>?_⟩
   ·refine .gy (by decide +kernel) fun K hK =>?_;simp only[xv,bK,simprocAttr];refine .done (hK _ ?_);clear hK K;refine ae.ret ?_;simp only[eb,nm];exact ⟨[],[.nils 4],Dn,⟨⟨.nils 4,rfl,.inl ⟨rfl,rfl,rfl⟩⟩,trivial⟩,.inl ⟨rfl,.inl rfl,rfl⟩⟩
   ·cases h
 ·have hu:kg (enc l)=false:=by rw[vK];simpa using hn
  refine .kI (by decide +kernel) fun K hK =>?_;simp only[r3,bK,simprocAttr]
  try simp only[hu,Eo _ l hn,bK,simprocAttr]
  refine .done (hK _ ?_);clear hK K;try simp only[eb]
  refine ae.jW ?_;simp only[aF,bK,simprocAttr];refine ⟨fun h =>?_,fun h =>?_⟩
  ·cases h
  refine ae.skip ?_;try simp only[eb,simprocAttr]
  refine .gy (by decide +kernel) fun K hK =>?_;simp only[r4,bK,simprocAttr]
  try simp only[dX,qu,bK,simprocAttr]
  refine aT.wc ft rfl hn rfl (by omega) (by simp only[maxLen];omega) fun m =>?_
  try simp only[bK,simprocAttr]
  refine .done (hK _ ?_);clear hK K;refine ae.ret ?_;simp only[nm];exact ⟨pI 7 l m,[.view 7 [] 4 0 l.length],xE rfl (fun p=>by simp only[I.only];exact eN p _),⟨⟨_,rfl,.inl ⟨rfl,rfl,rfl⟩⟩,trivial⟩,.inr ⟨hn,m,rfl,rfl⟩⟩
theorem qo{l:List aI}{v:I}{os':List (Nat×ao)}(h:rM l v os'):(∀ n x,aj os' n=some x→x.only (av os')=true∧x.eg=true)∧v.only (av os')=true∧(∀ m,av os' m=true→m=7)∧v.bT=true∧b8 none v=true∧v.bd=.one∧v.size=1∧v.isAgg=false:=by
 rcases h with ⟨rfl,rfl | rfl,rfl⟩ | ⟨hn,m,rfl,rfl⟩
 ·exact ⟨fun n x hx=>by simp[aj] at hx,rfl,fun m hm=>by simp[av,aj] at hm,rfl,rfl,rfl,rfl,rfl⟩
 ·exact ⟨fun n x hx=>by simp[aj] at hx,rfl,fun m hm=>by simp[av,aj] at hm,rfl,rfl,rfl,rfl,rfl⟩
 ·refine ⟨fun n x hx =>?_,rfl,fun m hm =>?_,rfl,rfl,rfl,rfl,rfl⟩
  ·simp only[pI,aj] at hx;split at hx
   ·cases hx;exact ⟨by simp only[ao.only,I.only];exact eN _ _,rfl⟩
   ·cases hx
  ·simp only[av,pI,aj] at hm;split at hm
   ·assumption
   ·simp at hm
theorem G1{ts:List (Nat×I)}{os0 os':List (Nat×ao)}(hno:aj os0 7=none)(h:∀ m,av os' m=true→m=7):au ts (os'++os0)=au ts (os0++os'):=by
 simp only[au,ai.mk.injEq,true_and]
 funext n
 rw[fU,fU];cases U:aj os' n with
 |none=>simp only;cases aj os0 n <;>rfl
 |some y =>
  have:=h n (by simp[av,U]);subst this;rw[hno]
theorem aT.BL{K:ai→Prop}{l:List aI}{avs:List I}{a1 a2:Option (List I)}{dst:Option Nat}{rest:List aw}{ts:List (Nat×I)}{os0:List (Nat×ao)}(hl:l.length≤1000)(hav:a1=some [enc l])(hf:bX false (au ts os0) avs=some [enc l])(hno:aj os0 7=none)
  (h:∀ v os',rM l v os'→aT Tryd.prog dv false K (aA rest ((au ts (os0++os')).aX dst v))):aT Tryd.prog dv false K (.call 49 avs a1 a2 dst rest (au ts os0)):=by
 have harg:ib false (au ts os0) [] [] avs [enc l]:=by
  match avs,hf with
  | [],hf=>simp[bX] at hf
  | [x],hf =>
   refine ⟨.inr ?_,trivial⟩;simp only[bX] at hf;split at hf
   ·rename_i y ys U ab;cases ab;cases hf;exact U
   ·cases hf
  |x::y::r,hf =>
   simp only[bX] at hf;split at hf
   ·rename_i U ab;split at ab <;>cases ab;cases hf
   ·cases hf
 refine .bP false [] [] [enc l] _ rfl (HP l hl) ⟨fun m x hx=>by simp[aj] at hx,fun m m' hm=>by simp[av,aj] at hm⟩ (by simpa[iQ,B3] using harg) ?_ ?_
 ·intro r os' hp;obtain ⟨U,ab,af,_⟩:=qo hp;exact ⟨fun m y hy=>⟨(U m y hy).1,(U m y hy).2,fun h=>by cases h⟩,fun m m' _ _ h=>h,fun m hm=>by simp[av,aj] at hm,fun m hm _=>by rw[af m hm];exact ⟨hno,by decide⟩,ab,fun h=>by cases h⟩
 ·intro r os' hp;rw[nh,kY (ρ:=bx []) (fun _=>rfl),G1 hno (qo hp).2.2.1];exact h r os' hp
def ff(p:aW)(v:I):I:=.agg [.int .i64 p.aB,v,.int .i64 p.cq]
def YP(p:aW):cA:=fun r os'=>∃ v,r=ff p v∧rM p.j v os'
theorem lH:(∀ p v,(ff p v).dP=some [.int .i64 p.aB,v,.int .i64 p.cq])∧(∀ p v,(ff p v).bT=true)∧(∀ (a c:Int) v w,dR [.int .i64 a,v,.int .i64 c] 1 1 w=some w)∧(∀ (a c:Int) v w,dR [.int .i64 a,v,.int .i64 c] 0 0 w=some w) :=
 ⟨fun _ _=>rfl,fun _ _=>rfl,fun _ _ _ _=>mW (by simp) rfl,fun _ _ _ _=>mW (by simp) rfl⟩
theorem HD(p:aW)(hl:p.j.length≤1000):cQ Tryd.prog 37 [enc p] [] (YP p):=by
 refine cQ.cg Tryd.func37 Bc By BR (u8 rfl) (u8 rfl) (fun m hm=>by simp[av,aj] at hm) (fun hwf W0 bO E1 =>?_);simp only[wu,yE,bQ];clear hwf;have hfe:∀ A,bX false A [enc p.j]=some [enc p.j]:=fun A=>by simp only[bX,mH]
 have R:=y6 @gL (y6 @bJ (y6 @bw (y6 @br aK)))
 repeat' ((first |(with_reducible refine .guard (fun hb =>?_) (fun hb =>?_) <;>try simp only[hb])|refine ae.aM (by decide +kernel) rfl fun K hK =>?_|refine aT.BL hl rfl (hfe _) rfl (fun v os' hc =>?_)|(refine .aD [0,1,2] hK ?_;clear hK K)|(with_reducible refine .done (hK _ ?_);clear hK K)|refine ae.of rfl ?_|(with_reducible refine aF.aL (fun h =>?_) (fun h =>?_) <;>try simp only[h])) <;>try simp only[aN,R,zz2,simprocAttr])
 all_goals clear R
 obtain ⟨g1,g2,g3,g4,g5,g6,g7,g8⟩:=qo hc;have hst:∀ A rest,da A none 1 [1] (enc p) v rest (some (enc p.j))=aA rest (A.aV 1 (.box (ff p v))):=fun A rest=>dS g4 g5 (g6.trans rfl);have hok:b8 (some 3) (ff p v)=true:=by simp[b8,ff,I.isAgg,I.size,I.sizes,g7]
 have hsh:(ff p v).bd=.eK [.one,.one,.one]:=by simp[ff,I.bd,I.cV,g6]
 have hst2:∀ A rest,da A (some 3) 2 [] (.agg [.int .i64 0,.nils 4,.int .i64 0]) (ff p v) rest (some (.agg [.int .i64 0,.nils 4,.int .i64 0]))=aA rest (A.aV 2 (.box (ff p v))):=fun A rest=>dS rfl hok hsh
 try simp only[hst,bK,simprocAttr]
 have R:=y6 @hst (y6 @hok (y6 @hst2 (y6 @lH (y6 @gL (y6 @bJ (y6 @bw (y6 @br aK)))))))
 repeat' ((first |(with_reducible refine .guard (fun hb =>?_) (fun hb =>?_) <;>try simp only[hb])|refine ae.aM (by decide +kernel) rfl fun K hK =>?_|(refine .aD [0,1,2] hK ?_;clear hK K)|(with_reducible refine .done (hK _ ?_);clear hK K)|refine ae.of rfl ?_|(with_reducible refine aF.aL (fun h =>?_) (fun h =>?_) <;>try simp only[h])) <;>try simp only[aN,R,simprocAttr])
 all_goals clear R
 refine ⟨os',[ff p v],fun n x hx=>⟨?_,g1 n x hx⟩,⟨⟨ff p v,?_,.inl ⟨rfl,rfl,?_⟩⟩,trivial⟩,v,rfl,hc⟩
 ·have:=g3 n (by simp[av,hx]);subst this;simp only[au,aj,Nat.reduceEqDiff,if_false];exact hx
 ·simp[sU,cJ,au,Abs.bI,aj,I.at,hok]
 ·simp[ff,I.only,I.b6,g2]
theorem zx(l:List aI)(hl:l.length≤1000):bm Tryd.prog 49 [enc l] (enc l):=by
 refine bm.cg Tryd.func49 Bf BB BU (u8 rfl) (fun hwf W0 bO E1 =>?_);simp only[wz,yH,bQ];refine .gy (by decide +kernel) fun K hK =>?_;simp only[xu,bK,simprocAttr];refine .done (hK _ ?_);clear hK K;refine ae.seq (ae.seq ?_);by_cases hn:l=[]
 ·subst hn;refine .kI (by decide +kernel) fun K hK =>?_;simp only[r3,bK,simprocAttr];simp only[vK,List.isEmpty_nil,qP];refine .any rfl fun b _ =>?_
  try simp only[bK,simprocAttr]
  generalize (b==0)=t;cases t
  ·refine .done (hK _ ?_);clear hK K;try simp only[eb]
   refine ae.jW ?_;simp only[aF,bK,simprocAttr];refine ⟨fun h =>?_,fun h =>?_⟩
   ·cases h
   refine ae.skip ?_;try simp only[eb,simprocAttr]
   refine .gy (by decide +kernel) fun K hK =>?_;simp only[r4,bK,simprocAttr]
   try simp only[dX,qu,bK,simprocAttr]
   refine .done (hK _ ?_);clear hK K;refine ae.ret ?_;simp only[bK,simprocAttr];rfl
  ·refine .done (hK _ ?_);clear hK K;refine ae.jW ?_;simp only[aF,bK,simprocAttr];refine ⟨fun h =>?_,fun h =>?_⟩
   ·refine .gy (by decide +kernel) fun K hK =>?_;simp only[xv,bK,simprocAttr];refine .done (hK _ ?_);clear hK K;refine ae.ret ?_;simp only[eb,bK,simprocAttr];rfl
   ·cases h
 ·have hu:kg (enc l)=false:=by rw[vK];simpa using hn
  refine .kI (by decide +kernel) fun K hK =>?_;simp only[r3,bK,simprocAttr]
  try simp only[hu,Eo _ l hn,bK,simprocAttr]
  refine .done (hK _ ?_);clear hK K;try simp only[eb]
  refine ae.jW ?_;simp only[aF,bK,simprocAttr];refine ⟨fun h =>?_,fun h =>?_⟩
  ·cases h
  refine ae.skip ?_;try simp only[eb,simprocAttr]
  refine .gy (by decide +kernel) fun K hK =>?_;simp only[r4,bK,simprocAttr]
  try simp only[dX,qu,bK,simprocAttr]
  refine aT.wc ft rfl hn rfl (by omega) (by simp only[maxLen];omega) fun m =>?_
  try simp only[bK,simprocAttr]
  refine .done (hK _ ?_);clear hK K;refine ae.ret ?_;simp only[bK,simprocAttr]
  try simp only[rX (α:=aI) (sz:=4) rfl,List.take_left,bK,simprocAttr]
theorem zt(p:aW)(hl:p.j.length≤1000):bm Tryd.prog 37 [enc p] (enc p):=by
 refine bm.cg Tryd.func37 Bc By BR (u8 rfl) (fun hwf W0 bO E1 =>?_);simp only[wu,yE,bQ];clear hwf;have hst:∀ A rest,da A none 1 [1] (enc p) (enc p.j) rest (some (enc p.j))=aA rest (A.aV 1 (.box (enc p))):=fun A rest=>dS (eF _) (by simp[rQ,rP]) rfl;have hst2:∀ A rest,da A (some 3) 2 [] (.agg [.int .i64 0,.nils 4,.int .i64 0]) (enc p) rest (some (.agg [.int .i64 0,.nils 4,.int .i64 0]))=aA rest (A.aV 2 (.box (enc p))):=fun A rest=>dS (eF _) (by rw[fB];rfl) (fg _);have R:=y6 @hst (y6 @hst2 (y6 @gL (y6 @bJ (y6 @bw (y6 @br aK)))))
 repeat' ((first |(with_reducible refine .guard (fun hb =>?_) (fun hb =>?_) <;>try simp only[hb])|refine ae.aM (by decide +kernel) rfl fun K hK =>?_|refine .lead _ (zx p.j hl) ?_|(refine .aD [0,1,2] hK ?_;clear hK K)|(with_reducible refine .done (hK _ ?_);clear hK K)|refine ae.of rfl ?_|(with_reducible refine aF.aL (fun h =>?_) (fun h =>?_) <;>try simp only[h])) <;>try simp only[aN,R,simprocAttr])
 all_goals clear R
def gX(p:aW)(x:aI):aW×Int:=if p.j.length=200 then (⟨0,[],0⟩,2) else (⟨p.aB,p.j++[x],p.cq⟩,0)
theorem aT.Lu{K:ai→Prop}{p:aW}{avs:List I}{a1 a2:Option (List I)}{dst:Option Nat}{rest:List aw}{ts:List (Nat×I)}{os0:List (Nat×ao)}(hl:p.j.length≤1000)(hav:avs=[enc p])(hno:aj os0 7=none)
  (h:∀ v os',rM p.j v os'→aT Tryd.prog dv false K (aA rest ((au ts (os0++os')).aX dst (ff p v)))):aT Tryd.prog dv false K (.call 37 avs a1 a2 dst rest (au ts os0)):=by
 subst hav;refine .bP false [] [] [enc p] _ rfl (HD p hl) ⟨fun m x hx=>by simp[aj] at hx,fun m m' hm=>by simp[av,aj] at hm⟩ ⟨.inl ⟨(km _ _).symm,cv _ _,eF _⟩,trivial⟩ ?_ ?_
 ·rintro r os' ⟨v,rfl,hp⟩;obtain ⟨U,ab,af,_⟩:=qo hp;exact ⟨fun m y hy=>⟨(U m y hy).1,(U m y hy).2,fun h=>by cases h⟩,fun m m' _ _ h=>h,fun m hm=>by simp[av,aj] at hm,fun m hm _=>by rw[af m hm];exact ⟨hno,by decide⟩,by simp[ff,I.only,I.b6,ab],fun h=>by cases h⟩
 ·rintro r os' ⟨v,rfl,hp⟩;rw[nh,kY (ρ:=bx []) (fun _=>rfl),G1 hno (qo hp).2.2.1];exact h v os' hp
theorem uk{p:aW}{k n:Nat}{xs l:List aI}{A:ai}(hA:A.o k=some (.box (.agg (xs.map enc))))(hx:xs.take n=l):bn true A (ff p (.view k [] 4 0 n))=some (enc (⟨p.aB,l,p.cq⟩:aW)):=by
 have U:bn true A (.view k [] 4 0 n)=some (enc l):=by
  rw[um,hA];have:jT 4 0 n (some (xs.map enc))=some (enc l):=by rw[rX (α:=aI) (sz:=4) rfl,hx]
  exact this
 have ab:∀ k n,bn true A (.int k n)=some (.int k n):=fun k n=>by simp only[bn]
 simp only[ff,Co,Cy,Cz,U,ab,lG,zy2];rfl
theorem ry(p:aW)(x:aI)(hl:p.j.length≤200):bm Tryd.prog 35 [enc p,enc x] (.tuple [enc (gX p x).1,enc (gX p x).2]):=by
 refine bm.cg Tryd.func35 J1 KV LW (u8 rfl) (fun hwf W0 bO E1 =>?_);simp only[AK,Fw,bQ,zz1];clear hwf;rcases q:((p.j.length:Int)==200)
 case true =>
  have ab:p.j.length=200:=by simp at q;omega
  have hw:gX p x=(⟨0,[],0⟩,2):=by simp[gX,ab]
  rw[hw];have R:=y6 @q (y6 @tV (y6 @vC (y6 @gL (y6 @bJ (y6 @bw (y6 @br aK))))))
  repeat' ((first |(with_reducible refine .guard (fun hb =>?_) (fun hb =>?_) <;>try simp only[hb])|refine ae.aM (by decide +kernel) rfl fun K hK =>?_|(refine .aD [0,1,2,3,4,5,9] hK ?_;clear hK K)|(with_reducible refine .done (hK _ ?_);clear hK K)|refine ae.of rfl ?_|(with_reducible refine aF.aL (fun h =>?_) (fun h =>?_) <;>try simp only[h])) <;>try simp only[aN,R,simprocAttr])
  all_goals clear R
  rfl
 have hne:¬ p.j.length=200:=fun h=>by rw[h] at q;simp at q
 have hw:gX p x=(⟨p.aB,p.j++[x],p.cq⟩,0):=by simp[gX,hne]
 rw[hw];have hbs:=kO 4 x rfl;have R:=y6 @hbs (y6 @q (y6 @gL (y6 @bJ (y6 @bw (y6 @br aK)))))
 repeat' ((first |(with_reducible refine .guard (fun hb =>?_) (fun hb =>?_) <;>try simp only[hb])|refine ae.aM (by decide +kernel) rfl fun K hK =>?_|refine aT.Lu (by omega) rfl rfl (fun v os' hc =>?_)|(refine .aD [0,1,2,3,4,5,9] hK ?_;clear hK K)|(with_reducible refine .done (hK _ ?_);clear hK K)|refine ae.of rfl ?_|(with_reducible refine aF.aL (fun h =>?_) (fun h =>?_) <;>try simp only[h])) <;>try simp only[aN,R,zz2,simprocAttr])
 all_goals clear R
 obtain ⟨g1,g2,g3,g4,g5,g6,g7,g8⟩:=qo hc;have hok:b8 (some 3) (ff p v)=true:=by simp[b8,ff,I.isAgg,I.size,I.sizes,g7]
 have hsh:(ff p v).bd=.eK [.one,.one,.one]:=by simp[ff,I.bd,I.cV,g6]
 have hst:∀ A rest,da A (some 3) 2 [] (enc p) (ff p v) rest (some (enc p))=aA rest (A.aV 2 (.box (ff p v))):=fun A rest=>dS rfl hok hsh
 try simp only[hst,bK,simprocAttr]
 have R:=y6 @hbs (y6 @qu (y6 @g5 (y6 @lH (y6 @gL (y6 @bJ (y6 @bw (y6 @br aK)))))))
 repeat' ((first |(with_reducible refine .guard (fun hb =>?_) (fun hb =>?_) <;>try simp only[hb])|refine ae.aM (by decide +kernel) rfl fun K hK =>?_|(refine .aD [0,1,2,3,4,5,9] hK ?_;clear hK K)|(with_reducible refine .done (hK _ ?_);clear hK K)|refine ae.of rfl ?_|(with_reducible refine aF.aL (fun h =>?_) (fun h =>?_) <;>try simp only[h])) <;>try simp only[aN,R,simprocAttr])
 all_goals clear R
 have hst2:∀ A rest k n w,da A none 2 [1] (ff p w) (.view k [] 4 0 n) rest (some v)=aA rest (A.aV 2 (.box (ff p (.view k [] 4 0 n)))):=fun A rest k n w=>dS rfl rfl (by rw[g6];rfl);have hok2:∀ k n,b8 (some 3) (ff p (.view k [] 4 0 n))=true:=fun _ _=>rfl;have hst3:∀ A rest k n,da A (some 3) 4 [] (.agg [.int .i64 0,.nils 4,.int .i64 0]) (ff p (.view k [] 4 0 n)) rest (some (.agg [.int .i64 0,.nils 4,.int .i64 0]))=aA rest (A.aV 4 (.box (ff p (.view k [] 4 0 n)))):=fun A rest k n=>dS rfl rfl rfl;have hlx:([x]:List aI).length=1:=rfl;rcases hc with ⟨hj,rfl | rfl,rfl⟩ | ⟨hj,m,rfl,rfl⟩
 ·refine aT.IP ft rfl (by simp) rfl (by simp) (by simp[maxLen]) fun q =>?_;have hf:=fun A h=>uk (p:=p) (k:=17) (n:=1) (xs:=[x]++List.replicate q ft) (l:=p.j++[x]) (A:=A) h (by rw[hj];rfl)
  try simp only[hlx,hst2,lH,aK,bK,simprocAttr]
  have R:=y6 @hst2 (y6 @hok2 (y6 @hst3 (y6 @hf (y6 @lH (y6 @gL (y6 @bJ (y6 @bw (y6 @br aK))))))))
  repeat' ((first |(with_reducible refine .guard (fun hb =>?_) (fun hb =>?_) <;>try simp only[hb])|refine ae.aM (by decide +kernel) rfl fun K hK =>?_|(refine .aD [0,1,2,3,4,5,9] hK ?_;clear hK K)|(with_reducible refine .done (hK _ ?_);clear hK K)|refine ae.of rfl ?_|(with_reducible refine aF.aL (fun h =>?_) (fun h =>?_) <;>try simp only[h])) <;>try simp only[aN,R,simprocAttr])
  all_goals clear R
 ·refine aT.wc ft rfl (by simp) rfl (by simp) (by simp[maxLen]) fun q =>?_;have hf:=fun A h=>uk (p:=p) (k:=17) (n:=1) (xs:=[x]++List.replicate q ft) (l:=p.j++[x]) (A:=A) h (by rw[hj];rfl)
  try simp only[hlx,hst2,lH,aK,bK,simprocAttr]
  have R:=y6 @hst2 (y6 @hok2 (y6 @hst3 (y6 @hf (y6 @lH (y6 @gL (y6 @bJ (y6 @bw (y6 @br aK))))))))
  repeat' ((first |(with_reducible refine .guard (fun hb =>?_) (fun hb =>?_) <;>try simp only[hb])|refine ae.aM (by decide +kernel) rfl fun K hK =>?_|(refine .aD [0,1,2,3,4,5,9] hK ?_;clear hK K)|(with_reducible refine .done (hK _ ?_);clear hK K)|refine ae.of rfl ?_|(with_reducible refine aF.aL (fun h =>?_) (fun h =>?_) <;>try simp only[h])) <;>try simp only[aN,R,simprocAttr])
  all_goals clear R
 ·by_cases hm:m=0
  ·subst hm;refine aT.IM (esz:=4) ft rfl (xs:=p.j++List.replicate 0 ft) (ys:=[x]) (by simp) rfl (by simp) (by simp) rfl (by simp;omega) (by simp[maxLen];omega) fun q =>?_;have hf:=fun A h=>uk (p:=p) (k:=17) (n:=p.j.length+1) (xs:=(p.j++List.replicate 0 ft).take p.j.length++([x]++List.replicate q ft)) (l:=p.j++[x]) (A:=A) h (by simp[List.take_append];exact List.take_of_length_le (by omega))
   try simp only[hlx,hst2,lH,aK,bK,simprocAttr]
   have R:=y6 @hst2 (y6 @hok2 (y6 @hst3 (y6 @hf (y6 @lH (y6 @gL (y6 @bJ (y6 @bw (y6 @br aK))))))))
   repeat' ((first |(with_reducible refine .guard (fun hb =>?_) (fun hb =>?_) <;>try simp only[hb])|refine ae.aM (by decide +kernel) rfl fun K hK =>?_|(refine .aD [0,1,2,3,4,5,9] hK ?_;clear hK K)|(with_reducible refine .done (hK _ ?_);clear hK K)|refine ae.of rfl ?_|(with_reducible refine aF.aL (fun h =>?_) (fun h =>?_) <;>try simp only[h])) <;>try simp only[aN,R,simprocAttr])
   all_goals clear R
  ·rw[zX (esz:=4) _ rfl (xs:=p.j++List.replicate m ft) (ys:=[x]) (by simp) rfl (by simp;omega)];have hf:=fun A h=>uk (p:=p) (k:=7) (n:=p.j.length+1) (xs:=(p.j++List.replicate m ft).take p.j.length++([x]++(p.j++List.replicate m ft).drop (p.j.length+1))) (l:=p.j++[x]) (A:=A) h (by simp[List.take_append];exact List.take_of_length_le (by omega))
   try simp only[hlx,hst2,lH,aK,bK,simprocAttr]
   have R:=y6 @hst2 (y6 @hok2 (y6 @hst3 (y6 @hf (y6 @lH (y6 @gL (y6 @bJ (y6 @bw (y6 @br aK))))))))
   repeat' ((first |(with_reducible refine .guard (fun hb =>?_) (fun hb =>?_) <;>try simp only[hb])|refine ae.aM (by decide +kernel) rfl fun K hK =>?_|(refine .aD [0,1,2,3,4,5,9] hK ?_;clear hK K)|(with_reducible refine .done (hK _ ?_);clear hK K)|refine ae.of rfl ?_|(with_reducible refine aF.aL (fun h =>?_) (fun h =>?_) <;>try simp only[h])) <;>try simp only[aN,R,simprocAttr])
   all_goals clear R
def fL:aW:=⟨0,[],0⟩
theorem GS:(∀ A n b rest (q:aW) x y,da A (some 3) n [] b (enc q) rest (some (.agg [.int .i64 x,.nils 4,.int .i64 y]))=aA rest (A.aV n (.box (enc q))))∧(∀ A n b rest (q:aW) (r:aW),da A (some 3) n [] b (enc q) rest (some (enc r))=aA rest (A.aV n (.box (enc q)))) :=
 ⟨fun A n b rest q x y=>dS (eF _) (by rw[fB];rfl) (fg _),fun A n b rest q r=>dS (eF _) (by rw[fB];rfl) ((fg _).trans (fg _).symm)⟩
theorem Af(a b:Int):(dY [.int .i64 0,.int .i64 0,.int .i64 0,.int .i64 0] [(0,.int .i64 a),(1,.int .i64 b)]).map I.agg=some (enc (⟨a,b,0,0⟩:aI)):=by simp[dY,I.bT,I.size];rfl
theorem wk(a b c d:Int):(dY [.int .i64 0,.int .i64 0,.int .i64 0,.int .i64 0] [(0,.int .i64 a),(1,.int .i64 b),(2,.int .i64 c),(3,.int .i64 d)]).map I.agg=some (enc (⟨a,b,c,d⟩:aI)):=by simp[dY,I.bT,I.size];rfl
theorem bE:(type_of% @GS)∧(type_of% @Af)∧(type_of% @wk)∧(type_of% @tV)∧(type_of% @vC)∧(type_of% @gL):=⟨GS,Af,wk,tV,vC,gL⟩
def kp(p:aW)(b:Int):aW×Int:=match cK p with
 |none=>(fL,91)
 |some s=>if c6 1 9999 b=false then (fL,1) else if b∈s.here∨s.fN b=true then (fL,92) else gX p ⟨1,b,0,0⟩
def oo(p:aW)(b:Int):aW×Int:=match cK p with
 |none=>(fL,91)
 |some s=>if c6 1 9999 b=false then (fL,1) else if b∈s.here then gX p ⟨2,b,0,0⟩ else (fL,93)
theorem zo(p:aW)(b:Int):bm Tryd.prog 13 [enc p,enc b] (.tuple [enc (kp p b).1,enc (kp p b).2]):=by
 refine bm.cg Tryd.func13 JF Kz Ly (u8 rfl) (fun hwf W0 bO E1 =>?_);simp only[An,E8,bQ,zz1];clear hwf;have hF:=oH p;simp only[kp];cases ho:cK p with
 |none =>
  rw[ho] at hF;simp only[ji] at hF;have R:=y6 @bE (y6 @bp (y6 @bJ (y6 @bw (y6 @br aK))))
  repeat' ((first |(with_reducible refine .guard (fun hb =>?_) (fun hb =>?_) <;>try simp only[hb])|refine ae.aM (by decide +kernel) rfl fun K hK =>?_|refine .lead _ (hF) ?_|(refine .aD [0,1,2,4,5,6,7,13,18,23] hK ?_;clear hK K)|(with_reducible refine .done (hK _ ?_);clear hK K)|refine ae.of rfl ?_|(with_reducible refine aF.aL (fun h =>?_) (fun h =>?_) <;>try simp only[h])) <;>try simp only[aN,R,simprocAttr])
  all_goals clear R
  rfl
 |some s =>
  have hjl:=(fF ho).2.2.2.1;rw[ho] at hF;simp only[ji] at hF;have hlk:=gw eU b s.here;rw[eJ] at hlk;have hB:=oI b;have hR:=rv s b;have hW:=ry p ⟨1,b,0,0⟩ hjl;rcases q1:c6 1 9999 b
  ·rw[q1] at hB;have R:=y6 @dh (y6 @bE (y6 @bp (y6 @bJ (y6 @bw (y6 @br aK)))))
   repeat' ((first |(with_reducible refine .guard (fun hb =>?_) (fun hb =>?_) <;>try simp only[hb])|refine ae.aM (by decide +kernel) rfl fun K hK =>?_|refine .lead _ (hF) ?_|refine .flat _ (hB) rfl ?_|(refine .aD [0,1,2,4,5,6,7,13,18,23] hK ?_;clear hK K)|(with_reducible refine .done (hK _ ?_);clear hK K)|refine ae.of rfl ?_|(with_reducible refine aF.aL (fun h =>?_) (fun h =>?_) <;>try simp only[h])) <;>try simp only[aN,R,simprocAttr])
   all_goals clear R
   rfl
  rw[q1] at hB;rcases q2:decide (b∈s.here)
  ·rcases q3:s.fN b
   ·rw[q3] at hR;have hh:(b∈s.here∨s.fN b=true)=False:=by simpa[q3] using q2
    simp only[zw6,if_false,hh];have R:=y6 @q2 (y6 @hlk (y6 @dh (y6 @bE (y6 @bp (y6 @bJ (y6 @bw (y6 @br aK)))))))
    repeat' ((first |(with_reducible refine .guard (fun hb =>?_) (fun hb =>?_) <;>try simp only[hb])|refine ae.aM (by decide +kernel) rfl fun K hK =>?_|refine .lead _ (hF) ?_|refine .flat _ (hB) rfl ?_|refine .flat _ (hR) rfl ?_|refine .lead _ (hW) ?_|(refine .aD [0,1,2,4,5,6,7,13,18,23] hK ?_;clear hK K)|(with_reducible refine .done (hK _ ?_);clear hK K)|refine ae.of rfl ?_|(with_reducible refine aF.aL (fun h =>?_) (fun h =>?_) <;>try simp only[h])) <;>try simp only[aN,R,simprocAttr])
    all_goals clear R
   ·rw[q3] at hR;have hh:(b∈s.here∨s.fN b=true)=True:=by simp[q3]
    simp only[zw6,if_false,hh,if_true];have R:=y6 @q2 (y6 @hlk (y6 @dh (y6 @bE (y6 @bp (y6 @bJ (y6 @bw (y6 @br aK)))))))
    repeat' ((first |(with_reducible refine .guard (fun hb =>?_) (fun hb =>?_) <;>try simp only[hb])|refine ae.aM (by decide +kernel) rfl fun K hK =>?_|refine .lead _ (hF) ?_|refine .flat _ (hB) rfl ?_|refine .flat _ (hR) rfl ?_|(refine .aD [0,1,2,4,5,6,7,13,18,23] hK ?_;clear hK K)|(with_reducible refine .done (hK _ ?_);clear hK K)|refine ae.of rfl ?_|(with_reducible refine aF.aL (fun h =>?_) (fun h =>?_) <;>try simp only[h])) <;>try simp only[aN,R,simprocAttr])
    all_goals clear R
    rfl
  ·have hh:b∈s.here:=of_decide_eq_true q2;simp only[zw6,if_false,hh,true_or,if_true];have R:=y6 @q2 (y6 @hlk (y6 @dh (y6 @bE (y6 @bp (y6 @bJ (y6 @bw (y6 @br aK)))))))
   repeat' ((first |(with_reducible refine .guard (fun hb =>?_) (fun hb =>?_) <;>try simp only[hb])|refine ae.aM (by decide +kernel) rfl fun K hK =>?_|refine .lead _ (hF) ?_|refine .flat _ (hB) rfl ?_|(refine .aD [0,1,2,4,5,6,7,13,18,23] hK ?_;clear hK K)|(with_reducible refine .done (hK _ ?_);clear hK K)|refine ae.of rfl ?_|(with_reducible refine aF.aL (fun h =>?_) (fun h =>?_) <;>try simp only[h])) <;>try simp only[aN,R,simprocAttr])
   all_goals clear R
   rfl
theorem Hz(p:aW)(b:Int):bm Tryd.prog 28 [enc p,enc b] (.tuple [enc (oo p b).1,enc (oo p b).2]):=by
 refine bm.cg Tryd.func28 JT KN LN (u8 rfl) (fun hwf W0 bO E1 =>?_);simp only[AD,Fo,bQ,zz1];clear hwf;have hF:=oH p;simp only[oo];cases ho:cK p with
 |none =>
  rw[ho] at hF;simp only[ji] at hF;have R:=y6 @bE (y6 @bp (y6 @bJ (y6 @bw (y6 @br aK))))
  repeat' ((first |(with_reducible refine .guard (fun hb =>?_) (fun hb =>?_) <;>try simp only[hb])|refine ae.aM (by decide +kernel) rfl fun K hK =>?_|refine .lead _ (hF) ?_|(refine .aD [0,1,2,4,5,6,7,13,18,23] hK ?_;clear hK K)|(with_reducible refine .done (hK _ ?_);clear hK K)|refine ae.of rfl ?_|(with_reducible refine aF.aL (fun h =>?_) (fun h =>?_) <;>try simp only[h])) <;>try simp only[aN,R,simprocAttr])
  all_goals clear R
  rfl
 |some s =>
  have hjl:=(fF ho).2.2.2.1;rw[ho] at hF;simp only[ji] at hF;have hlk:=gw eU b s.here;rw[eJ] at hlk;have hB:=oI b;have hW:=ry p ⟨2,b,0,0⟩ hjl;rcases q1:c6 1 9999 b
  ·rw[q1] at hB;have R:=y6 @dh (y6 @bE (y6 @bp (y6 @bJ (y6 @bw (y6 @br aK)))))
   repeat' ((first |(with_reducible refine .guard (fun hb =>?_) (fun hb =>?_) <;>try simp only[hb])|refine ae.aM (by decide +kernel) rfl fun K hK =>?_|refine .lead _ (hF) ?_|refine .flat _ (hB) rfl ?_|(refine .aD [0,1,2,4,5,6,7,13,18,23] hK ?_;clear hK K)|(with_reducible refine .done (hK _ ?_);clear hK K)|refine ae.of rfl ?_|(with_reducible refine aF.aL (fun h =>?_) (fun h =>?_) <;>try simp only[h])) <;>try simp only[aN,R,simprocAttr])
   all_goals clear R
   rfl
  rw[q1] at hB;rcases q2:decide (b∈s.here)
  ·have hh:b∉s.here:=of_decide_eq_false q2;simp only[zw6,if_false,hh];have R:=y6 @q2 (y6 @hlk (y6 @dh (y6 @bE (y6 @bp (y6 @bJ (y6 @bw (y6 @br aK)))))))
   repeat' ((first |(with_reducible refine .guard (fun hb =>?_) (fun hb =>?_) <;>try simp only[hb])|refine ae.aM (by decide +kernel) rfl fun K hK =>?_|refine .lead _ (hF) ?_|refine .flat _ (hB) rfl ?_|(refine .aD [0,1,2,4,5,6,7,13,18,23] hK ?_;clear hK K)|(with_reducible refine .done (hK _ ?_);clear hK K)|refine ae.of rfl ?_|(with_reducible refine aF.aL (fun h =>?_) (fun h =>?_) <;>try simp only[h])) <;>try simp only[aN,R,simprocAttr])
   all_goals clear R
   rfl
  ·have hh:b∈s.here:=of_decide_eq_true q2;simp only[zw6,if_false,hh,if_true];have R:=y6 @q2 (y6 @hlk (y6 @dh (y6 @bE (y6 @bp (y6 @bJ (y6 @bw (y6 @br aK)))))))
   repeat' ((first |(with_reducible refine .guard (fun hb =>?_) (fun hb =>?_) <;>try simp only[hb])|refine ae.aM (by decide +kernel) rfl fun K hK =>?_|refine .lead _ (hF) ?_|refine .flat _ (hB) rfl ?_|refine .lead _ (hW) ?_|(refine .aD [0,1,2,4,5,6,7,13,18,23] hK ?_;clear hK K)|(with_reducible refine .done (hK _ ?_);clear hK K)|refine ae.of rfl ?_|(with_reducible refine aF.aL (fun h =>?_) (fun h =>?_) <;>try simp only[h])) <;>try simp only[aN,R,simprocAttr])
   all_goals clear R
def h1(p:aW):aW×Int:=match cK p with
 |none=>(fL,91)
 |some _=>(⟨p.aB,p.j,p.j.length⟩,0)
theorem GU(A:ai)(n:Nat)(p:aW)(v:Int)(rest:List aw)(u:Int):da A none n [2] (enc p) (.int .i64 v) rest (some (.int .i64 u))=aA rest (A.aV n (.box (enc (⟨p.aB,p.j,v⟩:aW)))):=dS rfl rfl rfl
theorem tD(p:aW):bm Tryd.prog 14 [enc p] (.tuple [enc (h1 p).1,enc (h1 p).2]):=by
 refine bm.cg Tryd.func14 JG KA Lz (u8 rfl) (fun hwf W0 bO E1 =>?_);simp only[Ao,E9,bQ];clear hwf;have hF:=rz p;simp only[oU] at hF;simp only[h1];cases ho:cK p with
 |none =>
  rw[ho] at hF;have R:=y6 @bE (y6 @bp (y6 @bJ (y6 @bw (y6 @br aK))))
  repeat' ((first |(with_reducible refine .guard (fun hb =>?_) (fun hb =>?_) <;>try simp only[hb])|refine ae.aM (by decide +kernel) rfl fun K hK =>?_|refine .lead _ (hF) ?_|(refine .aD [0,1,2,3,4,8] hK ?_;clear hK K)|(with_reducible refine .done (hK _ ?_);clear hK K)|refine ae.of rfl ?_|(with_reducible refine aF.aL (fun h =>?_) (fun h =>?_) <;>try simp only[h])) <;>try simp only[aN,R,simprocAttr])
  all_goals clear R
  rfl
 |some s =>
  have hjl:=(fF ho).2.2.2.1;rw[ho] at hF;have R:=y6 @GU (y6 @bE (y6 @bp (y6 @bJ (y6 @bw (y6 @br aK)))))
  repeat' ((first |(with_reducible refine .guard (fun hb =>?_) (fun hb =>?_) <;>try simp only[hb])|refine ae.aM (by decide +kernel) rfl fun K hK =>?_|refine .lead _ (hF) ?_|refine .lead _ (zt p (by omega)) ?_|(refine .aD [0,1,2,3,4,8] hK ?_;clear hK K)|(with_reducible refine .done (hK _ ?_);clear hK K)|refine ae.of rfl ?_|(with_reducible refine aF.aL (fun h =>?_) (fun h =>?_) <;>try simp only[h])) <;>try simp only[aN,R,simprocAttr])
  all_goals clear R
def lJ(p:aW)(ez:Int):Int:=p.cq+(ez.tmod (p.j.length-p.cq+1)+(p.j.length-p.cq+1)).tmod (p.j.length-p.cq+1)
def mF(p:aW)(ez:Int):aW×Int:=match cK p with
 |none=>(fL,91)
 |some _=>(⟨p.aB,p.j.take (lJ p ez).toNat,lJ p ez⟩,0)
theorem vJ(n m:Int)(hm:0<m):-m<n.tmod m∧n.tmod m<m:=by
 have U:=Int.tmod_lt_of_pos n hm;have ab:=Int.lt_tmod_of_pos n hm;omega
theorem BV{p:aW}{s:az}(ho:cK p=some s)(ez:Int):0≤p.cq∧p.cq≤p.j.length∧p.cq≤lJ p ez∧lJ p ez≤p.j.length∧p.j.length≤200:=by
 obtain ⟨_,_,_,aq,h5,_⟩:=fF ho;simp only[iF,c6,t8,decide_eq_true_eq] at h5;obtain ⟨_,_,h6,h7⟩:=h5;have hm:(0:Int)<p.j.length-p.cq+1:=by omega
 have U:=vJ ez (p.j.length-p.cq+1) hm;have ab:=vJ (ez.tmod (p.j.length-p.cq+1)+(p.j.length-p.cq+1)) (p.j.length-p.cq+1) hm;have af:=Int.tmod_nonneg (p.j.length-p.cq+1) (show (0:Int)≤ez.tmod (p.j.length-p.cq+1)+(p.j.length-p.cq+1) by omega);simp only[lJ];omega
theorem ZU{α:Type}[Enc α]{A:ai}(esz:Nat){l:List α}{i:Nat}(h:i≤l.length)(hs:Enc.sz α=esz):ln A esz none (some (.int .i64 i)) none (enc l)=some (enc (l.take i)):=by
 simp only[ln,iy,hs,if_true,jD,jM,zz7];rw[if_pos ⟨by omega,by omega,by omega,by omega⟩];simp
theorem HC(p:aW)(ez:Int):bm Tryd.prog 30 [enc p,enc ez] (.tuple [enc (mF p ez).1,enc (mF p ez).2]):=by
 refine bm.cg Tryd.func30 JW KQ LQ (u8 rfl) (fun hwf W0 bO E1 =>?_);simp only[AF,Fq,bQ,zz1];clear hwf;have hF:=rz p;simp only[oU] at hF;simp only[mF];cases ho:cK p with
 |none =>
  rw[ho] at hF;have R:=y6 @bE (y6 @bp (y6 @bJ (y6 @bw (y6 @br aK))))
  repeat' ((first |(with_reducible refine .guard (fun hb =>?_) (fun hb =>?_) <;>try simp only[hb])|refine ae.aM (by decide +kernel) rfl fun K hK =>?_|refine .lead _ (hF) ?_|(refine .aD [0,1,2,4,5,6,7,11] hK ?_;clear hK K)|(with_reducible refine .done (hK _ ?_);clear hK K)|refine ae.of rfl ?_|(with_reducible refine aF.aL (fun h =>?_) (fun h =>?_) <;>try simp only[h])) <;>try simp only[aN,R,simprocAttr])
  all_goals clear R
  rfl
 |some s =>
  obtain ⟨k1,k2,k3,k4,k5⟩:=BV ho ez;rw[ho] at hF;obtain ⟨m,hm⟩:∃ m:Int,m=p.j.length-p.cq+1:=⟨_,rfl⟩
  have hmp:0<m:=by omega
  have b1:=vJ ez m hmp;have b2:=vJ (ez.tmod m+m) m hmp;have hw1:IntKind.i64.wrap ((p.j.length:Int)-p.cq)=(p.j.length:Int)-p.cq:=jv _ (by omega) (by omega);have hw2:IntKind.i64.wrap ((p.j.length:Int)-p.cq+1)=m:=by rw[jv _ (by omega) (by omega),hm]
  have hm0:(m=0)=False:=by simp;omega
  have hw3:IntKind.i64.wrap (ez.tmod m+m)=ez.tmod m+m:=jv _ (by omega) (by omega);have hk:lJ p ez=p.cq+(ez.tmod m+m).tmod m:=by simp only[lJ,hm]
  have hw4:IntKind.i64.wrap (p.cq+(ez.tmod m+m).tmod m)=lJ p ez:=by rw[hk];exact jv _ (by omega) (by omega)
  generalize lJ p ez=k at *;have hkn:k=(k.toNat:Int):=by omega
  have hsl:∀ A,ln A 4 none (some (.int .i64 k)) none (enc p.j)=some (enc (p.j.take k.toNat)):=fun A=>by
   have:=ZU (A:=A) (α:=aI) 4 (l:=p.j) (i:=k.toNat) (by omega) rfl;rw[←hkn] at this;exact this
  have hst:∀ (A:ai) rest,da A none 2 [1] (enc (⟨p.aB,p.j,k⟩:aW)) (enc (p.j.take k.toNat)) rest (some (enc p.j))=aA rest (A.aV 2 (.box (enc (⟨p.aB,p.j.take k.toNat,k⟩:aW)))):=fun A rest=>dS (eF _) (by simp[rQ,rP]) rfl;have hC:=zx (p.j.take k.toNat) (by rw[zx7];omega);have R:=y6 @hw1 (y6 @hw2 (y6 @hm0 (y6 @hw3 (y6 @hw4 (y6 @hsl (y6 @hst (y6 @GU (y6 @bE (y6 @bp (y6 @bJ (y6 @bw (y6 @br aK))))))))))))
  repeat' ((first |(with_reducible refine .guard (fun hb =>?_) (fun hb =>?_) <;>try simp only[hb])|refine ae.aM (by decide +kernel) rfl fun K hK =>?_|refine .lead _ (hF) ?_|refine .lead _ (hC) ?_|(refine .aD [0,1,2,4,5,6,7,11] hK ?_;clear hK K)|(with_reducible refine .done (hK _ ?_);clear hK K)|refine ae.of rfl ?_|(with_reducible refine aF.aL (fun h =>?_) (fun h =>?_) <;>try simp only[h])) <;>try simp only[aN,R,Option.map_none,simprocAttr])
  all_goals clear R
def lW:dI:=⟨0,0,0,false⟩
theorem oD:(∀ A n b rest (q:dI) x y z w,da A (some 4) n [] b (enc q) rest (some (.agg [.int .i64 x,.int .i64 y,.int .i64 z,.bool w]))=aA rest (A.aV n (.box (enc q))))∧(∀ A n b rest (q r:dI),da A (some 4) n [] b (enc q) rest (some (enc r))=aA rest (A.aV n (.box (enc q)))) :=
 ⟨fun A n b rest q x y z w=>dS (eF _) (by rw[fB];rfl) (fg _),fun A n b rest q r=>dS (eF _) (by rw[fB];rfl) ((fg _).trans (fg _).symm)⟩
theorem oS:(dY [.int .i64 0,.int .i64 0,.int .i64 0,.bool false] []).map I.agg=some (enc lW):=by simp[dY];rfl
theorem wm(a b c:Int):(dY [.int .i64 0,.int .i64 0,.int .i64 0,.bool false] [(0,.int .i64 a),(1,.int .i64 b),(2,.int .i64 c)]).map I.agg=some (enc (⟨a,b,c,false⟩:dI)):=by simp[dY,I.bT,I.size];rfl
def iY(p:aW)(b to:Int):aW×dI×Int:=match cK p with
 |none=>(fL,lW,91)
 |some s=>if c6 1 9999 b=false then (fL,lW,1) else if c6 0 5 to=false∨to=p.aB then (fL,lW,90) else if b∉s.here then (fL,lW,93) else
  if p.j.length=200 then (fL,lW,2) else ((gX p ⟨3,b,to,(s.all.length:Int)+1⟩).1,⟨(s.all.length:Int)+1,to,b,false⟩,0)
theorem vT(p:aW)(b to:Int):bm Tryd.prog 15 [enc p,enc b,enc to] (.tuple [enc (iY p b to).1,enc (iY p b to).2.1,enc (iY p b to).2.2]):=by
 refine bm.cg Tryd.func15 JH KB LA (u8 rfl) (fun hwf W0 bO E1 =>?_);simp only[Ap,Fa,bQ,zz1,Nat.reduceAdd];clear hwf;have hF:=oH p;simp only[iY];cases ho:cK p with
 |none =>
  rw[ho] at hF;simp only[ji] at hF;have R:=y6 @oS (y6 @oD (y6 @bE (y6 @bp (y6 @bJ (y6 @bw (y6 @br aK))))))
  repeat' ((first |(with_reducible refine .guard (fun hb =>?_) (fun hb =>?_) <;>try simp only[hb])|refine ae.aM (by decide +kernel) rfl fun K hK =>?_|refine .lead _ (hF) ?_|(refine .aD [0,1,2,3,6,7,8,9,10,11,17,23,29,41,70] hK ?_;clear hK K)|(with_reducible refine .done (hK _ ?_);clear hK K)|refine ae.of rfl ?_|(with_reducible refine aF.aL (fun h =>?_) (fun h =>?_) <;>try simp only[h])) <;>try simp only[aN,R,simprocAttr])
  all_goals clear R
  rfl
 |some s =>
  have hjl:=(fF ho).2.2.2.1;have hsl:=(fF ho).2.2.1;rw[ho] at hF;simp only[ji] at hF;have hlk:=gw eU b s.here;rw[eJ] at hlk;have hB:=oI b;have hT:=nG to;have hW:=ry p ⟨3,b,to,(s.all.length:Int)+1⟩ hjl;have hw:IntKind.i64.wrap ((s.all.length:Int)+1)=(s.all.length:Int)+1:=jv _ (by omega) (by omega);rcases q1:c6 1 9999 b
  ·rw[q1] at hB;have R:=y6 @oS (y6 @oD (y6 @dh (y6 @bE (y6 @bp (y6 @bJ (y6 @bw (y6 @br aK)))))))
   repeat' ((first |(with_reducible refine .guard (fun hb =>?_) (fun hb =>?_) <;>try simp only[hb])|refine ae.aM (by decide +kernel) rfl fun K hK =>?_|refine .lead _ (hF) ?_|refine .flat _ (hB) rfl ?_|(refine .aD [0,1,2,3,6,7,8,9,10,11,17,23,29,41,70] hK ?_;clear hK K)|(with_reducible refine .done (hK _ ?_);clear hK K)|refine ae.of rfl ?_|(with_reducible refine aF.aL (fun h =>?_) (fun h =>?_) <;>try simp only[h])) <;>try simp only[aN,R,simprocAttr])
   all_goals clear R
   rfl
  rw[q1] at hB;rcases q2:c6 0 5 to
  ·rw[q2] at hT;simp only[zw6,if_false,true_or,if_true];have R:=y6 @oS (y6 @oD (y6 @dh (y6 @bE (y6 @bp (y6 @bJ (y6 @bw (y6 @br aK)))))))
   repeat' ((first |(with_reducible refine .guard (fun hb =>?_) (fun hb =>?_) <;>try simp only[hb])|refine ae.aM (by decide +kernel) rfl fun K hK =>?_|refine .lead _ (hF) ?_|refine .flat _ (hB) rfl ?_|refine .flat _ (hT) rfl ?_|(refine .aD [0,1,2,3,6,7,8,9,10,11,17,23,29,41,70] hK ?_;clear hK K)|(with_reducible refine .done (hK _ ?_);clear hK K)|refine ae.of rfl ?_|(with_reducible refine aF.aL (fun h =>?_) (fun h =>?_) <;>try simp only[h])) <;>try simp only[aN,R,simprocAttr])
   all_goals clear R
   rfl
  rw[q2] at hT;rcases q3:(to==p.aB)
  case true =>
   have e:to=p.aB:=by simpa using q3
   simp only[zw6,if_false,false_or,e,if_true];rw[e] at hT q3;have R:=y6 @q3 (y6 @oS (y6 @oD (y6 @dh (y6 @bE (y6 @bp (y6 @bJ (y6 @bw (y6 @br aK))))))))
   repeat' ((first |(with_reducible refine .guard (fun hb =>?_) (fun hb =>?_) <;>try simp only[hb])|refine ae.aM (by decide +kernel) rfl fun K hK =>?_|refine .lead _ (hF) ?_|refine .flat _ (hB) rfl ?_|refine .flat _ (hT) rfl ?_|(refine .aD [0,1,2,3,6,7,8,9,10,11,17,23,29,41,70] hK ?_;clear hK K)|(with_reducible refine .done (hK _ ?_);clear hK K)|refine ae.of rfl ?_|(with_reducible refine aF.aL (fun h =>?_) (fun h =>?_) <;>try simp only[h])) <;>try simp only[aN,R,simprocAttr])
   all_goals clear R
   rfl
  have e:¬ to=p.aB:=by simpa using q3
  simp only[zw6,if_false,false_or,e];rcases q4:decide (b∈s.here)
  ·have hh:b∉s.here:=of_decide_eq_false q4;rw[if_pos hh];have R:=y6 @q3 (y6 @q4 (y6 @hlk (y6 @oS (y6 @oD (y6 @dh (y6 @bE (y6 @bp (y6 @bJ (y6 @bw (y6 @br aK))))))))))
   repeat' ((first |(with_reducible refine .guard (fun hb =>?_) (fun hb =>?_) <;>try simp only[hb])|refine ae.aM (by decide +kernel) rfl fun K hK =>?_|refine .lead _ (hF) ?_|refine .flat _ (hB) rfl ?_|refine .flat _ (hT) rfl ?_|(refine .aD [0,1,2,3,6,7,8,9,10,11,17,23,29,41,70] hK ?_;clear hK K)|(with_reducible refine .done (hK _ ?_);clear hK K)|refine ae.of rfl ?_|(with_reducible refine aF.aL (fun h =>?_) (fun h =>?_) <;>try simp only[h])) <;>try simp only[aN,R,simprocAttr])
   all_goals clear R
   rfl
  ·have hh:b∈s.here:=of_decide_eq_true q4;rw[if_neg (by simpa using hh)];by_cases ab:p.j.length=200
   ·have hw1:gX p ⟨3,b,to,(s.all.length:Int)+1⟩=(fL,2):=by simp[gX,ab,fL]
    rw[hw1] at hW;simp only[if_pos ab];have R:=y6 @hw (y6 @q3 (y6 @q4 (y6 @hlk (y6 @oS (y6 @wm (y6 @oD (y6 @dh (y6 @bE (y6 @bp (y6 @bJ (y6 @bw (y6 @br aK))))))))))))
    repeat' ((first |(with_reducible refine .guard (fun hb =>?_) (fun hb =>?_) <;>try simp only[hb])|refine ae.aM (by decide +kernel) rfl fun K hK =>?_|refine .lead _ (hF) ?_|refine .flat _ (hB) rfl ?_|refine .flat _ (hT) rfl ?_|refine .lead _ (hW) ?_|(refine .aD [0,1,2,3,6,7,8,9,10,11,17,23,29,41,70] hK ?_;clear hK K)|(with_reducible refine .done (hK _ ?_);clear hK K)|refine ae.of rfl ?_|(with_reducible refine aF.aL (fun h =>?_) (fun h =>?_) <;>try simp only[h])) <;>try simp only[aN,R,simprocAttr])
    all_goals clear R
    rfl
   ·have hw1:(gX p ⟨3,b,to,(s.all.length:Int)+1⟩).2=0:=by simp[gX,ab]
    rw[hw1] at hW;simp only[if_neg ab];have R:=y6 @hw (y6 @q3 (y6 @q4 (y6 @hlk (y6 @oS (y6 @wm (y6 @oD (y6 @dh (y6 @bE (y6 @bp (y6 @bJ (y6 @bw (y6 @br aK))))))))))))
    repeat' ((first |(with_reducible refine .guard (fun hb =>?_) (fun hb =>?_) <;>try simp only[hb])|refine ae.aM (by decide +kernel) rfl fun K hK =>?_|refine .lead _ (hF) ?_|refine .flat _ (hB) rfl ?_|refine .flat _ (hT) rfl ?_|refine .lead _ (hW) ?_|(refine ae.sZ (gs:=xq) [] [(3,[3]),(6,[6]),(7,[7]),(11,[11])] [0,1,2,3,4] (by decide +kernel) (dy.of (by simp[gI,cw,I.only])) fun K hK =>?_;simp only[gJ,xq,zx8,zx9,R,simprocAttr])|(refine .aD [0,1,2,3,6,7,8,9,10,11,17,23,29,41,70] hK ?_;clear hK K)|(with_reducible refine .done (hK _ ?_);clear hK K)|refine ae.of rfl ?_|(with_reducible refine aF.aL (fun h =>?_) (fun h =>?_) <;>try simp only[h])) <;>try simp only[aN,R,simprocAttr])
    all_goals clear R
def nQ(p:aW)(no:Int):aW×Int:=match cK p with
 |none=>(fL,91)
 |some s=>match s.at no with
  |none=>(fL,94)
  |some i=>if (s.bh i).ev then (fL,94) else gX p ⟨4,(s.bh i).aC,(s.bh i).to,no⟩
theorem HA(p:aW)(no:Int):bm Tryd.prog 29 [enc p,enc no] (.tuple [enc (nQ p no).1,enc (nQ p no).2]):=by
 refine bm.cg Tryd.func29 JU KO LO (u8 rfl) (fun hwf W0 bO E1 =>?_);simp only[AE,Fp,bQ,zz1];clear hwf;have hF:=oH p;simp only[nQ];cases ho:cK p with
 |none =>
  rw[ho] at hF;simp only[ji] at hF;have R:=y6 @bE (y6 @bp (y6 @bJ (y6 @bw (y6 @br aK))))
  repeat' ((first |(with_reducible refine .guard (fun hb =>?_) (fun hb =>?_) <;>try simp only[hb])|refine ae.aM (by decide +kernel) rfl fun K hK =>?_|refine .lead _ (hF) ?_|(refine .aD [0,1,2,4,5,6,7,8,9,16,35] hK ?_;clear hK K)|(with_reducible refine .done (hK _ ?_);clear hK K)|refine ae.of rfl ?_|(with_reducible refine aF.aL (fun h =>?_) (fun h =>?_) <;>try simp only[h])) <;>try simp only[aN,R,simprocAttr])
  all_goals clear R
  rfl
 |some s =>
  have hjl:=(fF ho).2.2.2.1;rw[ho] at hF;simp only[ji] at hF;have hlk:=uM (s:=s) (fun i=>.ref (enc (s.bh i))) no
  dsimp only
  cases ha:s.at no with
  |none =>
   rw[ha] at hlk;simp only at hlk;have R:=y6 @hlk (y6 @dh (y6 @bE (y6 @bp (y6 @bJ (y6 @bw (y6 @br aK))))))
   repeat' ((first |(with_reducible refine .guard (fun hb =>?_) (fun hb =>?_) <;>try simp only[hb])|refine ae.aM (by decide +kernel) rfl fun K hK =>?_|refine .lead _ (hF) ?_|(refine .aD [0,1,2,4,5,6,7,8,9,16,35] hK ?_;clear hK K)|(with_reducible refine .done (hK _ ?_);clear hK K)|refine ae.of rfl ?_|(with_reducible refine aF.aL (fun h =>?_) (fun h =>?_) <;>try simp only[h])) <;>try simp only[aN,R,simprocAttr])
   all_goals clear R
   rfl
  |some i =>
   rw[ha] at hlk;simp only at hlk;have hW:=ry p ⟨4,(s.bh i).aC,(s.bh i).to,no⟩ hjl;cases hc:(s.bh i).ev with
   |true =>
    have R:=y6 @hlk (y6 @hc (y6 @dh (y6 @bE (y6 @bp (y6 @bJ (y6 @bw (y6 @br aK)))))))
    repeat' ((first |(with_reducible refine .guard (fun hb =>?_) (fun hb =>?_) <;>try simp only[hb])|refine ae.aM (by decide +kernel) rfl fun K hK =>?_|refine .lead _ (hF) ?_|(refine .aD [0,1,2,4,5,6,7,8,9,16,35] hK ?_;clear hK K)|(with_reducible refine .done (hK _ ?_);clear hK K)|refine ae.of rfl ?_|(with_reducible refine aF.aL (fun h =>?_) (fun h =>?_) <;>try simp only[h])) <;>try simp only[aN,R,simprocAttr])
    all_goals clear R
    rfl
   |false =>
    have R:=y6 @hlk (y6 @hc (y6 @dh (y6 @bE (y6 @bp (y6 @bJ (y6 @bw (y6 @br aK)))))))
    repeat' ((first |(with_reducible refine .guard (fun hb =>?_) (fun hb =>?_) <;>try simp only[hb])|refine ae.aM (by decide +kernel) rfl fun K hK =>?_|refine .lead _ (hF) ?_|refine .lead _ (hW) ?_|(refine .aD [0,1,2,4,5,6,7,8,9,16,35] hK ?_;clear hK K)|(with_reducible refine .done (hK _ ?_);clear hK K)|refine ae.of rfl ?_|(with_reducible refine aF.aL (fun h =>?_) (fun h =>?_) <;>try simp only[h])) <;>try simp only[aN,R,simprocAttr])
    all_goals clear R
def pd(k:Int):Int:=if k=1 then 7 else if k=2 then 5 else if k=3 then 8 else if k=4 then 6 else 0
theorem Xg(k:Int):fu (.i .i64) (.int .i64 0) (.int .i64 k) [.int .i64 1,.int .i64 2,.int .i64 3,.int .i64 4] [.int .i64 7,.int .i64 5,.int .i64 8,.int .i64 6]=some (.int .i64 (pd k),decide (k=1∨k=2∨k=3∨k=4)):=by
 have h:=uL eU (.int .i64 0) k [1,2,3,4] [.int .i64 7,.int .i64 5,.int .i64 8,.int .i64 6];simp only[zz4,zx6,eJ] at h;rw[h];by_cases U:k=1
 ·subst U;rfl
 by_cases ab:k=2
 ·subst ab;rfl
 by_cases af:k=3
 ·subst af;rfl
 by_cases aq:k=4
 ·subst aq;rfl
 simp[List.findIdx?_cons,U,ab,af,aq,pd]
theorem HJ(k:Int):bm Tryd.prog 43 [enc k] (enc (pd k)):=by
 refine bm.cg Tryd.func43 J7 K1 L2 (u8 rfl) (fun hwf W0 bO E1 =>?_);simp only[AQ,FD,bQ];clear hwf;have hv:∀ k n,(I.int k n).bT=true:=fun _ _=>rfl;have hl:=Xg k;have R:=y6 @hv (y6 @hl (y6 @Ek (y6 @bJ (y6 @bw (y6 @br aK)))))
 repeat' ((first |(with_reducible refine .guard (fun hb =>?_) (fun hb =>?_) <;>try simp only[hb])|refine ae.aM (by decide +kernel) rfl fun K hK =>?_|(refine .aD [0,2] hK ?_;clear hK K)|(with_reducible refine .done (hK _ ?_);clear hK K)|refine ae.of rfl ?_|(with_reducible refine aF.aL (fun h =>?_) (fun h =>?_) <;>try simp only[h])) <;>try simp only[aN,R,simprocAttr])
 all_goals clear R
def iO(r:cL):aI:=⟨pd r.kind,r.aC,r.fC,r.no⟩
def iN(p:aW)(r:cL):aW×Int:=match cK p with
 |none=>(fL,91)
 |some s=>if lT r=false∨r.to≠p.aB then (fL,95) else match eS s (iO r) with
  |none=>(p,0)
  |some _=>gX p (iO r)
theorem G2{ts:List (Nat×I)}{os0:List (Nat×ao)}{s:az}(hno:∀ m,2000≤m→aj os0 m=none):au ts (dq s++os0)=au ts (os0++dq s):=by
 simp only[au,ai.mk.injEq,true_and]
 funext n
 rw[fU,fU];cases U:aj (dq s) n with
 |none=>simp only;cases aj os0 n <;>rfl
 |some y=>rw[hno n (zc (s:=s) (by simp[av,U])).1]
theorem aT.YA{K:ai→Prop}{p:aW}{avs:List I}{a1 a2:Option (List I)}{dst:Option Nat}{rest:List aw}{ts:List (Nat×I)}{os0:List (Nat×ao)}(ho:cK p=none)(hav:avs=[enc p])
  (h:aT Tryd.prog dv false K (aA rest ((au ts os0).aX dst (.tuple [.nilp,.int .i64 91])))):aT Tryd.prog dv false K (.call 24 avs a1 a2 dst rest (au ts os0)):=by
 subst hav;refine .bP false [] [] [enc p] _ rfl (zr p) ⟨fun m x hx=>by simp[aj] at hx,fun m m' hm=>by simp[av,aj] at hm⟩ ⟨.inl ⟨(km _ _).symm,cv _ _,eF _⟩,trivial⟩ ?_ ?_
 ·intro r os' hp;unfold oe at hp;rw[ho] at hp;obtain ⟨rfl,rfl⟩:=hp;exact ⟨fun m y hy=>by simp[aj] at hy,fun m m' hm=>by simp[av,aj] at hm,fun m hm=>hm,fun m hm=>by simp[av,aj] at hm,rfl,fun h=>by cases h⟩
 ·intro r os' hp;unfold oe at hp;rw[ho] at hp;obtain ⟨rfl,rfl⟩:=hp;exact h
theorem aT.u7{K:ai→Prop}{p:aW}{s:az}{avs:List I}{a1 a2:Option (List I)}{dst:Option Nat}{rest:List aw}{ts:List (Nat×I)}{os0:List (Nat×ao)}(ho:cK p=some s)(hav:avs=[enc p])(hno:∀ m,2000≤m→aj os0 m=none)
  (h:aT Tryd.prog dv false K (aA rest ((au ts (os0++dq s)).aX dst (.tuple [.ptr 2000 [],.int .i64 0])))):aT Tryd.prog dv false K (.call 24 avs a1 a2 dst rest (au ts os0)):=by
 subst hav;obtain ⟨hk,_,af,aq,_⟩:=fF ho;refine .bP false [] [] [enc p] _ rfl (zr p) ⟨fun m x hx=>by simp[aj] at hx,fun m m' hm=>by simp[av,aj] at hm⟩ ⟨.inl ⟨(km _ _).symm,cv _ _,eF _⟩,trivial⟩ ?_ ?_
 ·intro r os' hp;unfold oe at hp;rw[ho] at hp;obtain ⟨rfl,rfl⟩:=hp;refine ⟨fun m y hy=>⟨(me hk hy).1,(me hk hy).2,fun h=>by cases h⟩,fun m m' _ _ h=>h,fun m hm=>by simp[av,aj] at hm,fun m hm _ =>?_,?_,fun h=>by cases h⟩
  ·have:=zc hm;exact ⟨hno m this.1,by simp only[bx];omega⟩
  ·have:=(dM (jc s.all.length) (n:=2000)).2 (.inl (by omega));simp[I.only,I.b6,this]
 ·intro r os' hp;unfold oe at hp;rw[ho] at hp;obtain ⟨rfl,rfl⟩:=hp;rw[nh,G2 hno];exact h
theorem aT.G3{K:ai→Prop}{s s2:az}{b:Bool}{x:aI}{avs:List I}{a1 a2:Option (List I)}{dst:Option Nat}{rest:List aw}{ts:List (Nat×I)}{ow:List (Nat×ao)}(hk:cG s)(hlen:s.all.length≤300)(hav:avs=[.ptr 2000 [],enc x])(how:∀ m,2000≤m→aj ow m=none)(hst:ea s x=(s2,b))
  (h:aT Tryd.prog dv false K (aA rest ((au ts (ow++dq s2)).aX dst (.bool b)))):aT Tryd.prog dv false K (.call 44 avs a1 a2 dst rest (au ts (ow++dq s))):=by
 refine aT.tq hk hlen hav how hst ?_;have hso:=tl hk x;rw[hst] at hso;obtain ⟨k1,k2,k3,k4⟩:=hso;have e:au ts (dq s2++(ow++dq s))=au ts (ow++dq s2):=by
  rw[←G2 how];simp only[au,ai.mk.injEq,true_and]
  funext n
  rw[fU (dq s2) (ow++dq s),fU (dq s2) ow,fU ow (dq s)];cases U:aj (dq s2) n with
  |some y=>rfl
  |none =>
   simp only;have:aj (dq s) n=none:=by
    cases ab:aj (dq s) n with
    |none=>rfl
    |some y =>
     exfalso
     have hin:av (dq s) n=true:=by simp[av,ab]
     have:av (dq s2) n=true:=by
      rcases (dM (jc _)).1 hin with h5 | ⟨i,hi,rfl⟩
      ·exact (dM (jc _)).2 (.inl h5)
      ·exact (dM (jc _)).2 (.inr ⟨i,Nat.lt_of_lt_of_le hi k3,rfl⟩)
     simp[av,U] at this
   rw[this];cases aj ow n <;>rfl
 rw[e];exact h
theorem vU(p:aW)(r:cL):bm Tryd.prog 18 [enc p,enc r] (.tuple [enc (iN p r).1,enc (iN p r).2]):=by
 refine bm.cg Tryd.func18 JK KE LD (u8 rfl) (fun hwf W0 bO E1 =>?_);simp only[As,Fe,bQ,zz1];clear hwf;simp only[iN];have how:∀ (a b c:ao) m,2000≤m→aj [(4,a),(3,b),(2,c)] m=none:=fun a b c m hm=>by simp only[aj];rw[if_neg (by omega),if_neg (by omega),if_neg (by omega)]
 have how2:∀ (a b c d e:ao) m,2000≤m→aj [(8,a),(8,b),(4,c),(3,d),(2,e)] m=none:=fun a b c d e m hm=>by simp only[aj];rw[if_neg (by omega),if_neg (by omega),if_neg (by omega),if_neg (by omega),if_neg (by omega)]
 cases ho:cK p with
 |none =>
  have R:=y6 @bE (y6 @bp (y6 @bJ (y6 @bw (y6 @br aK))))
  repeat' ((first |(with_reducible refine .guard (fun hb =>?_) (fun hb =>?_) <;>try simp only[hb])|refine ae.aM (by decide +kernel) rfl fun K hK =>?_|refine aT.YA ho rfl ?_|(refine .aD [0,1,2,3,4,5,6,7,8,14,19,44] hK ?_;clear hK K)|(with_reducible refine .done (hK _ ?_);clear hK K)|refine ae.of rfl ?_|(with_reducible refine aF.aL (fun h =>?_) (fun h =>?_) <;>try simp only[h])) <;>try simp only[aN,R,simprocAttr])
  all_goals clear R
  rfl
 |some s =>
  obtain ⟨hk,hme,af,hjl,_⟩:=fF ho
  dsimp only
  have hR:=HI r;have kA:aj (dq s) 8=none:=eI (.inl (by omega)) fun i _=>by simp only[bF];omega
  rcases q1:lT r
  ·rw[q1] at hR;simp only[true_or,if_true];have R:=y6 @kA (y6 @bE (y6 @bp (y6 @bJ (y6 @bw (y6 @br aK)))))
   repeat' ((first |(with_reducible refine .guard (fun hb =>?_) (fun hb =>?_) <;>try simp only[hb])|refine ae.aM (by decide +kernel) rfl fun K hK =>?_|refine aT.u7 ho rfl (how _ _ _) ?_|refine .flat _ (hR) rfl ?_|(refine .aD [0,1,2,3,4,5,6,7,8,14,19,44] hK ?_;clear hK K)|(with_reducible refine .done (hK _ ?_);clear hK K)|refine ae.of rfl ?_|(with_reducible refine aF.aL (fun h =>?_) (fun h =>?_) <;>try simp only[h])) <;>try simp only[aN,R,zz2,simprocAttr])
   all_goals clear R
   rfl
  rw[q1] at hR;rcases q2:(r.to != p.aB)
  case true =>
   have e:r.to≠p.aB:=by simpa using q2
   simp only[zw6,false_or,if_pos e];have R:=y6 @kA (y6 @q2 (y6 @bE (y6 @bp (y6 @bJ (y6 @bw (y6 @br aK))))))
   repeat' ((first |(with_reducible refine .guard (fun hb =>?_) (fun hb =>?_) <;>try simp only[hb])|refine ae.aM (by decide +kernel) rfl fun K hK =>?_|refine aT.u7 ho rfl (how _ _ _) ?_|refine .flat _ (hR) rfl ?_|(refine .aD [0,1,2,3,4,5,6,7,8,14,19,44] hK ?_;clear hK K)|(with_reducible refine .done (hK _ ?_);clear hK K)|refine ae.of rfl ?_|(with_reducible refine aF.aL (fun h =>?_) (fun h =>?_) <;>try simp only[h])) <;>try simp only[aN,R,zz2,simprocAttr])
   all_goals clear R
   rfl
  have e:¬ r.to≠p.aB:=by simpa using q2
  simp only[zw6,false_or,if_neg e];have hKd:=HJ r.kind;have hst:∀ A rest b,da A (some 4) 8 [] b (enc (iO r)) rest (some (.agg [.int .i64 0,.int .i64 0,.int .i64 0,.int .i64 0]))=aA rest (A.aV 8 (.box (enc (iO r)))):=fun A rest b=>dS (eF _) (by rw[fB];rfl) (fg _);have hbl:(dY [.int .i64 0,.int .i64 0,.int .i64 0,.int .i64 0] [(0,.int .i64 (pd r.kind)),(1,.int .i64 r.aC),(2,.int .i64 r.fC),(3,.int .i64 r.no)]).map I.agg=some (enc (iO r)):=wk _ _ _ _;cases ht:eS s (iO r) with
  |none =>
   have hs:ea s (iO r)=(s,false):=by simp[ea,ht]
   have R:=y6 @kA (y6 @q2 (y6 @hst (y6 @hbl (y6 @bE (y6 @bp (y6 @bJ (y6 @bw (y6 @br aK))))))))
   repeat' ((first |(with_reducible refine .guard (fun hb =>?_) (fun hb =>?_) <;>try simp only[hb])|refine ae.aM (by decide +kernel) rfl fun K hK =>?_|refine aT.u7 ho rfl (how _ _ _) ?_|refine .flat _ (hR) rfl ?_|refine .flat _ (hKd) rfl ?_|refine aT.G3 (ow:=[(8,_),(8,_),(4,_),(3,_),(2,_)]) hk (by omega) rfl (how2 _ _ _ _ _) hs ?_|refine .lead _ (zt p (by omega)) ?_|(refine .aD [0,1,2,3,4,5,6,7,8,14,19,44] hK ?_;clear hK K)|(with_reducible refine .done (hK _ ?_);clear hK K)|refine ae.of rfl ?_|(with_reducible refine aF.aL (fun h =>?_) (fun h =>?_) <;>try simp only[h])) <;>try simp only[aN,R,zz2,simprocAttr])
   all_goals clear R
  |some s2 =>
   have hs:ea s (iO r)=(s2,true):=by simp[ea,ht]
   have hW:=ry p (iO r) hjl;have R:=y6 @kA (y6 @q2 (y6 @hst (y6 @hbl (y6 @bE (y6 @bp (y6 @bJ (y6 @bw (y6 @br aK))))))))
   repeat' ((first |(with_reducible refine .guard (fun hb =>?_) (fun hb =>?_) <;>try simp only[hb])|refine ae.aM (by decide +kernel) rfl fun K hK =>?_|refine aT.u7 ho rfl (how _ _ _) ?_|refine .flat _ (hR) rfl ?_|refine .flat _ (hKd) rfl ?_|refine aT.G3 (ow:=[(8,_),(8,_),(4,_),(3,_),(2,_)]) hk (by omega) rfl (how2 _ _ _ _ _) hs ?_|refine .lead _ (hW) ?_|(refine .aD [0,1,2,3,4,5,6,7,8,14,19,44] hK ?_;clear hK K)|(with_reducible refine .done (hK _ ?_);clear hK K)|refine ae.of rfl ?_|(with_reducible refine aF.aL (fun h =>?_) (fun h =>?_) <;>try simp only[h])) <;>try simp only[aN,R,zz2,simprocAttr])
   all_goals clear R
end Go.Proofs.YthbdbocionnfgaaDoor
namespace Go.Proofs.YthbdbocionnfgaaDoor
open Go Go.Abs Go.Shelf
open Go.Abs.Enc (enc)
def W7:Go.Shelf.Ren:=⟨fun | 189=>52 | 125=>63 | 257=>62 | 128=>82 | 129=>83 | 294=>73 | 295=>74 | 296=>75 | 297=>76 | 298=>77 | 299=>78 | 216=>79 | 300=>80 | 301=>81 | 328=>87 | 329=>88 | 330=>89 | 331=>90 | 332=>91 | 215=>92 | 343=>97 | n=>n,fun | 28=>25 | 3=>3 | 46=>120 | 0=>0 | 51=>131 | 53=>133 | 4=>4 | 183=>123 | 182=>122 | 131=>128 | 5=>5 | 9=>9 | 218=>136 | 222=>140 | 228=>147 | 229=>148 | n=>n,fun | n=>n⟩
theorem DK:Go.Proofs.Lays.n189 Tryd.prog W7 := {
 mixed:=by kernel_rfl
 f125:=Tryd.func63.trans (congrArg some (by kernel_rfl))
 f128:=Tryd.func82.trans (congrArg some (by kernel_rfl))
 f129:=Tryd.func83.trans (congrArg some (by kernel_rfl))
 f189:=Tryd.func52.trans (congrArg some (by kernel_rfl))
 f215:=Tryd.func92.trans (congrArg some (by kernel_rfl))
 f216:=Tryd.func79.trans (congrArg some (by kernel_rfl))
 f257:=Tryd.func62.trans (congrArg some (by kernel_rfl))
 f294:=Tryd.func73.trans (congrArg some (by kernel_rfl))
 f295:=Tryd.func74.trans (congrArg some (by kernel_rfl))
 f296:=Tryd.func75.trans (congrArg some (by kernel_rfl))
 f297:=Tryd.func76.trans (congrArg some (by kernel_rfl))
 f298:=Tryd.func77.trans (congrArg some (by kernel_rfl))
 f299:=Tryd.func78.trans (congrArg some (by kernel_rfl))
 f300:=Tryd.func80.trans (congrArg some (by kernel_rfl))
 f301:=Tryd.func81.trans (congrArg some (by kernel_rfl))
 f328:=Tryd.func87.trans (congrArg some (by kernel_rfl))
 f329:=Tryd.func88.trans (congrArg some (by kernel_rfl))
 f330:=Tryd.func89.trans (congrArg some (by kernel_rfl))
 f331:=Tryd.func90.trans (congrArg some (by kernel_rfl))
 f332:=Tryd.func91.trans (congrArg some (by kernel_rfl))
 f343:=Tryd.func97.trans (congrArg some (by kernel_rfl))
 t0:=Tryd.underlying0
 a0:=Tryd.isAgg0
 z0:=Tryd.sizeOf0
 v0:=Tryd.zeroValue0
 t3:=Tryd.underlying3
 a3:=Tryd.isAgg3
 z3:=Tryd.sizeOf3
 v3:=Tryd.zeroValue3
 t4:=Tryd.underlying4
 a4:=Tryd.isAgg4
 z4:=Tryd.sizeOf4
 v4:=Tryd.zeroValue4
 t5:=Tryd.underlying5
 a5:=Tryd.isAgg5
 z5:=Tryd.sizeOf5
 v5:=Tryd.zeroValue5
 t9:=Tryd.underlying9
 a9:=Tryd.isAgg9
 z9:=Tryd.sizeOf9
 v9:=Tryd.zeroValue9
 t28:=Tryd.underlying25
 a28:=Tryd.isAgg25
 z28:=Tryd.sizeOf25
 v28:=Tryd.zeroValue25
 t46:=Tryd.underlying120
 a46:=Tryd.isAgg120
 z46:=Tryd.sizeOf120
 v46:=Tryd.zeroValue120
 t51:=Tryd.underlying131
 a51:=Tryd.isAgg131
 z51:=Tryd.sizeOf131
 v51:=Tryd.zeroValue131
 t53:=Tryd.underlying133
 a53:=Tryd.isAgg133
 z53:=Tryd.sizeOf133
 v53:=Tryd.zeroValue133
 t131:=Tryd.underlying128
 a131:=Tryd.isAgg128
 z131:=Tryd.sizeOf128
 v131:=Tryd.zeroValue128
 t182:=Tryd.underlying122
 a182:=Tryd.isAgg122
 z182:=Tryd.sizeOf122
 v182:=Tryd.zeroValue122
 t183:=Tryd.underlying123
 a183:=Tryd.isAgg123
 z183:=Tryd.sizeOf123
 v183:=Tryd.zeroValue123
 t218:=Tryd.underlying136
 a218:=Tryd.isAgg136
 z218:=Tryd.sizeOf136
 v218:=Tryd.zeroValue136
 t222:=Tryd.underlying140
 a222:=Tryd.isAgg140
 z222:=Tryd.sizeOf140
 v222:=Tryd.zeroValue140
 t228:=Tryd.underlying147
 a228:=Tryd.isAgg147
 z228:=Tryd.sizeOf147
 v228:=Tryd.zeroValue147
 t229:=Tryd.underlying148
 a229:=Tryd.isAgg148
 z229:=Tryd.sizeOf148
 v229:=Tryd.zeroValue148 }
def kK(k:Nat)(ws:List Int):List (Nat×ao):=[(k,.box (.agg (ws.map enc)))]
theorem D7(p:Nat→Bool)(l:List Int):(I.agg (l.map enc)).only p=true:=by simp only[I.only];exact eN p l
def ZF(ws:List Int):cA:=fun r os'=>r=.tuple []∧os'=kK 1000000 ws
def bY(xs:List Int):List Int:=xs.mergeSort fun x y=>decide (x≤y)
theorem F7{w:World}{D:aU}{E:bf} : ∀ {xs:List Int} {cs:List Value},aP w D E (xs.map enc) cs→cs=xs.map (Value.int .i64)∧∀ x∈xs,IntKind.i64.min≤x∧x≤IntKind.i64.max
 | [],cs,h=>by
  simp only[zx6,aP] at h;subst h;exact ⟨rfl,by simp⟩
 |x::xs,cs,h=>by
  simp only[zz4,aP] at h;obtain ⟨c1,c2,rfl,U,ab⟩:=h;obtain ⟨rfl,af⟩:=F7 ab;have h1':c1=[.int .i64 x]∧IntKind.i64.min≤x∧x≤IntKind.i64.max:=U;obtain ⟨rfl,aq⟩:=h1';refine ⟨rfl,fun y hy =>?_⟩;rcases zw9.1 hy with rfl | hy
  ·exact aq
  ·exact af y hy
theorem sV{w:World}{D:aU}{E:bf} : ∀ {xs:List Int},(∀ x∈xs,IntKind.i64.min≤x∧x≤IntKind.i64.max)→aP w D E (xs.map enc) (xs.map (Value.int .i64))
 | [],_=>rfl
 |x::xs,h=>⟨[.int .i64 x],xs.map (Value.int .i64),rfl,⟨rfl,h x (by simp)⟩,sV fun y hy=>h y (by simp[hy])⟩
theorem tf(xs:List Int):(I.agg (xs.map enc)).bd=.eK (List.replicate xs.length .one):=by
 show cS.eK (I.cV _)=_
 congr 1
 induction xs with
 |nil=>rfl
 |cons x xs ih=>simp only[zz4,I.cV,ih,zv1,List.replicate_succ];rfl
theorem Y2{xs ys q:List Int}(hl:ys.length=xs.length){cs:Array Value}(hc:cs.toList=(xs++q).map (Value.int .i64)):(Sort.putCells (Value.int .i64) 0 ys.toArray cs).toList=(ys++q).map (Value.int .i64):=by
 apply List.ext_getElem?;intro k;have U:cs[k]?=((xs++q).map (Value.int .i64))[k]?:=by rw[←hc,zw3]
 rw[zw3,Sort.putCells,Array.getElem?_mapIdx,U];simp only[zx4,List.size_toArray,zw4,true_and,zz1,Nat.sub_zero];by_cases hk:k<ys.length
 ·simp only[hk,if_true];rw[zy6 (by omega),zy6 hk,zx0 (by omega),zx0 hk];simp[hk]
 ·simp only[hk,if_false];rw[zw5 (by omega),zw5 (by omega),hl];cases (q[k-xs.length]?) <;>rfl
open Go.Sort Go.RowKit in
theorem HS(xs q:List Int)(hn:xs.length≤1000):cQ Tryd.prog 52 [.view 1000000 [] 1 0 xs.length] (kK 1000000 (xs++q)) (ZF (bY xs++q)):=by
 refine ⟨Bg,fun w D E vs _ hD hO hv =>?_⟩;have ho:=hO.bP 1000000;simp only[kK,aj,if_true] at ho;obtain ⟨b,cs,T,ay,-,hb,hr,hnD⟩:=ho;have hEn:∀ n,n≠1000000→E n=none:=fun n hn=>by
  have:=hO.bP n;simpa only[kK,aj,if_neg hn,cN] using this
 simp only[aG] at hv;obtain ⟨v,rest,cs',rfl,hp,hr',rfl⟩:=hv;obtain ⟨b',bd,off,l,hE',hoff,hpart,rfl,hl1,hl2,hl3⟩:=hr';rw[ay] at hE';simp only[v6,bM.aJ.injEq] at hE';obtain ⟨rfl,rfl⟩:=hE';have hoff':off=0:=by
  have:(some 0:Option Nat)=some off:=by rw[←hoff];rw[tf];rfl
  injection this with this;exact this.symm
 subst hoff';have hp':v=.slice (some ⟨b,0,none⟩) xs.length (l.length-0):=by
  have:[Value.slice (some ⟨b,0+0*1,none⟩) xs.length (l.length-0)]=[v]:=hp;simpa using this.symm
 subst hp';obtain ⟨hcs,hrg⟩:=F7 hr;have hbs:b<w.heap.size:=(zy7.1 hb).1;have hH:Holds (Value.int .i64) w b 0 xs.toArray:=fun j hj=>by
  simp only[List.size_toArray] at hj;constructor
  ·simp only[World.cell?,hb,Option.isSome_none,zz3,if_false,zz1];rw[←zw3,hcs];rw[zy8,zy6 (by simpa using hj)];simp[hj]
  ·simp[World.frozen?,hb]
 have hlen:(bY xs).length=xs.length:=by simp[bY]
 refine (Any.slices_Sort_int DK b 0 (l.length-0) xs w hH hbs (by omega)).mono ?_;rintro e w' ⟨rfl,n,os,rfl⟩;have hb1:(putRow (Value.int .i64) (Sort.ahead w n) b 0 (bY xs).toArray).heap[b]?=some (.cells (putCells (Value.int .i64) 0 (bY xs).toArray cs) T (0,0)):=by
  simp[putRow,mapBlock,Sort.ahead,Array.getElem?_modify,hb,onCells]
 have hother:∀ k,k<w.heap.size→k≠b→(grow (putRow (Value.int .i64) (Sort.ahead w n) b 0 (bY xs).toArray) os).heap[k]?=w.heap[k]?:=fun k hk hkb=>by
  rw[heap_grow_old _ _ (by simpa[Sort.ahead] using hk)];simp[putRow,mapBlock,Sort.ahead,Array.getElem?_modify,Ne.symm hkb]
 have hb2:(grow (putRow (Value.int .i64) (Sort.ahead w n) b 0 (bY xs).toArray) os).heap[b]?=some (.cells (putCells (Value.int .i64) 0 (bY xs).toArray cs) T (0,0)):=by
  rw[heap_grow_old _ _ (by simpa[Sort.ahead] using hbs)];exact hb1
 have hsz:w.heap.size≤(grow (putRow (Value.int .i64) (Sort.ahead w n) b 0 (bY xs).toArray) os).heap.size:=by simp[Sort.ahead]
 have hshow:(grow (putRow (Value.int .i64) (Sort.ahead w n) b 0 (xs.mergeSort fun x y=>decide (x≤y)).toArray) os)=(grow (putRow (Value.int .i64) (Sort.ahead w n) b 0 (bY xs).toArray) os):=rfl;rw[hshow];have hw1:(grow (putRow (Value.int .i64) (Sort.ahead w n) b 0 (bY xs).toArray) os).os=w.os:=rfl;have hw2:(grow (putRow (Value.int .i64) (Sort.ahead w n) b 0 (bY xs).toArray) os).tape=w.tape:=rfl;have hw3:(grow (putRow (Value.int .i64) (Sort.ahead w n) b 0 (bY xs).toArray) os).output=w.output:=rfl;revert hother hb2 hsz hw1 hw2 hw3;generalize grow (putRow (Value.int .i64) (Sort.ahead w n) b 0 (bY xs).toArray) os=w2;intro hother hb2 hsz hw1 hw2 hw3;have hmem:∀ x∈bY xs++q,IntKind.i64.min≤x∧x≤IntKind.i64.max:=fun x hx=>hrg x (by
  rcases zy4.1 hx with h | h
  ·exact List.mem_append_left _ (by simpa[bY] using h)
  ·exact List.mem_append_right _ h)
 refine ⟨.tuple #[],D,E,.tuple [],kK 1000000 (bY xs++q),rfl,⟨rfl,rfl⟩,⟨[],rfl,rfl⟩,⟨fun m =>?_,hO.cO⟩,⟨hw1,hw2,hw3,hsz,fun k hk =>?_⟩,fun _ _ h=>h,fun b0 o h=>Nat.lt_of_lt_of_le (hD b0 o h) hsz,fun _ _ h _ _=>h,fun m e h _=>⟨e,h,bM.le.refl e⟩,⟨fun b0 o u ah hc =>?_,fun b0 es ck ah hc =>?_⟩⟩
 ·by_cases hm:m=1000000
  ·subst hm;simp only[kK,aj,if_true];refine ⟨b,_,T,?_,.inr ⟨1000000,_,ay,rfl⟩,hb2,?_,hnD⟩
   ·rw[ay,tf,tf,zz6,zz6,hlen]
   ·show aP w2 D E _ _
    rw[Y2 hlen hcs];exact sV hmem
  ·simp only[kK,aj,if_neg hm,cN];exact hEn m hm
 ·by_cases hk2:k<w.heap.size
  ·exact hother k hk2 fun e=>hk (.inr ⟨1000000,_,ay,by rw[e];rfl⟩)
  ·exact absurd (.inl (Nat.le_of_not_lt hk2)) hk
 ·have hne:b0≠b:=fun e=>hnD o (e▸ah);simp only[World.cell?,hother b0 (hD b0 o ah) hne] at hc ⊢;exact hc
 ·have hne:b0≠b:=fun e=>hnD 0 (e▸ah);rw[hother b0 (hD b0 0 ah) hne];exact hc
theorem HT(v:I)(hv0:v=.nils 1∨v=enc ([]:List Int)):bm Tryd.prog 52 [v] (.tuple []):=by
 refine ⟨Bg,fun w D vs _ hD hv =>?_⟩;simp only[aG] at hv;obtain ⟨u,rest,cs',rfl,hp,hr',rfl⟩:=hv;have hu:∃ a cap,u=.slice a 0 cap:=by
  rcases hv0 with rfl | rfl
  ·have U:cs'=[.slice none 0 0]:=hr';have ab:cs'=[u]:=hp;rw[U] at ab;exact ⟨none,0,by simpa using ab.symm⟩
  ·obtain ⟨a,cap,U,_⟩:=hr';have ab:cs'=[u]:=hp;rw[U] at ab;exact ⟨a,cap,by simpa using ab.symm⟩
 obtain ⟨a,cap,rfl⟩:=hu;refine (Any.slices_Sort_int_none DK a cap w).mono ?_;rintro e w' ⟨rfl,rfl⟩;exact ⟨.tuple #[],D,rfl,⟨[],rfl,rfl⟩,⟨rfl,rfl,rfl,zz5 _,fun _ _=>rfl⟩,hD,fun _ _ h _=>h⟩
end Go.Proofs.YthbdbocionnfgaaDoor
namespace Go.Proofs.YthbdbocionnfgaaDoor
open Go Go.Abs
open Go.Abs.Enc (enc)
theorem Ck(n:Nat)(ts:List (Nat×I)):∀ t,Abs.bI (kS [n] ts) t=if (Abs.bI ts t).only (fun j => ![n].contains j)=true then Abs.bI ts t else .du:=by
 intro t;simp only[kS]
 induction ts with
 |nil=>simp[Abs.bI]
 |cons q ts ih =>
  obtain ⟨k,v⟩:=q;simp only[zz4,Abs.bI];split
  ·rfl
  ·exact ih
theorem vQ{p q:Nat→Bool}(h:∀ n,p n=true→q n=true){y:ao}(hy:y.only p=true):y.only q=true:=by
 cases y with
 |box x=>exact jh h _ hy
 |bU T sz es=>exact iT h _ hy
 |dC o=>rfl
 |dD T xs=>rfl
 |bA ks vs=>simp only[ao.only,t8] at hy ⊢;exact ⟨iT h _ hy.1,iT h _ hy.2⟩
 |it ks vs l c=>simp only[ao.only,t8] at hy ⊢;exact ⟨iT h _ hy.1,iT h _ hy.2⟩
theorem Ez{n k:Nat} : ∀ {ts:List (Nat×I)},(∀ q∈ts,sJ n k q.2)→∀ t,sJ n k (Abs.bI ts t)
 | [],_,_=>.inr rfl
 |(a,v)::ts,h,t=>by
  simp only[Abs.bI];split
  ·exact h (a,v) (by simp)
  ·exact Ez (fun q hq=>h q (by simp[hq])) t
theorem u5{p:Nat→Bool}{n k:Nat}(hp:p=fun j => ![n].contains j)(f:ao→ao)(hf:∀ y:ao,y.only p=true→f y=y):∀ {os:List (Nat×ao)},cB p (ef [n] os)→cB p (ef [n] (os.map fun q=>(q.1,f q.2)))
 | [],_=>trivial
 |(m,y)::os,h=>by
  simp only[zz4,ef,zw0] at h ⊢;split
  ·rename_i hm;rw[if_pos hm] at h;refine ⟨?_,u5 (k:=k) hp f hf h.2⟩;rw[hf y h.1];exact h.1
  ·rename_i hm;rw[if_neg hm] at h;exact u5 (k:=k) hp f hf h
theorem Of{ys q:List Int}{k:Nat}(hk:ys.length=k):jT 1 0 k (some ((ys++q).map enc))=some (enc ys):=by
 have h:(((ys++q).map (enc (α:=Int))).drop 0).take k=ys.map enc:=by
  rw[List.drop_zero,zy8,List.take_append_of_le_length (by simp[hk]),List.take_of_length_le (by simp[hk])]
 simp only[jT,h];rw[if_pos (iJ ys),iy];rfl
theorem G0{n k:Nat} : ∀ y:ao,y.only (fun j => ![n].contains j)=true→kd (ju n k) y=y:=fun y hy=>by
 cases y <;>try rfl
 simp only[ao.only] at hy;simp only[kd,vH (jh (fun j hj=>by simpa using hj) _ hy)]
theorem GY{n:Nat} : ∀ y:ao,y.only (fun j => ![n].contains j)=true→kd (jt n) y=y:=fun y hy=>by
 cases y <;>try rfl
 simp only[ao.only] at hy;simp only[kd,GZ (jh (fun j hj=>by simpa using hj) _ hy)]
theorem GX{ts ts':List (Nat×I)}(h:∀ q∈ts',Abs.bI ts q.1=q.2):cn ts ts':=by
 induction ts' with
 |nil=>trivial
 |cons q ts' ih=>exact ⟨h q (by simp),ih fun q hq=>h q (by simp[hq])⟩
theorem ae.Z1{W0:World}{bO:aU}{nn:Nat}{ow:Nat→Prop}{E1:bf}{Y:Value→List I→List (Nat×ao)→cA→Prop}{l4:Option Nat}{ba:Option (List Deferred)}{y:bD}{Q:Exit→ai→Prop}{ts:List (Nat×I)}{os:List (Nat×ao)}{a b d n:Nat}{xs:List Int}
  (ah:Abs.bI ts d=.own n xs.length) (hn:aj os n=some (.dD 3 xs)) (hlt:n<1000000) (hl:xs.length≤1000) (ht:∀ t,sJ n xs.length (Abs.bI ts t)) (ho:cB (fun j => ![n].contains j) (ef [n] os))
  (ts':List (Nat×I)) (U:∀ q∈ts',q.1≠a∧q.1≠b∧Abs.bI ts q.1=q.2∧q.2.only (fun j=>j != n)=true)
  (hda:d≠a) (hdb:d≠b)
  (h:ae ⟨Tryd.prog,W0,bO,nn,ow,E1,Y,l4,ba⟩ y Q (au ((d,enc (bY xs))::ts') (ef [n] os))) :
  ae ⟨Tryd.prog,W0,bO,nn,ow,E1,Y,l4,ba⟩ (.seq (.cm none [⟨some a,.mv (.t d),none⟩,⟨some b,.call 52 [.t a],none⟩]) y) Q (au ts os):=by
 have hdrop:∀ m,aj (ef [n] os) m=if m=n then none else aj os m:=fun m=>by
  have:=pg [n] os m;simpa using this
 have ho':∀ m y,aj os m=some y→m≠n→y.only (fun j=>j != n)=true:=fun m y hy hm=>by
  have:=yk ho m y (by rw[hdrop,if_neg hm];exact hy);exact vQ (fun j hj=>by simpa using hj) this
 by_cases hx:xs=[]
 ·subst hx;refine ae.sub (bt.aat hn (bt.refl _)) ?_;refine ae.seq (ae.cm (cl:=[]) (by rfl) fun K hK =>?_);have hd':Abs.bI (ts.map fun q=>(q.1,jt n q.2)) d=.nils 1:=by
   rw[qN _ rfl,ah];simp[jt]
  simp only[bK,simprocAttr,hd'];refine .flat _ (HT _ (.inr rfl)) rfl ?_
  try simp only[bK,simprocAttr]
  refine .done (hK _ ?_);clear hK K;refine ae.sub ((bt.jz [n] d (x:=.nils 1) (y:=enc ([]:List Int)) ?_ (by rfl) ?_).trans (bt.slots ?_ fun m =>?_)) h
  ·simp only[Abs.bI,hda,hdb,if_false];exact hd'
  ·exact u5 (k:=0) rfl (kd (jt n)) GY ho
  ·refine ⟨by simp[Abs.bI,bY],GX fun q hq =>?_⟩;obtain ⟨k1,k2,k3,k4⟩:=U q hq;have hqd:q.1≠d:=fun e=>by
    rw[e,ah] at k3;rw[←k3] at k4;simp[I.only] at k4
   have h5:Abs.bI (ts.map fun p=>(p.1,jt n p.2)) q.1=q.2:=by
    rw[qN _ rfl,k3,GZ k4]
   simp only[Abs.bI,Ck,k1,k2,hqd,if_false,h5];rw[if_pos (jh (fun j hj=>by simpa using hj) _ k4)]
  ·rw[hdrop,pg,uN];by_cases hm:m=n
   ·simp[hm]
   ·cases h6:aj os m with
    |none=>simp[hm]
    |some y =>
     have h7:kd (jt n) y=y:=GY _ (vQ (fun j hj=>by simpa using hj) (ho' _ _ h6 hm));simp[hm,h7]
 ·refine ae.aas hn hx hlt ht (fun m y hy hm=>.inr (ho' m y hy hm)) fun q =>?_;refine ae.seq (ae.cm (cl:=[]) (by rfl) fun K hK =>?_);have hd':Abs.bI (ts.map fun p=>(p.1,ju n xs.length p.2)) d=.view n [] 1 0 xs.length:=by
   rw[qN _ rfl,ah];simp[ju]
  simp only[bK,simprocAttr,hd'];refine .bP false [(1000000,n)] (kK 1000000 (xs++List.replicate q 0)) [.view 1000000 [] 1 0 xs.length] _ rfl (HS xs _ (by omega)) ?_ ?_ ?_ ?_
  ·refine ⟨fun m y hy =>?_,fun m m' h h' _=>by rw[hU.1 h,hU.1 h']⟩;simp only[kK,aj] at hy;split at hy
   ·rename_i hm;cases hy;subst hm;exact ⟨by simp only[bx,if_true,aj,ao.a8,I.a8,pE],D7 _ _,rfl⟩
   ·cases hy
  ·exact ⟨.inl ⟨by simp[I.a8,bx],hU.2 rfl,rfl⟩,trivial⟩
  ·rintro rr os2 ⟨rfl,rfl⟩;refine ⟨fun m y hy =>?_,fun m m' h h' _=>by rw[hU.1 h,hU.1 h'],fun m hm=>by rw[hU.1 hm];exact hU.2 rfl,fun m a b=>by rw[hU.1 a] at b;simp[kK,av,aj] at b,rfl,fun _=>rfl⟩;simp only[kK,aj] at hy;split at hy
   ·cases hy;exact ⟨D7 _ _,rfl,fun h=>by cases h⟩
   ·cases hy
  ·rintro rr os2 ⟨rfl,rfl⟩
   try simp only[kK,df,zz4,zx6,ao.a8,I.a8,pE,bx,reduceIte,zz2,zx3,I.dm,bK,simprocAttr]
   refine .done (hK _ ?_);clear hK K;refine ae.sub ((bt.jz [n] d (x:=.view n [] 1 0 xs.length) (y:=enc (bY xs)) ?_ ?_ ?_).trans (bt.slots ?_ fun m =>?_)) h
   ·simp only[Abs.bI,hda,hdb,if_false];exact hd'
   ·have:aj (lQ [n] ((n,ao.box (I.agg ((bY xs++List.replicate q 0).map enc)))::(n,ao.box (I.agg ((xs++List.replicate q 0).map enc)))::os.map fun p=>(p.1,kd (ju n xs.length) p.2))) n=some (.box (.agg ((bY xs++List.replicate q 0).map enc))):=by
     rw[qK];simp[aj]
    try simp only[this,bK,simprocAttr]
    exact Of (by simp[bY])
   ·have:=u5 (k:=0) rfl (kd (ju n xs.length)) G0 ho;simpa[ef] using this
   ·refine ⟨by simp[Abs.bI],GX fun q hq =>?_⟩;obtain ⟨k1,k2,k3,k4⟩:=U q hq;have hqd:q.1≠d:=fun e=>by
     rw[e,ah] at k3;rw[←k3] at k4;simp[I.only] at k4
    have h5:Abs.bI (ts.map fun p=>(p.1,ju n xs.length p.2)) q.1=q.2:=by
     rw[qN _ rfl,k3,vH k4]
    simp only[Abs.bI,Ck,k1,k2,hqd,if_false,h5];rw[if_pos (jh (fun j hj=>by simpa using hj) _ k4)]
   ·rw[hdrop,pg];by_cases hm:m=n
    ·simp[hm]
    ·simp only[aj,if_neg hm,uN];cases h6:aj os m with
     |none=>simp[hm]
     |some y =>
      have h7:kd (ju n xs.length) y=y:=G0 _ (vQ (fun j hj=>by simpa using hj) (ho' _ _ h6 hm));simp[hm,h7]
def jj(ks:List Int)(aD:List Nat):List Int:=aD.map fun i=>ks.getD i 0
theorem YL(ks:List Int)(aD:List Nat)(i:Nat):jj ks (aD++[i])=jj ks aD++[ks.getD i 0]:=by simp[jj]
theorem YK(ks:List Int)(aD:List Nat):(jj ks aD).length=aD.length:=by simp[jj]
theorem YJ{ks:List Int}{aD:List Nat}(h:aD.Perm (List.range ks.length)):(jj ks aD).Perm ks:=by
 have e:(List.range ks.length).map (fun i=>ks.getD i 0)=ks:=by
  refine List.ext_getElem (by simp) fun i U ab =>?_;simp[zz0,ab]
 simp only[jj];have:=h.map fun i=>ks.getD i 0
 rwa [e] at this
theorem Z0{xs ys:List Int}(h:xs.Perm ys):bY xs=bY ys:=by
 unfold bY;have hx:=List.pairwise_mergeSort (le:=fun x y:Int=>decide (x≤y)) (by intro a b c;simp;omega) (by intro a b;simp;omega) xs;have hy:=List.pairwise_mergeSort (le:=fun x y:Int=>decide (x≤y)) (by intro a b c;simp;omega) (by intro a b;simp;omega) ys;refine List.Perm.eq_of_pairwise (fun a b _ _ h k =>?_) hx hy ((List.mergeSort_perm _ _).trans (h.trans (List.mergeSort_perm _ _).symm));simp only[decide_eq_true_eq] at h k;omega
theorem EE(p:Nat→Bool)(f:Nat→dI):∀ l:List Nat,I.b6 p (l.map fun i=>.ref (enc (f i)))=true
 | []=>rfl
 |i::l=>by simp[I.b6,I.only,cv,EE p f l]
def zL(s:az)(t:List Nat×List Nat×Option Nat):ai :=
 au [(3,.own 905 (jj s.bu t.1).length),(9,.dp 9)] [(9,.it (s.bu.map enc) (s.aQ.map fun i=>.ref (enc (s.bh i))) t.2.1 t.2.2),(905,.dD 3 (jj s.bu t.1))]
theorem vV(s:az)(hl:s.aQ.length≤1000):bm Tryd.prog 25 [c7 s] (enc (bY s.bu)):=by
 refine bm.cg Tryd.func25 JQ KK LK (u8 rfl) (fun hwf W0 bO E1 =>?_);simp only[Az,Fk,bQ];clear hwf;have hlen:s.bu.length=s.aQ.length:=by simp[az.bu]
 refine .gy (by decide +kernel) fun K hK =>?_;simp only[CL,bK,simprocAttr];refine .done (hK _ ?_);clear hK K;refine .gy (by decide +kernel) fun K hK =>?_;simp only[CM,bK,simprocAttr];refine .done (hK _ ?_);clear hK K;refine ae.seq (ae.seq ?_);refine .kI (by decide +kernel) fun K hK =>?_;simp only[CN,bK,simprocAttr]
 try simp only[dh,j8,br,n7,bK,simprocAttr]
 refine .done (hK _ ?_);clear hK K;try simp only[eb]
 refine ae.block (ae.loop (zL s) (fun t=>(t.1++t.2.1).Perm (List.range s.bu.length)) (fun t=>t.2.1.length) ([],List.range s.bu.length,none) (by simp) ?_ ?_)
 ·refine bt.IC 3 905 3 1 rfl rfl ?_;refine bt.slots ?_ (fun n =>?_)
  ·simp[cn,cw,jj]
  ·simp only[jj,zx6,cW,sw,zz7,hlen]
   (repeat' split) <;>simp_all
 rintro ⟨aD,left,cur⟩ hC;simp only at hC;have hdl:aD.length+left.length=s.bu.length:=by simpa using hC.length_eq
 have hpl:=YK s.bu aD;simp only[zL];by_cases hn:left=[]
 ·subst hn;refine .gy (by decide +kernel) fun K hK =>?_;simp only[xr,bK,simprocAttr]
  try simp only[n7,Es,bK,simprocAttr]
  refine .done (hK _ ?_);clear hK K;refine ae.seq ?_;refine ae.jW ?_;simp only[aF,bK,simprocAttr];refine ⟨fun h =>?_,fun h =>?_⟩
  case refine_1=>cases h
  refine ae.exit ?_;try simp only[eb,jL,simprocAttr]
  have hdn:(jj s.bu aD).Perm s.bu:=YJ (by simpa using hC);rw[←Z0 hdn];generalize jj s.bu aD=xs at hpl;refine ae.Z1 (a:=18) (b:=19) (d:=3) (n:=905) (xs:=xs) rfl rfl (by decide) (by omega) (Ez (by simp[sJ,I.only,I.b6])) (by simp only[ef,zw0,List.filter_nil,List.contains_cons];simp[cB,ao.only,eN,EE,-List.map_map]) [] (by simp) (by decide) (by decide) ?_;have R:=aK
  repeat' ((first |(with_reducible refine .guard (fun hb =>?_) (fun hb =>?_) <;>try simp only[hb])|refine ae.aM (by decide +kernel) rfl fun K hK =>?_|(refine .aD [0,2,3,4,9,11] hK ?_;clear hK K)|(with_reducible refine .done (hK _ ?_);clear hK K)|refine ae.of rfl ?_|(with_reducible refine aF.aL (fun h =>?_) (fun h =>?_) <;>try simp only[h])) <;>try simp only[aN,R,simprocAttr])
  all_goals clear R
 ·refine .gy (by decide +kernel) fun K hK =>?_;simp only[xr,bK,simprocAttr]
  try simp only[n7,bK,simprocAttr]
  refine aT.iR hn fun i hi =>?_;have hib:i<s.bu.length:=zy9.1 (hC.mem_iff.1 (by simp[hi]));have hib2:i<s.aQ.length:=by omega
  obtain ⟨hm,hC2⟩:=DR hC hi;have hk1:(s.bu.map (enc (α:=Int)))[i]?=some (enc s.bu[i]):=by simp[hib]
  have hk2:(s.aQ.map fun i=>I.ref (enc (s.bh i)))[i]?=some (.ref (enc (s.bh s.aQ[i]))):=by simp[hib2]
  refine ⟨_,_,hk1,hk2,?_⟩;have hent:nU (s.bu.map enc) (s.aQ.map fun i=>I.ref (enc (s.bh i))) (some i)=some (.tuple [enc s.bu[i],.ref (enc (s.bh s.aQ[i]))]):=by
   simp only[nU,hk1,hk2]
  have hx:s.bu.getD i 0=s.bu[i]:=by simp[zz0,hib]
  have hsn:=YL s.bu aD i;rw[hx] at hsn;have hbs:fV 1 (some [.int .i64 s.bu[i]])=some (enc [s.bu[i]]):=kO 1 s.bu[i] rfl;have hap:=fun (A:ai) d rest=>IN (A:=A) (d:=d) (e:=3) (bytes:=8) (n:=905) (l:=(jj s.bu aD).length) (xs:=jj s.bu aD) (y:=s.bu[i]) (rest:=rest) rfl (by simp[maxLen];omega) (by omega)
  try simp only[bK,simprocAttr]
  refine .done (hK _ ?_);clear hK K;refine ae.seq ?_;refine ae.jW ?_;simp only[aF,bK,simprocAttr];refine ⟨fun h =>?_,fun h =>?_⟩
  case refine_2=>cases h
  refine ae.skip ?_;try simp only[eb,simprocAttr]
  refine ae.block ?_;have R:=y6 @hent (y6 @hbs (y6 @hap aK))
  repeat' ((first |(with_reducible refine .guard (fun hb =>?_) (fun hb =>?_) <;>try simp only[hb])|refine ae.aM (by decide +kernel) rfl fun K hK =>?_|(refine .aD [0,2,3,4,9,11] hK ?_;clear hK K)|(with_reducible refine .done (hK _ ?_);clear hK K)|refine ae.of rfl ?_|(with_reducible refine aF.aL (fun h =>?_) (fun h =>?_) <;>try simp only[h])) <;>try simp only[aN,R,simprocAttr])
  all_goals clear R
  refine ⟨(aD++[i],left.filter (· != i),some i),hC2,hm,?_⟩;simp only[hsn];refine bt.slots ?_ (fun n =>?_)
  ·simp[cn,cw]
  ·simp only[cW,sw];(repeat' split) <;>simp_all
theorem ZB:(∀ A d rest l,vx A d rest (kn l)=aA rest ((A.aV d (.it (l.map enc) (List.replicate l.length (.bool true)) (List.range (l.map (enc (α:=Int))).length) none)).put d (.dp d))):=fun _ _ _ _=>rfl
end Go.Proofs.YthbdbocionnfgaaDoor
