/-
  A part of the proof that the law MarchEnds returns true for every input; three tables of Go's library start as the text lays them (the card ties them); conditions: none beyond the statement's own. (part 4 of 7)
-/
import Derived.WalkKit
import Derived.Tactics
import Derived.Tactics2
import Derived.RecoverIn
import Derived.Shelf.Sort.Plain
import Derived.Shelf.Slices.In.SortNone
import Derived.Test.YthbdbocionnfgaaDoorNbc
set_option linter.unusedSimpArgs false
set_option linter.unusedVariables false
set_option maxHeartbeats 16000000
set_option maxRecDepth 100000
namespace Go.Abs
open Go Go.RowKit Go.ChangeShapes
open Enc (enc)
def AA(P:Program)(u:TypeId)(n:Nat)(S:I→Prop):Prop:=P.cellsOf u=n ∧
 ∀ {H:Type} {enc0:TypeId×Value→H} {w:World} {fuel:Nat} {cs:List Value} {x:DataW H×List MemPlace},DataW.trod enc0 P w 0 (fun _=>true) true fuel u cs=some x→∃ v,S v∧ao w (oj w) E0 v cs
theorem mW.bo{P:Program}{u:TypeId}{α:Type}[Enc α](h:mW P u α):AA P u (Enc.sz α) fun v=>∃ a:α,v=enc a :=
 ⟨h.cells,fun hx=>by obtain ⟨a,ha⟩:=h.zh hx;exact ⟨enc a,⟨a,rfl⟩,ha⟩⟩
def tn(P:Program):Nat→List (TypeId×Nat)→List (Nat×(I→Prop))→Prop
 |_,[],[]=>True
 |o,(u,off)::l,(n,S)::Ss=>off=o∧AA P u n S∧tn P (o+n) l Ss
 |_,_,_=>False
def qK:List (Nat×(I→Prop))→List I→Prop
 | [],[]=>True
 |(_,S)::Ss,v::vs=>S v∧qK Ss vs
 |_,_=>False
theorem r8{n:Nat}{S:I→Prop}{Ss:List (Nat×(I→Prop))} : ∀ {vs:List I},qK ((n,S)::Ss) vs→∃ v vs',vs=v::vs'∧S v∧qK Ss vs'
 | [],h=>h.elim
 |v::vs,h=>⟨v,vs,rfl,h.1,h.2⟩
theorem JP:∀ {vs:List I},qK [] vs→vs=[]
 | [],_=>rfl
 |_::_,h=>h.elim
def ua:List (Nat×(I→Prop))→Nat
 | []=>0
 |(n,_)::Ss=>n+ua Ss
theorem C9{P:Program}{H:Type}{enc0:TypeId×Value→H}{w:World}{m:Nat}{cs:List Value} : ∀ (l:List (TypeId×Nat)) (Ss:List (Nat×(I→Prop))) (o:Nat),tn P o l Ss→cs.length=o+ua Ss →
  (∀ (i:Nat) (u:TypeId) (off:Nat),l[i]?=some (u,off)→∃ y,DataW.trod enc0 P w 0 (fun _=>true) true m u ((cs.drop off).take (P.cellsOf u))=some y)→∃ vs,qK Ss vs∧aU w (oj w) E0 vs (cs.drop o)
 | [],[],o,_,hl,_=>⟨[],trivial,by simp only[aU];exact List.drop_eq_nil_of_le (by simp only[ua] at hl;omega)⟩
 |(u,off)::l,(n,S)::Ss,o,h,hl,hf=>by
  obtain ⟨rfl,ab,af⟩:=h;obtain ⟨y,hy⟩:=hf 0 u off rfl;obtain ⟨v,hv1,hv2⟩:=ab.2 hy;obtain ⟨vs,k1,k2⟩:=C9 l Ss (off+n) af (by simp only[ua] at hl;omega) fun i u' o' hi=>hf (i+1) u' o' hi;refine ⟨v::vs,⟨hv1,k1⟩,?_⟩;simp only[aU];rw[ab.1] at hv2;exact ⟨_,(cs.drop off).drop n,(List.take_append_drop n _).symm,hv2,by rw[List.drop_drop];exact k2⟩
 | [],_::_,_,h,_,_=>h.elim
 |_::_,[],_,h,_,_=>by simp[tn] at h
theorem aaC{P:Program}{t:TypeId}{H:Type}{enc0:TypeId×Value→H}{w:World}{fuel:Nat}{cs:List Value}{x:DataW H×List MemPlace}(l:List (TypeId×Nat))(Ss:List (Nat×(I→Prop)))(ht:vk P t l=true)(hok:tn P 0 l Ss)(hc:P.cellsOf t=ua Ss)(h:DataW.trod enc0 P w 0 (fun _=>true) true fuel t cs=some x) :
  ∃ vs,qK Ss vs∧ao w (oj w) E0 (.agg vs) cs:=by
 obtain ⟨hl,m,hf⟩:=ab9 ht h;obtain ⟨vs,k1,k2⟩:=C9 l Ss 0 hok (by rw[hl,hc];omega) hf;exact ⟨vs,k1,by simpa only[ao,List.drop_zero] using k2⟩
end Go.Abs
namespace Go.Proofs.YthbdbocionnfgaaDoor
open Go Go.Abs
open Go.Abs.Enc (enc)
structure aQ where
 kind:Int
 aA:Int
 other:Int
 no:Int
 deriving DecidableEq,Inhabited
instance:Enc aQ where
 enc g:=.agg [.int .i64 g.kind,.int .i64 g.aA,.int .i64 g.other,.int .i64 g.no]
 sz:=4
 bh:=.eS [.one,.one,.one,.one]
 iL:=true
 done g:=by simp only[I.done,I.gf,Bool.and_self]
 size g:=by simp only[I.size,I.sizes]
 jM g:=by simp only[I.bh,I.cZ]
 agg _:=rfl
structure ca where
 kind:Int
 fI:Int
 to:Int
 aA:Int
 no:Int
 deriving DecidableEq,Inhabited
instance:Enc ca where
 enc g:=.agg [.int .i64 g.kind,.int .i64 g.fI,.int .i64 g.to,.int .i64 g.aA,.int .i64 g.no]
 sz:=5
 bh:=.eS [.one,.one,.one,.one,.one]
 iL:=true
 done g:=by simp only[I.done,I.gf,Bool.and_self]
 size g:=by simp only[I.size,I.sizes]
 jM g:=by simp only[I.bh,I.cZ]
 agg _:=rfl
structure dG where
 no:Int
 to:Int
 aA:Int
 dQ:Bool
 deriving DecidableEq,Inhabited
instance:Enc dG where
 enc g:=.agg [.int .i64 g.no,.int .i64 g.to,.int .i64 g.aA,.bool g.dQ]
 sz:=4
 bh:=.eS [.one,.one,.one,.one]
 iL:=true
 done g:=by simp only[I.done,I.gf,Bool.and_self]
 size g:=by simp only[I.size,I.sizes]
 jM g:=by simp only[I.bh,I.cZ]
 agg _:=rfl
theorem nx{fs:List I}{f off:Nat}{v:I}(U:f<fs.length)(h:I.sizes (fs.take f)=off):dX fs f off v=some v:=by simp[dX,h,U]
theorem Ib :
  (∀ g:aQ,(enc g).dW=some [.int .i64 g.kind,.int .i64 g.aA,.int .i64 g.other,.int .i64 g.no])∧(∀ g:ca,(enc g).dW=some [.int .i64 g.kind,.int .i64 g.fI,.int .i64 g.to,.int .i64 g.aA,.int .i64 g.no]) ∧
  (∀ g:dG,(enc g).dW=some [.int .i64 g.no,.int .i64 g.to,.int .i64 g.aA,.bool g.dQ]) ∧
  (∀ (a b c d:I) v,(a.size=1∧b.size=1∧c.size=1)→dX [a,b,c,d] 0 0 v=some v) ∧
  (∀ (g:aQ),cn (some 4) (enc g)=true)∧(∀ (g:ca),cn (some 5) (enc g)=true)∧(∀ (g:dG),cn (some 4) (enc g)=true) ∧
  (∀ (fs:List I) x,(x::fs)[0]?=some x)∧(∀ (fs:List I) x n,(x::fs)[n+1]?=fs[n]?)∧(∀ (fs:List I) x,(x::fs)[1]?=fs[0]?)∧(∀ (fs:List I) x,(x::fs)[2]?=fs[1]?)∧(∀ (fs:List I) x,(x::fs)[3]?=fs[2]?)∧(∀ (fs:List I) x,(x::fs)[4]?=fs[3]?) :=
 ⟨fun _=>rfl,fun _=>rfl,fun _=>rfl,fun a b c d v h=>nx (by simp) (by simp[I.sizes]),fun _=>by rw[fH];rfl,fun _=>by rw[fH];rfl,fun _=>by rw[fH];rfl,fun _ _=>rfl,fun _ _ _=>rfl,fun _ _=>rfl,fun _ _=>rfl,fun _ _=>rfl,fun _ _=>rfl⟩
theorem FE:(∀ (a b c d:Int) v,dX [.int .i64 a,.int .i64 b,.int .i64 c,.int .i64 d] 0 0 v=some v)∧(∀ (a b c d:Int) v,dX [.int .i64 a,.int .i64 b,.int .i64 c,.int .i64 d] 1 1 v=some v)∧(∀ (a b c d:Int) v,dX [.int .i64 a,.int .i64 b,.int .i64 c,.int .i64 d] 2 2 v=some v)∧(∀ (a b c d:Int) v,dX [.int .i64 a,.int .i64 b,.int .i64 c,.int .i64 d] 3 3 v=some v) ∧
  (∀ (a b c d e:Int) v,dX [.int .i64 a,.int .i64 b,.int .i64 c,.int .i64 d,.int .i64 e] 0 0 v=some v)∧(∀ (a b c d e:Int) v,dX [.int .i64 a,.int .i64 b,.int .i64 c,.int .i64 d,.int .i64 e] 1 1 v=some v)∧(∀ (a b c d e:Int) v,dX [.int .i64 a,.int .i64 b,.int .i64 c,.int .i64 d,.int .i64 e] 2 2 v=some v)∧(∀ (a b c d e:Int) v,dX [.int .i64 a,.int .i64 b,.int .i64 c,.int .i64 d,.int .i64 e] 3 3 v=some v)∧(∀ (a b c d e:Int) v,dX [.int .i64 a,.int .i64 b,.int .i64 c,.int .i64 d,.int .i64 e] 4 4 v=some v) ∧
  (∀ (a b c:Int) (d:Bool) v,dX [.int .i64 a,.int .i64 b,.int .i64 c,.bool d] 0 0 v=some v)∧(∀ (a b c:Int) (d:Bool) v,dX [.int .i64 a,.int .i64 b,.int .i64 c,.bool d] 1 1 v=some v)∧(∀ (a b c:Int) (d:Bool) v,dX [.int .i64 a,.int .i64 b,.int .i64 c,.bool d] 2 2 v=some v)∧(∀ (a b c:Int) (d:Bool) v,dX [.int .i64 a,.int .i64 b,.int .i64 c,.bool d] 3 3 v=some v) :=
 ⟨fun _ _ _ _ _=>rfl,fun _ _ _ _ _=>rfl,fun _ _ _ _ _=>rfl,fun _ _ _ _ _=>rfl,fun _ _ _ _ _ _=>rfl,fun _ _ _ _ _ _=>rfl,fun _ _ _ _ _ _=>rfl,fun _ _ _ _ _ _=>rfl,fun _ _ _ _ _ _=>rfl,fun _ _ _ _ _=>rfl,fun _ _ _ _ _=>rfl,fun _ _ _ _ _=>rfl,fun _ _ _ _ _=>rfl⟩
theorem aI:(type_of% @Ib)∧(type_of% @FE)∧(∀ {α:Type} [Enc α] (aR:Bool) (A:ai) (x:α),br aR A (enc x)=some (enc x))∧(∀ {α:Type} [Enc α] (x:α),(enc x).bV=true)∧(type_of% @oH)∧(type_of% @Fh)∧(type_of% @qU)∧(type_of% @pc)∧(type_of% @bL) :=
 ⟨Ib,FE,@lJ,@eH,oH,Fh,qU,pc,bL⟩
def cV(lo hi n:Int):Bool:=decide (lo≤n)&&decide (n≤hi)
theorem qB(n lo hi:Int):bp Tryd.prog 51 [enc n,enc lo,enc hi] (enc (cV lo hi n)):=by
 refine bp.cw Tryd.func51 Ln Mi Nn (t7 rfl) (fun hwf W0 D0 E1 =>?_);simp only[BM,GN,bS,zz4,Nat.reduceAdd];have R:=y6 @pc @bL
 repeat' ((first |(with_reducible refine .guard (fun hb =>?_) (fun hb =>?_) <;>try simp only[hb])|refine ae.aM (by decide +kernel) rfl fun K hK =>?_|(refine .aD [0,1,2,6] hK ?_;clear hK K)|(with_reducible refine .done (hK _ ?_);clear hK K)|refine ae.of rfl ?_|(with_reducible refine aF.aL (fun h =>?_) (fun h =>?_) <;>try simp only[h])) <;>try simp only[aN,R,simprocAttr])
 all_goals clear R
 all_goals (simp at *;simp_all[cV])
 all_goals omega
theorem oc(n:Int):bp Tryd.prog 32 [enc n] (enc (cV 0 5 n)):=by
 refine bp.cw Tryd.func32 K6 L2 M4 (t7 rfl) (fun hwf W0 D0 E1 =>?_);simp only[By,Gx,bS];have R:=y6 @pc @bL
 repeat' ((first |(with_reducible refine .guard (fun hb =>?_) (fun hb =>?_) <;>try simp only[hb])|refine ae.aM (by decide +kernel) rfl fun K hK =>?_|refine .flat _ (qB n 0 5) rfl ?_|(refine .aD [0,2] hK ?_;clear hK K)|(with_reducible refine .done (hK _ ?_);clear hK K)|refine ae.of rfl ?_|(with_reducible refine aF.aL (fun h =>?_) (fun h =>?_) <;>try simp only[h])) <;>try simp only[aN,R,simprocAttr])
 all_goals clear R
theorem ph(n:Int):bp Tryd.prog 33 [enc n] (enc (cV 1 9999 n)):=by
 refine bp.cw Tryd.func33 K7 L3 M5 (t7 rfl) (fun hwf W0 D0 E1 =>?_);simp only[Bz,Gy,bS];have R:=y6 @pc @bL
 repeat' ((first |(with_reducible refine .guard (fun hb =>?_) (fun hb =>?_) <;>try simp only[hb])|refine ae.aM (by decide +kernel) rfl fun K hK =>?_|refine .flat _ (qB n 1 9999) rfl ?_|(refine .aD [0,2] hK ?_;clear hK K)|(with_reducible refine .done (hK _ ?_);clear hK K)|refine ae.of rfl ?_|(with_reducible refine aF.aL (fun h =>?_) (fun h =>?_) <;>try simp only[h])) <;>try simp only[aN,R,simprocAttr])
 all_goals clear R
theorem As(n:Int):bp Tryd.prog 56 [enc n] (enc (cV 1 200 n)):=by
 refine bp.cw Tryd.func56 Lq Ml Nr (t7 rfl) (fun hwf W0 D0 E1 =>?_);simp only[BP,GQ,bS];have R:=y6 @pc @bL
 repeat' ((first |(with_reducible refine .guard (fun hb =>?_) (fun hb =>?_) <;>try simp only[hb])|refine ae.aM (by decide +kernel) rfl fun K hK =>?_|refine .flat _ (qB n 1 200) rfl ?_|(refine .aD [0,2] hK ?_;clear hK K)|(with_reducible refine .done (hK _ ?_);clear hK K)|refine ae.of rfl ?_|(with_reducible refine aF.aL (fun h =>?_) (fun h =>?_) <;>try simp only[h])) <;>try simp only[aN,R,simprocAttr])
 all_goals clear R
def gj(x:aQ):Bool :=
 if x.kind=1∨x.kind=2 then cV 1 9999 x.aA&&(x.other==0&&x.no==0)
 else if 3≤x.kind∧x.kind≤8 then cV 1 9999 x.aA&&(cV 0 5 x.other&&cV 1 200 x.no)
 else false
theorem Ja(x:aQ):bp Tryd.prog 59 [enc x] (enc (gj x)):=by
 refine bp.cw Tryd.func59 Lr Mn Nt (t7 rfl) (fun hwf W0 D0 E1 =>?_);simp only[BR,GS,bS];have R:=aI
 repeat' ((first |(with_reducible refine .guard (fun hb =>?_) (fun hb =>?_) <;>try simp only[hb])|refine ae.aM (by decide +kernel) rfl fun K hK =>?_|refine .flat _ (ph x.aA) rfl ?_|refine .flat _ (oc x.other) rfl ?_|refine .flat _ (As x.no) rfl ?_|(refine .aD [0,1,2,4,5,21] hK ?_;clear hK K)|(with_reducible refine .done (hK _ ?_);clear hK K)|refine ae.of rfl ?_|(with_reducible refine aF.aL (fun h =>?_) (fun h =>?_) <;>try simp only[h])) <;>try simp only[aN,R,simprocAttr])
 all_goals clear R
 all_goals (simp_all[gj])
 all_goals (intros;exfalso;omega)
def lh(r:ca):Bool:=cV 1 4 r.kind&&(cV 0 5 r.fI&&(cV 0 5 r.to&&((r.fI != r.to)&&(cV 1 9999 r.aA&&cV 1 200 r.no))))
theorem IS(r:ca):bp Tryd.prog 42 [enc r] (enc (lh r)):=by
 refine bp.cw Tryd.func42 Lf Mb Nd (t7 rfl) (fun hwf W0 D0 E1 =>?_);simp only[BG,GG,bS];have R:=aI
 repeat' ((first |(with_reducible refine .guard (fun hb =>?_) (fun hb =>?_) <;>try simp only[hb])|refine ae.aM (by decide +kernel) rfl fun K hK =>?_|refine .flat _ (qB r.kind 1 4) rfl ?_|refine .flat _ (oc r.fI) rfl ?_|refine .flat _ (oc r.to) rfl ?_|refine .flat _ (ph r.aA) rfl ?_|refine .flat _ (As r.no) rfl ?_|(refine .aD [0,1,2] hK ?_;clear hK K)|(with_reducible refine .done (hK _ ?_);clear hK K)|refine ae.of rfl ?_|(with_reducible refine aF.aL (fun h =>?_) (fun h =>?_) <;>try simp only[h])) <;>try simp only[aN,R,simprocAttr])
 all_goals clear R
 all_goals (simp_all[lh])
theorem hX{i n:Nat}(h:i<n):decide ((i:Int)<(n:Int))=true:=by simp;omega
theorem hJ{i n:Nat}(h:¬ i<n):decide ((i:Int)<(n:Int))=false:=by simp;omega
theorem fj{i:Nat}(h:i<9223372036854775807):IntKind.i64.wrap ((i:Int)+1)=((i+1:Nat):Int):=by rw[jR _ (by omega) (by omega)];rfl
theorem Jv(x y:ca):x=y↔x.kind=y.kind∧x.fI=y.fI∧x.to=y.to∧x.aA=y.aA∧x.no=y.no:=by cases x;cases y;simp
theorem Jx(x y:dG):x=y↔x.no=y.no∧x.to=y.to∧x.aA=y.aA∧x.dQ=y.dQ:=by cases x;cases y;simp
theorem CX(x y:ca):cm (.bm [.i .i64,.i .i64,.i .i64,.i .i64,.i .i64]) (enc x) (enc y)=some (decide (x=y)):=by
 show cm (.bm [.i .i64,.i .i64,.i .i64,.i .i64,.i .i64]) (.agg [.int .i64 x.kind,.int .i64 x.fI,.int .i64 x.to,.int .i64 x.aA,.int .i64 x.no]) (.agg [.int .i64 y.kind,.int .i64 y.fI,.int .i64 y.to,.int .i64 y.aA,.int .i64 y.no])=_
 simp[cm,jb,kb,Jv];rfl
theorem O0(x y:dG):cm (.bm [.i .i64,.i .i64,.i .i64,.b]) (enc x) (enc y)=some (decide (x=y)):=by
 show cm (.bm [.i .i64,.i .i64,.i .i64,.b]) (.agg [.int .i64 x.no,.int .i64 x.to,.int .i64 x.aA,.bool x.dQ]) (.agg [.int .i64 y.no,.int .i64 y.to,.int .i64 y.aA,.bool y.dQ])=_
 simp[cm,jb,kb,Jx];rfl
theorem Zv(x y:Int):(x != y) = !decide (x=y):=by by_cases h:x=y <;>simp[h]
theorem ID(a b:List Int):bp Tryd.prog 21 [enc a,enc b] (enc (decide (a=b))):=by
 refine bp.cw Tryd.func21 KW LR MT (t7 rfl) (fun hwf W0 D0 E1 =>?_);simp only[Bn,Gm,bS,zz4];have hlen:a.length≤maxLen:=((qz a).1 hwf.1).1;simp only[maxLen] at hlen;clear hwf;by_cases hl:a.length=b.length
 case neg =>
  have hn:((a.length:Int) != (b.length:Int))=true:=by simp;omega
  have R:=y6 @hn aI
  repeat' ((first |(with_reducible refine .guard (fun hb =>?_) (fun hb =>?_) <;>try simp only[hb])|refine ae.aM (by decide +kernel) rfl fun K hK =>?_|(refine .aD [0,1,4,5,10,12,13,14,24] hK ?_;clear hK K)|(with_reducible refine .done (hK _ ?_);clear hK K)|refine ae.of rfl ?_|(with_reducible refine aF.aL (fun h =>?_) (fun h =>?_) <;>try simp only[h])) <;>try simp only[aN,R,simprocAttr])
  all_goals clear R
  have:¬ a=b:=fun e=>hl (by rw[e]);simp[this]
 have hn:((a.length:Int) != (b.length:Int))=false:=by simp;omega
 have R:=y6 @hn aI
 repeat' ((first |(with_reducible refine .guard (fun hb =>?_) (fun hb =>?_) <;>try simp only[hb])|refine ae.aM (by decide +kernel) rfl fun K hK =>?_|(refine .aD [0,1,4,5,10,12,13,14,24] hK ?_;clear hK K)|(with_reducible refine .done (hK _ ?_);clear hK K)|refine ae.of rfl ?_|(with_reducible refine aF.aL (fun h =>?_) (fun h =>?_) <;>try simp only[h])) <;>try simp only[aN,R,simprocAttr])
 all_goals clear R
 refine ae.loop (fun i:Nat=>au [(0,enc a),(1,enc b),(12,.int .i64 a.length),(13,.int .i64 i)] []) (fun i=>i≤a.length∧∀ k,k<i→a[k]?=b[k]?) (fun i=>a.length-i) 0 ⟨zw5 _,fun k h=>by omega⟩ ?_ (fun i hi =>?_)
 ·refine bn.cB ?_ ?_ ?_ ?_ <;>simp[bX,cA,b6,b8,b9,I.only,b7]
 obtain ⟨hi1,hi2⟩:=hi;by_cases hlt:i<a.length
 ·have hc:=hX hlt;have he:=fun A=>fT (A:=A) 1 hlt rfl;have hlt2:i<b.length:=by omega
  have he2:=fun A=>fT (A:=A) 1 hlt2 rfl;have hw:=fj (i:=i) (by omega);have hq:=Zv a[i] b[i];rcases hp:decide (a[i]=b[i])
  ·rw[hp] at hq;have R:=y6 @hc (y6 @he (y6 @he2 (y6 @hq aI)))
   repeat' ((first |(with_reducible refine .guard (fun hb =>?_) (fun hb =>?_) <;>try simp only[hb])|refine ae.aM (by decide +kernel) rfl fun K hK =>?_|(refine .aD [0,1,4,5,10,12,13,14,24] hK ?_;clear hK K)|(with_reducible refine .done (hK _ ?_);clear hK K)|refine ae.of rfl ?_|(with_reducible refine aF.aL (fun h =>?_) (fun h =>?_) <;>try simp only[h])) <;>try simp only[aN,R,simprocAttr])
   all_goals clear R
   have:¬ a=b:=fun e=>by subst e;simp at hp
   simp[this]
  ·rw[hp] at hq;have R:=y6 @hc (y6 @he (y6 @he2 (y6 @hq (y6 @hw aI))))
   repeat' ((first |(with_reducible refine .guard (fun hb =>?_) (fun hb =>?_) <;>try simp only[hb])|refine ae.aM (by decide +kernel) rfl fun K hK =>?_|(refine .aD [0,1,4,5,10,12,13,14,24] hK ?_;clear hK K)|(with_reducible refine .done (hK _ ?_);clear hK K)|refine ae.of rfl ?_|(with_reducible refine aF.aL (fun h =>?_) (fun h =>?_) <;>try simp only[h])) <;>try simp only[aN,R,simprocAttr])
   all_goals clear R
   refine ⟨i+1,⟨by omega,fun k hk =>?_⟩,by omega,?_⟩
   ·by_cases e:k=i
    ·subst e;have:a[k]=b[k]:=by simpa using hp
     simp[hlt,hlt2,this]
    ·exact hi2 k (by omega)
   ·refine bn.cB ?_ ?_ ?_ ?_ <;>simp[bX,cA,b6,b8,b9,I.only,b7]
 ·have hc:=hJ hlt;have R:=y6 @hc aI
  repeat' ((first |(with_reducible refine .guard (fun hb =>?_) (fun hb =>?_) <;>try simp only[hb])|refine ae.aM (by decide +kernel) rfl fun K hK =>?_|(refine .aD [0,1,4,5,10,12,13,14,24] hK ?_;clear hK K)|(with_reducible refine .done (hK _ ?_);clear hK K)|refine ae.of rfl ?_|(with_reducible refine aF.aL (fun h =>?_) (fun h =>?_) <;>try simp only[h])) <;>try simp only[aN,R,simprocAttr])
  all_goals clear R
  have:a=b:=List.ext_getElem? fun k=>by
   by_cases hk:k<i
   ·exact hi2 k hk
   ·rw[List.getElem?_eq_none (by omega),List.getElem?_eq_none (by omega)]
  simp[this]
theorem Am(a b:List ca):bp Tryd.prog 20 [enc a,enc b] (enc (decide (a=b))):=by
 refine bp.cw Tryd.func20 KV LQ MS (t7 rfl) (fun hwf W0 D0 E1 =>?_);simp only[Bm,Gl,bS,zz4];have hlen:a.length≤maxLen:=((qz a).1 hwf.1).1;simp only[maxLen] at hlen;clear hwf;by_cases hl:a.length=b.length
 case neg =>
  have hn:((a.length:Int) != (b.length:Int))=true:=by simp;omega
  have R:=y6 @hn aI
  repeat' ((first |(with_reducible refine .guard (fun hb =>?_) (fun hb =>?_) <;>try simp only[hb])|refine ae.aM (by decide +kernel) rfl fun K hK =>?_|(refine .aD [0,1,4,5,10,12,13,14,24] hK ?_;clear hK K)|(with_reducible refine .done (hK _ ?_);clear hK K)|refine ae.of rfl ?_|(with_reducible refine aF.aL (fun h =>?_) (fun h =>?_) <;>try simp only[h])) <;>try simp only[aN,R,simprocAttr])
  all_goals clear R
  have:¬ a=b:=fun e=>hl (by rw[e]);simp[this]
 have hn:((a.length:Int) != (b.length:Int))=false:=by simp;omega
 have R:=y6 @hn aI
 repeat' ((first |(with_reducible refine .guard (fun hb =>?_) (fun hb =>?_) <;>try simp only[hb])|refine ae.aM (by decide +kernel) rfl fun K hK =>?_|(refine .aD [0,1,4,5,10,12,13,14,24] hK ?_;clear hK K)|(with_reducible refine .done (hK _ ?_);clear hK K)|refine ae.of rfl ?_|(with_reducible refine aF.aL (fun h =>?_) (fun h =>?_) <;>try simp only[h])) <;>try simp only[aN,R,simprocAttr])
 all_goals clear R
 refine ae.loop (fun i:Nat=>au [(0,enc a),(1,enc b),(12,.int .i64 a.length),(13,.int .i64 i)] []) (fun i=>i≤a.length∧∀ k,k<i→a[k]?=b[k]?) (fun i=>a.length-i) 0 ⟨zw5 _,fun k h=>by omega⟩ ?_ (fun i hi =>?_)
 ·refine bn.cB ?_ ?_ ?_ ?_ <;>simp[bX,cA,b6,b8,b9,I.only,b7]
 obtain ⟨hi1,hi2⟩:=hi;by_cases hlt:i<a.length
 ·have hc:=hX hlt;have he:=fun A=>fT (A:=A) 5 hlt rfl;have hlt2:i<b.length:=by omega
  have he2:=fun A=>fT (A:=A) 5 hlt2 rfl;have hw:=fj (i:=i) (by omega);have hq:=CX a[i] b[i];rcases hp:decide (a[i]=b[i])
  ·rw[hp] at hq;have R:=y6 @hc (y6 @he (y6 @he2 (y6 @hq aI)))
   repeat' ((first |(with_reducible refine .guard (fun hb =>?_) (fun hb =>?_) <;>try simp only[hb])|refine ae.aM (by decide +kernel) rfl fun K hK =>?_|(refine .aD [0,1,4,5,10,12,13,14,24] hK ?_;clear hK K)|(with_reducible refine .done (hK _ ?_);clear hK K)|refine ae.of rfl ?_|(with_reducible refine aF.aL (fun h =>?_) (fun h =>?_) <;>try simp only[h])) <;>try simp only[aN,R,simprocAttr])
   all_goals clear R
   have:¬ a=b:=fun e=>by subst e;simp at hp
   simp[this]
  ·rw[hp] at hq;have R:=y6 @hc (y6 @he (y6 @he2 (y6 @hq (y6 @hw aI))))
   repeat' ((first |(with_reducible refine .guard (fun hb =>?_) (fun hb =>?_) <;>try simp only[hb])|refine ae.aM (by decide +kernel) rfl fun K hK =>?_|(refine .aD [0,1,4,5,10,12,13,14,24] hK ?_;clear hK K)|(with_reducible refine .done (hK _ ?_);clear hK K)|refine ae.of rfl ?_|(with_reducible refine aF.aL (fun h =>?_) (fun h =>?_) <;>try simp only[h])) <;>try simp only[aN,R,simprocAttr])
   all_goals clear R
   refine ⟨i+1,⟨by omega,fun k hk =>?_⟩,by omega,?_⟩
   ·by_cases e:k=i
    ·subst e;have:a[k]=b[k]:=by simpa using hp
     simp[hlt,hlt2,this]
    ·exact hi2 k (by omega)
   ·refine bn.cB ?_ ?_ ?_ ?_ <;>simp[bX,cA,b6,b8,b9,I.only,b7]
 ·have hc:=hJ hlt;have R:=y6 @hc aI
  repeat' ((first |(with_reducible refine .guard (fun hb =>?_) (fun hb =>?_) <;>try simp only[hb])|refine ae.aM (by decide +kernel) rfl fun K hK =>?_|(refine .aD [0,1,4,5,10,12,13,14,24] hK ?_;clear hK K)|(with_reducible refine .done (hK _ ?_);clear hK K)|refine ae.of rfl ?_|(with_reducible refine aF.aL (fun h =>?_) (fun h =>?_) <;>try simp only[h])) <;>try simp only[aN,R,simprocAttr])
  all_goals clear R
  have:a=b:=List.ext_getElem? fun k=>by
   by_cases hk:k<i
   ·exact hi2 k hk
   ·rw[List.getElem?_eq_none (by omega),List.getElem?_eq_none (by omega)]
  simp[this]
structure aJ where
 aE:Int
 j:List aQ
 cv:Int
 deriving DecidableEq,Inhabited
instance:Enc aJ where
 enc g:=.agg [.int .i64 g.aE,enc g.j,.int .i64 g.cv]
 sz:=3
 bh:=.eS [.one,.one,.one]
 iL:=true
 done g:=by simp only[I.done,I.gf,Enc.done,Bool.and_self]
 size g:=by simp only[I.size,I.sizes,uU,sv]
 jM g:=by simp only[I.bh,I.cZ,ff,xG]
 agg _:=rfl
theorem h1:(∀ g:aJ,(enc g).dW=some [.int .i64 g.aE,enc g.j,.int .i64 g.cv])∧(∀ (a c:Int) (b:List aQ) v,dX [.int .i64 a,enc b,.int .i64 c] 0 0 v=some v)∧(∀ (a c:Int) (b:List aQ) v,dX [.int .i64 a,enc b,.int .i64 c] 1 1 v=some v)∧(∀ (a c:Int) (b:List aQ) v,dX [.int .i64 a,enc b,.int .i64 c] 2 2 v=some v) ∧
  (∀ (g:aJ),cn (some 3) (enc g)=true)∧(∀ (g:List aQ),cn none (enc g)=true) :=
 ⟨fun _=>rfl,fun _ _ _ _=>nx (by simp) rfl,fun _ _ _ _=>nx (by simp) rfl,fun _ _ _ _=>nx (by simp) (by simp[I.sizes,I.size,uU,sv]),fun _=>by rw[fH];rfl,fun _=>by simp[su,sr]⟩
theorem KE(aE:Int):(ef [.int .i64 0,.nils 4,.int .i64 0] [(0,.int .i64 aE)]).map I.agg=some (I.agg [.int .i64 aE,.nils 4,.int .i64 0]):=by
 simp[ef,I.bV,I.size]
theorem uJ:(ef [.int .i64 0,.nils 4,.int .i64 0] []).map I.agg=some (I.agg [.int .i64 0,.nils 4,.int .i64 0]):=by
 simp[ef]
theorem wv(A:ai)(n:Nat)(b:I)(x y u v:Int)(rest:List aw):da A (some 3) n [] b (.agg [.int .i64 x,.nils 4,.int .i64 y]) rest (some (.agg [.int .i64 u,.nils 4,.int .i64 v]))=aC rest (A.aZ n (.box (.agg [.int .i64 x,.nils 4,.int .i64 y]))):=dU rfl rfl rfl
def my(aE:Int):aJ×Int:=if cV 0 5 aE then (⟨aE,[],0⟩,0) else (⟨0,[],0⟩,90)
theorem wO(aE:Int):bp Tryd.prog 12 [enc aE] (.tuple [enc (my aE).1,enc (my aE).2]):=by
 refine bp.cw Tryd.func12 KN LI MJ (t7 rfl) (fun hwf W0 D0 E1 =>?_);simp only[Be,Gd,bS];have R:=y6 @h1 (y6 @KE (y6 @uJ (y6 @wv aI)))
 repeat' ((first |(with_reducible refine .guard (fun hb =>?_) (fun hb =>?_) <;>try simp only[hb])|refine ae.aM (by decide +kernel) rfl fun K hK =>?_|refine .flat _ (oc aE) rfl ?_|(refine .aD [0,2,3,6] hK ?_;clear hK K)|(with_reducible refine .done (hK _ ?_);clear hK K)|refine ae.of rfl ?_|(with_reducible refine aF.aL (fun h =>?_) (fun h =>?_) <;>try simp only[h])) <;>try simp only[aN,R,simprocAttr])
 all_goals clear R
 all_goals (simp_all[my];try rfl)
end Go.Proofs.YthbdbocionnfgaaDoor
namespace Go.Abs
open Go Go.RowKit
open Enc (enc)
def yw:Option Nat→Code
 |none=>.ret
 |some id=>.exit id
def C6:Option Nat→Exit
 |none=>.ret
 |some id=>.exit id
def r0(o:Obj)(A:ai)(os:List (Nat×ak)):Prop:=∀ n x,aj (ev o os) n=some x→A.o n=some x∧x.only (av (ev o os))=true∧x.en=true
def HA(o:Obj)(In:List (Nat×ak)→Prop)(Ix:Option Nat→List (Nat×ak)→Prop):Exit→ai→Prop
 | .normal,A=>∃ os,r0 o A os∧In os
 | .ret,A=>∃ os,r0 o A os∧Ix none os
 | .exit id,A=>∃ os,r0 o A os∧Ix (some id) os
 |_,_=>False
def Jy(P:Program)(nn:Nat)(x y:bH)(ps:List Nat)(tsR:List (Nat×I))(N:Nat)(item:Nat→List I)(aq:Nat→List (Nat×ak)→Prop)(Ix:Option Nat→List (Nat×ak)→Prop):Prop :=
 ∀ k osb,k<N→aq k osb→∀ (w:World) (D:aX) (E:bj) (l:Nat) (o1 o2:Obj),
  ae ⟨P,w,D,nn,cI E,E,dq,some l,none⟩ x (ee (fun B=>B.o 1999999=some (.dI o1)∧ae ⟨P,w,D,nn,cI E,E,dq,some l,none⟩ y (HA o2 (aq (k+1)) Ix) (B.aZ 1999999 (.dI o2))) (fun _ _=>False)) (au (vY ps (item k) tsR) (ev o1 osb))
section
variable {c:c4} {Q:Exit→ai→Prop}
theorem Yy{o:Obj}{A:ai}{os:List (Nat×ak)}(h:r0 o A os)(o':Obj):∀ n x,aj (ev o' os) n=some x→(A.aZ 1999999 (.dI o')).o n=some x∧x.only (av (ev o' os))=true∧x.en=true:=fun n x hx=>by
 have e:av (ev o' os)=av (ev o os):=by funext m;rw[mw,mw]
 rw[e];by_cases hn:n=1999999
 ·subst hn;rw[rC,if_pos rfl,u8] at hx;subst hx;exact ⟨by simp[ai.aZ],rfl,rfl⟩
 ·rw[rC,if_neg hn] at hx;obtain ⟨U,ab⟩:=h n x (by rw[rC,if_neg hn];exact hx);exact ⟨by simp only[ai.aZ,if_neg hn];exact U,ab⟩
theorem ae.nN{f:aV}{ps:List Nat}{x y:bH}{ts tsR:List (Nat×I)}{os0 osb0:List (Nat×ak)}{ρ:List (Nat×Nat)}{g:FuncId}{caps:List I}{N:Nat}{item:Nat→List I}
  (aq:Nat→List (Nat×ak)→Prop) (Ix:Option Nat→List (Nat×ak)→Prop) (hr0:c.ly=none∧c.fO=none) (hn6:c.n≤1000000)
  (hf:al (au ts os0) f=.func g caps) (hcl:I.cq caps=true) (hcb:fq c.P g=true) (hit:Az c.P g caps N item) (hlen:∀ k,(item k).length=ps.length)
  (hfree:aj os0 999999=none) (h19:av osb0 1999999=false) (hρ:bB ρ 1999999=999999)
  (hgv:∀ o,hd ρ (ev o osb0) ((999999,.dI o)::os0)) (hts:oX ρ (av osb0) ts tsR)
  (hI:∀ k os,aq k os→fk osb0 os) (hIx:∀ e os,Ix e os→fk osb0 os) (bf:aq 0 osb0)
  (hround:Jy c.P c.n x y ps tsR N item aq Ix)
  (hdone:∀ os,aq N os→Q .normal (au ts (dc ρ os++os0))) (hexit:∀ e os,Ix e os→Q (C6 e) (au ts (dc ρ os++os0))) :
  ae c (.nN f ps x y) Q (au ts os0):=by
 obtain ⟨hr,hbase⟩:=hr0;intro code hc a w hs;cases code <;>simp only[eJ] at hc <;>try (first | (cases hc;done) | ((repeat' split at hc) <;>cases hc;done))
 rename_i cf cps cx cy;split at hc
 case h_2=>cases hc
 rename_i f' x' y' hcf hcx hcy;split at hc
 case isFalse=>cases hc
 rename_i hpn;simp only[u8,bH.nN.injEq] at hc;obtain ⟨rfl,rfl,rfl,rfl⟩:=hc;obtain ⟨D,E,hs⟩:=hs;have hF:c.aY=Fence.wide:=by unfold c4.aY;rw[hr]
 have hE0:c.E0 999999=none:=hs.lK (.inr (by decide));have hval:∃ vs:List Value,a.eval cf=.func (.func g) #[] vs.toArray∧aO w D E caps vs:=by
  have hv:=b5 hs hcf;rw[hf] at hv;obtain ⟨cs,q1,q2⟩:=hv;simp only[ao] at q2;obtain ⟨vs,q3,q4⟩:=q2;exact ⟨vs,by rw[←oC (Cm hcb)];simpa[bI,I.isAgg,q3] using q1.symm,q4⟩
 obtain ⟨vs,hval,hvs⟩:=hval;rw[hF];refine wpIn_rangeFunc fun fn hfn =>?_;obtain ⟨rec,hrec⟩:∃ rec:LoopState→Option Code→Loop,rec=fun bm pe => { state:=bm,pending:=pe,fn,tmps:=a.tmps,params:=cps,assign:=cx,body:=cy,defers:=w.heap.size } :=⟨_,rfl⟩
 obtain ⟨E1,hs1,hE1,hup⟩:=hs.enter hbase hfree hE0 (o:=.loop (rec .ready none)) rfl;obtain ⟨W1,hW1⟩:∃ W1,(w.alloc (.deferred (some []))).alloc (.loop (rec .ready none))=W1:=⟨_,rfl⟩
 rw[hW1] at hs1 hup;obtain ⟨l,hl⟩:∃ l,l=w.heap.size+1:=⟨_,rfl⟩
 rw[←hl] at hE1;obtain ⟨yv,hyv⟩:∃ yv:Value,yv=.func (.yield l) #[] #[]:=⟨_,rfl⟩
 obtain ⟨a1,ha1⟩:∃ a1:Act,a1 = { a with defers := { target:=.collected w.heap.size,args := #[] } :: a.defers } :=⟨_,rfl⟩
 rw[←ha1] at hs1;refine ⟨l,[{ target:=.collected w.heap.size,args := #[] }],W1,{ target:=.fn (.func g) vs.toArray,args := #[yv] },W1,g,#[yv]++vs.toArray,W1,?_,?_,?_,?_,fun _=>by decide,?_⟩
 ·rw[←hW1,hrec,hl];exact run_enterLoop_outer _ _ _ _ _
 ·simp only[resolve,hval,hyv];simp[go_sem]
 ·intro f' _;trivial
 ·simp only[invoke,oU hcb]
 ·-- the iterator's own bargain
  have hG0:=hI 0 osb0 bf;obtain ⟨I',hI'⟩:∃ I':Nat→List (Nat×ak)→Prop,I'=fun k os=>∃ osb,os=ev (.loop (rec .ready none)) osb∧aq k osb:=⟨_,rfl⟩
  obtain ⟨Ix',hIx'⟩:∃ Ix':List (Nat×ak)→Prop,Ix'=fun os=>∃ e osb,os=ev (.loop (rec .done (some (yw e)))) osb∧Ix e osb:=⟨_,rfl⟩
  obtain ⟨os1,hos1⟩:∃ os1,os1=ev (.loop (rec .ready none)) osb0:=⟨_,rfl⟩
  obtain ⟨Y,hY⟩:∃ Y:Value→List I→List (Nat×ak)→cE→Prop,Y=fun v args os post=>v=yv∧∃ k,args=item k∧k<N∧I' k os∧∀ r os2,(r=.bool true∧I' (k+1) os2)∨(r=.bool false∧Ix' os2)→post r os2:=⟨_,rfl⟩
  have gi:∀ k os',I' k os'→fk os1 os':=fun k os' h=>by
   rw[hI'] at h;obtain ⟨osb,rfl,h⟩:=h;rw[hos1];exact (hI k osb h).ev _ _
  have goodx:∀ os',Ix' os'→fk os1 os':=fun os' h=>by
   rw[hIx'] at h;obtain ⟨e,osb,rfl,h⟩:=h;rw[hos1];exact (hIx e osb h).ev _ _
  have hctr:=hit Y yv I' Ix' os1 (by rw[hyv];rfl) (fun k os' post hk U ab=>by rw[hY];exact ⟨rfl,k,rfl,hk,U,ab⟩) gi goodx (by rw[hI'];exact ⟨osb0,hos1,bf⟩);have hgv1:hd ρ os1 ((999999,.dI (.loop (rec .ready none)))::os0):=by rw[hos1];exact hgv _
  obtain ⟨A0,hA0⟩:∃ A0:ai,A0=au ts ((999999,.dI (.loop (rec .ready none)))::os0):=⟨_,rfl⟩
  have hand:pk (Calls c.P g) (fun w D E=>∀ n,qI ⟨c.P,w,D,n,cI E,E,Y,none,none⟩) (.raw yv::caps) os1 (fun r os'=>r=.tuple []∧(I' N os'∨Ix' os')):=fun w D E vs hy hlive hheld hv=>by
   refine (hctr.2 w D E vs hy hlive hheld hv).mono fun e w' ⟨v,he,D',E',r,os',q⟩=>⟨v,D',E',r,os',he,q⟩
  have hshare:=hs1.qm;obtain ⟨Dh,hDh⟩:∃ Dh,Dh=qj (au ts ((999999,.dI (.loop (rec .ready none)))::os0)) D E1:=⟨_,rfl⟩
  rw[←hDh] at hshare;have hsh:=hshare.1;obtain ⟨Eh,hEh⟩:∃ Eh,Eh=ay ρ os1 E1:=⟨_,rfl⟩
  have isrec:av os1 1999999=true:=by rw[hos1,mw];simp
  have hEl:Eh 1999999=some (.op l):=by rw[hEh];simp only[ay,isrec,if_true,hρ];exact hE1
  have EhIn:∀ n e,Eh n=some e→av os1 n=true:=fun n e h=>by
   rw[hEh] at h;simp only[ay] at h;split at h
   ·assumption
   ·cases h
  have hyok:∀ n,qI ⟨c.P,W1,Dh,n,cI Eh,Eh,Y,none,none⟩:=by
   refine fun n=>⟨by rw[hEh];exact hs1.ry,?_⟩
   intro v' args os' post' hYv w2 D2 E2 vs2 hsince hlive hheld hrvs;rw[hY] at hYv;obtain ⟨rfl,k,rfl,hkN,hIk,hpost⟩:=hYv;have hIk0:=hIk;rw[hI'] at hIk;obtain ⟨osb,rfl,hIk⟩:=hIk;have gk:=gi k _ hIk0;have gkb:=hI k osb hIk;have in2:∀ m,av os1 m=true→E2 m≠none:=fun m hm=>by
    rw[←gk.same m] at hm;cases hx:aj (ev (.loop (rec .ready none)) osb) m with
    |none=>simp[av,hx] at hm
    |some x=>have:=hheld.bP m;rw[hx] at this;exact vF this
   have same2:∀ m e,Eh m=some e→e.en=true→E2 m=some e:=fun m e he hfx=>by
    rcases hsince.dR m e he with h | ⟨e',h,hle⟩
    ·exact absurd h (in2 m (EhIn m e he))
    ·rw[hle.eq hfx] at h;exact h
   have hEl2:E2 1999999=some (.op l):=same2 _ _ hEl rfl;have hob:=hheld.bP 1999999;rw[rC,if_pos rfl] at hob;obtain ⟨b,j1,_,j3,_,_⟩:=hob;rw[hEl2] at j1;cases j1;have hsz:vs2.toArray.size=cps.size:=by have:=tT hrvs;rw[hlen] at this;simpa using this
   have hyr:=run_yield (P:=c.P) (args:=vs2.toArray) j3 (by rw[hrec];exact hsz);rw[hrec] at hyr;refine ⟨l,hyv,fn,_,cx,cy,hyr,roundIn_of_wpIn trivial ?_⟩;clear hyr
   -- the round's own frame
   obtain ⟨cr,hcr⟩:∃ cr:c4,cr=⟨c.P,w2,D2,c.n,cI E2,E2,dq,some l,none⟩:=⟨_,rfl⟩
   have hFr:cr.aY=Fence.wide.inRound l:=by rw[hcr];rfl
   have hlat:ec W1 Dh Eh w2 D2 E2:=by
    refine ⟨hsince.cT,hsince.fA.cell,fun m b bh he=>same2 m _ he rfl,fun m aP l he =>?_,fun m b he=>same2 m _ he rfl,fun m b he=>same2 m _ he rfl,hsince.fA.j0⟩;rcases hsince.dR m _ he with h | ⟨e',h,hle⟩
    ·exact absurd h (in2 m (EhIn m _ he))
    ·rcases hle with rfl | ⟨_,_,blk',l',e,rfl,k1,k2⟩
     ·exact ⟨aP,l,h,zz9 _,fun _=>rfl⟩
     ·cases e;exact ⟨blk',l',h,k1,k2⟩
   have hslots:oX ρ (av os1) ts tsR:=by
    have:∀ tsR:List (Nat×I),oX ρ (av osb0) ts tsR→oX ρ (av os1) ts tsR:=by
     intro tsR
     induction tsR with
     |nil=>exact fun h=>h
     |cons q r ih =>
      intro h;obtain ⟨U,ab,af⟩:=h;exact ⟨U,jD (fun n hn=>by rw[hos1,mw,hn];simp) _ ab,ih af⟩
    exact this tsR hts
   have hsr:bg cr (au tsR (ev (.loop (rec .ready none)) osb)) { tmps:=a.tmps,defers:=[] } w2 D2 E2:=by
    rw[hcr];refine ⟨hs.sz,⟨[],rfl,.nil,fun _ h=>by simp at h⟩,fun t =>?_,fm.refl _ _,fun _ _ h _=>h,hlive,fun m=>(hheld.bP m).kZ fun e b he hb=>.inr ⟨m,e,he,hb⟩,hheld.cQ,fun _ e h=>.inr ⟨e,h,.refl e⟩,fun m hm =>?_,fun _ _ h=>h,⟨hsince.s7,fun _ _ _ _ h=>h.elim⟩,.refl _ _⟩
    ·rcases HS hslots t with h | ⟨U,ab⟩
     ·simp only[au];rw[h];simp[bl]
     ·have af:=hsh.dO t;rw[ha1] at af;simp only[au] at af ⊢;rw[U] at af;have ar:=(bl.bd (w:=W1) (D:=Dh) (p:=av os1) (ρ:=bB ρ) (E:=Eh) (E':=E1) (fun n hn=>by rw[hEh];simp only[ay,hn,if_true]) ab).1 af;exact bl.later hlat ar
    ·have hmi:av os1 m=true:=by
      rw[←gk.same m];have:=hheld.bP m;cases hx:aj (ev (.loop (rec .ready none)) osb) m with
      |none=>rw[hx] at this;exact absurd this hm
      |some x=>simp[av,hx]
     have:=gk.nl m hmi;exact ⟨zv9 hn6 this,this⟩
   have hsp:=bg.Gb cps.toList vs2 (item k) tsR _ hsr (fun p hp=>by rw[hcr];have:=zx6.1 hpn p hp;simpa using this) hrvs (by have:=hsz;simpa using this.symm);have htm:(cps.zip vs2.toArray).foldl (fun t (q:Tmp×Value)=>t.setIfInBounds q.1 q.2) a.tmps=(cps.toList.zip vs2).foldl (fun t q=>t.setIfInBounds q.1 q.2) a.tmps:=by
    rw[←Array.foldl_toList];simp
   have hx:=hround k osb hkN hIk w2 D2 E2 l (.loop (rec .ready none)) (.loop { rec .ready none with state:=.busy });rw[←hcr] at hx;have hx1:=hx cx (by rw[hcr];exact hcx) _ w2 ⟨D2,E2,hsp⟩;rw[hFr] at hx1;simp only[←htm] at hx1;rw[hcr] at hx1;refine wpIn_mono hx1 ?_;rintro e ax wx ⟨B,hq,hsx⟩;rw[←hcr] at hq hsx;cases e <;>simp only[ee] at hq <;>try exact hq.elim
   simp only[Exit.then];obtain ⟨hB1,hB2⟩:=hq;obtain ⟨Dx,Ex,hsx⟩:=hsx;have hElx:Ex 1999999=some (.op l):=by
    have ho:=hsx.bP 1999999;rw[hB1] at ho;rcases hsx.x3 (n:=1999999) (by rw[hcr];exact hEl2) rfl with h | h
    ·exact absurd h (vF ho)
    ·exact h
   have hLx:wx.heap[l]?=some (.loop (rec .ready none)):=by
    have ho:=hsx.bP 1999999;rw[hB1] at ho;obtain ⟨b,k1,_,k3,_⟩:=ho;rw[hElx] at k1;cases k1;exact k3
   refine ⟨_,run_beginRound hLx (by rw[hrec]),?_⟩;have hsb:=hsx.zW (o':=.loop { rec .ready none with state:=.busy }) hB1 hElx rfl;have hy1:=hB2 cy (by rw[hcr];exact hcy) _ _ ⟨Dx,Ex,hsb⟩;rw[hFr] at hy1;rw[hcr] at hy1;refine wpIn_mono hy1 ?_;rintro e a3 w3 ⟨A3,hq3,D3,E3,hs3⟩;rw[←hcr] at hs3
   -- the end of the round
   have br:∀ (os:List (Nat×ak)) (jump:Option Code),r0 (.loop { rec .ready none with state:=.busy }) A3 os→(post' (.bool jump.isNone) (ev (.loop (rec (if jump.isNone then .ready else .done) jump)) os)) →
     ∃ v w',(Instr.endRound l jump).run c.P w3=.ok v w'∧(fun e w'=>∃ v D' E' r os',e=Ending.returned v∧post' r os'∧bl w' D' E' r v∧kO (fun b=>w2.heap.size≤b∨cI E2 b) w' D' E' (aj os') ∧
      fm (fun b=>w2.heap.size≤b∨cI E2 b) w2 w'∧(∀ b o,D2 b o→D' b o)∧(∀ b o,D' b o→b<w'.heap.size)∧(∀ b o,D' b o→b<w2.heap.size→¬ cI E2 b→D2 b o) ∧
      (∀ n e,E2 n=some e→av os' n=true→∃ e',E' n=some e'∧e.le e')∧iE w2 D2 w') (.returned v) w':=fun os jump hbk hp=>by
    have hA3:A3.o 1999999=some (.dI (.loop { rec .ready none with state:=.busy })):=(hbk 1999999 _ (by rw[rC,if_pos rfl])).1;have hEl3:E3 1999999=some (.op l):=by
     have ho:=hs3.bP 1999999;rw[hA3] at ho;rcases hs3.x3 (n:=1999999) (by rw[hcr];exact hEl2) rfl with h | h
     ·exact absurd h (vF ho)
     ·exact h
    have hL3:w3.heap[l]?=some (.loop { rec .ready none with state:=.busy }):=by
     have ho:=hs3.bP 1999999;rw[hA3] at ho;obtain ⟨b,k1,_,k3,_⟩:=ho;rw[hEl3] at k1;cases k1;exact k3
    have hend:=run_endRound (P:=c.P) jump hL3;have erec:({ rec .ready none with state:=if jump.isNone then LoopState.ready else .done,pending:=jump } : Loop)=rec (if jump.isNone then .ready else .done) jump:=by rw[hrec]
    have hend':(Instr.endRound l jump).run c.P w3=.ok (.bool jump.isNone) (w3.putObj l (.loop (rec (if jump.isNone then .ready else .done) jump))):=by
     rw[hend];rw[hrec]
    have hs4:=hs3.zW (o':=.loop (rec (if jump.isNone then .ready else .done) jump)) hA3 hEl3 rfl;rw[hcr] at hs4;obtain ⟨D',E',_,_,_,q1,q2,q3,q4,q5,q6⟩:=hs4.yD (Yy hbk _);exact ⟨_,_,hend',_,D',E',.bool jump.isNone,_,rfl,hp,⟨[.bool jump.isNone],by simp[bI,I.isAgg],by simp[ao]⟩,q1,q2,q3,q4,q5,q6⟩
   cases e with
   |normal =>
    obtain ⟨os,hbk,hin⟩:=hq3;exact br os none hbk (hpost _ _ (.inl ⟨rfl,by rw[hI'];exact ⟨os,rfl,hin⟩⟩))
   |ret =>
    obtain ⟨os,hbk,hin⟩:=hq3;exact br os (some .ret) hbk (hpost _ _ (.inr ⟨rfl,by rw[hIx'];exact ⟨none,os,rfl,hin⟩⟩))
   |exit id =>
    obtain ⟨os,hbk,hin⟩:=hq3;exact br os (some (.exit id)) hbk (hpost _ _ (.inr ⟨rfl,by rw[hIx'];exact ⟨some id,os,rfl,hin⟩⟩))
   |goto t=>exact hq3.elim
   |panic ch=>exact hq3.elim
   |outgrown=>exact hq3.elim
  -- the call
  have hargs:ga (bl W1 D E1) (.raw yv::caps) (yv::vs):=by
   exact .cons ⟨[yv],by simp[bI,I.isAgg],by rw[hyv];exact ⟨rfl,rfl⟩⟩ (tS (hup caps vs hvs))
  have hus:=hand.use (ρ:=ρ) hs1 false (fun h=>h.mono) ⟨(fun h=>by cases h),fun _=>by rw[←hDh,←hEh];exact hyok⟩ hgv1 (uH _ (by simp[I.cq,I.bG,hcl]))
   (fun r os' hp=>by
    have gg:fk os1 os':=by
     rcases hp.2 with h | h
     ·exact gi _ _ h
     ·exact goodx _ h
    refine ⟨fun m x hx=>⟨(gg.ok m x hx).1,(gg.ok m x hx).2,fun h=>by cases h⟩,fun m m' U ab=>hgv1.inj m m' (by rw[←gg.same];exact U) (by rw[←gg.same];exact ab),fun m hm=>by rw[gg.same];exact hm,fun m U ab=>(by rw[gg.same,ab] at U;cases U),(by rw[hp.1];simp[I.only,I.bQ]),fun h=>by cases h⟩) hargs
  have ecl : #[yv]++vs.toArray=(yv::vs).toArray:=by simp
  rw[ecl];refine CallsIn.mono (callsIn_wide.2 hus) ?_;rintro e w3 ⟨v,r,os',D2,E2,rfl,hp,hs2,_,hE2⟩;have key:∀ (o3:Obj) (osb:List (Nat×ak)),os'=ev o3 osb→rp o3=true→E2 999999=some (.op l)∧w3.heap[l]?=some o3∧∀ o4,rp o4=true→cd c (au ts (dc ρ osb++os0)) a1 (w3.putObj l o4):=fun o3 osb he af=>by
   subst he;have hn2:E2 999999=some (.op l):=by
    obtain ⟨e',U,ab⟩:=hE2 1999999 (.op l) (by rw[←hEh];exact hEl) (by rw[mw];simp);rw[hρ] at U;rw[U,ab.eq rfl]
   have eos:dc ρ (ev o3 osb)=(999999,.dI o3)::dc ρ osb:=by simp only[ev,dc,zz7,hρ,ak.bd]
   rw[eos] at hs2;have ha:(au ts ((999999,ak.dI o3)::dc ρ osb++(999999,.dI (.loop (rec .ready none)))::os0)).o 999999=some (.dI o3):=by simp[au,aj]
   have hgb:∀ m,av osb m=true→bB ρ m≠999999:=fun m hm e=>by
    have h5:av (ev o3 osb) m=true:=by rw[mw,hm];simp
    have g5:fk os1 (ev o3 osb):=by
     rcases hp.2 with h | h
     ·exact gi _ _ h
     ·exact goodx _ h
    have h6:=hgv1.inj m 1999999 (by rw[←g5.same];exact h5) isrec (by rw[hρ];exact e);subst h6;have h7:fk osb0 osb:=by
     rcases hp.2 with h | h
     ·rw[hI'] at h;obtain ⟨osb',h8,h9⟩:=h;simp only[ev,zv6] at h8;rw[h8.2];exact hI _ _ h9
     ·rw[hIx'] at h;obtain ⟨e,osb',h8,h9⟩:=h;simp only[ev,zv6] at h8;rw[h8.2];exact hIx _ _ h9
    rw[h7.same,h19] at hm;cases hm
   refine ⟨hn2,?_,fun o4 ar =>?_⟩
   ·have ho:=hs2.bP 999999;rw[ha] at ho;obtain ⟨b,k1,_,k3,_⟩:=ho;rw[hn2] at k1;cases k1;exact k3
   ·have h5:=(hs2.zW (o':=o4) ha hn2 ar).OT hn2;have hst:(⟨((au ts ((999999,ak.dI o3)::dc ρ osb++(999999,.dI (.loop (rec .ready none)))::os0)).aZ 999999 (.dI o4)).t,fun m=>if m=999999 then none else
      ((au ts ((999999,ak.dI o3)::dc ρ osb++(999999,.dI (.loop (rec .ready none)))::os0)).aZ 999999 (.dI o4)).o m⟩:ai)=au ts (dc ρ osb++os0):=by
     simp only[au,ai.aZ]
     congr 1
     funext m
     by_cases hm:m=999999
     ·subst hm;simp only[if_true,rD];cases hq:pre ρ osb 999999 with
      |none=>exact hfree.symm
      |some k=>exact absurd (jG hq).2 (hgb k (jG hq).1)
     ·simp only[if_neg hm,zz3,aj,rD]
    rw[hst] at h5;exact ⟨D2,_,h5⟩
  rcases hp.2 with h | h
  ·rw[hI'] at h;obtain ⟨osb,he,hin⟩:=h;obtain ⟨k1,k2,k3⟩:=key _ osb he rfl;refine ⟨none,_,(by have:=run_endLoop (P:=c.P) k2 (by rw[hrec];simp);rw[hrec] at this;exact this),_,hdone osb hin,?_⟩;have:=k3 (.loop { rec .ready none with state:=.exhausted }) rfl;rw[ha1] at this;rw[hrec] at this;exact this
  ·rw[hIx'] at h;obtain ⟨e,osb,he,hin⟩:=h;obtain ⟨k1,k2,k3⟩:=key _ osb he rfl;refine ⟨some (yw e),_,(by have:=run_endLoop (P:=c.P) k2 (by rw[hrec];simp);rw[hrec] at this;exact this),?_⟩;have:=k3 (.loop { rec .done (some (yw e)) with state:=.exhausted }) rfl;rw[ha1] at this;rw[hrec] at this;have hq:vr c Q (C6 e) { a with defers := { target:=.collected w.heap.size,args := #[] } :: a.defers } _:=⟨_,hexit e osb hin,this⟩
   cases e with
   |none=>exact wpIn_ret hq
   |some id=>exact wpIn_exit hq
end
mutual
theorem lQ{ρ:Nat→Nat}(h:∀ n,ρ n=n):∀ x:I,x.bd ρ=x
 | .agg fs | .tuple fs=>by simp only[I.bd];rw[nI h fs]
 | .slice _ es=>by simp only[I.bd];rw[nI h es]
 | .ref x=>by simp only[I.bd];rw[lQ h x]
 | .func _ caps=>by simp only[I.bd];rw[nI h caps]
 | .iface _ v=>by simp only[I.bd];rw[lQ h v]
 | .ptr _ _ | .own _ _ | .view _ _ _ _ _ | .mref _ | .dv _=>by simp only[I.bd,h]
 | .dp ks vs=>by simp only[I.bd];rw[nI h ks,nI h vs]
 | .bool _ | .int _ _ | .bT _ | .nilp | .dE | .ed | .any | .raw _ | .nils _ | .c0 _ | .undef | .dx=>by simp only[I.bd]
theorem nI{ρ:Nat→Nat}(h:∀ n,ρ n=n):∀ xs:List I,I.dh ρ xs=xs
 | []=>rfl
 |x::xs=>by simp only[I.dh];rw[lQ h x,nI h xs]
end
theorem ak.lQ{ρ:Nat→Nat}(h:∀ n,ρ n=n):∀ x:ak,x.bd ρ=x
 | .box x=>by simp only[ak.bd,Abs.lQ h]
 | .bW _ _ es=>by simp only[ak.bd,nI h]
 | .dI _=>rfl
 | .dJ _ _=>rfl
 | .bE _ _=>by simp only[ak.bd,nI h]
 | .it _ _ _ _=>by simp only[ak.bd,nI h]
theorem nH(os:List (Nat×ak)):dc [] os=os:=by
 simp only[dc];have:(fun q:Nat×ak=>(bB [] q.1,q.2.bd (bB [])))=id:=by
  funext q
  rw[ak.lQ (ρ:=bB []) (fun n=>rfl)];rfl
 rw[this,List.map_id]
theorem gv(a b:List (Nat×ak))(n:Nat):aj (a++b) n=match aj a n with
  |some x=>some x
  |none=>aj b n:=by
 induction a with
 |nil=>rfl
 |cons q a ih =>
  obtain ⟨k,v⟩:=q;simp only[zz3,aj];split
  ·rfl
  ·exact ih
theorem fk.none{os os':List (Nat×ak)}(h:fk os os'){n:Nat}(hn:n<1000000):aj os' n=none:=by
 cases hx:aj os' n with
 |none=>rfl
 |some x =>
  have U:av os' n=true:=by simp[av,hx]
  rw[h.same] at U;exact absurd (h.nl n U) (by omega)
theorem bn.slots{ts ts':List (Nat×I)}{os os':List (Nat×ak)}(U:bX ts ts')(ab:∀ n,aj os n=aj os' n):bn (au ts os) (au ts' os'):=by
 have e:au ts os=au ts os':=by
  simp only[au];congr 1;funext n;exact ab n
 rw[e];rintro c a w ⟨D,E,hs⟩;refine ⟨D,E,hs.sz,hs.eC,fun t =>?_,hs.dK,hs.c6,hs.aK,hs.bP,hs.cQ,hs.dR,hs.eL,hs.cT,hs.eY,hs.fA⟩;rcases wB U t with h | h
 ·simp only[au];rw[h];simp[bl]
 ·have:=hs.dO t;simp only[au] at *;rw[h];exact this
theorem uI{os osk os2 ow:List (Nat×ak)}{ts:List (Nat×I)}(U:fk os osk)(ab:fk os os2)(how:∀ m,av ow m=true→m<1000000):au ts (dc [] os2++(ow++osk))=au ts (ow++os2):=by
 simp only[au,nH]
 congr 1
 funext n
 simp only[gv];cases hw:aj ow n with
 |none =>
  simp only;cases af:aj os2 n with
  |some x=>rfl
  |none =>
   simp only;cases ar:aj osk n with
   |none=>rfl
   |some x =>
    have h5:av osk n=true:=by simp[av,ar]
    rw[U.same,←ab.same] at h5;simp[av,af] at h5
 |some x =>
  simp only;rw[ab.none (how n (by simp[av,hw]))]
theorem hd.gi{os osk ow:List (Nat×ak)}(U:fk os osk)(how:∀ m,av ow m=true→m<1000000):hd [] osk (ow++osk):=by
 refine ⟨fun m x hx =>?_,fun m m' _ _ h=>h⟩;have hm:av osk m=true:=by simp[av,hx]
 have hg:=U.nl m (by rw[←U.same];exact hm);obtain ⟨k1,k2⟩:=U.ok m x hx;refine ⟨?_,k1,k2⟩;rw[ak.lQ (ρ:=bB []) (fun n=>rfl)];simp only[bB,gv];cases hw:aj ow m with
 |none=>exact hx
 |some y=>have:=how m (by simp[av,hw]);omega
theorem gJ.gi{os osk os2 os0:List (Nat×ak)}{r:I}(U:fk os osk)(ab:fk os os2)(hr:r.bG=true):gJ false [] osk os0 r os2:=by
 refine ⟨fun m x hx=>⟨(ab.ok m x hx).1,(ab.ok m x hx).2,fun h=>by cases h⟩,fun m m' _ _ h=>h,fun m hm=>by rw[ab.same,←U.same];exact hm,fun m af ar =>?_,lj _ r hr,fun h=>by cases h⟩;rw[ab.same,←U.same,ar] at af;cases af
theorem aW.ui{P:Program}{Y:Value→List I→List (Nat×ak)→cE→Prop}{K:ai→Prop}{v:Value}{vs:List I}{dst:Option Nat}{rest:List aw}{ts:List (Nat×I)}{os osk ow:List (Nat×ak)}{In Ix:List (Nat×ak)→Prop}
  (hY:Y v vs osk (fun r os2=>(r=.bool true∧In os2)∨(r=.bool false∧Ix os2))) (hk:fk os osk) (hi:∀ os',In os'→fk os os') (hx:∀ os',Ix os'→fk os os') (hcl:I.cq vs=true) (how:∀ m,av ow m=true→m<1000000)
  (U:∀ os2,In os2→aW P Y false K (aC rest ((au ts (ow++os2)).a8 dst (.bool true)))) (ab:∀ os2,Ix os2→aW P Y false K (aC rest ((au ts (ow++os2)).a8 dst (.bool false)))) :
  aW P Y false K (.mg v vs dst rest (au ts (ow++osk))):=by
 refine .wJ osk vs _ rfl hY (hd.gi hk how) (uH vs hcl) ?_ ?_
 ·rintro r os' (⟨rfl,h⟩ | ⟨rfl,h⟩)
  ·exact gJ.gi hk (hi _ h) rfl
  ·exact gJ.gi hk (hx _ h) rfl
 ·rintro r os' (⟨rfl,h⟩ | ⟨rfl,h⟩)
  ·rw[uI hk (hi _ h) how];exact U os' h
  ·rw[uI hk (hx _ h) how];exact ab os' h
theorem uN(A:ai)(d:Option Nat)(args:List I)(rest:List aw)(v:Value):sh A d args rest (.raw v)=.mg v args d rest A:=rfl
end Go.Abs
namespace Go.Proofs.YthbdbocionnfgaaDoor
open Go Go.Abs
open Go.Abs.Enc (enc)
structure az where
 aE:Int
 here:List Int
 all:List dG
 aK:List Nat
 bK:List aQ
 deriving Inhabited
structure iY where
 fI:Int
 no:Int
 deriving DecidableEq
instance:Enc iY where
 enc g:=.agg [.int .i64 g.fI,.int .i64 g.no]
 sz:=2
 bh:=.eS [.one,.one]
 iL:=true
 done g:=by simp only[I.done,I.gf,Bool.and_self]
 size g:=by simp only[I.size,I.sizes]
 jM g:=by simp only[I.bh,I.cZ]
 agg _:=rfl
theorem uY(x y:iY):cm (.bm [.i .i64,.i .i64]) (enc x) (enc y)=some (decide (x=y)):=by
 show cm (.bm [.i .i64,.i .i64]) (.agg [.int .i64 x.fI,.int .i64 x.no]) (.agg [.int .i64 y.fI,.int .i64 y.no])=_
 have:x=y↔x.fI=y.fI∧x.no=y.no:=by cases x;cases y;simp
 simp[cm,jb,kb,this];rfl
theorem e8(a b:Int):cm (.i .i64) (enc a) (enc b)=some (decide (a=b)):=by
 show cm (.i .i64) (.int .i64 a) (.int .i64 b)=_
 simp[cm];rfl
def dF(x:aQ):iY:=⟨x.other,x.no⟩
def az.aH(s:az)(i:Nat):dG:=s.all.getD i default
def az.tP(s:az):List dG:=s.aK.map s.aH
def az.bx(s:az):List Int:=s.aK.map fun i:Nat=>((i:Int)+1)
def az.fx(s:az)(b:Int):Bool:=s.tP.any fun r=>decide (r.aA=b)
def az.c9(s:az):List iY:=s.bK.map dF
def az.unknown(s:az)(x:aQ):Bool:=(x.other != s.aE) && !decide (dF x∈s.c9)
def az.at(s:az)(no:Int):Option Nat:=s.aK.find? fun i=>decide (no=(i:Int)+1)
def az.on(s:az)(x:aQ):Option Nat:=match s.at x.no with
 |some i=>if (s.aH i).to=x.other∧(s.aH i).aA=x.aA then some i else none
 |none=>none
def bJ(B i:Nat):Nat:=B+5+i
def gD(B d k i:Nat):Nat:=if i=k then d else B+5+i
def o7(B:Nat)(aE nU:Int):I:=.agg [.int .i64 aE,.mref (B+1),.mref (B+2),.int .i64 nU,.mref (B+3),.mref (B+4)]
def rm(l:List Int):ak:=.bE (l.map enc) (List.replicate l.length (.bool true))
def ea(ν:Nat→Nat)(l:List Nat):List I:=l.map fun i=>.ptr (ν i) []
def qg(ν:Nat→Nat)(s:az):ak:=.bE (s.bx.map enc) (ea ν s.aK)
def sX(s:az):ak:=.bE (s.c9.map enc) (s.bK.map enc)
def iy:List I:=[.int .i64 1,.int .i64 2,.int .i64 3,.int .i64 4,.int .i64 5,.int .i64 6,.int .i64 7,.int .i64 8]
def qT(B:Nat):ak:=.bE iy [.func 1000064 [.ptr B []],.func 1000065 [.ptr B []],.func 1000066 [.ptr B []],.func 1000067 [.ptr B []],.func 1000068 [.ptr B []],.func 1000069 [.ptr B []],.func 1000070 [.ptr B []],.func 1000071 [.ptr B []]]
def kd(ν:Nat→Nat):Nat→List dG→List (Nat×ak)
 |_,[]=>[]
 |i,r::l=>(ν i,.box (enc r))::kd ν (i+1) l
def eg(B:Nat)(ν:Nat→Nat)(s:az):List (Nat×ak) :=
 (B,.box (o7 B s.aE s.all.length))::(B+1,rm s.here)::(B+2,qg ν s)::(B+3,sX s)::(B+4,qT B)::kd ν 0 s.all
structure h2 (B:Nat) (ν:Nat→Nat) (k:Nat):Prop where
 out:∀ i,i<k→ν i<B∨B+5≤ν i
 inj:∀ i j,i<k→j<k→ν i=ν j→i=j
theorem h2.bJ(B k:Nat):h2 B (bJ B) k:=⟨fun i _=>.inr (by simp[Go.Proofs.YthbdbocionnfgaaDoor.bJ]),fun i j _ _ h=>by simp[Go.Proofs.YthbdbocionnfgaaDoor.bJ] at h;exact h⟩
theorem h2.gD{B d k m:Nat}(h:d<B)(hm:m≤k+1):h2 B (gD B d k) m :=
 ⟨fun i _=>by simp only[Go.Proofs.YthbdbocionnfgaaDoor.gD];split <;>omega,fun i j hi hj h=>by simp only[Go.Proofs.YthbdbocionnfgaaDoor.gD] at h;(repeat' split at h) <;>omega⟩
theorem nw{B d k i:Nat}(h:i<k):gD B d k i=bJ B i:=by simp only[gD,bJ];rw[if_neg (by omega)]
theorem A9{ν:Nat→Nat} : ∀ (l:List dG) (i k:Nat) (h:k<l.length),(∀ a b,a<i+l.length→b<i+l.length→ν a=ν b→a=b)→aj (kd ν i l) (ν (i+k))=some (.box (enc l[k]))
 | [],_,_,h,_=>by simp at h
 |r::l,i,0,_,_=>by simp[kd,aj]
 |r::l,i,k+1,h,hj=>by
  simp only[zw8] at h hj;simp only[kd,aj];rw[if_neg (fun e=>by have:=hj _ _ (by omega) (by omega) e;omega)];have:=A9 l (i+1) k (by omega) (fun a b ha hb=>hj a b (by omega) (by omega));rw[show i+1+k=i+(k+1) by omega] at this;simpa using this
theorem Bb{ν:Nat→Nat}{n:Nat} : ∀ (l:List dG) (i:Nat),(∀ k,k<l.length→n≠ν (i+k))→aj (kd ν i l) n=none
 | [],_,_=>rfl
 |r::l,i,h=>by
  simp only[zw8] at h;simp only[kd,aj];rw[if_neg (by have:=h 0 (by omega);simpa using this)];exact Bb l (i+1) fun k hk=>by have:=h (k+1) (by omega);rw[show i+1+k=i+(k+1) by omega];exact this
theorem Ba{ν ν':Nat→Nat} : ∀ (l:List dG) (i:Nat),(∀ k,k<i+l.length→ν k=ν' k)→kd ν i l=kd ν' i l
 | [],_,_=>rfl
 |r::l,i,h=>by
  simp only[zw8] at h;simp only[kd,h i (by omega),Ba l (i+1) fun k hk=>h k (by omega)]
theorem acb{B:Nat}{ν ν':Nat→Nat}{s:az}(hl:∀ i∈s.aK,i<s.all.length)(h:∀ k,k<s.all.length→ν k=ν' k):eg B ν s=eg B ν' s:=by
 have U:ea ν s.aK=ea ν' s.aK:=List.map_congr_left fun i hi=>by rw[h i (hl i hi)]
 simp only[eg,qg,U,Ba s.all 0 (by simpa using h)]
section
variable {B:Nat} {ν:Nat→Nat} {s:az}
theorem z8(B:Nat)(ν:Nat→Nat)(k n:Nat):n=B∨n=B+1∨n=B+2∨n=B+3∨n=B+4∨((n<B∨B+5≤n)∧(∃ i,i<k∧n=ν i))∨((n<B∨B+5≤n)∧∀ i,i<k→n≠ν i):=by
 by_cases U:n=B
 ·exact .inl U
 by_cases ab:n=B+1
 ·exact .inr (.inl ab)
 by_cases af:n=B+2
 ·exact .inr (.inr (.inl af))
 by_cases ar:n=B+3
 ·exact .inr (.inr (.inr (.inl ar)))
 by_cases h5:n=B+4
 ·exact .inr (.inr (.inr (.inr (.inl h5))))
 have h6:n<B∨B+5≤n:=by omega
 by_cases h7:∃ i,i<k∧n=ν i
 ·exact .inr (.inr (.inr (.inr (.inr (.inl ⟨h6,h7⟩)))))
 ·exact .inr (.inr (.inr (.inr (.inr (.inr ⟨h6,fun i hi e=>h7 ⟨i,hi,e⟩⟩)))))
theorem fY:aj (eg B ν s) B=some (.box (o7 B s.aE s.all.length)):=by simp[eg,aj]
theorem gI:aj (eg B ν s) (B+1)=some (rm s.here):=by simp[eg,aj]
theorem gV:aj (eg B ν s) (B+2)=some (qg ν s):=by simp[eg,aj]
theorem gW:aj (eg B ν s) (B+3)=some (sX s):=by simp[eg,aj]
theorem qu:aj (eg B ν s) (B+4)=some (qT B):=by simp[eg,aj]
theorem j7(hg:h2 B ν s.all.length){i:Nat}(hi:i<s.all.length):aj (eg B ν s) (ν i)=some (.box (enc s.all[i])):=by
 have U:=hg.out i hi;simp only[eg,aj];rw[if_neg (by omega),if_neg (by omega),if_neg (by omega),if_neg (by omega),if_neg (by omega)];have:=A9 (ν:=ν) s.all 0 i hi (by simpa using hg.inj)
 rwa [zz4] at this
theorem eP{n:Nat}(U:n<B∨B+5≤n)(h:∀ i,i<s.all.length→n≠ν i):aj (eg B ν s) n=none:=by
 simp only[eg,aj];rw[if_neg (by omega),if_neg (by omega),if_neg (by omega),if_neg (by omega),if_neg (by omega)];exact Bb s.all 0 (by simpa using h)
theorem dV(hg:h2 B ν s.all.length){n:Nat} : av (eg B ν s) n=true↔(B≤n∧n≤B+4)∨∃ i,i<s.all.length∧n=ν i:=by
 rcases z8 B ν s.all.length n with h | h | h | h | h | ⟨h,i,hi,e⟩ | ⟨h,hn⟩
 ·subst h;simp only[av,fY];simp
 ·subst h;simp only[av,gI];simp
 ·subst h;simp only[av,gV];simp
 ·subst h;simp only[av,gW];simp
 ·subst h;simp only[av,qu];simp
 ·subst e;simp only[av,j7 hg hi];simp only[Option.isSome_some,true_iff];exact .inr ⟨i,hi,rfl⟩
 ·simp only[av,eP h hn];simp only[Option.isSome_none,zz5,false_iff];rintro (ab | ⟨i,hi,e⟩)
  ·omega
  ·exact hn i hi e
theorem aax(p:Nat→Bool)(h:p B=true):ak.only p (qT B)=true:=by
 simp[qT,iy,ak.only,I.only,I.bQ,h]
theorem FM(p:Nat→Bool):∀ l:List Nat,(∀ i∈l,p (ν i)=true)→I.bQ p (ea ν l)=true
 | [],_=>rfl
 |i::l,h=>by
  have ih:=FM p l fun j hj=>h j (by simp[hj]);simp only[ea] at ih;simp only[ea,zz7,I.bQ,I.only,ih,h i (by simp),Bool.and_self]
theorem FO(p:Nat→Bool):∀ n:Nat,I.bQ p (List.replicate n (.bool true))=true
 |0=>rfl
 |n+1=>by simp[List.replicate_succ,I.bQ,I.only,FO p n]
theorem mO(hg:h2 B ν s.all.length)(hl:∀ i∈s.aK,i<s.all.length){n:Nat}{x:ak}(h:aj (eg B ν s) n=some x):x.only (av (eg B ν s))=true∧x.en=true:=by
 have hin:∀ n,(B≤n∧n≤B+4)→av (eg B ν s) n=true:=fun n hn=>(dV hg).2 (.inl hn);rcases z8 B ν s.all.length n with ab | ab | ab | ab | ab | ⟨ab,i,hi,e⟩ | ⟨ab,hn⟩
 ·subst ab;rw[fY] at h;cases h;simp[ak.only,I.only,I.bQ,ak.en,o7,hin]
 ·subst ab;rw[gI] at h;cases h;simp only[rm,ak.only,dZ,FO,Bool.and_self,ak.en,true_and]
 ·subst ab;rw[gV] at h;cases h;refine ⟨?_,rfl⟩;simp only[qg,ak.only,dZ,Bool.true_and];exact FM _ _ fun i hi=>(dV hg).2 (.inr ⟨i,hl i hi,rfl⟩)
 ·subst ab;rw[gW] at h;cases h;simp only[sX,ak.only,dZ,Bool.and_self,ak.en,true_and]
 ·subst ab;rw[qu] at h;cases h;exact ⟨aax _ (hin _ (by omega)),rfl⟩
 ·subst e;rw[j7 hg hi] at h;cases h;exact ⟨b7 _ _,rfl⟩
 ·rw[eP ab hn] at h;cases h
theorem acd(hg:h2 1000000 ν s.all.length)(h:∀ i,i<s.all.length→1000000≤ν i):∀ m,av (eg 1000000 ν s) m=true→1000000≤m:=fun m hm=>by
 rcases (dV hg).1 hm with ab | ⟨i,hi,rfl⟩
 ·omega
 ·exact h i hi
end
def kF(s:az):I:=.dp (s.bx.map enc) (s.aK.map fun i=>.ref (enc (s.aH i)))
def kS(l:List Int):I:=.dp (l.map enc) (List.replicate l.length (.bool true))
def lL(s:az):I:=.dp (s.c9.map enc) (s.bK.map enc)
def uM:I:=.dp iy (List.replicate 8 .any)
def gH(s:az):I:=.agg [.int .i64 s.aE,kS s.here,kF s,.int .i64 s.all.length,lL s,uM]
theorem sn:∀ n:Nat,I.cq (List.replicate n (.bool true))=true
 |0=>rfl
 |n+1=>by simp[List.replicate_succ,I.cq,I.bG,sn n]
theorem xy{α:Type}[Enc α](f:Nat→α):∀ l:List Nat,I.cq (l.map fun i=>.ref (enc (f i)))=true
 | []=>rfl
 |i::l=>by simp[I.cq,I.bG,kR,xy f l]
theorem CE(s:az):(gH s).bG=true:=by
 simp[gH,kS,kF,lL,uM,iy,I.bG,I.cq,ja,sn,xy,List.replicate]
theorem xX{A:ai}{m:Nat}{x:I}(h:x.bG=true):c7 A (m+1) x=some x:=by simp[c7,h]
theorem yJ{A:ai}{m:Nat} : ∀ {l:List I},I.cq l=true→gC (c7 A (m+1)) l=some l
 | [],_=>rfl
 |x::l,h=>by
  simp only[I.cq,zz1] at h;simp only[gC,xX h.1,yJ h.2]
theorem u0{A:ai}{m n:Nat}{ks vs vs':List I}(ho:A.o n=some (.bE ks vs))(hk:I.cq ks=true)(hv:gC (c7 A m) vs=some vs'):c7 A (m+1) (.mref n)=some (.dp ks vs'):=by
 simp only[c7,I.bG,zz5,if_false,ho,hk,if_true,hv,zy6]
theorem Ff{A:ai}{m:Nat}{ν:Nat→Nat}{f:Nat→dG} : ∀ {l:List Nat},(∀ i∈l,A.o (ν i)=some (.box (enc (f i))))→gC (c7 A (m+2)) (ea ν l)=some (l.map fun i=>.ref (enc (f i)))
 | [],_=>rfl
 |i::l,h=>by
  have ih:=Ff (m:=m) (l:=l) fun j hj=>h j (by simp[hj]);simp only[ea] at ih;have U:c7 A (m+2) (.ptr (ν i) [])=some (.ref (enc (f i))):=by
   have hcl:(I.ptr (ν i) []).bG=false:=by simp[I.bG]
   rw[c7];simp only[hcl,zz5,if_false,cM,h i (by simp),I.at,xX (kR (f i)),zy6]
  simp only[ea,zz7,gC,U,ih]
structure Ay (A:ai) (B:Nat) (ν:Nat→Nat) (s:az):Prop where
 bf:A.o B=some (.box (o7 B s.aE s.all.length))
 U:A.o (B+1)=some (rm s.here)
 ab:A.o (B+2)=some (qg ν s)
 af:A.o (B+3)=some (sX s)
 ar:A.o (B+4)=some (qT B)
 aR:∀ i,i<s.all.length→A.o (ν i)=some (.box (enc (s.aH i)))
 cN:∀ i∈s.aK,i<s.all.length
theorem iI{A:ai}{B:Nat}{ν:Nat→Nat}{s:az}(h:Ay A B ν s)(m:Nat):c7 A (m+5) (o7 B s.aE s.all.length)=some (gH s):=by
 have i0:∀ (k:IntKind) (v:Int),c7 A (m+4) (.int k v)=some (.int k v):=fun _ _=>xX (m:=m+3) rfl;have i1:c7 A (m+4) (.mref (B+1))=some (kS s.here):=u0 h.U (ja _) (yJ (m:=m+2) (sn _));have i2:c7 A (m+4) (.mref (B+2))=some (kF s):=u0 h.ab (ja _) (Ff (m:=m+1) fun i hi=>h.aR i (h.cN i hi));have i3:c7 A (m+4) (.mref (B+3))=some (lL s):=u0 h.af (ja _) (yJ (m:=m+2) (ja _));have i4:c7 A (m+4) (.mref (B+4))=some uM:=u0 h.ar (by simp[iy,I.cq,I.bG]) (by
  have hf:∀ k:Nat,1000000≤k→c7 A (m+3) (.func k [.ptr B []])=some .any:=fun k hk=>by
   rw[c7];have hcl:(I.func k [.ptr B []]).bG=false:=by simp[I.bG,I.cq]
   simp only[hcl,zz5,if_false,if_neg (show ¬ k<1000000 by omega)]
  simp only[gC,hf 1000064 (by decide),hf 1000065 (by decide),hf 1000066 (by decide),hf 1000067 (by decide),hf 1000068 (by decide),hf 1000069 (by decide),hf 1000070 (by decide),hf 1000071 (by decide)];rfl)
 rw[o7,c7];simp only[I.bG,I.cq,Bool.and_false,Bool.false_and,zz5,if_false,gC,i0,i1,i2,i3,i4,zy6];rfl
def c8(s:az):I:=.ref (gH s)
theorem nZ(s:az):(c8 s).bG=true:=by simp only[c8,I.bG,CE]
theorem C7:(∀ A s,jW A 0 0 (c8 s)=some (.ref (.int .i64 s.aE)))∧(∀ A s,jW A 1 1 (c8 s)=some (.ref (kS s.here)))∧(∀ A s,jW A 2 2 (c8 s)=some (.ref (kF s)))∧(∀ A s,jW A 3 3 (c8 s)=some (.ref (.int .i64 s.all.length))) ∧
  (∀ A s,jW A 4 4 (c8 s)=some (.ref (lL s))):=by
 refine ⟨fun A s =>?_,fun A s =>?_,fun A s =>?_,fun A s =>?_,fun A s =>?_⟩ <;>simp[c8,gH,jW,I.dW,sA,ri,dX,I.sizes,I.size,kS,kF,lL,uM]
theorem Yz(l:List Int):(kS l).bG=true:=by simp only[kS,I.bG,ja,sn,Bool.and_self]
theorem abu(s:az):(kF s).bG=true:=by simp only[kF,I.bG,ja,xy,Bool.and_self]
theorem YP(s:az):(lL s).bG=true:=by simp only[lL,I.bG,ja,Bool.and_self]
theorem di:(type_of% @C7)∧(∀ s,(c8 s).bG=true)∧(∀ aR A s,br aR A (c8 s)=some (c8 s))∧(∀ s,(c8 s).bV=true)∧(∀ s,cn none (c8 s)=true)∧(∀ s,nv (c8 s)=some (c8 s))∧(∀ p s,(c8 s).only p=true) ∧
  (∀ l,(kS l).bV=true)∧(∀ l,cn none (kS l)=true)∧(∀ l,(kF l).bV=true)∧(∀ l,cn none (kF l)=true)∧(∀ l,(lL l).bV=true)∧(∀ l,cn none (lL l)=true)∧(∀ l,(kS l).bG=true)∧(∀ l,(kF l).bG=true)∧(∀ l,(lL l).bG=true) ∧
  (∀ A l,gS A (kS l)=some (l.map enc,List.replicate l.length (.bool true)))∧(∀ A s,gS A (kF s)=some (s.bx.map enc,s.aK.map fun i=>.ref (enc (s.aH i))))∧(∀ A s,gS A (lL s)=some (s.c9.map enc,s.bK.map enc)) ∧
  (∀ x,cn none (.ref x)=true)∧(∀ x,nv (.ref x)=some (.ref x)) :=
 ⟨C7,nZ,fun aR A s=>by
  have h:=nZ s;simp only[c8,I.bG] at h;simp only[c8,br,h,if_true],fun _=>rfl,fun _=>rfl,fun _=>rfl,fun p s=>lj p _ (nZ s),fun _=>rfl,fun _=>rfl,fun _=>rfl,fun _=>rfl,fun _=>rfl,fun _=>rfl,Yz,abu,YP,
  fun _ _=>rfl,fun _ _=>rfl,fun _ _=>rfl,fun _=>rfl,fun _=>rfl⟩
theorem FB{A:ai}{d:Option Nat}{n:Nat}{rest:List aw}{ks vs:List I}{cur:Option Nat} : rI A d n rest (some (.it ks vs [] cur))=aC rest (A.a8 d (.tuple [.bool false])):=by
 simp only[rI,if_true]
theorem aW.jh{P:Program}{Y:Value→List I→List (Nat×ak)→cE→Prop}{K:ai→Prop}{A:ai}{d:Option Nat}{n:Nat}{rest:List aw}{ks vs:List I}{left:List Nat}{cur:Option Nat}(hl:left≠[])
  (h:∀ i,i∈left→∃ kk x,ks[i]?=some kk∧vs[i]?=some x∧aW P Y false K (aC rest ((A.aZ n (.it ks vs (left.filter (· != i)) (some i))).a8 d (.tuple [.bool true,kk,x])))) :
  aW P Y false K (rI A d n rest (some (.it ks vs left cur))):=by
 simp only[rI,if_neg hl];refine .any rfl fun i hi =>?_;obtain ⟨kk,x,U,ab,af⟩:=h i hi;simp only[U,ab];exact af
theorem EX{n i:Nat}{aD left:List Nat}(hC:(aD++left).Perm (List.range n))(hi:i∈left):(left.filter (· != i)).length<left.length∧((aD++[i])++left.filter (· != i)).Perm (List.range n):=by
 refine ⟨?_,?_⟩
 ·rcases Nat.lt_or_ge (left.filter (· != i)).length left.length with h | h
  ·exact h
  ·have:=List.filter_eq_self.1 (List.Sublist.eq_of_length_le List.filter_sublist h) i hi;simp at this
 have hnd:left.Nodup:=(zv8.1 (hC.nodup_iff.2 List.nodup_range)).2.1;have U:left.Perm (i::left.filter (· != i)):=by
  have ab:(left.filter (· == i)).length=1:=by
   have:=List.nodup_iff_count.1 hnd i;have af:=List.count_pos_iff.2 hi;have ar:left.count i=(left.filter (· == i)).length:=by rw[List.count,zv4]
   omega
  have h5:left.filter (· == i)=[i]:=by
   obtain ⟨a,ha⟩:=List.length_eq_one_iff.1 ab;have:a∈left.filter (· == i):=by rw[ha];simp
   have:=(zx5.1 this).2;simp at this;rw[ha,this]
  have h6:=(List.filter_append_perm (· == i) left).symm;rw[h5] at h6;exact h6
 refine List.Perm.trans ?_ hC;rw[zy4];exact (U.symm).append_left aD
def AF(s:az)(b:Int)(t:List Nat×List Nat×Option Nat):ai :=
 au [(0,c8 s),(1,.int .i64 b),(11,.dv 11)] [(11,.it (s.bx.map enc) (s.aK.map fun i=>.ref (enc (s.aH i))) t.2.1 t.2.2)]
theorem r3(s:az)(b:Int):bp Tryd.prog 34 [c8 s,enc b] (enc (s.fx b)):=by
 refine bp.cw Tryd.func34 K8 L4 M6 (t7 rfl) (fun hwf W0 D0 E1 =>?_);simp only[BA,Gz,bS,zz4];clear hwf;refine .gU (by decide +kernel) fun K hK =>?_;simp only[DH,bL,simprocAttr];refine .done (hK _ ?_);clear hK K;refine ae.seq (ae.seq ?_);refine .lx (by decide +kernel) fun K hK =>?_;simp only[DI,bL,simprocAttr]
 try simp only[di,kF,bw,oH,bL,simprocAttr]
 refine .done (hK _ ?_);clear hK K;try simp only[ee]
 have hlen:s.bx.length=s.aK.length:=by simp[az.bx]
 refine ae.block (ae.loop (AF s b) (fun t=>(t.1++t.2.1).Perm (List.range s.aK.length)∧∀ i∈t.1,(s.aH (s.aK.getD i 0)).aA≠b) (fun t=>t.2.1.length) ([],List.range s.aK.length,none) ⟨by simp,by simp⟩ ?_ ?_)
 ·refine bn.slots ?_ (fun n =>?_)
  ·simp[bX,b9]
  ·simp only[ct,ta,zz8,hlen]
 rintro ⟨aD,left,cur⟩ ⟨hC,hA⟩;simp only at hC hA;simp only[AF];by_cases hl:left=[]
 ·subst hl;have hno:s.fx b=false:=by
   simp only[az.fx,az.tP,List.any_map,List.any_eq_false,Function.comp,decide_eq_true_eq];intro i hi e;obtain ⟨k,hk,rfl⟩:=List.mem_iff_getElem.1 hi;have hm:k∈aD:=(show aD.Perm _ by simpa using hC).mem_iff.2 (zy9.2 hk);have:=hA k hm;simp only[zz2,zx3 hk,Option.getD_some] at this;exact this e
  refine .gU (by decide +kernel) fun K hK =>?_;simp only[x7,bL,simprocAttr]
  try simp only[oH,FB,bL,simprocAttr]
  refine .done (hK _ ?_);clear hK K;refine ae.seq ?_;refine ae.kr ?_;simp only[aF,bL,simprocAttr];refine ⟨fun h =>?_,fun h =>?_⟩
  case refine_1=>cases h
  refine ae.exit ?_;try simp only[ee,jT,simprocAttr]
  rw[hno];have R:=aI
  repeat' ((first |(with_reducible refine .guard (fun hb =>?_) (fun hb =>?_) <;>try simp only[hb])|refine ae.aM (by decide +kernel) rfl fun K hK =>?_|(refine .aD [0,1,4,6,11,13,21] hK ?_;clear hK K)|(with_reducible refine .done (hK _ ?_);clear hK K)|refine ae.of rfl ?_|(with_reducible refine aF.aL (fun h =>?_) (fun h =>?_) <;>try simp only[h])) <;>try simp only[aN,R,simprocAttr])
  all_goals clear R
 ·refine .gU (by decide +kernel) fun K hK =>?_;simp only[x7,bL,simprocAttr]
  try simp only[oH,bL,simprocAttr]
  refine aW.jh hl fun i hi =>?_;have hib:i<s.aK.length:=zy9.1 (hC.mem_iff.1 (by simp[hi]));obtain ⟨hm,hC2⟩:=EX hC hi;have hk1:(s.bx.map (enc (α:=Int)))[i]?=some (enc (((s.aK[i]:Nat):Int)+1)):=by simp[az.bx,hib]
  have hk2:(s.aK.map fun i=>I.ref (enc (s.aH i)))[i]?=some (.ref (enc (s.aH s.aK[i]))):=by simp[hib]
  refine ⟨_,_,hk1,hk2,?_⟩;have hent:oz (s.bx.map enc) (s.aK.map fun i=>I.ref (enc (s.aH i))) (some i)=some (.tuple [enc (((s.aK[i]:Nat):Int)+1),.ref (enc (s.aH s.aK[i]))]):=by
   simp only[oz,hk1,hk2]
  have hx:s.aK.getD i 0=s.aK[i]:=by simp[zz2,hib]
  try simp only[bL,simprocAttr]
  refine .done (hK _ ?_);clear hK K;refine ae.seq ?_;refine ae.kr ?_;simp only[aF,bL,simprocAttr];refine ⟨fun h =>?_,fun h =>?_⟩
  case refine_2=>cases h
  refine ae.skip ?_;try simp only[ee,simprocAttr]
  refine ae.block ?_;rcases q:((s.aH s.aK[i]).aA==b)
  ·have R:=y6 @hent (y6 @q aI)
   repeat' ((first |(with_reducible refine .guard (fun hb =>?_) (fun hb =>?_) <;>try simp only[hb])|refine ae.aM (by decide +kernel) rfl fun K hK =>?_|(refine .aD [0,1,4,6,11,13,21] hK ?_;clear hK K)|(with_reducible refine .done (hK _ ?_);clear hK K)|refine ae.of rfl ?_|(with_reducible refine aF.aL (fun h =>?_) (fun h =>?_) <;>try simp only[h])) <;>try simp only[aN,R,simprocAttr])
   all_goals clear R
   refine ⟨(aD++[i],left.filter (· != i),some i),⟨hC2,fun j hj =>?_⟩,hm,?_⟩
   ·rcases zy8.1 hj with hj | hj
    ·exact hA j hj
    ·rw[zy2.1 hj,hx];simpa using q
   ·simp only[];refine bn.slots ?_ (fun n =>?_)
    ·simp[bX,b9]
    ·simp only[ct,ta];(repeat' split) <;>simp_all
  ·have hyes:s.fx b=true:=by
    simp only[az.fx,az.tP,List.any_map,List.any_eq_true,Function.comp,decide_eq_true_eq];exact ⟨s.aK[i],zw9 hib,by simpa using q⟩
   rw[hyes];have R:=y6 @hent (y6 @q aI)
   repeat' ((first |(with_reducible refine .guard (fun hb =>?_) (fun hb =>?_) <;>try simp only[hb])|refine ae.aM (by decide +kernel) rfl fun K hK =>?_|(refine .aD [0,1,4,6,11,13,21] hK ?_;clear hK K)|(with_reducible refine .done (hK _ ?_);clear hK K)|refine ae.of rfl ?_|(with_reducible refine aF.aL (fun h =>?_) (fun h =>?_) <;>try simp only[h])) <;>try simp only[aN,R,simprocAttr])
   all_goals clear R
theorem Zc(s:az)(x:aQ):∃ v:I,v.bV=true∧cn (some 4) v=true∧v.bh=.eS [.one,.one,.one,.one]∧fL (.bm [.i .i64,.i .i64]) (.agg [.int .i64 0,.int .i64 0,.int .i64 0,.int .i64 0]) (.agg [.int .i64 x.other,.int .i64 x.no]) (s.c9.map enc) (s.bK.map enc)=some (v,decide (dF x∈s.c9)):=by
 have h:=vt uY (.agg [.int .i64 0,.int .i64 0,.int .i64 0,.int .i64 0]) (dF x) s.c9 (s.bK.map enc);have hm:=sE (k:=dF x) (ks:=s.c9);have e:(enc (dF x):I)=.agg [.int .i64 x.other,.int .i64 x.no]:=rfl;rw[e] at h;rw[h,←hm];cases hf:s.c9.findIdx? fun y=>decide (dF x=y) with
 |none=>exact ⟨_,rfl,rfl,rfl,rfl⟩
 |some i =>
  have hi:=(List.findIdx?_eq_some_iff_getElem.1 hf).1;have hi2:i<s.bK.length:=by simpa[az.c9] using hi
  refine ⟨enc s.bK[i],eH _,by rw[fH];rfl,ff _,?_⟩;simp[hi2]
theorem uq(s:az)(x:aQ):bp Tryd.prog 85 [c8 s,enc x] (enc (s.unknown x)):=by
 refine bp.cw Tryd.func85 Lx Mt NJ (t7 rfl) (fun hwf W0 D0 E1 =>?_);simp only[BX,G8,bS,zz4];clear hwf;obtain ⟨v,hv1,hv2,hv3,hlk⟩:=Zc s x;have hbld:(ef [.int .i64 0,.int .i64 0] [(0,.int .i64 x.other),(1,.int .i64 x.no)]).map I.agg=some (.agg [.int .i64 x.other,.int .i64 x.no]):=by simp[ef,I.bV,I.size]
 have hst:∀ A rest b,da A (some 4) 5 [] b v rest (some (.agg [.int .i64 0,.int .i64 0,.int .i64 0,.int .i64 0]))=aC rest (A.aZ 5 (.box v)):=fun A rest b=>dU hv1 hv2 hv3;simp only[az.unknown];rcases q:(x.other != s.aE) <;>rcases q2:decide (dF x∈s.c9)
 all_goals
  rw[q2] at hlk;have R:=y6 @q (y6 @hv1 (y6 @hv2 (y6 @hbld (y6 @hst (y6 @hlk (y6 @di (y6 @bw aI)))))))
  repeat' ((first |(with_reducible refine .guard (fun hb =>?_) (fun hb =>?_) <;>try simp only[hb])|refine ae.aM (by decide +kernel) rfl fun K hK =>?_|(refine .aD [0,1,3,4,6] hK ?_;clear hK K)|(with_reducible refine .done (hK _ ?_);clear hK K)|refine ae.of rfl ?_|(with_reducible refine aF.aL (fun h =>?_) (fun h =>?_) <;>try simp only[h])) <;>try simp only[aN,R,simprocAttr])
  all_goals clear R
  rfl
theorem C2{α β:Type}(f:α→β):∀ (l:List α) (k:Nat),(l.map f).eraseIdx k=(l.eraseIdx k).map f
 | [],_=>rfl
 |_::_,0=>rfl
 |x::l,k+1=>by simp only[zz7,List.eraseIdx_cons_succ,C2 f l k]
section
variable {α ι:Type} [Enc α] [DecidableEq α] [DecidableEq ι] {ty:cH}
omit [Enc α] [DecidableEq ι] in
theorem Dm(f:ι→α)(g:ι→I)(z:I)(k:α):∀ l:List ι,(match (l.map f).findIdx? fun x=>decide (k=x) with
   |some i=>((l.map g)[i]?).map fun v=>(v,true)
   |none=>some (z,false))=(match l.find? fun i=>decide (k=f i) with
   |some i=>some (g i,true)
   |none=>some (z,false))
 | []=>rfl
 |x::l=>by
  have ih:=Dm f g z k l;simp only[zz7,List.findIdx?_cons,List.find?_cons];by_cases h:k=f x
  ·simp[h]
  ·simp only[h,decide_false,zz5,if_false];rw[←ih];cases (l.map f).findIdx? fun x=>decide (k=x) with
   |none=>rfl
   |some i=>simp
omit [DecidableEq ι] in
theorem yE(ay:∀ x y:α,cm ty (enc x) (enc y)=some (decide (x=y)))(f:ι→α)(g:ι→I)(z:I)(k:α)(l:List ι) :
  fL ty z (enc k) ((l.map f).map enc) (l.map g)=match l.find? fun i=>decide (k=f i) with
   |some i=>some (g i,true)
   |none=>some (z,false):=by
 exact (vt ay z k _ _).trans (Dm f g z k l)
theorem Fj(ay:∀ x y:α,cm ty (enc x) (enc y)=some (decide (x=y)))(f:ι→α)(g:ι→I)(hf:∀ a b,f a=f b→a=b){l:List ι}{i:ι}(hi:i∈l) :
  nu ty (enc (f i)) ((l.map f).map enc) (l.map g)=some (((l.erase i).map f).map enc,(l.erase i).map g):=by
 have hf2:∀ a,(f i=f a)=(i=a):=fun a=>propext ⟨hf i a,fun e=>by rw[e]⟩;have key:∀ l:List ι,i∈l→∃ k,(l.map f).findIdx? (fun x=>decide (f i=x))=some k∧l.eraseIdx k=l.erase i:=by
  intro l
  induction l with
  |nil=>intro h;cases h
  |cons x l ih =>
   intro h;simp only[zz7,List.findIdx?_cons,hf2];by_cases e:i=x
   ·subst e;exact ⟨0,by simp,by simp⟩
   ·obtain ⟨k,U,ab⟩:=ih (by simpa[e] using h);refine ⟨k+1,?_,?_⟩
    ·simp only[e,decide_false,zz5,if_false,U,zy6]
    ·rw[List.eraseIdx_cons_succ,ab,List.erase_cons_tail (by simpa using fun h=>e h.symm)]
 obtain ⟨k,U,ab⟩:=key l hi;simp only[nu,ay,Option.isSome_some,if_true,u7 ay,U,zy6,Nat.add_zero];rw[←ab];simp only[C2]
end
theorem Hv(l:List Int):List.replicate l.length (I.bool true)=l.map fun _=>.bool true:=by
 induction l with
 |nil=>rfl
 |cons x l ih=>simp[List.replicate_succ,ih]
theorem Fk{l:List Int}{b:Int}(h:b∈l):nu (.i .i64) (.int .i64 b) (l.map enc) (List.replicate l.length (.bool true))=some ((l.erase b).map enc,List.replicate (l.erase b).length (.bool true)):=by
 have:=Fj e8 (fun x:Int=>x) (fun _=>.bool true) (fun _ _ h=>h) h;simp only[List.map_id',eQ] at this;rw[Hv,Hv];exact this
theorem iQ{s:az}{no:Int}{i:Nat}(h:s.at no=some i):i∈s.aK∧no=(i:Int)+1 :=
 ⟨List.mem_of_find?_eq_some h,by simpa using List.find?_some h⟩
theorem vu{s:az}(g:Nat→I)(no:Int):fL (.i .i64) .nilp (.int .i64 no) (s.bx.map enc) (s.aK.map g)=match s.at no with
   |some i=>some (g i,true)
   |none=>some (.nilp,false):=by
 have h:=yE e8 (fun i:Nat=>(i:Int)+1) g .nilp no s.aK;rw[eQ] at h;refine h.trans ?_;unfold az.at;generalize s.aK.find? (fun i:Nat=>decide (no=(i:Int)+1))=q;cases q <;>rfl
theorem Fl{s:az}(g:Nat→I){i:Nat}(h:i∈s.aK):nu (.i .i64) (.int .i64 ((i:Int)+1)) (s.bx.map enc) (s.aK.map g)=some (({ s with aK:=s.aK.erase i } : az).bx.map enc,(s.aK.erase i).map g) :=
 Fj e8 (fun i:Nat=>(i:Int)+1) g (fun a b h=>by omega) h
theorem ny{s:az}{x:aQ}{i:Nat}(h:s.on x=some i):s.at x.no=some i∧(s.aH i).to=x.other∧(s.aH i).aA=x.aA:=by
 simp only[az.on] at h;split at h
 ·rename_i j hj;split at h
  ·rename_i hh;cases h;exact ⟨hj,hh⟩
  ·cases h
 ·cases h
def eE(s:az)(x:aQ):Option az :=
 if x.kind=1 then if x.aA∈s.here∨s.fx x.aA=true then none else some { s with here:=gb s.here x.aA }
 else if x.kind=2 then if x.aA∈s.here then some { s with here:=s.here.erase x.aA } else none
 else if x.kind=3 then if x.aA∈s.here∧x.other≠s.aE∧x.no=(s.all.length:Int)+1 then
  some { s with here:=s.here.erase x.aA,all:=s.all++[⟨x.no,x.other,x.aA,false⟩],aK:=s.aK++[s.all.length] } else none
 else if x.kind=4 then match s.on x with
  |some i=>if (s.aH i).dQ then none else some { s with all:=s.all.set i { s.aH i with dQ:=true } }
  |none=>none
 else if x.kind=5 then match s.on x with
  |some i=>some { s with aK:=s.aK.erase i }
  |none=>none
 else if x.kind=6 then match s.on x with
  |some i=>if (s.aH i).dQ then some { s with aK:=s.aK.erase i,here:=gb s.here x.aA } else none
  |none=>none
 else if x.kind=7 then if s.unknown x=true∧x.aA∉s.here∧s.fx x.aA=false then some { s with bK:=s.bK++[x],here:=gb s.here x.aA } else none
 else if x.kind=8 then if s.unknown x=true then some { s with bK:=s.bK++[x] } else none
 else none
def eb(s:az)(x:aQ):Option az:=if gj x then eE s x else none
structure cK (s:az):Prop where
 cN:∀ i∈s.aK,i<s.all.length
 kz:s.aK.Nodup
 ah:s.here.Nodup
theorem qJ{l:List Int}{b:Int}(h:l.Nodup):(gb l b).Nodup:=by
 unfold gb;split
 ·exact h
 ·rename_i hb;exact zv8.2 ⟨h,by simp,fun a ha c hc e=>by rw[zy2.1 hc] at e;exact hb (e▸ha)⟩
theorem cK.next{s s':az}{x:aQ}(h:cK s)(hn:eE s x=some s'):cK s'∧s'.aE=s.aE∧s'.all.length≤s.all.length+1∧(x.kind≠3→s'.all.length=s.all.length):=by
 obtain ⟨U,ab,af⟩:=h;simp only[eE] at hn;split at hn
 ·split at hn <;>cases hn
  exact ⟨⟨U,ab,qJ af⟩,rfl,by simp,fun _=>rfl⟩
 split at hn
 ·split at hn <;>cases hn
  exact ⟨⟨U,ab,af.erase _⟩,rfl,by simp,fun _=>rfl⟩
 split at hn
 ·rename_i hk;split at hn <;>cases hn
  refine ⟨⟨fun i hi =>?_,?_,af.erase _⟩,rfl,by simp,fun h=>absurd hk h⟩
  ·simp only[zy8,zy2] at hi;simp only[zz6,List.length_singleton];rcases hi with hi | hi
   ·have:=U i hi;omega
   ·omega
  ·exact zv8.2 ⟨ab,by simp,fun a ha c hc e=>by rw[zy2.1 hc] at e;have:=U a ha;omega⟩
 split at hn
 ·split at hn
  ·split at hn <;>cases hn
   exact ⟨⟨fun i hi=>by simpa using U i hi,ab,af⟩,rfl,by simp,fun _=>by simp⟩
  ·cases hn
 split at hn
 ·split at hn <;>cases hn
  exact ⟨⟨fun i hi=>U i (zv0 hi),ab.erase _,af⟩,rfl,by simp,fun _=>rfl⟩
 split at hn
 ·split at hn
  ·split at hn <;>cases hn
   exact ⟨⟨fun i hi=>U i (zv0 hi),ab.erase _,qJ af⟩,rfl,by simp,fun _=>rfl⟩
  ·cases hn
 split at hn
 ·split at hn <;>cases hn
  exact ⟨⟨U,ab,qJ af⟩,rfl,by simp,fun _=>rfl⟩
 split at hn
 ·split at hn <;>cases hn
  exact ⟨⟨U,ab,af⟩,rfl,by simp,fun _=>rfl⟩
 cases hn
theorem iM{ts:List (Nat×I)}{os:List (Nat×ak)}{B:Nat}{ν:Nat→Nat}{s:az}(hg:h2 B ν s.all.length)(hl:∀ i∈s.aK,i<s.all.length)(h:∀ n,av (eg B ν s) n=true→aj os n=aj (eg B ν s) n):Ay (au ts os) B ν s:=by
 have go:∀ n x,aj (eg B ν s) n=some x→(au ts os).o n=some x:=fun n x hx=>(h n (by simp[av,hx])).trans hx;refine ⟨go _ _ fY,go _ _ gI,go _ _ gV,go _ _ gW,go _ _ qu,fun i hi =>?_,hl⟩;rw[go _ _ (j7 hg hi)];simp[az.aH,zz2,hi]
def fZ:List PanicEntry:=[{ v:=.iface 112 (.agg #[]),recovered:=false }]
theorem Zl(w:World):Calls Tryd.prog 58 #[.bool false] w fun e w'=>e=.panicked fZ∧w'=w:=by
 go_enter Tryd.func58,Tryd.ntmps58
 go_wp2
 exact ⟨rfl,rfl,rfl⟩
theorem I9:fB Tryd.prog 58 fZ [enc false] [] (fun os'=>os'=[]) :=
 fB.aaK Cb (fun w D vs hv=>by
  have hv':aO w D E0 [.bool false] vs:=hv;simp only[aO] at hv';obtain ⟨v,rest,cs,rfl,U,ab,rfl⟩:=hv';have:v=.bool false:=lU (ku U ab);subst this;exact Zl w) rfl
theorem l6:bp Tryd.prog 58 [enc true] (.tuple []):=by
 refine bp.cw Tryd.func58 Cb Mm Ns (t7 rfl) (fun hwf W0 D0 E1 =>?_);simp only[BQ,GR,bS];have R:=y6 @pc @bL
 repeat' ((first |(with_reducible refine .guard (fun hb =>?_) (fun hb =>?_) <;>try simp only[hb])|refine ae.aM (by decide +kernel) rfl fun K hK =>?_|(refine .aD [0,3] hK ?_;clear hK K)|(with_reducible refine .done (hK _ ?_);clear hK K)|refine ae.of rfl ?_|(with_reducible refine aF.aL (fun h =>?_) (fun h =>?_) <;>try simp only[h])) <;>try simp only[aN,R,simprocAttr])
 all_goals clear R
 all_goals rfl
theorem aba:ur Tryd.prog 57:=⟨Ca,fun b T w x hb=>by
 refine callsDIn_of_wpSIn Tryd.func57 rfl trivial fun c₀ cs hu =>?_;apply wpSIn_seq;apply wpSIn_region;simp[wpOpsSIn,go_sem,recoverD,hu,Tryd.ntmps57,Exit.thenS];apply wpSIn_seq;apply wpSIn_region;simp[wpOpsSIn,go_sem,Exit.thenS];refine wpSIn_cond (t:=false) (by simp[Act.eval,Array.replicate]) ?_;simp only[zz5,if_false];refine wpSIn_of_wpIn rfl (wpIn_skip ?_);cases c₀
 simp_all[bodyPostS,results,Tryd.results57]⟩
theorem aa9:uk Tryd.prog 57 fZ:=⟨Ca,fun b T w x hb=>by
 have hc:w.cell? ⟨b,0,none⟩=some (.bool x):=by simp[World.cell?,hb]
 have hz:w.frozen? ⟨b,0,none⟩=false:=by simp[World.frozen?,hb]
 have hta:∀ W,(Instr.typeAssert (.iface 112 (.agg #[])) 20 112 true).run Tryd.prog W=.ok (.tuple #[.agg #[],.bool true]) W:=fun W=>by
  simp[Instr.typeAssert,run_underlying Tryd.underlying112]
 refine callsDIn_of_wpSIn Tryd.func57 rfl trivial fun c₀ cs hu =>?_;apply wpSIn_seq;apply wpSIn_region;simp[wpOpsSIn,go_sem,recoverD,hu,Tryd.ntmps57,Exit.thenS,fZ];apply wpSIn_seq;apply wpSIn_region;simp[wpOpsSIn,go_sem,Exit.thenS];refine wpSIn_cond (t:=true) (by simp[Act.eval,Array.replicate]) ?_;simp only[if_true];apply wpSIn_seq;apply wpSIn_seq;apply wpSIn_region;simp[wpOpsSIn,go_sem,Exit.thenS,hta];apply wpSIn_seq;apply wpSIn_region;simp[wpOpsSIn,go_sem,Exit.thenS];refine wpSIn_cond (t:=false) (by simp[Act.eval,Array.replicate]) ?_;simp only[zz5,if_false];refine wpSIn_of_wpIn rfl (wpIn_skip ?_);simp only[Exit.thenS];have hb2:(w.alloc (.cells #[] 112)).heap[b]?=some (.cells #[.bool x] T (0,0)):=(RowKit.Below.heap_alloc _ _ _ (gu hb)).trans hb;have hc2:(w.alloc (.cells #[] 112)).cell? ⟨b,0,none⟩=some (.bool x):=by simp[World.cell?,hb2]
 have hz2:(w.alloc (.cells #[] 112)).frozen? ⟨b,0,none⟩=false:=by simp[World.frozen?,hb2]
 apply wpSIn_region;simp[wpOpsSIn,go_sem,hc2,hz2,bodyPostS,results,Tryd.results57];exact ⟨rfl,_,sf _ _,rfl⟩⟩
abbrev aT(s:az):List (Nat×ak):=eg 1000000 (bJ 1000000) s
def oL(s:az):cE:=fun r os'=>r=.tuple []∧os'=aT s
def lq(s:az)(os':List (Nat×ak)):Prop:=os'=aT s
theorem dN(k:Nat):h2 1000000 (bJ 1000000) k:=h2.bJ _ _
theorem dB{s:az} : ∀ m,av (aT s) m=true→1000000≤m:=acd (dN _) fun i _=>by simp[bJ];omega
theorem jr{s:az}(hk:cK s){n:Nat}{x:ak}(h:aj (aT s) n=some x):x.only (av (aT s))=true∧x.en=true:=mO (dN _) hk.cN h
theorem nK{ts:List (Nat×I)}{os os':List (Nat×ak)}{post:cE}(ho:∀ n,av os' n=true→aj os n=aj os' n)(hg:∀ n x,aj os' n=some x→x.only (av os')=true∧x.en=true)(hp:post (lp []) os'):jS [] post (au ts os) :=
 ⟨os',[],fun n x hx=>⟨by show aj os n=some x;rw[ho n (by simp[av,hx])];exact hx,hg n x hx⟩,trivial,hp⟩
theorem nL(rs post)(A:ai):qe rs post .normal A=jS rs post A:=rfl
theorem jl{Q:Exit→ai→Prop}{ts:List (Nat×I)}{os0:List (Nat×ak)}(hq:Q (.panic fZ) (au ts os0)):pq Tryd.prog Q 58 [.bool false] (au ts os0) :=
 .mk false [] [] [enc false] fZ _ I9 ⟨fun m x h=>by simp[aj] at h,fun m m' h=>by simp[av,aj] at h⟩ ⟨.inl ⟨rfl,rfl,rfl⟩,trivial⟩
  (fun os' h=>by subst h;exact ⟨fun m x h=>by simp[aj] at h,fun m m' h=>by simp[av,aj] at h,fun m h=>h,fun m h=>by simp[av,aj] at h,rfl,fun h=>by cases h⟩) (fun os' h=>by subst h;exact hq)
theorem iO{s:az}(hk:cK s){ts:List (Nat×I)}{z:ak} : zn fZ (lq s) (.panic fZ) (au ts ((3,z)::aT s)) :=
 ⟨rfl,nK (fun n hn=>by have:=dB n hn;simp only[aj];rw[if_neg (by omega)]) (fun _ _ h=>jr hk h) ⟨rfl,rfl⟩⟩
theorem bz:(∀ (a b:Int) v,dX [.int .i64 a,.mref 1000001,.mref 1000002,.int .i64 b,.mref 1000003,.mref 1000004] 0 0 v=some v)∧(∀ (a b:Int) v,dX [.int .i64 a,.mref 1000001,.mref 1000002,.int .i64 b,.mref 1000003,.mref 1000004] 1 1 v=some v)∧(∀ (a b:Int) v,dX [.int .i64 a,.mref 1000001,.mref 1000002,.int .i64 b,.mref 1000003,.mref 1000004] 2 2 v=some v)∧(∀ (a b:Int) v,dX [.int .i64 a,.mref 1000001,.mref 1000002,.int .i64 b,.mref 1000003,.mref 1000004] 3 3 v=some v)∧(∀ (a b:Int) v,dX [.int .i64 a,.mref 1000001,.mref 1000002,.int .i64 b,.mref 1000003,.mref 1000004] 4 4 v=some v)∧(∀ (a b:Int) v,dX [.int .i64 a,.mref 1000001,.mref 1000002,.int .i64 b,.mref 1000003,.mref 1000004] 5 5 v=some v)∧(∀ a b c d e:I,(I.agg [a,.mref 1000001,b,c,d,e]).bG=false) :=
 ⟨fun _ _ _=>rfl,fun _ _ _=>rfl,fun _ _ _=>rfl,fun _ _ _=>rfl,fun _ _ _=>rfl,fun _ _ _=>rfl,fun a b c d e=>by simp[I.bG,I.cq]⟩
theorem Jd(s:az)(hk:cK s)(x:aQ)(hy:x.aA∉s.here∧s.fx x.aA=false):cU Tryd.prog 64 [.ptr 1000000 [],enc x] (aT s) (oL { s with here:=gb s.here x.aA }):=by
 refine cU.cw Tryd.func64 Cc Ct Nx (t7 rfl) (t7 rfl) dB (fun hwf W0 D0 E1 =>?_);simp only[xh,GX,bS,zz4];clear hwf;have n3:aj (aT s) 3=none:=eP (.inl (by omega)) fun i _=>by simp[bJ];omega
 have bf:aj (aT s) 1000000=some (.box (.agg [.int .i64 s.aE,.mref 1000001,.mref 1000002,.int .i64 s.all.length,.mref 1000003,.mref 1000004])):=fY;have U:aj (aT s) 1000001=some (.bE (s.here.map enc) (List.replicate s.here.length (.bool true))):=gI;have ab:aj (aT s) 1000002=some (.bE (s.bx.map enc) (ea (bJ 1000000) s.aK)):=gV;have af:aj (aT s) 1000003=some (.bE (s.c9.map enc) (s.bK.map enc)):=gW;have hfin:∀ ts,c7 (au ts ((3,.box (enc x))::aT s)) 9 (.agg [.int .i64 s.aE,.mref 1000001,.mref 1000002,.int .i64 s.all.length,.mref 1000003,.mref 1000004])=some (gH s):=fun ts =>
  iI (iM (dN _) hk.cN fun n hn=>by have:=dB n hn;simp only[aj];rw[if_neg (by omega)]) 4
 have hlk:=gR e8 x.aA s.here;rw[eQ] at hlk;have q1:decide (x.aA∈s.here)=false:=decide_eq_false hy.1;have hF:=r3 s x.aA;rw[hy.2] at hF;have hup:=yU e8 x.aA s.here;rw[eQ] at hup;have R:=y6 @n3 (y6 @bf (y6 @U (y6 @hfin (y6 @hlk (y6 @q1 (y6 @hup (y6 @bz (y6 @bw aI))))))))
 repeat' ((first |(with_reducible refine .guard (fun hb =>?_) (fun hb =>?_) <;>try simp only[hb])|refine ae.aM (by decide +kernel) rfl fun K hK =>?_|refine .flat _ (hF) rfl ?_|refine .flat _ (l6) rfl ?_|(refine .aD [0,1,3] hK ?_;clear hK K)|(with_reducible refine .done (hK _ ?_);clear hK K)|refine ae.of rfl ?_|(with_reducible refine aF.aL (fun h =>?_) (fun h =>?_) <;>try simp only[h])) <;>try simp only[aN,R,simprocAttr])
 all_goals clear R
 rw[nL];refine nK (fun n hn =>?_) (fun _ _ h=>jr (s := { s with here:=gb s.here x.aA }) ⟨hk.cN,hk.kz,qJ hk.ah⟩ h) ⟨rfl,rfl⟩;have:=dB n hn;simp only[aT,eg,aj];rw[if_neg (show ¬ n=3 by omega)]
 (repeat' split) <;>first | rfl | omega
theorem Je(s:az)(hk:cK s)(x:aQ)(hy:x.aA∈s.here∨s.fx x.aA=true):fB Tryd.prog 64 fZ [.ptr 1000000 [],enc x] (aT s) (lq s):=by
 refine fB.mk Tryd.func64 Cc Ct (t7 rfl) (t7 rfl) dB (fun hwf W0 D0 E1 =>?_);simp only[xh,bS,zz4];clear hwf;have n3:aj (aT s) 3=none:=eP (.inl (by omega)) fun i _=>by simp[bJ];omega
 have bf:aj (aT s) 1000000=some (.box (.agg [.int .i64 s.aE,.mref 1000001,.mref 1000002,.int .i64 s.all.length,.mref 1000003,.mref 1000004])):=fY;have U:aj (aT s) 1000001=some (.bE (s.here.map enc) (List.replicate s.here.length (.bool true))):=gI;have ab:aj (aT s) 1000002=some (.bE (s.bx.map enc) (ea (bJ 1000000) s.aK)):=gV;have af:aj (aT s) 1000003=some (.bE (s.c9.map enc) (s.bK.map enc)):=gW;have hfin:∀ ts,c7 (au ts ((3,.box (enc x))::aT s)) 9 (.agg [.int .i64 s.aE,.mref 1000001,.mref 1000002,.int .i64 s.all.length,.mref 1000003,.mref 1000004])=some (gH s):=fun ts =>
  iI (iM (dN _) hk.cN fun n hn=>by have:=dB n hn;simp only[aj];rw[if_neg (by omega)]) 4
 have hlk:=gR e8 x.aA s.here;rw[eQ] at hlk;have hF:=r3 s x.aA;rcases q1:decide (x.aA∈s.here)
 ·have q2:s.fx x.aA=true:=hy.resolve_left (by simpa using q1);rw[q2] at hF;have R:=y6 @n3 (y6 @bf (y6 @U (y6 @hfin (y6 @hlk (y6 @q1 (y6 @bz (y6 @bw aI)))))))
  repeat' ((first |(with_reducible refine .guard (fun hb =>?_) (fun hb =>?_) <;>try simp only[hb])|(refine ae.kC (gs:=sL) 15 [] [] [0,1,2,3,4,5,6,7,8,9,10,11,12,13,14] (by decide +kernel) rfl (dC.of (by simp[hU])) fun K hK =>?_;simp only[hZ,sL,ic,zz3,zw3,List.take_zero,zw1,zw2,R,simprocAttr])|refine ae.aM (by decide +kernel) rfl fun K hK =>?_|refine .flat _ (hF) rfl ?_|(refine .aD [0,1,3] hK ?_;clear hK K)|(with_reducible refine .done (hK _ ?_);clear hK K)|refine ae.of rfl ?_|(with_reducible refine aF.aL (fun h =>?_) (fun h =>?_) <;>try simp only[h])) <;>try simp only[aN,R,simprocAttr])
  all_goals clear R
  exact .call (jl (iO hk))
 ·have R:=y6 @n3 (y6 @bf (y6 @U (y6 @hfin (y6 @hlk (y6 @q1 (y6 @bz (y6 @bw aI)))))))
  repeat' ((first |(with_reducible refine .guard (fun hb =>?_) (fun hb =>?_) <;>try simp only[hb])|(refine ae.kC (gs:=sL) 15 [] [] [0,1,2,3,4,5,6,7,8,9,10,11,12,13,14] (by decide +kernel) rfl (dC.of (by simp[hU])) fun K hK =>?_;simp only[hZ,sL,ic,zz3,zw3,List.take_zero,zw1,zw2,R,simprocAttr])|refine ae.aM (by decide +kernel) rfl fun K hK =>?_|refine .flat _ (hF) rfl ?_|(refine .aD [0,1,3] hK ?_;clear hK K)|(with_reducible refine .done (hK _ ?_);clear hK K)|refine ae.of rfl ?_|(with_reducible refine aF.aL (fun h =>?_) (fun h =>?_) <;>try simp only[h])) <;>try simp only[aN,R,simprocAttr])
  all_goals clear R
  exact .call (jl (iO hk))
theorem Jf(s:az)(hk:cK s)(x:aQ)(hy:x.aA∈s.here):cU Tryd.prog 65 [.ptr 1000000 [],enc x] (aT s) (oL { s with here:=s.here.erase x.aA }):=by
 refine cU.cw Tryd.func65 Cd Cu Ny (t7 rfl) (t7 rfl) dB (fun hwf W0 D0 E1 =>?_);simp only[xi,GY,bS,zz4];clear hwf;have n3:aj (aT s) 3=none:=eP (.inl (by omega)) fun i _=>by simp[bJ];omega
 have bf:aj (aT s) 1000000=some (.box (.agg [.int .i64 s.aE,.mref 1000001,.mref 1000002,.int .i64 s.all.length,.mref 1000003,.mref 1000004])):=fY;have U:aj (aT s) 1000001=some (.bE (s.here.map enc) (List.replicate s.here.length (.bool true))):=gI;have ab:aj (aT s) 1000002=some (.bE (s.bx.map enc) (ea (bJ 1000000) s.aK)):=gV;have af:aj (aT s) 1000003=some (.bE (s.c9.map enc) (s.bK.map enc)):=gW;have hfin:∀ ts,c7 (au ts ((3,.box (enc x))::aT s)) 9 (.agg [.int .i64 s.aE,.mref 1000001,.mref 1000002,.int .i64 s.all.length,.mref 1000003,.mref 1000004])=some (gH s):=fun ts =>
  iI (iM (dN _) hk.cN fun n hn=>by have:=dB n hn;simp only[aj];rw[if_neg (by omega)]) 4
 have hlk:=gR e8 x.aA s.here;rw[eQ] at hlk;have q1:decide (x.aA∈s.here)=true:=decide_eq_true hy;have hdl:=Fk hy;have R:=y6 @n3 (y6 @bf (y6 @U (y6 @hfin (y6 @hlk (y6 @q1 (y6 @hdl (y6 @bz (y6 @bw aI))))))))
 repeat' ((first |(with_reducible refine .guard (fun hb =>?_) (fun hb =>?_) <;>try simp only[hb])|refine ae.aM (by decide +kernel) rfl fun K hK =>?_|refine .flat _ (l6) rfl ?_|(refine .aD [0,1,3] hK ?_;clear hK K)|(with_reducible refine .done (hK _ ?_);clear hK K)|refine ae.of rfl ?_|(with_reducible refine aF.aL (fun h =>?_) (fun h =>?_) <;>try simp only[h])) <;>try simp only[aN,R,simprocAttr])
 all_goals clear R
 rw[nL];refine nK (fun n hn =>?_) (fun _ _ h=>jr (s := { s with here:=s.here.erase x.aA }) ⟨hk.cN,hk.kz,hk.ah.erase _⟩ h) ⟨rfl,rfl⟩;have:=dB n hn;simp only[aT,eg,aj];rw[if_neg (show ¬ n=3 by omega)]
 (repeat' split) <;>first | rfl | omega
theorem Jg(s:az)(hk:cK s)(x:aQ)(hy:x.aA∉s.here):fB Tryd.prog 65 fZ [.ptr 1000000 [],enc x] (aT s) (lq s):=by
 refine fB.mk Tryd.func65 Cd Cu (t7 rfl) (t7 rfl) dB (fun hwf W0 D0 E1 =>?_);simp only[xi,bS,zz4];clear hwf;have n3:aj (aT s) 3=none:=eP (.inl (by omega)) fun i _=>by simp[bJ];omega
 have bf:aj (aT s) 1000000=some (.box (.agg [.int .i64 s.aE,.mref 1000001,.mref 1000002,.int .i64 s.all.length,.mref 1000003,.mref 1000004])):=fY;have U:aj (aT s) 1000001=some (.bE (s.here.map enc) (List.replicate s.here.length (.bool true))):=gI;have ab:aj (aT s) 1000002=some (.bE (s.bx.map enc) (ea (bJ 1000000) s.aK)):=gV;have af:aj (aT s) 1000003=some (.bE (s.c9.map enc) (s.bK.map enc)):=gW;have hfin:∀ ts,c7 (au ts ((3,.box (enc x))::aT s)) 9 (.agg [.int .i64 s.aE,.mref 1000001,.mref 1000002,.int .i64 s.all.length,.mref 1000003,.mref 1000004])=some (gH s):=fun ts =>
  iI (iM (dN _) hk.cN fun n hn=>by have:=dB n hn;simp only[aj];rw[if_neg (by omega)]) 4
 have hlk:=gR e8 x.aA s.here;rw[eQ] at hlk;have q1:decide (x.aA∈s.here)=false:=decide_eq_false hy;have R:=y6 @n3 (y6 @bf (y6 @U (y6 @hfin (y6 @hlk (y6 @q1 (y6 @bz (y6 @bw aI)))))))
 repeat' ((first |(with_reducible refine .guard (fun hb =>?_) (fun hb =>?_) <;>try simp only[hb])|(refine ae.kC (gs:=ya) 7 [] [] [0,1,2,3,4,5,6] (by decide +kernel) rfl (dC.of (by simp[hU])) fun K hK =>?_;simp only[hZ,ya,ic,zz3,zw3,List.take_zero,zw1,zw2,R,simprocAttr])|refine ae.aM (by decide +kernel) rfl fun K hK =>?_|(refine .aD [0,1,3] hK ?_;clear hK K)|(with_reducible refine .done (hK _ ?_);clear hK K)|refine ae.of rfl ?_|(with_reducible refine aF.aL (fun h =>?_) (fun h =>?_) <;>try simp only[h])) <;>try simp only[aN,R,simprocAttr])
 all_goals clear R
 exact .call (jl (iO hk))
def F4(s:az)(i:Nat):cE:=fun r os'=>r=.ptr (bJ 1000000 i) []∧os'=aT s
theorem lg:(∀ i,(3=bJ 1000000 i)=False)∧(∀ i,(bJ 1000000 i=3)=False):=⟨fun i=>by simp[bJ];omega,fun i=>by simp[bJ];omega⟩
theorem r6(s:az)(hk:cK s)(x:aQ)(i:Nat)(hy:s.on x=some i):cU Tryd.prog 84 [.ptr 1000000 [],enc x] (aT s) (F4 s i):=by
 refine cU.cw Tryd.func84 Ck CB NI (t7 rfl) (t7 rfl) dB (fun hwf W0 D0 E1 =>?_);simp only[xq,G7,bS,zz4];clear hwf;have n3:aj (aT s) 3=none:=eP (.inl (by omega)) fun i _=>by simp[bJ];omega
 have bf:aj (aT s) 1000000=some (.box (.agg [.int .i64 s.aE,.mref 1000001,.mref 1000002,.int .i64 s.all.length,.mref 1000003,.mref 1000004])):=fY;have U:aj (aT s) 1000001=some (.bE (s.here.map enc) (List.replicate s.here.length (.bool true))):=gI;have ab:aj (aT s) 1000002=some (.bE (s.bx.map enc) (ea (bJ 1000000) s.aK)):=gV;have af:aj (aT s) 1000003=some (.bE (s.c9.map enc) (s.bK.map enc)):=gW;have hfin:∀ ts,c7 (au ts ((3,.box (enc x))::aT s)) 9 (.agg [.int .i64 s.aE,.mref 1000001,.mref 1000002,.int .i64 s.all.length,.mref 1000003,.mref 1000004])=some (gH s):=fun ts =>
  iI (iM (dN _) hk.cN fun n hn=>by have:=dB n hn;simp only[aj];rw[if_neg (by omega)]) 4
 have hlk:=gR e8 x.aA s.here;rw[eQ] at hlk;obtain ⟨ha,hb1,hb2⟩:=ny hy;have hil:=(iQ ha).1;have hlt:=hk.cN i hil;have hlr:=vu (s:=s) (fun i=>.ptr (bJ 1000000 i) []) x.no;have hpt:(s.aK.map fun i=>I.ptr (bJ 1000000 i) [])=ea (bJ 1000000) s.aK:=rfl;rw[hpt] at hlr;rw[ha] at hlr;simp only at hlr;have hb:aj (aT s) (bJ 1000000 i)=some (.box (enc (s.aH i))):=by
  have:=j7 (dN s.all.length) (B:=1000000) hlt;rw[this];simp[az.aH,zz2,hlt]
 have q1:((s.aH i).to==x.other)=true:=by simpa using hb1
 have q2:((s.aH i).aA==x.aA)=true:=by simpa using hb2
 have R:=y6 @n3 (y6 @bf (y6 @ab (y6 @hb (y6 @hlr (y6 @q1 (y6 @q2 (y6 @lg (y6 @bz (y6 @bw aI)))))))))
 repeat' ((first |(with_reducible refine .guard (fun hb =>?_) (fun hb =>?_) <;>try simp only[hb])|refine ae.aM (by decide +kernel) rfl fun K hK =>?_|refine .flat _ (l6) rfl ?_|(refine .aD [0,1,3,4,5,6] hK ?_;clear hK K)|(with_reducible refine .done (hK _ ?_);clear hK K)|refine ae.of rfl ?_|(with_reducible refine aF.aL (fun h =>?_) (fun h =>?_) <;>try simp only[h])) <;>try simp only[aN,R,simprocAttr])
 all_goals clear R
 refine ⟨aT s,[.ptr (bJ 1000000 i) []],fun n y hy=>⟨?_,jr hk hy⟩,⟨⟨_,rfl,.inl ⟨rfl,rfl,?_⟩⟩,trivial⟩,rfl,rfl⟩
 ·have:=dB (s:=s) n (by simp[av,hy])
  show aj ((3,_)::aT s) n=_
  simp only[aj];rw[if_neg (by omega)];exact hy
 ·exact (dV (dN _)).2 (.inr ⟨i,hlt,rfl⟩)
theorem Js(s:az)(hk:cK s)(x:aQ)(hy:s.on x=none):fB Tryd.prog 84 fZ [.ptr 1000000 [],enc x] (aT s) (lq s):=by
 refine fB.mk Tryd.func84 Ck CB (t7 rfl) (t7 rfl) dB (fun hwf W0 D0 E1 =>?_);simp only[xq,bS,zz4];clear hwf;have n3:aj (aT s) 3=none:=eP (.inl (by omega)) fun i _=>by simp[bJ];omega
 have bf:aj (aT s) 1000000=some (.box (.agg [.int .i64 s.aE,.mref 1000001,.mref 1000002,.int .i64 s.all.length,.mref 1000003,.mref 1000004])):=fY;have U:aj (aT s) 1000001=some (.bE (s.here.map enc) (List.replicate s.here.length (.bool true))):=gI;have ab:aj (aT s) 1000002=some (.bE (s.bx.map enc) (ea (bJ 1000000) s.aK)):=gV;have af:aj (aT s) 1000003=some (.bE (s.c9.map enc) (s.bK.map enc)):=gW;have hfin:∀ ts,c7 (au ts ((3,.box (enc x))::aT s)) 9 (.agg [.int .i64 s.aE,.mref 1000001,.mref 1000002,.int .i64 s.all.length,.mref 1000003,.mref 1000004])=some (gH s):=fun ts =>
  iI (iM (dN _) hk.cN fun n hn=>by have:=dB n hn;simp only[aj];rw[if_neg (by omega)]) 4
 have hlk:=gR e8 x.aA s.here;rw[eQ] at hlk;have hlr:=vu (s:=s) (fun i=>.ptr (bJ 1000000 i) []) x.no;have hpt:(s.aK.map fun i=>I.ptr (bJ 1000000 i) [])=ea (bJ 1000000) s.aK:=rfl;rw[hpt] at hlr;cases ha:s.at x.no with
 |none =>
  rw[ha] at hlr;simp only at hlr;have R:=y6 @n3 (y6 @bf (y6 @ab (y6 @hlr (y6 @lg (y6 @bz (y6 @bw aI))))))
  repeat' ((first |(with_reducible refine .guard (fun hb =>?_) (fun hb =>?_) <;>try simp only[hb])|(refine ae.kC (gs:=pL) 19 [] [] [0,1,2,3,4,5,6,7,8,9,10,11,12,13,14,15,16,17,18] (by decide +kernel) rfl (dC.of (by simp[hU])) fun K hK =>?_;simp only[hZ,pL,ic,zz3,zw3,List.take_zero,zw1,zw2,R,simprocAttr])|refine ae.aM (by decide +kernel) rfl fun K hK =>?_|(refine .aD [0,1,3,4,5,6] hK ?_;clear hK K)|(with_reducible refine .done (hK _ ?_);clear hK K)|refine ae.of rfl ?_|(with_reducible refine aF.aL (fun h =>?_) (fun h =>?_) <;>try simp only[h])) <;>try simp only[aN,R,simprocAttr])
  all_goals clear R
  exact .call (jl (iO hk))
 |some i =>
  have hil:=(iQ ha).1;have hlt:=hk.cN i hil;rw[ha] at hlr;simp only at hlr;have hb:aj (aT s) (bJ 1000000 i)=some (.box (enc (s.aH i))):=by
   have:=j7 (dN s.all.length) (B:=1000000) hlt;rw[this];simp[az.aH,zz2,hlt]
  rcases q1:((s.aH i).to==x.other)
  ·have R:=y6 @n3 (y6 @bf (y6 @ab (y6 @hb (y6 @hlr (y6 @q1 (y6 @lg (y6 @bz (y6 @bw aI))))))))
   repeat' ((first |(with_reducible refine .guard (fun hb =>?_) (fun hb =>?_) <;>try simp only[hb])|(refine ae.kC (gs:=pL) 19 [] [] [0,1,2,3,4,5,6,7,8,9,10,11,12,13,14,15,16,17,18] (by decide +kernel) rfl (dC.of (by simp[hU])) fun K hK =>?_;simp only[hZ,pL,ic,zz3,zw3,List.take_zero,zw1,zw2,R,simprocAttr])|refine ae.aM (by decide +kernel) rfl fun K hK =>?_|(refine .aD [0,1,3,4,5,6] hK ?_;clear hK K)|(with_reducible refine .done (hK _ ?_);clear hK K)|refine ae.of rfl ?_|(with_reducible refine aF.aL (fun h =>?_) (fun h =>?_) <;>try simp only[h])) <;>try simp only[aN,R,simprocAttr])
   all_goals clear R
   exact .call (jl (iO hk))
  ·have q2:((s.aH i).aA==x.aA)=false:=by
    simp only[az.on,ha] at hy;split at hy
    ·cases hy
    ·rename_i h;simp only[beq_iff_eq] at q1;simp only[beq_eq_false_iff_ne,ne_eq];exact fun e=>h ⟨q1,e⟩
   have R:=y6 @n3 (y6 @bf (y6 @ab (y6 @hb (y6 @hlr (y6 @q1 (y6 @q2 (y6 @lg (y6 @bz (y6 @bw aI)))))))))
   repeat' ((first |(with_reducible refine .guard (fun hb =>?_) (fun hb =>?_) <;>try simp only[hb])|(refine ae.kC (gs:=pL) 19 [] [] [0,1,2,3,4,5,6,7,8,9,10,11,12,13,14,15,16,17,18] (by decide +kernel) rfl (dC.of (by simp[hU])) fun K hK =>?_;simp only[hZ,pL,ic,zz3,zw3,List.take_zero,zw1,zw2,R,simprocAttr])|refine ae.aM (by decide +kernel) rfl fun K hK =>?_|(refine .aD [0,1,3,4,5,6] hK ?_;clear hK K)|(with_reducible refine .done (hK _ ?_);clear hK K)|refine ae.of rfl ?_|(with_reducible refine aF.aL (fun h =>?_) (fun h =>?_) <;>try simp only[h])) <;>try simp only[aN,R,simprocAttr])
   all_goals clear R
   exact .call (jl (iO hk))
theorem AY{ts:List (Nat×I)}{s:az}{z:ak} : au ts (aT s++((3,z)::aT s))=au ts ((3,z)::aT s):=by
 simp only[au,ai.mk.injEq,true_and]
 funext n
 rw[gv];cases h:aj (aT s) n with
 |none=>rfl
 |some y =>
  have:=dB (s:=s) n (by simp[av,h]);simp only[aj];rw[if_neg (by omega),h]
theorem Es{s:az}(hk:cK s){z:ak} : hd [] (aT s) ((3,z)::aT s):=by
 refine ⟨fun m y hy=>⟨?_,jr hk hy⟩,fun m m' _ _ h=>h⟩;have hm:=dB (s:=s) m (by simp[av,hy]);rw[ak.lQ (ρ:=bB []) (fun n=>rfl)]
 show aj ((3,z)::aT s) m=some y
 simp only[aj];rw[if_neg (by omega)];exact hy
theorem w8{s:az}(hk:cK s){os0:List (Nat×ak)}{r:I}(hr:r.only (av (aT s))=true):gJ false [] (aT s) os0 r (aT s) :=
 ⟨fun _ _ hy=>⟨(jr hk hy).1,(jr hk hy).2,fun h=>by cases h⟩,fun m m' _ _ h=>h,fun m hm=>hm,(fun m a b=>by rw[a] at b;cases b),hr,(fun h=>by cases h)⟩
theorem uG{s:az}{x:aQ}{A:ai} : iF false A [] (aT s) [.ptr 1000000 [],enc x] [.ptr 1000000 [],enc x] :=
 ⟨.inl ⟨rfl,(dV (dN _)).2 (.inl (by omega)),rfl⟩,.inl ⟨(kj _ _).symm,b7 _ _,eH _⟩,trivial⟩
theorem aW.tO{K:ai→Prop}{s:az}{x:aQ}{i:Nat}{avs:List I}{a1 a2:Option (List I)}{dst:Option Nat}{rest:List aw}{ts:List (Nat×I)}{z:ak}(hk:cK s)(hil:i<s.all.length)(hc:cU Tryd.prog 84 [.ptr 1000000 [],enc x] (aT s) (F4 s i))(hav:avs=[.ptr 1000000 [],enc x])
  (h:aW Tryd.prog dq false K (aC rest ((au ts ((3,z)::aT s)).a8 dst (.ptr (bJ 1000000 i) [])))):aW Tryd.prog dq false K (.call 84 avs a1 a2 dst rest (au ts ((3,z)::aT s))):=by
 subst hav;refine .bP false [] (aT s) [.ptr 1000000 [],enc x] _ rfl hc (Es hk) uG ?_ ?_
 ·rintro r os' ⟨rfl,rfl⟩;exact w8 hk ((dV (dN _)).2 (.inr ⟨i,hil,rfl⟩))
 ·rintro r os' ⟨rfl,rfl⟩;rw[nH,AY];exact h
theorem zo{Q:Exit→ai→Prop}{s:az}(hk:cK s){x:aQ}(hy:s.on x=none){ts:List (Nat×I)}{z:ak}(hq:Q (.panic fZ) (au ts ((3,z)::aT s))):pq Tryd.prog Q 84 [.ptr 1000000 [],enc x] (au ts ((3,z)::aT s)) :=
 .mk false [] (aT s) [.ptr 1000000 [],enc x] fZ _ (Js s hk x hy) (Es hk) uG (fun os' h=>by cases h;exact w8 hk rfl) (fun os' h=>by cases h;rw[nH,AY];exact hq)
theorem Jk(s:az)(hk:cK s)(x:aQ)(i:Nat)(hy:s.on x=some i):cU Tryd.prog 68 [.ptr 1000000 [],enc x] (aT s) (oL { s with aK:=s.aK.erase i }):=by
 refine cU.cw Tryd.func68 Cg Cx NB (t7 rfl) (t7 rfl) dB (fun hwf W0 D0 E1 =>?_);simp only[xl,G1,bS,zz4];clear hwf;have n3:aj (aT s) 3=none:=eP (.inl (by omega)) fun i _=>by simp[bJ];omega
 have bf:aj (aT s) 1000000=some (.box (.agg [.int .i64 s.aE,.mref 1000001,.mref 1000002,.int .i64 s.all.length,.mref 1000003,.mref 1000004])):=fY;have U:aj (aT s) 1000001=some (.bE (s.here.map enc) (List.replicate s.here.length (.bool true))):=gI;have ab:aj (aT s) 1000002=some (.bE (s.bx.map enc) (ea (bJ 1000000) s.aK)):=gV;have af:aj (aT s) 1000003=some (.bE (s.c9.map enc) (s.bK.map enc)):=gW;have hfin:∀ ts,c7 (au ts ((3,.box (enc x))::aT s)) 9 (.agg [.int .i64 s.aE,.mref 1000001,.mref 1000002,.int .i64 s.all.length,.mref 1000003,.mref 1000004])=some (gH s):=fun ts =>
  iI (iM (dN _) hk.cN fun n hn=>by have:=dB n hn;simp only[aj];rw[if_neg (by omega)]) 4
 have hlk:=gR e8 x.aA s.here;rw[eQ] at hlk;obtain ⟨ha,hb1,hb2⟩:=ny hy;have hil:=(iQ ha).1;have hno:=(iQ ha).2;have hlt:=hk.cN i hil;have hb:aj (aT s) (bJ 1000000 i)=some (.box (enc (s.aH i))):=by
  have:=j7 (dN s.all.length) (B:=1000000) hlt;rw[this];simp[az.aH,zz2,hlt]
 have hdl:=Fl (s:=s) (fun i=>.ptr (bJ 1000000 i) []) hil;rw[←hno] at hdl;have hpt:(s.aK.map fun i=>I.ptr (bJ 1000000 i) [])=ea (bJ 1000000) s.aK:=rfl;rw[hpt] at hdl;have R:=y6 @n3 (y6 @bf (y6 @ab (y6 @hb (y6 @hdl (y6 @lg (y6 @bz (y6 @bw aI)))))))
 repeat' ((first |(with_reducible refine .guard (fun hb =>?_) (fun hb =>?_) <;>try simp only[hb])|refine ae.aM (by decide +kernel) rfl fun K hK =>?_|refine aW.tO hk hlt (r6 s hk x i hy) rfl ?_|(refine .aD [0,1,3] hK ?_;clear hK K)|(with_reducible refine .done (hK _ ?_);clear hK K)|refine ae.of rfl ?_|(with_reducible refine aF.aL (fun h =>?_) (fun h =>?_) <;>try simp only[h])) <;>try simp only[aN,R,simprocAttr])
 all_goals clear R
 rw[nL];refine nK (fun n hn =>?_) (fun _ _ h=>jr (s := { s with aK:=s.aK.erase i }) ⟨fun j hj=>hk.cN j (zv0 hj),hk.kz.erase _,hk.ah⟩ h) ⟨rfl,rfl⟩;have:=dB n hn;simp only[aT,eg,aj];rw[if_neg (show ¬ n=3 by omega)]
 (repeat' split) <;>first | rfl | omega
theorem Jl(s:az)(hk:cK s)(x:aQ)(hy:s.on x=none):fB Tryd.prog 68 fZ [.ptr 1000000 [],enc x] (aT s) (lq s):=by
 refine fB.mk Tryd.func68 Cg Cx (t7 rfl) (t7 rfl) dB (fun hwf W0 D0 E1 =>?_);simp only[xl,bS,zz4];clear hwf;have n3:aj (aT s) 3=none:=eP (.inl (by omega)) fun i _=>by simp[bJ];omega
 have bf:aj (aT s) 1000000=some (.box (.agg [.int .i64 s.aE,.mref 1000001,.mref 1000002,.int .i64 s.all.length,.mref 1000003,.mref 1000004])):=fY;have U:aj (aT s) 1000001=some (.bE (s.here.map enc) (List.replicate s.here.length (.bool true))):=gI;have ab:aj (aT s) 1000002=some (.bE (s.bx.map enc) (ea (bJ 1000000) s.aK)):=gV;have af:aj (aT s) 1000003=some (.bE (s.c9.map enc) (s.bK.map enc)):=gW;have hfin:∀ ts,c7 (au ts ((3,.box (enc x))::aT s)) 9 (.agg [.int .i64 s.aE,.mref 1000001,.mref 1000002,.int .i64 s.all.length,.mref 1000003,.mref 1000004])=some (gH s):=fun ts =>
  iI (iM (dN _) hk.cN fun n hn=>by have:=dB n hn;simp only[aj];rw[if_neg (by omega)]) 4
 have hlk:=gR e8 x.aA s.here;rw[eQ] at hlk;have R:=y6 @n3 (y6 @bf (y6 @ab (y6 @lg (y6 @bz (y6 @bw aI)))))
 repeat' ((first |(with_reducible refine .guard (fun hb =>?_) (fun hb =>?_) <;>try simp only[hb])|(refine ae.p9 (gs:=DX) (gs1:=[_,_]) rfl fun K hK =>?_)|refine ae.aM (by decide +kernel) rfl fun K hK =>?_|(refine .aD [0,1,3] hK ?_;clear hK K)|(with_reducible refine .done (hK _ ?_);clear hK K)|refine ae.of rfl ?_|(with_reducible refine aF.aL (fun h =>?_) (fun h =>?_) <;>try simp only[h])) <;>try simp only[aN,R,simprocAttr])
 all_goals clear R
 exact .call (zo hk hy (iO hk))
theorem LA{s:az}{i:Nat}(hlt:i<s.all.length)(r:dG){z:ak} : ∀ n,1000000≤n→aj ((bJ 1000000 i,.box (enc r))::(3,z)::aT s) n=aj (aT { s with all:=s.all.set i r }) n:=by
 intro n hn;have hlen:(s.all.set i r).length=s.all.length:=List.length_set;simp only[aj];rw[if_neg (show ¬ n=3 by omega)];rcases z8 1000000 (bJ 1000000) s.all.length n with h | h | h | h | h | ⟨h,j,hj,e⟩ | ⟨h,hno⟩
 ·subst h;rw[if_neg (by simp[bJ];omega)];simp only[aT,fY,hlen]
 ·subst h;rw[if_neg (by simp[bJ];omega)];simp only[aT,gI]
 ·subst h;rw[if_neg (by simp[bJ];omega)];simp only[aT,gV];rfl
 ·subst h;rw[if_neg (by simp[bJ];omega)];simp only[aT,gW];rfl
 ·subst h;rw[if_neg (by simp[bJ];omega)];simp only[aT,qu]
 ·subst e;have U:=j7 (B:=1000000) (ν:=bJ 1000000) (s:=s) (dN _) hj;have ab:=j7 (B:=1000000) (ν:=bJ 1000000) (s := { s with all:=s.all.set i r }) (dN _) (i:=j) (by simpa using hj);simp only[aT,U,ab];by_cases e:j=i
  ·subst e;simp
  ·have:¬ bJ 1000000 j=bJ 1000000 i:=by simp[bJ];omega
   rw[if_neg this];simp[Ne.symm e]
 ·have U:=eP (B:=1000000) (ν:=bJ 1000000) (s:=s) h hno;have ab:=eP (B:=1000000) (ν:=bJ 1000000) (s := { s with all:=s.all.set i r }) h (by simpa using hno);simp only[aT,U,ab];rw[if_neg (hno i hlt)]
theorem Jj(s:az)(hk:cK s)(x:aQ)(i:Nat)(hy:s.on x=some i)(hc:(s.aH i).dQ=false):cU Tryd.prog 67 [.ptr 1000000 [],enc x] (aT s) (oL { s with all:=s.all.set i { s.aH i with dQ:=true } }):=by
 refine cU.cw Tryd.func67 Cf Cw NA (t7 rfl) (t7 rfl) dB (fun hwf W0 D0 E1 =>?_);simp only[xk,G0,bS,zz4];clear hwf;have n3:aj (aT s) 3=none:=eP (.inl (by omega)) fun i _=>by simp[bJ];omega
 have bf:aj (aT s) 1000000=some (.box (.agg [.int .i64 s.aE,.mref 1000001,.mref 1000002,.int .i64 s.all.length,.mref 1000003,.mref 1000004])):=fY;have U:aj (aT s) 1000001=some (.bE (s.here.map enc) (List.replicate s.here.length (.bool true))):=gI;have ab:aj (aT s) 1000002=some (.bE (s.bx.map enc) (ea (bJ 1000000) s.aK)):=gV;have af:aj (aT s) 1000003=some (.bE (s.c9.map enc) (s.bK.map enc)):=gW;have hfin:∀ ts,c7 (au ts ((3,.box (enc x))::aT s)) 9 (.agg [.int .i64 s.aE,.mref 1000001,.mref 1000002,.int .i64 s.all.length,.mref 1000003,.mref 1000004])=some (gH s):=fun ts =>
  iI (iM (dN _) hk.cN fun n hn=>by have:=dB n hn;simp only[aj];rw[if_neg (by omega)]) 4
 have hlk:=gR e8 x.aA s.here;rw[eQ] at hlk;obtain ⟨ha,hb1,hb2⟩:=ny hy;have hil:=(iQ ha).1;have hno:=(iQ ha).2;have hlt:=hk.cN i hil;have hb:aj (aT s) (bJ 1000000 i)=some (.box (enc (s.aH i))):=by
  have:=j7 (dN s.all.length) (B:=1000000) hlt;rw[this];simp[az.aH,zz2,hlt]
 have hst:∀ A rest,da A none (bJ 1000000 i) [3] (enc (s.aH i)) (.bool true) rest (some (.bool false))=aC rest (A.aZ (bJ 1000000 i) (.box (enc { s.aH i with dQ:=true }))):=fun A rest=>dU rfl rfl rfl;have R:=y6 @n3 (y6 @bf (y6 @ab (y6 @hb (y6 @hc (y6 @hst (y6 @lg (y6 @bz (y6 @bw aI))))))))
 repeat' ((first |(with_reducible refine .guard (fun hb =>?_) (fun hb =>?_) <;>try simp only[hb])|refine ae.aM (by decide +kernel) rfl fun K hK =>?_|refine aW.tO hk hlt (r6 s hk x i hy) rfl ?_|refine .flat _ (l6) rfl ?_|(refine .aD [0,1,3,4] hK ?_;clear hK K)|(with_reducible refine .done (hK _ ?_);clear hK K)|refine ae.of rfl ?_|(with_reducible refine aF.aL (fun h =>?_) (fun h =>?_) <;>try simp only[h])) <;>try simp only[aN,R,simprocAttr])
 all_goals clear R
 rw[nL];exact nK (fun n hn=>LA hlt _ n (dB n hn)) (fun _ _ h=>jr (s := { s with all:=s.all.set i { s.aH i with dQ:=true } }) ⟨fun j hj=>by simpa using hk.cN j hj,hk.kz,hk.ah⟩ h) ⟨rfl,rfl⟩
theorem Av(s:az)(hk:cK s)(x:aQ)(hy:∀ i,s.on x=some i→(s.aH i).dQ=true):fB Tryd.prog 67 fZ [.ptr 1000000 [],enc x] (aT s) (lq s):=by
 refine fB.mk Tryd.func67 Cf Cw (t7 rfl) (t7 rfl) dB (fun hwf W0 D0 E1 =>?_);simp only[xk,bS,zz4];clear hwf;have n3:aj (aT s) 3=none:=eP (.inl (by omega)) fun i _=>by simp[bJ];omega
 have bf:aj (aT s) 1000000=some (.box (.agg [.int .i64 s.aE,.mref 1000001,.mref 1000002,.int .i64 s.all.length,.mref 1000003,.mref 1000004])):=fY;have U:aj (aT s) 1000001=some (.bE (s.here.map enc) (List.replicate s.here.length (.bool true))):=gI;have ab:aj (aT s) 1000002=some (.bE (s.bx.map enc) (ea (bJ 1000000) s.aK)):=gV;have af:aj (aT s) 1000003=some (.bE (s.c9.map enc) (s.bK.map enc)):=gW;have hfin:∀ ts,c7 (au ts ((3,.box (enc x))::aT s)) 9 (.agg [.int .i64 s.aE,.mref 1000001,.mref 1000002,.int .i64 s.all.length,.mref 1000003,.mref 1000004])=some (gH s):=fun ts =>
  iI (iM (dN _) hk.cN fun n hn=>by have:=dB n hn;simp only[aj];rw[if_neg (by omega)]) 4
 have hlk:=gR e8 x.aA s.here;rw[eQ] at hlk;cases hy2:s.on x with
 |none =>
  have R:=y6 @n3 (y6 @bf (y6 @ab (y6 @lg (y6 @bz (y6 @bw aI)))))
  repeat' ((first |(with_reducible refine .guard (fun hb =>?_) (fun hb =>?_) <;>try simp only[hb])|(refine ae.p9 (gs:=DV) (gs1:=[_,_]) rfl fun K hK =>?_)|refine ae.aM (by decide +kernel) rfl fun K hK =>?_|(refine .aD [0,1,3,4] hK ?_;clear hK K)|(with_reducible refine .done (hK _ ?_);clear hK K)|refine ae.of rfl ?_|(with_reducible refine aF.aL (fun h =>?_) (fun h =>?_) <;>try simp only[h])) <;>try simp only[aN,R,simprocAttr])
  all_goals clear R
  exact .call (zo hk hy2 (iO hk))
 |some i =>
  have hc:=hy i hy2;have hy:=hy2;obtain ⟨ha,hb1,hb2⟩:=ny hy;have hil:=(iQ ha).1;have hno:=(iQ ha).2;have hlt:=hk.cN i hil;have hb:aj (aT s) (bJ 1000000 i)=some (.box (enc (s.aH i))):=by
   have:=j7 (dN s.all.length) (B:=1000000) hlt;rw[this];simp[az.aH,zz2,hlt]
  have R:=y6 @n3 (y6 @bf (y6 @ab (y6 @hb (y6 @hc (y6 @lg (y6 @bz (y6 @bw aI)))))))
  repeat' ((first |(with_reducible refine .guard (fun hb =>?_) (fun hb =>?_) <;>try simp only[hb])|(refine ae.p9 (gs:=DW) (gs1:=[_,_,_,_,_]) rfl fun K hK =>?_)|refine ae.aM (by decide +kernel) rfl fun K hK =>?_|refine aW.tO hk hlt (r6 s hk x i hy) rfl ?_|(refine .aD [0,1,3,4] hK ?_;clear hK K)|(with_reducible refine .done (hK _ ?_);clear hK K)|refine ae.of rfl ?_|(with_reducible refine aF.aL (fun h =>?_) (fun h =>?_) <;>try simp only[h])) <;>try simp only[aN,R,simprocAttr])
  all_goals clear R
  exact .call (jl (iO hk))
theorem Jm(s:az)(hk:cK s)(x:aQ)(i:Nat)(hy:s.on x=some i)(hc:(s.aH i).dQ=true):cU Tryd.prog 69 [.ptr 1000000 [],enc x] (aT s) (oL { s with aK:=s.aK.erase i,here:=gb s.here x.aA }):=by
 refine cU.cw Tryd.func69 Ch Cy NC (t7 rfl) (t7 rfl) dB (fun hwf W0 D0 E1 =>?_);simp only[xm,G2,bS,zz4];clear hwf;have n3:aj (aT s) 3=none:=eP (.inl (by omega)) fun i _=>by simp[bJ];omega
 have bf:aj (aT s) 1000000=some (.box (.agg [.int .i64 s.aE,.mref 1000001,.mref 1000002,.int .i64 s.all.length,.mref 1000003,.mref 1000004])):=fY;have U:aj (aT s) 1000001=some (.bE (s.here.map enc) (List.replicate s.here.length (.bool true))):=gI;have ab:aj (aT s) 1000002=some (.bE (s.bx.map enc) (ea (bJ 1000000) s.aK)):=gV;have af:aj (aT s) 1000003=some (.bE (s.c9.map enc) (s.bK.map enc)):=gW;have hfin:∀ ts,c7 (au ts ((3,.box (enc x))::aT s)) 9 (.agg [.int .i64 s.aE,.mref 1000001,.mref 1000002,.int .i64 s.all.length,.mref 1000003,.mref 1000004])=some (gH s):=fun ts =>
  iI (iM (dN _) hk.cN fun n hn=>by have:=dB n hn;simp only[aj];rw[if_neg (by omega)]) 4
 have hlk:=gR e8 x.aA s.here;rw[eQ] at hlk;obtain ⟨ha,hb1,hb2⟩:=ny hy;have hil:=(iQ ha).1;have hno:=(iQ ha).2;have hlt:=hk.cN i hil;have hb:aj (aT s) (bJ 1000000 i)=some (.box (enc (s.aH i))):=by
  have:=j7 (dN s.all.length) (B:=1000000) hlt;rw[this];simp[az.aH,zz2,hlt]
 have hdl:=Fl (s:=s) (fun i=>.ptr (bJ 1000000 i) []) hil;rw[←hno] at hdl;have hpt:(s.aK.map fun i=>I.ptr (bJ 1000000 i) [])=ea (bJ 1000000) s.aK:=rfl;rw[hpt] at hdl;have hup:=yU e8 x.aA s.here;rw[eQ] at hup;have R:=y6 @n3 (y6 @bf (y6 @U (y6 @ab (y6 @hb (y6 @hc (y6 @hdl (y6 @hup (y6 @lg (y6 @bz (y6 @bw aI))))))))))
 repeat' ((first |(with_reducible refine .guard (fun hb =>?_) (fun hb =>?_) <;>try simp only[hb])|refine ae.aM (by decide +kernel) rfl fun K hK =>?_|refine aW.tO hk hlt (r6 s hk x i hy) rfl ?_|refine .flat _ (l6) rfl ?_|(refine .aD [0,1,3] hK ?_;clear hK K)|(with_reducible refine .done (hK _ ?_);clear hK K)|refine ae.of rfl ?_|(with_reducible refine aF.aL (fun h =>?_) (fun h =>?_) <;>try simp only[h])) <;>try simp only[aN,R,simprocAttr])
 all_goals clear R
 rw[nL];refine nK (fun n hn =>?_) (fun _ _ h=>jr (s := { s with aK:=s.aK.erase i,here:=gb s.here x.aA }) ⟨fun j hj=>hk.cN j (zv0 hj),hk.kz.erase _,qJ hk.ah⟩ h) ⟨rfl,rfl⟩;have:=dB n hn;simp only[aT,eg,aj];rw[if_neg (show ¬ n=3 by omega)]
 (repeat' split) <;>first | rfl | omega
theorem Aw(s:az)(hk:cK s)(x:aQ)(hy:∀ i,s.on x=some i→(s.aH i).dQ=false):fB Tryd.prog 69 fZ [.ptr 1000000 [],enc x] (aT s) (lq s):=by
 refine fB.mk Tryd.func69 Ch Cy (t7 rfl) (t7 rfl) dB (fun hwf W0 D0 E1 =>?_);simp only[xm,bS,zz4];clear hwf;have n3:aj (aT s) 3=none:=eP (.inl (by omega)) fun i _=>by simp[bJ];omega
 have bf:aj (aT s) 1000000=some (.box (.agg [.int .i64 s.aE,.mref 1000001,.mref 1000002,.int .i64 s.all.length,.mref 1000003,.mref 1000004])):=fY;have U:aj (aT s) 1000001=some (.bE (s.here.map enc) (List.replicate s.here.length (.bool true))):=gI;have ab:aj (aT s) 1000002=some (.bE (s.bx.map enc) (ea (bJ 1000000) s.aK)):=gV;have af:aj (aT s) 1000003=some (.bE (s.c9.map enc) (s.bK.map enc)):=gW;have hfin:∀ ts,c7 (au ts ((3,.box (enc x))::aT s)) 9 (.agg [.int .i64 s.aE,.mref 1000001,.mref 1000002,.int .i64 s.all.length,.mref 1000003,.mref 1000004])=some (gH s):=fun ts =>
  iI (iM (dN _) hk.cN fun n hn=>by have:=dB n hn;simp only[aj];rw[if_neg (by omega)]) 4
 have hlk:=gR e8 x.aA s.here;rw[eQ] at hlk;cases hy2:s.on x with
 |none =>
  have R:=y6 @n3 (y6 @bf (y6 @ab (y6 @lg (y6 @bz (y6 @bw aI)))))
  repeat' ((first |(with_reducible refine .guard (fun hb =>?_) (fun hb =>?_) <;>try simp only[hb])|(refine ae.p9 (gs:=yc) (gs1:=[_,_]) rfl fun K hK =>?_)|refine ae.aM (by decide +kernel) rfl fun K hK =>?_|(refine .aD [0,1,3] hK ?_;clear hK K)|(with_reducible refine .done (hK _ ?_);clear hK K)|refine ae.of rfl ?_|(with_reducible refine aF.aL (fun h =>?_) (fun h =>?_) <;>try simp only[h])) <;>try simp only[aN,R,simprocAttr])
  all_goals clear R
  exact .call (zo hk hy2 (iO hk))
 |some i =>
  have hc:=hy i hy2;have hy:=hy2;obtain ⟨ha,hb1,hb2⟩:=ny hy;have hil:=(iQ ha).1;have hno:=(iQ ha).2;have hlt:=hk.cN i hil;have hb:aj (aT s) (bJ 1000000 i)=some (.box (enc (s.aH i))):=by
   have:=j7 (dN s.all.length) (B:=1000000) hlt;rw[this];simp[az.aH,zz2,hlt]
  have R:=y6 @n3 (y6 @bf (y6 @ab (y6 @hb (y6 @hc (y6 @lg (y6 @bz (y6 @bw aI)))))))
  repeat' ((first |(with_reducible refine .guard (fun hb =>?_) (fun hb =>?_) <;>try simp only[hb])|(refine ae.p9 (gs:=yc) (gs1:=[_,_,_,_,_,_]) rfl fun K hK =>?_)|refine ae.aM (by decide +kernel) rfl fun K hK =>?_|refine aW.tO hk hlt (r6 s hk x i hy) rfl ?_|(refine .aD [0,1,3] hK ?_;clear hK K)|(with_reducible refine .done (hK _ ?_);clear hK K)|refine ae.of rfl ?_|(with_reducible refine aF.aL (fun h =>?_) (fun h =>?_) <;>try simp only[h])) <;>try simp only[aN,R,simprocAttr])
  all_goals clear R
  exact .call (jl (iO hk))
theorem Fx{s:az}{x:aQ}(h:dF x∉s.c9):fV (.bm [.i .i64,.i .i64]) (.agg [.int .i64 x.other,.int .i64 x.no]) (enc x) (s.c9.map enc) (s.bK.map enc)=some ((({ s with bK:=s.bK++[x] } : az).c9).map enc,(s.bK++[x]).map enc):=by
 have hm:=yT uY (dF x) (enc x) (eH x) s.c9 (s.bK.map enc);have hf:=sE (k:=dF x) (ks:=s.c9);rw[decide_eq_false h] at hf;have e:(enc (dF x):I)=.agg [.int .i64 x.other,.int .i64 x.no]:=rfl;rw[e] at hm;rw[hm];cases hq:s.c9.findIdx? fun y=>decide (dF x=y) with
 |none=>simp[az.c9]
 |some i=>rw[hq] at hf;cases hf
theorem Ic{s:az}{x:aQ}(h:s.unknown x=true):dF x∉s.c9:=by
 simp only[az.unknown,zz1,Bool.not_eq_true',decide_eq_false_iff_not] at h;exact h.2
theorem A8(x:aQ):(ef [.int .i64 0,.int .i64 0] [(0,.int .i64 x.other),(1,.int .i64 x.no)]).map I.agg=some (.agg [.int .i64 x.other,.int .i64 x.no]):=by simp[ef,I.bV,I.size]
theorem Jq(s:az)(hk:cK s)(x:aQ)(hy:s.unknown x=true):cU Tryd.prog 71 [.ptr 1000000 [],enc x] (aT s) (oL { s with bK:=s.bK++[x] }):=by
 refine cU.cw Tryd.func71 Cj CA NG (t7 rfl) (t7 rfl) dB (fun hwf W0 D0 E1 =>?_);simp only[xp,G5,bS,zz4];clear hwf;have n3:aj (aT s) 3=none:=eP (.inl (by omega)) fun i _=>by simp[bJ];omega
 have bf:aj (aT s) 1000000=some (.box (.agg [.int .i64 s.aE,.mref 1000001,.mref 1000002,.int .i64 s.all.length,.mref 1000003,.mref 1000004])):=fY;have U:aj (aT s) 1000001=some (.bE (s.here.map enc) (List.replicate s.here.length (.bool true))):=gI;have ab:aj (aT s) 1000002=some (.bE (s.bx.map enc) (ea (bJ 1000000) s.aK)):=gV;have af:aj (aT s) 1000003=some (.bE (s.c9.map enc) (s.bK.map enc)):=gW;have hfin:∀ ts,c7 (au ts ((3,.box (enc x))::aT s)) 9 (.agg [.int .i64 s.aE,.mref 1000001,.mref 1000002,.int .i64 s.all.length,.mref 1000003,.mref 1000004])=some (gH s):=fun ts =>
  iI (iM (dN _) hk.cN fun n hn=>by have:=dB n hn;simp only[aj];rw[if_neg (by omega)]) 4
 have hlk:=gR e8 x.aA s.here;rw[eQ] at hlk;have hF:=uq s x;rw[hy] at hF;have hup:=Fx (Ic hy);have R:=y6 @n3 (y6 @bf (y6 @af (y6 @hfin (y6 @hup (y6 @A8 (y6 @bz (y6 @bw aI)))))))
 repeat' ((first |(with_reducible refine .guard (fun hb =>?_) (fun hb =>?_) <;>try simp only[hb])|refine ae.aM (by decide +kernel) rfl fun K hK =>?_|refine .flat _ (hF) rfl ?_|refine .flat _ (l6) rfl ?_|(refine .aD [0,1,3] hK ?_;clear hK K)|(with_reducible refine .done (hK _ ?_);clear hK K)|refine ae.of rfl ?_|(with_reducible refine aF.aL (fun h =>?_) (fun h =>?_) <;>try simp only[h])) <;>try simp only[aN,R,simprocAttr])
 all_goals clear R
 rw[nL];refine nK (fun n hn =>?_) (fun _ _ h=>jr (s := { s with bK:=s.bK++[x] }) ⟨hk.cN,hk.kz,hk.ah⟩ h) ⟨rfl,rfl⟩;have:=dB n hn;simp only[aT,eg,aj];rw[if_neg (show ¬ n=3 by omega)]
 (repeat' split) <;>first | rfl | omega
theorem Jr(s:az)(hk:cK s)(x:aQ)(hy:s.unknown x=false):fB Tryd.prog 71 fZ [.ptr 1000000 [],enc x] (aT s) (lq s):=by
 refine fB.mk Tryd.func71 Cj CA (t7 rfl) (t7 rfl) dB (fun hwf W0 D0 E1 =>?_);simp only[xp,bS,zz4];clear hwf;have n3:aj (aT s) 3=none:=eP (.inl (by omega)) fun i _=>by simp[bJ];omega
 have bf:aj (aT s) 1000000=some (.box (.agg [.int .i64 s.aE,.mref 1000001,.mref 1000002,.int .i64 s.all.length,.mref 1000003,.mref 1000004])):=fY;have U:aj (aT s) 1000001=some (.bE (s.here.map enc) (List.replicate s.here.length (.bool true))):=gI;have ab:aj (aT s) 1000002=some (.bE (s.bx.map enc) (ea (bJ 1000000) s.aK)):=gV;have af:aj (aT s) 1000003=some (.bE (s.c9.map enc) (s.bK.map enc)):=gW;have hfin:∀ ts,c7 (au ts ((3,.box (enc x))::aT s)) 9 (.agg [.int .i64 s.aE,.mref 1000001,.mref 1000002,.int .i64 s.all.length,.mref 1000003,.mref 1000004])=some (gH s):=fun ts =>
  iI (iM (dN _) hk.cN fun n hn=>by have:=dB n hn;simp only[aj];rw[if_neg (by omega)]) 4
 have hlk:=gR e8 x.aA s.here;rw[eQ] at hlk;have hF:=uq s x;rw[hy] at hF;have R:=y6 @n3 (y6 @bf (y6 @af (y6 @hfin (y6 @bz (y6 @bw aI)))))
 repeat' ((first |(with_reducible refine .guard (fun hb =>?_) (fun hb =>?_) <;>try simp only[hb])|(refine ae.p9 (gs:=DY) (gs1:=[_,_,_]) rfl fun K hK =>?_)|refine ae.aM (by decide +kernel) rfl fun K hK =>?_|refine .flat _ (hF) rfl ?_|(refine .aD [0,1,3] hK ?_;clear hK K)|(with_reducible refine .done (hK _ ?_);clear hK K)|refine ae.of rfl ?_|(with_reducible refine aF.aL (fun h =>?_) (fun h =>?_) <;>try simp only[h])) <;>try simp only[aN,R,simprocAttr])
 all_goals clear R
 exact .call (jl (iO hk))
theorem Jo(s:az)(hk:cK s)(x:aQ)(hy:s.unknown x=true∧x.aA∉s.here∧s.fx x.aA=false):cU Tryd.prog 70 [.ptr 1000000 [],enc x] (aT s) (oL { s with bK:=s.bK++[x],here:=gb s.here x.aA }):=by
 refine cU.cw Tryd.func70 Ci Cz NF (t7 rfl) (t7 rfl) dB (fun hwf W0 D0 E1 =>?_);simp only[xn,G4,bS,zz4];clear hwf;have n3:aj (aT s) 3=none:=eP (.inl (by omega)) fun i _=>by simp[bJ];omega
 have bf:aj (aT s) 1000000=some (.box (.agg [.int .i64 s.aE,.mref 1000001,.mref 1000002,.int .i64 s.all.length,.mref 1000003,.mref 1000004])):=fY;have U:aj (aT s) 1000001=some (.bE (s.here.map enc) (List.replicate s.here.length (.bool true))):=gI;have ab:aj (aT s) 1000002=some (.bE (s.bx.map enc) (ea (bJ 1000000) s.aK)):=gV;have af:aj (aT s) 1000003=some (.bE (s.c9.map enc) (s.bK.map enc)):=gW;have hfin:∀ ts,c7 (au ts ((3,.box (enc x))::aT s)) 9 (.agg [.int .i64 s.aE,.mref 1000001,.mref 1000002,.int .i64 s.all.length,.mref 1000003,.mref 1000004])=some (gH s):=fun ts =>
  iI (iM (dN _) hk.cN fun n hn=>by have:=dB n hn;simp only[aj];rw[if_neg (by omega)]) 4
 have hlk:=gR e8 x.aA s.here;rw[eQ] at hlk;have hF:=uq s x;rw[hy.1] at hF;have hF2:=r3 s x.aA;rw[hy.2.2] at hF2;have q1:decide (x.aA∈s.here)=false:=decide_eq_false hy.2.1;have hup:=Fx (Ic hy.1);have hup2:=yU e8 x.aA s.here;rw[eQ] at hup2;have R:=y6 @n3 (y6 @bf (y6 @U (y6 @af (y6 @hfin (y6 @hlk (y6 @q1 (y6 @hup (y6 @hup2 (y6 @A8 (y6 @bz (y6 @bw aI)))))))))))
 repeat' ((first |(with_reducible refine .guard (fun hb =>?_) (fun hb =>?_) <;>try simp only[hb])|refine ae.aM (by decide +kernel) rfl fun K hK =>?_|refine .flat _ (hF) rfl ?_|refine .flat _ (hF2) rfl ?_|refine .flat _ (l6) rfl ?_|(refine .aD [0,1,3] hK ?_;clear hK K)|(with_reducible refine .done (hK _ ?_);clear hK K)|refine ae.of rfl ?_|(with_reducible refine aF.aL (fun h =>?_) (fun h =>?_) <;>try simp only[h])) <;>try simp only[aN,R,simprocAttr])
 all_goals clear R
 rw[nL];refine nK (fun n hn =>?_) (fun _ _ h=>jr (s := { s with bK:=s.bK++[x],here:=gb s.here x.aA }) ⟨hk.cN,hk.kz,qJ hk.ah⟩ h) ⟨rfl,rfl⟩;have:=dB n hn;simp only[aT,eg,aj];rw[if_neg (show ¬ n=3 by omega)]
 (repeat' split) <;>first | rfl | omega
theorem Jp(s:az)(hk:cK s)(x:aQ)(hy:¬ (s.unknown x=true∧x.aA∉s.here∧s.fx x.aA=false)):fB Tryd.prog 70 fZ [.ptr 1000000 [],enc x] (aT s) (lq s):=by
 refine fB.mk Tryd.func70 Ci Cz (t7 rfl) (t7 rfl) dB (fun hwf W0 D0 E1 =>?_);simp only[xn,bS,zz4];clear hwf;have n3:aj (aT s) 3=none:=eP (.inl (by omega)) fun i _=>by simp[bJ];omega
 have bf:aj (aT s) 1000000=some (.box (.agg [.int .i64 s.aE,.mref 1000001,.mref 1000002,.int .i64 s.all.length,.mref 1000003,.mref 1000004])):=fY;have U:aj (aT s) 1000001=some (.bE (s.here.map enc) (List.replicate s.here.length (.bool true))):=gI;have ab:aj (aT s) 1000002=some (.bE (s.bx.map enc) (ea (bJ 1000000) s.aK)):=gV;have af:aj (aT s) 1000003=some (.bE (s.c9.map enc) (s.bK.map enc)):=gW;have hfin:∀ ts,c7 (au ts ((3,.box (enc x))::aT s)) 9 (.agg [.int .i64 s.aE,.mref 1000001,.mref 1000002,.int .i64 s.all.length,.mref 1000003,.mref 1000004])=some (gH s):=fun ts =>
  iI (iM (dN _) hk.cN fun n hn=>by have:=dB n hn;simp only[aj];rw[if_neg (by omega)]) 4
 have hlk:=gR e8 x.aA s.here;rw[eQ] at hlk;have hF:=uq s x;have hF2:=r3 s x.aA;rcases q0:s.unknown x
 ·rw[q0] at hF;have R:=y6 @n3 (y6 @bf (y6 @U (y6 @af (y6 @hfin (y6 @hlk (y6 @bz (y6 @bw aI)))))))
  repeat' ((first |(with_reducible refine .guard (fun hb =>?_) (fun hb =>?_) <;>try simp only[hb])|(refine ae.kC (gs:=pK) 20 [] [] [0,1,2,3,4,5,6,7,8,9,10,11,12,13,14,15,16,17,18,19] (by decide +kernel) rfl (dC.of (by simp[hU])) fun K hK =>?_;simp only[hZ,pK,ic,zz3,zw3,List.take_zero,zw1,zw2,R,simprocAttr])|refine ae.aM (by decide +kernel) rfl fun K hK =>?_|refine .flat _ (hF) rfl ?_|(refine .aD [0,1,3] hK ?_;clear hK K)|(with_reducible refine .done (hK _ ?_);clear hK K)|refine ae.of rfl ?_|(with_reducible refine aF.aL (fun h =>?_) (fun h =>?_) <;>try simp only[h])) <;>try simp only[aN,R,simprocAttr])
  all_goals clear R
  exact .call (jl (iO hk))
 rw[q0] at hF;rcases q1:decide (x.aA∈s.here)
 ·have q2:s.fx x.aA=true:=by
   rcases q2:s.fx x.aA
   ·exact absurd ⟨q0,of_decide_eq_false q1,q2⟩ hy
   ·rfl
  rw[q2] at hF2;have R:=y6 @n3 (y6 @bf (y6 @U (y6 @af (y6 @hfin (y6 @hlk (y6 @q1 (y6 @bz (y6 @bw aI))))))))
  repeat' ((first |(with_reducible refine .guard (fun hb =>?_) (fun hb =>?_) <;>try simp only[hb])|(refine ae.kC (gs:=pK) 20 [] [] [0,1,2,3,4,5,6,7,8,9,10,11,12,13,14,15,16,17,18,19] (by decide +kernel) rfl (dC.of (by simp[hU])) fun K hK =>?_;simp only[hZ,pK,ic,zz3,zw3,List.take_zero,zw1,zw2,R,simprocAttr])|refine ae.aM (by decide +kernel) rfl fun K hK =>?_|refine .flat _ (hF) rfl ?_|refine .flat _ (hF2) rfl ?_|(refine .aD [0,1,3] hK ?_;clear hK K)|(with_reducible refine .done (hK _ ?_);clear hK K)|refine ae.of rfl ?_|(with_reducible refine aF.aL (fun h =>?_) (fun h =>?_) <;>try simp only[h])) <;>try simp only[aN,R,simprocAttr])
  all_goals clear R
  exact .call (jl (iO hk))
 ·have R:=y6 @n3 (y6 @bf (y6 @U (y6 @af (y6 @hfin (y6 @hlk (y6 @q1 (y6 @bz (y6 @bw aI))))))))
  repeat' ((first |(with_reducible refine .guard (fun hb =>?_) (fun hb =>?_) <;>try simp only[hb])|(refine ae.kC (gs:=pK) 20 [] [] [0,1,2,3,4,5,6,7,8,9,10,11,12,13,14,15,16,17,18,19] (by decide +kernel) rfl (dC.of (by simp[hU])) fun K hK =>?_;simp only[hZ,pK,ic,zz3,zw3,List.take_zero,zw1,zw2,R,simprocAttr])|refine ae.aM (by decide +kernel) rfl fun K hK =>?_|refine .flat _ (hF) rfl ?_|(refine .aD [0,1,3] hK ?_;clear hK K)|(with_reducible refine .done (hK _ ?_);clear hK K)|refine ae.of rfl ?_|(with_reducible refine aF.aL (fun h =>?_) (fun h =>?_) <;>try simp only[h])) <;>try simp only[aN,R,simprocAttr])
  all_goals clear R
  exact .call (jl (iO hk))
abbrev ik(k:Nat)(s:az):List (Nat×ak):=eg 1000000 (gD 1000000 57 k) s
def vU(k:Nat)(s:az):cE:=fun r os'=>r=.tuple []∧os'=ik k s
theorem iv{k m:Nat}(h:m≤k+1):h2 1000000 (gD 1000000 57 k) m:=h2.gD (by omega) h
theorem wu{s:az}(hk:cK s){k:Nat}(h:s.all.length≤k):ik k s=aT s:=acb hk.cN fun i hi=>nw (by omega)
def jK(s:az)(x:aQ):az := { s with here:=s.here.erase x.aA,all:=s.all++[⟨x.no,x.other,x.aA,false⟩],aK:=s.aK++[s.all.length] }
theorem abL{s:az}(hk:cK s)(x:aQ):cK (jK s x):=by
 refine ⟨fun i hi =>?_,?_,hk.ah.erase _⟩
 ·simp only[jK,zy8,zy2] at hi;simp only[jK,zz6,List.length_singleton];rcases hi with hi | hi
  ·have:=hk.cN i hi;omega
  ·omega
 ·exact zv8.2 ⟨hk.kz,by simp,fun a ha c hc e=>by rw[zy2.1 hc] at e;have:=hk.cN a ha;omega⟩
theorem Zu{s:az}(hk:cK s){no:Int}(hno:no=(s.all.length:Int)+1)(v:I)(hv:v.bV=true):fV (.i .i64) (.int .i64 no) v (s.bx.map enc) (ea (bJ 1000000) s.aK)=some ((s.bx++[no]).map enc,ea (bJ 1000000) s.aK++[v]):=by
 have hm:=yT e8 no v hv s.bx (ea (bJ 1000000) s.aK);rw[eQ] at hm;rw[hm];have hf:=sE (k:=no) (ks:=s.bx);have:no∉s.bx:=fun h=>by
  obtain ⟨i,hi,e⟩:=zy7.1 h;have:=hk.cN i hi;omega
 rw[decide_eq_false this] at hf;cases hq:s.bx.findIdx? fun y=>decide (no=y) with
 |none=>rfl
 |some i=>rw[hq] at hf;cases hf
theorem Jh(s:az)(hk:cK s)(hlen:s.all.length≤100000)(x:aQ)(hy:x.aA∈s.here∧x.other≠s.aE∧x.no=(s.all.length:Int)+1):cU Tryd.prog 66 [.ptr 1000000 [],enc x] (aT s) (vU s.all.length (jK s x)):=by
 refine cU.cw Tryd.func66 Ce Cv Nz (t7 rfl) (t7 rfl) dB (fun hwf W0 D0 E1 =>?_);simp only[xj,GZ,bS,zz4];clear hwf;have n3:aj (aT s) 3=none:=eP (.inl (by omega)) fun i _=>by simp[bJ];omega
 have n57:aj (aT s) 57=none:=eP (.inl (by omega)) fun i _=>by simp[bJ];omega
 have bf:aj (aT s) 1000000=some (.box (.agg [.int .i64 s.aE,.mref 1000001,.mref 1000002,.int .i64 s.all.length,.mref 1000003,.mref 1000004])):=fY;have U:aj (aT s) 1000001=some (.bE (s.here.map enc) (List.replicate s.here.length (.bool true))):=gI;have ab:aj (aT s) 1000002=some (.bE (s.bx.map enc) (ea (bJ 1000000) s.aK)):=gV;have hlk:=gR e8 x.aA s.here;rw[eQ] at hlk;have q1:decide (x.aA∈s.here)=true:=decide_eq_true hy.1;have q2:(x.other != s.aE)=true:=by simpa using hy.2.1
 have hw:IntKind.i64.wrap ((s.all.length:Int)+1)=(s.all.length:Int)+1:=jR _ (by omega) (by omega);have q3:(x.no==(s.all.length:Int)+1)=true:=by simpa using hy.2.2
 have hdl:=Fk hy.1;have hup:=Zu hk hy.2.2 (.ptr 57 []) rfl;have hst:∀ A rest,da A none 1000000 [3] (.agg [.int .i64 s.aE,.mref 1000001,.mref 1000002,.int .i64 s.all.length,.mref 1000003,.mref 1000004]) (.int .i64 ((s.all.length:Int)+1)) rest (some (.int .i64 s.all.length)) =
   aC rest (A.aZ 1000000 (.box (.agg [.int .i64 s.aE,.mref 1000001,.mref 1000002,.int .i64 ((s.all.length:Int)+1),.mref 1000003,.mref 1000004]))):=fun A rest=>dU rfl rfl rfl
 have hbld:(ef [.int .i64 0,.int .i64 0,.int .i64 0,.bool false] [(0,.int .i64 x.no),(1,.int .i64 x.other),(2,.int .i64 x.aA)]).map I.agg=some (enc (⟨x.no,x.other,x.aA,false⟩:dG)):=by simp[ef,I.bV,I.size];rfl
 have offT:∀ (a b:Int) v,dX [.int .i64 a,.mref 1000001,.mref 1000002,.int .i64 (b+1),.mref 1000003,.mref 1000004] 2 2 v=some v:=fun a b v=>rfl;have R:=y6 @n3 (y6 @n57 (y6 @bf (y6 @U (y6 @ab (y6 @hlk (y6 @q1 (y6 @q2 (y6 @hw (y6 @q3 (y6 @hdl (y6 @hup (y6 @hst (y6 @hbld (y6 @offT (y6 @bz (y6 @bw aI))))))))))))))))
 repeat' ((first |(with_reducible refine .guard (fun hb =>?_) (fun hb =>?_) <;>try simp only[hb])|refine ae.aM (by decide +kernel) rfl fun K hK =>?_|refine .flat _ (l6) rfl ?_|(refine .aD [0,1,3] hK ?_;clear hK K)|(with_reducible refine .done (hK _ ?_);clear hK K)|refine ae.of rfl ?_|(with_reducible refine aF.aL (fun h =>?_) (fun h =>?_) <;>try simp only[h])) <;>try simp only[aN,R,simprocAttr])
 all_goals clear R
 rw[nL];have hg:=iv (k:=s.all.length) (m:=(jK s x).all.length) (by simp[jK]);refine nK (fun n hn =>?_) (fun _ _ h=>mO hg (abL hk x).cN h) ⟨rfl,rfl⟩;have hl1:(jK s x).all.length=s.all.length+1:=by simp[jK]
 have hp:ea (gD 1000000 57 s.all.length) (s.aK++[s.all.length])=ea (bJ 1000000) s.aK++[.ptr 57 []]:=by
  simp only[ea,zx2,zz7,zx8]
  congr 1
  ·exact List.map_congr_left fun i hi=>by rw[nw (hk.cN i hi)]
  ·simp[gD]
 have hnu:(jK s x).bx=s.bx++[x.no]:=by simp[az.bx,jK,hy.2.2]
 rcases (dV hg).1 hn with hb | ⟨j,hj,rfl⟩
 ·have hc:n=1000000∨n=1000001∨n=1000002∨n=1000003∨n=1000004:=by omega
  rcases hc with rfl | rfl | rfl | rfl | rfl
  ·rw[fY];simp[aj,o7,jK]
  ·rw[show (1000001:Nat)=1000000+1 from rfl,gI];simp[aj,rm,jK]
  ·rw[show (1000002:Nat)=1000000+2 from rfl,gV];simp only[qg,hnu];simp only[jK,hp];simp[aj]
  ·rw[show (1000003:Nat)=1000000+3 from rfl,gW];have:=gW (B:=1000000) (ν:=bJ 1000000) (s:=s);simp only[aj,Nat.reduceAdd,Nat.reduceEqDiff,if_false];exact this
  ·rw[show (1000004:Nat)=1000000+4 from rfl,qu];have:=qu (B:=1000000) (ν:=bJ 1000000) (s:=s);simp only[aj,Nat.reduceAdd,Nat.reduceEqDiff,if_false];exact this
 ·rw[j7 hg hj];by_cases e:j=s.all.length
  ·subst e;simp[aj,gD,jK]
  ·have hj2:j<s.all.length:=by omega
   rw[nw hj2];have:=j7 (B:=1000000) (ν:=bJ 1000000) (s:=s) (dN _) hj2;simp only[aj];rw[if_neg (by simp[bJ];omega),if_neg (by simp[bJ];omega),if_neg (by simp[bJ];omega),if_neg (by simp[bJ];omega),if_neg (by simp[bJ];omega),this];simp[jK,List.getElem_append_left hj2]
theorem Ji(s:az)(hk:cK s)(hlen:s.all.length≤100000)(x:aQ)(hy:¬ (x.aA∈s.here∧x.other≠s.aE∧x.no=(s.all.length:Int)+1)):fB Tryd.prog 66 fZ [.ptr 1000000 [],enc x] (aT s) (lq s):=by
 refine fB.mk Tryd.func66 Ce Cv (t7 rfl) (t7 rfl) dB (fun hwf W0 D0 E1 =>?_);simp only[xj,bS,zz4];clear hwf;have n3:aj (aT s) 3=none:=eP (.inl (by omega)) fun i _=>by simp[bJ];omega
 have bf:aj (aT s) 1000000=some (.box (.agg [.int .i64 s.aE,.mref 1000001,.mref 1000002,.int .i64 s.all.length,.mref 1000003,.mref 1000004])):=fY;have U:aj (aT s) 1000001=some (.bE (s.here.map enc) (List.replicate s.here.length (.bool true))):=gI;have hlk:=gR e8 x.aA s.here;rw[eQ] at hlk;have hw:IntKind.i64.wrap ((s.all.length:Int)+1)=(s.all.length:Int)+1:=jR _ (by omega) (by omega);rcases q1:decide (x.aA∈s.here)
 ·have R:=y6 @n3 (y6 @bf (y6 @U (y6 @hlk (y6 @q1 (y6 @bz (y6 @bw aI))))))
  repeat' ((first |(with_reducible refine .guard (fun hb =>?_) (fun hb =>?_) <;>try simp only[hb])|(refine ae.kC (gs:=pJ) 26 [] [] [0,1,2,3,4,5,6,7,8,9,10,11,12,13,14,15,16,17,18,19,20,21,22,23,24,25] (by decide +kernel) rfl (dC.of (by simp[hU])) fun K hK =>?_;simp only[hZ,pJ,ic,zz3,zw3,List.take_zero,zw1,zw2,R,simprocAttr])|refine ae.aM (by decide +kernel) rfl fun K hK =>?_|(refine .aD [0,1,3] hK ?_;clear hK K)|(with_reducible refine .done (hK _ ?_);clear hK K)|refine ae.of rfl ?_|(with_reducible refine aF.aL (fun h =>?_) (fun h =>?_) <;>try simp only[h])) <;>try simp only[aN,R,simprocAttr])
  all_goals clear R
  exact .call (jl (iO hk))
 rcases q2:(x.other != s.aE)
 ·have R:=y6 @n3 (y6 @bf (y6 @U (y6 @hlk (y6 @q1 (y6 @q2 (y6 @bz (y6 @bw aI)))))))
  repeat' ((first |(with_reducible refine .guard (fun hb =>?_) (fun hb =>?_) <;>try simp only[hb])|(refine ae.kC (gs:=pJ) 26 [] [] [0,1,2,3,4,5,6,7,8,9,10,11,12,13,14,15,16,17,18,19,20,21,22,23,24,25] (by decide +kernel) rfl (dC.of (by simp[hU])) fun K hK =>?_;simp only[hZ,pJ,ic,zz3,zw3,List.take_zero,zw1,zw2,R,simprocAttr])|refine ae.aM (by decide +kernel) rfl fun K hK =>?_|(refine .aD [0,1,3] hK ?_;clear hK K)|(with_reducible refine .done (hK _ ?_);clear hK K)|refine ae.of rfl ?_|(with_reducible refine aF.aL (fun h =>?_) (fun h =>?_) <;>try simp only[h])) <;>try simp only[aN,R,simprocAttr])
  all_goals clear R
  exact .call (jl (iO hk))
 have q3:(x.no==(s.all.length:Int)+1)=false:=by
  rcases q3:(x.no==(s.all.length:Int)+1)
  ·rfl
  ·exact absurd ⟨of_decide_eq_true q1,by simpa using q2,by simpa using q3⟩ hy
 have R:=y6 @n3 (y6 @bf (y6 @U (y6 @hlk (y6 @q1 (y6 @q2 (y6 @hw (y6 @q3 (y6 @bz (y6 @bw aI)))))))))
 repeat' ((first |(with_reducible refine .guard (fun hb =>?_) (fun hb =>?_) <;>try simp only[hb])|(refine ae.kC (gs:=pJ) 26 [] [] [0,1,2,3,4,5,6,7,8,9,10,11,12,13,14,15,16,17,18,19,20,21,22,23,24,25] (by decide +kernel) rfl (dC.of (by simp[hU])) fun K hK =>?_;simp only[hZ,pJ,ic,zz3,zw3,List.take_zero,zw1,zw2,R,simprocAttr])|refine ae.aM (by decide +kernel) rfl fun K hK =>?_|(refine .aD [0,1,3] hK ?_;clear hK K)|(with_reducible refine .done (hK _ ?_);clear hK K)|refine ae.of rfl ?_|(with_reducible refine aF.aL (fun h =>?_) (fun h =>?_) <;>try simp only[h])) <;>try simp only[aN,R,simprocAttr])
 all_goals clear R
 exact .call (jl (iO hk))
def eh(s:az)(x:aQ):az×Bool:=match eb s x with
 |some s'=>(s',true)
 |none=>(s,false)
def F5(s:az)(x:aQ):cE:=fun r os'=>r=.bool (eh s x).2∧os'=ik s.all.length (eh s x).1
def ke(B:Nat):List I:=[.func 1000064 [.ptr B []],.func 1000065 [.ptr B []],.func 1000066 [.ptr B []],.func 1000067 [.ptr B []],.func 1000068 [.ptr B []],.func 1000069 [.ptr B []],.func 1000070 [.ptr B []],.func 1000071 [.ptr B []]]
def l5(s:az)(x:aQ)(f:FuncId):Prop:=match eE s x with
 |some s'=>cU Tryd.prog f [.ptr 1000000 [],enc x] (aT s) (vU s.all.length s')
 |none=>fB Tryd.prog f fZ [.ptr 1000000 [],enc x] (aT s) (lq s)
theorem cU.post{P:Program}{f:FuncId}{args:List I}{os:List (Nat×ak)}{post post':cE}(h:cU P f args os post)(hp:∀ r os',post r os'→post' r os'):cU P f args os post' :=
 ⟨h.1,fun w D E vs hs hD ho hv=>(h.2 w D E vs hs hD ho hv).mono fun _ _ ⟨v,D',E',r,os',k1,k2,k⟩=>⟨v,D',E',r,os',k1,hp _ _ k2,k⟩⟩
theorem pY{s s':az}{x:aQ}(hk:cK s)(hn:eE s x=some s')(hx:x.kind≠3):∀ r os',oL s' r os'→vU s.all.length s' r os':=by
 rintro r os' ⟨rfl,rfl⟩;obtain ⟨U,_,_,ar⟩:=hk.next hn
 exact ⟨rfl,(wu U (Nat.le_of_eq (ar hx))).symm⟩
theorem yP{s:az}(hk:cK s)(hlen:s.all.length≤100000){x:aQ}(hx:gj x=true) :
  ∃ f:Nat,fL (.i .i64) .dE (.int .i64 x.kind) iy (ke 1000000)=some (.func (f+1000000) [.ptr 1000000 []],true)∧[64,65,66,67,68,69,70,71].contains f=true∧l5 s x f:=by
 have ar:x.kind=1∨x.kind=2∨x.kind=3∨x.kind=4∨x.kind=5∨x.kind=6∨x.kind=7∨x.kind=8:=by
  simp only[gj] at hx;split at hx
  ·omega
  ·split at hx
   ·omega
   ·cases hx
 have lk:∀ n:Int,x.kind=n→fL (.i .i64) .dE (.int .i64 x.kind) iy (ke 1000000)=fL (.i .i64) .dE (.int .i64 n) iy (ke 1000000):=fun n h=>by rw[h]
 rcases ar with h | h | h | h | h | h | h | h
 ·refine ⟨64,by rw[h];simp[fL,eK,cm,iy,ke],rfl,?_⟩;simp only[l5,eE,h,if_true];split
  ·rename_i s' hs;split at hs
   ·cases hs
   ·rename_i hh;cases hs;have hy:x.aA∉s.here∧s.fx x.aA=false:=⟨fun h=>hh (.inl h),by rcases q:s.fx x.aA;rfl;exact absurd (.inr q) hh⟩
    exact cU.post (Jd s hk x hy) (pY (x:=x) hk (by simp[eE,h,hy.1,hy.2]) (by omega))
  ·rename_i hs;split at hs
   ·rename_i hh;exact Je s hk x hh
   ·cases hs
 ·refine ⟨65,by rw[h];simp[fL,eK,cm,iy,ke],rfl,?_⟩;simp only[l5,eE,h,Int.reduceEq,if_false,if_true];split
  ·rename_i s' hs;split at hs
   ·rename_i hh;cases hs;exact cU.post (Jf s hk x hh) (pY (x:=x) hk (by simp[eE,h,hh]) (by omega))
   ·cases hs
  ·rename_i hs;split at hs
   ·cases hs
   ·rename_i hh;exact Jg s hk x hh
 ·refine ⟨66,by rw[h];simp[fL,eK,cm,iy,ke],rfl,?_⟩;simp only[l5,eE,h,Int.reduceEq,if_false,if_true];split
  ·rename_i s' hs;split at hs
   ·rename_i hh;cases hs;exact Jh s hk hlen x hh
   ·cases hs
  ·rename_i hs;split at hs
   ·cases hs
   ·rename_i hh;exact Ji s hk hlen x hh
 ·refine ⟨67,by rw[h];simp[fL,eK,cm,iy,ke],rfl,?_⟩;simp only[l5,eE,h,Int.reduceEq,if_false,if_true];cases ho:s.on x with
  |none=>exact Av s hk x fun i hi=>by rw[ho] at hi;cases hi
  |some i =>
   cases hc:(s.aH i).dQ with
   |true =>
    simp only[hc,if_true];exact Av s hk x fun j hj=>by rw[ho] at hj;cases hj;exact hc
   |false =>
    simp only[hc,zz5,if_false];exact cU.post (Jj s hk x i ho hc) (pY (x:=x) hk (by simp[eE,h,ho,hc]) (by omega))
 ·refine ⟨68,by rw[h];simp[fL,eK,cm,iy,ke],rfl,?_⟩;simp only[l5,eE,h,Int.reduceEq,if_false,if_true];cases ho:s.on x with
  |none=>exact Jl s hk x ho
  |some i=>exact cU.post (Jk s hk x i ho) (pY (x:=x) hk (by simp[eE,h,ho]) (by omega))
 ·refine ⟨69,by rw[h];simp[fL,eK,cm,iy,ke],rfl,?_⟩;simp only[l5,eE,h,Int.reduceEq,if_false,if_true];cases ho:s.on x with
  |none=>exact Aw s hk x fun i hi=>by rw[ho] at hi;cases hi
  |some i =>
   cases hc:(s.aH i).dQ with
   |false =>
    simp only[hc,zz5,if_false];exact Aw s hk x fun j hj=>by rw[ho] at hj;cases hj;exact hc
   |true =>
    simp only[hc,if_true];exact cU.post (Jm s hk x i ho hc) (pY (x:=x) hk (by simp[eE,h,ho,hc]) (by omega))
 ·refine ⟨70,by rw[h];simp[fL,eK,cm,iy,ke],rfl,?_⟩;simp only[l5,eE,h,Int.reduceEq,if_false,if_true];split
  ·rename_i s' hs;split at hs
   ·rename_i hh;cases hs;exact cU.post (Jo s hk x hh) (pY (x:=x) hk (by simp[eE,h,hh.1,hh.2.1,hh.2.2]) (by omega))
   ·cases hs
  ·rename_i hs;split at hs
   ·cases hs
   ·rename_i hh;exact Jp s hk x hh
 ·refine ⟨71,by rw[h];simp[fL,eK,cm,iy,ke],rfl,?_⟩;simp only[l5,eE,h,Int.reduceEq,if_false,if_true];cases hu:s.unknown x with
  |true =>
   simp only[if_true];exact cU.post (Jq s hk x hu) (pY (x:=x) hk (by simp[eE,h,hu]) (by omega))
  |false =>
   simp only[zz5,if_false];exact Jr s hk x hu
def dT(x:aQ)(b:Bool)(l:List (Nat×ak)):List (Nat×ak):=(1900004,.box (.bool b))::(1900003,.box (enc x))::l
def nA(s:az)(x:aQ):cE:=fun r os'=>r=.bool (eh s x).2∧os'=dT x (eh s x).2 (ik s.all.length (eh s x).1)
def mE:List (Nat×Nat):=[(1900003,3),(1900004,4)]
theorem tY{s:az}(hk:cK s)(x:aQ):cK (eh s x).1∧(eh s x).1.aE=s.aE∧s.all.length≤(eh s x).1.all.length∧(eh s x).1.all.length≤s.all.length+1:=by
 simp only[eh];cases h:eb s x with
 |none=>exact ⟨hk,rfl,zz9 _,by simp⟩
 |some s' =>
  simp only[eb] at h;split at h
  ·obtain ⟨U,ab,af,ar⟩:=hk.next h
   refine ⟨U,ab,?_,af⟩;by_cases hk3:x.kind=3
   ·simp only[eE,hk3,Int.reduceEq,if_false,if_true] at h;split at h <;>cases h
    simp
   ·exact Nat.le_of_eq (ar hk3).symm
  ·cases h
theorem wq{s:az}{k:Nat}(h:s.all.length≤k+1){n:Nat}(hn:av (ik k s) n=true):n=57∨(1000000≤n∧n<1000006+k):=by
 rcases (dV (iv h)).1 hn with ab | ⟨i,hi,rfl⟩
 ·omega
 ·simp only[gD];split <;>omega
theorem mM{s:az}{n:Nat}(hn:av (aT s) n=true):1000000≤n∧n<1000005+s.all.length:=by
 rcases (dV (dN _)).1 hn with ab | ⟨i,hi,rfl⟩
 ·omega
 ·simp only[bJ];omega
theorem kB{x:aQ}{b:Bool}{l:List (Nat×ak)}{n:Nat} : av (dT x b l) n=true↔n=1900004∨n=1900003∨av l n=true:=by
 simp only[av,dT,aj];by_cases U:n=1900004
 ·simp[U]
 by_cases ab:n=1900003
 ·simp[ab]
 simp[U,ab]
theorem tu{x:aQ}{b:Bool}{l:List (Nat×ak)}(hl:∀ m y,aj l m=some y→y.only (av l)=true∧y.en=true){n:Nat}{y:ak}(h:aj (dT x b l) n=some y):y.only (av (dT x b l))=true∧y.en=true:=by
 simp only[dT,aj] at h;split at h
 ·cases h;exact ⟨rfl,rfl⟩
 split at h
 ·cases h;exact ⟨b7 _ _,rfl⟩
 obtain ⟨U,ab⟩:=hl n y h;refine ⟨ak.jD (fun m hm=>kB.2 (.inr (.inr hm))) y U,ab⟩
theorem zC(ρ:List (Nat×Nat))(k:Nat)(v:ak)(os:List (Nat×ak)):dc ρ ((k,v)::os)=(bB ρ k,v.bd (bB ρ))::dc ρ os:=rfl
theorem Hp{ρ:List (Nat×Nat)}{ν ν':Nat→Nat} : ∀ (l:List dG) (i:Nat),(∀ k,k<i+l.length→bB ρ (ν k)=ν' k)→dc ρ (kd ν i l)=kd ν' i l
 | [],_,_=>rfl
 |r::l,i,h=>by
  simp only[zw8] at h;simp only[kd,zC,h i (by omega),ak.bd,kj,Hp l (i+1) fun k hk=>h k (by omega)]
theorem Hs{ρ:Nat→Nat}{ν ν':Nat→Nat} : ∀ l:List Nat,(∀ i∈l,ρ (ν i)=ν' i)→I.dh ρ (ea ν l)=ea ν' l
 | [],_=>rfl
 |i::l,h=>by
  have ih:=Hs (ρ:=ρ) l fun j hj=>h j (by simp[hj]);simp only[ea] at ih;simp only[ea,zz7,I.dh,I.bd,h i (by simp),ih]
theorem Hr{ρ:List (Nat×Nat)}{B B':Nat}{ν ν':Nat→Nat}{s:az}(hl:∀ i∈s.aK,i<s.all.length)(bf:∀ j,j<5→bB ρ (B+j)=B'+j)(h:∀ k,k<s.all.length→bB ρ (ν k)=ν' k):dc ρ (eg B ν s)=eg B' ν' s:=by
 have hB:bB ρ B=B':=bf 0 (by omega);have U:=bf 1 (by omega);have ab:=bf 2 (by omega);have af:=bf 3 (by omega);have ar:=bf 4 (by omega);have hp:=Hs (ρ:=bB ρ) s.aK fun i hi=>h i (hl i hi);have hr:I.dh (bB ρ) (List.replicate s.here.length (.bool true))=List.replicate s.here.length (.bool true):=oR _ _ (sn _);simp only[eg,zC,hB,U,ab,af,ar,Hp s.all 0 (by simpa using h),o7,rm,qg,sX,qT,iy,ak.bd,I.bd,I.dh,oS,hp,hr]
theorem tc{ρ:List (Nat×Nat)}{os:List (Nat×ak)}{m:Nat}{y:ak}(inj:∀ m',av os m'=true→bB ρ m'=bB ρ m→m'=m)(h:aj os m=some y):aj (dc ρ os) (bB ρ m)=some (y.bd (bB ρ)):=by
 have U:=rD ρ os [] (bB ρ m);rw[zy1] at U;rw[U];cases hp:pre ρ os (bB ρ m) with
 |none=>exact absurd rfl (vW hp (by simp[av,h]))
 |some m' =>
  obtain ⟨k1,k2⟩:=jG hp;have:=inj m' k1 k2;subst this;simp only[h,zy6]
theorem nO(m:Nat):bB mE m=if m=1900003 then 3 else if m=1900004 then 4 else m:=rfl
theorem Ho{s:az}(hk:cK s){k:Nat}(h:s.all.length≤k+1)(hlen:k≤100000):dc mE (ik k s)=ik k s :=
 Hr hk.cN (fun j hj=>by rw[nO,if_neg (by omega),if_neg (by omega)]) fun i hi=>by
  have:gD 1000000 57 k i=57∨(1000000≤gD 1000000 57 k i∧gD 1000000 57 k i<1000006+k):=by simp only[gD];split <;>omega
  rw[nO,if_neg (by omega),if_neg (by omega)]
theorem abg{s:az}(hk:cK s)(hlen:s.all.length≤100000):dc mE (aT s)=aT s:=by
 rw[←wu hk (zz9 _)];exact Ho hk (by omega) hlen
def zG:bH:=.seq (.cj none DR) (.seq (.cj N0 sI) (.seq (.cj none T0) .ret))
theorem Ov:Tryd.f44.body.bind (xB Tryd.prog Tryd.f44.ntmps)=some (.cj none DQ,57,4,5,zG):=by kernel_rfl
def rK(s:az)(x:aQ):List (Nat×ak):=(4,.box (.bool false))::(3,.box (enc x))::aT s
theorem Yv{s:az}(hk:cK s)(hlen:s.all.length≤100000)(x:aQ):hd mE (dT x false (aT s)) (rK s x):=by
 refine ⟨fun m y hy=>⟨?_,tu (fun _ _ h=>jr hk h) hy⟩,fun m m' hm hm' e =>?_⟩
 ·simp only[dT,aj] at hy;split at hy
  ·rename_i h;subst h;cases hy;rfl
  split at hy
  ·rename_i h;subst h;cases hy;simp only[ak.bd,kj];rfl
  ·have hm:=mM (s:=s) (n:=m) (by simp[av,hy]);have e:bB mE m=m:=by rw[nO,if_neg (by omega),if_neg (by omega)]
   have:=tc (ρ:=mE) (os:=aT s) (m:=m) (fun m' hm' he=>by
    have:=mM hm';rw[e,nO,if_neg (by omega),if_neg (by omega)] at he;exact he) hy
   rw[abg hk hlen] at this;rw[e] at this ⊢;simp only[rK,aj];rw[if_neg (by omega),if_neg (by omega)];exact this
 ·have key:∀ m,av (dT x false (aT s)) m=true→m=1900004∨m=1900003∨(1000000≤m∧m<1900000):=fun m hm=>by
   rcases kB.1 hm with h | h | h
   ·exact .inl h
   ·exact .inr (.inl h)
   ·have:=mM h;exact .inr (.inr (by omega))
  have k1:=key m hm;have k2:=key m' hm';rw[nO,nO] at e
  (repeat' split at e) <;>omega
theorem Kd{s:az}(hk:cK s)(hlen:s.all.length≤100000)(x:aQ):∀ r os',nA s x r os'→gJ false mE (dT x false (aT s)) (rK s x) r os':=by
 rintro r os' ⟨rfl,rfl⟩;obtain ⟨U,ab,af,ar⟩:=tY hk x;have hon:∀ m y,aj (ik s.all.length (eh s x).1) m=some y→y.only (av (ik s.all.length (eh s x).1))=true∧y.en=true:=fun m y h=>mO (iv ar) U.cN h;have key:∀ m,av (dT x (eh s x).2 (ik s.all.length (eh s x).1)) m=true→m=1900004∨m=1900003∨m=57∨(1000000≤m∧m<1900000):=fun m hm=>by
  rcases kB.1 hm with h | h | h
  ·exact .inl h
  ·exact .inr (.inl h)
  ·have:=wq ar h;omega
 refine ⟨fun m y hy=>⟨(tu hon hy).1,(tu hon hy).2,fun h=>by cases h⟩,fun m m' hm hm' e =>?_,fun m hm =>?_,fun m hm hno =>?_,rfl,fun h=>by cases h⟩
 ·have k1:=key m hm;have k2:=key m' hm';rw[nO,nO] at e
  (repeat' split at e) <;>omega
 ·rcases kB.1 hm with h | h | h
  ·exact kB.2 (.inl h)
  ·exact kB.2 (.inr (.inl h))
  ·refine kB.2 (.inr (.inr ?_));rcases (dV (dN _)).1 h with h5 | ⟨i,hi,rfl⟩
   ·exact (dV (iv ar)).2 (.inl h5)
   ·exact (dV (iv ar)).2 (.inr ⟨i,by omega,(nw hi).symm⟩)
 ·have hno2:¬ (m=1900004∨m=1900003∨av (aT s) m=true):=fun h=>by
   rw[kB.2 h] at hno;cases hno
  rcases kB.1 hm with h | h | h
  ·exact absurd (.inl h) hno2
  ·exact absurd (.inr (.inl h)) hno2
  ·have h57:m=57:=by
    rcases (dV (iv ar)).1 h with h5 | ⟨i,hi,e⟩
    ·exact absurd (.inr (.inr ((dV (dN _)).2 (.inl h5)))) hno2
    ·by_cases hi2:i=s.all.length
     ·subst hi2;simpa[gD] using e
     ·exact absurd (.inr (.inr ((dV (dN _)).2 (.inr ⟨i,by omega,by rw[e,nw (by omega)]⟩)))) hno2
   subst h57;refine ⟨?_,by decide⟩
   show aj (rK s x) 57=none
   simp only[rK,aj,Nat.reduceEqDiff,if_false];exact eP (.inl (by omega)) fun i _=>by simp[bJ];omega
theorem Kb{s:az}(hk:cK s)(hlen:s.all.length≤100000)(x:aQ):∀ r os',nA s x r os'→∃ osF,r.flat=true∧r.bd (bB mE)=r∧(∀ m z,aj osF m=some z→aj (dc mE os'++rK s x) m=some z∧z.only (av osF)=true∧z.en=true)∧F5 s x r osF:=by
 rintro r os' ⟨rfl,rfl⟩;obtain ⟨U,ab,af,ar⟩:=tY hk x;refine ⟨ik s.all.length (eh s x).1,rfl,rfl,fun m z hz=>⟨?_,mO (iv ar) U.cN hz⟩,rfl,rfl⟩;have hm:=wq ar (n:=m) (by simp[av,hz]);simp only[dT,zC,Ho U ar hlen,zz3,aj,nO];rw[if_neg (by simp only[Nat.reduceEqDiff,if_false,if_true];omega),if_neg (by simp only[if_true];omega),gv,hz]
theorem Zd(f:Nat):(f+1000000<1000000)=False:=by simp
theorem Er{s:az}(hk:cK s)(hlen:s.all.length≤100000)(x:aQ)(b:Bool):hd [] (aT s) (dT x b (aT s)):=by
 refine ⟨fun m y hy=>⟨?_,jr hk hy⟩,fun m m' _ _ h=>h⟩;have hm:=mM (s:=s) (n:=m) (by simp[av,hy]);rw[ak.lQ (ρ:=bB []) (fun n=>rfl)]
 show aj (dT x b (aT s)) m=some y
 simp only[dT,aj];rw[if_neg (by omega),if_neg (by omega)];exact hy
theorem ab5{s s':az}(hk':cK s')(af:s.all.length≤s'.all.length)(ar:s'.all.length≤s.all.length+1)(x:aQ):gJ false [] (aT s) (dT x false (aT s)) (.tuple []) (ik s.all.length s'):=by
 refine ⟨fun m y hy=>⟨(mO (iv ar) hk'.cN hy).1,(mO (iv ar) hk'.cN hy).2,fun h=>by cases h⟩,fun m m' _ _ h=>h,fun m hm =>?_,fun m hm hno =>?_,rfl,fun h=>by cases h⟩
 ·rcases (dV (dN _)).1 hm with h5 | ⟨i,hi,rfl⟩
  ·exact (dV (iv ar)).2 (.inl h5)
  ·exact (dV (iv ar)).2 (.inr ⟨i,by omega,(nw hi).symm⟩)
 ·have h57:m=57:=by
   rcases (dV (iv ar)).1 hm with h5 | ⟨i,hi,e⟩
   ·rw[(dV (dN _)).2 (.inl h5)] at hno;cases hno
   ·by_cases hi2:i=s.all.length
    ·subst hi2;simpa[gD] using e
    ·rw[(dV (dN _)).2 (.inr ⟨i,by omega,by rw[e,nw (by omega)]⟩)] at hno;cases hno
  subst h57;refine ⟨?_,by decide⟩
  show aj (dT x false (aT s)) 57=none
  simp only[dT,aj,Nat.reduceEqDiff,if_false];exact eP (.inl (by omega)) fun i _=>by simp[bJ];omega
theorem cz.yP{hs:List FuncId}{K:ai→Prop}{f:FuncId}{s s':az}{x:aQ}{avs:List I}{a1 a2:Option (List I)}{dst:Option Nat}{rest:List aw}{ts:List (Nat×I)}(hk:cK s)(hlen:s.all.length≤100000)(hk':cK s')(af:s.all.length≤s'.all.length)(ar:s'.all.length≤s.all.length+1)
  (hf:hs.contains f=true) (hc:cU Tryd.prog f [.ptr 1000000 [],enc x] (aT s) (vU s.all.length s')) (hav:avs=[.ptr 1000000 [],enc x])
  (h:cz Tryd.prog dq hs K (aC rest ((au ts (ik s.all.length s'++dT x false (aT s))).a8 dst (.tuple [])))):cz Tryd.prog dq hs K (.call f avs a1 a2 dst rest (au ts (dT x false (aT s)))):=by
 subst hav;refine .y8 false [] (aT s) [.ptr 1000000 [],enc x] _ hf hc (Er hk hlen x false) uG ?_ ?_
 ·rintro r os' ⟨rfl,rfl⟩;exact ab5 hk' af ar x
 ·rintro r os' ⟨rfl,rfl⟩;rw[nH];exact h
theorem aaE{Q:Exit→ai→Prop}{f:FuncId}{s:az}{x:aQ}(hk:cK s)(hlen:s.all.length≤100000)(hc:fB Tryd.prog f fZ [.ptr 1000000 [],enc x] (aT s) (lq s)){ts:List (Nat×I)}(hq:Q (.panic fZ) (au ts (aT s++dT x false (aT s)))):pq Tryd.prog Q f [.ptr 1000000 [],enc x] (au ts (dT x false (aT s))) :=
 .mk false [] (aT s) [.ptr 1000000 [],enc x] fZ _ hc (Er hk hlen x false) uG (fun os' h=>by cases h;exact w8 hk rfl) (fun os' h=>by cases h;rw[nH];exact hq)
theorem Ka{ts:List (Nat×I)}{s:az}{x:aQ}(hlen:s.all.length≤100000):au ts (aT s++dT x false (aT s))=au ts (dT x false (aT s)):=by
 simp only[au,ai.mk.injEq,true_and]
 funext n
 rw[gv];cases h:aj (aT s) n with
 |none=>rfl
 |some y =>
  have:=mM (s:=s) (n:=n) (by simp[av,h]);simp only[dT,aj];rw[if_neg (by omega),if_neg (by omega),h]
theorem Hi{s:az}{x:aQ}(hk:cK s)(hlen:s.all.length≤100000)(hn:eh s x=(s,false)){ts:List (Nat×I)}(ht:Abs.bC ts 4=.ptr 1900004 []):tJ [.cell 4 none] (nA s x) fZ 1900004 (.panic fZ) (au ts (dT x false (aT s))):=by
 refine ⟨rfl,⟨false,rfl⟩,dT x false (aT s),[.bool false],fun m z hz=>⟨?_,tu (fun _ _ h=>jr hk h) hz⟩,⟨⟨.bool false,?_,.inl ⟨rfl,rfl,rfl⟩⟩,trivial⟩,?_⟩
 ·show aj ((1900004,.box (.bool false))::dT x false (aT s)) m=some z
  simp only[aj];split
  ·rename_i h;subst h;exact hz
  ·exact hz
 ·show (match cM _ (Abs.bC ts 4) with | some x=>if cn none x=true then some x else none | none=>none)=some (I.bool false)
  rw[ht];rfl
 ·show nA s x (.bool false) (dT x false (aT s))
  simp only[nA];rw[hn];exact ⟨rfl,congrArg _ (wu hk (zz9 _)).symm⟩
theorem abn{s:az}(hk:cK s)(hlen:s.all.length≤100000)(x:aQ)(W:World)(D:aX)(E:bj)(n:Nat)(d:Deferred) :
  ae ⟨Tryd.prog,W,D,n,cI E,E,dq,none,some [d]⟩ zG (tJ [.cell 4 none] (nA s x) fZ 1900004) (au [(0,.ptr 1000000 []),(3,.ptr 1900003 []),(4,.ptr 1900004 [])] (dT x false (aT s))):=by
 have bf:aj (dT x false (aT s)) 1000000=some (.box (.agg [.int .i64 s.aE,.mref 1000001,.mref 1000002,.int .i64 s.all.length,.mref 1000003,.mref 1000004])):=by
  simp only[dT,aj,Nat.reduceEqDiff,if_false];exact fY
 have ar:aj (dT x false (aT s)) 1000004=some (.bE iy (ke 1000000)):=by
  simp only[dT,aj,Nat.reduceEqDiff,if_false];exact qu
 have hb3:aj (dT x false (aT s)) 1900003=some (.box (enc x)):=rfl;have hb4:aj (dT x false (aT s)) 1900004=some (.box (.bool false)):=rfl;have hF:=Ja x;simp only[zG];rcases hx:gj x
 ·rw[hx] at hF;have hn:eh s x=(s,false):=by simp[eh,eb,hx]
  have R:=y6 @bf (y6 @ar (y6 @hb3 (y6 @hb4 (y6 @bz (y6 @bw aI)))))
  repeat' ((first |(with_reducible refine .guard (fun hb =>?_) (fun hb =>?_) <;>try simp only[hb])|(refine ae.p9 (gs:=DR) (gs1:=[_,_]) rfl fun K hK =>?_)|refine ae.aM (by decide +kernel) rfl fun K hK =>?_|refine .flat _ (hF) rfl ?_|(refine .aD [0,1,3,4] hK ?_;clear hK K)|(with_reducible refine .done (hK _ ?_);clear hK K)|refine ae.of rfl ?_|(with_reducible refine aF.aL (fun h =>?_) (fun h =>?_) <;>try simp only[h])) <;>try simp only[aN,R,simprocAttr])
  all_goals clear R
  exact .call (jl (Hi hk hlen hn rfl))
 rw[hx] at hF;obtain ⟨f,hlk,hfc,hdo⟩:=yP hk hlen hx;have hfl:=uZ f;have hlm:=Zd f;have hkd:(enc x:I).dW=some [.int .i64 x.kind,.int .i64 x.aA,.int .i64 x.other,.int .i64 x.no]:=rfl;simp only[l5] at hdo;cases hn:eE s x with
 |none =>
  rw[hn] at hdo;have hn2:eh s x=(s,false):=by simp[eh,eb,hx,hn]
  have R:=y6 @bf (y6 @ar (y6 @hb3 (y6 @hb4 (y6 @hlk (y6 @hfl (y6 @hlm (y6 @bz (y6 @bw aI))))))))
  repeat' ((first |(with_reducible refine .guard (fun hb =>?_) (fun hb =>?_) <;>try simp only[hb])|(refine ae.kC (gs:=sI) 8 [] [] [0,1,2,3,4,5,6,7] (by decide +kernel) rfl (dC.of (by simp[hU])) fun K hK =>?_;simp only[hZ,sI,ic,zz3,zw3,List.take_zero,zw1,zw2,R,simprocAttr])|refine ae.aM (by decide +kernel) rfl fun K hK =>?_|refine .flat _ (hF) rfl ?_|refine .flat _ (l6) rfl ?_|(refine .aD [0,1,3,4] hK ?_;clear hK K)|(with_reducible refine .done (hK _ ?_);clear hK K)|refine ae.of rfl ?_|(with_reducible refine aF.aL (fun h =>?_) (fun h =>?_) <;>try simp only[h])) <;>try simp only[aN,R,simprocAttr])
  all_goals clear R
  refine .fQ (f:=f+1000000) (caps:=[.ptr 1000000 []]) rfl ?_;rw[uZ,xT];exact aaE hk hlen hdo (by rw[Ka hlen];exact Hi hk hlen hn2 rfl)
 |some s' =>
  rw[hn] at hdo;have hn2:eh s x=(s',true):=by simp[eh,eb,hx,hn]
  have hso:=tY hk x;rw[hn2] at hso;simp only at hso;obtain ⟨k1,k2,k3,k4⟩:=hso;have e4:∀ n,n=1900004∨n=1900003→aj (ik s.all.length s') n=none:=fun n hn=>by
   rcases hn with rfl | rfl <;>exact eP (.inr (by omega)) fun i hi=>by simp only[gD];split <;>omega
  have hb4':aj (ik s.all.length s'++dT x false (aT s)) 1900004=some (.box (.bool false)):=by
   rw[gv,e4 _ (.inl rfl)];exact hb4
  have hst:∀ A rest,da A none 1900004 [] (.bool false) (.bool true) rest (some (.bool false))=aC rest (A.aZ 1900004 (.box (.bool true))):=fun A rest=>dU rfl rfl rfl;have R:=y6 @bf (y6 @ar (y6 @hb3 (y6 @hb4 (y6 @hb4' (y6 @hst (y6 @hlk (y6 @hfl (y6 @hlm (y6 @bz (y6 @bw aI))))))))))
  repeat' ((first |(with_reducible refine .guard (fun hb =>?_) (fun hb =>?_) <;>try simp only[hb])|(refine ae.tK (gs:=sI) [64,65,66,67,68,69,70,71] [] [0,1,2,3,4,5,6,7,8] (by decide +kernel) (dC.of (by simp[hU])) fun K hK =>?_;simp only[hZ,sI,zw1,zw2,R,simprocAttr])|refine ae.aM (by decide +kernel) rfl fun K hK =>?_|refine .flat _ (hF) rfl ?_|refine .flat _ (l6) rfl ?_|refine cz.yP hk hlen k1 k3 k4 hfc hdo rfl ?_|(refine .aD [0,1,3,4] hK ?_;clear hK K)|(with_reducible refine .done (hK _ ?_);clear hK K)|refine ae.of rfl ?_|(with_reducible refine aF.aL (fun h =>?_) (fun h =>?_) <;>try simp only[h])) <;>try simp only[aN,R,simprocAttr])
  all_goals clear R
  refine ⟨⟨true,rfl⟩,dT x true (ik s.all.length s'),[.bool true],fun m z hz=>⟨?_,tu (fun _ _ h=>mO (iv k4) k1.cN h) hz⟩,⟨⟨.bool true,rfl,.inl ⟨rfl,rfl,rfl⟩⟩,trivial⟩,?_⟩
  ·show aj ((1900004,.box (.bool true))::(ik s.all.length s'++dT x false (aT s))) m=some z
   simp only[dT,aj] at hz ⊢;split
   ·rename_i h;rw[if_pos h] at hz;exact hz
   rename_i h;rw[if_neg h] at hz;rw[gv];split at hz
   ·rename_i ab;rw[ab,e4 _ (.inr rfl),←ab];simp only[aj,if_neg h];exact hz
   ·rw[hz]
  ·show nA s x (.bool true) (dT x true (ik s.all.length s'))
   simp only[nA];rw[hn2];exact ⟨rfl,rfl⟩
theorem IU(s:az)(hk:cK s)(hlen:s.all.length≤100000)(x:aQ):cU Tryd.prog 44 [.ptr 1000000 [],enc x] (aT s) (F5 s x):=by
 refine cU.aar Tryd.func44 Lh Ov Ng (t7 rfl) (t7 rfl) dB aba aa9 (by decide) fun hwf W0 D0 E1 =>?_;simp only[bS,zz4];clear hwf;have n3:aj (aT s) 3=none:=eP (.inl (by omega)) fun i _=>by simp[bJ];omega
 have n4:aj (aT s) 4=none:=eP (.inl (by omega)) fun i _=>by simp[bJ];omega
 refine .lx (by decide +kernel) fun K hK =>?_
 try simp only[DQ,n3,n4,aI,bL,simprocAttr]
 refine .done (hK _ ?_);simp only[ee];refine ⟨_,_,mE,dT x false (aT s),[0,3,4],[.ptr 1000000 [],.ptr 1900003 [],.ptr 1900004 []],1900004,false,nA s x,rfl,?_⟩;exact {
  gp:=rfl
  Ep:=Yv hk hlen x
  arg:=⟨.inl ⟨rfl,kB.2 (.inr (.inr ((dV (dN _)).2 (.inl (by omega))))),rfl⟩,.inl ⟨rfl,kB.2 (.inr (.inl rfl)),rfl⟩,.inl ⟨rfl,kB.2 (.inl rfl),rfl⟩,trivial⟩
  A1:=Kd hk hlen x
  HR:=rfl
  box:=rfl
  nl:=fun m hm=>by
   have:1000000≤m:=by
    rcases kB.1 hm with h | h | h
    ·omega
    ·omega
    ·exact (mM h).1
   exact ⟨zv9 (t7 rfl) this,this⟩
  rest:=fun W D E d=>abn hk hlen x W D E _ d
  gL:=Kb hk hlen x }
end Go.Proofs.YthbdbocionnfgaaDoor
namespace Go.Abs
open Go Go.RowKit
theorem bn.fn{ts ts':List (Nat×I)}{os os':List (Nat×ak)}(U:bX ts ts')(ab:∀ n,aj os' n=none∨aj os' n=aj os n)(af:b6 (av os') ts')(ar:∀ n x,aj os' n=some x→x.only (av os')=true):bn (au ts os) (au ts' os'):=by
 rintro c a w ⟨D,E,hs⟩;have hp:∀ n,av os' n=true→(if av os' n then E n else none)=E n:=fun n hn=>by simp[hn]
 refine ⟨D,fun n=>if av os' n then E n else none,hs.sz,hs.eC,fun t =>?_,hs.dK,hs.c6,hs.aK,fun n =>?_,fun n m e e' b U ab af ar =>?_,fun n e hn =>?_,hs.eL,hs.cT,hs.eY,hs.fA⟩
 ·have:=wB U t;rcases this with h | h
  ·simp only[au];rw[h];simp[bl]
  ·refine bl.de (p:=av os') hp (vL af t) ?_;have:=hs.dO t;simp only[au] at *;rw[h];exact this
 ·have ho:=hs.bP n;simp only[au] at *;rcases ab n with h | h
  ·rw[h];simp[cS,av,h]
  ·rw[h];by_cases hin:aj os n=none
   ·rw[hin];simp[cS,av,h,hin]
   ·have ay:(if av os' n then E n else none)=E n:=hp n (by simp[av,h];cases hh:aj os n <;>simp_all);cases hx:aj os n with
    |none=>exact absurd hx hin
    |some x =>
     have hon:=ar n x (h.trans hx);rw[hx] at ho;cases x with
     |box x =>
      obtain ⟨b,cs,T,k1,k2,k3,k4,k5⟩:=ho;exact ⟨b,cs,T,ay.trans k1,k2,k3,ao.de hp _ _ (by simpa[ak.only] using hon) k4,k5⟩
     |bW T sz es =>
      obtain ⟨aP,k1,k2,k3⟩:=ho;refine ⟨aP,ay.trans k1,k2,?_⟩;cases aP with
      |none=>exact k3
      |some bc =>
       obtain ⟨b,cap⟩:=bc;obtain ⟨cs,pre,rest,q1,q2,q3,q4,q5⟩:=k3;exact ⟨cs,pre,rest,q1,q2,q3,aU.de hp _ _ (by simpa[ak.only] using hon) q4,q5⟩
     |dJ T xs =>
      obtain ⟨aP,k1,k2,k3⟩:=ho;exact ⟨aP,ay.trans k1,k2,k3⟩
     |dI x =>
      obtain ⟨b,k1,k2⟩:=ho;exact ⟨b,ay.trans k1,k2⟩
     |bE ks vs =>
      obtain ⟨b,es,ck,k1,k2,k3,k4,k5,k6,k7⟩:=ho;simp only[ak.only,zz1] at hon;exact ⟨b,es,ck,ay.trans k1,k2,k3,k4,aO.de hp _ _ hon.1 k5,aO.de hp _ _ hon.2 k6,k7⟩
     |it ks vs left cur =>
      obtain ⟨r,b,es,ck,si,se,la,k1,k2,k3,k4,k5,k6,k7⟩:=ho;simp only[ak.only,zz1] at hon;exact ⟨r,b,es,ck,si,se,la,ay.trans k1,k2,k3,k4,aO.de hp _ _ hon.1 k5,aO.de hp _ _ hon.2 k6,k7⟩
 ·refine hs.cQ n m e e' b ?_ ?_ af ar
  ·split at U
   ·exact U
   ·cases U
  ·split at ab
   ·exact ab
   ·cases ab
 ·by_cases hi:av os' n=true
  ·simp only[hi,if_true];exact hs.dR n e hn
  ·simp only[hi];exact .inl rfl
end Go.Abs
namespace Go.Proofs.YthbdbocionnfgaaDoor
open Go Go.Abs
open Go.Abs.Enc (enc)
theorem Fv:(∀ v:I,v.bV=true→fV (.i .i64) (.int .i64 1) v [] []=some ([.int .i64 1],[v]))∧(∀ a1 v:I,v.bV=true→fV (.i .i64) (.int .i64 2) v [.int .i64 1] [a1]=some ([.int .i64 1,.int .i64 2],[a1,v]))∧(∀ a1 a2 v:I,v.bV=true→fV (.i .i64) (.int .i64 3) v [.int .i64 1,.int .i64 2] [a1,a2]=some ([.int .i64 1,.int .i64 2,.int .i64 3],[a1,a2,v]))∧(∀ a1 a2 a3 v:I,v.bV=true→fV (.i .i64) (.int .i64 4) v [.int .i64 1,.int .i64 2,.int .i64 3] [a1,a2,a3]=some ([.int .i64 1,.int .i64 2,.int .i64 3,.int .i64 4],[a1,a2,a3,v]))∧(∀ a1 a2 a3 a4 v:I,v.bV=true→fV (.i .i64) (.int .i64 5) v [.int .i64 1,.int .i64 2,.int .i64 3,.int .i64 4] [a1,a2,a3,a4]=some ([.int .i64 1,.int .i64 2,.int .i64 3,.int .i64 4,.int .i64 5],[a1,a2,a3,a4,v]))∧(∀ a1 a2 a3 a4 a5 v:I,v.bV=true→fV (.i .i64) (.int .i64 6) v [.int .i64 1,.int .i64 2,.int .i64 3,.int .i64 4,.int .i64 5] [a1,a2,a3,a4,a5]=some ([.int .i64 1,.int .i64 2,.int .i64 3,.int .i64 4,.int .i64 5,.int .i64 6],[a1,a2,a3,a4,a5,v]))∧(∀ a1 a2 a3 a4 a5 a6 v:I,v.bV=true→fV (.i .i64) (.int .i64 7) v [.int .i64 1,.int .i64 2,.int .i64 3,.int .i64 4,.int .i64 5,.int .i64 6] [a1,a2,a3,a4,a5,a6]=some ([.int .i64 1,.int .i64 2,.int .i64 3,.int .i64 4,.int .i64 5,.int .i64 6,.int .i64 7],[a1,a2,a3,a4,a5,a6,v]))∧(∀ a1 a2 a3 a4 a5 a6 a7 v:I,v.bV=true→fV (.i .i64) (.int .i64 8) v [.int .i64 1,.int .i64 2,.int .i64 3,.int .i64 4,.int .i64 5,.int .i64 6,.int .i64 7] [a1,a2,a3,a4,a5,a6,a7]=some ([.int .i64 1,.int .i64 2,.int .i64 3,.int .i64 4,.int .i64 5,.int .i64 6,.int .i64 7,.int .i64 8],[a1,a2,a3,a4,a5,a6,a7,v])) :=
 ⟨fun  v h=>by simp[fV,eK,cm,I.bV];try exact h,fun a1 v h=>by simp[fV,eK,cm,I.bV];try exact h,fun a1 a2 v h=>by simp[fV,eK,cm,I.bV];try exact h,fun a1 a2 a3 v h=>by simp[fV,eK,cm,I.bV];try exact h,fun a1 a2 a3 a4 v h=>by simp[fV,eK,cm,I.bV];try exact h,fun a1 a2 a3 a4 a5 v h=>by simp[fV,eK,cm,I.bV];try exact h,fun a1 a2 a3 a4 a5 a6 v h=>by simp[fV,eK,cm,I.bV];try exact h,fun a1 a2 a3 a4 a5 a6 a7 v h=>by simp[fV,eK,cm,I.bV];try exact h⟩
theorem bM:(∀ f c,(I.func f c).bV=true)∧(∀ n,(I.mref n).bV=true)∧(∀ n p,(I.ptr n p).bV=true):=⟨fun _ _=>rfl,fun _=>rfl,fun _ _=>rfl⟩
def pS(aE:Int):List (Nat×ak):=[(9,.box (.agg [.int .i64 aE,.mref 5,.mref 6,.int .i64 0,.mref 7,.mref 11])),(5,.bE [] []),(6,.bE [] []),(7,.bE [] []),(11,.bE iy (ke 9))]
def er(aE:Int):az:=⟨aE,[],[],[],[]⟩
def aaO(aE:Int):cE:=fun r os'=>r=.ptr 9 []∧os'=pS aE
theorem I6(aE:Int):cU Tryd.prog 53 [enc aE] [] (aaO aE):=by
 refine cU.cw Tryd.func53 Lo Mj Np (t7 rfl) (t7 rfl) (fun m hm=>by simp[av,aj] at hm) (fun hwf W0 D0 E1 =>?_);simp only[BN,GO,bS];clear hwf;have hbld:(ef [.int .i64 0,.raw (.map none),.raw (.map none),.int .i64 0,.raw (.map none),.raw (.map none)] [(0,.int .i64 aE),(1,.mref 5),(2,.mref 6),(4,.mref 7)]).map I.agg=some (.agg [.int .i64 aE,.mref 5,.mref 6,.int .i64 0,.mref 7,.raw (.map none)]):=by simp[ef,I.bV,I.size]
 have hst:∀ A rest,da A none 9 [5] (.agg [.int .i64 aE,.mref 5,.mref 6,.int .i64 0,.mref 7,.raw (.map none)]) (.mref 11) rest (some (.raw (.map none)))=aC rest (A.aZ 9 (.box (.agg [.int .i64 aE,.mref 5,.mref 6,.int .i64 0,.mref 7,.mref 11]))):=fun A rest=>dU rfl rfl rfl;have hval:∀ a b c d e f:I,(I.agg [a,b,c,d,e,f]).bV=true:=fun _ _ _ _ _ _=>rfl;have hoff:∀ v,dX [.int .i64 aE,.mref 5,.mref 6,.int .i64 0,.mref 7,.raw (.map none)] 5 5 v=some v:=fun _=>rfl;have hall:([I.ptr 9 []].all fun y=>y.bV)=true:=rfl;have R:=y6 @hall (y6 @hbld (y6 @hst (y6 @hval (y6 @hoff (y6 @Fv (y6 @bM (y6 @bz (y6 @bw aI))))))))
 repeat' ((first |(with_reducible refine .guard (fun hb =>?_) (fun hb =>?_) <;>try simp only[hb])|refine ae.aM (by decide +kernel) rfl fun K hK =>?_|(refine .aD [0,2,3] hK ?_;clear hK K)|(with_reducible refine .done (hK _ ?_);clear hK K)|refine ae.of rfl ?_|(with_reducible refine aF.aL (fun h =>?_) (fun h =>?_) <;>try simp only[h])) <;>try simp only[aN,R,simprocAttr])
 all_goals clear R
 refine ⟨pS aE,[.ptr 9 []],fun n x hx =>?_,⟨⟨_,rfl,.inl ⟨rfl,rfl,rfl⟩⟩,trivial⟩,rfl,rfl⟩;simp only[pS,aj] at hx
 (repeat' split at hx) <;>first
  |(cases hx;done)
  |(rename_i h;subst h;cases hx;exact ⟨rfl,rfl,rfl⟩)
abbrev dw(s:az):List (Nat×ak):=eg 2000 (bJ 2000) s
def zH:List (Nat×Nat):=[(9,2000),(5,2001),(6,2002),(7,2003),(11,2004)]
theorem abi(aE:Int):dc zH (pS aE)=dw (er aE):=rfl
theorem lN(aE:Int):cK (er aE):=⟨fun i hi=>by simp[er] at hi,by simp[er],by simp[er]⟩
theorem aW.er{K:ai→Prop}{aE:Int}{avs:List I}{a1 a2:Option (List I)}{dst:Option Nat}{rest:List aw}{ts:List (Nat×I)}{os0:List (Nat×ak)}(hav:avs=[enc aE])(hno:∀ m,2000≤m→m<1000000→aj os0 m=none)
  (h:aW Tryd.prog dq false K (aC rest ((au ts (dw (Go.Proofs.YthbdbocionnfgaaDoor.er aE)++os0)).a8 dst (.ptr 2000 [])))):aW Tryd.prog dq false K (.call 53 avs a1 a2 dst rest (au ts os0)):=by
 subst hav;have key:∀ m,av (pS aE) m=true→m=9∨m=5∨m=6∨m=7∨m=11:=fun m hm=>by
  simp only[av,pS,aj] at hm
  (repeat' split at hm) <;>first | omega | (simp at hm;done)
 refine .bP false zH [] [enc aE] _ rfl (I6 aE) ⟨fun m x hx=>by simp[aj] at hx,fun m m' hm=>by simp[av,aj] at hm⟩ ⟨.inl ⟨(kj _ _).symm,b7 _ _,eH _⟩,trivial⟩ ?_ ?_
 ·rintro r os' ⟨rfl,rfl⟩;refine ⟨fun m y hy =>?_,fun m m' hm hm' e =>?_,fun m hm=>by simp[av,aj] at hm,fun m hm _ =>?_,rfl,fun h=>by cases h⟩
  ·simp only[pS,aj] at hy
   (repeat' split at hy) <;>first
    |(cases hy;done)
    |(rename_i h;subst h;cases hy;exact ⟨rfl,rfl,fun h=>by cases h⟩)
  ·rcases key m hm with rfl | rfl | rfl | rfl | rfl <;>rcases key m' hm' with rfl | rfl | rfl | rfl | rfl <;>first | rfl | (simp[zH,bB] at e;done)
  ·rcases key m hm with rfl | rfl | rfl | rfl | rfl <;>exact ⟨hno _ (by decide) (by decide),by decide⟩
 ·rintro r os' ⟨rfl,rfl⟩;rw[abi];exact h
def rP(k:Nat):List (Nat×Nat):=(57,2005+k)::(List.range' 0 400).map fun j=>(1000000+j,2000+j)
theorem Hz(m:Nat):∀ k a,bB ((List.range' a k).map fun j=>(1000000+j,2000+j)) m=if 1000000+a≤m∧m<1000000+a+k then m-998000 else m
 |0,a=>by
  rw[if_neg (by omega)];rfl
 |k+1,a=>by
  rw[List.range'_succ,zz7,bB,Hz m k (a+1)];by_cases h:m=1000000+a
  ·rw[if_pos h,if_pos (by omega)];omega
  ·rw[if_neg h];by_cases ab:1000000+(a+1)≤m∧m<1000000+(a+1)+k
   ·rw[if_pos ab,if_pos (by omega)]
   ·rw[if_neg ab,if_neg (by omega)]
theorem lz(k m:Nat):bB (rP k) m=if m=57 then 2005+k else if 1000000≤m∧m<1000400 then m-998000 else m:=by
 simp only[rP,bB,Hz,Nat.add_zero,Nat.reduceAdd]
theorem jw(k:Nat):h2 2000 (bJ 2000) k:=h2.bJ _ _
theorem mN{s:az}(hk:cK s){n:Nat}{x:ak}(h:aj (dw s) n=some x):x.only (av (dw s))=true∧x.en=true:=mO (jw _) hk.cN h
theorem z6{s:az}{n:Nat}(hn:av (dw s) n=true):2000≤n∧n<2005+s.all.length:=by
 rcases (dV (jw _)).1 hn with ab | ⟨i,hi,rfl⟩
 ·omega
 ·simp only[bJ];omega
theorem Hm{s:az}(hk:cK s){k:Nat}(h:s.all.length≤k+1)(hlen:k≤300):dc (rP k) (ik k s)=dw s :=
 Hr hk.cN (fun j hj=>by rw[lz,if_neg (by omega),if_pos (by omega)];omega) fun i hi=>by
  simp only[gD,bJ];split
  ·rename_i e;rw[lz,if_pos rfl];omega
  ·rw[lz,if_neg (by omega),if_pos (by omega)];omega
theorem abf{s:az}(hk:cK s){k:Nat}(h:s.all.length≤k)(hlen:k≤300):dc (rP k) (aT s)=dw s:=by
 rw[←wu hk h];exact Hm hk (by omega) hlen
theorem aW.uc{K:ai→Prop}{s s2:az}{b:Bool}{x:aQ}{avs:List I}{a1 a2:Option (List I)}{dst:Option Nat}{rest:List aw}{ts:List (Nat×I)}{ow:List (Nat×ak)}(hk:cK s)(hlen:s.all.length≤300)(hav:avs=[.ptr 2000 [],enc x])(how:∀ m,2000≤m→aj ow m=none)(hst:eh s x=(s2,b))
  (h:aW Tryd.prog dq false K (aC rest ((au ts (dw s2++(ow++dw s))).a8 dst (.bool b)))):aW Tryd.prog dq false K (.call 44 avs a1 a2 dst rest (au ts (ow++dw s))):=by
 subst hav;obtain ⟨U,ab,af,ar⟩:=tY hk x;refine .bP false (rP s.all.length) (aT s) [.ptr 1000000 [],enc x] _ rfl (IU s hk (by omega) x) ⟨fun m y hy=>⟨?_,jr hk hy⟩,fun m m' hm hm' e =>?_⟩ ⟨.inl ⟨?_,(dV (dN _)).2 (.inl (by omega)),rfl⟩,.inl ⟨(kj _ _).symm,b7 _ _,eH _⟩,trivial⟩ ?_ ?_
 ·have hm:=mM (s:=s) (n:=m) (by simp[av,hy]);have:=tc (ρ:=rP s.all.length) (os:=aT s) (m:=m) (fun m' hm' he=>by
   have:=mM hm';rw[lz,lz] at he
   (repeat' split at he) <;>omega) hy
  rw[abf hk (zz9 _) hlen] at this;rw[gv,how]
  ·exact this
  ·rw[lz,if_neg (by omega),if_pos (by omega)];omega
 ·have k1:=mM hm;have k2:=mM hm';rw[lz,lz] at e
  (repeat' split at e) <;>omega
 ·simp only[I.bd,lz];rfl
 ·rintro r os' ⟨rfl,rfl⟩;refine ⟨fun m y hy=>⟨(mO (iv ar) U.cN hy).1,(mO (iv ar) U.cN hy).2,fun h=>by cases h⟩,fun m m' hm hm' e =>?_,fun m hm =>?_,fun m hm hno =>?_,rfl,fun h=>by cases h⟩
  ·have k1:=wq ar hm;have k2:=wq ar hm';have e1:∀ m,m=57∨(1000000≤m∧m<1000005+s.all.length)→True:=fun _ _=>trivial;have key:∀ m,av (ik s.all.length (eh s x).1) m=true→m=57∨(1000000≤m∧m<1000005+s.all.length):=fun m hm=>by
    rcases (dV (iv ar)).1 hm with h5 | ⟨i,hi,rfl⟩
    ·omega
    ·simp only[gD];split <;>omega
   have k1:=key m hm;have k2:=key m' hm';rw[lz,lz] at e
   (repeat' split at e) <;>omega
  ·rcases (dV (dN _)).1 hm with h5 | ⟨i,hi,rfl⟩
   ·exact (dV (iv ar)).2 (.inl h5)
   ·exact (dV (iv ar)).2 (.inr ⟨i,by omega,(nw hi).symm⟩)
  ·have h57:m=57:=by
    rcases (dV (iv ar)).1 hm with h5 | ⟨i,hi,e⟩
    ·rw[(dV (dN _)).2 (.inl h5)] at hno;cases hno
    ·by_cases hi2:i=s.all.length
     ·subst hi2;simpa[gD] using e
     ·rw[(dV (dN _)).2 (.inr ⟨i,by omega,by rw[e,nw (by omega)]⟩)] at hno;cases hno
   subst h57;rw[lz,if_pos rfl];refine ⟨?_,by omega⟩;rw[gv,how _ (by omega)];exact eP (.inr (by omega)) fun i hi=>by simp only[bJ];omega
 ·rintro r os' ⟨rfl,rfl⟩;rw[Hm U ar hlen,hst];exact h
def gn:az→List aQ→Option az
 |s,[]=>some s
 |s,x::l=>match eb s x with
  |some s'=>gn s' l
  |none=>none
theorem oT:∀ (l:List aQ) (s:az) (l2:List aQ),gn s (l++l2)=(gn s l).bind fun s'=>gn s' l2
 | [],s,l2=>rfl
 |x::l,s,l2=>by
  simp only[zz3,gn];cases eb s x with
  |none=>rfl
  |some s'=>exact oT l s' l2
theorem Ad{s s':az}{x:aQ}(hk:cK s)(h:eb s x=some s'):cK s'∧s'.aE=s.aE∧s'.all.length≤s.all.length+1:=by
 simp only[eb] at h;split at h
 ·obtain ⟨U,ab,af,_⟩:=hk.next h
  exact ⟨U,ab,af⟩
 ·cases h
theorem nQ:∀ {l:List aQ} {s s':az},cK s→gn s l=some s'→cK s'∧s'.aE=s.aE∧s'.all.length≤s.all.length+l.length
 | [],s,s',hk,h=>by cases h;exact ⟨hk,rfl,zz9 _⟩
 |x::l,s,s',hk,h=>by
  simp only[gn] at h;cases hx:eb s x with
  |none=>rw[hx] at h;cases h
  |some s2 =>
   rw[hx] at h;obtain ⟨U,ab,af⟩:=Ad hk hx;obtain ⟨k1,k2,k3⟩:=nQ U h;exact ⟨k1,k2.trans ab,by simp only[zw8];omega⟩
def eW(aE:Int)(l:List aQ):Option az:=gn (er aE) l
def tB(aE:Int)(l:List aQ):cE:=fun r os'=>match eW aE l with
 |some s=>r=.tuple [.ptr 2000 [],.bool true]∧os'=dw s
 |none=>r=.tuple [.nilp,.bool false]∧os'=[]
def uy(l:List aQ)(t:Nat×az):ai:=au [(6,.ptr 2000 []),(11,enc l),(12,.int .i64 l.length),(13,.int .i64 t.1)] (dw t.2)
theorem IM(aE:Int)(l:List aQ)(hl:l.length≤200):cU Tryd.prog 38 [enc aE,enc l] [] (tB aE l):=by
 refine cU.cw Tryd.func38 B5 Cq CJ (t7 rfl) (t7 rfl) (fun m hm=>by simp[av,aj] at hm) (fun hwf W0 D0 E1 =>?_);simp only[xe,zw,bS,zz4];clear hwf;have R:=y6 @bM (y6 @bz (y6 @bw aI))
 repeat' ((first |(with_reducible refine .guard (fun hb =>?_) (fun hb =>?_) <;>try simp only[hb])|refine ae.aM (by decide +kernel) rfl fun K hK =>?_|refine aW.er rfl (fun _ _ _=>rfl) ?_|(refine .aD [0,1,4,5,6,8,11,12,13,14,20] hK ?_;clear hK K)|(with_reducible refine .done (hK _ ?_);clear hK K)|refine ae.of rfl ?_|(with_reducible refine aF.aL (fun h =>?_) (fun h =>?_) <;>try simp only[h])) <;>try simp only[aN,R,simprocAttr])
 all_goals clear R
 refine ae.loop (uy l) (fun t=>t.1≤l.length∧gn (er aE) (l.take t.1)=some t.2) (fun t=>l.length-t.1) (0,er aE) ⟨zw5 _,rfl⟩ ?_ ?_
 ·rw[zy1];refine bn.fn ?_ (fun n=>.inr rfl) ?_ (fun n x h=>(mN (lN aE) h).1)
  ·simp[bX,b9]
  ·have:=(dV (jw (er aE).all.length) (n:=2000)).2 (.inl (by omega));simp[b6,I.only,b7,this]
 rintro ⟨i,s⟩ ⟨hi,hrun⟩;simp only at hi hrun;obtain ⟨hk,hme,hln⟩:=nQ (lN aE) hrun;have hln2:s.all.length≤i:=by simpa[er,hi] using hln
 have kv:aj (dw s) 8=none:=eP (.inl (by omega)) fun i _=>by simp[bJ];omega
 simp only[uy];by_cases hlt:i<l.length
 ·have hc:=hX hlt;have he:=fun A=>fT (A:=A) 4 hlt rfl;have hw:=fj (i:=i) (by omega);have hst:∀ A rest,da A (some 4) 8 [] (.agg [.int .i64 0,.int .i64 0,.int .i64 0,.int .i64 0]) (enc l[i]) rest (some (.agg [.int .i64 0,.int .i64 0,.int .i64 0,.int .i64 0]))=aC rest (A.aZ 8 (.box (enc l[i]))):=fun A rest=>dU (eH _) (by rw[fH];rfl) (ff _);have how:∀ (a b:ak) m,2000≤m→aj [(8,a),(8,b)] m=none:=fun a b m hm=>by simp only[aj];rw[if_neg (by omega),if_neg (by omega)]
  have hsp:l=l.take i++l[i]::l.drop (i+1):=by simp
  cases hn:eb s l[i] with
  |none =>
   have hs:eh s l[i]=(s,false):=by simp[eh,hn]
   have R:=y6 @hc (y6 @he (y6 @hst (y6 @kv (y6 @bM (y6 @bz (y6 @bw aI))))))
   repeat' ((first |(with_reducible refine .guard (fun hb =>?_) (fun hb =>?_) <;>try simp only[hb])|refine ae.aM (by decide +kernel) rfl fun K hK =>?_|refine aW.uc (ow:=[(8,_),(8,_)]) hk (by omega) rfl (how _ _) hs ?_|(refine .aD [0,1,4,5,6,8,11,12,13,14,20] hK ?_;clear hK K)|(with_reducible refine .done (hK _ ?_);clear hK K)|refine ae.of rfl ?_|(with_reducible refine aF.aL (fun h =>?_) (fun h =>?_) <;>try simp only[h])) <;>try simp only[aN,R,simprocAttr])
   all_goals clear R
   have hno:eW aE l=none:=by
    rw[eW,hsp,oT,hrun];simp only[Option.bind_some,gn,hn]
   refine ⟨[],[.nilp,.bool false],fun n x hx=>by simp[aj] at hx,⟨⟨_,rfl,.inl ⟨rfl,rfl,rfl⟩⟩,⟨_,rfl,.inl ⟨rfl,rfl,rfl⟩⟩,trivial⟩,?_⟩;unfold tB;rw[hno];exact ⟨rfl,rfl⟩
  |some s2 =>
   have hs:eh s l[i]=(s2,true):=by simp[eh,hn]
   have R:=y6 @hc (y6 @he (y6 @hst (y6 @hw (y6 @kv (y6 @bM (y6 @bz (y6 @bw aI)))))))
   repeat' ((first |(with_reducible refine .guard (fun hb =>?_) (fun hb =>?_) <;>try simp only[hb])|refine ae.aM (by decide +kernel) rfl fun K hK =>?_|refine aW.uc (ow:=[(8,_),(8,_)]) hk (by omega) rfl (how _ _) hs ?_|(refine .aD [0,1,4,5,6,8,11,12,13,14,20] hK ?_;clear hK K)|(with_reducible refine .done (hK _ ?_);clear hK K)|refine ae.of rfl ?_|(with_reducible refine aF.aL (fun h =>?_) (fun h =>?_) <;>try simp only[h])) <;>try simp only[aN,R,simprocAttr])
   all_goals clear R
   obtain ⟨hk2,hme2,hln3⟩:=Ad hk hn;refine ⟨(i+1,s2),⟨by simp only;omega,?_⟩,by simp only;omega,?_⟩
   ·rw[zy3 hlt,oT,hrun];simp only[Option.bind_some,gn,hn]
   ·refine bn.fn ?_ (fun n =>?_) ?_ (fun n x h=>(mN hk2 h).1)
    ·simp[bX,b9]
    ·simp only[gv];cases aj (dw s2) n with
     |none=>exact .inl rfl
     |some y=>exact .inr rfl
    ·have:=(dV (jw s2.all.length) (n:=2000)).2 (.inl (by omega));simp[b6,I.only,b7,this]
 ·have hge:i=l.length:=by omega
  have hc:=hJ hlt;subst hge;rw[zv3] at hrun;have R:=y6 @hc (y6 @bM (y6 @bz (y6 @bw aI)))
  repeat' ((first |(with_reducible refine .guard (fun hb =>?_) (fun hb =>?_) <;>try simp only[hb])|refine ae.aM (by decide +kernel) rfl fun K hK =>?_|(refine .aD [0,1,4,5,6,8,11,12,13,14,20] hK ?_;clear hK K)|(with_reducible refine .done (hK _ ?_);clear hK K)|refine ae.of rfl ?_|(with_reducible refine aF.aL (fun h =>?_) (fun h =>?_) <;>try simp only[h])) <;>try simp only[aN,R,simprocAttr])
  all_goals clear R
  refine ⟨dw s,[.ptr 2000 [],.bool true],fun n x hx=>⟨hx,mN hk hx⟩,⟨⟨_,rfl,.inl ⟨rfl,rfl,?_⟩⟩,⟨_,rfl,.inl ⟨rfl,rfl,rfl⟩⟩,trivial⟩,?_⟩
  ·exact (dV (jw s.all.length) (n:=2000)).2 (.inl (by omega))
  ·unfold tB eW;rw[hrun];exact ⟨rfl,rfl⟩
theorem aW.Hf{K:ai→Prop}{aE:Int}{l:List aQ}{avs:List I}{a1 a2:Option (List I)}{dst:Option Nat}{rest:List aw}{ts:List (Nat×I)}{os0:List (Nat×ak)}(hl:l.length≤200)(hav:avs=[enc aE,enc l])(hno:∀ m,2000≤m→m<1000000→aj os0 m=none)
  (U:eW aE l=none→aW Tryd.prog dq false K (aC rest ((au ts os0).a8 dst (.tuple [.nilp,.bool false]))))
  (ab:∀ s,eW aE l=some s→aW Tryd.prog dq false K (aC rest ((au ts (dw s++os0)).a8 dst (.tuple [.ptr 2000 [],.bool true])))):aW Tryd.prog dq false K (.call 38 avs a1 a2 dst rest (au ts os0)):=by
 subst hav;refine .bP false [] [] [enc aE,enc l] _ rfl (IM aE l hl) ⟨fun m x hx=>by simp[aj] at hx,fun m m' hm=>by simp[av,aj] at hm⟩ ⟨.inl ⟨(kj _ _).symm,b7 _ _,eH _⟩,.inl ⟨(kj _ _).symm,b7 _ _,eH _⟩,trivial⟩ ?_ ?_
 ·intro r os' hp;unfold tB at hp;cases hr:eW aE l with
  |none =>
   rw[hr] at hp;obtain ⟨rfl,rfl⟩:=hp;exact ⟨fun m y hy=>by simp[aj] at hy,fun m m' hm=>by simp[av,aj] at hm,fun m hm=>hm,fun m hm=>by simp[av,aj] at hm,rfl,fun h=>by cases h⟩
  |some s =>
   rw[hr] at hp;obtain ⟨rfl,rfl⟩:=hp;obtain ⟨hk,hme,hln⟩:=nQ (lN aE) hr;have hln2:s.all.length≤200:=by have:(Go.Proofs.YthbdbocionnfgaaDoor.er aE).all.length=0:=rfl;omega
   refine ⟨fun m y hy=>⟨(mN hk hy).1,(mN hk hy).2,fun h=>by cases h⟩,fun m m' _ _ h=>h,fun m hm=>by simp[av,aj] at hm,fun m hm _ =>?_,?_,fun h=>by cases h⟩
   ·have:=z6 hm;exact ⟨hno m (by omega) (by omega),by simp only[bB];omega⟩
   ·have:=(dV (jw s.all.length) (n:=2000)).2 (.inl (by omega));simp[I.only,I.bQ,this]
 ·intro r os' hp;unfold tB at hp;cases hr:eW aE l with
  |none =>
   rw[hr] at hp;obtain ⟨rfl,rfl⟩:=hp;exact U hr
  |some s =>
   rw[hr] at hp;obtain ⟨rfl,rfl⟩:=hp;rw[nH];exact ab s hr
theorem aW.Hg{K:ai→Prop}{aE:Int}{l:List aQ}{avs:List I}{a1 a2:Option (List I)}{dst:Option Nat}{rest:List aw}{ts:List (Nat×I)}{os0:List (Nat×ak)}(hl:l.length≤200)(hr:eW aE l=none)(hav:avs=[enc aE,enc l])(hno:∀ m,2000≤m→m<1000000→aj os0 m=none)
  (U:aW Tryd.prog dq false K (aC rest ((au ts os0).a8 dst (.tuple [.nilp,.bool false])))):aW Tryd.prog dq false K (.call 38 avs a1 a2 dst rest (au ts os0)) :=
 aW.Hf hl hav hno (fun _=>U) fun s h=>by rw[hr] at h;cases h
theorem aW.Hh{K:ai→Prop}{aE:Int}{l:List aQ}{s:az}{avs:List I}{a1 a2:Option (List I)}{dst:Option Nat}{rest:List aw}{ts:List (Nat×I)}{os0:List (Nat×ak)}(hl:l.length≤200)(hr:eW aE l=some s)(hav:avs=[enc aE,enc l])(hno:∀ m,2000≤m→m<1000000→aj os0 m=none)
  (U:aW Tryd.prog dq false K (aC rest ((au ts (dw s++os0)).a8 dst (.tuple [.ptr 2000 [],.bool true])))):aW Tryd.prog dq false K (.call 38 avs a1 a2 dst rest (au ts os0)) :=
 aW.Hf hl hav hno (fun h=>by rw[hr] at h;cases h) fun s' h=>by rw[hr] at h;cases h;exact U
theorem vD(k:Nat)(hk:k<2000)(z:ak):∀ m,2000≤m→m<1000000→aj [(k,z)] m=none:=fun m h _=>by simp only[aj];rw[if_neg (by omega)]
theorem bq:(∀ aR A,br aR A .nilp=some .nilp)∧(∀ aR A (x:I),x.bG=true→br aR A (.ref x)=some (.ref x)):=⟨fun _ _=>by simp only[br],fun _ _ x h=>by simp only[br,h,if_true]⟩
def iV(p:aJ):Bool:=cV 0 5 p.aE&&(decide (p.j.length≤200)&&cV 0 p.j.length p.cv)
def cP(p:aJ):Option az:=if iV p then eW p.aE p.j else none
def jE(o:Option az):I:=match o with
 |some s=>.tuple [c8 s,.int .i64 0]
 |none=>.tuple [.nilp,.int .i64 91]
def oM(p:aJ):cE:=fun r os'=>match cP p with
 |some s=>r=.tuple [.ptr 2000 [],.int .i64 0]∧os'=dw s
 |none=>r=.tuple [.nilp,.int .i64 91]∧os'=[]
theorem fe{p:aJ}{s:az}(h:cP p=some s):cK s∧s.aE=p.aE∧s.all.length≤p.j.length∧p.j.length≤200∧iV p=true∧eW p.aE p.j=some s:=by
 simp only[cP] at h;split at h
 ·rename_i hh;obtain ⟨hk,hme,hln⟩:=nQ (lN p.aE) h;refine ⟨hk,hme,by simpa[er] using hln,?_,hh,h⟩;simp only[iV,zz1,decide_eq_true_eq] at hh;exact hh.2.1
 ·cases h
theorem Pq{s:az}(hk:cK s)(z:ak):∀ ts,c7 (au ts (dw s++[(1,z)])) 9 (.agg [.int .i64 s.aE,.mref 2001,.mref 2002,.int .i64 s.all.length,.mref 2003,.mref 2004])=some (gH s):=fun ts =>
 iI (iM (jw _) hk.cN fun n hn=>by
  rw[gv];cases h:aj (dw s) n with
  |none=>simp[av,h] at hn
  |some y=>rfl) 4
theorem yX:∀ a b c d e:I,(I.agg [a,.mref 2001,b,c,d,e]).bG=false:=fun a b c d e=>by simp[I.bG,I.cq]
theorem E8(s:az)(z:ak):aj (dw s++[(1,z)]) 2000=some (.box (.agg [.int .i64 s.aE,.mref 2001,.mref 2002,.int .i64 s.all.length,.mref 2003,.mref 2004])):=by
 rw[gv,fY];rfl
theorem E9(s:az)(z:ak):aj (dw s++[(1,z)]) 1=some z:=by
 rw[gv,eP (.inl (by omega)) fun i _=>by simp only[bJ];omega];rfl
theorem F3{p:aJ}(h:I.gX [enc p]):p.j.length≤maxLen :=
 ((qz p.j).1 (by have:=h.1;simp only[enc,I.wf,I.gX] at this;exact this.2.1)).1
theorem pg(p:aJ):bp Tryd.prog 24 [enc p] (jE (cP p)):=by
 refine bp.cw Tryd.func24 B3 Co CH (t7 rfl) (fun hwf W0 D0 E1 =>?_);simp only[xc,zt,bS];have hlen:=F3 hwf;clear hwf;have hg:decide ((p.j.length:Int)>200) = !decide (p.j.length≤200):=by by_cases h:p.j.length≤200 <;>simp[h] <;>omega
 have hF1:=oc p.aE;have hF2:=qB p.cv 0 p.j.length;rcases q1:cV 0 5 p.aE <;>rcases q2:decide (p.j.length≤200) <;>rcases q3:cV 0 p.j.length p.cv
 case true.true.true =>
  have hok:iV p=true:=by simp[iV,q1,q2,q3]
  have hl:p.j.length≤200:=of_decide_eq_true q2;have hop:cP p=eW p.aE p.j:=by simp[cP,hok]
  rw[q1] at hF1;rw[q3] at hF2;rw[q2] at hg;rw[hop];cases hr:eW p.aE p.j with
  |none =>
   have R:=y6 @hg (y6 @bq (y6 @h1 (y6 @bM (y6 @bz (y6 @bw aI)))))
   repeat' ((first |(with_reducible refine .guard (fun hb =>?_) (fun hb =>?_) <;>try simp only[hb])|refine ae.aM (by decide +kernel) rfl fun K hK =>?_|refine .flat _ (hF1) rfl ?_|refine .flat _ (hF2) rfl ?_|refine aW.Hg hl hr rfl (vD 1 (by decide) _) ?_|(refine .aD [0,1,2,3,4,5,24,34] hK ?_;clear hK K)|(with_reducible refine .done (hK _ ?_);clear hK K)|refine ae.of rfl ?_|(with_reducible refine aF.aL (fun h =>?_) (fun h =>?_) <;>try simp only[h])) <;>try simp only[aN,R,simprocAttr])
   all_goals clear R
   rfl
  |some s =>
   have hfin:=Pq (nQ (lN p.aE) hr).1 (.box (enc p));have hla:=E8 s (.box (enc p));have hlb:=E9 s (.box (enc p));have R:=y6 @hg (y6 @hfin (y6 @hla (y6 @hlb (y6 @yX (y6 @bq (y6 @h1 (y6 @bM (y6 @bz (y6 @bw aI)))))))))
   repeat' ((first |(with_reducible refine .guard (fun hb =>?_) (fun hb =>?_) <;>try simp only[hb])|refine ae.aM (by decide +kernel) rfl fun K hK =>?_|refine .flat _ (hF1) rfl ?_|refine .flat _ (hF2) rfl ?_|refine aW.Hh hl hr rfl (vD 1 (by decide) _) ?_|(refine .aD [0,1,2,3,4,5,24,34] hK ?_;clear hK K)|(with_reducible refine .done (hK _ ?_);clear hK K)|refine ae.of rfl ?_|(with_reducible refine aF.aL (fun h =>?_) (fun h =>?_) <;>try simp only[h])) <;>try simp only[aN,R,simprocAttr])
   all_goals clear R
   rfl
 all_goals
  have hop:cP p=none:=by simp[cP,iV,q1,q2,q3]
  rw[q1] at hF1;rw[q3] at hF2;rw[q2] at hg;rw[hop];have R:=y6 @hg (y6 @bq (y6 @h1 (y6 @bM (y6 @bz (y6 @bw aI)))))
  repeat' ((first |(with_reducible refine .guard (fun hb =>?_) (fun hb =>?_) <;>try simp only[hb])|refine ae.aM (by decide +kernel) rfl fun K hK =>?_|refine .flat _ (hF1) rfl ?_|refine .flat _ (hF2) rfl ?_|(refine .aD [0,1,2,3,4,5,24,34] hK ?_;clear hK K)|(with_reducible refine .done (hK _ ?_);clear hK K)|refine ae.of rfl ?_|(with_reducible refine aF.aL (fun h =>?_) (fun h =>?_) <;>try simp only[h])) <;>try simp only[aN,R,simprocAttr])
  all_goals clear R
  rfl
theorem An(p:aJ):cU Tryd.prog 24 [enc p] [] (oM p):=by
 refine cU.cw Tryd.func24 B3 Co CH (t7 rfl) (t7 rfl) (fun m hm=>by simp[av,aj] at hm) (fun hwf W0 D0 E1 =>?_);simp only[xc,zt,bS];have hlen:=F3 hwf;clear hwf;have hg:decide ((p.j.length:Int)>200) = !decide (p.j.length≤200):=by by_cases h:p.j.length≤200 <;>simp[h] <;>omega
 have hF1:=oc p.aE;have hF2:=qB p.cv 0 p.j.length;have fail:∀ ts os,cP p=none→Abs.bC ts 2=.nilp→Abs.bC ts 3=.int .i64 91→jS [.tmp 2,.tmp 3] (oM p) (au ts os):=fun ts os hop ab af=>by
  refine ⟨[],[.nilp,.int .i64 91],fun n x hx=>by simp[aj] at hx,⟨⟨.nilp,congrArg some ab,.inl ⟨rfl,rfl,rfl⟩⟩,⟨.int .i64 91,congrArg some af,.inl ⟨rfl,rfl,rfl⟩⟩,trivial⟩,?_⟩;unfold oM;rw[hop];exact ⟨rfl,rfl⟩
 rcases q1:cV 0 5 p.aE <;>rcases q2:decide (p.j.length≤200) <;>rcases q3:cV 0 p.j.length p.cv
 case true.true.true =>
  have hok:iV p=true:=by simp[iV,q1,q2,q3]
  have hl:p.j.length≤200:=of_decide_eq_true q2;have hop:cP p=eW p.aE p.j:=by simp[cP,hok]
  rw[q1] at hF1;rw[q3] at hF2;rw[q2] at hg;cases hr:eW p.aE p.j with
  |none =>
   rw[hr] at hop;have R:=y6 @hg (y6 @bq (y6 @h1 (y6 @bM (y6 @bz (y6 @bw aI)))))
   repeat' ((first |(with_reducible refine .guard (fun hb =>?_) (fun hb =>?_) <;>try simp only[hb])|refine ae.aM (by decide +kernel) rfl fun K hK =>?_|refine .flat _ (hF1) rfl ?_|refine .flat _ (hF2) rfl ?_|refine aW.Hg hl hr rfl (vD 1 (by decide) _) ?_|(refine .aD [0,1,2,3,4,5,24,34] hK ?_;clear hK K)|(with_reducible refine .done (hK _ ?_);clear hK K)|refine ae.of rfl ?_|(with_reducible refine aF.aL (fun h =>?_) (fun h =>?_) <;>try simp only[h])) <;>try simp only[aN,R,simprocAttr])
   all_goals clear R
   exact fail _ _ hop rfl rfl
  |some s =>
   have hk:=(nQ (lN p.aE) hr).1;rw[hr] at hop;have hla:=E8 s (.box (enc p));have hlb:=E9 s (.box (enc p));have R:=y6 @hg (y6 @hla (y6 @hlb (y6 @yX (y6 @bq (y6 @h1 (y6 @bM (y6 @bz (y6 @bw aI))))))))
   repeat' ((first |(with_reducible refine .guard (fun hb =>?_) (fun hb =>?_) <;>try simp only[hb])|refine ae.aM (by decide +kernel) rfl fun K hK =>?_|refine .flat _ (hF1) rfl ?_|refine .flat _ (hF2) rfl ?_|refine aW.Hh hl hr rfl (vD 1 (by decide) _) ?_|(refine .aD [0,1,2,3,4,5,24,34] hK ?_;clear hK K)|(with_reducible refine .done (hK _ ?_);clear hK K)|refine ae.of rfl ?_|(with_reducible refine aF.aL (fun h =>?_) (fun h =>?_) <;>try simp only[h])) <;>try simp only[aN,R,simprocAttr])
   all_goals clear R
   refine ⟨dw s,[.ptr 2000 [],.int .i64 0],fun n x hx=>⟨?_,mN hk hx⟩,⟨⟨_,rfl,.inl ⟨rfl,rfl,?_⟩⟩,⟨_,rfl,.inl ⟨rfl,rfl,rfl⟩⟩,trivial⟩,?_⟩
   ·show aj (dw s++_) n=some x
    rw[gv,hx]
   ·exact (dV (jw s.all.length) (n:=2000)).2 (.inl (by omega))
   ·unfold oM;rw[hop];exact ⟨rfl,rfl⟩
 all_goals
  have hop:cP p=none:=by simp[cP,iV,q1,q2,q3]
  rw[q1] at hF1;rw[q3] at hF2;rw[q2] at hg;have R:=y6 @hg (y6 @bq (y6 @h1 (y6 @bM (y6 @bz (y6 @bw aI)))))
  repeat' ((first |(with_reducible refine .guard (fun hb =>?_) (fun hb =>?_) <;>try simp only[hb])|refine ae.aM (by decide +kernel) rfl fun K hK =>?_|refine .flat _ (hF1) rfl ?_|refine .flat _ (hF2) rfl ?_|(refine .aD [0,1,2,3,4,5,24,34] hK ?_;clear hK K)|(with_reducible refine .done (hK _ ?_);clear hK K)|refine ae.of rfl ?_|(with_reducible refine aF.aL (fun h =>?_) (fun h =>?_) <;>try simp only[h])) <;>try simp only[aN,R,simprocAttr])
  all_goals clear R
  exact fail _ _ hop rfl rfl
def pB(p:aJ):Int:=match cP p with
 |some _=>0
 |none=>91
theorem r5(p:aJ):bp Tryd.prog 36 [enc p] (enc (pB p)):=by
 refine bp.cw Tryd.func36 La L6 M8 (t7 rfl) (fun hwf W0 D0 E1 =>?_);simp only[BC,GB,bS];have hF:=pg p;simp only[pB];cases ho:cP p with
 |none =>
  rw[ho] at hF;simp only[jE] at hF;have R:=y6 @bq (y6 @h1 (y6 @bM (y6 @bz (y6 @bw aI))))
  repeat' ((first |(with_reducible refine .guard (fun hb =>?_) (fun hb =>?_) <;>try simp only[hb])|refine ae.aM (by decide +kernel) rfl fun K hK =>?_|refine .lead _ (hF) ?_|(refine .aD [0,1,2,4] hK ?_;clear hK K)|(with_reducible refine .done (hK _ ?_);clear hK K)|refine ae.of rfl ?_|(with_reducible refine aF.aL (fun h =>?_) (fun h =>?_) <;>try simp only[h])) <;>try simp only[aN,R,simprocAttr])
  all_goals clear R
  all_goals rfl
 |some s =>
  rw[ho] at hF;simp only[jE] at hF;have R:=y6 @di (y6 @bq (y6 @h1 (y6 @bM (y6 @bz (y6 @bw aI)))))
  repeat' ((first |(with_reducible refine .guard (fun hb =>?_) (fun hb =>?_) <;>try simp only[hb])|refine ae.aM (by decide +kernel) rfl fun K hK =>?_|refine .lead _ (hF) ?_|(refine .aD [0,1,2,4] hK ?_;clear hK K)|(with_reducible refine .done (hK _ ?_);clear hK K)|refine ae.of rfl ?_|(with_reducible refine aF.aL (fun h =>?_) (fun h =>?_) <;>try simp only[h])) <;>try simp only[aN,R,simprocAttr])
  all_goals clear R
  all_goals rfl
def fK:aQ:=⟨0,0,0,0⟩
theorem qY:I.agg [.int .i64 0,.int .i64 0,.int .i64 0,.int .i64 0]=enc fK:=rfl
instance:uu aQ:=⟨fun _=>rfl⟩
def qi(k:Nat)(l:List aQ)(m:Nat):List (Nat×ak):=[(k,.box (.agg ((l++List.replicate m fK).map enc)))]
def sk(l:List aQ)(v:I)(os':List (Nat×ak)):Prop:=(l=[]∧(v=.nils 4∨v=.c0 4)∧os'=[])∨(l≠[]∧∃ m,v=.view 7 [] 4 0 l.length∧os'=qi 7 l m)
def aaM(l:List aQ):cE:=fun r os'=>sk l r os'
theorem I0(l:List aQ)(hl:l.length≤1000):cU Tryd.prog 49 [enc l] [] (aaM l):=by
 refine cU.cw Tryd.func49 B7 Cs CL (t7 rfl) (t7 rfl) (fun m hm=>by simp[av,aj] at hm) (fun hwf W0 D0 E1 =>?_);simp only[xg,zy,bS];refine .gU (by decide +kernel) fun K hK =>?_;simp only[x8,bL,simprocAttr];refine .done (hK _ ?_);clear hK K;refine ae.seq (ae.seq ?_);by_cases hn:l=[]
 ·subst hn;refine .lx (by decide +kernel) fun K hK =>?_;simp only[sJ,bL,simprocAttr];simp only[wG,List.isEmpty_nil,rG];refine .any rfl fun b _ =>?_
  try simp only[bL,simprocAttr]
  generalize (b==0)=t;cases t
  ·refine .done (hK _ ?_);clear hK K;try simp only[ee]
   refine ae.kr ?_;simp only[aF,bL,simprocAttr];refine ⟨fun h =>?_,fun h =>?_⟩
   ·cases h
   refine ae.skip ?_;try simp only[ee,simprocAttr]
   refine .gU (by decide +kernel) fun K hK =>?_;simp only[sK,bL,simprocAttr]
   try simp only[dk,qY,bL,simprocAttr]
   refine .done (hK _ ?_);clear hK K;refine ae.ret ?_;simp only[nM];exact ⟨[],[.c0 4],Et,⟨⟨.c0 4,rfl,.inl ⟨rfl,rfl,rfl⟩⟩,trivial⟩,.inl ⟨rfl,.inr rfl,rfl⟩⟩
  ·refine .done (hK _ ?_);clear hK K;refine ae.kr ?_;simp only[aF,bL,simprocAttr];refine ⟨fun h =>?_,fun h =>?_⟩
   ·refine .gU (by decide +kernel) fun K hK =>?_;simp only[x9,bL,simprocAttr];refine .done (hK _ ?_);clear hK K;refine ae.ret ?_;simp only[ee,nM];exact ⟨[],[.nils 4],Et,⟨⟨.nils 4,rfl,.inl ⟨rfl,rfl,rfl⟩⟩,trivial⟩,.inl ⟨rfl,.inl rfl,rfl⟩⟩
   ·cases h
 ·have hu:kM (enc l)=false:=by rw[wG];simpa using hn
  refine .lx (by decide +kernel) fun K hK =>?_;simp only[sJ,bL,simprocAttr]
  try simp only[hu,Fy _ l hn,bL,simprocAttr]
  refine .done (hK _ ?_);clear hK K;try simp only[ee]
  refine ae.kr ?_;simp only[aF,bL,simprocAttr];refine ⟨fun h =>?_,fun h =>?_⟩
  ·cases h
  refine ae.skip ?_;try simp only[ee,simprocAttr]
  refine .gU (by decide +kernel) fun K hK =>?_;simp only[sK,bL,simprocAttr]
  try simp only[dk,qY,bL,simprocAttr]
  refine aW.w0 fK rfl hn rfl (by omega) (by simp only[maxLen];omega) fun m =>?_
  try simp only[bL,simprocAttr]
  refine .done (hK _ ?_);clear hK K;refine ae.ret ?_;simp only[nM];exact ⟨qi 7 l m,[.view 7 [] 4 0 l.length],yk rfl (fun p=>by simp only[I.only];exact dZ p _),⟨⟨_,rfl,.inl ⟨rfl,rfl,rfl⟩⟩,trivial⟩,.inr ⟨hn,m,rfl,rfl⟩⟩
theorem qV{l:List aQ}{v:I}{os':List (Nat×ak)}(h:sk l v os'):(∀ n x,aj os' n=some x→x.only (av os')=true∧x.en=true)∧v.only (av os')=true∧(∀ m,av os' m=true→m=7)∧v.bV=true∧cn none v=true∧v.bh=.one∧v.size=1∧v.isAgg=false:=by
 rcases h with ⟨rfl,rfl | rfl,rfl⟩ | ⟨hn,m,rfl,rfl⟩
 ·exact ⟨fun n x hx=>by simp[aj] at hx,rfl,fun m hm=>by simp[av,aj] at hm,rfl,rfl,rfl,rfl,rfl⟩
 ·exact ⟨fun n x hx=>by simp[aj] at hx,rfl,fun m hm=>by simp[av,aj] at hm,rfl,rfl,rfl,rfl,rfl⟩
 ·refine ⟨fun n x hx =>?_,rfl,fun m hm =>?_,rfl,rfl,rfl,rfl,rfl⟩
  ·simp only[qi,aj] at hx;split at hx
   ·cases hx;exact ⟨by simp only[ak.only,I.only];exact dZ _ _,rfl⟩
   ·cases hx
  ·simp only[av,qi,aj] at hm;split at hm
   ·assumption
   ·simp at hm
theorem H6{ts:List (Nat×I)}{os0 os':List (Nat×ak)}(hno:aj os0 7=none)(h:∀ m,av os' m=true→m=7):au ts (os'++os0)=au ts (os0++os'):=by
 simp only[au,ai.mk.injEq,true_and]
 funext n
 rw[gv,gv];cases U:aj os' n with
 |none=>simp only;cases aj os0 n <;>rfl
 |some y =>
  have:=h n (by simp[av,U]);subst this;rw[hno]
theorem aW.CC{K:ai→Prop}{l:List aQ}{avs:List I}{a1 a2:Option (List I)}{dst:Option Nat}{rest:List aw}{ts:List (Nat×I)}{os0:List (Nat×ak)}(hl:l.length≤1000)(hav:a1=some [enc l])(hf:bZ false (au ts os0) avs=some [enc l])(hno:aj os0 7=none)
  (h:∀ v os',sk l v os'→aW Tryd.prog dq false K (aC rest ((au ts (os0++os')).a8 dst v))):aW Tryd.prog dq false K (.call 49 avs a1 a2 dst rest (au ts os0)):=by
 have harg:iF false (au ts os0) [] [] avs [enc l]:=by
  match avs,hf with
  | [],hf=>simp[bZ] at hf
  | [x],hf =>
   refine ⟨.inr ?_,trivial⟩;simp only[bZ] at hf;split at hf
   ·rename_i y ys U ab;cases ab;cases hf;exact U
   ·cases hf
  |x::y::r,hf =>
   simp only[bZ] at hf;split at hf
   ·rename_i U ab;split at ab <;>cases ab;cases hf
   ·cases hf
 refine .bP false [] [] [enc l] _ rfl (I0 l hl) ⟨fun m x hx=>by simp[aj] at hx,fun m m' hm=>by simp[av,aj] at hm⟩ (by simpa[jg,CS] using harg) ?_ ?_
 ·intro r os' hp;obtain ⟨U,ab,af,_⟩:=qV hp;exact ⟨fun m y hy=>⟨(U m y hy).1,(U m y hy).2,fun h=>by cases h⟩,fun m m' _ _ h=>h,fun m hm=>by simp[av,aj] at hm,fun m hm _=>by rw[af m hm];exact ⟨hno,by decide⟩,ab,fun h=>by cases h⟩
 ·intro r os' hp;rw[nH,lQ (ρ:=bB []) (fun _=>rfl),H6 hno (qV hp).2.2.1];exact h r os' hp
def ft(p:aJ)(v:I):I:=.agg [.int .i64 p.aE,v,.int .i64 p.cv]
def aaN(p:aJ):cE:=fun r os'=>∃ v,r=ft p v∧sk p.j v os'
theorem mj:(∀ p v,(ft p v).dW=some [.int .i64 p.aE,v,.int .i64 p.cv])∧(∀ p v,(ft p v).bV=true)∧(∀ (a c:Int) v w,dX [.int .i64 a,v,.int .i64 c] 1 1 w=some w)∧(∀ (a c:Int) v w,dX [.int .i64 a,v,.int .i64 c] 0 0 w=some w) :=
 ⟨fun _ _=>rfl,fun _ _=>rfl,fun _ _ _ _=>nx (by simp) rfl,fun _ _ _ _=>nx (by simp) rfl⟩
theorem IL(p:aJ)(hl:p.j.length≤1000):cU Tryd.prog 37 [enc p] [] (aaN p):=by
 refine cU.cw Tryd.func37 B4 Cp CI (t7 rfl) (t7 rfl) (fun m hm=>by simp[av,aj] at hm) (fun hwf W0 D0 E1 =>?_);simp only[xd,zu,bS];clear hwf;have hfe:∀ A,bZ false A [enc p.j]=some [enc p.j]:=fun A=>by simp only[bZ,lJ]
 have R:=y6 @h1 (y6 @bM (y6 @bz (y6 @bw aI)))
 repeat' ((first |(with_reducible refine .guard (fun hb =>?_) (fun hb =>?_) <;>try simp only[hb])|refine ae.aM (by decide +kernel) rfl fun K hK =>?_|refine aW.CC hl rfl (hfe _) rfl (fun v os' hc =>?_)|(refine .aD [0,1,2] hK ?_;clear hK K)|(with_reducible refine .done (hK _ ?_);clear hK K)|refine ae.of rfl ?_|(with_reducible refine aF.aL (fun h =>?_) (fun h =>?_) <;>try simp only[h])) <;>try simp only[aN,R,zz3,simprocAttr])
 all_goals clear R
 obtain ⟨g1,g2,g3,g4,g5,g6,g7,g8⟩:=qV hc;have hst:∀ A rest,da A none 1 [1] (enc p) v rest (some (enc p.j))=aC rest (A.aZ 1 (.box (ft p v))):=fun A rest=>dU g4 g5 (g6.trans rfl);have hok:cn (some 3) (ft p v)=true:=by simp[cn,ft,I.isAgg,I.size,I.sizes,g7]
 have hsh:(ft p v).bh=.eS [.one,.one,.one]:=by simp[ft,I.bh,I.cZ,g6]
 have hst2:∀ A rest,da A (some 3) 2 [] (.agg [.int .i64 0,.nils 4,.int .i64 0]) (ft p v) rest (some (.agg [.int .i64 0,.nils 4,.int .i64 0]))=aC rest (A.aZ 2 (.box (ft p v))):=fun A rest=>dU rfl hok hsh
 try simp only[hst,bL,simprocAttr]
 have R:=y6 @hst (y6 @hok (y6 @hst2 (y6 @mj (y6 @h1 (y6 @bM (y6 @bz (y6 @bw aI)))))))
 repeat' ((first |(with_reducible refine .guard (fun hb =>?_) (fun hb =>?_) <;>try simp only[hb])|refine ae.aM (by decide +kernel) rfl fun K hK =>?_|(refine .aD [0,1,2] hK ?_;clear hK K)|(with_reducible refine .done (hK _ ?_);clear hK K)|refine ae.of rfl ?_|(with_reducible refine aF.aL (fun h =>?_) (fun h =>?_) <;>try simp only[h])) <;>try simp only[aN,R,simprocAttr])
 all_goals clear R
 refine ⟨os',[ft p v],fun n x hx=>⟨?_,g1 n x hx⟩,⟨⟨ft p v,?_,.inl ⟨rfl,rfl,?_⟩⟩,trivial⟩,v,rfl,hc⟩
 ·have:=g3 n (by simp[av,hx]);subst this;simp only[au,aj,Nat.reduceEqDiff,if_false];exact hx
 ·simp[tG,cM,au,Abs.bC,aj,I.at,hok]
 ·simp[ft,I.only,I.bQ,g2]
theorem Ar(l:List aQ)(hl:l.length≤1000):bp Tryd.prog 49 [enc l] (enc l):=by
 refine bp.cw Tryd.func49 B7 Cs CL (t7 rfl) (fun hwf W0 D0 E1 =>?_);simp only[xg,zy,bS];refine .gU (by decide +kernel) fun K hK =>?_;simp only[x8,bL,simprocAttr];refine .done (hK _ ?_);clear hK K;refine ae.seq (ae.seq ?_);by_cases hn:l=[]
 ·subst hn;refine .lx (by decide +kernel) fun K hK =>?_;simp only[sJ,bL,simprocAttr];simp only[wG,List.isEmpty_nil,rG];refine .any rfl fun b _ =>?_
  try simp only[bL,simprocAttr]
  generalize (b==0)=t;cases t
  ·refine .done (hK _ ?_);clear hK K;try simp only[ee]
   refine ae.kr ?_;simp only[aF,bL,simprocAttr];refine ⟨fun h =>?_,fun h =>?_⟩
   ·cases h
   refine ae.skip ?_;try simp only[ee,simprocAttr]
   refine .gU (by decide +kernel) fun K hK =>?_;simp only[sK,bL,simprocAttr]
   try simp only[dk,qY,bL,simprocAttr]
   refine .done (hK _ ?_);clear hK K;refine ae.ret ?_;simp only[bL,simprocAttr];rfl
  ·refine .done (hK _ ?_);clear hK K;refine ae.kr ?_;simp only[aF,bL,simprocAttr];refine ⟨fun h =>?_,fun h =>?_⟩
   ·refine .gU (by decide +kernel) fun K hK =>?_;simp only[x9,bL,simprocAttr];refine .done (hK _ ?_);clear hK K;refine ae.ret ?_;simp only[ee,bL,simprocAttr];rfl
   ·cases h
 ·have hu:kM (enc l)=false:=by rw[wG];simpa using hn
  refine .lx (by decide +kernel) fun K hK =>?_;simp only[sJ,bL,simprocAttr]
  try simp only[hu,Fy _ l hn,bL,simprocAttr]
  refine .done (hK _ ?_);clear hK K;try simp only[ee]
  refine ae.kr ?_;simp only[aF,bL,simprocAttr];refine ⟨fun h =>?_,fun h =>?_⟩
  ·cases h
  refine ae.skip ?_;try simp only[ee,simprocAttr]
  refine .gU (by decide +kernel) fun K hK =>?_;simp only[sK,bL,simprocAttr]
  try simp only[dk,qY,bL,simprocAttr]
  refine aW.w0 fK rfl hn rfl (by omega) (by simp only[maxLen];omega) fun m =>?_
  try simp only[bL,simprocAttr]
  refine .done (hK _ ?_);clear hK K;refine ae.ret ?_;simp only[bL,simprocAttr]
  try simp only[sC (α:=aQ) (sz:=4) rfl,List.take_left,bL,simprocAttr]
theorem Ao(p:aJ)(hl:p.j.length≤1000):bp Tryd.prog 37 [enc p] (enc p):=by
 refine bp.cw Tryd.func37 B4 Cp CI (t7 rfl) (fun hwf W0 D0 E1 =>?_);simp only[xd,zu,bS];clear hwf;have hst:∀ A rest,da A none 1 [1] (enc p) (enc p.j) rest (some (enc p.j))=aC rest (A.aZ 1 (.box (enc p))):=fun A rest=>dU (eH _) (by simp[su,sr]) rfl;have hst2:∀ A rest,da A (some 3) 2 [] (.agg [.int .i64 0,.nils 4,.int .i64 0]) (enc p) rest (some (.agg [.int .i64 0,.nils 4,.int .i64 0]))=aC rest (A.aZ 2 (.box (enc p))):=fun A rest=>dU (eH _) (by rw[fH];rfl) (ff _);have R:=y6 @hst (y6 @hst2 (y6 @h1 (y6 @bM (y6 @bz (y6 @bw aI)))))
 repeat' ((first |(with_reducible refine .guard (fun hb =>?_) (fun hb =>?_) <;>try simp only[hb])|refine ae.aM (by decide +kernel) rfl fun K hK =>?_|refine .lead _ (Ar p.j hl) ?_|(refine .aD [0,1,2] hK ?_;clear hK K)|(with_reducible refine .done (hK _ ?_);clear hK K)|refine ae.of rfl ?_|(with_reducible refine aF.aL (fun h =>?_) (fun h =>?_) <;>try simp only[h])) <;>try simp only[aN,R,simprocAttr])
 all_goals clear R
def im(p:aJ)(x:aQ):aJ×Int:=if p.j.length=200 then (⟨0,[],0⟩,2) else (⟨p.aE,p.j++[x],p.cv⟩,0)
theorem aW.MG{K:ai→Prop}{p:aJ}{avs:List I}{a1 a2:Option (List I)}{dst:Option Nat}{rest:List aw}{ts:List (Nat×I)}{os0:List (Nat×ak)}(hl:p.j.length≤1000)(hav:avs=[enc p])(hno:aj os0 7=none)
  (h:∀ v os',sk p.j v os'→aW Tryd.prog dq false K (aC rest ((au ts (os0++os')).a8 dst (ft p v)))):aW Tryd.prog dq false K (.call 37 avs a1 a2 dst rest (au ts os0)):=by
 subst hav;refine .bP false [] [] [enc p] _ rfl (IL p hl) ⟨fun m x hx=>by simp[aj] at hx,fun m m' hm=>by simp[av,aj] at hm⟩ ⟨.inl ⟨(kj _ _).symm,b7 _ _,eH _⟩,trivial⟩ ?_ ?_
 ·rintro r os' ⟨v,rfl,hp⟩;obtain ⟨U,ab,af,_⟩:=qV hp;exact ⟨fun m y hy=>⟨(U m y hy).1,(U m y hy).2,fun h=>by cases h⟩,fun m m' _ _ h=>h,fun m hm=>by simp[av,aj] at hm,fun m hm _=>by rw[af m hm];exact ⟨hno,by decide⟩,by simp[ft,I.only,I.bQ,ab],fun h=>by cases h⟩
 ·rintro r os' ⟨v,rfl,hp⟩;rw[nH,lQ (ρ:=bB []) (fun _=>rfl),H6 hno (qV hp).2.2.1];exact h v os' hp
theorem u4{p:aJ}{k n:Nat}{xs l:List aQ}{A:ai}(hA:A.o k=some (.box (.agg (xs.map enc))))(hx:xs.take n=l):br true A (ft p (.view k [] 4 0 n))=some (enc (⟨p.aE,l,p.cv⟩:aJ)):=by
 have U:br true A (.view k [] 4 0 n)=some (enc l):=by
  rw[u6,hA];have:km 4 0 n (some (xs.map enc))=some (enc l):=by rw[sC (α:=aQ) (sz:=4) rfl,hx]
  exact this
 have ab:∀ k n,br true A (.int k n)=some (.int k n):=fun k n=>by simp only[br]
 simp only[ft,Dc,Dn,Dp,U,ab,mi,zy6];rfl
theorem r4(p:aJ)(x:aQ)(hl:p.j.length≤200):bp Tryd.prog 35 [enc p,enc x] (.tuple [enc (im p x).1,enc (im p x).2]):=by
 refine bp.cw Tryd.func35 K9 L5 M7 (t7 rfl) (fun hwf W0 D0 E1 =>?_);simp only[BB,GA,bS,zz4];clear hwf;rcases q:((p.j.length:Int)==200)
 case true =>
  have ab:p.j.length=200:=by simp at q;omega
  have hw:im p x=(⟨0,[],0⟩,2):=by simp[im,ab]
  rw[hw];have R:=y6 @q (y6 @uJ (y6 @wv (y6 @h1 (y6 @bM (y6 @bz (y6 @bw aI))))))
  repeat' ((first |(with_reducible refine .guard (fun hb =>?_) (fun hb =>?_) <;>try simp only[hb])|refine ae.aM (by decide +kernel) rfl fun K hK =>?_|(refine .aD [0,1,2,3,4,5,9] hK ?_;clear hK K)|(with_reducible refine .done (hK _ ?_);clear hK K)|refine ae.of rfl ?_|(with_reducible refine aF.aL (fun h =>?_) (fun h =>?_) <;>try simp only[h])) <;>try simp only[aN,R,simprocAttr])
  all_goals clear R
  rfl
 have hne:¬ p.j.length=200:=fun h=>by rw[h] at q;simp at q
 have hw:im p x=(⟨p.aE,p.j++[x],p.cv⟩,0):=by simp[im,hne]
 rw[hw];have hbs:=lE 4 x rfl;have R:=y6 @hbs (y6 @q (y6 @h1 (y6 @bM (y6 @bz (y6 @bw aI)))))
 repeat' ((first |(with_reducible refine .guard (fun hb =>?_) (fun hb =>?_) <;>try simp only[hb])|refine ae.aM (by decide +kernel) rfl fun K hK =>?_|refine aW.MG (by omega) rfl rfl (fun v os' hc =>?_)|(refine .aD [0,1,2,3,4,5,9] hK ?_;clear hK K)|(with_reducible refine .done (hK _ ?_);clear hK K)|refine ae.of rfl ?_|(with_reducible refine aF.aL (fun h =>?_) (fun h =>?_) <;>try simp only[h])) <;>try simp only[aN,R,zz3,simprocAttr])
 all_goals clear R
 obtain ⟨g1,g2,g3,g4,g5,g6,g7,g8⟩:=qV hc;have hok:cn (some 3) (ft p v)=true:=by simp[cn,ft,I.isAgg,I.size,I.sizes,g7]
 have hsh:(ft p v).bh=.eS [.one,.one,.one]:=by simp[ft,I.bh,I.cZ,g6]
 have hst:∀ A rest,da A (some 3) 2 [] (enc p) (ft p v) rest (some (enc p))=aC rest (A.aZ 2 (.box (ft p v))):=fun A rest=>dU rfl hok hsh
 try simp only[hst,bL,simprocAttr]
 have R:=y6 @hbs (y6 @qY (y6 @g5 (y6 @mj (y6 @h1 (y6 @bM (y6 @bz (y6 @bw aI)))))))
 repeat' ((first |(with_reducible refine .guard (fun hb =>?_) (fun hb =>?_) <;>try simp only[hb])|refine ae.aM (by decide +kernel) rfl fun K hK =>?_|(refine .aD [0,1,2,3,4,5,9] hK ?_;clear hK K)|(with_reducible refine .done (hK _ ?_);clear hK K)|refine ae.of rfl ?_|(with_reducible refine aF.aL (fun h =>?_) (fun h =>?_) <;>try simp only[h])) <;>try simp only[aN,R,simprocAttr])
 all_goals clear R
 have hst2:∀ A rest k n w,da A none 2 [1] (ft p w) (.view k [] 4 0 n) rest (some v)=aC rest (A.aZ 2 (.box (ft p (.view k [] 4 0 n)))):=fun A rest k n w=>dU rfl rfl (by rw[g6];rfl);have hok2:∀ k n,cn (some 3) (ft p (.view k [] 4 0 n))=true:=fun _ _=>rfl;have hst3:∀ A rest k n,da A (some 3) 4 [] (.agg [.int .i64 0,.nils 4,.int .i64 0]) (ft p (.view k [] 4 0 n)) rest (some (.agg [.int .i64 0,.nils 4,.int .i64 0]))=aC rest (A.aZ 4 (.box (ft p (.view k [] 4 0 n)))):=fun A rest k n=>dU rfl rfl rfl;have hlx:([x]:List aQ).length=1:=rfl;rcases hc with ⟨hj,rfl | rfl,rfl⟩ | ⟨hj,m,rfl,rfl⟩
 ·refine aW.JZ fK rfl (by simp) rfl (by simp) (by simp[maxLen]) fun q =>?_;have hf:=fun A h=>u4 (p:=p) (k:=17) (n:=1) (xs:=[x]++List.replicate q fK) (l:=p.j++[x]) (A:=A) h (by rw[hj];rfl)
  try simp only[hlx,hst2,mj,aI,bL,simprocAttr]
  have R:=y6 @hst2 (y6 @hok2 (y6 @hst3 (y6 @hf (y6 @mj (y6 @h1 (y6 @bM (y6 @bz (y6 @bw aI))))))))
  repeat' ((first |(with_reducible refine .guard (fun hb =>?_) (fun hb =>?_) <;>try simp only[hb])|refine ae.aM (by decide +kernel) rfl fun K hK =>?_|(refine .aD [0,1,2,3,4,5,9] hK ?_;clear hK K)|(with_reducible refine .done (hK _ ?_);clear hK K)|refine ae.of rfl ?_|(with_reducible refine aF.aL (fun h =>?_) (fun h =>?_) <;>try simp only[h])) <;>try simp only[aN,R,simprocAttr])
  all_goals clear R
 ·refine aW.w0 fK rfl (by simp) rfl (by simp) (by simp[maxLen]) fun q =>?_;have hf:=fun A h=>u4 (p:=p) (k:=17) (n:=1) (xs:=[x]++List.replicate q fK) (l:=p.j++[x]) (A:=A) h (by rw[hj];rfl)
  try simp only[hlx,hst2,mj,aI,bL,simprocAttr]
  have R:=y6 @hst2 (y6 @hok2 (y6 @hst3 (y6 @hf (y6 @mj (y6 @h1 (y6 @bM (y6 @bz (y6 @bw aI))))))))
  repeat' ((first |(with_reducible refine .guard (fun hb =>?_) (fun hb =>?_) <;>try simp only[hb])|refine ae.aM (by decide +kernel) rfl fun K hK =>?_|(refine .aD [0,1,2,3,4,5,9] hK ?_;clear hK K)|(with_reducible refine .done (hK _ ?_);clear hK K)|refine ae.of rfl ?_|(with_reducible refine aF.aL (fun h =>?_) (fun h =>?_) <;>try simp only[h])) <;>try simp only[aN,R,simprocAttr])
  all_goals clear R
 ·by_cases hm:m=0
  ·subst hm;refine aW.JX (esz:=4) fK rfl (xs:=p.j++List.replicate 0 fK) (ys:=[x]) (by simp) rfl (by simp) (by simp) rfl (by simp;omega) (by simp[maxLen];omega) fun q =>?_;have hf:=fun A h=>u4 (p:=p) (k:=17) (n:=p.j.length+1) (xs:=(p.j++List.replicate 0 fK).take p.j.length++([x]++List.replicate q fK)) (l:=p.j++[x]) (A:=A) h (by simp[List.take_append];exact List.take_of_length_le (by omega))
   try simp only[hlx,hst2,mj,aI,bL,simprocAttr]
   have R:=y6 @hst2 (y6 @hok2 (y6 @hst3 (y6 @hf (y6 @mj (y6 @h1 (y6 @bM (y6 @bz (y6 @bw aI))))))))
   repeat' ((first |(with_reducible refine .guard (fun hb =>?_) (fun hb =>?_) <;>try simp only[hb])|refine ae.aM (by decide +kernel) rfl fun K hK =>?_|(refine .aD [0,1,2,3,4,5,9] hK ?_;clear hK K)|(with_reducible refine .done (hK _ ?_);clear hK K)|refine ae.of rfl ?_|(with_reducible refine aF.aL (fun h =>?_) (fun h =>?_) <;>try simp only[h])) <;>try simp only[aN,R,simprocAttr])
   all_goals clear R
  ·rw[AT (esz:=4) _ rfl (xs:=p.j++List.replicate m fK) (ys:=[x]) (by simp) rfl (by simp;omega)];have hf:=fun A h=>u4 (p:=p) (k:=7) (n:=p.j.length+1) (xs:=(p.j++List.replicate m fK).take p.j.length++([x]++(p.j++List.replicate m fK).drop (p.j.length+1))) (l:=p.j++[x]) (A:=A) h (by simp[List.take_append];exact List.take_of_length_le (by omega))
   try simp only[hlx,hst2,mj,aI,bL,simprocAttr]
   have R:=y6 @hst2 (y6 @hok2 (y6 @hst3 (y6 @hf (y6 @mj (y6 @h1 (y6 @bM (y6 @bz (y6 @bw aI))))))))
   repeat' ((first |(with_reducible refine .guard (fun hb =>?_) (fun hb =>?_) <;>try simp only[hb])|refine ae.aM (by decide +kernel) rfl fun K hK =>?_|(refine .aD [0,1,2,3,4,5,9] hK ?_;clear hK K)|(with_reducible refine .done (hK _ ?_);clear hK K)|refine ae.of rfl ?_|(with_reducible refine aF.aL (fun h =>?_) (fun h =>?_) <;>try simp only[h])) <;>try simp only[aN,R,simprocAttr])
   all_goals clear R
def gl:aJ:=⟨0,[],0⟩
theorem HX:(∀ A n b rest (q:aJ) x y,da A (some 3) n [] b (enc q) rest (some (.agg [.int .i64 x,.nils 4,.int .i64 y]))=aC rest (A.aZ n (.box (enc q))))∧(∀ A n b rest (q:aJ) (r:aJ),da A (some 3) n [] b (enc q) rest (some (enc r))=aC rest (A.aZ n (.box (enc q)))) :=
 ⟨fun A n b rest q x y=>dU (eH _) (by rw[fH];rfl) (ff _),fun A n b rest q r=>dU (eH _) (by rw[fH];rfl) ((ff _).trans (ff _).symm)⟩
theorem A7(a b:Int):(ef [.int .i64 0,.int .i64 0,.int .i64 0,.int .i64 0] [(0,.int .i64 a),(1,.int .i64 b)]).map I.agg=some (enc (⟨a,b,0,0⟩:aQ)):=by simp[ef,I.bV,I.size];rfl
theorem w9(a b c d:Int):(ef [.int .i64 0,.int .i64 0,.int .i64 0,.int .i64 0] [(0,.int .i64 a),(1,.int .i64 b),(2,.int .i64 c),(3,.int .i64 d)]).map I.agg=some (enc (⟨a,b,c,d⟩:aQ)):=by simp[ef,I.bV,I.size];rfl
theorem bA:(type_of% @HX)∧(type_of% @A7)∧(type_of% @w9)∧(type_of% @uJ)∧(type_of% @wv)∧(type_of% @h1):=⟨HX,A7,w9,uJ,wv,h1⟩
def kT(p:aJ)(b:Int):aJ×Int:=match cP p with
 |none=>(gl,91)
 |some s=>if cV 1 9999 b=false then (gl,1) else if b∈s.here∨s.fx b=true then (gl,92) else im p ⟨1,b,0,0⟩
def oQ(p:aJ)(b:Int):aJ×Int:=match cP p with
 |none=>(gl,91)
 |some s=>if cV 1 9999 b=false then (gl,1) else if b∈s.here then im p ⟨2,b,0,0⟩ else (gl,93)
theorem Ak(p:aJ)(b:Int):bp Tryd.prog 13 [enc p,enc b] (.tuple [enc (kT p b).1,enc (kT p b).2]):=by
 refine bp.cw Tryd.func13 KO LJ MK (t7 rfl) (fun hwf W0 D0 E1 =>?_);simp only[Bf,Ge,bS,zz4];clear hwf;have hF:=pg p;simp only[kT];cases ho:cP p with
 |none =>
  rw[ho] at hF;simp only[jE] at hF;have R:=y6 @bA (y6 @bq (y6 @bM (y6 @bz (y6 @bw aI))))
  repeat' ((first |(with_reducible refine .guard (fun hb =>?_) (fun hb =>?_) <;>try simp only[hb])|refine ae.aM (by decide +kernel) rfl fun K hK =>?_|refine .lead _ (hF) ?_|(refine .aD [0,1,2,4,5,6,7,13,18,23] hK ?_;clear hK K)|(with_reducible refine .done (hK _ ?_);clear hK K)|refine ae.of rfl ?_|(with_reducible refine aF.aL (fun h =>?_) (fun h =>?_) <;>try simp only[h])) <;>try simp only[aN,R,simprocAttr])
  all_goals clear R
  rfl
 |some s =>
  have hjl:=(fe ho).2.2.2.1;rw[ho] at hF;simp only[jE] at hF;have hlk:=gR e8 b s.here;rw[eQ] at hlk;have hB:=ph b;have hR:=r3 s b;have hW:=r4 p ⟨1,b,0,0⟩ hjl;rcases q1:cV 1 9999 b
  ·rw[q1] at hB;have R:=y6 @di (y6 @bA (y6 @bq (y6 @bM (y6 @bz (y6 @bw aI)))))
   repeat' ((first |(with_reducible refine .guard (fun hb =>?_) (fun hb =>?_) <;>try simp only[hb])|refine ae.aM (by decide +kernel) rfl fun K hK =>?_|refine .lead _ (hF) ?_|refine .flat _ (hB) rfl ?_|(refine .aD [0,1,2,4,5,6,7,13,18,23] hK ?_;clear hK K)|(with_reducible refine .done (hK _ ?_);clear hK K)|refine ae.of rfl ?_|(with_reducible refine aF.aL (fun h =>?_) (fun h =>?_) <;>try simp only[h])) <;>try simp only[aN,R,simprocAttr])
   all_goals clear R
   rfl
  rw[q1] at hB;rcases q2:decide (b∈s.here)
  ·rcases q3:s.fx b
   ·rw[q3] at hR;have hh:(b∈s.here∨s.fx b=true)=False:=by simpa[q3] using q2
    simp only[zv2,if_false,hh];have R:=y6 @q2 (y6 @hlk (y6 @di (y6 @bA (y6 @bq (y6 @bM (y6 @bz (y6 @bw aI)))))))
    repeat' ((first |(with_reducible refine .guard (fun hb =>?_) (fun hb =>?_) <;>try simp only[hb])|refine ae.aM (by decide +kernel) rfl fun K hK =>?_|refine .lead _ (hF) ?_|refine .flat _ (hB) rfl ?_|refine .flat _ (hR) rfl ?_|refine .lead _ (hW) ?_|(refine .aD [0,1,2,4,5,6,7,13,18,23] hK ?_;clear hK K)|(with_reducible refine .done (hK _ ?_);clear hK K)|refine ae.of rfl ?_|(with_reducible refine aF.aL (fun h =>?_) (fun h =>?_) <;>try simp only[h])) <;>try simp only[aN,R,simprocAttr])
    all_goals clear R
   ·rw[q3] at hR;have hh:(b∈s.here∨s.fx b=true)=True:=by simp[q3]
    simp only[zv2,if_false,hh,if_true];have R:=y6 @q2 (y6 @hlk (y6 @di (y6 @bA (y6 @bq (y6 @bM (y6 @bz (y6 @bw aI)))))))
    repeat' ((first |(with_reducible refine .guard (fun hb =>?_) (fun hb =>?_) <;>try simp only[hb])|refine ae.aM (by decide +kernel) rfl fun K hK =>?_|refine .lead _ (hF) ?_|refine .flat _ (hB) rfl ?_|refine .flat _ (hR) rfl ?_|(refine .aD [0,1,2,4,5,6,7,13,18,23] hK ?_;clear hK K)|(with_reducible refine .done (hK _ ?_);clear hK K)|refine ae.of rfl ?_|(with_reducible refine aF.aL (fun h =>?_) (fun h =>?_) <;>try simp only[h])) <;>try simp only[aN,R,simprocAttr])
    all_goals clear R
    rfl
  ·have hh:b∈s.here:=of_decide_eq_true q2;simp only[zv2,if_false,hh,true_or,if_true];have R:=y6 @q2 (y6 @hlk (y6 @di (y6 @bA (y6 @bq (y6 @bM (y6 @bz (y6 @bw aI)))))))
   repeat' ((first |(with_reducible refine .guard (fun hb =>?_) (fun hb =>?_) <;>try simp only[hb])|refine ae.aM (by decide +kernel) rfl fun K hK =>?_|refine .lead _ (hF) ?_|refine .flat _ (hB) rfl ?_|(refine .aD [0,1,2,4,5,6,7,13,18,23] hK ?_;clear hK K)|(with_reducible refine .done (hK _ ?_);clear hK K)|refine ae.of rfl ?_|(with_reducible refine aF.aL (fun h =>?_) (fun h =>?_) <;>try simp only[h])) <;>try simp only[aN,R,simprocAttr])
   all_goals clear R
   rfl
theorem IH(p:aJ)(b:Int):bp Tryd.prog 28 [enc p,enc b] (.tuple [enc (oQ p b).1,enc (oQ p b).2]):=by
 refine bp.cw Tryd.func28 K2 LY MZ (t7 rfl) (fun hwf W0 D0 E1 =>?_);simp only[Bu,Gt,bS,zz4];clear hwf;have hF:=pg p;simp only[oQ];cases ho:cP p with
 |none =>
  rw[ho] at hF;simp only[jE] at hF;have R:=y6 @bA (y6 @bq (y6 @bM (y6 @bz (y6 @bw aI))))
  repeat' ((first |(with_reducible refine .guard (fun hb =>?_) (fun hb =>?_) <;>try simp only[hb])|refine ae.aM (by decide +kernel) rfl fun K hK =>?_|refine .lead _ (hF) ?_|(refine .aD [0,1,2,4,5,6,7,13,18,23] hK ?_;clear hK K)|(with_reducible refine .done (hK _ ?_);clear hK K)|refine ae.of rfl ?_|(with_reducible refine aF.aL (fun h =>?_) (fun h =>?_) <;>try simp only[h])) <;>try simp only[aN,R,simprocAttr])
  all_goals clear R
  rfl
 |some s =>
  have hjl:=(fe ho).2.2.2.1;rw[ho] at hF;simp only[jE] at hF;have hlk:=gR e8 b s.here;rw[eQ] at hlk;have hB:=ph b;have hW:=r4 p ⟨2,b,0,0⟩ hjl;rcases q1:cV 1 9999 b
  ·rw[q1] at hB;have R:=y6 @di (y6 @bA (y6 @bq (y6 @bM (y6 @bz (y6 @bw aI)))))
   repeat' ((first |(with_reducible refine .guard (fun hb =>?_) (fun hb =>?_) <;>try simp only[hb])|refine ae.aM (by decide +kernel) rfl fun K hK =>?_|refine .lead _ (hF) ?_|refine .flat _ (hB) rfl ?_|(refine .aD [0,1,2,4,5,6,7,13,18,23] hK ?_;clear hK K)|(with_reducible refine .done (hK _ ?_);clear hK K)|refine ae.of rfl ?_|(with_reducible refine aF.aL (fun h =>?_) (fun h =>?_) <;>try simp only[h])) <;>try simp only[aN,R,simprocAttr])
   all_goals clear R
   rfl
  rw[q1] at hB;rcases q2:decide (b∈s.here)
  ·have hh:b∉s.here:=of_decide_eq_false q2;simp only[zv2,if_false,hh];have R:=y6 @q2 (y6 @hlk (y6 @di (y6 @bA (y6 @bq (y6 @bM (y6 @bz (y6 @bw aI)))))))
   repeat' ((first |(with_reducible refine .guard (fun hb =>?_) (fun hb =>?_) <;>try simp only[hb])|refine ae.aM (by decide +kernel) rfl fun K hK =>?_|refine .lead _ (hF) ?_|refine .flat _ (hB) rfl ?_|(refine .aD [0,1,2,4,5,6,7,13,18,23] hK ?_;clear hK K)|(with_reducible refine .done (hK _ ?_);clear hK K)|refine ae.of rfl ?_|(with_reducible refine aF.aL (fun h =>?_) (fun h =>?_) <;>try simp only[h])) <;>try simp only[aN,R,simprocAttr])
   all_goals clear R
   rfl
  ·have hh:b∈s.here:=of_decide_eq_true q2;simp only[zv2,if_false,hh,if_true];have R:=y6 @q2 (y6 @hlk (y6 @di (y6 @bA (y6 @bq (y6 @bM (y6 @bz (y6 @bw aI)))))))
   repeat' ((first |(with_reducible refine .guard (fun hb =>?_) (fun hb =>?_) <;>try simp only[hb])|refine ae.aM (by decide +kernel) rfl fun K hK =>?_|refine .lead _ (hF) ?_|refine .flat _ (hB) rfl ?_|refine .lead _ (hW) ?_|(refine .aD [0,1,2,4,5,6,7,13,18,23] hK ?_;clear hK K)|(with_reducible refine .done (hK _ ?_);clear hK K)|refine ae.of rfl ?_|(with_reducible refine aF.aL (fun h =>?_) (fun h =>?_) <;>try simp only[h])) <;>try simp only[aN,R,simprocAttr])
   all_goals clear R
def eT(p:aJ):aJ×Int:=match cP p with
 |none=>(gl,91)
 |some _=>(⟨p.aE,p.j,p.j.length⟩,0)
theorem HY(A:ai)(n:Nat)(p:aJ)(v:Int)(rest:List aw)(u:Int):da A none n [2] (enc p) (.int .i64 v) rest (some (.int .i64 u))=aC rest (A.aZ n (.box (enc (⟨p.aE,p.j,v⟩:aJ)))):=dU rfl rfl rfl
theorem r1(p:aJ):bp Tryd.prog 14 [enc p] (.tuple [enc (eT p).1,enc (eT p).2]):=by
 refine bp.cw Tryd.func14 KP LK ML (t7 rfl) (fun hwf W0 D0 E1 =>?_);simp only[Bg,Gf,bS];clear hwf;have hF:=r5 p;simp only[pB] at hF;simp only[eT];cases ho:cP p with
 |none =>
  rw[ho] at hF;have R:=y6 @bA (y6 @bq (y6 @bM (y6 @bz (y6 @bw aI))))
  repeat' ((first |(with_reducible refine .guard (fun hb =>?_) (fun hb =>?_) <;>try simp only[hb])|refine ae.aM (by decide +kernel) rfl fun K hK =>?_|refine .lead _ (hF) ?_|(refine .aD [0,1,2,3,4,8] hK ?_;clear hK K)|(with_reducible refine .done (hK _ ?_);clear hK K)|refine ae.of rfl ?_|(with_reducible refine aF.aL (fun h =>?_) (fun h =>?_) <;>try simp only[h])) <;>try simp only[aN,R,simprocAttr])
  all_goals clear R
  rfl
 |some s =>
  have hjl:=(fe ho).2.2.2.1;rw[ho] at hF;have R:=y6 @HY (y6 @bA (y6 @bq (y6 @bM (y6 @bz (y6 @bw aI)))))
  repeat' ((first |(with_reducible refine .guard (fun hb =>?_) (fun hb =>?_) <;>try simp only[hb])|refine ae.aM (by decide +kernel) rfl fun K hK =>?_|refine .lead _ (hF) ?_|refine .lead _ (Ao p (by omega)) ?_|(refine .aD [0,1,2,3,4,8] hK ?_;clear hK K)|(with_reducible refine .done (hK _ ?_);clear hK K)|refine ae.of rfl ?_|(with_reducible refine aF.aL (fun h =>?_) (fun h =>?_) <;>try simp only[h])) <;>try simp only[aN,R,simprocAttr])
  all_goals clear R
def mn(p:aJ)(eD:Int):Int:=p.cv+(eD.tmod (p.j.length-p.cv+1)+(p.j.length-p.cv+1)).tmod (p.j.length-p.cv+1)
def ng(p:aJ)(eD:Int):aJ×Int:=match cP p with
 |none=>(gl,91)
 |some _=>(⟨p.aE,p.j.take (mn p eD).toNat,mn p eD⟩,0)
theorem wF(n m:Int)(hm:0<m):-m<n.tmod m∧n.tmod m<m:=by
 have U:=Int.tmod_lt_of_pos n hm;have ab:=Int.lt_tmod_of_pos n hm;omega
theorem CM{p:aJ}{s:az}(ho:cP p=some s)(eD:Int):0≤p.cv∧p.cv≤p.j.length∧p.cv≤mn p eD∧mn p eD≤p.j.length∧p.j.length≤200:=by
 obtain ⟨_,_,_,ar,h5,_⟩:=fe ho;simp only[iV,cV,zz1,decide_eq_true_eq] at h5;obtain ⟨_,_,h6,h7⟩:=h5;have hm:(0:Int)<p.j.length-p.cv+1:=by omega
 have U:=wF eD (p.j.length-p.cv+1) hm;have ab:=wF (eD.tmod (p.j.length-p.cv+1)+(p.j.length-p.cv+1)) (p.j.length-p.cv+1) hm;have af:=Int.tmod_nonneg (p.j.length-p.cv+1) (show (0:Int)≤eD.tmod (p.j.length-p.cv+1)+(p.j.length-p.cv+1) by omega);simp only[mn];omega
theorem abS{α:Type}[Enc α]{A:ai}(esz:Nat){l:List α}{i:Nat}(h:i≤l.length)(hs:Enc.sz α=esz):lX A esz none (some (.int .i64 i)) none (enc l)=some (enc (l.take i)):=by
 simp only[lX,iR,hs,if_true,j6,kc,zz8];rw[if_pos ⟨by omega,by omega,by omega,by omega⟩];simp
theorem IK(p:aJ)(eD:Int):bp Tryd.prog 30 [enc p,enc eD] (.tuple [enc (ng p eD).1,enc (ng p eD).2]):=by
 refine bp.cw Tryd.func30 K4 L0 M2 (t7 rfl) (fun hwf W0 D0 E1 =>?_);simp only[Bw,Gv,bS,zz4];clear hwf;have hF:=r5 p;simp only[pB] at hF;simp only[ng];cases ho:cP p with
 |none =>
  rw[ho] at hF;have R:=y6 @bA (y6 @bq (y6 @bM (y6 @bz (y6 @bw aI))))
  repeat' ((first |(with_reducible refine .guard (fun hb =>?_) (fun hb =>?_) <;>try simp only[hb])|refine ae.aM (by decide +kernel) rfl fun K hK =>?_|refine .lead _ (hF) ?_|(refine .aD [0,1,2,4,5,6,7,11] hK ?_;clear hK K)|(with_reducible refine .done (hK _ ?_);clear hK K)|refine ae.of rfl ?_|(with_reducible refine aF.aL (fun h =>?_) (fun h =>?_) <;>try simp only[h])) <;>try simp only[aN,R,simprocAttr])
  all_goals clear R
  rfl
 |some s =>
  obtain ⟨k1,k2,k3,k4,k5⟩:=CM ho eD;rw[ho] at hF;obtain ⟨m,hm⟩:∃ m:Int,m=p.j.length-p.cv+1:=⟨_,rfl⟩
  have hmp:0<m:=by omega
  have b1:=wF eD m hmp;have b2:=wF (eD.tmod m+m) m hmp;have hw1:IntKind.i64.wrap ((p.j.length:Int)-p.cv)=(p.j.length:Int)-p.cv:=jR _ (by omega) (by omega);have hw2:IntKind.i64.wrap ((p.j.length:Int)-p.cv+1)=m:=by rw[jR _ (by omega) (by omega),hm]
  have hm0:(m=0)=False:=by simp;omega
  have hw3:IntKind.i64.wrap (eD.tmod m+m)=eD.tmod m+m:=jR _ (by omega) (by omega);have hk:mn p eD=p.cv+(eD.tmod m+m).tmod m:=by simp only[mn,hm]
  have hw4:IntKind.i64.wrap (p.cv+(eD.tmod m+m).tmod m)=mn p eD:=by rw[hk];exact jR _ (by omega) (by omega)
  generalize mn p eD=k at *;have hkn:k=(k.toNat:Int):=by omega
  have hsl:∀ A,lX A 4 none (some (.int .i64 k)) none (enc p.j)=some (enc (p.j.take k.toNat)):=fun A=>by
   have:=abS (A:=A) (α:=aQ) 4 (l:=p.j) (i:=k.toNat) (by omega) rfl;rw[←hkn] at this;exact this
  have hst:∀ (A:ai) rest,da A none 2 [1] (enc (⟨p.aE,p.j,k⟩:aJ)) (enc (p.j.take k.toNat)) rest (some (enc p.j))=aC rest (A.aZ 2 (.box (enc (⟨p.aE,p.j.take k.toNat,k⟩:aJ)))):=fun A rest=>dU (eH _) (by simp[su,sr]) rfl;have hC:=Ar (p.j.take k.toNat) (by rw[zx9];omega);have R:=y6 @hw1 (y6 @hw2 (y6 @hm0 (y6 @hw3 (y6 @hw4 (y6 @hsl (y6 @hst (y6 @HY (y6 @bA (y6 @bq (y6 @bM (y6 @bz (y6 @bw aI))))))))))))
  repeat' ((first |(with_reducible refine .guard (fun hb =>?_) (fun hb =>?_) <;>try simp only[hb])|refine ae.aM (by decide +kernel) rfl fun K hK =>?_|refine .lead _ (hF) ?_|refine .lead _ (hC) ?_|(refine .aD [0,1,2,4,5,6,7,11] hK ?_;clear hK K)|(with_reducible refine .done (hK _ ?_);clear hK K)|refine ae.of rfl ?_|(with_reducible refine aF.aL (fun h =>?_) (fun h =>?_) <;>try simp only[h])) <;>try simp only[aN,R,Option.map_none,simprocAttr])
  all_goals clear R
def mC:dG:=⟨0,0,0,false⟩
theorem o5:(∀ A n b rest (q:dG) x y z w,da A (some 4) n [] b (enc q) rest (some (.agg [.int .i64 x,.int .i64 y,.int .i64 z,.bool w]))=aC rest (A.aZ n (.box (enc q))))∧(∀ A n b rest (q r:dG),da A (some 4) n [] b (enc q) rest (some (enc r))=aC rest (A.aZ n (.box (enc q)))) :=
 ⟨fun A n b rest q x y z w=>dU (eH _) (by rw[fH];rfl) (ff _),fun A n b rest q r=>dU (eH _) (by rw[fH];rfl) ((ff _).trans (ff _).symm)⟩
theorem pz:(ef [.int .i64 0,.int .i64 0,.int .i64 0,.bool false] []).map I.agg=some (enc mC):=by simp[ef];rfl
theorem xa(a b c:Int):(ef [.int .i64 0,.int .i64 0,.int .i64 0,.bool false] [(0,.int .i64 a),(1,.int .i64 b),(2,.int .i64 c)]).map I.agg=some (enc (⟨a,b,c,false⟩:dG)):=by simp[ef,I.bV,I.size];rfl
def jo(p:aJ)(b to:Int):aJ×dG×Int:=match cP p with
 |none=>(gl,mC,91)
 |some s=>if cV 1 9999 b=false then (gl,mC,1) else if cV 0 5 to=false∨to=p.aE then (gl,mC,90) else if b∉s.here then (gl,mC,93) else
  if p.j.length=200 then (gl,mC,2) else ((im p ⟨3,b,to,(s.all.length:Int)+1⟩).1,⟨(s.all.length:Int)+1,to,b,false⟩,0)
theorem wP(p:aJ)(b to:Int):bp Tryd.prog 15 [enc p,enc b,enc to] (.tuple [enc (jo p b to).1,enc (jo p b to).2.1,enc (jo p b to).2.2]):=by
 refine bp.cw Tryd.func15 KQ LL MN (t7 rfl) (fun hwf W0 D0 E1 =>?_);simp only[Bh,Gg,bS,zz4,Nat.reduceAdd];clear hwf;have hF:=pg p;simp only[jo];cases ho:cP p with
 |none =>
  rw[ho] at hF;simp only[jE] at hF;have R:=y6 @pz (y6 @o5 (y6 @bA (y6 @bq (y6 @bM (y6 @bz (y6 @bw aI))))))
  repeat' ((first |(with_reducible refine .guard (fun hb =>?_) (fun hb =>?_) <;>try simp only[hb])|refine ae.aM (by decide +kernel) rfl fun K hK =>?_|refine .lead _ (hF) ?_|(refine .aD [0,1,2,3,6,7,8,9,10,11,17,23,29,41,70] hK ?_;clear hK K)|(with_reducible refine .done (hK _ ?_);clear hK K)|refine ae.of rfl ?_|(with_reducible refine aF.aL (fun h =>?_) (fun h =>?_) <;>try simp only[h])) <;>try simp only[aN,R,simprocAttr])
  all_goals clear R
  rfl
 |some s =>
  have hjl:=(fe ho).2.2.2.1;have hsl:=(fe ho).2.2.1;rw[ho] at hF;simp only[jE] at hF;have hlk:=gR e8 b s.here;rw[eQ] at hlk;have hB:=ph b;have hT:=oc to;have hW:=r4 p ⟨3,b,to,(s.all.length:Int)+1⟩ hjl;have hw:IntKind.i64.wrap ((s.all.length:Int)+1)=(s.all.length:Int)+1:=jR _ (by omega) (by omega);rcases q1:cV 1 9999 b
  ·rw[q1] at hB;have R:=y6 @pz (y6 @o5 (y6 @di (y6 @bA (y6 @bq (y6 @bM (y6 @bz (y6 @bw aI)))))))
   repeat' ((first |(with_reducible refine .guard (fun hb =>?_) (fun hb =>?_) <;>try simp only[hb])|refine ae.aM (by decide +kernel) rfl fun K hK =>?_|refine .lead _ (hF) ?_|refine .flat _ (hB) rfl ?_|(refine .aD [0,1,2,3,6,7,8,9,10,11,17,23,29,41,70] hK ?_;clear hK K)|(with_reducible refine .done (hK _ ?_);clear hK K)|refine ae.of rfl ?_|(with_reducible refine aF.aL (fun h =>?_) (fun h =>?_) <;>try simp only[h])) <;>try simp only[aN,R,simprocAttr])
   all_goals clear R
   rfl
  rw[q1] at hB;rcases q2:cV 0 5 to
  ·rw[q2] at hT;simp only[zv2,if_false,true_or,if_true];have R:=y6 @pz (y6 @o5 (y6 @di (y6 @bA (y6 @bq (y6 @bM (y6 @bz (y6 @bw aI)))))))
   repeat' ((first |(with_reducible refine .guard (fun hb =>?_) (fun hb =>?_) <;>try simp only[hb])|refine ae.aM (by decide +kernel) rfl fun K hK =>?_|refine .lead _ (hF) ?_|refine .flat _ (hB) rfl ?_|refine .flat _ (hT) rfl ?_|(refine .aD [0,1,2,3,6,7,8,9,10,11,17,23,29,41,70] hK ?_;clear hK K)|(with_reducible refine .done (hK _ ?_);clear hK K)|refine ae.of rfl ?_|(with_reducible refine aF.aL (fun h =>?_) (fun h =>?_) <;>try simp only[h])) <;>try simp only[aN,R,simprocAttr])
   all_goals clear R
   rfl
  rw[q2] at hT;rcases q3:(to==p.aE)
  case true =>
   have e:to=p.aE:=by simpa using q3
   simp only[zv2,if_false,false_or,e,if_true];rw[e] at hT q3;have R:=y6 @q3 (y6 @pz (y6 @o5 (y6 @di (y6 @bA (y6 @bq (y6 @bM (y6 @bz (y6 @bw aI))))))))
   repeat' ((first |(with_reducible refine .guard (fun hb =>?_) (fun hb =>?_) <;>try simp only[hb])|refine ae.aM (by decide +kernel) rfl fun K hK =>?_|refine .lead _ (hF) ?_|refine .flat _ (hB) rfl ?_|refine .flat _ (hT) rfl ?_|(refine .aD [0,1,2,3,6,7,8,9,10,11,17,23,29,41,70] hK ?_;clear hK K)|(with_reducible refine .done (hK _ ?_);clear hK K)|refine ae.of rfl ?_|(with_reducible refine aF.aL (fun h =>?_) (fun h =>?_) <;>try simp only[h])) <;>try simp only[aN,R,simprocAttr])
   all_goals clear R
   rfl
  have e:¬ to=p.aE:=by simpa using q3
  simp only[zv2,if_false,false_or,e];rcases q4:decide (b∈s.here)
  ·have hh:b∉s.here:=of_decide_eq_false q4;rw[if_pos hh];have R:=y6 @q3 (y6 @q4 (y6 @hlk (y6 @pz (y6 @o5 (y6 @di (y6 @bA (y6 @bq (y6 @bM (y6 @bz (y6 @bw aI))))))))))
   repeat' ((first |(with_reducible refine .guard (fun hb =>?_) (fun hb =>?_) <;>try simp only[hb])|refine ae.aM (by decide +kernel) rfl fun K hK =>?_|refine .lead _ (hF) ?_|refine .flat _ (hB) rfl ?_|refine .flat _ (hT) rfl ?_|(refine .aD [0,1,2,3,6,7,8,9,10,11,17,23,29,41,70] hK ?_;clear hK K)|(with_reducible refine .done (hK _ ?_);clear hK K)|refine ae.of rfl ?_|(with_reducible refine aF.aL (fun h =>?_) (fun h =>?_) <;>try simp only[h])) <;>try simp only[aN,R,simprocAttr])
   all_goals clear R
   rfl
  ·have hh:b∈s.here:=of_decide_eq_true q4;rw[if_neg (by simpa using hh)];by_cases ab:p.j.length=200
   ·have hw1:im p ⟨3,b,to,(s.all.length:Int)+1⟩=(gl,2):=by simp[im,ab,gl]
    rw[hw1] at hW;simp only[if_pos ab];have R:=y6 @hw (y6 @q3 (y6 @q4 (y6 @hlk (y6 @pz (y6 @xa (y6 @o5 (y6 @di (y6 @bA (y6 @bq (y6 @bM (y6 @bz (y6 @bw aI))))))))))))
    repeat' ((first |(with_reducible refine .guard (fun hb =>?_) (fun hb =>?_) <;>try simp only[hb])|refine ae.aM (by decide +kernel) rfl fun K hK =>?_|refine .lead _ (hF) ?_|refine .flat _ (hB) rfl ?_|refine .flat _ (hT) rfl ?_|refine .lead _ (hW) ?_|(refine .aD [0,1,2,3,6,7,8,9,10,11,17,23,29,41,70] hK ?_;clear hK K)|(with_reducible refine .done (hK _ ?_);clear hK K)|refine ae.of rfl ?_|(with_reducible refine aF.aL (fun h =>?_) (fun h =>?_) <;>try simp only[h])) <;>try simp only[aN,R,simprocAttr])
    all_goals clear R
    rfl
   ·have hw1:(im p ⟨3,b,to,(s.all.length:Int)+1⟩).2=0:=by simp[im,ab]
    rw[hw1] at hW;simp only[if_neg ab];have R:=y6 @hw (y6 @q3 (y6 @q4 (y6 @hlk (y6 @pz (y6 @xa (y6 @o5 (y6 @di (y6 @bA (y6 @bq (y6 @bM (y6 @bz (y6 @bw aI))))))))))))
    repeat' ((first |(with_reducible refine .guard (fun hb =>?_) (fun hb =>?_) <;>try simp only[hb])|refine ae.aM (by decide +kernel) rfl fun K hK =>?_|refine .lead _ (hF) ?_|refine .flat _ (hB) rfl ?_|refine .flat _ (hT) rfl ?_|refine .lead _ (hW) ?_|(refine ae.tK (gs:=x5) [] [(3,[3]),(6,[6]),(7,[7]),(11,[11])] [0,1,2,3,4] (by decide +kernel) (dC.of (by simp[hU,b9,I.only])) fun K hK =>?_;simp only[hZ,x5,zw1,zw2,R,simprocAttr])|(refine .aD [0,1,2,3,6,7,8,9,10,11,17,23,29,41,70] hK ?_;clear hK K)|(with_reducible refine .done (hK _ ?_);clear hK K)|refine ae.of rfl ?_|(with_reducible refine aF.aL (fun h =>?_) (fun h =>?_) <;>try simp only[h])) <;>try simp only[aN,R,simprocAttr])
    all_goals clear R
def ot(p:aJ)(no:Int):aJ×Int:=match cP p with
 |none=>(gl,91)
 |some s=>match s.at no with
  |none=>(gl,94)
  |some i=>if (s.aH i).dQ then (gl,94) else im p ⟨4,(s.aH i).aA,(s.aH i).to,no⟩
theorem II(p:aJ)(no:Int):bp Tryd.prog 29 [enc p,enc no] (.tuple [enc (ot p no).1,enc (ot p no).2]):=by
 refine bp.cw Tryd.func29 K3 LZ M0 (t7 rfl) (fun hwf W0 D0 E1 =>?_);simp only[Bv,Gu,bS,zz4];clear hwf;have hF:=pg p;simp only[ot];cases ho:cP p with
 |none =>
  rw[ho] at hF;simp only[jE] at hF;have R:=y6 @bA (y6 @bq (y6 @bM (y6 @bz (y6 @bw aI))))
  repeat' ((first |(with_reducible refine .guard (fun hb =>?_) (fun hb =>?_) <;>try simp only[hb])|refine ae.aM (by decide +kernel) rfl fun K hK =>?_|refine .lead _ (hF) ?_|(refine .aD [0,1,2,4,5,6,7,8,9,16,35] hK ?_;clear hK K)|(with_reducible refine .done (hK _ ?_);clear hK K)|refine ae.of rfl ?_|(with_reducible refine aF.aL (fun h =>?_) (fun h =>?_) <;>try simp only[h])) <;>try simp only[aN,R,simprocAttr])
  all_goals clear R
  rfl
 |some s =>
  have hjl:=(fe ho).2.2.2.1;rw[ho] at hF;simp only[jE] at hF;have hlk:=vu (s:=s) (fun i=>.ref (enc (s.aH i))) no
  dsimp only
  cases ha:s.at no with
  |none =>
   rw[ha] at hlk;simp only at hlk;have R:=y6 @hlk (y6 @di (y6 @bA (y6 @bq (y6 @bM (y6 @bz (y6 @bw aI))))))
   repeat' ((first |(with_reducible refine .guard (fun hb =>?_) (fun hb =>?_) <;>try simp only[hb])|refine ae.aM (by decide +kernel) rfl fun K hK =>?_|refine .lead _ (hF) ?_|(refine .aD [0,1,2,4,5,6,7,8,9,16,35] hK ?_;clear hK K)|(with_reducible refine .done (hK _ ?_);clear hK K)|refine ae.of rfl ?_|(with_reducible refine aF.aL (fun h =>?_) (fun h =>?_) <;>try simp only[h])) <;>try simp only[aN,R,simprocAttr])
   all_goals clear R
   rfl
  |some i =>
   rw[ha] at hlk;simp only at hlk;have hW:=r4 p ⟨4,(s.aH i).aA,(s.aH i).to,no⟩ hjl;cases hc:(s.aH i).dQ with
   |true =>
    have R:=y6 @hlk (y6 @hc (y6 @di (y6 @bA (y6 @bq (y6 @bM (y6 @bz (y6 @bw aI)))))))
    repeat' ((first |(with_reducible refine .guard (fun hb =>?_) (fun hb =>?_) <;>try simp only[hb])|refine ae.aM (by decide +kernel) rfl fun K hK =>?_|refine .lead _ (hF) ?_|(refine .aD [0,1,2,4,5,6,7,8,9,16,35] hK ?_;clear hK K)|(with_reducible refine .done (hK _ ?_);clear hK K)|refine ae.of rfl ?_|(with_reducible refine aF.aL (fun h =>?_) (fun h =>?_) <;>try simp only[h])) <;>try simp only[aN,R,simprocAttr])
    all_goals clear R
    rfl
   |false =>
    have R:=y6 @hlk (y6 @hc (y6 @di (y6 @bA (y6 @bq (y6 @bM (y6 @bz (y6 @bw aI)))))))
    repeat' ((first |(with_reducible refine .guard (fun hb =>?_) (fun hb =>?_) <;>try simp only[hb])|refine ae.aM (by decide +kernel) rfl fun K hK =>?_|refine .lead _ (hF) ?_|refine .lead _ (hW) ?_|(refine .aD [0,1,2,4,5,6,7,8,9,16,35] hK ?_;clear hK K)|(with_reducible refine .done (hK _ ?_);clear hK K)|refine ae.of rfl ?_|(with_reducible refine aF.aL (fun h =>?_) (fun h =>?_) <;>try simp only[h])) <;>try simp only[aN,R,simprocAttr])
    all_goals clear R
def je(k:Int):Int:=if k=1 then 7 else if k=2 then 5 else if k=3 then 8 else if k=4 then 6 else 0
theorem Za(k:Int):fL (.i .i64) (.int .i64 0) (.int .i64 k) [.int .i64 1,.int .i64 2,.int .i64 3,.int .i64 4] [.int .i64 7,.int .i64 5,.int .i64 8,.int .i64 6]=some (.int .i64 (je k),decide (k=1∨k=2∨k=3∨k=4)):=by
 have h:=vt e8 (.int .i64 0) k [1,2,3,4] [.int .i64 7,.int .i64 5,.int .i64 8,.int .i64 6];simp only[zz7,zx8,eQ] at h;rw[h];by_cases U:k=1
 ·subst U;rfl
 by_cases ab:k=2
 ·subst ab;rfl
 by_cases af:k=3
 ·subst af;rfl
 by_cases ar:k=4
 ·subst ar;rfl
 simp[List.findIdx?_cons,U,ab,af,ar,je]
theorem IT(k:Int):bp Tryd.prog 43 [enc k] (enc (je k)):=by
 refine bp.cw Tryd.func43 Lg Mc Nf (t7 rfl) (fun hwf W0 D0 E1 =>?_);simp only[BH,GH,bS];clear hwf;have hv:∀ k n,(I.int k n).bV=true:=fun _ _=>rfl;have hl:=Za k;have R:=y6 @hv (y6 @hl (y6 @Fv (y6 @bM (y6 @bz (y6 @bw aI)))))
 repeat' ((first |(with_reducible refine .guard (fun hb =>?_) (fun hb =>?_) <;>try simp only[hb])|refine ae.aM (by decide +kernel) rfl fun K hK =>?_|(refine .aD [0,2] hK ?_;clear hK K)|(with_reducible refine .done (hK _ ?_);clear hK K)|refine ae.of rfl ?_|(with_reducible refine aF.aL (fun h =>?_) (fun h =>?_) <;>try simp only[h])) <;>try simp only[aN,R,simprocAttr])
 all_goals clear R
def ep(r:ca):aQ:=⟨je r.kind,r.aA,r.fI,r.no⟩
def fJ(p:aJ)(r:ca):aJ×Int:=match cP p with
 |none=>(gl,91)
 |some s=>if lh r=false∨r.to≠p.aE then (gl,95) else match eb s (ep r) with
  |none=>(p,0)
  |some _=>im p (ep r)
theorem H7{ts:List (Nat×I)}{os0:List (Nat×ak)}{s:az}(hno:∀ m,2000≤m→aj os0 m=none):au ts (dw s++os0)=au ts (os0++dw s):=by
 simp only[au,ai.mk.injEq,true_and]
 funext n
 rw[gv,gv];cases U:aj (dw s) n with
 |none=>simp only;cases aj os0 n <;>rfl
 |some y=>rw[hno n (z6 (s:=s) (by simp[av,U])).1]
theorem aW.aay{K:ai→Prop}{p:aJ}{avs:List I}{a1 a2:Option (List I)}{dst:Option Nat}{rest:List aw}{ts:List (Nat×I)}{os0:List (Nat×ak)}(ho:cP p=none)(hav:avs=[enc p])
  (h:aW Tryd.prog dq false K (aC rest ((au ts os0).a8 dst (.tuple [.nilp,.int .i64 91])))):aW Tryd.prog dq false K (.call 24 avs a1 a2 dst rest (au ts os0)):=by
 subst hav;refine .bP false [] [] [enc p] _ rfl (An p) ⟨fun m x hx=>by simp[aj] at hx,fun m m' hm=>by simp[av,aj] at hm⟩ ⟨.inl ⟨(kj _ _).symm,b7 _ _,eH _⟩,trivial⟩ ?_ ?_
 ·intro r os' hp;unfold oM at hp;rw[ho] at hp;obtain ⟨rfl,rfl⟩:=hp;exact ⟨fun m y hy=>by simp[aj] at hy,fun m m' hm=>by simp[av,aj] at hm,fun m hm=>hm,fun m hm=>by simp[av,aj] at hm,rfl,fun h=>by cases h⟩
 ·intro r os' hp;unfold oM at hp;rw[ho] at hp;obtain ⟨rfl,rfl⟩:=hp;exact h
theorem aW.vM{K:ai→Prop}{p:aJ}{s:az}{avs:List I}{a1 a2:Option (List I)}{dst:Option Nat}{rest:List aw}{ts:List (Nat×I)}{os0:List (Nat×ak)}(ho:cP p=some s)(hav:avs=[enc p])(hno:∀ m,2000≤m→aj os0 m=none)
  (h:aW Tryd.prog dq false K (aC rest ((au ts (os0++dw s)).a8 dst (.tuple [.ptr 2000 [],.int .i64 0])))):aW Tryd.prog dq false K (.call 24 avs a1 a2 dst rest (au ts os0)):=by
 subst hav;obtain ⟨hk,_,af,ar,_⟩:=fe ho;refine .bP false [] [] [enc p] _ rfl (An p) ⟨fun m x hx=>by simp[aj] at hx,fun m m' hm=>by simp[av,aj] at hm⟩ ⟨.inl ⟨(kj _ _).symm,b7 _ _,eH _⟩,trivial⟩ ?_ ?_
 ·intro r os' hp;unfold oM at hp;rw[ho] at hp;obtain ⟨rfl,rfl⟩:=hp;refine ⟨fun m y hy=>⟨(mN hk hy).1,(mN hk hy).2,fun h=>by cases h⟩,fun m m' _ _ h=>h,fun m hm=>by simp[av,aj] at hm,fun m hm _ =>?_,?_,fun h=>by cases h⟩
  ·have:=z6 hm;exact ⟨hno m this.1,by simp only[bB];omega⟩
  ·have:=(dV (jw s.all.length) (n:=2000)).2 (.inl (by omega));simp[I.only,I.bQ,this]
 ·intro r os' hp;unfold oM at hp;rw[ho] at hp;obtain ⟨rfl,rfl⟩:=hp;rw[nH,H7 hno];exact h
theorem aW.H9{K:ai→Prop}{s s2:az}{b:Bool}{x:aQ}{avs:List I}{a1 a2:Option (List I)}{dst:Option Nat}{rest:List aw}{ts:List (Nat×I)}{ow:List (Nat×ak)}(hk:cK s)(hlen:s.all.length≤300)(hav:avs=[.ptr 2000 [],enc x])(how:∀ m,2000≤m→aj ow m=none)(hst:eh s x=(s2,b))
  (h:aW Tryd.prog dq false K (aC rest ((au ts (ow++dw s2)).a8 dst (.bool b)))):aW Tryd.prog dq false K (.call 44 avs a1 a2 dst rest (au ts (ow++dw s))):=by
 refine aW.uc hk hlen hav how hst ?_;have hso:=tY hk x;rw[hst] at hso;obtain ⟨k1,k2,k3,k4⟩:=hso;have e:au ts (dw s2++(ow++dw s))=au ts (ow++dw s2):=by
  rw[←H7 how];simp only[au,ai.mk.injEq,true_and]
  funext n
  rw[gv (dw s2) (ow++dw s),gv (dw s2) ow,gv ow (dw s)];cases U:aj (dw s2) n with
  |some y=>rfl
  |none =>
   simp only;have:aj (dw s) n=none:=by
    cases ab:aj (dw s) n with
    |none=>rfl
    |some y =>
     exfalso
     have hin:av (dw s) n=true:=by simp[av,ab]
     have:av (dw s2) n=true:=by
      rcases (dV (jw _)).1 hin with h5 | ⟨i,hi,rfl⟩
      ·exact (dV (jw _)).2 (.inl h5)
      ·exact (dV (jw _)).2 (.inr ⟨i,Nat.lt_of_lt_of_le hi k3,rfl⟩)
     simp[av,U] at this
   rw[this];cases aj ow n <;>rfl
 rw[e];exact h
theorem uo(p:aJ)(r:ca):bp Tryd.prog 18 [enc p,enc r] (.tuple [enc (fJ p r).1,enc (fJ p r).2]):=by
 refine bp.cw Tryd.func18 KT LO MQ (t7 rfl) (fun hwf W0 D0 E1 =>?_);simp only[Bk,Gj,bS,zz4];clear hwf;simp only[fJ];have how:∀ (a b c:ak) m,2000≤m→aj [(4,a),(3,b),(2,c)] m=none:=fun a b c m hm=>by simp only[aj];rw[if_neg (by omega),if_neg (by omega),if_neg (by omega)]
 have how2:∀ (a b c d e:ak) m,2000≤m→aj [(8,a),(8,b),(4,c),(3,d),(2,e)] m=none:=fun a b c d e m hm=>by simp only[aj];rw[if_neg (by omega),if_neg (by omega),if_neg (by omega),if_neg (by omega),if_neg (by omega)]
 cases ho:cP p with
 |none =>
  have R:=y6 @bA (y6 @bq (y6 @bM (y6 @bz (y6 @bw aI))))
  repeat' ((first |(with_reducible refine .guard (fun hb =>?_) (fun hb =>?_) <;>try simp only[hb])|refine ae.aM (by decide +kernel) rfl fun K hK =>?_|refine aW.aay ho rfl ?_|(refine .aD [0,1,2,3,4,5,6,7,8,14,19,44] hK ?_;clear hK K)|(with_reducible refine .done (hK _ ?_);clear hK K)|refine ae.of rfl ?_|(with_reducible refine aF.aL (fun h =>?_) (fun h =>?_) <;>try simp only[h])) <;>try simp only[aN,R,simprocAttr])
  all_goals clear R
  rfl
 |some s =>
  obtain ⟨hk,hme,af,hjl,_⟩:=fe ho
  dsimp only
  have hR:=IS r;have kv:aj (dw s) 8=none:=eP (.inl (by omega)) fun i _=>by simp only[bJ];omega
  rcases q1:lh r
  ·rw[q1] at hR;simp only[true_or,if_true];have R:=y6 @kv (y6 @bA (y6 @bq (y6 @bM (y6 @bz (y6 @bw aI)))))
   repeat' ((first |(with_reducible refine .guard (fun hb =>?_) (fun hb =>?_) <;>try simp only[hb])|refine ae.aM (by decide +kernel) rfl fun K hK =>?_|refine aW.vM ho rfl (how _ _ _) ?_|refine .flat _ (hR) rfl ?_|(refine .aD [0,1,2,3,4,5,6,7,8,14,19,44] hK ?_;clear hK K)|(with_reducible refine .done (hK _ ?_);clear hK K)|refine ae.of rfl ?_|(with_reducible refine aF.aL (fun h =>?_) (fun h =>?_) <;>try simp only[h])) <;>try simp only[aN,R,zz3,simprocAttr])
   all_goals clear R
   rfl
  rw[q1] at hR;rcases q2:(r.to != p.aE)
  case true =>
   have e:r.to≠p.aE:=by simpa using q2
   simp only[zv2,false_or,if_pos e];have R:=y6 @kv (y6 @q2 (y6 @bA (y6 @bq (y6 @bM (y6 @bz (y6 @bw aI))))))
   repeat' ((first |(with_reducible refine .guard (fun hb =>?_) (fun hb =>?_) <;>try simp only[hb])|refine ae.aM (by decide +kernel) rfl fun K hK =>?_|refine aW.vM ho rfl (how _ _ _) ?_|refine .flat _ (hR) rfl ?_|(refine .aD [0,1,2,3,4,5,6,7,8,14,19,44] hK ?_;clear hK K)|(with_reducible refine .done (hK _ ?_);clear hK K)|refine ae.of rfl ?_|(with_reducible refine aF.aL (fun h =>?_) (fun h =>?_) <;>try simp only[h])) <;>try simp only[aN,R,zz3,simprocAttr])
   all_goals clear R
   rfl
  have e:¬ r.to≠p.aE:=by simpa using q2
  simp only[zv2,false_or,if_neg e];have hKd:=IT r.kind;have hst:∀ A rest b,da A (some 4) 8 [] b (enc (ep r)) rest (some (.agg [.int .i64 0,.int .i64 0,.int .i64 0,.int .i64 0]))=aC rest (A.aZ 8 (.box (enc (ep r)))):=fun A rest b=>dU (eH _) (by rw[fH];rfl) (ff _);have hbl:(ef [.int .i64 0,.int .i64 0,.int .i64 0,.int .i64 0] [(0,.int .i64 (je r.kind)),(1,.int .i64 r.aA),(2,.int .i64 r.fI),(3,.int .i64 r.no)]).map I.agg=some (enc (ep r)):=w9 _ _ _ _;cases ht:eb s (ep r) with
  |none =>
   have hs:eh s (ep r)=(s,false):=by simp[eh,ht]
   have R:=y6 @kv (y6 @q2 (y6 @hst (y6 @hbl (y6 @bA (y6 @bq (y6 @bM (y6 @bz (y6 @bw aI))))))))
   repeat' ((first |(with_reducible refine .guard (fun hb =>?_) (fun hb =>?_) <;>try simp only[hb])|refine ae.aM (by decide +kernel) rfl fun K hK =>?_|refine aW.vM ho rfl (how _ _ _) ?_|refine .flat _ (hR) rfl ?_|refine .flat _ (hKd) rfl ?_|refine aW.H9 (ow:=[(8,_),(8,_),(4,_),(3,_),(2,_)]) hk (by omega) rfl (how2 _ _ _ _ _) hs ?_|refine .lead _ (Ao p (by omega)) ?_|(refine .aD [0,1,2,3,4,5,6,7,8,14,19,44] hK ?_;clear hK K)|(with_reducible refine .done (hK _ ?_);clear hK K)|refine ae.of rfl ?_|(with_reducible refine aF.aL (fun h =>?_) (fun h =>?_) <;>try simp only[h])) <;>try simp only[aN,R,zz3,simprocAttr])
   all_goals clear R
  |some s2 =>
   have hs:eh s (ep r)=(s2,true):=by simp[eh,ht]
   have hW:=r4 p (ep r) hjl;have R:=y6 @kv (y6 @q2 (y6 @hst (y6 @hbl (y6 @bA (y6 @bq (y6 @bM (y6 @bz (y6 @bw aI))))))))
   repeat' ((first |(with_reducible refine .guard (fun hb =>?_) (fun hb =>?_) <;>try simp only[hb])|refine ae.aM (by decide +kernel) rfl fun K hK =>?_|refine aW.vM ho rfl (how _ _ _) ?_|refine .flat _ (hR) rfl ?_|refine .flat _ (hKd) rfl ?_|refine aW.H9 (ow:=[(8,_),(8,_),(4,_),(3,_),(2,_)]) hk (by omega) rfl (how2 _ _ _ _ _) hs ?_|refine .lead _ (hW) ?_|(refine .aD [0,1,2,3,4,5,6,7,8,14,19,44] hK ?_;clear hK K)|(with_reducible refine .done (hK _ ?_);clear hK K)|refine ae.of rfl ?_|(with_reducible refine aF.aL (fun h =>?_) (fun h =>?_) <;>try simp only[h])) <;>try simp only[aN,R,zz3,simprocAttr])
   all_goals clear R
end Go.Proofs.YthbdbocionnfgaaDoor
namespace Go.Proofs.YthbdbocionnfgaaDoor
open Go Go.Abs Go.Shelf
open Go.Abs.Enc (enc)
def YX:Go.Shelf.Ren:=⟨fun | 189=>52 | 125=>63 | 257=>62 | 128=>82 | 129=>83 | 294=>73 | 295=>74 | 296=>75 | 297=>76 | 298=>77 | 299=>78 | 216=>79 | 300=>80 | 301=>81 | 328=>87 | 329=>88 | 330=>89 | 331=>90 | 332=>91 | 215=>92 | 343=>97 | n=>n,fun | 28=>25 | 3=>3 | 46=>120 | 0=>0 | 51=>131 | 53=>133 | 4=>4 | 183=>123 | 182=>122 | 131=>128 | 5=>5 | 9=>9 | 218=>136 | 222=>140 | 228=>147 | 229=>148 | n=>n,fun | n=>n⟩
theorem EP:Go.Proofs.Lays.n189 Tryd.prog YX := {
 mixed:=by kernel_rfl
 f125:=Tryd.func63.trans (congrArg some (by kernel_rfl))
 f128:=Tryd.func82.trans (congrArg some (by kernel_rfl))
 f129:=Tryd.func83.trans (congrArg some (by kernel_rfl))
 f189:=Tryd.func52.trans (congrArg some (by kernel_rfl))
 f215:=Tryd.func92.trans (congrArg some (by kernel_rfl))
 f216:=Tryd.func79.trans (congrArg some (by kernel_rfl))
 f257:=Tryd.func62.trans (congrArg some (by kernel_rfl))
 f294:=Tryd.func73.trans (congrArg some (by kernel_rfl))
 f295:=Tryd.func74.trans (congrArg some (by kernel_rfl))
 f296:=Tryd.func75.trans (congrArg some (by kernel_rfl))
 f297:=Tryd.func76.trans (congrArg some (by kernel_rfl))
 f298:=Tryd.func77.trans (congrArg some (by kernel_rfl))
 f299:=Tryd.func78.trans (congrArg some (by kernel_rfl))
 f300:=Tryd.func80.trans (congrArg some (by kernel_rfl))
 f301:=Tryd.func81.trans (congrArg some (by kernel_rfl))
 f328:=Tryd.func87.trans (congrArg some (by kernel_rfl))
 f329:=Tryd.func88.trans (congrArg some (by kernel_rfl))
 f330:=Tryd.func89.trans (congrArg some (by kernel_rfl))
 f331:=Tryd.func90.trans (congrArg some (by kernel_rfl))
 f332:=Tryd.func91.trans (congrArg some (by kernel_rfl))
 f343:=Tryd.func97.trans (congrArg some (by kernel_rfl))
 t0:=Tryd.underlying0
 a0:=Tryd.isAgg0
 z0:=Tryd.sizeOf0
 v0:=Tryd.zeroValue0
 t3:=Tryd.underlying3
 a3:=Tryd.isAgg3
 z3:=Tryd.sizeOf3
 v3:=Tryd.zeroValue3
 t4:=Tryd.underlying4
 a4:=Tryd.isAgg4
 z4:=Tryd.sizeOf4
 v4:=Tryd.zeroValue4
 t5:=Tryd.underlying5
 a5:=Tryd.isAgg5
 z5:=Tryd.sizeOf5
 v5:=Tryd.zeroValue5
 t9:=Tryd.underlying9
 a9:=Tryd.isAgg9
 z9:=Tryd.sizeOf9
 v9:=Tryd.zeroValue9
 t28:=Tryd.underlying25
 a28:=Tryd.isAgg25
 z28:=Tryd.sizeOf25
 v28:=Tryd.zeroValue25
 t46:=Tryd.underlying120
 a46:=Tryd.isAgg120
 z46:=Tryd.sizeOf120
 v46:=Tryd.zeroValue120
 t51:=Tryd.underlying131
 a51:=Tryd.isAgg131
 z51:=Tryd.sizeOf131
 v51:=Tryd.zeroValue131
 t53:=Tryd.underlying133
 a53:=Tryd.isAgg133
 z53:=Tryd.sizeOf133
 v53:=Tryd.zeroValue133
 t131:=Tryd.underlying128
 a131:=Tryd.isAgg128
 z131:=Tryd.sizeOf128
 v131:=Tryd.zeroValue128
 t182:=Tryd.underlying122
 a182:=Tryd.isAgg122
 z182:=Tryd.sizeOf122
 v182:=Tryd.zeroValue122
 t183:=Tryd.underlying123
 a183:=Tryd.isAgg123
 z183:=Tryd.sizeOf123
 v183:=Tryd.zeroValue123
 t218:=Tryd.underlying136
 a218:=Tryd.isAgg136
 z218:=Tryd.sizeOf136
 v218:=Tryd.zeroValue136
 t222:=Tryd.underlying140
 a222:=Tryd.isAgg140
 z222:=Tryd.sizeOf140
 v222:=Tryd.zeroValue140
 t228:=Tryd.underlying147
 a228:=Tryd.isAgg147
 z228:=Tryd.sizeOf147
 v228:=Tryd.zeroValue147
 t229:=Tryd.underlying148
 a229:=Tryd.isAgg148
 z229:=Tryd.sizeOf148
 v229:=Tryd.zeroValue148 }
def lA(k:Nat)(ws:List Int):List (Nat×ak):=[(k,.box (.agg (ws.map enc)))]
theorem Fe(p:Nat→Bool)(l:List Int):(I.agg (l.map enc)).only p=true:=by simp only[I.only];exact dZ p l
def abD(ws:List Int):cE:=fun r os'=>r=.tuple []∧os'=lA 1000000 ws
def bY(xs:List Int):List Int:=xs.mergeSort fun x y=>decide (x≤y)
theorem Hc{w:World}{D:aX}{E:bj} : ∀ {xs:List Int} {cs:List Value},aU w D E (xs.map enc) cs→cs=xs.map (Value.int .i64)∧∀ x∈xs,IntKind.i64.min≤x∧x≤IntKind.i64.max
 | [],cs,h=>by
  simp only[zx8,aU] at h;subst h;exact ⟨rfl,by simp⟩
 |x::xs,cs,h=>by
  simp only[zz7,aU] at h;obtain ⟨c1,c2,rfl,U,ab⟩:=h;obtain ⟨rfl,af⟩:=Hc ab;have h1':c1=[.int .i64 x]∧IntKind.i64.min≤x∧x≤IntKind.i64.max:=U;obtain ⟨rfl,ar⟩:=h1';refine ⟨rfl,fun y hy =>?_⟩;rcases zw7.1 hy with rfl | hy
  ·exact ar
  ·exact af y hy
theorem tH{w:World}{D:aX}{E:bj} : ∀ {xs:List Int},(∀ x∈xs,IntKind.i64.min≤x∧x≤IntKind.i64.max)→aU w D E (xs.map enc) (xs.map (Value.int .i64))
 | [],_=>rfl
 |x::xs,h=>⟨[.int .i64 x],xs.map (Value.int .i64),rfl,⟨rfl,h x (by simp)⟩,tH fun y hy=>h y (by simp[hy])⟩
theorem tU(xs:List Int):(I.agg (xs.map enc)).bh=.eS (List.replicate xs.length .one):=by
 show cW.eS (I.cZ _)=_
 congr 1
 induction xs with
 |nil=>rfl
 |cons x xs ih=>simp only[zz7,I.cZ,ih,zw8,List.replicate_succ];rfl
theorem aa0{xs ys q:List Int}(hl:ys.length=xs.length){cs:Array Value}(hc:cs.toList=(xs++q).map (Value.int .i64)):(Sort.putCells (Value.int .i64) 0 ys.toArray cs).toList=(ys++q).map (Value.int .i64):=by
 apply List.ext_getElem?;intro k;have U:cs[k]?=((xs++q).map (Value.int .i64))[k]?:=by rw[←hc,zw6]
 rw[zw6,Sort.putCells,Array.getElem?_mapIdx,U];simp only[zx7,List.size_toArray,zw5,true_and,zz4,Nat.sub_zero];by_cases hk:k<ys.length
 ·simp only[hk,if_true];rw[zx0 (by omega),zx0 hk,zx3 (by omega),zx3 hk];simp[hk]
 ·simp only[hk,if_false];rw[zv1 (by omega),zv1 (by omega),hl];cases (q[k-xs.length]?) <;>rfl
open Go.Sort Go.RowKit in
theorem I4(xs q:List Int)(hn:xs.length≤1000):cU Tryd.prog 52 [.view 1000000 [] 1 0 xs.length] (lA 1000000 (xs++q)) (abD (bY xs++q)):=by
 refine ⟨B8,fun w D E vs _ hD hO hv =>?_⟩;have ho:=hO.bP 1000000;simp only[lA,aj,if_true] at ho;obtain ⟨b,cs,T,ay,-,hb,hr,hnD⟩:=ho;have hEn:∀ n,n≠1000000→E n=none:=fun n hn=>by
  have:=hO.bP n;simpa only[lA,aj,if_neg hn,cS] using this
 simp only[aO] at hv;obtain ⟨v,rest,cs',rfl,hp,hr',rfl⟩:=hv;obtain ⟨b',bh,off,l,hE',hoff,hpart,rfl,hl1,hl2,hl3⟩:=hr';rw[ay] at hE';simp only[u8,bO.aR.injEq] at hE';obtain ⟨rfl,rfl⟩:=hE';have hoff':off=0:=by
  have:(some 0:Option Nat)=some off:=by rw[←hoff];rw[tU];rfl
  injection this with this;exact this.symm
 subst hoff';have hp':v=.slice (some ⟨b,0,none⟩) xs.length (l.length-0):=by
  have:[Value.slice (some ⟨b,0+0*1,none⟩) xs.length (l.length-0)]=[v]:=hp;simpa using this.symm
 subst hp';obtain ⟨hcs,hrg⟩:=Hc hr;have hbs:b<w.heap.size:=(zx1.1 hb).1;have hH:Holds (Value.int .i64) w b 0 xs.toArray:=fun j hj=>by
  simp only[List.size_toArray] at hj;constructor
  ·simp only[World.cell?,hb,Option.isSome_none,zz5,if_false,zz4];rw[←zw6,hcs];rw[zx2,zx0 (by simpa using hj)];simp[hj]
  ·simp[World.frozen?,hb]
 have hlen:(bY xs).length=xs.length:=by simp[bY]
 refine (Any.slices_Sort_int EP b 0 (l.length-0) xs w hH hbs (by omega)).mono ?_;rintro e w' ⟨rfl,n,os,rfl⟩;have hb1:(putRow (Value.int .i64) (Sort.ahead w n) b 0 (bY xs).toArray).heap[b]?=some (.cells (putCells (Value.int .i64) 0 (bY xs).toArray cs) T (0,0)):=by
  simp[putRow,mapBlock,Sort.ahead,Array.getElem?_modify,hb,onCells]
 have hother:∀ k,k<w.heap.size→k≠b→(grow (putRow (Value.int .i64) (Sort.ahead w n) b 0 (bY xs).toArray) os).heap[k]?=w.heap[k]?:=fun k hk hkb=>by
  rw[heap_grow_old _ _ (by simpa[Sort.ahead] using hk)];simp[putRow,mapBlock,Sort.ahead,Array.getElem?_modify,Ne.symm hkb]
 have hb2:(grow (putRow (Value.int .i64) (Sort.ahead w n) b 0 (bY xs).toArray) os).heap[b]?=some (.cells (putCells (Value.int .i64) 0 (bY xs).toArray cs) T (0,0)):=by
  rw[heap_grow_old _ _ (by simpa[Sort.ahead] using hbs)];exact hb1
 have hsz:w.heap.size≤(grow (putRow (Value.int .i64) (Sort.ahead w n) b 0 (bY xs).toArray) os).heap.size:=by simp[Sort.ahead]
 have hshow:(grow (putRow (Value.int .i64) (Sort.ahead w n) b 0 (xs.mergeSort fun x y=>decide (x≤y)).toArray) os)=(grow (putRow (Value.int .i64) (Sort.ahead w n) b 0 (bY xs).toArray) os):=rfl;rw[hshow];have hw1:(grow (putRow (Value.int .i64) (Sort.ahead w n) b 0 (bY xs).toArray) os).os=w.os:=rfl;have hw2:(grow (putRow (Value.int .i64) (Sort.ahead w n) b 0 (bY xs).toArray) os).tape=w.tape:=rfl;have hw3:(grow (putRow (Value.int .i64) (Sort.ahead w n) b 0 (bY xs).toArray) os).output=w.output:=rfl;revert hother hb2 hsz hw1 hw2 hw3;generalize grow (putRow (Value.int .i64) (Sort.ahead w n) b 0 (bY xs).toArray) os=w2;intro hother hb2 hsz hw1 hw2 hw3;have hmem:∀ x∈bY xs++q,IntKind.i64.min≤x∧x≤IntKind.i64.max:=fun x hx=>hrg x (by
  rcases zy8.1 hx with h | h
  ·exact zv7 _ (by simpa[bY] using h)
  ·exact List.mem_append_right _ h)
 refine ⟨.tuple #[],D,E,.tuple [],lA 1000000 (bY xs++q),rfl,⟨rfl,rfl⟩,⟨[],rfl,rfl⟩,⟨fun m =>?_,hO.cQ⟩,⟨hw1,hw2,hw3,hsz,fun k hk =>?_⟩,fun _ _ h=>h,fun b0 o h=>Nat.lt_of_lt_of_le (hD b0 o h) hsz,fun _ _ h _ _=>h,fun m e h _=>⟨e,h,bO.le.refl e⟩,⟨fun b0 o u ah hc =>?_,fun b0 es ck ah hc =>?_⟩⟩
 ·by_cases hm:m=1000000
  ·subst hm;simp only[lA,aj,if_true];refine ⟨b,_,T,?_,.inr ⟨1000000,_,ay,rfl⟩,hb2,?_,hnD⟩
   ·rw[ay,tU,tU,zz6,zz6,hlen]
   ·show aU w2 D E _ _
    rw[aa0 hlen hcs];exact tH hmem
  ·simp only[lA,aj,if_neg hm,cS];exact hEn m hm
 ·by_cases hk2:k<w.heap.size
  ·exact hother k hk2 fun e=>hk (.inr ⟨1000000,_,ay,by rw[e];rfl⟩)
  ·exact absurd (.inl (Nat.le_of_not_lt hk2)) hk
 ·have hne:b0≠b:=fun e=>hnD o (e▸ah);simp only[World.cell?,hother b0 (hD b0 o ah) hne] at hc ⊢;exact hc
 ·have hne:b0≠b:=fun e=>hnD 0 (e▸ah);rw[hother b0 (hD b0 0 ah) hne];exact hc
theorem I5(v:I)(hv0:v=.nils 1∨v=enc ([]:List Int)):bp Tryd.prog 52 [v] (.tuple []):=by
 refine ⟨B8,fun w D vs _ hD hv =>?_⟩;simp only[aO] at hv;obtain ⟨u,rest,cs',rfl,hp,hr',rfl⟩:=hv;have hu:∃ a cap,u=.slice a 0 cap:=by
  rcases hv0 with rfl | rfl
  ·have U:cs'=[.slice none 0 0]:=hr';have ab:cs'=[u]:=hp;rw[U] at ab;exact ⟨none,0,by simpa using ab.symm⟩
  ·obtain ⟨a,cap,U,_⟩:=hr';have ab:cs'=[u]:=hp;rw[U] at ab;exact ⟨a,cap,by simpa using ab.symm⟩
 obtain ⟨a,cap,rfl⟩:=hu;refine (Any.slices_Sort_int_none EP a cap w).mono ?_;rintro e w' ⟨rfl,rfl⟩;exact ⟨.tuple #[],D,rfl,⟨[],rfl,rfl⟩,⟨rfl,rfl,rfl,zz9 _,fun _ _=>rfl⟩,hD,fun _ _ h _=>h⟩
end Go.Proofs.YthbdbocionnfgaaDoor
namespace Go.Proofs.YthbdbocionnfgaaDoor
open Go Go.Abs
open Go.Abs.Enc (enc)
theorem C8(n:Nat)(ts:List (Nat×I)):∀ t,Abs.bC (jX [n] ts) t=if (Abs.bC ts t).only (fun j => ![n].contains j)=true then Abs.bC ts t else .dx:=by
 intro t;simp only[jX]
 induction ts with
 |nil=>simp[Abs.bC]
 |cons q ts ih =>
  obtain ⟨k,v⟩:=q;simp only[zz7,Abs.bC];split
  ·rfl
  ·exact ih
theorem wM{p q:Nat→Bool}(h:∀ n,p n=true→q n=true){y:ak}(hy:y.only p=true):y.only q=true:=by
 cases y with
 |box x=>exact jD h _ hy
 |bW T sz es=>exact jj h _ hy
 |dI o=>rfl
 |dJ T xs=>rfl
 |bE ks vs=>simp only[ak.only,zz1] at hy ⊢;exact ⟨jj h _ hy.1,jj h _ hy.2⟩
 |it ks vs l c=>simp only[ak.only,zz1] at hy ⊢;exact ⟨jj h _ hy.1,jj h _ hy.2⟩
theorem FH{n k:Nat} : ∀ {ts:List (Nat×I)},(∀ q∈ts,tp n k q.2)→∀ t,tp n k (Abs.bC ts t)
 | [],_,_=>.inr rfl
 |(a,v)::ts,h,t=>by
  simp only[Abs.bC];split
  ·exact h (a,v) (by simp)
  ·exact FH (fun q hq=>h q (by simp[hq])) t
theorem vK{p:Nat→Bool}{n k:Nat}(hp:p=fun j => ![n].contains j)(f:ak→ak)(hf:∀ y:ak,y.only p=true→f y=y):∀ {os:List (Nat×ak)},b8 p (dY [n] os)→b8 p (dY [n] (os.map fun q=>(q.1,f q.2)))
 | [],_=>trivial
 |(m,y)::os,h=>by
  simp only[zz7,dY,zw0] at h ⊢;split
  ·rename_i hm;rw[if_pos hm] at h;refine ⟨?_,vK (k:=k) hp f hf h.2⟩;rw[hf y h.1];exact h.1
  ·rename_i hm;rw[if_neg hm] at h;exact vK (k:=k) hp f hf h
theorem Pu{ys q:List Int}{k:Nat}(hk:ys.length=k):km 1 0 k (some ((ys++q).map enc))=some (enc ys):=by
 have h:(((ys++q).map (enc (α:=Int))).drop 0).take k=ys.map enc:=by
  rw[List.drop_zero,zx2,List.take_append_of_le_length (by simp[hk]),List.take_of_length_le (by simp[hk])]
 simp only[km,h];rw[if_pos (ja ys),iR];rfl
theorem H5{n k:Nat} : ∀ y:ak,y.only (fun j => ![n].contains j)=true→kK (jQ n k) y=y:=fun y hy=>by
 cases y <;>try rfl
 simp only[ak.only] at hy;simp only[kK,wC (jD (fun j hj=>by simpa using hj) _ hy)]
theorem H3{n:Nat} : ∀ y:ak,y.only (fun j => ![n].contains j)=true→kK (jP n) y=y:=fun y hy=>by
 cases y <;>try rfl
 simp only[ak.only] at hy;simp only[kK,H4 (jD (fun j hj=>by simpa using hj) _ hy)]
theorem H2{ts ts':List (Nat×I)}(h:∀ q∈ts',Abs.bC ts q.1=q.2):bX ts ts':=by
 induction ts' with
 |nil=>trivial
 |cons q ts' ih=>exact ⟨h q (by simp),ih fun q hq=>h q (by simp[hq])⟩
theorem ae.abZ{W0:World}{D0:aX}{nn:Nat}{ow:Nat→Prop}{E1:bj}{Y:Value→List I→List (Nat×ak)→cE→Prop}{ly:Option Nat}{ba:Option (List Deferred)}{y:bH}{Q:Exit→ai→Prop}{ts:List (Nat×I)}{os:List (Nat×ak)}{a b d n:Nat}{xs:List Int}
  (ah:Abs.bC ts d=.own n xs.length) (hn:aj os n=some (.dJ 3 xs)) (hlt:n<1000000) (hl:xs.length≤1000) (ht:∀ t,tp n xs.length (Abs.bC ts t)) (ho:b8 (fun j => ![n].contains j) (dY [n] os))
  (ts':List (Nat×I)) (U:∀ q∈ts',q.1≠a∧q.1≠b∧Abs.bC ts q.1=q.2∧q.2.only (fun j=>j != n)=true)
  (hda:d≠a) (hdb:d≠b)
  (h:ae ⟨Tryd.prog,W0,D0,nn,ow,E1,Y,ly,ba⟩ y Q (au ((d,enc (bY xs))::ts') (dY [n] os))) :
  ae ⟨Tryd.prog,W0,D0,nn,ow,E1,Y,ly,ba⟩ (.seq (.cj none [⟨some a,.mv (.t d),none⟩,⟨some b,.call 52 [.t a],none⟩]) y) Q (au ts os):=by
 have hdrop:∀ m,aj (dY [n] os) m=if m=n then none else aj os m:=fun m=>by
  have:=pP [n] os m;simpa using this
 have ho':∀ m y,aj os m=some y→m≠n→y.only (fun j=>j != n)=true:=fun m y hy hm=>by
  have:=ze ho m y (by rw[hdrop,if_neg hm];exact hy);exact wM (fun j hj=>by simpa using hj) this
 by_cases hx:xs=[]
 ·subst hx;refine ae.sub (bn.acy hn (bn.refl _)) ?_;refine ae.seq (ae.cj (cl:=[]) (by rfl) fun K hK =>?_);have hd':Abs.bC (ts.map fun q=>(q.1,jP n q.2)) d=.nils 1:=by
   rw[rE _ rfl,ah];simp[jP]
  simp only[bL,simprocAttr,hd'];refine .flat _ (I5 _ (.inr rfl)) rfl ?_
  try simp only[bL,simprocAttr]
  refine .done (hK _ ?_);clear hK K;refine ae.sub ((bn.jv [n] d (x:=.nils 1) (y:=enc ([]:List Int)) ?_ (by rfl) ?_).trans (bn.slots ?_ fun m =>?_)) h
  ·simp only[Abs.bC,hda,hdb,if_false];exact hd'
  ·exact vK (k:=0) rfl (kK (jP n)) H3 ho
  ·refine ⟨by simp[Abs.bC,bY],H2 fun q hq =>?_⟩;obtain ⟨k1,k2,k3,k4⟩:=U q hq;have hqd:q.1≠d:=fun e=>by
    rw[e,ah] at k3;rw[←k3] at k4;simp[I.only] at k4
   have h5:Abs.bC (ts.map fun p=>(p.1,jP n p.2)) q.1=q.2:=by
    rw[rE _ rfl,k3,H4 k4]
   simp only[Abs.bC,C8,k1,k2,hqd,if_false,h5];rw[if_pos (jD (fun j hj=>by simpa using hj) _ k4)]
  ·rw[hdrop,pP,vv];by_cases hm:m=n
   ·simp[hm]
   ·cases h6:aj os m with
    |none=>simp[hm]
    |some y =>
     have h7:kK (jP n) y=y:=H3 _ (wM (fun j hj=>by simpa using hj) (ho' _ _ h6 hm));simp[hm,h7]
 ·refine ae.acx hn hx hlt ht (fun m y hy hm=>.inr (ho' m y hy hm)) fun q =>?_;refine ae.seq (ae.cj (cl:=[]) (by rfl) fun K hK =>?_);have hd':Abs.bC (ts.map fun p=>(p.1,jQ n xs.length p.2)) d=.view n [] 1 0 xs.length:=by
   rw[rE _ rfl,ah];simp[jQ]
  simp only[bL,simprocAttr,hd'];refine .bP false [(1000000,n)] (lA 1000000 (xs++List.replicate q 0)) [.view 1000000 [] 1 0 xs.length] _ rfl (I4 xs _ (by omega)) ?_ ?_ ?_ ?_
  ·refine ⟨fun m y hy =>?_,fun m m' h h' _=>by rw[iw.1 h,iw.1 h']⟩;simp only[lA,aj] at hy;split at hy
   ·rename_i hm;cases hy;subst hm;exact ⟨by simp only[bB,if_true,aj,ak.bd,I.bd,oS],Fe _ _,rfl⟩
   ·cases hy
  ·exact ⟨.inl ⟨by simp[I.bd,bB],iw.2 rfl,rfl⟩,trivial⟩
  ·rintro rr os2 ⟨rfl,rfl⟩;refine ⟨fun m y hy =>?_,fun m m' h h' _=>by rw[iw.1 h,iw.1 h'],fun m hm=>by rw[iw.1 hm];exact iw.2 rfl,fun m a b=>by rw[iw.1 a] at b;simp[lA,av,aj] at b,rfl,fun _=>rfl⟩;simp only[lA,aj] at hy;split at hy
   ·cases hy;exact ⟨Fe _ _,rfl,fun h=>by cases h⟩
   ·cases hy
  ·rintro rr os2 ⟨rfl,rfl⟩
   try simp only[lA,dc,zz7,zx8,ak.bd,I.bd,oS,bB,reduceIte,zz3,zy5,I.dh,bL,simprocAttr]
   refine .done (hK _ ?_);clear hK K;refine ae.sub ((bn.jv [n] d (x:=.view n [] 1 0 xs.length) (y:=enc (bY xs)) ?_ ?_ ?_).trans (bn.slots ?_ fun m =>?_)) h
   ·simp only[Abs.bC,hda,hdb,if_false];exact hd'
   ·have:aj (kW [n] ((n,ak.box (I.agg ((bY xs++List.replicate q 0).map enc)))::(n,ak.box (I.agg ((xs++List.replicate q 0).map enc)))::os.map fun p=>(p.1,kK (jQ n xs.length) p.2))) n=some (.box (.agg ((bY xs++List.replicate q 0).map enc))):=by
     rw[rB];simp[aj]
    try simp only[this,bL,simprocAttr]
    exact Pu (by simp[bY])
   ·have:=vK (k:=0) rfl (kK (jQ n xs.length)) H5 ho;simpa[dY] using this
   ·refine ⟨by simp[Abs.bC],H2 fun q hq =>?_⟩;obtain ⟨k1,k2,k3,k4⟩:=U q hq;have hqd:q.1≠d:=fun e=>by
     rw[e,ah] at k3;rw[←k3] at k4;simp[I.only] at k4
    have h5:Abs.bC (ts.map fun p=>(p.1,jQ n xs.length p.2)) q.1=q.2:=by
     rw[rE _ rfl,k3,wC k4]
    simp only[Abs.bC,C8,k1,k2,hqd,if_false,h5];rw[if_pos (jD (fun j hj=>by simpa using hj) _ k4)]
   ·rw[hdrop,pP];by_cases hm:m=n
    ·simp[hm]
    ·simp only[aj,if_neg hm,vv];cases h6:aj os m with
     |none=>simp[hm]
     |some y =>
      have h7:kK (jQ n xs.length) y=y:=H5 _ (wM (fun j hj=>by simpa using hj) (ho' _ _ h6 hm));simp[hm,h7]
def jF(ks:List Int)(aD:List Nat):List Int:=aD.map fun i=>ks.getD i 0
theorem aaJ(ks:List Int)(aD:List Nat)(i:Nat):jF ks (aD++[i])=jF ks aD++[ks.getD i 0]:=by simp[jF]
theorem aaI(ks:List Int)(aD:List Nat):(jF ks aD).length=aD.length:=by simp[jF]
theorem aaH{ks:List Int}{aD:List Nat}(h:aD.Perm (List.range ks.length)):(jF ks aD).Perm ks:=by
 have e:(List.range ks.length).map (fun i=>ks.getD i 0)=ks:=by
  refine List.ext_getElem (by simp) fun i U ab =>?_;simp[zz2,ab]
 simp only[jF];have:=h.map fun i=>ks.getD i 0
 rwa [e] at this
theorem abY{xs ys:List Int}(h:xs.Perm ys):bY xs=bY ys:=by
 unfold bY;have hx:=List.pairwise_mergeSort (le:=fun x y:Int=>decide (x≤y)) (by intro a b c;simp;omega) (by intro a b;simp;omega) xs;have hy:=List.pairwise_mergeSort (le:=fun x y:Int=>decide (x≤y)) (by intro a b c;simp;omega) (by intro a b;simp;omega) ys;refine List.Perm.eq_of_pairwise (fun a b _ _ h k =>?_) hx hy ((List.mergeSort_perm _ _).trans (h.trans (List.mergeSort_perm _ _).symm));simp only[decide_eq_true_eq] at h k;omega
theorem FN(p:Nat→Bool)(f:Nat→dG):∀ l:List Nat,I.bQ p (l.map fun i=>.ref (enc (f i)))=true
 | []=>rfl
 |i::l=>by simp[I.bQ,I.only,b7,FN p f l]
def AG(s:az)(t:List Nat×List Nat×Option Nat):ai :=
 au [(3,.own 905 (jF s.bx t.1).length),(9,.dv 9)] [(9,.it (s.bx.map enc) (s.aK.map fun i=>.ref (enc (s.aH i))) t.2.1 t.2.2),(905,.dJ 3 (jF s.bx t.1))]
theorem wQ(s:az)(hl:s.aK.length≤1000):bp Tryd.prog 25 [c8 s] (enc (bY s.bx)):=by
 refine bp.cw Tryd.func25 KZ LV MW (t7 rfl) (fun hwf W0 D0 E1 =>?_);simp only[Bq,Gq,bS];clear hwf;have hlen:s.bx.length=s.aK.length:=by simp[az.bx]
 refine .gU (by decide +kernel) fun K hK =>?_;simp only[DE,bL,simprocAttr];refine .done (hK _ ?_);clear hK K;refine .gU (by decide +kernel) fun K hK =>?_;simp only[DF,bL,simprocAttr];refine .done (hK _ ?_);clear hK K;refine ae.seq (ae.seq ?_);refine .lx (by decide +kernel) fun K hK =>?_;simp only[DG,bL,simprocAttr]
 try simp only[di,kF,bw,oH,bL,simprocAttr]
 refine .done (hK _ ?_);clear hK K;try simp only[ee]
 refine ae.block (ae.loop (AG s) (fun t=>(t.1++t.2.1).Perm (List.range s.bx.length)) (fun t=>t.2.1.length) ([],List.range s.bx.length,none) (by simp) ?_ ?_)
 ·refine bn.JN 3 905 3 1 rfl rfl ?_;refine bn.slots ?_ (fun n =>?_)
  ·simp[bX,b9,jF]
  ·simp only[jF,zx8,ct,ta,zz8,hlen]
   (repeat' split) <;>simp_all
 rintro ⟨aD,left,cur⟩ hC;simp only at hC;have hdl:aD.length+left.length=s.bx.length:=by simpa using hC.length_eq
 have hpl:=aaI s.bx aD;simp only[AG];by_cases hn:left=[]
 ·subst hn;refine .gU (by decide +kernel) fun K hK =>?_;simp only[x6,bL,simprocAttr]
  try simp only[oH,FB,bL,simprocAttr]
  refine .done (hK _ ?_);clear hK K;refine ae.seq ?_;refine ae.kr ?_;simp only[aF,bL,simprocAttr];refine ⟨fun h =>?_,fun h =>?_⟩
  case refine_1=>cases h
  refine ae.exit ?_;try simp only[ee,jT,simprocAttr]
  have hdn:(jF s.bx aD).Perm s.bx:=aaH (by simpa using hC);rw[←abY hdn];generalize jF s.bx aD=xs at hpl;refine ae.abZ (a:=18) (b:=19) (d:=3) (n:=905) (xs:=xs) rfl rfl (by decide) (by omega) (FH (by simp[tp,I.only,I.bQ])) (by simp only[dY,zw0,List.filter_nil,List.contains_cons];simp[b8,ak.only,dZ,FN,-List.map_map]) [] (by simp) (by decide) (by decide) ?_;have R:=aI
  repeat' ((first |(with_reducible refine .guard (fun hb =>?_) (fun hb =>?_) <;>try simp only[hb])|refine ae.aM (by decide +kernel) rfl fun K hK =>?_|(refine .aD [0,2,3,4,9,11] hK ?_;clear hK K)|(with_reducible refine .done (hK _ ?_);clear hK K)|refine ae.of rfl ?_|(with_reducible refine aF.aL (fun h =>?_) (fun h =>?_) <;>try simp only[h])) <;>try simp only[aN,R,simprocAttr])
  all_goals clear R
 ·refine .gU (by decide +kernel) fun K hK =>?_;simp only[x6,bL,simprocAttr]
  try simp only[oH,bL,simprocAttr]
  refine aW.jh hn fun i hi =>?_;have hib:i<s.bx.length:=zy9.1 (hC.mem_iff.1 (by simp[hi]));have hib2:i<s.aK.length:=by omega
  obtain ⟨hm,hC2⟩:=EX hC hi;have hk1:(s.bx.map (enc (α:=Int)))[i]?=some (enc s.bx[i]):=by simp[hib]
  have hk2:(s.aK.map fun i=>I.ref (enc (s.aH i)))[i]?=some (.ref (enc (s.aH s.aK[i]))):=by simp[hib2]
  refine ⟨_,_,hk1,hk2,?_⟩;have hent:oz (s.bx.map enc) (s.aK.map fun i=>I.ref (enc (s.aH i))) (some i)=some (.tuple [enc s.bx[i],.ref (enc (s.aH s.aK[i]))]):=by
   simp only[oz,hk1,hk2]
  have hx:s.bx.getD i 0=s.bx[i]:=by simp[zz2,hib]
  have hsn:=aaJ s.bx aD i;rw[hx] at hsn;have hbs:gx 1 (some [.int .i64 s.bx[i]])=some (enc [s.bx[i]]):=lE 1 s.bx[i] rfl;have hap:=fun (A:ai) d rest=>JY (A:=A) (d:=d) (e:=3) (bytes:=8) (n:=905) (l:=(jF s.bx aD).length) (xs:=jF s.bx aD) (y:=s.bx[i]) (rest:=rest) rfl (by simp[maxLen];omega) (by omega)
  try simp only[bL,simprocAttr]
  refine .done (hK _ ?_);clear hK K;refine ae.seq ?_;refine ae.kr ?_;simp only[aF,bL,simprocAttr];refine ⟨fun h =>?_,fun h =>?_⟩
  case refine_2=>cases h
  refine ae.skip ?_;try simp only[ee,simprocAttr]
  refine ae.block ?_;have R:=y6 @hent (y6 @hbs (y6 @hap aI))
  repeat' ((first |(with_reducible refine .guard (fun hb =>?_) (fun hb =>?_) <;>try simp only[hb])|refine ae.aM (by decide +kernel) rfl fun K hK =>?_|(refine .aD [0,2,3,4,9,11] hK ?_;clear hK K)|(with_reducible refine .done (hK _ ?_);clear hK K)|refine ae.of rfl ?_|(with_reducible refine aF.aL (fun h =>?_) (fun h =>?_) <;>try simp only[h])) <;>try simp only[aN,R,simprocAttr])
  all_goals clear R
  refine ⟨(aD++[i],left.filter (· != i),some i),hC2,hm,?_⟩;simp only[hsn];refine bn.slots ?_ (fun n =>?_)
  ·simp[bX,b9]
  ·simp only[ct,ta];(repeat' split) <;>simp_all
theorem abz:(∀ A d rest l,wk A d rest (kS l)=aC rest ((A.aZ d (.it (l.map enc) (List.replicate l.length (.bool true)) (List.range (l.map (enc (α:=Int))).length) none)).put d (.dv d))):=fun _ _ _ _=>rfl
end Go.Proofs.YthbdbocionnfgaaDoor
