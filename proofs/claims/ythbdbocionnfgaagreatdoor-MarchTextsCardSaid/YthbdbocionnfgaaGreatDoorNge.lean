/-
  A part of the proof that the law MarchTexts returns true for every input; seven variables of Go's library start as the text lays them (the card ties them); conditions: none beyond the statement's own. (part 5 of 7)
-/
import Derived.Shelf.Sort.Plain
import Derived.Shelf.Slices.In.SortNone
import Derived.Test.YthbdbocionnfgaaGreatDoorNgd
set_option linter.unusedSimpArgs false
set_option linter.unusedVariables false
set_option maxHeartbeats 16000000
set_option maxRecDepth 100000
namespace Go.Proofs.YthbdbocionnfgaaGreatDoor
open Go Go.Abs
open Go.Abs.Enc (enc)
def iE:bn:=⟨0,0,0,0⟩
theorem rf:I.agg [.int .i64 0,.int .i64 0,.int .i64 0,.int .i64 0]=enc iE:=rfl
def vc(k:Nat)(l:List bn)(m:Nat):List (Nat×aq):=[(k,.box (.agg ((l++List.replicate m iE).map enc)))]
def qZ(l:List bn)(v:I)(os':List (Nat×aq)):Prop:=(l=[]∧(v=.nils 4∨v=.c0 4)∧os'=[])∨(l≠[]∧∃ m,v=.view 7 [] 4 0 l.length∧os'=vc 7 l m)
def acK(l:List bn):cL:=fun r os'=>qZ l r os'
theorem IW(l:List bn)(ao:l.length≤1000):cY Tryz.prog 59 [enc l] [] (acK l):=by
 refine cY.b5 Tryz.func59 B1 Ck Cu (t7 rfl) (t7 rfl) (fun m hm=>by simp[ay,ak] at hm) (fun hwf W0 bH E1 =>?_);simp only[wD,yY,bM];refine .fT (by decide +kernel) fun K hK =>?_;simp only[xF,bF,simprocAttr];refine .done (hK _ ?_);clear hK K;refine ae.seq (ae.seq ?_);by_cases hn:l=[]
 ·subst hn;refine .j5 (by decide +kernel) fun K hK =>?_;simp only[rv,bF,simprocAttr];simp only[vu,List.isEmpty_nil,qe];refine .any rfl fun b _ =>?_
  try simp only[bF,simprocAttr]
  generalize (b==0)=t;cases t
  ·refine .done (hK _ ?_);clear hK K;try simp only[ej]
   refine ae.jZ ?_;simp only[av,bF,simprocAttr];refine ⟨fun h =>?_,fun h =>?_⟩
   ·cases h
   refine ae.skip ?_;try simp only[ej,simprocAttr]
   refine .fT (by decide +kernel) fun K hK =>?_;simp only[ry,bF,simprocAttr]
   try simp only[lr,rf,bF,simprocAttr]
   refine .done (hK _ ?_);clear hK K;refine ae.ret ?_;simp only[oU];exact ⟨[],[.c0 4],Ea,⟨⟨.c0 4,rfl,.inl ⟨rfl,rfl,rfl⟩⟩,trivial⟩,.inl ⟨rfl,.inr rfl,rfl⟩⟩
  ·refine .done (hK _ ?_);clear hK K;refine ae.jZ ?_;simp only[av,bF,simprocAttr];refine ⟨fun h =>?_,fun h =>?_⟩
   ·refine .fT (by decide +kernel) fun K hK =>?_;simp only[xG,bF,simprocAttr];refine .done (hK _ ?_);clear hK K;refine ae.ret ?_;simp only[ej,oU];exact ⟨[],[.nils 4],Ea,⟨⟨.nils 4,rfl,.inl ⟨rfl,rfl,rfl⟩⟩,trivial⟩,.inl ⟨rfl,.inl rfl,rfl⟩⟩
   ·cases h
 ·have hu:kc (enc l)=false:=by rw[vu];simpa using hn
  refine .j5 (by decide +kernel) fun K hK =>?_;simp only[rv,bF,simprocAttr]
  try simp only[hu,Fe _ l hn,bF,simprocAttr]
  refine .done (hK _ ?_);clear hK K;try simp only[ej]
  refine ae.jZ ?_;simp only[av,bF,simprocAttr];refine ⟨fun h =>?_,fun h =>?_⟩
  ·cases h
  refine ae.skip ?_;try simp only[ej,simprocAttr]
  refine .fT (by decide +kernel) fun K hK =>?_;simp only[ry,bF,simprocAttr]
  try simp only[lr,rf,bF,simprocAttr]
  refine aV.wa iE rfl hn rfl (by omega) (by simp only[maxLen];omega) fun m =>?_
  try simp only[bF,simprocAttr]
  refine .done (hK _ ?_);clear hK K;refine ae.ret ?_;simp only[oU];exact ⟨vc 7 l m,[.view 7 [] 4 0 l.length],aan rfl (fun p=>by simp only[I.only];exact e8 p _),⟨⟨_,rfl,.inl ⟨rfl,rfl,rfl⟩⟩,trivial⟩,.inr ⟨hn,m,rfl,rfl⟩⟩
theorem pE{l:List bn}{v:I}{os':List (Nat×aq)}(h:qZ l v os'):(∀ n x,ak os' n=some x→x.only (ay os')=true∧x.eG=true)∧v.only (ay os')=true∧(∀ m,ay os' m=true→m=7)∧v.bX=true∧ca none v=true∧v.bg=.one∧v.size=1∧v.isAgg=false:=by
 rcases h with ⟨rfl,rfl | rfl,rfl⟩ | ⟨hn,m,rfl,rfl⟩
 ·exact ⟨fun n x hx=>by simp[ak] at hx,rfl,fun m hm=>by simp[ay,ak] at hm,rfl,rfl,rfl,rfl,rfl⟩
 ·exact ⟨fun n x hx=>by simp[ak] at hx,rfl,fun m hm=>by simp[ay,ak] at hm,rfl,rfl,rfl,rfl,rfl⟩
 ·refine ⟨fun n x hx =>?_,rfl,fun m hm =>?_,rfl,rfl,rfl,rfl,rfl⟩
  ·simp only[vc,ak] at hx;split at hx
   ·cases hx;exact ⟨by simp only[aq.only,I.only];exact e8 _ _,rfl⟩
   ·cases hx
  ·simp only[ay,vc,ak] at hm;split at hm
   ·assumption
   ·simp at hm
theorem H2{ts:List (Nat×I)}{os0 os':List (Nat×aq)}(hno:ak os0 7=none)(h:∀ m,ay os' m=true→m=7):aw ts (os'++os0)=aw ts (os0++os'):=by
 simp only[aw,ai.mk.injEq,true_and]
 funext n
 rw[fY,fY];cases J:ak os' n with
 |none=>simp only;cases ak os0 n <;>rfl
 |some y =>
  have:=h n (by simp[ay,J]);subst this;rw[hno]
theorem aV.ML{K:ai→Prop}{l:List bn}{avs:List I}{a1 a2:Option (List I)}{dst:Option Nat}{rest:List aJ}{ts:List (Nat×I)}{os0:List (Nat×aq)}(ao:l.length≤1000)(hav:a1=some [enc l])(hf:cm false (aw ts os0) avs=some [enc l])(hno:ak os0 7=none)
  (h:∀ v os',qZ l v os'→aV Tryz.prog dA false K (aE rest ((aw ts (os0++os')).aW dst v))):aV Tryz.prog dA false K (.call 59 avs a1 a2 dst rest (aw ts os0)):=by
 have harg:h1 false (aw ts os0) [] [] avs [enc l]:=by
  match avs,hf with
  | [],hf=>simp[cm] at hf
  | [x],hf =>
   refine ⟨.inr ?_,trivial⟩;simp only[cm] at hf;split at hf
   ·rename_i y ys J U;cases U;cases hf;exact J
   ·cases hf
  |x::y::r,hf =>
   simp only[cm] at hf;split at hf
   ·rename_i J U;split at U <;>cases U;cases hf
   ·cases hf
 refine .bU false [] [] [enc l] _ rfl (IW l ao) ⟨fun m x hx=>by simp[ak] at hx,fun m m' hm=>by simp[ay,ak] at hm⟩ (by simpa[jq,CH] using harg) ?_ ?_
 ·intro r os' hp;obtain ⟨J,U,af,_⟩:=pE hp;exact ⟨fun m y hy=>⟨(J m y hy).1,(J m y hy).2,fun h=>by cases h⟩,fun m m' _ _ h=>h,fun m hm=>by simp[ay,ak] at hm,fun m hm _=>by rw[af m hm];exact ⟨hno,by decide⟩,U,fun h=>by cases h⟩
 ·intro r os' hp;rw[mN,kZ (ρ:=bP []) (fun _=>rfl),H2 hno (pE hp).2.2.1];exact h r os' hp
def fA(p:bI)(v:I):I:=.agg [.int .i64 p.aD,v,.int .i64 p.di]
def acL(p:bI):cL:=fun r os'=>∃ v,r=fA p v∧qZ p.j v os'
theorem lJ:(∀ p v,(fA p v).ea=some [.int .i64 p.aD,v,.int .i64 p.di])∧(∀ p v,(fA p v).bX=true)∧(∀ (a c:Int) v w,du [.int .i64 a,v,.int .i64 c] 1 1 w=some w)∧(∀ (a c:Int) v w,du [.int .i64 a,v,.int .i64 c] 0 0 w=some w) :=
 ⟨fun _ _=>rfl,fun _ _=>rfl,fun _ _ _ _=>ky (by simp) rfl,fun _ _ _ _=>ky (by simp) rfl⟩
theorem IV(p:bI)(ao:p.j.length≤1000):cY Tryz.prog 57 [enc p] [] (acL p):=by
 refine cY.b5 Tryz.func57 BZ Cj Ct (t7 rfl) (t7 rfl) (fun m hm=>by simp[ay,ak] at hm) (fun hwf W0 bH E1 =>?_);simp only[wC,yX,bM];clear hwf;have hfe:∀ A,cm false A [enc p.j]=some [enc p.j]:=fun A=>by simp only[cm,ml]
 have R:=y6 @e6 (y6 @bw (y6 @bl (y6 @bj az)))
 repeat' ((first |refine ae.aB (by decide +kernel) rfl fun K hK =>?_|refine aV.ML ao rfl (hfe _) rfl (fun v os' hc =>?_)|(refine .au [0,1,2] hK ?_;clear hK K)|(with_reducible refine .done (hK _ ?_);clear hK K)|refine ae.of rfl ?_|(with_reducible refine av.aA (fun h =>?_) (fun h =>?_) <;>try simp only[h])) <;>try simp only[aC,R,zy1,simprocAttr])
 all_goals clear R
 obtain ⟨g1,g2,g3,g4,g5,g6,g7,g8⟩:=pE hc;have hst:∀ A rest,c7 A none 1 [1] (enc p) v rest (some (enc p.j))=aE rest (A.aT 1 (.box (fA p v))):=fun A rest=>dI g4 g5 (g6.trans rfl);have hok:ca (some 3) (fA p v)=true:=by simp[ca,fA,I.isAgg,I.size,I.sizes,g7]
 have hsh:(fA p v).bg=.db [.one,.one,.one]:=by simp[fA,I.bg,I.de,g6]
 have hst2:∀ A rest,c7 A (some 3) 2 [] (.agg [.int .i64 0,.nils 4,.int .i64 0]) (fA p v) rest (some (.agg [.int .i64 0,.nils 4,.int .i64 0]))=aE rest (A.aT 2 (.box (fA p v))):=fun A rest=>dI rfl hok hsh
 try simp only[hst,bF,simprocAttr]
 have R:=y6 @hst (y6 @hok (y6 @hst2 (y6 @lJ (y6 @e6 (y6 @bw (y6 @bl (y6 @bj az)))))))
 repeat' ((first |refine ae.aB (by decide +kernel) rfl fun K hK =>?_|(refine .au [0,1,2] hK ?_;clear hK K)|(with_reducible refine .done (hK _ ?_);clear hK K)|refine ae.of rfl ?_|(with_reducible refine av.aA (fun h =>?_) (fun h =>?_) <;>try simp only[h])) <;>try simp only[aC,R,simprocAttr])
 all_goals clear R
 refine ⟨os',[fA p v],fun n x hx=>⟨?_,g1 n x hx⟩,⟨⟨fA p v,?_,.inl ⟨rfl,rfl,?_⟩⟩,trivial⟩,v,rfl,hc⟩
 ·have:=g3 n (by simp[ay,hx]);subst this;simp only[aw,ak,Nat.reduceEqDiff,if_false];exact hx
 ·simp[sa,cM,aw,Abs.b9,ak,I.at,hok]
 ·simp[fA,I.only,I.b8,g2]
theorem IX(l:List bn)(ao:l.length≤1000):bd Tryz.prog 59 [enc l] (enc l):=by
 refine bd.b5 Tryz.func59 B1 Ck Cu (t7 rfl) (fun hwf W0 bH E1 =>?_);simp only[wD,yY,bM];refine .fT (by decide +kernel) fun K hK =>?_;simp only[xF,bF,simprocAttr];refine .done (hK _ ?_);clear hK K;refine ae.seq (ae.seq ?_);by_cases hn:l=[]
 ·subst hn;refine .j5 (by decide +kernel) fun K hK =>?_;simp only[rv,bF,simprocAttr];simp only[vu,List.isEmpty_nil,qe];refine .any rfl fun b _ =>?_
  try simp only[bF,simprocAttr]
  generalize (b==0)=t;cases t
  ·refine .done (hK _ ?_);clear hK K;try simp only[ej]
   refine ae.jZ ?_;simp only[av,bF,simprocAttr];refine ⟨fun h =>?_,fun h =>?_⟩
   ·cases h
   refine ae.skip ?_;try simp only[ej,simprocAttr]
   refine .fT (by decide +kernel) fun K hK =>?_;simp only[ry,bF,simprocAttr]
   try simp only[lr,rf,bF,simprocAttr]
   refine .done (hK _ ?_);clear hK K;refine ae.ret ?_;simp only[bF,simprocAttr];rfl
  ·refine .done (hK _ ?_);clear hK K;refine ae.jZ ?_;simp only[av,bF,simprocAttr];refine ⟨fun h =>?_,fun h =>?_⟩
   ·refine .fT (by decide +kernel) fun K hK =>?_;simp only[xG,bF,simprocAttr];refine .done (hK _ ?_);clear hK K;refine ae.ret ?_;simp only[ej,bF,simprocAttr];rfl
   ·cases h
 ·have hu:kc (enc l)=false:=by rw[vu];simpa using hn
  refine .j5 (by decide +kernel) fun K hK =>?_;simp only[rv,bF,simprocAttr]
  try simp only[hu,Fe _ l hn,bF,simprocAttr]
  refine .done (hK _ ?_);clear hK K;try simp only[ej]
  refine ae.jZ ?_;simp only[av,bF,simprocAttr];refine ⟨fun h =>?_,fun h =>?_⟩
  ·cases h
  refine ae.skip ?_;try simp only[ej,simprocAttr]
  refine .fT (by decide +kernel) fun K hK =>?_;simp only[ry,bF,simprocAttr]
  try simp only[lr,rf,bF,simprocAttr]
  refine aV.wa iE rfl hn rfl (by omega) (by simp only[maxLen];omega) fun m =>?_
  try simp only[bF,simprocAttr]
  refine .done (hK _ ?_);clear hK K;refine ae.ret ?_;simp only[bF,simprocAttr]
  try simp only[xq (α:=bn) (sz:=4) rfl,List.take_left,bF,simprocAttr]
theorem Ae(p:bI)(ao:p.j.length≤1000):bd Tryz.prog 57 [enc p] (enc p):=by
 refine bd.b5 Tryz.func57 BZ Cj Ct (t7 rfl) (fun hwf W0 bH E1 =>?_);simp only[wC,yX,bM];clear hwf;have hst:∀ A rest,c7 A none 1 [1] (enc p) (enc p.j) rest (some (enc p.j))=aE rest (A.aT 1 (.box (enc p))):=fun A rest=>dI (eF _) (by simp[mq,mn]) rfl;have hst2:∀ A rest,c7 A (some 3) 2 [] (.agg [.int .i64 0,.nils 4,.int .i64 0]) (enc p) rest (some (.agg [.int .i64 0,.nils 4,.int .i64 0]))=aE rest (A.aT 2 (.box (enc p))):=fun A rest=>dI (eF _) (by rw[fB];rfl) (eX _);have R:=y6 @hst (y6 @hst2 (y6 @e6 (y6 @bw (y6 @bl (y6 @bj az)))))
 repeat' ((first |refine ae.aB (by decide +kernel) rfl fun K hK =>?_|refine .lead _ (IX p.j ao) ?_|(refine .au [0,1,2] hK ?_;clear hK K)|(with_reducible refine .done (hK _ ?_);clear hK K)|refine ae.of rfl ?_|(with_reducible refine av.aA (fun h =>?_) (fun h =>?_) <;>try simp only[h])) <;>try simp only[aC,R,simprocAttr])
 all_goals clear R
def ke(p:bI)(x:bn):bI×Int:=if p.j.length=200 then (⟨0,[],0⟩,2) else (⟨p.aD,p.j++[x],p.di⟩,0)
theorem aV.MW{K:ai→Prop}{p:bI}{avs:List I}{a1 a2:Option (List I)}{dst:Option Nat}{rest:List aJ}{ts:List (Nat×I)}{os0:List (Nat×aq)}(ao:p.j.length≤1000)(hav:avs=[enc p])(hno:ak os0 7=none)
  (h:∀ v os',qZ p.j v os'→aV Tryz.prog dA false K (aE rest ((aw ts (os0++os')).aW dst (fA p v)))):aV Tryz.prog dA false K (.call 57 avs a1 a2 dst rest (aw ts os0)):=by
 subst hav;refine .bU false [] [] [enc p] _ rfl (IV p ao) ⟨fun m x hx=>by simp[ak] at hx,fun m m' hm=>by simp[ay,ak] at hm⟩ ⟨.inl ⟨(lM _ _).symm,b7 _ _,eF _⟩,trivial⟩ ?_ ?_
 ·rintro r os' ⟨v,rfl,hp⟩;obtain ⟨J,U,af,_⟩:=pE hp;exact ⟨fun m y hy=>⟨(J m y hy).1,(J m y hy).2,fun h=>by cases h⟩,fun m m' _ _ h=>h,fun m hm=>by simp[ay,ak] at hm,fun m hm _=>by rw[af m hm];exact ⟨hno,by decide⟩,by simp[fA,I.only,I.b8,U],fun h=>by cases h⟩
 ·rintro r os' ⟨v,rfl,hp⟩;rw[mN,kZ (ρ:=bP []) (fun _=>rfl),H2 hno (pE hp).2.2.1];exact h v os' hp
theorem tP{p:bI}{k n:Nat}{xs l:List bn}{A:ai}(hA:A.o k=some (.box (.agg (xs.map enc))))(hx:xs.take n=l):br true A (fA p (.view k [] 4 0 n))=some (enc (⟨p.aD,l,p.di⟩:bI)):=by
 have J:br true A (.view k [] 4 0 n)=some (enc l):=by
  rw[xt,hA];have:mu 4 0 n (some (xs.map enc))=some (enc l):=by rw[xq (α:=bn) (sz:=4) rfl,hx]
  exact this
 have U:∀ k n,br true A (.int k n)=some (.int k n):=fun k n=>by simp only[br]
 simp only[fA,xr,xu,xw,J,U,kP,zz9];rfl
theorem vI(p:bI)(x:bn)(ao:p.j.length≤200):bd Tryz.prog 73 [enc p,enc x] (.tuple [enc (ke p x).1,enc (ke p x).2]):=by
 refine bd.b5 Tryz.func73 Lp Mx NV (t7 rfl) (fun hwf W0 bH E1 =>?_);simp only[BA,GM,bM,zz4];clear hwf;rcases q:((p.j.length:Int)==200)
 case true =>
  have U:p.j.length=200:=by simp at q;omega
  have hw:ke p x=(⟨0,[],0⟩,2):=by simp[ke,U]
  rw[hw];have R:=y6 @q (y6 @tl (y6 @vl (y6 @e6 (y6 @bw (y6 @bl (y6 @bj az))))))
  repeat' ((first |refine ae.aB (by decide +kernel) rfl fun K hK =>?_|(refine .au [0,1,2,3,4,5,9] hK ?_;clear hK K)|(with_reducible refine .done (hK _ ?_);clear hK K)|refine ae.of rfl ?_|(with_reducible refine av.aA (fun h =>?_) (fun h =>?_) <;>try simp only[h])) <;>try simp only[aC,R,simprocAttr])
  all_goals clear R
  rfl
 have hne:¬ p.j.length=200:=fun h=>by rw[h] at q;simp at q
 have hw:ke p x=(⟨p.aD,p.j++[x],p.di⟩,0):=by simp[ke,hne]
 rw[hw];have hbs:=h2 4 x rfl;have R:=y6 @hbs (y6 @q (y6 @e6 (y6 @bw (y6 @bl (y6 @bj az)))))
 repeat' ((first |refine ae.aB (by decide +kernel) rfl fun K hK =>?_|refine aV.MW (by omega) rfl rfl (fun v os' hc =>?_)|(refine .au [0,1,2,3,4,5,9] hK ?_;clear hK K)|(with_reducible refine .done (hK _ ?_);clear hK K)|refine ae.of rfl ?_|(with_reducible refine av.aA (fun h =>?_) (fun h =>?_) <;>try simp only[h])) <;>try simp only[aC,R,zy1,simprocAttr])
 all_goals clear R
 obtain ⟨g1,g2,g3,g4,g5,g6,g7,g8⟩:=pE hc;have hok:ca (some 3) (fA p v)=true:=by simp[ca,fA,I.isAgg,I.size,I.sizes,g7]
 have hsh:(fA p v).bg=.db [.one,.one,.one]:=by simp[fA,I.bg,I.de,g6]
 have hst:∀ A rest,c7 A (some 3) 2 [] (enc p) (fA p v) rest (some (enc p))=aE rest (A.aT 2 (.box (fA p v))):=fun A rest=>dI rfl hok hsh
 try simp only[hst,bF,simprocAttr]
 have R:=y6 @hbs (y6 @rf (y6 @g5 (y6 @lJ (y6 @e6 (y6 @bw (y6 @bl (y6 @bj az)))))))
 repeat' ((first |refine ae.aB (by decide +kernel) rfl fun K hK =>?_|(refine .au [0,1,2,3,4,5,9] hK ?_;clear hK K)|(with_reducible refine .done (hK _ ?_);clear hK K)|refine ae.of rfl ?_|(with_reducible refine av.aA (fun h =>?_) (fun h =>?_) <;>try simp only[h])) <;>try simp only[aC,R,simprocAttr])
 all_goals clear R
 have hst2:∀ A rest k n w,c7 A none 2 [1] (fA p w) (.view k [] 4 0 n) rest (some v)=aE rest (A.aT 2 (.box (fA p (.view k [] 4 0 n)))):=fun A rest k n w=>dI rfl rfl (by rw[g6];rfl);have hok2:∀ k n,ca (some 3) (fA p (.view k [] 4 0 n))=true:=fun _ _=>rfl;have hst3:∀ A rest k n,c7 A (some 3) 4 [] (.agg [.int .i64 0,.nils 4,.int .i64 0]) (fA p (.view k [] 4 0 n)) rest (some (.agg [.int .i64 0,.nils 4,.int .i64 0]))=aE rest (A.aT 4 (.box (fA p (.view k [] 4 0 n)))):=fun A rest k n=>dI rfl rfl rfl;have hlx:([x]:List bn).length=1:=rfl;rcases hc with ⟨hj,rfl | rfl,rfl⟩ | ⟨hj,m,rfl,rfl⟩
 ·refine aV.JR iE rfl (by simp) rfl (by simp) (by simp[maxLen]) fun q =>?_;have hf:=fun A h=>tP (p:=p) (k:=17) (n:=1) (xs:=[x]++List.replicate q iE) (l:=p.j++[x]) (A:=A) h (by rw[hj];rfl)
  try simp only[hlx,hst2,lJ,az,bF,simprocAttr]
  have R:=y6 @hst2 (y6 @hok2 (y6 @hst3 (y6 @hf (y6 @lJ (y6 @e6 (y6 @bw (y6 @bl (y6 @bj az))))))))
  repeat' ((first |refine ae.aB (by decide +kernel) rfl fun K hK =>?_|(refine .au [0,1,2,3,4,5,9] hK ?_;clear hK K)|(with_reducible refine .done (hK _ ?_);clear hK K)|refine ae.of rfl ?_|(with_reducible refine av.aA (fun h =>?_) (fun h =>?_) <;>try simp only[h])) <;>try simp only[aC,R,simprocAttr])
  all_goals clear R
 ·refine aV.wa iE rfl (by simp) rfl (by simp) (by simp[maxLen]) fun q =>?_;have hf:=fun A h=>tP (p:=p) (k:=17) (n:=1) (xs:=[x]++List.replicate q iE) (l:=p.j++[x]) (A:=A) h (by rw[hj];rfl)
  try simp only[hlx,hst2,lJ,az,bF,simprocAttr]
  have R:=y6 @hst2 (y6 @hok2 (y6 @hst3 (y6 @hf (y6 @lJ (y6 @e6 (y6 @bw (y6 @bl (y6 @bj az))))))))
  repeat' ((first |refine ae.aB (by decide +kernel) rfl fun K hK =>?_|(refine .au [0,1,2,3,4,5,9] hK ?_;clear hK K)|(with_reducible refine .done (hK _ ?_);clear hK K)|refine ae.of rfl ?_|(with_reducible refine av.aA (fun h =>?_) (fun h =>?_) <;>try simp only[h])) <;>try simp only[aC,R,simprocAttr])
  all_goals clear R
 ·by_cases hm:m=0
  ·subst hm;refine aV.JP (esz:=4) iE rfl (xs:=p.j++List.replicate 0 iE) (ys:=[x]) (by simp) rfl (by simp) (by simp) rfl (by simp;omega) (by simp[maxLen];omega) fun q =>?_;have hf:=fun A h=>tP (p:=p) (k:=17) (n:=p.j.length+1) (xs:=(p.j++List.replicate 0 iE).take p.j.length++([x]++List.replicate q iE)) (l:=p.j++[x]) (A:=A) h (by simp[List.take_append];exact List.take_of_length_le (by omega))
   try simp only[hlx,hst2,lJ,az,bF,simprocAttr]
   have R:=y6 @hst2 (y6 @hok2 (y6 @hst3 (y6 @hf (y6 @lJ (y6 @e6 (y6 @bw (y6 @bl (y6 @bj az))))))))
   repeat' ((first |refine ae.aB (by decide +kernel) rfl fun K hK =>?_|(refine .au [0,1,2,3,4,5,9] hK ?_;clear hK K)|(with_reducible refine .done (hK _ ?_);clear hK K)|refine ae.of rfl ?_|(with_reducible refine av.aA (fun h =>?_) (fun h =>?_) <;>try simp only[h])) <;>try simp only[aC,R,simprocAttr])
   all_goals clear R
  ·rw[Ax (esz:=4) _ rfl (xs:=p.j++List.replicate m iE) (ys:=[x]) (by simp) rfl (by simp;omega)];have hf:=fun A h=>tP (p:=p) (k:=7) (n:=p.j.length+1) (xs:=(p.j++List.replicate m iE).take p.j.length++([x]++(p.j++List.replicate m iE).drop (p.j.length+1))) (l:=p.j++[x]) (A:=A) h (by simp[List.take_append];exact List.take_of_length_le (by omega))
   try simp only[hlx,hst2,lJ,az,bF,simprocAttr]
   have R:=y6 @hst2 (y6 @hok2 (y6 @hst3 (y6 @hf (y6 @lJ (y6 @e6 (y6 @bw (y6 @bl (y6 @bj az))))))))
   repeat' ((first |refine ae.aB (by decide +kernel) rfl fun K hK =>?_|(refine .au [0,1,2,3,4,5,9] hK ?_;clear hK K)|(with_reducible refine .done (hK _ ?_);clear hK K)|refine ae.of rfl ?_|(with_reducible refine av.aA (fun h =>?_) (fun h =>?_) <;>try simp only[h])) <;>try simp only[aC,R,simprocAttr])
   all_goals clear R
def hE:bI:=⟨0,[],0⟩
theorem HR:(∀ A n b rest (q:bI) x y,c7 A (some 3) n [] b (enc q) rest (some (.agg [.int .i64 x,.nils 4,.int .i64 y]))=aE rest (A.aT n (.box (enc q))))∧(∀ A n b rest (q:bI) (r:bI),c7 A (some 3) n [] b (enc q) rest (some (enc r))=aE rest (A.aT n (.box (enc q)))) :=
 ⟨fun A n b rest q x y=>dI (eF _) (by rw[fB];rfl) (eX _),fun A n b rest q r=>dI (eF _) (by rw[fB];rfl) ((eX _).trans (eX _).symm)⟩
theorem tk(a b:Int):(dS [.int .i64 0,.int .i64 0,.int .i64 0,.int .i64 0] [(0,.int .i64 a),(1,.int .i64 b)]).map I.agg=some (enc (⟨a,b,0,0⟩:bn)):=by simp[dS,I.bX,I.size];rfl
theorem qU(a b c d:Int):(dS [.int .i64 0,.int .i64 0,.int .i64 0,.int .i64 0] [(0,.int .i64 a),(1,.int .i64 b),(2,.int .i64 c),(3,.int .i64 d)]).map I.agg=some (enc (⟨a,b,c,d⟩:bn)):=by simp[dS,I.bX,I.size];rfl
theorem bE:(type_of% @HR)∧(type_of% @tk)∧(type_of% @qU)∧(type_of% @tl)∧(type_of% @vl)∧(type_of% @e6):=⟨HR,tk,qU,tl,vl,e6⟩
def uc(p:bI)(b:Int):bI×Int:=match dD p with
 |none=>(hE,91)
 |some s=>if dJ 1 9999 b=false then (hE,1) else if b∈s.here∨s.fD b=true then (hE,92) else ke p ⟨1,b,0,0⟩
theorem IL(p:bI)(b:Int):bd Tryz.prog 27 [enc p,enc b] (.tuple [enc (uc p b).1,enc (uc p b).2]):=by
 refine bd.b5 Tryz.func27 K4 Mc Nz (t7 rfl) (fun hwf W0 bH E1 =>?_);simp only[Bh,Gq,bM,zz4];clear hwf;have hF:=qL p;simp only[uc];cases ho:dD p with
 |none =>
  rw[ho] at hF;simp only[kX] at hF;have R:=y6 @bE (y6 @aZ (y6 @bw (y6 @bl (y6 @bj az))))
  repeat' ((first |(with_reducible refine .guard (fun hb =>?_) (fun hb =>?_) <;>try simp only[hb])|refine ae.aB (by decide +kernel) rfl fun K hK =>?_|refine .lead _ (hF) ?_|(refine .au [0,1,2,4,5,6,7,13,18,23] hK ?_;clear hK K)|(with_reducible refine .done (hK _ ?_);clear hK K)|refine ae.of rfl ?_|(with_reducible refine av.aA (fun h =>?_) (fun h =>?_) <;>try simp only[h])) <;>try simp only[aC,R,simprocAttr])
  all_goals clear R
  rfl
 |some s =>
  have hjl:=(iJ ho).2.2.2.1;rw[ho] at hF;simp only[kX] at hF;have hlk:=gK fh b s.here;rw[eP] at hlk;have hB:=qM b;have hR:=qN s b;have hW:=vI p ⟨1,b,0,0⟩ hjl;rcases q1:dJ 1 9999 b
  ·rw[q1] at hB;have R:=y6 @eU (y6 @bE (y6 @aZ (y6 @bw (y6 @bl (y6 @bj az)))))
   repeat' ((first |(with_reducible refine .guard (fun hb =>?_) (fun hb =>?_) <;>try simp only[hb])|refine ae.aB (by decide +kernel) rfl fun K hK =>?_|refine .lead _ (hF) ?_|refine .flat _ (hB) rfl ?_|(refine .au [0,1,2,4,5,6,7,13,18,23] hK ?_;clear hK K)|(with_reducible refine .done (hK _ ?_);clear hK K)|refine ae.of rfl ?_|(with_reducible refine av.aA (fun h =>?_) (fun h =>?_) <;>try simp only[h])) <;>try simp only[aC,R,simprocAttr])
   all_goals clear R
   rfl
  rw[q1] at hB;rcases q2:decide (b∈s.here)
  ·rcases q3:s.fD b
   ·rw[q3] at hR;have bz:(b∈s.here∨s.fD b=true)=False:=by simpa[q3] using q2
    simp only[Bool.true_eq_false,if_false,bz];have R:=y6 @q2 (y6 @hlk (y6 @eU (y6 @bE (y6 @aZ (y6 @bw (y6 @bl (y6 @bj az)))))))
    repeat' ((first |(with_reducible refine .guard (fun hb =>?_) (fun hb =>?_) <;>try simp only[hb])|refine ae.aB (by decide +kernel) rfl fun K hK =>?_|refine .lead _ (hF) ?_|refine .flat _ (hB) rfl ?_|refine .flat _ (hR) rfl ?_|refine .lead _ (hW) ?_|(refine .au [0,1,2,4,5,6,7,13,18,23] hK ?_;clear hK K)|(with_reducible refine .done (hK _ ?_);clear hK K)|refine ae.of rfl ?_|(with_reducible refine av.aA (fun h =>?_) (fun h =>?_) <;>try simp only[h])) <;>try simp only[aC,R,simprocAttr])
    all_goals clear R
   ·rw[q3] at hR;have bz:(b∈s.here∨s.fD b=true)=True:=by simp[q3]
    simp only[Bool.true_eq_false,if_false,bz,if_true];have R:=y6 @q2 (y6 @hlk (y6 @eU (y6 @bE (y6 @aZ (y6 @bw (y6 @bl (y6 @bj az)))))))
    repeat' ((first |(with_reducible refine .guard (fun hb =>?_) (fun hb =>?_) <;>try simp only[hb])|refine ae.aB (by decide +kernel) rfl fun K hK =>?_|refine .lead _ (hF) ?_|refine .flat _ (hB) rfl ?_|refine .flat _ (hR) rfl ?_|(refine .au [0,1,2,4,5,6,7,13,18,23] hK ?_;clear hK K)|(with_reducible refine .done (hK _ ?_);clear hK K)|refine ae.of rfl ?_|(with_reducible refine av.aA (fun h =>?_) (fun h =>?_) <;>try simp only[h])) <;>try simp only[aC,R,simprocAttr])
    all_goals clear R
    rfl
  ·have bz:b∈s.here:=of_decide_eq_true q2;simp only[Bool.true_eq_false,if_false,bz,true_or,if_true];have R:=y6 @q2 (y6 @hlk (y6 @eU (y6 @bE (y6 @aZ (y6 @bw (y6 @bl (y6 @bj az)))))))
   repeat' ((first |(with_reducible refine .guard (fun hb =>?_) (fun hb =>?_) <;>try simp only[hb])|refine ae.aB (by decide +kernel) rfl fun K hK =>?_|refine .lead _ (hF) ?_|refine .flat _ (hB) rfl ?_|(refine .au [0,1,2,4,5,6,7,13,18,23] hK ?_;clear hK K)|(with_reducible refine .done (hK _ ?_);clear hK K)|refine ae.of rfl ?_|(with_reducible refine av.aA (fun h =>?_) (fun h =>?_) <;>try simp only[h])) <;>try simp only[aC,R,simprocAttr])
   all_goals clear R
   rfl
def qE(p:bI):bI×Int:=match dD p with
 |none=>(hE,91)
 |some _=>(⟨p.aD,p.j,p.j.length⟩,0)
theorem ad0(A:ai)(n:Nat)(p:bI)(v:Int)(rest:List aJ)(u:Int):c7 A none n [2] (enc p) (.int .i64 v) rest (some (.int .i64 u))=aE rest (A.aT n (.box (enc (⟨p.aD,p.j,v⟩:bI)))):=dI rfl rfl rfl
theorem vE(p:bI):bd Tryz.prog 10 [enc p] (.tuple [enc (qE p).1,enc (qE p).2]):=by
 refine bd.b5 Tryz.func10 KE LM MX (t7 rfl) (fun hwf W0 bH E1 =>?_);simp only[AQ,FQ,bM];clear hwf;have hF:=sT p;simp only[iB] at hF;simp only[qE];cases ho:dD p with
 |none =>
  rw[ho] at hF;have R:=y6 @bE (y6 @aZ (y6 @bw (y6 @bl (y6 @bj az))))
  repeat' ((first |refine ae.aB (by decide +kernel) rfl fun K hK =>?_|refine .lead _ (hF) ?_|(refine .au [0,1,2,3,4,8] hK ?_;clear hK K)|(with_reducible refine .done (hK _ ?_);clear hK K)|refine ae.of rfl ?_|(with_reducible refine av.aA (fun h =>?_) (fun h =>?_) <;>try simp only[h])) <;>try simp only[aC,R,simprocAttr])
  all_goals clear R
  rfl
 |some s =>
  have hjl:=(iJ ho).2.2.2.1;rw[ho] at hF;have R:=y6 @ad0 (y6 @bE (y6 @aZ (y6 @bw (y6 @bl (y6 @bj az)))))
  repeat' ((first |refine ae.aB (by decide +kernel) rfl fun K hK =>?_|refine .lead _ (hF) ?_|refine .lead _ (Ae p (by omega)) ?_|(refine .au [0,1,2,3,4,8] hK ?_;clear hK K)|(with_reducible refine .done (hK _ ?_);clear hK K)|refine ae.of rfl ?_|(with_reducible refine av.aA (fun h =>?_) (fun h =>?_) <;>try simp only[h])) <;>try simp only[aC,R,simprocAttr])
  all_goals clear R
theorem zC{α:Type}[Enc α]{A:ai}(esz:Nat){l:List α}{i:Nat}(h:i≤l.length)(ab:Enc.sz α=esz):jb A esz none (some (.int .i64 i)) none (enc l)=some (enc (l.take i)):=by
 simp only[jb,hh,ab,if_true,iN,jf,zz6];rw[if_pos ⟨by omega,by omega,by omega,by omega⟩];simp
def lZ:dB:=⟨0,0,0,false⟩
theorem nU:(∀ A n b rest (q:dB) x y z w,c7 A (some 4) n [] b (enc q) rest (some (.agg [.int .i64 x,.int .i64 y,.int .i64 z,.bool w]))=aE rest (A.aT n (.box (enc q))))∧(∀ A n b rest (q r:dB),c7 A (some 4) n [] b (enc q) rest (some (enc r))=aE rest (A.aT n (.box (enc q)))) :=
 ⟨fun A n b rest q x y z w=>dI (eF _) (by rw[fB];rfl) (eX _),fun A n b rest q r=>dI (eF _) (by rw[fB];rfl) ((eX _).trans (eX _).symm)⟩
theorem od:(dS [.int .i64 0,.int .i64 0,.int .i64 0,.bool false] []).map I.agg=some (enc lZ):=by simp[dS];rfl
theorem tm(a b c:Int):(dS [.int .i64 0,.int .i64 0,.int .i64 0,.bool false] [(0,.int .i64 a),(1,.int .i64 b),(2,.int .i64 c)]).map I.agg=some (enc (⟨a,b,c,false⟩:dB)):=by simp[dS,I.bX,I.size];rfl
def sy(p:bI)(b to:Int):bI×dB×Int:=match dD p with
 |none=>(hE,lZ,91)
 |some s=>if dJ 1 9999 b=false then (hE,lZ,1) else if dJ 0 5 to=false∨to=p.aD then (hE,lZ,90) else if b∉s.here then (hE,lZ,93) else
  if p.j.length=200 then (hE,lZ,2) else ((ke p ⟨3,b,to,(s.all.length:Int)+1⟩).1,⟨(s.all.length:Int)+1,to,b,false⟩,0)
theorem IM(p:bI)(b to:Int):bd Tryz.prog 31 [enc p,enc b,enc to] (.tuple [enc (sy p b to).1,enc (sy p b to).2.1,enc (sy p b to).2.2]):=by
 refine bd.b5 Tryz.func31 K5 Md NA (t7 rfl) (fun hwf W0 bH E1 =>?_);simp only[Bi,Gr,bM,zz4,Nat.reduceAdd];clear hwf;have hF:=qL p;simp only[sy];cases ho:dD p with
 |none =>
  rw[ho] at hF;simp only[kX] at hF;have R:=y6 @od (y6 @nU (y6 @bE (y6 @aZ (y6 @bw (y6 @bl (y6 @bj az))))))
  repeat' ((first |(with_reducible refine .guard (fun hb =>?_) (fun hb =>?_) <;>try simp only[hb])|refine ae.aB (by decide +kernel) rfl fun K hK =>?_|refine .lead _ (hF) ?_|(refine .au [0,1,2,3,6,7,8,9,10,11,17,23,29,41,70] hK ?_;clear hK K)|(with_reducible refine .done (hK _ ?_);clear hK K)|refine ae.of rfl ?_|(with_reducible refine av.aA (fun h =>?_) (fun h =>?_) <;>try simp only[h])) <;>try simp only[aC,R,simprocAttr])
  all_goals clear R
  rfl
 |some s =>
  have hjl:=(iJ ho).2.2.2.1;have hsl:=(iJ ho).2.2.1;rw[ho] at hF;simp only[kX] at hF;have hlk:=gK fh b s.here;rw[eP] at hlk;have hB:=qM b;have hT:=nd to;have hW:=vI p ⟨3,b,to,(s.all.length:Int)+1⟩ hjl;have hw:IntKind.i64.wrap ((s.all.length:Int)+1)=(s.all.length:Int)+1:=iy _ (by omega) (by omega);rcases q1:dJ 1 9999 b
  ·rw[q1] at hB;have R:=y6 @od (y6 @nU (y6 @eU (y6 @bE (y6 @aZ (y6 @bw (y6 @bl (y6 @bj az)))))))
   repeat' ((first |(with_reducible refine .guard (fun hb =>?_) (fun hb =>?_) <;>try simp only[hb])|refine ae.aB (by decide +kernel) rfl fun K hK =>?_|refine .lead _ (hF) ?_|refine .flat _ (hB) rfl ?_|(refine .au [0,1,2,3,6,7,8,9,10,11,17,23,29,41,70] hK ?_;clear hK K)|(with_reducible refine .done (hK _ ?_);clear hK K)|refine ae.of rfl ?_|(with_reducible refine av.aA (fun h =>?_) (fun h =>?_) <;>try simp only[h])) <;>try simp only[aC,R,simprocAttr])
   all_goals clear R
   rfl
  rw[q1] at hB;rcases q2:dJ 0 5 to
  ·rw[q2] at hT;simp only[Bool.true_eq_false,if_false,true_or,if_true];have R:=y6 @od (y6 @nU (y6 @eU (y6 @bE (y6 @aZ (y6 @bw (y6 @bl (y6 @bj az)))))))
   repeat' ((first |(with_reducible refine .guard (fun hb =>?_) (fun hb =>?_) <;>try simp only[hb])|refine ae.aB (by decide +kernel) rfl fun K hK =>?_|refine .lead _ (hF) ?_|refine .flat _ (hB) rfl ?_|refine .flat _ (hT) rfl ?_|(refine .au [0,1,2,3,6,7,8,9,10,11,17,23,29,41,70] hK ?_;clear hK K)|(with_reducible refine .done (hK _ ?_);clear hK K)|refine ae.of rfl ?_|(with_reducible refine av.aA (fun h =>?_) (fun h =>?_) <;>try simp only[h])) <;>try simp only[aC,R,simprocAttr])
   all_goals clear R
   rfl
  rw[q2] at hT;rcases q3:(to==p.aD)
  case true =>
   have e:to=p.aD:=by simpa using q3
   simp only[Bool.true_eq_false,if_false,false_or,e,if_true];rw[e] at hT q3;have R:=y6 @q3 (y6 @od (y6 @nU (y6 @eU (y6 @bE (y6 @aZ (y6 @bw (y6 @bl (y6 @bj az))))))))
   repeat' ((first |(with_reducible refine .guard (fun hb =>?_) (fun hb =>?_) <;>try simp only[hb])|refine ae.aB (by decide +kernel) rfl fun K hK =>?_|refine .lead _ (hF) ?_|refine .flat _ (hB) rfl ?_|refine .flat _ (hT) rfl ?_|(refine .au [0,1,2,3,6,7,8,9,10,11,17,23,29,41,70] hK ?_;clear hK K)|(with_reducible refine .done (hK _ ?_);clear hK K)|refine ae.of rfl ?_|(with_reducible refine av.aA (fun h =>?_) (fun h =>?_) <;>try simp only[h])) <;>try simp only[aC,R,simprocAttr])
   all_goals clear R
   rfl
  have e:¬ to=p.aD:=by simpa using q3
  simp only[Bool.true_eq_false,if_false,false_or,e];rcases q4:decide (b∈s.here)
  ·have bz:b∉s.here:=of_decide_eq_false q4;rw[if_pos bz];have R:=y6 @q3 (y6 @q4 (y6 @hlk (y6 @od (y6 @nU (y6 @eU (y6 @bE (y6 @aZ (y6 @bw (y6 @bl (y6 @bj az))))))))))
   repeat' ((first |(with_reducible refine .guard (fun hb =>?_) (fun hb =>?_) <;>try simp only[hb])|refine ae.aB (by decide +kernel) rfl fun K hK =>?_|refine .lead _ (hF) ?_|refine .flat _ (hB) rfl ?_|refine .flat _ (hT) rfl ?_|(refine .au [0,1,2,3,6,7,8,9,10,11,17,23,29,41,70] hK ?_;clear hK K)|(with_reducible refine .done (hK _ ?_);clear hK K)|refine ae.of rfl ?_|(with_reducible refine av.aA (fun h =>?_) (fun h =>?_) <;>try simp only[h])) <;>try simp only[aC,R,simprocAttr])
   all_goals clear R
   rfl
  ·have bz:b∈s.here:=of_decide_eq_true q4;rw[if_neg (by simpa using bz)];by_cases U:p.j.length=200
   ·have hw1:ke p ⟨3,b,to,(s.all.length:Int)+1⟩=(hE,2):=by simp[ke,U,hE]
    rw[hw1] at hW;simp only[if_pos U];have R:=y6 @hw (y6 @q3 (y6 @q4 (y6 @hlk (y6 @od (y6 @tm (y6 @nU (y6 @eU (y6 @bE (y6 @aZ (y6 @bw (y6 @bl (y6 @bj az))))))))))))
    repeat' ((first |(with_reducible refine .guard (fun hb =>?_) (fun hb =>?_) <;>try simp only[hb])|refine ae.aB (by decide +kernel) rfl fun K hK =>?_|refine .lead _ (hF) ?_|refine .flat _ (hB) rfl ?_|refine .flat _ (hT) rfl ?_|refine .lead _ (hW) ?_|(refine .au [0,1,2,3,6,7,8,9,10,11,17,23,29,41,70] hK ?_;clear hK K)|(with_reducible refine .done (hK _ ?_);clear hK K)|refine ae.of rfl ?_|(with_reducible refine av.aA (fun h =>?_) (fun h =>?_) <;>try simp only[h])) <;>try simp only[aC,R,simprocAttr])
    all_goals clear R
    rfl
   ·have hw1:(ke p ⟨3,b,to,(s.all.length:Int)+1⟩).2=0:=by simp[ke,U]
    rw[hw1] at hW;simp only[if_neg U];have R:=y6 @hw (y6 @q3 (y6 @q4 (y6 @hlk (y6 @od (y6 @tm (y6 @nU (y6 @eU (y6 @bE (y6 @aZ (y6 @bw (y6 @bl (y6 @bj az))))))))))))
    repeat' ((first |(with_reducible refine .guard (fun hb =>?_) (fun hb =>?_) <;>try simp only[hb])|refine ae.aB (by decide +kernel) rfl fun K hK =>?_|refine .lead _ (hF) ?_|refine .flat _ (hB) rfl ?_|refine .flat _ (hT) rfl ?_|refine .lead _ (hW) ?_|(refine ae.qw (gs:=xD) [] [(3,[3]),(6,[6]),(7,[7]),(11,[11])] [0,1,2,3,4] (by decide +kernel) (cZ.of (by simp[fG,bY,I.only])) fun K hK =>?_;simp only[fm,xD,zy7,zy8,R,simprocAttr])|(refine .au [0,1,2,3,6,7,8,9,10,11,17,23,29,41,70] hK ?_;clear hK K)|(with_reducible refine .done (hK _ ?_);clear hK K)|refine ae.of rfl ?_|(with_reducible refine av.aA (fun h =>?_) (fun h =>?_) <;>try simp only[h])) <;>try simp only[aC,R,simprocAttr])
    all_goals clear R
def rK(k:Int):Int:=if k=1 then 7 else if k=2 then 5 else if k=3 then 8 else if k=4 then 6 else 0
theorem aa8(k:Int):fJ (.i .i64) (.int .i64 0) (.int .i64 k) [.int .i64 1,.int .i64 2,.int .i64 3,.int .i64 4] [.int .i64 7,.int .i64 5,.int .i64 8,.int .i64 6]=some (.int .i64 (rK k),decide (k=1∨k=2∨k=3∨k=4)):=by
 have h:=um fh (.int .i64 0) k [1,2,3,4] [.int .i64 7,.int .i64 5,.int .i64 8,.int .i64 6];simp only[zz5,zx7,eP] at h;rw[h];by_cases J:k=1
 ·subst J;rfl
 by_cases U:k=2
 ·subst U;rfl
 by_cases af:k=3
 ·subst af;rfl
 by_cases ar:k=4
 ·subst ar;rfl
 simp[List.findIdx?_cons,J,U,af,ar,rK]
theorem Jg(k:Int):bd Tryz.prog 80 [enc k] (enc (rK k)):=by
 refine bd.b5 Tryz.func80 Ls MA NY (t7 rfl) (fun hwf W0 bH E1 =>?_);simp only[c80,GP,bM];clear hwf;have hv:∀ k n,(I.int k n).bX=true:=fun _ _=>rfl;have ao:=aa8 k;have R:=y6 @hv (y6 @ao (y6 @Fb (y6 @bw (y6 @bl (y6 @bj az)))))
 repeat' ((first |refine ae.aB (by decide +kernel) rfl fun K hK =>?_|(refine .au [0,2] hK ?_;clear hK K)|(with_reducible refine .done (hK _ ?_);clear hK K)|refine ae.of rfl ?_|(with_reducible refine av.aA (fun h =>?_) (fun h =>?_) <;>try simp only[h])) <;>try simp only[aC,R,simprocAttr])
 all_goals clear R
def mD(r:er):bn:=⟨rK r.kind,r.aL,r.dw,r.no⟩
def rA(p:bI)(r:er):bI×Int:=match dD p with
 |none=>(hE,91)
 |some s=>if uG r=false∨r.to≠p.aD then (hE,95) else match gW s (mD r) with
  |none=>(p,0)
  |some _=>ke p (mD r)
theorem H3{ts:List (Nat×I)}{os0:List (Nat×aq)}{s:aI}(hno:∀ m,2000≤m→ak os0 m=none):aw ts (dE s++os0)=aw ts (os0++dE s):=by
 simp only[aw,ai.mk.injEq,true_and]
 funext n
 rw[fY,fY];cases J:ak (dE s) n with
 |none=>simp only;cases ak os0 n <;>rfl
 |some y=>rw[hno n (zF (s:=s) (by simp[ay,J])).1]
theorem aV.acs{K:ai→Prop}{p:bI}{avs:List I}{a1 a2:Option (List I)}{dst:Option Nat}{rest:List aJ}{ts:List (Nat×I)}{os0:List (Nat×aq)}(ho:dD p=none)(hav:avs=[enc p])
  (h:aV Tryz.prog dA false K (aE rest ((aw ts os0).aW dst (.tuple [.nilp,.int .i64 91])))):aV Tryz.prog dA false K (.call 69 avs a1 a2 dst rest (aw ts os0)):=by
 subst hav;refine .bU false [] [] [enc p] _ rfl (Ag p) ⟨fun m x hx=>by simp[ak] at hx,fun m m' hm=>by simp[ay,ak] at hm⟩ ⟨.inl ⟨(lM _ _).symm,b7 _ _,eF _⟩,trivial⟩ ?_ ?_
 ·intro r os' hp;unfold nG at hp;rw[ho] at hp;obtain ⟨rfl,rfl⟩:=hp;exact ⟨fun m y hy=>by simp[ak] at hy,fun m m' hm=>by simp[ay,ak] at hm,fun m hm=>hm,fun m hm=>by simp[ay,ak] at hm,rfl,fun h=>by cases h⟩
 ·intro r os' hp;unfold nG at hp;rw[ho] at hp;obtain ⟨rfl,rfl⟩:=hp;exact h
theorem aV.uK{K:ai→Prop}{p:bI}{s:aI}{avs:List I}{a1 a2:Option (List I)}{dst:Option Nat}{rest:List aJ}{ts:List (Nat×I)}{os0:List (Nat×aq)}(ho:dD p=some s)(hav:avs=[enc p])(hno:∀ m,2000≤m→ak os0 m=none)
  (h:aV Tryz.prog dA false K (aE rest ((aw ts (os0++dE s)).aW dst (.tuple [.ptr 2000 [],.int .i64 0])))):aV Tryz.prog dA false K (.call 69 avs a1 a2 dst rest (aw ts os0)):=by
 subst hav;obtain ⟨hk,_,af,ar,_⟩:=iJ ho;refine .bU false [] [] [enc p] _ rfl (Ag p) ⟨fun m x hx=>by simp[ak] at hx,fun m m' hm=>by simp[ay,ak] at hm⟩ ⟨.inl ⟨(lM _ _).symm,b7 _ _,eF _⟩,trivial⟩ ?_ ?_
 ·intro r os' hp;unfold nG at hp;rw[ho] at hp;obtain ⟨rfl,rfl⟩:=hp;refine ⟨fun m y hy=>⟨(ma hk hy).1,(ma hk hy).2,fun h=>by cases h⟩,fun m m' _ _ h=>h,fun m hm=>by simp[ay,ak] at hm,fun m hm _ =>?_,?_,fun h=>by cases h⟩
  ·have:=zF hm;exact ⟨hno m this.1,by simp only[bP];omega⟩
  ·have:=(dY (jl s.all.length) (n:=2000)).2 (.inl (by omega));simp[I.only,I.b8,this]
 ·intro r os' hp;unfold nG at hp;rw[ho] at hp;obtain ⟨rfl,rfl⟩:=hp;rw[mN,H3 hno];exact h
theorem aV.H6{K:ai→Prop}{s s2:aI}{b:Bool}{x:bn}{avs:List I}{a1 a2:Option (List I)}{dst:Option Nat}{rest:List aJ}{ts:List (Nat×I)}{ow:List (Nat×aq)}(hk:cI s)(hlen:s.all.length≤300)(hav:avs=[.ptr 2000 [],enc x])(how:∀ m,2000≤m→ak ow m=none)(hst:eB s x=(s2,b))
  (h:aV Tryz.prog dA false K (aE rest ((aw ts (ow++dE s2)).aW dst (.bool b)))):aV Tryz.prog dA false K (.call 81 avs a1 a2 dst rest (aw ts (ow++dE s))):=by
 refine aV.sG hk hlen hav how hst ?_;have hso:=sC hk x;rw[hst] at hso;obtain ⟨k1,k2,k3,k4⟩:=hso;have e:aw ts (dE s2++(ow++dE s))=aw ts (ow++dE s2):=by
  rw[←H3 how];simp only[aw,ai.mk.injEq,true_and]
  funext n
  rw[fY (dE s2) (ow++dE s),fY (dE s2) ow,fY ow (dE s)];cases J:ak (dE s2) n with
  |some y=>rfl
  |none =>
   simp only;have:ak (dE s) n=none:=by
    cases U:ak (dE s) n with
    |none=>rfl
    |some y =>
     exfalso
     have hin:ay (dE s) n=true:=by simp[ay,U]
     have:ay (dE s2) n=true:=by
      rcases (dY (jl _)).1 hin with h5 | ⟨i,hi,rfl⟩
      ·exact (dY (jl _)).2 (.inl h5)
      ·exact (dY (jl _)).2 (.inr ⟨i,Nat.lt_of_lt_of_le hi k3,rfl⟩)
     simp[ay,J] at this
   rw[this];cases ak ow n <;>rfl
 rw[e];exact h
theorem Ab(p:bI)(r:er):bd Tryz.prog 35 [enc p,enc r] (.tuple [enc (rA p r).1,enc (rA p r).2]):=by
 refine bd.b5 Tryz.func35 K6 Me NB (t7 rfl) (fun hwf W0 bH E1 =>?_);simp only[Bj,Gs,bM,zz4];clear hwf;simp only[rA];have how:∀ (a b c:aq) m,2000≤m→ak [(4,a),(3,b),(2,c)] m=none:=fun a b c m hm=>by simp only[ak];rw[if_neg (by omega),if_neg (by omega),if_neg (by omega)]
 have how2:∀ (a b c d e:aq) m,2000≤m→ak [(8,a),(8,b),(4,c),(3,d),(2,e)] m=none:=fun a b c d e m hm=>by simp only[ak];rw[if_neg (by omega),if_neg (by omega),if_neg (by omega),if_neg (by omega),if_neg (by omega)]
 cases ho:dD p with
 |none =>
  have R:=y6 @bE (y6 @aZ (y6 @bw (y6 @bl (y6 @bj az))))
  repeat' ((first |(with_reducible refine .guard (fun hb =>?_) (fun hb =>?_) <;>try simp only[hb])|refine ae.aB (by decide +kernel) rfl fun K hK =>?_|refine aV.acs ho rfl ?_|(refine .au [0,1,2,3,4,5,6,7,8,14,19,44] hK ?_;clear hK K)|(with_reducible refine .done (hK _ ?_);clear hK K)|refine ae.of rfl ?_|(with_reducible refine av.aA (fun h =>?_) (fun h =>?_) <;>try simp only[h])) <;>try simp only[aC,R,simprocAttr])
  all_goals clear R
  rfl
 |some s =>
  obtain ⟨hk,hme,af,hjl,_⟩:=iJ ho
  dsimp only
  have hR:=I4 r;have n8:ak (dE s) 8=none:=eV (.inl (by omega)) fun i _=>by simp only[bJ];omega
  rcases q1:uG r
  ·rw[q1] at hR;simp only[true_or,if_true];have R:=y6 @n8 (y6 @bE (y6 @aZ (y6 @bw (y6 @bl (y6 @bj az)))))
   repeat' ((first |(with_reducible refine .guard (fun hb =>?_) (fun hb =>?_) <;>try simp only[hb])|refine ae.aB (by decide +kernel) rfl fun K hK =>?_|refine aV.uK ho rfl (how _ _ _) ?_|refine .flat _ (hR) rfl ?_|(refine .au [0,1,2,3,4,5,6,7,8,14,19,44] hK ?_;clear hK K)|(with_reducible refine .done (hK _ ?_);clear hK K)|refine ae.of rfl ?_|(with_reducible refine av.aA (fun h =>?_) (fun h =>?_) <;>try simp only[h])) <;>try simp only[aC,R,zy1,simprocAttr])
   all_goals clear R
   rfl
  rw[q1] at hR;rcases q2:(r.to != p.aD)
  case true =>
   have e:r.to≠p.aD:=by simpa using q2
   simp only[Bool.true_eq_false,false_or,if_pos e];have R:=y6 @n8 (y6 @q2 (y6 @bE (y6 @aZ (y6 @bw (y6 @bl (y6 @bj az))))))
   repeat' ((first |(with_reducible refine .guard (fun hb =>?_) (fun hb =>?_) <;>try simp only[hb])|refine ae.aB (by decide +kernel) rfl fun K hK =>?_|refine aV.uK ho rfl (how _ _ _) ?_|refine .flat _ (hR) rfl ?_|(refine .au [0,1,2,3,4,5,6,7,8,14,19,44] hK ?_;clear hK K)|(with_reducible refine .done (hK _ ?_);clear hK K)|refine ae.of rfl ?_|(with_reducible refine av.aA (fun h =>?_) (fun h =>?_) <;>try simp only[h])) <;>try simp only[aC,R,zy1,simprocAttr])
   all_goals clear R
   rfl
  have e:¬ r.to≠p.aD:=by simpa using q2
  simp only[Bool.true_eq_false,false_or,if_neg e];have hKd:=Jg r.kind;have hst:∀ A rest b,c7 A (some 4) 8 [] b (enc (mD r)) rest (some (.agg [.int .i64 0,.int .i64 0,.int .i64 0,.int .i64 0]))=aE rest (A.aT 8 (.box (enc (mD r)))):=fun A rest b=>dI (eF _) (by rw[fB];rfl) (eX _);have hbl:(dS [.int .i64 0,.int .i64 0,.int .i64 0,.int .i64 0] [(0,.int .i64 (rK r.kind)),(1,.int .i64 r.aL),(2,.int .i64 r.dw),(3,.int .i64 r.no)]).map I.agg=some (enc (mD r)):=qU _ _ _ _;cases ht:gW s (mD r) with
  |none =>
   have ab:eB s (mD r)=(s,false):=by simp[eB,ht]
   have R:=y6 @n8 (y6 @q2 (y6 @hst (y6 @hbl (y6 @bE (y6 @aZ (y6 @bw (y6 @bl (y6 @bj az))))))))
   repeat' ((first |(with_reducible refine .guard (fun hb =>?_) (fun hb =>?_) <;>try simp only[hb])|refine ae.aB (by decide +kernel) rfl fun K hK =>?_|refine aV.uK ho rfl (how _ _ _) ?_|refine .flat _ (hR) rfl ?_|refine .flat _ (hKd) rfl ?_|refine aV.H6 (ow:=[(8,_),(8,_),(4,_),(3,_),(2,_)]) hk (by omega) rfl (how2 _ _ _ _ _) ab ?_|refine .lead _ (Ae p (by omega)) ?_|(refine .au [0,1,2,3,4,5,6,7,8,14,19,44] hK ?_;clear hK K)|(with_reducible refine .done (hK _ ?_);clear hK K)|refine ae.of rfl ?_|(with_reducible refine av.aA (fun h =>?_) (fun h =>?_) <;>try simp only[h])) <;>try simp only[aC,R,zy1,simprocAttr])
   all_goals clear R
  |some s2 =>
   have ab:eB s (mD r)=(s2,true):=by simp[eB,ht]
   have hW:=vI p (mD r) hjl;have R:=y6 @n8 (y6 @q2 (y6 @hst (y6 @hbl (y6 @bE (y6 @aZ (y6 @bw (y6 @bl (y6 @bj az))))))))
   repeat' ((first |(with_reducible refine .guard (fun hb =>?_) (fun hb =>?_) <;>try simp only[hb])|refine ae.aB (by decide +kernel) rfl fun K hK =>?_|refine aV.uK ho rfl (how _ _ _) ?_|refine .flat _ (hR) rfl ?_|refine .flat _ (hKd) rfl ?_|refine aV.H6 (ow:=[(8,_),(8,_),(4,_),(3,_),(2,_)]) hk (by omega) rfl (how2 _ _ _ _ _) ab ?_|refine .lead _ (hW) ?_|(refine .au [0,1,2,3,4,5,6,7,8,14,19,44] hK ?_;clear hK K)|(with_reducible refine .done (hK _ ?_);clear hK K)|refine ae.of rfl ?_|(with_reducible refine av.aA (fun h =>?_) (fun h =>?_) <;>try simp only[h])) <;>try simp only[aC,R,zy1,simprocAttr])
   all_goals clear R
end Go.Proofs.YthbdbocionnfgaaGreatDoor
namespace Go.Proofs.YthbdbocionnfgaaGreatDoor
open Go Go.Abs Go.Shelf
open Go.Abs.Enc (enc)
def aaP:Go.Shelf.Ren:=⟨fun | 189=>89 | 125=>117 | 257=>116 | 128=>142 | 129=>143 | 294=>133 | 295=>134 | 296=>135 | 297=>136 | 298=>137 | 299=>138 | 216=>139 | 300=>140 | 301=>141 | 328=>153 | 329=>154 | 330=>155 | 331=>156 | 332=>157 | 215=>158 | 343=>169 | n=>n,fun | 28=>54 | 3=>3 | 46=>151 | 0=>0 | 51=>169 | 53=>171 | 4=>4 | 183=>161 | 182=>160 | 131=>166 | 5=>5 | 9=>9 | 218=>178 | 222=>182 | 228=>195 | 229=>196 | n=>n,fun | n=>n⟩
theorem Ew:Go.Proofs.Lays.n189 Tryz.prog aaP := {
 mixed:=by kernel_rfl
 f125:=Tryz.func117.trans (congrArg some (by kernel_rfl))
 f128:=Tryz.func142.trans (congrArg some (by kernel_rfl))
 f129:=Tryz.func143.trans (congrArg some (by kernel_rfl))
 f189:=Tryz.func89.trans (congrArg some (by kernel_rfl))
 f215:=Tryz.func158.trans (congrArg some (by kernel_rfl))
 f216:=Tryz.func139.trans (congrArg some (by kernel_rfl))
 f257:=Tryz.func116.trans (congrArg some (by kernel_rfl))
 f294:=Tryz.func133.trans (congrArg some (by kernel_rfl))
 f295:=Tryz.func134.trans (congrArg some (by kernel_rfl))
 f296:=Tryz.func135.trans (congrArg some (by kernel_rfl))
 f297:=Tryz.func136.trans (congrArg some (by kernel_rfl))
 f298:=Tryz.func137.trans (congrArg some (by kernel_rfl))
 f299:=Tryz.func138.trans (congrArg some (by kernel_rfl))
 f300:=Tryz.func140.trans (congrArg some (by kernel_rfl))
 f301:=Tryz.func141.trans (congrArg some (by kernel_rfl))
 f328:=Tryz.func153.trans (congrArg some (by kernel_rfl))
 f329:=Tryz.func154.trans (congrArg some (by kernel_rfl))
 f330:=Tryz.func155.trans (congrArg some (by kernel_rfl))
 f331:=Tryz.func156.trans (congrArg some (by kernel_rfl))
 f332:=Tryz.func157.trans (congrArg some (by kernel_rfl))
 f343:=Tryz.func169.trans (congrArg some (by kernel_rfl))
 t0:=Tryz.underlying0
 a0:=Tryz.isAgg0
 z0:=Tryz.sizeOf0
 v0:=Tryz.zeroValue0
 t3:=Tryz.underlying3
 a3:=Tryz.isAgg3
 z3:=Tryz.sizeOf3
 v3:=Tryz.zeroValue3
 t4:=Tryz.underlying4
 a4:=Tryz.isAgg4
 z4:=Tryz.sizeOf4
 v4:=Tryz.zeroValue4
 t5:=Tryz.underlying5
 a5:=Tryz.isAgg5
 z5:=Tryz.sizeOf5
 v5:=Tryz.zeroValue5
 t9:=Tryz.underlying9
 a9:=Tryz.isAgg9
 z9:=Tryz.sizeOf9
 v9:=Tryz.zeroValue9
 t28:=Tryz.underlying54
 a28:=Tryz.isAgg54
 z28:=Tryz.sizeOf54
 v28:=Tryz.zeroValue54
 t46:=Tryz.underlying151
 a46:=Tryz.isAgg151
 z46:=Tryz.sizeOf151
 v46:=Tryz.zeroValue151
 t51:=Tryz.underlying169
 a51:=Tryz.isAgg169
 z51:=Tryz.sizeOf169
 v51:=Tryz.zeroValue169
 t53:=Tryz.underlying171
 a53:=Tryz.isAgg171
 z53:=Tryz.sizeOf171
 v53:=Tryz.zeroValue171
 t131:=Tryz.underlying166
 a131:=Tryz.isAgg166
 z131:=Tryz.sizeOf166
 v131:=Tryz.zeroValue166
 t182:=Tryz.underlying160
 a182:=Tryz.isAgg160
 z182:=Tryz.sizeOf160
 v182:=Tryz.zeroValue160
 t183:=Tryz.underlying161
 a183:=Tryz.isAgg161
 z183:=Tryz.sizeOf161
 v183:=Tryz.zeroValue161
 t218:=Tryz.underlying178
 a218:=Tryz.isAgg178
 z218:=Tryz.sizeOf178
 v218:=Tryz.zeroValue178
 t222:=Tryz.underlying182
 a222:=Tryz.isAgg182
 z222:=Tryz.sizeOf182
 v222:=Tryz.zeroValue182
 t228:=Tryz.underlying195
 a228:=Tryz.isAgg195
 z228:=Tryz.sizeOf195
 v228:=Tryz.zeroValue195
 t229:=Tryz.underlying196
 a229:=Tryz.isAgg196
 z229:=Tryz.sizeOf196
 v229:=Tryz.zeroValue196 }
def kG(k:Nat)(ws:List Int):List (Nat×aq):=[(k,.box (.agg (ws.map enc)))]
theorem ER(p:Nat→Bool)(l:List Int):(I.agg (l.map enc)).only p=true:=by simp only[I.only];exact e8 p l
def adC(ws:List Int):cL:=fun r os'=>r=.tuple []∧os'=kG 1000000 ws
def cE(xs:List Int):List Int:=xs.mergeSort fun x y=>decide (x≤y)
theorem G3{w:World}{D:aS}{E:bf} : ∀ {xs:List Int} {cs:List Value},aN w D E (xs.map enc) cs→cs=xs.map (Value.int .i64)∧∀ x∈xs,IntKind.i64.min≤x∧x≤IntKind.i64.max
 | [],cs,h=>by
  simp only[zx7,aN] at h;subst h;exact ⟨rfl,by simp⟩
 |x::xs,cs,h=>by
  simp only[zz5,aN] at h;obtain ⟨c1,c2,rfl,J,U⟩:=h;obtain ⟨rfl,af⟩:=G3 U;have h1':c1=[.int .i64 x]∧IntKind.i64.min≤x∧x≤IntKind.i64.max:=J;obtain ⟨rfl,ar⟩:=h1';refine ⟨rfl,fun y hy =>?_⟩;rcases zx3.1 hy with rfl | hy
  ·exact ar
  ·exact af y hy
theorem sc{w:World}{D:aS}{E:bf} : ∀ {xs:List Int},(∀ x∈xs,IntKind.i64.min≤x∧x≤IntKind.i64.max)→aN w D E (xs.map enc) (xs.map (Value.int .i64))
 | [],_=>rfl
 |x::xs,h=>⟨[.int .i64 x],xs.map (Value.int .i64),rfl,⟨rfl,h x (by simp)⟩,sc fun y hy=>h y (by simp[hy])⟩
theorem sA(xs:List Int):(I.agg (xs.map enc)).bg=.db (List.replicate xs.length .one):=by
 show cW.db (I.de _)=_
 congr 1
 induction xs with
 |nil=>rfl
 |cons x xs ih=>simp only[zz5,I.de,ih,zx8,List.replicate_succ];rfl
theorem ac0{xs ys q:List Int}(ao:ys.length=xs.length){cs:Array Value}(hc:cs.toList=(xs++q).map (Value.int .i64)):(Sort.putCells (Value.int .i64) 0 ys.toArray cs).toList=(ys++q).map (Value.int .i64):=by
 apply List.ext_getElem?;intro k;have J:cs[k]?=((xs++q).map (Value.int .i64))[k]?:=by rw[←hc,zw8]
 rw[zw8,Sort.putCells,Array.getElem?_mapIdx,J];simp only[zx4,List.size_toArray,zw1,true_and,zz4,Nat.sub_zero];by_cases hk:k<ys.length
 ·simp only[hk,if_true];rw[zy6 (by omega),zy6 hk,zy2 (by omega),zy2 hk];simp[hk]
 ·simp only[hk,if_false];rw[zv3 (by omega),zv3 (by omega),ao];cases (q[k-xs.length]?) <;>rfl
open Go.Sort Go.RowKit in
theorem Jj(xs q:List Int)(hn:xs.length≤1000):cY Tryz.prog 89 [.view 1000000 [] 1 0 xs.length] (kG 1000000 (xs++q)) (adC (cE xs++q)):=by
 refine ⟨B5,fun w D E vs _ hD hO hv =>?_⟩;have ho:=hO.bU 1000000;simp only[kG,ak,if_true] at ho;obtain ⟨b,cs,T,aF,-,hb,hr,hnD⟩:=ho;have hEn:∀ n,n≠1000000→E n=none:=fun n hn=>by
  have:=hO.bU n;simpa only[kG,ak,if_neg hn,dc] using this
 simp only[aH] at hv;obtain ⟨v,rest,cs',rfl,hp,hr',rfl⟩:=hv;obtain ⟨b',bg,off,l,hE',hoff,hpart,rfl,hl1,hl2,hl3⟩:=hr';rw[aF] at hE';simp only[v6,bR.aP.injEq] at hE';obtain ⟨rfl,rfl⟩:=hE';have hoff':off=0:=by
  have:(some 0:Option Nat)=some off:=by rw[←hoff];rw[sA];rfl
  injection this with this;exact this.symm
 subst hoff';have hp':v=.slice (some ⟨b,0,none⟩) xs.length (l.length-0):=by
  have:[Value.slice (some ⟨b,0+0*1,none⟩) xs.length (l.length-0)]=[v]:=hp;simpa using this.symm
 subst hp';obtain ⟨hcs,hrg⟩:=G3 hr;have hbs:b<w.heap.size:=(zy4.1 hb).1;have hH:Holds (Value.int .i64) w b 0 xs.toArray:=fun j hj=>by
  simp only[List.size_toArray] at hj;constructor
  ·simp only[World.cell?,hb,Option.isSome_none,zz2,if_false,zz4];rw[←zw8,hcs];rw[zy5,zy6 (by simpa using hj)];simp[hj]
  ·simp[World.frozen?,hb]
 have hlen:(cE xs).length=xs.length:=by simp[cE]
 refine (Any.slices_Sort_int Ew b 0 (l.length-0) xs w hH hbs (by omega)).mono ?_;rintro e w' ⟨rfl,n,os,rfl⟩;have hb1:(putRow (Value.int .i64) (Sort.ahead w n) b 0 (cE xs).toArray).heap[b]?=some (.cells (putCells (Value.int .i64) 0 (cE xs).toArray cs) T (0,0)):=by
  simp[putRow,mapBlock,Sort.ahead,Array.getElem?_modify,hb,onCells]
 have hother:∀ k,k<w.heap.size→k≠b→(grow (putRow (Value.int .i64) (Sort.ahead w n) b 0 (cE xs).toArray) os).heap[k]?=w.heap[k]?:=fun k hk hkb=>by
  rw[heap_grow_old _ _ (by simpa[Sort.ahead] using hk)];simp[putRow,mapBlock,Sort.ahead,Array.getElem?_modify,Ne.symm hkb]
 have hb2:(grow (putRow (Value.int .i64) (Sort.ahead w n) b 0 (cE xs).toArray) os).heap[b]?=some (.cells (putCells (Value.int .i64) 0 (cE xs).toArray cs) T (0,0)):=by
  rw[heap_grow_old _ _ (by simpa[Sort.ahead] using hbs)];exact hb1
 have hsz:w.heap.size≤(grow (putRow (Value.int .i64) (Sort.ahead w n) b 0 (cE xs).toArray) os).heap.size:=by simp[Sort.ahead]
 have hshow:(grow (putRow (Value.int .i64) (Sort.ahead w n) b 0 (xs.mergeSort fun x y=>decide (x≤y)).toArray) os)=(grow (putRow (Value.int .i64) (Sort.ahead w n) b 0 (cE xs).toArray) os):=rfl;rw[hshow];have hw1:(grow (putRow (Value.int .i64) (Sort.ahead w n) b 0 (cE xs).toArray) os).os=w.os:=rfl;have hw2:(grow (putRow (Value.int .i64) (Sort.ahead w n) b 0 (cE xs).toArray) os).tape=w.tape:=rfl;have hw3:(grow (putRow (Value.int .i64) (Sort.ahead w n) b 0 (cE xs).toArray) os).output=w.output:=rfl;revert hother hb2 hsz hw1 hw2 hw3;generalize grow (putRow (Value.int .i64) (Sort.ahead w n) b 0 (cE xs).toArray) os=w2;intro hother hb2 hsz hw1 hw2 hw3;have hmem:∀ x∈cE xs++q,IntKind.i64.min≤x∧x≤IntKind.i64.max:=fun x hx=>hrg x (by
  rcases zw0.1 hx with h | h
  ·exact List.mem_append_left _ (by simpa[cE] using h)
  ·exact List.mem_append_right _ h)
 refine ⟨.tuple #[],D,E,.tuple [],kG 1000000 (cE xs++q),rfl,⟨rfl,rfl⟩,⟨[],rfl,rfl⟩,⟨fun m =>?_,hO.cU⟩,⟨hw1,hw2,hw3,hsz,fun k hk =>?_⟩,fun _ _ h=>h,fun b0 o h=>Nat.lt_of_lt_of_le (hD b0 o h) hsz,fun _ _ h _ _=>h,fun m e h _=>⟨e,h,bR.le.refl e⟩,⟨fun b0 o u ah hc =>?_,fun b0 es ck ah hc =>?_⟩⟩
 ·by_cases hm:m=1000000
  ·subst hm;simp only[kG,ak,if_true];refine ⟨b,_,T,?_,.inr ⟨1000000,_,aF,rfl⟩,hb2,?_,hnD⟩
   ·rw[aF,sA,sA,zz8,zz8,hlen]
   ·show aN w2 D E _ _
    rw[ac0 hlen hcs];exact sc hmem
  ·simp only[kG,ak,if_neg hm,dc];exact hEn m hm
 ·by_cases hk2:k<w.heap.size
  ·exact hother k hk2 fun e=>hk (.inr ⟨1000000,_,aF,by rw[e];rfl⟩)
  ·exact absurd (.inl (Nat.le_of_not_lt hk2)) hk
 ·have hne:b0≠b:=fun e=>hnD o (e▸ah);simp only[World.cell?,hother b0 (hD b0 o ah) hne] at hc ⊢;exact hc
 ·have hne:b0≠b:=fun e=>hnD 0 (e▸ah);rw[hother b0 (hD b0 0 ah) hne];exact hc
theorem Jk(v:I)(hv0:v=.nils 1∨v=enc ([]:List Int)):bd Tryz.prog 89 [v] (.tuple []):=by
 refine ⟨B5,fun w D vs _ hD hv =>?_⟩;simp only[aH] at hv;obtain ⟨u,rest,cs',rfl,hp,hr',rfl⟩:=hv;have hu:∃ a cap,u=.slice a 0 cap:=by
  rcases hv0 with rfl | rfl
  ·have J:cs'=[.slice none 0 0]:=hr';have U:cs'=[u]:=hp;rw[J] at U;exact ⟨none,0,by simpa using U.symm⟩
  ·obtain ⟨a,cap,J,_⟩:=hr';have U:cs'=[u]:=hp;rw[J] at U;exact ⟨a,cap,by simpa using U.symm⟩
 obtain ⟨a,cap,rfl⟩:=hu;refine (Any.slices_Sort_int_none Ew a cap w).mono ?_;rintro e w' ⟨rfl,rfl⟩;exact ⟨.tuple #[],D,rfl,⟨[],rfl,rfl⟩,⟨rfl,rfl,rfl,zz3 _,fun _ _=>rfl⟩,hD,fun _ _ h _=>h⟩
end Go.Proofs.YthbdbocionnfgaaGreatDoor
namespace Go.Proofs.YthbdbocionnfgaaGreatDoor
open Go Go.Abs
open Go.Abs.Enc (enc)
theorem CY(n:Nat)(ts:List (Nat×I)):∀ t,Abs.b9 (mr [n] ts) t=if (Abs.b9 ts t).only (fun j => ![n].contains j)=true then Abs.b9 ts t else .dF:=by
 intro t;simp only[mr]
 induction ts with
 |nil=>simp[Abs.b9]
 |cons q ts ih =>
  obtain ⟨k,v⟩:=q;simp only[zz5,Abs.b9];split
  ·rfl
  ·exact ih
theorem vC{p q:Nat→Bool}(h:∀ n,p n=true→q n=true){y:aq}(hy:y.only p=true):y.only q=true:=by
 cases y with
 |box x=>exact iI h _ hy
 |bV T sz es=>exact iX h _ hy
 |dR o=>rfl
 |dT T xs=>rfl
 |bD ks vs=>simp only[aq.only,zz0] at hy ⊢;exact ⟨iX h _ hy.1,iX h _ hy.2⟩
 |it ks vs l c=>simp only[aq.only,zz0] at hy ⊢;exact ⟨iX h _ hy.1,iX h _ hy.2⟩
theorem Fo{n k:Nat} : ∀ {ts:List (Nat×I)},(∀ q∈ts,r3 n k q.2)→∀ t,r3 n k (Abs.b9 ts t)
 | [],_,_=>.inr rfl
 |(a,v)::ts,h,t=>by
  simp only[Abs.b9];split
  ·exact h (a,v) (by simp)
  ·exact Fo (fun q hq=>h q (by simp[hq])) t
theorem uH{p:Nat→Bool}{n k:Nat}(hp:p=fun j => ![n].contains j)(f:aq→aq)(hf:∀ y:aq,y.only p=true→f y=y):∀ {os:List (Nat×aq)},ct p (e7 [n] os)→ct p (e7 [n] (os.map fun q=>(q.1,f q.2)))
 | [],_=>trivial
 |(m,y)::os,h=>by
  simp only[zz5,e7,List.filter_cons] at h ⊢;split
  ·rename_i hm;rw[if_pos hm] at h;refine ⟨?_,uH (k:=k) hp f hf h.2⟩;rw[hf y h.1];exact h.1
  ·rename_i hm;rw[if_neg hm] at h;exact uH (k:=k) hp f hf h
theorem PW{ys q:List Int}{k:Nat}(hk:ys.length=k):mu 1 0 k (some ((ys++q).map enc))=some (enc ys):=by
 have h:(((ys++q).map (enc (α:=Int))).drop 0).take k=ys.map enc:=by
  rw[List.drop_zero,zy5,List.take_append_of_le_length (by simp[hk]),List.take_of_length_le (by simp[hk])]
 simp only[mu,h];rw[if_pos (ji ys),hh];rfl
theorem H0{n k:Nat} : ∀ y:aq,y.only (fun j => ![n].contains j)=true→kb (jC n k) y=y:=fun y hy=>by
 cases y <;>try rfl
 simp only[aq.only] at hy;simp only[kb,vt (iI (fun j hj=>by simpa using hj) _ hy)]
theorem HY{n:Nat} : ∀ y:aq,y.only (fun j => ![n].contains j)=true→kb (jB n) y=y:=fun y hy=>by
 cases y <;>try rfl
 simp only[aq.only] at hy;simp only[kb,HZ (iI (fun j hj=>by simpa using hj) _ hy)]
theorem HX{ts ts':List (Nat×I)}(h:∀ q∈ts',Abs.b9 ts q.1=q.2):b6 ts ts':=by
 induction ts' with
 |nil=>trivial
 |cons q ts' ih=>exact ⟨h q (by simp),ih fun q hq=>h q (by simp[hq])⟩
theorem ae.adV{W0:World}{bH:aS}{nn:Nat}{ow:Nat→Prop}{E1:bf}{Y:Value→List I→List (Nat×aq)→cL→Prop}{kE:Option Nat}{ba:Option (List Deferred)}{y:bx}{Q:Exit→ai→Prop}{ts:List (Nat×I)}{os:List (Nat×aq)}{a b d n:Nat}{xs:List Int}
  (ah:Abs.b9 ts d=.own n xs.length) (hn:ak os n=some (.dT 3 xs)) (hlt:n<1000000) (ao:xs.length≤1000) (ht:∀ t,r3 n xs.length (Abs.b9 ts t)) (ho:ct (fun j => ![n].contains j) (e7 [n] os))
  (ts':List (Nat×I)) (J:∀ q∈ts',q.1≠a∧q.1≠b∧Abs.b9 ts q.1=q.2∧q.2.only (fun j=>j != n)=true)
  (hda:d≠a) (hdb:d≠b)
  (h:ae ⟨Tryz.prog,W0,bH,nn,ow,E1,Y,kE,ba⟩ y Q (aw ((d,enc (cE xs))::ts') (e7 [n] os))) :
  ae ⟨Tryz.prog,W0,bH,nn,ow,E1,Y,kE,ba⟩ (.seq (.cg none [⟨some a,.mv (.t d),none⟩,⟨some b,.call 89 [.t a],none⟩]) y) Q (aw ts os):=by
 have hdrop:∀ m,ak (e7 [n] os) m=if m=n then none else ak os m:=fun m=>by
  have:=oE [n] os m;simpa using this
 have ho':∀ m y,ak os m=some y→m≠n→y.only (fun j=>j != n)=true:=fun m y hy hm=>by
  have:=yH ho m y (by rw[hdrop,if_neg hm];exact hy);exact vC (fun j hj=>by simpa using hj) this
 by_cases hx:xs=[]
 ·subst hx;refine ae.sub (bp.aej hn (bp.refl _)) ?_;refine ae.seq (ae.cg (cl:=[]) (by rfl) fun K hK =>?_);have hd':Abs.b9 (ts.map fun q=>(q.1,jB n q.2)) d=.nils 1:=by
   rw[qa _ rfl,ah];simp[jB]
  simp only[bF,simprocAttr,hd'];refine .flat _ (Jk _ (.inr rfl)) rfl ?_
  try simp only[bF,simprocAttr]
  refine .done (hK _ ?_);clear hK K;refine ae.sub ((bp.km [n] d (x:=.nils 1) (y:=enc ([]:List Int)) ?_ (by rfl) ?_).trans (bp.slots ?_ fun m =>?_)) h
  ·simp only[Abs.b9,hda,hdb,if_false];exact hd'
  ·exact uH (k:=0) rfl (kb (jB n)) HY ho
  ·refine ⟨by simp[Abs.b9,cE],HX fun q hq =>?_⟩;obtain ⟨k1,k2,k3,k4⟩:=J q hq;have hqd:q.1≠d:=fun e=>by
    rw[e,ah] at k3;rw[←k3] at k4;simp[I.only] at k4
   have h5:Abs.b9 (ts.map fun p=>(p.1,jB n p.2)) q.1=q.2:=by
    rw[qa _ rfl,k3,HZ k4]
   simp only[Abs.b9,CY,k1,k2,hqd,if_false,h5];rw[if_pos (iI (fun j hj=>by simpa using hj) _ k4)]
  ·rw[hdrop,oE,uo];by_cases hm:m=n
   ·simp[hm]
   ·cases h6:ak os m with
    |none=>simp[hm]
    |some y =>
     have h7:kb (jB n) y=y:=HY _ (vC (fun j hj=>by simpa using hj) (ho' _ _ h6 hm));simp[hm,h7]
 ·refine ae.aei hn hx hlt ht (fun m y hy hm=>.inr (ho' m y hy hm)) fun q =>?_;refine ae.seq (ae.cg (cl:=[]) (by rfl) fun K hK =>?_);have hd':Abs.b9 (ts.map fun p=>(p.1,jC n xs.length p.2)) d=.view n [] 1 0 xs.length:=by
   rw[qa _ rfl,ah];simp[jC]
  simp only[bF,simprocAttr,hd'];refine .bU false [(1000000,n)] (kG 1000000 (xs++List.replicate q 0)) [.view 1000000 [] 1 0 xs.length] _ rfl (Jj xs _ (by omega)) ?_ ?_ ?_ ?_
  ·refine ⟨fun m y hy =>?_,fun m m' h h' _=>by rw[nv.1 h,nv.1 h']⟩;simp only[kG,ak] at hy;split at hy
   ·rename_i hm;cases hy;subst hm;exact ⟨by simp only[bP,if_true,ak,aq.bu,I.bu,u3],ER _ _,rfl⟩
   ·cases hy
  ·exact ⟨.inl ⟨by simp[I.bu,bP],nv.2 rfl,rfl⟩,trivial⟩
  ·rintro rr os2 ⟨rfl,rfl⟩;refine ⟨fun m y hy =>?_,fun m m' h h' _=>by rw[nv.1 h,nv.1 h'],fun m hm=>by rw[nv.1 hm];exact nv.2 rfl,fun m a b=>by rw[nv.1 a] at b;simp[kG,ay,ak] at b,rfl,fun _=>rfl⟩;simp only[kG,ak] at hy;split at hy
   ·cases hy;exact ⟨ER _ _,rfl,fun h=>by cases h⟩
   ·cases hy
  ·rintro rr os2 ⟨rfl,rfl⟩
   try simp only[kG,dN,zz5,zx7,aq.bu,I.bu,u3,bP,reduceIte,zy1,List.nil_append,I.ee,bF,simprocAttr]
   refine .done (hK _ ?_);clear hK K;refine ae.sub ((bp.km [n] d (x:=.view n [] 1 0 xs.length) (y:=enc (cE xs)) ?_ ?_ ?_).trans (bp.slots ?_ fun m =>?_)) h
   ·simp only[Abs.b9,hda,hdb,if_false];exact hd'
   ·have:ak (nx [n] ((n,aq.box (I.agg ((cE xs++List.replicate q 0).map enc)))::(n,aq.box (I.agg ((xs++List.replicate q 0).map enc)))::os.map fun p=>(p.1,kb (jC n xs.length) p.2))) n=some (.box (.agg ((cE xs++List.replicate q 0).map enc))):=by
     rw[p7];simp[ak]
    try simp only[this,bF,simprocAttr]
    exact PW (by simp[cE])
   ·have:=uH (k:=0) rfl (kb (jC n xs.length)) H0 ho;simpa[e7] using this
   ·refine ⟨by simp[Abs.b9],HX fun q hq =>?_⟩;obtain ⟨k1,k2,k3,k4⟩:=J q hq;have hqd:q.1≠d:=fun e=>by
     rw[e,ah] at k3;rw[←k3] at k4;simp[I.only] at k4
    have h5:Abs.b9 (ts.map fun p=>(p.1,jC n xs.length p.2)) q.1=q.2:=by
     rw[qa _ rfl,k3,vt k4]
    simp only[Abs.b9,CY,k1,k2,hqd,if_false,h5];rw[if_pos (iI (fun j hj=>by simpa using hj) _ k4)]
   ·rw[hdrop,oE];by_cases hm:m=n
    ·simp[hm]
    ·simp only[ak,if_neg hm,uo];cases h6:ak os m with
     |none=>simp[hm]
     |some y =>
      have h7:kb (jC n xs.length) y=y:=H0 _ (vC (fun j hj=>by simpa using hj) (ho' _ _ h6 hm));simp[hm,h7]
def jt(ks:List Int)(au:List Nat):List Int:=au.map fun i=>ks.getD i 0
theorem acH(ks:List Int)(au:List Nat)(i:Nat):jt ks (au++[i])=jt ks au++[ks.getD i 0]:=by simp[jt]
theorem acG(ks:List Int)(au:List Nat):(jt ks au).length=au.length:=by simp[jt]
theorem acF{ks:List Int}{au:List Nat}(h:au.Perm (List.range ks.length)):(jt ks au).Perm ks:=by
 have e:(List.range ks.length).map (fun i=>ks.getD i 0)=ks:=by
  refine List.ext_getElem (by simp) fun i J U =>?_;simp[zz1,U]
 simp only[jt];have:=h.map fun i=>ks.getD i 0
 rwa [e] at this
theorem adU{xs ys:List Int}(h:xs.Perm ys):cE xs=cE ys:=by
 unfold cE;have hx:=List.pairwise_mergeSort (le:=fun x y:Int=>decide (x≤y)) (by intro a b c;simp;omega) (by intro a b;simp;omega) xs;have hy:=List.pairwise_mergeSort (le:=fun x y:Int=>decide (x≤y)) (by intro a b c;simp;omega) (by intro a b;simp;omega) ys;refine List.Perm.eq_of_pairwise (fun a b _ _ h k =>?_) hx hy ((List.mergeSort_perm _ _).trans (h.trans (List.mergeSort_perm _ _).symm));simp only[decide_eq_true_eq] at h k;omega
theorem Fu(p:Nat→Bool)(f:Nat→dB):∀ l:List Nat,I.b8 p (l.map fun i=>.ref (enc (f i)))=true
 | []=>rfl
 |i::l=>by simp[I.b8,I.only,b7,Fu p f l]
def Ar(s:aI)(t:List Nat×List Nat×Option Nat):ai :=
 aw [(3,.own 905 (jt s.bK t.1).length),(9,.dC 9)] [(9,.it (s.bK.map enc) (s.aU.map fun i=>.ref (enc (s.cw i))) t.2.1 t.2.2),(905,.dT 3 (jt s.bK t.1))]
theorem Ah(s:aI)(ao:s.aU.length≤1000):bd Tryz.prog 85 [dP s] (enc (cE s.bK)):=by
 refine bd.b5 Tryz.func85 Lv MC N1 (t7 rfl) (fun hwf W0 bH E1 =>?_);simp only[c85,GR,bM];clear hwf;have hlen:s.bK.length=s.aU.length:=by simp[aI.bK]
 refine .fT (by decide +kernel) fun K hK =>?_;simp only[DA,bF,simprocAttr];refine .done (hK _ ?_);clear hK K;refine .fT (by decide +kernel) fun K hK =>?_;simp only[DB,bF,simprocAttr];refine .done (hK _ ?_);clear hK K;refine ae.seq (ae.seq ?_);refine .j5 (by decide +kernel) fun K hK =>?_;simp only[DC,bF,simprocAttr]
 try simp only[eU,j8,bj,nz,bF,simprocAttr]
 refine .done (hK _ ?_);clear hK K;try simp only[ej]
 refine ae.block (ae.loop (Ar s) (fun t=>(t.1++t.2.1).Perm (List.range s.bK.length)) (fun t=>t.2.1.length) ([],List.range s.bK.length,none) (by simp) ?_ ?_)
 ·refine bp.JE 3 905 3 1 rfl rfl ?_;refine bp.slots ?_ (fun n =>?_)
  ·simp[b6,bY,jt]
  ·simp only[jt,zx7,cQ,rR,zz6,hlen]
   (repeat' split) <;>simp_all
 rintro ⟨au,left,cur⟩ hC;simp only at hC;have hdl:au.length+left.length=s.bK.length:=by simpa using hC.length_eq
 have hpl:=acG s.bK au;simp only[Ar];by_cases hn:left=[]
 ·subst hn;refine .fT (by decide +kernel) fun K hK =>?_;simp only[xJ,bF,simprocAttr]
  try simp only[nz,Fi,bF,simprocAttr]
  refine .done (hK _ ?_);clear hK K;refine ae.seq ?_;refine ae.jZ ?_;simp only[av,bF,simprocAttr];refine ⟨fun h =>?_,fun h =>?_⟩
  case refine_1=>cases h
  refine ae.exit ?_;try simp only[ej,jF,simprocAttr]
  have hdn:(jt s.bK au).Perm s.bK:=acF (by simpa using hC);rw[←adU hdn];generalize jt s.bK au=xs at hpl;refine ae.adV (a:=18) (b:=19) (d:=3) (n:=905) (xs:=xs) rfl rfl (by decide) (by omega) (Fo (by simp[r3,I.only,I.b8])) (by simp only[e7,List.filter_cons,List.filter_nil,List.contains_cons];simp[ct,aq.only,e8,Fu,-List.map_map]) [] (by simp) (by decide) (by decide) ?_;have R:=az
  repeat' ((first |refine ae.aB (by decide +kernel) rfl fun K hK =>?_|(refine .au [0,2,3,4,9,11] hK ?_;clear hK K)|(with_reducible refine .done (hK _ ?_);clear hK K)|refine ae.of rfl ?_|(with_reducible refine av.aA (fun h =>?_) (fun h =>?_) <;>try simp only[h])) <;>try simp only[aC,R,simprocAttr])
  all_goals clear R
 ·refine .fT (by decide +kernel) fun K hK =>?_;simp only[xJ,bF,simprocAttr]
  try simp only[nz,bF,simprocAttr]
  refine aV.iW hn fun i hi =>?_;have hib:i<s.bK.length:=zv8.1 (hC.mem_iff.1 (by simp[hi]));have hib2:i<s.aU.length:=by omega
  obtain ⟨hm,hC2⟩:=EE hC hi;have hk1:(s.bK.map (enc (α:=Int)))[i]?=some (enc s.bK[i]):=by simp[hib]
  have hk2:(s.aU.map fun i=>I.ref (enc (s.cw i)))[i]?=some (.ref (enc (s.cw s.aU[i]))):=by simp[hib2]
  refine ⟨_,_,hk1,hk2,?_⟩;have hent:np (s.bK.map enc) (s.aU.map fun i=>I.ref (enc (s.cw i))) (some i)=some (.tuple [enc s.bK[i],.ref (enc (s.cw s.aU[i]))]):=by
   simp only[np,hk1,hk2]
  have hx:s.bK.getD i 0=s.bK[i]:=by simp[zz1,hib]
  have hsn:=acH s.bK au i;rw[hx] at hsn;have hbs:eW 1 (some [.int .i64 s.bK[i]])=some (enc [s.bK[i]]):=h2 1 s.bK[i] rfl;have hap:=fun (A:ai) d rest=>JQ (A:=A) (d:=d) (e:=3) (bytes:=8) (n:=905) (l:=(jt s.bK au).length) (xs:=jt s.bK au) (y:=s.bK[i]) (rest:=rest) rfl (by simp[maxLen];omega) (by omega)
  try simp only[bF,simprocAttr]
  refine .done (hK _ ?_);clear hK K;refine ae.seq ?_;refine ae.jZ ?_;simp only[av,bF,simprocAttr];refine ⟨fun h =>?_,fun h =>?_⟩
  case refine_2=>cases h
  refine ae.skip ?_;try simp only[ej,simprocAttr]
  refine ae.block ?_;have R:=y6 @hent (y6 @hbs (y6 @hap az))
  repeat' ((first |refine ae.aB (by decide +kernel) rfl fun K hK =>?_|(refine .au [0,2,3,4,9,11] hK ?_;clear hK K)|(with_reducible refine .done (hK _ ?_);clear hK K)|refine ae.of rfl ?_|(with_reducible refine av.aA (fun h =>?_) (fun h =>?_) <;>try simp only[h])) <;>try simp only[aC,R,simprocAttr])
  all_goals clear R
  refine ⟨(au++[i],left.filter (· != i),some i),hC2,hm,?_⟩;simp only[hsn];refine bp.slots ?_ (fun n =>?_)
  ·simp[b6,bY]
  ·simp only[cQ,rR];(repeat' split) <;>simp_all
theorem adz:(∀ A d rest l,u7 A d rest (kp l)=aE rest ((A.aT d (.it (l.map enc) (List.replicate l.length (.bool true)) (List.range (l.map (enc (α:=Int))).length) none)).put d (.dC d))):=fun _ _ _ _=>rfl
def nM(s:aI):List dB:=(cE s.bK).map fun n=>s.cw (n.toNat-1)
def u5(p:bI):List dB×Int:=match dD p with
 |none=>([],91)
 |some s=>(nM s,0)
theorem J2{s:aI}{n:Int}(h:n∈s.bK):∃ j,s.at n=some j∧n=(j:Int)+1∧j∈s.aU:=by
 obtain ⟨j,hj,rfl⟩:=zy9.1 h;have ab:(s.at ((j:Int)+1)).isSome=true:=by
  simp only[aI.at,List.find?_isSome];exact ⟨j,hj,by simp⟩
 obtain ⟨k,hk⟩:=zx0.1 ab;obtain ⟨J,U⟩:=jV hk;exact ⟨k,hk,U,J⟩
theorem adT{l:List Int}{n:Int} : n∈cE l↔n∈l:=by simp[cE]
theorem zi:∀ {l:List bn} {s s':aI},gA s l=some s'→s'.aU.length≤s.aU.length+l.length
 | [],s,s',h=>by cases h;simp
 |x::l,s,s',h=>by
  simp only[gA] at h;cases hx:gW s x with
  |none=>rw[hx] at h;cases h
  |some s2 =>
   rw[hx] at h;have J:=zi h;have he:∀ b,(s.aU.erase b).length≤s.aU.length:=fun b=>List.length_erase_le;have U:s2.aU.length≤s.aU.length+1:=by
    simp only[gW] at hx;split at hx
    ·simp only[ff] at hx
     (repeat' split at hx) <;>first
      |(cases hx;done)
      |(cases hx;exact zu0 (he _) (Nat.le_succ _))
      |(cases hx;exact Nat.le_succ _)
      |(cases hx;simp)
    ·cases hx
   simp only[zx8];omega
theorem acu{p:bI}{s:aI}(h:dD p=some s):s.aU.length≤200:=by
 obtain ⟨_,_,_,ar,_,h6⟩:=iJ h;have:=zi h6;simp only[fk,List.length_nil] at this;omega
theorem EI(s:aI){i:Nat}(h:i<(cE s.bK).length):fJ (.i .i64) .nilp (.int .i64 (cE s.bK)[i]) (s.bK.map enc) (s.aU.map fun i=>.ref (enc (s.cw i)))=some (.ref (enc (s.cw ((cE s.bK)[i].toNat-1))),true):=by
 have hm:(cE s.bK)[i]∈s.bK:=adT.1 (zw7 h);obtain ⟨j,hj,e,_⟩:=J2 hm;rw[x5 (s:=s) (fun i=>.ref (enc (s.cw i))),hj];have:(cE s.bK)[i].toNat-1=j:=by omega
 simp only[this]
theorem PU{xs:List dB} : kl xs.length (some (.bV 48 4 (xs.map enc)))=some (enc xs):=ot 4 rfl rfl
def vT(p:bI)(s:aI)(t:Nat×List dB):ai :=
 aw [(1,.ptr 1 []),(4,dP s),(6,.own 905 t.2.length),(18,enc (cE s.bK)),(19,.int .i64 (cE s.bK).length),(20,.int .i64 t.1)] [(905,.bV 48 4 (t.2.map enc)),(1,.box (enc p))]
theorem IQ(p:bI):bd Tryz.prog 46 [enc p] (.tuple [enc (u5 p).1,enc (u5 p).2]):=by
 refine bd.b5 Tryz.func46 K9 Mh NF (t7 rfl) (fun hwf W0 bH E1 =>?_);simp only[c46,Gv,bM];clear hwf;have hF:=qL p;simp only[u5];cases ho:dD p with
 |none =>
  rw[ho] at hF;simp only[kX] at hF;have R:=y6 @bE (y6 @aZ (y6 @bw (y6 @bl (y6 @bj az))))
  repeat' ((first |refine ae.aB (by decide +kernel) rfl fun K hK =>?_|refine .lead _ (hF) ?_|(refine .au [0,1,2,3,4,5,6,8,15,18,19,20,21] hK ?_;clear hK K)|(with_reducible refine .done (hK _ ?_);clear hK K)|refine ae.of rfl ?_|(with_reducible refine av.aA (fun h =>?_) (fun h =>?_) <;>try simp only[h])) <;>try simp only[aC,R,simprocAttr])
  all_goals clear R
  rfl
 |some s =>
  have ao:=acu ho;have hN:=Ah s (by omega);have hlen:(cE s.bK).length=s.aU.length:=by simp[cE,aI.bK]
  have hrl:(nM s).length=(cE s.bK).length:=by simp[nM]
  have hso:∀ p,(dP s).only p=true:=fun p=>kW p _ (o7 s);rw[ho] at hF;simp only[kX] at hF;have R:=y6 @adz (y6 @eU (y6 @bE (y6 @aZ (y6 @bw (y6 @bl (y6 @bj az))))))
  repeat' ((first |refine ae.aB (by decide +kernel) rfl fun K hK =>?_|refine .lead _ (hF) ?_|refine .lead _ (hN) ?_|(refine .au [0,1,2,3,4,5,6,8,15,18,19,20,21] hK ?_;clear hK K)|(with_reducible refine .done (hK _ ?_);clear hK K)|refine ae.of rfl ?_|(with_reducible refine av.aA (fun h =>?_) (fun h =>?_) <;>try simp only[h])) <;>try simp only[aC,R,simprocAttr])
  all_goals clear R
  refine ae.loop (vT p s) (fun t=>t.1≤(cE s.bK).length∧t.2=(nM s).take t.1) (fun t=>(cE s.bK).length-t.1) (0,[]) ⟨zw1 _,rfl⟩ ?_ ?_
  ·refine bp.n5 6 905 48 4 4 rfl rfl ?_;simp only[vT];refine bp.cG ?_ ?_ ?_ ?_ <;>simp[*,b6,cF,cn,ct,ay,bY,cQ,I.only,I.b8,aq.only,b7]
  rintro ⟨i,xs⟩ ⟨hi,hxs⟩;simp only at hi hxs;have htl:xs.length=i:=by rw[hxs,zx2];omega
  simp only[vT];by_cases hlt:i<(cE s.bK).length
  ·have hc:=fK hlt;have he:=fun A=>eK (A:=A) 1 hlt rfl;have hw:=fg (i:=i) (by omega);have hlk:=EI s hlt;obtain ⟨r,hr⟩:∃ r,r=s.cw ((cE s.bK)[i].toNat-1):=⟨_,rfl⟩
   rw[←hr] at hlk;have hbs:eW 4 (some [enc r])=some (enc [r]):=h2 4 _ rfl;have hap:=fun (A:ai) d rest=>lD (A:=A) (d:=d) 48 4 32 905 (l:=xs.length) (es:=xs) (ys:=[r]) (rest:=rest) rfl rfl (by simp) (by simp[maxLen];omega) (by simp;omega);have htk:(nM s).take (i+1)=xs++[r]:=by
    have hik:i<(nM s).length:=by rw[hrl];exact hlt
    rw[zy0 hik,hxs,hr];simp[nM]
   have R:=y6 @hc (y6 @he (y6 @hw (y6 @hlk (y6 @hbs (y6 @hap (y6 @eU (y6 @bE (y6 @aZ (y6 @bw (y6 @bl (y6 @bj az)))))))))))
   repeat' ((first |refine ae.aB (by decide +kernel) rfl fun K hK =>?_|(refine .au [0,1,2,3,4,5,6,8,15,18,19,20,21] hK ?_;clear hK K)|(with_reducible refine .done (hK _ ?_);clear hK K)|refine ae.of rfl ?_|(with_reducible refine av.aA (fun h =>?_) (fun h =>?_) <;>try simp only[h])) <;>try simp only[aC,R,simprocAttr])
   all_goals clear R
   refine ⟨(i+1,xs++[r]),⟨by simp only;omega,htk.symm⟩,by simp only;omega,?_⟩;simp only;clear hxs htk htl;refine bp.cG ?_ ?_ ?_ ?_ <;>simp[*,b6,cF,cn,ct,ay,bY,cQ,I.only,I.b8,aq.only,e8,kz,b7]
  ·have hge:i=(cE s.bK).length:=by omega
   have hc:=fR hlt;have htk:xs=nM s:=by rw[hxs];exact List.take_of_length_le (by omega)
   rw[←htk];have R:=y6 @hc (y6 @PU (y6 @eU (y6 @bE (y6 @aZ (y6 @bw (y6 @bl (y6 @bj az)))))))
   repeat' ((first |refine ae.aB (by decide +kernel) rfl fun K hK =>?_|(refine .au [0,1,2,3,4,5,6,8,15,18,19,20,21] hK ?_;clear hK K)|(with_reducible refine .done (hK _ ?_);clear hK K)|refine ae.of rfl ?_|(with_reducible refine av.aA (fun h =>?_) (fun h =>?_) <;>try simp only[h])) <;>try simp only[aC,R,simprocAttr])
   all_goals clear R
theorem wj(a b:Int):(dS [.int .i64 0,.int .i64 0] [(0,.int .i64 a),(1,.int .i64 b)]).map I.agg=some (.agg [.int .i64 a,.int .i64 b]):=by simp[dS,I.bX,I.size]
instance:Enc aI where
 enc s:=dP s
 sz:=1
 bg:=.one
 ij:=false
 done s:=by simp only[dP,I.done,Cq]
 size _:=rfl
 jy _:=rfl
 agg _:=rfl
theorem Pp(s:aI):(enc s:I)=dP s:=rfl
def iK(l:List bI)(i:Nat):bI:=l.getD i default
theorem yL{l:List bI}{i:Nat}(h:i<l.length):l[i]=iK l i:=by simp[iK,zz1,h]
def jk(l:List bI)(i:Nat):Bool:=(dD (iK l i)).isSome&&(i==0||decide ((iK l (i-1)).aD<(iK l i).aD))
def td(l:List bI):Bool:=(List.range l.length).all (jk l)
def nW(l:List bI):List aI:=l.filterMap dD
def kL(l:List bI)(b:Int):List aI×Int:=if td l then (if dJ 1 9999 b then (nW l,0) else ([],1)) else ([],96)
theorem Fw{p:bI}(h:(dD p).isSome=true):0≤p.aD∧p.aD≤5:=by
 obtain ⟨s,ab⟩:=zx0.1 h;have h5:=(iJ ab).2.2.2.2.1;simp only[iG,dJ,zz0,decide_eq_true_eq] at h5;exact h5.1
theorem aal{l:List bI}{n:Nat}(h:∀ j,j<n→jk l j=true):∀ j,j<n→(j:Int)≤(iK l j).aD:=by
 intro j
 induction j with
 |zero =>
  intro hj;have aR:=h 0 hj;simp only[jk,zz0] at aR;exact (Fw aR.1).1
 |succ j ih =>
  intro hj;have J:=ih (by omega);have U:=h (j+1) hj;simp only[jk,zz0,Bool.or_eq_true,beq_iff_eq,decide_eq_true_eq] at U;rcases U.2 with af | af
  ·omega
  ·have:j+1-1=j:=rfl;rw[this] at af;omega
theorem DY{l:List bI}{n:Nat}(h:∀ j,j<n→jk l j=true):n≤6:=by
 rcases Nat.lt_or_ge 6 n with hn | hn
 ·have J:=aal h 6 hn;have U:=h 6 hn;simp only[jk,zz0] at U;have:=(Fw U.1).2;omega
 ·exact hn
theorem ad9{l:List bI}{i:Nat}(h:i<l.length):nW (l.take (i+1))=nW (l.take i)++(match dD (iK l i) with | some s=>[s] | none=>[]):=by
 rw[zy0 h,yL h];simp only[nW,List.filterMap_append,List.filterMap_cons,List.filterMap_nil];cases dD (iK l i) <;>rfl
theorem HU(l:List bI):(nW l).length≤l.length:=List.length_filterMap_le _ _
theorem C1{xs:List aI} : kl xs.length (some (.bV 80 1 (xs.map enc)))=some (enc xs):=ot 1 rfl rfl
def vX(l:List bI)(b:Int)(t:Nat×List aI):ai :=
 aw [(0,enc l),(1,.int .i64 b),(6,.own 905 t.2.length),(11,enc l),(12,.int .i64 l.length),(13,.int .i64 t.1)] [(905,.bV 80 1 (t.2.map enc))]
theorem Ji(l:List bI)(b:Int):bd Tryz.prog 83 [enc l,enc b] (.tuple [enc (kL l b).1,enc (kL l b).2]):=by
 refine bd.b5 Tryz.func83 Lu MB N0 (t7 rfl) (fun hwf W0 bH E1 =>?_);simp only[BD,GQ,bM,zz4];have hlen:l.length≤maxLen:=((kI l).1 hwf.1).1;simp only[maxLen] at hlen;clear hwf;have R:=y6 @bE (y6 @aZ (y6 @bw (y6 @bl (y6 @bj az))))
 repeat' ((first |(with_reducible refine .guard (fun hb =>?_) (fun hb =>?_) <;>try simp only[hb])|refine ae.aB (by decide +kernel) rfl fun K hK =>?_|(refine .au [0,1,4,5,6,7,8,9,10,11,12,13,14,39,47] hK ?_;clear hK K)|(with_reducible refine .done (hK _ ?_);clear hK K)|refine ae.of rfl ?_|(with_reducible refine av.aA (fun h =>?_) (fun h =>?_) <;>try simp only[h])) <;>try simp only[aC,R,simprocAttr])
 all_goals clear R
 refine ae.loop (vX l b) (fun t=>t.1≤l.length∧(∀ j,j<t.1→jk l j=true)∧t.2=nW (l.take t.1)) (fun t=>l.length-t.1) (0,[]) ⟨zw1 _,by simp,rfl⟩ ?_ ?_
 ·refine bp.n5 6 905 80 1 1 rfl rfl ?_;simp only[vX];refine bp.cG ?_ ?_ ?_ ?_ <;>simp[b6,cF,cn,ct,ay,bY,cQ,I.only,I.b8,aq.only,b7]
  all_goals rfl
 rintro ⟨i,xs⟩ ⟨hi,hg,hxs⟩;simp only at hi hg hxs;have hi6:=DY hg;have hxl:xs.length≤i:=by
  rw[hxs];refine zu0 (HU _) ?_;rw[zx2];omega
 simp only[vX];by_cases hlt:i<l.length
 ·have hc:=fK hlt;have he:=fun A=>eK (A:=A) 3 hlt rfl;rw[yL hlt] at he;have hw:=fg (i:=i) (by omega);have hF:=qL (iK l i);have hbad:jk l i=false→kL l b=([],96):=fun h=>by
   have:td l=false:=by
    simp only[td,List.all_eq_false];exact ⟨i,zv8.2 hlt,by simp[h]⟩
   simp[kL,this]
  cases ho:dD (iK l i) with
  |none =>
   rw[ho] at hF;simp only[kX] at hF;rw[hbad (by simp[jk,ho])];have R:=y6 @hc (y6 @he (y6 @bE (y6 @aZ (y6 @bw (y6 @bl (y6 @bj az))))))
   repeat' ((first |(with_reducible refine .guard (fun hb =>?_) (fun hb =>?_) <;>try simp only[hb])|refine ae.aB (by decide +kernel) rfl fun K hK =>?_|refine .lead _ (hF) ?_|(refine .au [0,1,4,5,6,7,8,9,10,11,12,13,14,39,47] hK ?_;clear hK K)|(with_reducible refine .done (hK _ ?_);clear hK K)|refine ae.of rfl ?_|(with_reducible refine av.aA (fun h =>?_) (fun h =>?_) <;>try simp only[h])) <;>try simp only[aC,R,simprocAttr])
   all_goals clear R
   rfl
  |some s =>
   rw[ho] at hF;simp only[kX] at hF;have hbs:eW 1 (some [dP s])=some (enc [s]):=h2 1 s rfl;have hap:=fun (A:ai) d rest=>lD (A:=A) (d:=d) 80 1 8 905 (l:=xs.length) (es:=xs) (ys:=[s]) (rest:=rest) rfl rfl (by simp) (by simp[maxLen];omega) (by simp;omega);have hst:nW (l.take (i+1))=xs++[s]:=by rw[ad9 hlt,ho,hxs]
   have hso:∀ p,(dP s).only p=true:=fun p=>kW p _ (o7 s);by_cases aR:i=0
   ·have hz:decide ((i:Int)>0)=false:=by simp;omega
    have hgi:jk l i=true:=by simp only[jk,ho];simp[aR]
    have R:=y6 @hc (y6 @he (y6 @hz (y6 @hw (y6 @hbs (y6 @hap (y6 @bE (y6 @eU (y6 @aZ (y6 @bw (y6 @bl (y6 @bj az)))))))))))
    repeat' ((first |(with_reducible refine .guard (fun hb =>?_) (fun hb =>?_) <;>try simp only[hb])|refine ae.aB (by decide +kernel) rfl fun K hK =>?_|refine .lead _ (hF) ?_|(refine .au [0,1,4,5,6,7,8,9,10,11,12,13,14,39,47] hK ?_;clear hK K)|(with_reducible refine .done (hK _ ?_);clear hK K)|refine ae.of rfl ?_|(with_reducible refine av.aA (fun h =>?_) (fun h =>?_) <;>try simp only[h])) <;>try simp only[aC,R,simprocAttr])
    all_goals clear R
    refine ⟨(i+1,xs++[s]),⟨by simp only;omega,fun j hj =>?_,hst.symm⟩,by simp only;omega,?_⟩
    ·by_cases e:j=i
     ·rw[e];exact hgi
     ·exact hg j (by simp only at hj;omega)
    ·simp only;clear hxs hst;refine bp.cG ?_ ?_ ?_ ?_ <;>simp[*,b6,cF,cn,ct,ay,bY,cQ,I.only,I.b8,aq.only,e8,kz,b7]
   ·have hz:decide ((i:Int)>0)=true:=by simp;omega
    have hw1:IntKind.i64.wrap ((i:Int)-1)=((i-1:Nat):Int):=by rw[iy _ (by omega) (by omega)];omega
    have he1:∀ A,fi A 3 ((i-1:Nat):Int) (enc l)=some (.ref (enc (iK l (i-1)))):=fun A=>by
     have hlt1:i-1<l.length:=by omega
     have:=eK (A:=A) 3 hlt1 rfl;rw[yL hlt1] at this;exact this
    rcases q:decide ((iK l (i-1)).aD≥(iK l i).aD)
    ·have hgi:jk l i=true:=by
      have:(iK l (i-1)).aD<(iK l i).aD:=by have:=of_decide_eq_false q;omega
      simp[jk,ho,this]
     have R:=y6 @hc (y6 @he (y6 @hz (y6 @hw1 (y6 @he1 (y6 @q (y6 @hw (y6 @hbs (y6 @hap (y6 @bE (y6 @eU (y6 @aZ (y6 @bw (y6 @bl (y6 @bj az))))))))))))))
     repeat' ((first |(with_reducible refine .guard (fun hb =>?_) (fun hb =>?_) <;>try simp only[hb])|refine ae.aB (by decide +kernel) rfl fun K hK =>?_|refine .lead _ (hF) ?_|(refine .au [0,1,4,5,6,7,8,9,10,11,12,13,14,39,47] hK ?_;clear hK K)|(with_reducible refine .done (hK _ ?_);clear hK K)|refine ae.of rfl ?_|(with_reducible refine av.aA (fun h =>?_) (fun h =>?_) <;>try simp only[h])) <;>try simp only[aC,R,simprocAttr])
     all_goals clear R
     refine ⟨(i+1,xs++[s]),⟨by simp only;omega,fun j hj =>?_,hst.symm⟩,by simp only;omega,?_⟩
     ·by_cases e:j=i
      ·rw[e];exact hgi
      ·exact hg j (by simp only at hj;omega)
     ·simp only;clear hxs hst;refine bp.cG ?_ ?_ ?_ ?_ <;>simp[*,b6,cF,cn,ct,ay,bY,cQ,I.only,I.b8,aq.only,e8,kz,b7]
    ·have hgi:jk l i=false:=by
      have:¬ (iK l (i-1)).aD<(iK l i).aD:=by have:=of_decide_eq_true q;omega
      simp[jk,this,aR]
     rw[hbad hgi];have R:=y6 @hc (y6 @he (y6 @hz (y6 @hw1 (y6 @he1 (y6 @q (y6 @hw (y6 @hbs (y6 @hap (y6 @bE (y6 @eU (y6 @aZ (y6 @bw (y6 @bl (y6 @bj az))))))))))))))
     repeat' ((first |(with_reducible refine .guard (fun hb =>?_) (fun hb =>?_) <;>try simp only[hb])|refine ae.aB (by decide +kernel) rfl fun K hK =>?_|refine .lead _ (hF) ?_|(refine .au [0,1,4,5,6,7,8,9,10,11,12,13,14,39,47] hK ?_;clear hK K)|(with_reducible refine .done (hK _ ?_);clear hK K)|refine ae.of rfl ?_|(with_reducible refine av.aA (fun h =>?_) (fun h =>?_) <;>try simp only[h])) <;>try simp only[aC,R,simprocAttr])
     all_goals clear R
     rfl
 ·have hge:i=l.length:=by omega
  have hc:=fR hlt;have hx2:xs=nW l:=by rw[hxs,hge,zv5]
  have hgood:td l=true:=zx5.2 fun j hj=>hg j (by have:=zv8.1 hj;omega);have hB:=qM b;simp only[kL,hgood,if_true,←hx2];rw[hge];rw[hge] at hc;rcases q:dJ 1 9999 b
  ·rw[q] at hB;have R:=y6 @hc (y6 @C1 (y6 @bE (y6 @aZ (y6 @bw (y6 @bl (y6 @bj az))))))
   repeat' ((first |(with_reducible refine .guard (fun hb =>?_) (fun hb =>?_) <;>try simp only[hb])|refine ae.aB (by decide +kernel) rfl fun K hK =>?_|refine .flat _ (hB) rfl ?_|(refine .au [0,1,4,5,6,7,8,9,10,11,12,13,14,39,47] hK ?_;clear hK K)|(with_reducible refine .done (hK _ ?_);clear hK K)|refine ae.of rfl ?_|(with_reducible refine av.aA (fun h =>?_) (fun h =>?_) <;>try simp only[h])) <;>try simp only[aC,R,simprocAttr])
   all_goals clear R
   rfl
  ·rw[q] at hB;have R:=y6 @hc (y6 @C1 (y6 @bE (y6 @aZ (y6 @bw (y6 @bl (y6 @bj az))))))
   repeat' ((first |(with_reducible refine .guard (fun hb =>?_) (fun hb =>?_) <;>try simp only[hb])|refine ae.aB (by decide +kernel) rfl fun K hK =>?_|refine .flat _ (hB) rfl ?_|(refine .au [0,1,4,5,6,7,8,9,10,11,12,13,14,39,47] hK ?_;clear hK K)|(with_reducible refine .done (hK _ ?_);clear hK K)|refine ae.of rfl ?_|(with_reducible refine av.aA (fun h =>?_) (fun h =>?_) <;>try simp only[h])) <;>try simp only[aC,R,simprocAttr])
   all_goals clear R
def vx(l:List bI)(b:Int):List Int×Int:=(((kL l b).1.filter fun s=>decide (b∈s.here)).map (·.aD),(kL l b).2)
theorem JG(l:List bI)(b:Int):(kL l b).1.length≤6:=by
 simp only[kL];split
 ·rename_i hg;split
  ·have J:=DY (l:=l) (n:=l.length) fun j hj=>zx5.1 hg j (zv8.2 hj);exact zu0 (HU l) J
  ·simp
 ·simp
def qG(all:List aI)(b:Int):List Int:=(all.filter fun s=>decide (b∈s.here)).map (·.aD)
theorem aeq(all:List aI)(b:Int){i:Nat}(h:i<all.length):qG (all.take (i+1)) b=qG (all.take i) b++if b∈all[i].here then [all[i].aD] else []:=by
 rw[zy0 h];simp only[qG,List.filter_append,zy5,List.filter_cons,List.filter_nil,decide_eq_true_eq]
 congr 1
 split <;>rfl
def vS(all:List aI)(e b:Int)(t:Nat×List Int):ai :=
 aw [(1,.int .i64 b),(7,.int .i64 e),(8,.own 905 t.2.length),(17,enc all),(18,.int .i64 all.length),(19,.int .i64 t.1)] [(905,.bV 3 1 (t.2.map enc))]
theorem tM{xs:List Int} : kl xs.length (some (.bV 3 1 (xs.map enc)))=some (enc xs):=ot 1 rfl rfl
theorem IN(l:List bI)(b:Int):bd Tryz.prog 37 [enc l,enc b] (.tuple [enc (vx l b).1,enc (vx l b).2]):=by
 refine bd.b5 Tryz.func37 K7 Mf NC (t7 rfl) (fun hwf W0 bH E1 =>?_);simp only[c37,Gt,bM,zz4];clear hwf;have hF:=Ji l b;have hal:=JG l b;simp only[vx];generalize (kL l b).1=all at *;generalize (kL l b).2=e at *;have R:=y6 @bE (y6 @aZ (y6 @bw (y6 @bl (y6 @bj az))))
 repeat' ((first |refine ae.aB (by decide +kernel) rfl fun K hK =>?_|refine .lead _ (hF) ?_|(refine .au [0,1,4,5,6,7,8,10,17,18,19,20,28] hK ?_;clear hK K)|(with_reducible refine .done (hK _ ?_);clear hK K)|refine ae.of rfl ?_|(with_reducible refine av.aA (fun h =>?_) (fun h =>?_) <;>try simp only[h])) <;>try simp only[aC,R,simprocAttr])
 all_goals clear R
 refine ae.loop (vS all e b) (fun t=>t.1≤all.length∧t.2=qG (all.take t.1) b) (fun t=>all.length-t.1) (0,[]) ⟨zw1 _,rfl⟩ ?_ ?_
 ·refine bp.n5 8 905 3 1 1 rfl rfl ?_;simp only[vS];refine bp.cG ?_ ?_ ?_ ?_ <;>simp[b6,cF,cn,ct,ay,bY,cQ,I.only,I.b8,aq.only,b7]
  all_goals rfl
 rintro ⟨i,xs⟩ ⟨hi,hxs⟩;simp only at hi hxs;have hxl:xs.length≤i:=by
  rw[hxs,qG,zz6];refine zu0 (List.length_filter_le _ _) ?_;rw[zx2];omega
 simp only[vS];by_cases hlt:i<all.length
 ·have hc:=fK hlt;have he:=fun A=>eK (A:=A) 1 hlt rfl;have hw:=fg (i:=i) (by omega);have hsn:=aeq all b hlt;rw[←hxs] at hsn;obtain ⟨s,ab⟩:∃ s,s=all[i]:=⟨_,rfl⟩
  rw[←ab] at he hsn;simp only[Pp] at he;have hlk:=gK fh b s.here;rw[eP] at hlk;have hbs:eW 1 (some [.int .i64 s.aD])=some (enc [s.aD]):=h2 1 s.aD rfl;have hap:=fun (A:ai) d rest=>lD (A:=A) (d:=d) 3 1 8 905 (l:=xs.length) (es:=xs) (ys:=[s.aD]) (rest:=rest) rfl rfl (by simp) (by simp[maxLen];omega) (by simp;omega);rcases q:decide (b∈s.here)
  ·have bz:b∉s.here:=of_decide_eq_false q;rw[if_neg bz,zw4] at hsn;have R:=y6 @hc (y6 @he (y6 @hw (y6 @hlk (y6 @q (y6 @eU (y6 @bE (y6 @aZ (y6 @bw (y6 @bl (y6 @bj az))))))))))
   repeat' ((first |refine ae.aB (by decide +kernel) rfl fun K hK =>?_|(refine .au [0,1,4,5,6,7,8,10,17,18,19,20,28] hK ?_;clear hK K)|(with_reducible refine .done (hK _ ?_);clear hK K)|refine ae.of rfl ?_|(with_reducible refine av.aA (fun h =>?_) (fun h =>?_) <;>try simp only[h])) <;>try simp only[aC,R,simprocAttr])
   all_goals clear R
   refine ⟨(i+1,xs),⟨by simp only;omega,hsn.symm⟩,by simp only;omega,?_⟩;simp only;clear hxs hsn;refine bp.cG ?_ ?_ ?_ ?_ <;>simp[b6,cF,cn,ct,ay,bY,cQ,I.only,aq.only,e8,b7]
  ·have bz:b∈s.here:=of_decide_eq_true q;rw[if_pos bz] at hsn;have R:=y6 @hc (y6 @he (y6 @hw (y6 @hlk (y6 @q (y6 @hbs (y6 @hap (y6 @eU (y6 @bE (y6 @aZ (y6 @bw (y6 @bl (y6 @bj az))))))))))))
   repeat' ((first |refine ae.aB (by decide +kernel) rfl fun K hK =>?_|(refine .au [0,1,4,5,6,7,8,10,17,18,19,20,28] hK ?_;clear hK K)|(with_reducible refine .done (hK _ ?_);clear hK K)|refine ae.of rfl ?_|(with_reducible refine av.aA (fun h =>?_) (fun h =>?_) <;>try simp only[h])) <;>try simp only[aC,R,simprocAttr])
   all_goals clear R
   refine ⟨(i+1,xs++[s.aD]),⟨by simp only;omega,hsn.symm⟩,by simp only;omega,?_⟩;simp only;clear hxs hsn;refine bp.cG ?_ ?_ ?_ ?_ <;>simp[b6,cF,cn,ct,ay,bY,cQ,I.only,I.b8,aq.only,e8,kz,b7,eP]
 ·have hge:i=all.length:=by omega
  have hc:=fR hlt;have hx2:xs=qG all b:=by rw[hxs,hge,zv5]
  rw[show ((all.filter fun s=>decide (b∈s.here)).map (·.aD))=xs from hx2.symm];have R:=y6 @hc (y6 @tM (y6 @bE (y6 @aZ (y6 @bw (y6 @bl (y6 @bj az))))))
  repeat' ((first |refine ae.aB (by decide +kernel) rfl fun K hK =>?_|(refine .au [0,1,4,5,6,7,8,10,17,18,19,20,28] hK ?_;clear hK K)|(with_reducible refine .done (hK _ ?_);clear hK K)|refine ae.of rfl ?_|(with_reducible refine av.aA (fun h =>?_) (fun h =>?_) <;>try simp only[h])) <;>try simp only[aC,R,simprocAttr])
  all_goals clear R
def lj:aG:=⟨⟨#[32]⟩⟩
def nB:aG:=⟨⟨#[10]⟩⟩
def gP(a b:aG):aG:=⟨a.b++b.b⟩
theorem pD(a b:aG):(gP a b).b.size=a.b.size+b.b.size:=by simp[gP]
theorem nh(a b:aG)(h:a.b.size+b.b.size≤9223372036854775807):cu .add (.bm a.b) (.bm b.b)=some (.bm (gP a b).b):=by
 simp only[cu,if_pos h,gP]
theorem ue{n:Int}(h:IntKind.i64.min≤n∧n≤IntKind.i64.max):(gI n).b.size≤21:=by
 have:=Lib.itoa_length_le n h.1 h.2
 show (Lib.itoa n).toArray.size≤21
 simpa using this
def gp(w:aG)(l:List Int)(i:Nat):aG:=(l.take i).foldl (fun a n=>gP a (gP lj (gI n))) w
def jv(w:aG)(l:List Int):aG:=gP (gp w l l.length) nB
theorem vb(w:aG){l:List Int}{i:Nat}(h:i<l.length):gp w l (i+1)=gP (gp w l i) (gP lj (gI l[i])):=by
 simp only[gp,zy0 h,List.foldl_append,List.foldl_cons,List.foldl_nil]
theorem u9(w:aG){l:List Int}(ao:∀ x∈l,IntKind.i64.min≤x∧x≤IntKind.i64.max):∀ i,i≤l.length→(gp w l i).b.size≤w.b.size+22*i
 |0,_=>by simp[gp]
 |i+1,h=>by
  have J:=u9 w ao i (by omega);have U:=ue (ao l[i] (zw7 _));rw[vb w (by omega),pD,pD];have af:lj.b.size=1:=rfl;omega
theorem vJ(w:aG)(l:List Int)(hb:w.b.size+22*l.length≤1000000000000):bd Tryz.prog 93 [enc w,enc l] (enc (jv w l)):=by
 refine bd.b5 Tryz.func93 Lz MG N5 (t7 rfl) (fun hwf W0 bH E1 =>?_);simp only[BG,GW,bM,zz4];have hlen:l.length≤maxLen:=((kI l).1 hwf.2.1).1;have hwl:∀ x∈l,IntKind.i64.min≤x∧x≤IntKind.i64.max:=fun x hx=>((kI l).1 hwf.2.1).2 x hx;simp only[maxLen] at hlen;have ab:=u9 w hwl;refine .fT (by decide +kernel) fun K hK =>?_;simp only[DE,bF,simprocAttr];refine .done (hK _ ?_);clear hK K;refine ae.seq ?_;refine .fT (by decide +kernel) fun K hK =>?_;simp only[DF,bF,simprocAttr]
 try simp only[kH,bF,simprocAttr]
 refine .done (hK _ ?_);clear hK K;refine ae.block (ae.loop (fun i:Nat=>aw [(0,enc (gp w l i)),(7,enc l),(8,.int .i64 l.length),(9,.int .i64 i)] []) (fun i=>i≤l.length) (fun i=>l.length-i) 0 (zw1 _) ?_ (fun i hi =>?_))
 ·refine bp.cG ?_ ?_ ?_ ?_ <;>simp[b6,cF,cn,ct,bY,I.only,b7]
  all_goals rfl
 ·refine .fT (by decide +kernel) fun K hK =>?_;simp only[DG,bF,simprocAttr];refine .done (hK _ ?_);clear hK K;refine ae.seq ?_;refine ae.jZ ?_;simp only[av,bF,simprocAttr];refine ⟨fun h =>?_,fun h =>?_⟩
  ·have hlt:i<l.length:=by simpa using h
   refine ae.skip ?_;try simp only[ej,simprocAttr]
   refine ae.seq (ae.block ?_);refine .fT (by decide +kernel) fun K hK =>?_;simp only[DH,bF,simprocAttr]
   try simp only[eK 1 hlt rfl,bF,simprocAttr]
   refine .done (hK _ ?_);clear hK K;refine .j5 (by decide +kernel) fun K hK =>?_;simp only[DI,bF,simprocAttr];refine .flat _ (vG l[i]) rfl ?_;have J:=ue (hwl l[i] (zw7 _));have U:=ab i hi;have af:lj.b.size=1:=rfl
   try simp only[show (I.bm ⟨#[32]⟩)=I.bm lj.b from rfl,show (enc (gI l[i]):I)=.bm (gI l[i]).b from rfl,show (enc (gp w l i):I)=.bm (gp w l i).b from rfl,nh lj (gI l[i]) (by omega),nh (gp w l i) (gP lj (gI l[i])) (by rw[pD];omega),bF,simprocAttr]
   refine .done (hK _ ?_);clear hK K;try simp only[ej,jF]
   refine .j5 (by decide +kernel) fun K hK =>?_;simp only[DJ,bF,simprocAttr];refine .done (hK _ ?_);clear hK K;try simp only[ej]
   refine ⟨i+1,by omega,by omega,?_⟩;rw[iy _ (by omega) (by omega),vb w hlt];refine bp.cG ?_ ?_ ?_ ?_ <;>simp[b6,cF,cn,ct,bY,I.only,b7]
   all_goals rfl
  ·have hge:i=l.length:=by simp at h;omega
   subst hge;refine ae.exit ?_;try simp only[ej,jF,simprocAttr]
   have U:=ab l.length (zz3 _);have af:nB.b.size=1:=rfl;refine .fT (by decide +kernel) fun K hK =>?_;simp only[DK,bF,simprocAttr]
   try simp only[show (I.bm ⟨#[10]⟩)=I.bm nB.b from rfl,show (enc (gp w l l.length):I)=.bm (gp w l l.length).b from rfl,nh (gp w l l.length) nB (by omega),bF,simprocAttr]
   refine .done (hK _ ?_);clear hK K;refine ae.ret ?_;simp only[bF,simprocAttr];rfl
def dU:List aG:=[⟨⟨#[]⟩⟩,⟨⟨#[112,111,117,110,100]⟩⟩,⟨⟨#[114,101,108,101,97,115,101]⟩⟩,⟨⟨#[115,101,110,100]⟩⟩,⟨⟨#[99,97,108,108]⟩⟩,⟨⟨#[100,111,110,101]⟩⟩,⟨⟨#[98,97,99,107]⟩⟩,⟨⟨#[116,97,107,101]⟩⟩,⟨⟨#[114,101,102,117,115,101]⟩⟩]
theorem AM:eW 1 (some [I.bm ⟨#[]⟩,I.bm ⟨#[112,111,117,110,100]⟩,I.bm ⟨#[114,101,108,101,97,115,101]⟩,I.bm ⟨#[115,101,110,100]⟩,I.bm ⟨#[99,97,108,108]⟩,I.bm ⟨#[100,111,110,101]⟩,I.bm ⟨#[98,97,99,107]⟩,I.bm ⟨#[116,97,107,101]⟩,I.bm ⟨#[114,101,102,117,115,101]⟩])=some (enc dU):=by
 have h:eW 1 (some (dU.map (enc (α:=aG))))=some (enc dU):=by
  simp only[eW];rw[if_pos ⟨by simp[Enc.size];exact fun _ _=>rfl,ji _⟩];rfl
 exact h
theorem iz:bd Tryz.prog 94 [] (enc dU):=by
 refine bd.b5 Tryz.func94 LA MH N6 (t7 rfl) (fun hwf W0 bH E1 =>?_);simp only[BH,GX,bM];have R:=y6 @AM az
 repeat' ((first |refine ae.aB (by decide +kernel) rfl fun K hK =>?_|(refine .au [0] hK ?_;clear hK K)|(with_reducible refine .done (hK _ ?_);clear hK K)|refine ae.of rfl ?_|(with_reducible refine av.aA (fun h =>?_) (fun h =>?_) <;>try simp only[h])) <;>try simp only[aC,R,simprocAttr])
 all_goals clear R
 all_goals rfl
def c6:aG:=⟨⟨#[]⟩⟩
def fS:aG:=⟨⟨#[112,111,117,110,100]⟩⟩
def fo(k:Int):aG:=dU.getD k.toNat c6
def gJ(x:bn):aG:=if x.kind≤2 then jv (fo x.kind) [x.aL] else jv (fo x.kind) [x.aL,x.other,x.no]
def hJ(p:bI)(i:Nat):aG:=(p.j.take i).foldl (fun a x=>gP a (gJ x)) (jv fS [p.aD,p.di])
def kY(p:bI):aG×Int:=match dD p with
 |none=>(c6,91)
 |some _=>(hJ p p.j.length,0)
theorem vy(k:Int):(fo k).b.size≤7:=by
 have h:∀ x∈dU,x.b.size≤7:=by decide
 simp only[fo,zz1];cases hk:dU[k.toNat]? with
 |none=>exact zw1 _
 |some x=>exact h x (List.mem_of_getElem? hk)
theorem zg(w:aG){l:List Int}(ao:∀ x∈l,IntKind.i64.min≤x∧x≤IntKind.i64.max):(jv w l).b.size≤w.b.size+22*l.length+1:=by
 have:=u9 w ao l.length (zz3 _);rw[jv,pD];have:nB.b.size=1:=rfl;omega
theorem xO{n:Int}(h:-100000≤n∧n≤100000):IntKind.i64.min≤n∧n≤IntKind.i64.max:=by
 have J:IntKind.i64.min=-9223372036854775808:=by decide
 have U:IntKind.i64.max=9223372036854775807:=by decide
 omega
theorem ql{x:bn}(h:fZ x=true):(1≤x.kind∧x.kind≤8)∧(1≤x.aL∧x.aL≤9999)∧(0≤x.other∧x.other≤5)∧(0≤x.no∧x.no≤200):=by
 simp only[fZ,dJ] at h;split at h
 ·simp only[zz0,decide_eq_true_eq,beq_iff_eq] at h;omega
 ·split at h
  ·simp only[zz0,decide_eq_true_eq] at h;omega
  ·cases h
theorem x4{x:bn}(h:fZ x=true):(gJ x).b.size≤74:=by
 obtain ⟨_,U,af,ar⟩:=ql h;have hw:=vy x.kind;simp only[gJ];split
 ·have:=zg (fo x.kind) (l:=[x.aL]) (by simp only[zx1,forall_eq];exact xO (by omega));simp only[zx8,List.length_nil] at this;omega
 ·have:=zg (fo x.kind) (l:=[x.aL,x.other,x.no]) (by
   intro y hy;simp only[zx3,List.not_mem_nil,or_false] at hy;rcases hy with rfl | rfl | rfl <;>exact xO (by omega))
  simp only[zx8,List.length_nil] at this;omega
theorem Hv:∀ {l:List bn} {s s':aI},gA s l=some s'→∀ x∈l,fZ x=true
 | [],_,_,_,x,hx=>by cases hx
 |y::l,s,s',h,x,hx=>by
  simp only[gA] at h;cases hy:gW s y with
  |none=>rw[hy] at h;cases h
  |some s2 =>
   rw[hy] at h;rcases zx3.1 hx with rfl | hx
   ·simp only[gW] at hy;split at hy
    ·assumption
    ·cases hy
   ·exact Hv h x hx
theorem uJ{p:bI}{s:aI}(h:dD p=some s):∀ x∈p.j,fZ x=true:=Hv (iJ h).2.2.2.2.2
theorem uQ(p:bI){i:Nat}(h:i<p.j.length):hJ p (i+1)=gP (hJ p i) (gJ p.j[i]):=by
 simp only[hJ,zy0 h,List.foldl_append,List.foldl_cons,List.foldl_nil]
theorem yS{p:bI}{s:aI}(ho:dD p=some s):∀ i,i≤p.j.length→(hJ p i).b.size≤50+74*i
 |0,_=>by
  have h5:=(iJ ho).2.2.2.2.1;have ar:=(iJ ho).2.2.2.1;simp only[iG,dJ,zz0,decide_eq_true_eq] at h5;have:=zg fS (l:=[p.aD,p.di]) (by
   intro y hy;simp only[zx3,List.not_mem_nil,or_false] at hy;rcases hy with rfl | rfl <;>exact xO (by omega))
  have hp:fS.b.size=5:=rfl;simp only[zx8,List.length_nil] at this
  show (jv fS [p.aD,p.di]).b.size≤_
  omega
 |i+1,h=>by
  have J:=yS ho i (by omega);have U:=x4 (uJ ho p.j[i] (zw7 _));rw[uQ p (by omega),pD];omega
theorem tq(a:Int):eW 1 (some [.int .i64 a])=some (enc [a]):=qV (ys:=[a]) 1 rfl
theorem AN(a b:Int):eW 1 (some [.int .i64 a,.int .i64 b])=some (enc [a,b]):=qV (ys:=[a,b]) 1 rfl
theorem AO(a b c:Int):eW 1 (some [.int .i64 a,.int .i64 b,.int .i64 c])=some (enc [a,b,c]):=qV (ys:=[a,b,c]) 1 rfl
theorem El{k:Int}(h:1≤k∧k≤8)(A:ai):fi A 1 k (enc dU)=some (.ref (enc (fo k))):=by
 have hk:k.toNat<dU.length:=by show k.toNat<9;omega
 have:=eK (A:=A) (l:=dU) (k:=k.toNat) 1 hk rfl;have e:((k.toNat:Nat):Int)=k:=by omega
 rw[e] at this;rw[this];simp[fo,zz1,hk]
def Ao(p:bI)(i:Nat):ai :=
 aw [(1,.ptr 1 []),(5,enc (hJ p i)),(20,enc p.j),(21,.int .i64 p.j.length),(22,.int .i64 i)] [(1,.box (enc p))]
theorem Ac(p:bI):bd Tryz.prog 53 [enc p] (.tuple [enc (kY p).1,enc (kY p).2]):=by
 refine bd.b5 Tryz.func53 Lb Mj NH (t7 rfl) (fun hwf W0 bH E1 =>?_);simp only[c53,Gx,bM];clear hwf;have hF:=sT p;simp only[iB] at hF;simp only[kY];have e0:(I.bm ⟨#[]⟩)=enc c6:=rfl;have e1:(I.bm ⟨#[112,111,117,110,100]⟩)=enc fS:=rfl;cases ho:dD p with
 |none =>
  rw[ho] at hF;have R:=y6 @bE (y6 @aZ (y6 @bw (y6 @bl (y6 @bj az))))
  repeat' ((first |refine ae.aB (by decide +kernel) rfl fun K hK =>?_|refine .lead _ (hF) ?_|(refine .au [0,1,2,3,4,5,7,11,20,21,22,23,28] hK ?_;clear hK K)|(with_reducible refine .done (hK _ ?_);clear hK K)|refine ae.of rfl ?_|(with_reducible refine av.aA (fun h =>?_) (fun h =>?_) <;>try simp only[h])) <;>try simp only[aC,R,simprocAttr])
  all_goals clear R
  all_goals rfl
 |some s =>
  have hjl:=(iJ ho).2.2.2.1;have hok:=uJ ho;have hsz:=yS ho;have hp:fS.b.size=5:=rfl;have hR:=vJ fS [p.aD,p.di] (by simp[hp]);rw[ho] at hF;have R:=y6 @AN (y6 @bE (y6 @aZ (y6 @bw (y6 @bl (y6 @bj az)))))
  repeat' ((first |refine ae.aB (by decide +kernel) rfl fun K hK =>?_|refine .lead _ (hF) ?_|refine .flat _ (hR) rfl ?_|(refine .au [0,1,2,3,4,5,7,11,20,21,22,23,28] hK ?_;clear hK K)|(with_reducible refine .done (hK _ ?_);clear hK K)|refine ae.of rfl ?_|(with_reducible refine av.aA (fun h =>?_) (fun h =>?_) <;>try simp only[h])) <;>try simp only[aC,R,simprocAttr])
  all_goals clear R
  refine ae.loop (Ao p) (fun i=>i≤p.j.length) (fun i=>p.j.length-i) 0 (zw1 _) ?_ ?_
  ·refine bp.cG ?_ ?_ ?_ ?_ <;>simp[b6,cF,cn,ct,ay,bY,cQ,I.only,aq.only,b7]
   all_goals rfl
  intro i hi;simp only[Ao];have hsi:=hsz i hi;by_cases hlt:i<p.j.length
  ·have hc:=fK hlt;have he:=fun A=>eK (A:=A) 4 hlt rfl;have hw:=fg (i:=i) (by omega);have hst:∀ A rest b,c7 A (some 4) 7 [] b (enc p.j[i]) rest (some (.agg [.int .i64 0,.int .i64 0,.int .i64 0,.int .i64 0]))=aE rest (A.aT 7 (.box (enc p.j[i]))):=fun A rest b=>dI (eF _) (by rw[fB];rfl) (eX _);have hoki:=hok p.j[i] (zw7 hlt);have hls:=x4 hoki;obtain ⟨hk,hk2⟩:=ql hoki;have hwd:=El hk;have hps:=uQ p hlt;have hww:=vy p.j[i].kind;generalize p.j[i]=x at *;have hadd:∀ l:aG,l.b.size≤74→cu .add (enc (hJ p i)) (enc l)=some (enc (gP (hJ p i) l)):=fun l h=>nh (hJ p i) l (by omega);rcases q:decide (x.kind≤2)
   ·have bz:¬ x.kind≤2:=of_decide_eq_false q;have ao:gJ x=jv (fo x.kind) [x.aL,x.other,x.no]:=by simp[gJ,bz]
    rw[ao] at hls hps;have hR2:=vJ (fo x.kind) [x.aL,x.other,x.no] (by simp;omega);have had:=hadd _ hls;have R:=y6 @hc (y6 @he (y6 @hw (y6 @hst (y6 @hwd (y6 @q (y6 @had (y6 @AO (y6 @bE (y6 @aZ (y6 @bw (y6 @bl (y6 @bj az))))))))))))
    repeat' ((first |refine ae.aB (by decide +kernel) rfl fun K hK =>?_|refine .lead _ (iz) ?_|refine .flat _ (hR2) rfl ?_|(refine .au [0,1,2,3,4,5,7,11,20,21,22,23,28] hK ?_;clear hK K)|(with_reducible refine .done (hK _ ?_);clear hK K)|refine ae.of rfl ?_|(with_reducible refine av.aA (fun h =>?_) (fun h =>?_) <;>try simp only[h])) <;>try simp only[aC,R,simprocAttr])
    all_goals clear R
    refine ⟨i+1,by omega,by omega,?_⟩;rw[hps];refine bp.cG ?_ ?_ ?_ ?_ <;>simp[b6,cF,cn,ct,ay,bY,cQ,I.only,aq.only,b7]
    all_goals rfl
   ·have bz:x.kind≤2:=of_decide_eq_true q;have ao:gJ x=jv (fo x.kind) [x.aL]:=by simp[gJ,bz]
    rw[ao] at hls hps;have hR2:=vJ (fo x.kind) [x.aL] (by simp;omega);have had:=hadd _ hls;have R:=y6 @hc (y6 @he (y6 @hw (y6 @hst (y6 @hwd (y6 @q (y6 @had (y6 @tq (y6 @bE (y6 @aZ (y6 @bw (y6 @bl (y6 @bj az))))))))))))
    repeat' ((first |refine ae.aB (by decide +kernel) rfl fun K hK =>?_|refine .lead _ (iz) ?_|refine .flat _ (hR2) rfl ?_|(refine .au [0,1,2,3,4,5,7,11,20,21,22,23,28] hK ?_;clear hK K)|(with_reducible refine .done (hK _ ?_);clear hK K)|refine ae.of rfl ?_|(with_reducible refine av.aA (fun h =>?_) (fun h =>?_) <;>try simp only[h])) <;>try simp only[aC,R,simprocAttr])
    all_goals clear R
    refine ⟨i+1,by omega,by omega,?_⟩;rw[hps];refine bp.cG ?_ ?_ ?_ ?_ <;>simp[b6,cF,cn,ct,ay,bY,cQ,I.only,aq.only,b7]
    all_goals rfl
  ·have hge:i=p.j.length:=by omega
   have hc:=fR hlt;subst hge;have R:=y6 @hc (y6 @bE (y6 @aZ (y6 @bw (y6 @bl (y6 @bj az)))))
   repeat' ((first |refine ae.aB (by decide +kernel) rfl fun K hK =>?_|(refine .au [0,1,2,3,4,5,7,11,20,21,22,23,28] hK ?_;clear hK K)|(with_reducible refine .done (hK _ ?_);clear hK K)|refine ae.of rfl ?_|(with_reducible refine av.aA (fun h =>?_) (fun h =>?_) <;>try simp only[h])) <;>try simp only[aC,R,simprocAttr])
   all_goals clear R
structure iA where
 kind:Int
 dw:Int
 no:Int
 aL:Int
 deriving DecidableEq,Inhabited
instance:Enc iA where
 enc g:=.agg [.int .i64 g.kind,.int .i64 g.dw,.int .i64 g.no,.int .i64 g.aL]
 sz:=4
 bg:=.db [.one,.one,.one,.one]
 ij:=true
 done g:=by simp only[I.done,I.iR,Bool.and_self]
 size g:=by simp only[I.size,I.sizes]
 jy g:=by simp only[I.bg,I.de]
 agg _:=rfl
structure cD where
 aD:Int
 here:List Int
 dO:Int
 bL:List dB
 bA:List iA
 deriving Inhabited
def gV(a:Int)(h:I)(s:Int)(r e:I):I:=.agg [.int .i64 a,h,.int .i64 s,r,e]
instance:Enc cD where
 enc g:=gV g.aD (enc g.here) g.dO (enc g.bL) (enc g.bA)
 sz:=5
 bg:=.db [.one,.one,.one,.one,.one]
 ij:=true
 done g:=by simp only[gV,I.done,I.iR,Enc.done,Bool.and_self]
 size g:=by simp only[gV,I.size,I.sizes,lN,kR]
 jy g:=by simp only[gV,I.bg,I.de,eX,oj]
 agg _:=rfl
theorem cO:(∀ g:cD,(enc g).ea=some [.int .i64 g.aD,enc g.here,.int .i64 g.dO,enc g.bL,enc g.bA])∧(∀ a h s r e,(gV a h s r e).ea=some [.int .i64 a,h,.int .i64 s,r,e])∧(∀ g:iA,(enc g).ea=some [.int .i64 g.kind,.int .i64 g.dw,.int .i64 g.no,.int .i64 g.aL]) ∧
  (∀ g:cD,ca (some 5) (enc g)=true)∧(∀ g:iA,ca (some 4) (enc g)=true)∧(∀ g:List Int,ca none (enc g)=true)∧(∀ g:List dB,ca none (enc g)=true)∧(∀ g:List iA,ca none (enc g)=true) ∧
  (∀ (a b:Int) (h:List Int) (r:List dB) (e:List iA) v,du [.int .i64 a,enc h,.int .i64 b,enc r,enc e] 0 0 v=some v)∧(∀ (a b:Int) (h:List Int) (r:List dB) (e:List iA) v,du [.int .i64 a,enc h,.int .i64 b,enc r,enc e] 1 1 v=some v)∧(∀ (a b:Int) (h:List Int) (r:List dB) (e:List iA) v,du [.int .i64 a,enc h,.int .i64 b,enc r,enc e] 2 2 v=some v) ∧
  (∀ (a b:Int) (h:List Int) (r:List dB) (e:List iA) v,du [.int .i64 a,enc h,.int .i64 b,enc r,enc e] 3 3 v=some v)∧(∀ (a b:Int) (h:List Int) (r:List dB) (e:List iA) v,du [.int .i64 a,enc h,.int .i64 b,enc r,enc e] 4 4 v=some v) ∧
  (∀ A n b rest (q:cD) x y,c7 A (some 5) n [] b (enc q) rest (some (.agg [.int .i64 x,.nils 1,.int .i64 y,.nils 4,.nils 4]))=aE rest (A.aT n (.box (enc q))))∧(∀ A n b rest (q r:cD),c7 A (some 5) n [] b (enc q) rest (some (enc r))=aE rest (A.aT n (.box (enc q)))) ∧
  (∀ A n b rest (q:dB) x y z w,c7 A (some 4) n [] b (enc q) rest (some (.agg [.int .i64 x,.int .i64 y,.int .i64 z,.bool w]))=aE rest (A.aT n (.box (enc q))))∧(∀ A n b rest (q:iA) x y z w,c7 A (some 4) n [] b (enc q) rest (some (.agg [.int .i64 x,.int .i64 y,.int .i64 z,.int .i64 w]))=aE rest (A.aT n (.box (enc q)))) ∧
  (∀ (A:ai) n (q:cD) (l k:List Int) rest,c7 A none n [1] (enc q) (enc l) rest (some (enc k))=aE rest (A.aT n (.box (enc ({ q with here:=l } : cD)))))∧(∀ (A:ai) n (q:cD) (v u:Int) rest,c7 A none n [2] (enc q) (.int .i64 v) rest (some (.int .i64 u))=aE rest (A.aT n (.box (enc ({ q with dO:=v } : cD))))) :=
 ⟨fun _=>rfl,fun _ _ _ _ _=>rfl,fun _=>rfl,fun _=>by rw[fB];rfl,fun _=>by rw[fB];rfl,fun _=>by simp[mq,mn],fun _=>by simp[mq,mn],fun _=>by simp[mq,mn],
  fun _ _ _ _ _ _=>ky (by simp) rfl,fun _ _ _ _ _ _=>ky (by simp) rfl,fun _ _ _ _ _ _=>ky (by simp) (by simp[I.sizes,I.size,lN,kR]),fun _ _ _ _ _ _=>ky (by simp) (by simp[I.sizes,I.size,lN,kR]),fun _ _ _ _ _ _=>ky (by simp) (by simp[I.sizes,I.size,lN,kR]),
  fun A n b rest q x y=>dI (eF _) (by rw[fB];rfl) (eX _),fun A n b rest q r=>dI (eF _) (by rw[fB];rfl) ((eX _).trans (eX _).symm),fun A n b rest q x y z w=>dI (eF _) (by rw[fB];rfl) (eX _),fun A n b rest q x y z w=>dI (eF _) (by rw[fB];rfl) (eX _),
  fun A n q l k rest=>dI (eF _) (by simp[mq,mn]) rfl,fun A n q v u rest=>dI rfl rfl rfl⟩
theorem Je(l:List Int)(n:Int):bd Tryz.prog 78 [enc l,enc n] (enc (decide (n∈l))):=by
 refine bd.b5 Tryz.func78 Lq My NW (t7 rfl) (fun hwf W0 bH E1 =>?_);simp only[BB,GN,bM,zz4];have hlen:l.length≤maxLen:=((kI l).1 hwf.1).1;simp only[maxLen] at hlen;clear hwf;have R:=y6 @aZ az
 repeat' ((first |refine ae.aB (by decide +kernel) rfl fun K hK =>?_|(refine .au [0,1,4,6,7,8,9,10,15] hK ?_;clear hK K)|(with_reducible refine .done (hK _ ?_);clear hK K)|refine ae.of rfl ?_|(with_reducible refine av.aA (fun h =>?_) (fun h =>?_) <;>try simp only[h])) <;>try simp only[aC,R,simprocAttr])
 all_goals clear R
 refine ae.loop (fun i:Nat=>aw [(1,.int .i64 n),(7,enc l),(8,.int .i64 l.length),(9,.int .i64 i)] []) (fun i=>i≤l.length∧n∉l.take i) (fun i=>l.length-i) 0 ⟨zw1 _,by simp⟩ ?_ (fun i hi =>?_)
 ·refine bp.cG ?_ ?_ ?_ ?_ <;>simp[b6,cF,cn,ct,bY,I.only,b7]
 obtain ⟨hi1,hi2⟩:=hi;by_cases hlt:i<l.length
 ·have hc:=fK hlt;have he:=fun A=>eK (A:=A) 1 hlt rfl;have hw:=fg (i:=i) (by omega);rcases hp:(l[i]==n)
  ·have R:=y6 @hc (y6 @he (y6 @hp (y6 @hw az)))
   repeat' ((first |refine ae.aB (by decide +kernel) rfl fun K hK =>?_|(refine .au [0,1,4,6,7,8,9,10,15] hK ?_;clear hK K)|(with_reducible refine .done (hK _ ?_);clear hK K)|refine ae.of rfl ?_|(with_reducible refine av.aA (fun h =>?_) (fun h =>?_) <;>try simp only[h])) <;>try simp only[aC,R,simprocAttr])
   all_goals clear R
   refine ⟨i+1,⟨by omega,?_⟩,by omega,?_⟩
   ·rw[zy0 hlt];have:¬ l[i]=n:=by simpa using hp
    simp only[zw0,zx1];exact fun h=>h.elim hi2 fun e=>this e.symm
   ·refine bp.cG ?_ ?_ ?_ ?_ <;>simp[b6,cF,cn,ct,bY,I.only,b7]
  ·have hm:n∈l:=by
    have:l[i]=n:=by simpa using hp
    rw[←this];exact zw7 hlt
   have R:=y6 @hc (y6 @he (y6 @hp az))
   repeat' ((first |refine ae.aB (by decide +kernel) rfl fun K hK =>?_|(refine .au [0,1,4,6,7,8,9,10,15] hK ?_;clear hK K)|(with_reducible refine .done (hK _ ?_);clear hK K)|refine ae.of rfl ?_|(with_reducible refine av.aA (fun h =>?_) (fun h =>?_) <;>try simp only[h])) <;>try simp only[aC,R,simprocAttr])
   all_goals clear R
   simp[hm]
 ·have hc:=fR hlt;have hge:i=l.length:=by omega
  have R:=y6 @hc az
  repeat' ((first |refine ae.aB (by decide +kernel) rfl fun K hK =>?_|(refine .au [0,1,4,6,7,8,9,10,15] hK ?_;clear hK K)|(with_reducible refine .done (hK _ ?_);clear hK K)|refine ae.of rfl ?_|(with_reducible refine av.aA (fun h =>?_) (fun h =>?_) <;>try simp only[h])) <;>try simp only[aC,R,simprocAttr])
  all_goals clear R
  rw[hge,zv5] at hi2;simp[hi2]
def jd(s:cD)(b:Int):Bool:=s.bL.any fun r=>decide (r.aL=b)
theorem vF(s:cD)(b:Int)(hlen:s.bL.length≤1000):bd Tryz.prog 108 [enc s,enc b] (enc (jd s b)):=by
 refine bd.b5 Tryz.func108 KM LW M7 (t7 rfl) (fun hwf W0 bH E1 =>?_);simp only[AZ,F0,bM,zz4];clear hwf;have R:=y6 @cO (y6 @aZ az)
 repeat' ((first |refine ae.aB (by decide +kernel) rfl fun K hK =>?_|(refine .au [0,1,2,4,6,8,9,10,11,17] hK ?_;clear hK K)|(with_reducible refine .done (hK _ ?_);clear hK K)|refine ae.of rfl ?_|(with_reducible refine av.aA (fun h =>?_) (fun h =>?_) <;>try simp only[h])) <;>try simp only[aC,R,simprocAttr])
 all_goals clear R
 refine ae.loop (fun i:Nat=>aw [(1,.int .i64 b),(2,.ptr 2 []),(8,enc s.bL),(9,.int .i64 s.bL.length),(10,.int .i64 i)] [(2,.box (enc s))]) (fun i=>i≤s.bL.length∧((s.bL.take i).any fun r=>decide (r.aL=b))=false) (fun i=>s.bL.length-i) 0 ⟨zw1 _,by simp⟩ ?_ (fun i hi =>?_)
 ·refine bp.cG ?_ ?_ ?_ ?_ <;>simp[b6,cF,cn,ct,ay,bY,cQ,I.only,aq.only,b7]
 obtain ⟨hi1,hi2⟩:=hi;by_cases hlt:i<s.bL.length
 ·have hc:=fK hlt;have he:=fun A=>eK (A:=A) 4 hlt rfl;have hw:=fg (i:=i) (by omega);rcases hp:((s.bL[i]).aL==b)
  ·have R:=y6 @hc (y6 @he (y6 @hp (y6 @hw (y6 @cO az))))
   repeat' ((first |refine ae.aB (by decide +kernel) rfl fun K hK =>?_|(refine .au [0,1,2,4,6,8,9,10,11,17] hK ?_;clear hK K)|(with_reducible refine .done (hK _ ?_);clear hK K)|refine ae.of rfl ?_|(with_reducible refine av.aA (fun h =>?_) (fun h =>?_) <;>try simp only[h])) <;>try simp only[aC,R,simprocAttr])
   all_goals clear R
   refine ⟨i+1,⟨by omega,?_⟩,by omega,?_⟩
   ·rw[zy0 hlt,List.any_append,hi2];have:¬ (s.bL[i]).aL=b:=by simpa using hp
    simp[this]
   ·refine bp.cG ?_ ?_ ?_ ?_ <;>simp[b6,cF,cn,ct,ay,bY,cQ,I.only,aq.only,b7]
  ·have hm:jd s b=true:=by
    have:(s.bL[i]).aL=b:=by simpa using hp
    simp only[jd,List.any_eq_true];exact ⟨s.bL[i],zw7 hlt,by simp[this]⟩
   rw[hm];have R:=y6 @hc (y6 @he (y6 @hp (y6 @cO az)))
   repeat' ((first |refine ae.aB (by decide +kernel) rfl fun K hK =>?_|(refine .au [0,1,2,4,6,8,9,10,11,17] hK ?_;clear hK K)|(with_reducible refine .done (hK _ ?_);clear hK K)|refine ae.of rfl ?_|(with_reducible refine av.aA (fun h =>?_) (fun h =>?_) <;>try simp only[h])) <;>try simp only[aC,R,simprocAttr])
   all_goals clear R
 ·have hc:=fR hlt;have hge:i=s.bL.length:=by omega
  rw[hge,zv5] at hi2;rw[show jd s b=false from hi2];have R:=y6 @hc (y6 @cO az)
  repeat' ((first |refine ae.aB (by decide +kernel) rfl fun K hK =>?_|(refine .au [0,1,2,4,6,8,9,10,11,17] hK ?_;clear hK K)|(with_reducible refine .done (hK _ ?_);clear hK K)|refine ae.of rfl ?_|(with_reducible refine av.aA (fun h =>?_) (fun h =>?_) <;>try simp only[h])) <;>try simp only[aC,R,simprocAttr])
  all_goals clear R
def j7(s:cD)(no:Int):Option Nat:=s.bL.findIdx? fun r=>decide (r.no=no)
def lf(s:cD)(no:Int):Int:=match j7 s no with
 |some i=>(i:Int)
 |none=>-1
theorem Jf(s:cD)(no:Int)(hlen:s.bL.length≤1000):bd Tryz.prog 79 [enc s,enc no] (enc (lf s no)):=by
 refine bd.b5 Tryz.func79 Lr Mz NX (t7 rfl) (fun hwf W0 bH E1 =>?_);simp only[BC,GO,bM,zz4];clear hwf;have R:=y6 @cO (y6 @aZ az)
 repeat' ((first |refine ae.aB (by decide +kernel) rfl fun K hK =>?_|(refine .au [0,1,2,4,5,6,8,9,10,11,18] hK ?_;clear hK K)|(with_reducible refine .done (hK _ ?_);clear hK K)|refine ae.of rfl ?_|(with_reducible refine av.aA (fun h =>?_) (fun h =>?_) <;>try simp only[h])) <;>try simp only[aC,R,simprocAttr])
 all_goals clear R
 refine ae.loop (fun i:Nat=>aw [(1,.int .i64 no),(2,.ptr 2 []),(8,enc s.bL),(9,.int .i64 s.bL.length),(10,.int .i64 i)] [(2,.box (enc s))]) (fun i=>i≤s.bL.length∧∀ k,k<i→∀ h:k<s.bL.length,(s.bL[k]).no≠no) (fun i=>s.bL.length-i) 0 ⟨zw1 _,fun k h=>by omega⟩ ?_ (fun i hi =>?_)
 ·refine bp.cG ?_ ?_ ?_ ?_ <;>simp[b6,cF,cn,ct,ay,bY,cQ,I.only,aq.only,b7]
 obtain ⟨hi1,hi2⟩:=hi;by_cases hlt:i<s.bL.length
 ·have hc:=fK hlt;have he:=fun A=>eK (A:=A) 4 hlt rfl;have hw:=fg (i:=i) (by omega);rcases hp:((s.bL[i]).no==no)
  ·have R:=y6 @hc (y6 @he (y6 @hp (y6 @hw (y6 @cO az))))
   repeat' ((first |refine ae.aB (by decide +kernel) rfl fun K hK =>?_|(refine .au [0,1,2,4,5,6,8,9,10,11,18] hK ?_;clear hK K)|(with_reducible refine .done (hK _ ?_);clear hK K)|refine ae.of rfl ?_|(with_reducible refine av.aA (fun h =>?_) (fun h =>?_) <;>try simp only[h])) <;>try simp only[aC,R,simprocAttr])
   all_goals clear R
   refine ⟨i+1,⟨by omega,fun k hk h =>?_⟩,by omega,?_⟩
   ·by_cases e:k=i
    ·subst e;simpa using hp
    ·exact hi2 k (by omega) h
   ·refine bp.cG ?_ ?_ ?_ ?_ <;>simp[b6,cF,cn,ct,ay,bY,cQ,I.only,aq.only,b7]
  ·have hm:j7 s no=some i:=by
    refine List.findIdx?_eq_some_iff_getElem.2 ⟨hlt,by simpa using hp,fun j hj =>?_⟩;simpa using hi2 j hj (by omega)
   rw[show lf s no=(i:Int) by simp[lf,hm]];have R:=y6 @hc (y6 @he (y6 @hp (y6 @cO az)))
   repeat' ((first |refine ae.aB (by decide +kernel) rfl fun K hK =>?_|(refine .au [0,1,2,4,5,6,8,9,10,11,18] hK ?_;clear hK K)|(with_reducible refine .done (hK _ ?_);clear hK K)|refine ae.of rfl ?_|(with_reducible refine av.aA (fun h =>?_) (fun h =>?_) <;>try simp only[h])) <;>try simp only[aC,R,simprocAttr])
   all_goals clear R
 ·have hc:=fR hlt;have hm:j7 s no=none:=by
   refine List.findIdx?_eq_none_iff.2 fun x hx =>?_;obtain ⟨k,hk,rfl⟩:=List.mem_iff_getElem.1 hx;simpa using hi2 k (by omega) hk
  rw[show lf s no=-1 by simp[lf,hm]];have R:=y6 @hc (y6 @cO az)
  repeat' ((first |refine ae.aB (by decide +kernel) rfl fun K hK =>?_|(refine .au [0,1,2,4,5,6,8,9,10,11,18] hK ?_;clear hK K)|(with_reducible refine .done (hK _ ?_);clear hK K)|refine ae.of rfl ?_|(with_reducible refine av.aA (fun h =>?_) (fun h =>?_) <;>try simp only[h])) <;>try simp only[aC,R,simprocAttr])
  all_goals clear R
def jM(s:cD)(dw no:Int):Int:=match s.bA.find? fun x=>decide (x.dw=dw∧x.no=no) with
 |some x=>x.kind
 |none=>0
theorem Ai(s:cD)(dw no:Int)(hlen:s.bA.length≤1000):bd Tryz.prog 88 [enc s,enc dw,enc no] (enc (jM s dw no)):=by
 refine bd.b5 Tryz.func88 Lw MD N2 (t7 rfl) (fun hwf W0 bH E1 =>?_);simp only[BE,GS,bM,zz4,Nat.reduceAdd];clear hwf;have R:=y6 @cO (y6 @aZ az)
 repeat' ((first |(with_reducible refine .guard (fun hb =>?_) (fun hb =>?_) <;>try simp only[hb])|refine ae.aB (by decide +kernel) rfl fun K hK =>?_|(refine .au [0,1,2,3,6,8,10,11,12,13,25] hK ?_;clear hK K)|(with_reducible refine .done (hK _ ?_);clear hK K)|refine ae.of rfl ?_|(with_reducible refine av.aA (fun h =>?_) (fun h =>?_) <;>try simp only[h])) <;>try simp only[aC,R,simprocAttr])
 all_goals clear R
 refine ae.loop (fun i:Nat=>aw [(1,.int .i64 dw),(2,.int .i64 no),(3,.ptr 3 []),(10,enc s.bA),(11,.int .i64 s.bA.length),(12,.int .i64 i)] [(3,.box (enc s))]) (fun i=>i≤s.bA.length∧((s.bA.take i).find? fun x=>decide (x.dw=dw∧x.no=no))=none) (fun i=>s.bA.length-i) 0 ⟨zw1 _,by simp⟩ ?_ (fun i hi =>?_)
 ·refine bp.cG ?_ ?_ ?_ ?_ <;>simp[b6,cF,cn,ct,ay,bY,cQ,I.only,aq.only,b7]
 obtain ⟨hi1,hi2⟩:=hi;by_cases hlt:i<s.bA.length
 ·have hc:=fK hlt;have he:=fun A=>eK (A:=A) 4 hlt rfl;have hw:=fg (i:=i) (by omega);have hst:(s.bA.take (i+1)).find? (fun x=>decide (x.dw=dw∧x.no=no))=if (s.bA[i]).dw=dw∧(s.bA[i]).no=no then some s.bA[i] else none:=by
   rw[zy0 hlt,List.find?_append,hi2];simp only[Option.none_or,List.find?_cons,List.find?_nil];by_cases h:(s.bA[i]).dw=dw∧(s.bA[i]).no=no
   ·simp[h]
   ·rw[decide_eq_false h,if_neg h]
  rcases hp:((s.bA[i]).dw==dw)
  ·have J:¬ (s.bA[i]).dw=dw:=by simpa using hp
   rw[if_neg (fun h=>J h.1)] at hst;have R:=y6 @hc (y6 @he (y6 @hp (y6 @hw (y6 @cO az))))
   repeat' ((first |(with_reducible refine .guard (fun hb =>?_) (fun hb =>?_) <;>try simp only[hb])|refine ae.aB (by decide +kernel) rfl fun K hK =>?_|(refine .au [0,1,2,3,6,8,10,11,12,13,25] hK ?_;clear hK K)|(with_reducible refine .done (hK _ ?_);clear hK K)|refine ae.of rfl ?_|(with_reducible refine av.aA (fun h =>?_) (fun h =>?_) <;>try simp only[h])) <;>try simp only[aC,R,simprocAttr])
   all_goals clear R
   refine ⟨i+1,⟨by omega,hst⟩,by omega,?_⟩;refine bp.cG ?_ ?_ ?_ ?_ <;>simp[b6,cF,cn,ct,ay,bY,cQ,I.only,aq.only,b7]
  ·have J:(s.bA[i]).dw=dw:=by simpa using hp
   rcases hp2:((s.bA[i]).no==no)
   ·have U:¬ (s.bA[i]).no=no:=by simpa using hp2
    rw[if_neg (fun h=>U h.2)] at hst;have R:=y6 @hc (y6 @he (y6 @hp (y6 @hp2 (y6 @hw (y6 @cO az)))))
    repeat' ((first |(with_reducible refine .guard (fun hb =>?_) (fun hb =>?_) <;>try simp only[hb])|refine ae.aB (by decide +kernel) rfl fun K hK =>?_|(refine .au [0,1,2,3,6,8,10,11,12,13,25] hK ?_;clear hK K)|(with_reducible refine .done (hK _ ?_);clear hK K)|refine ae.of rfl ?_|(with_reducible refine av.aA (fun h =>?_) (fun h =>?_) <;>try simp only[h])) <;>try simp only[aC,R,simprocAttr])
    all_goals clear R
    refine ⟨i+1,⟨by omega,hst⟩,by omega,?_⟩;refine bp.cG ?_ ?_ ?_ ?_ <;>simp[b6,cF,cn,ct,ay,bY,cQ,I.only,aq.only,b7]
   ·have U:(s.bA[i]).no=no:=by simpa using hp2
    rw[if_pos ⟨J,U⟩] at hst;have hk:jM s dw no=(s.bA[i]).kind:=by
     have:s.bA.find? (fun x=>decide (x.dw=dw∧x.no=no))=some s.bA[i]:=by
      have e:=congrArg (List.find? fun x=>decide (x.dw=dw∧x.no=no)) (zv0 (i+1) s.bA);rw[List.find?_append,hst,Option.some_or] at e;exact e.symm
     simp only[jM,this]
    rw[hk];have R:=y6 @hc (y6 @he (y6 @hp (y6 @hp2 (y6 @cO az))))
    repeat' ((first |(with_reducible refine .guard (fun hb =>?_) (fun hb =>?_) <;>try simp only[hb])|refine ae.aB (by decide +kernel) rfl fun K hK =>?_|(refine .au [0,1,2,3,6,8,10,11,12,13,25] hK ?_;clear hK K)|(with_reducible refine .done (hK _ ?_);clear hK K)|refine ae.of rfl ?_|(with_reducible refine av.aA (fun h =>?_) (fun h =>?_) <;>try simp only[h])) <;>try simp only[aC,R,simprocAttr])
    all_goals clear R
 ·have hc:=fR hlt;have hge:i=s.bA.length:=by omega
  rw[hge,zv5] at hi2;rw[show jM s dw no=0 by simp only[jM,hi2]];have R:=y6 @hc (y6 @cO az)
  repeat' ((first |(with_reducible refine .guard (fun hb =>?_) (fun hb =>?_) <;>try simp only[hb])|refine ae.aB (by decide +kernel) rfl fun K hK =>?_|(refine .au [0,1,2,3,6,8,10,11,12,13,25] hK ?_;clear hK K)|(with_reducible refine .done (hK _ ?_);clear hK K)|refine ae.of rfl ?_|(with_reducible refine av.aA (fun h =>?_) (fun h =>?_) <;>try simp only[h])) <;>try simp only[aC,R,simprocAttr])
  all_goals clear R
def iq(l:List Int)(n:Int):List Int:=l.filter fun x=>x != n
def vR(l:List Int)(n:Int)(t:Nat×List Int):ai:=aw [(1,.int .i64 n),(5,.own 905 t.2.length),(8,enc l),(9,.int .i64 l.length),(10,.int .i64 t.1)] [(905,.bV 3 1 (t.2.map enc))]
theorem zU(l:List Int)(n:Int)(hlen:l.length≤1000):bd Tryz.prog 110 [enc l,enc n] (enc (iq l n)):=by
 refine bd.b5 Tryz.func110 KO LY M9 (t7 rfl) (fun hwf W0 bH E1 =>?_);simp only[A2,F2,bM,zz4];clear hwf;have R:=y6 @aZ az
 repeat' ((first |refine ae.aB (by decide +kernel) rfl fun K hK =>?_|(refine .au [0,1,4,5,7,8,9,10,11,16] hK ?_;clear hK K)|(with_reducible refine .done (hK _ ?_);clear hK K)|refine ae.of rfl ?_|(with_reducible refine av.aA (fun h =>?_) (fun h =>?_) <;>try simp only[h])) <;>try simp only[aC,R,simprocAttr])
 all_goals clear R
 refine ae.loop (vR l n) (fun t=>t.1≤l.length∧t.2=iq (l.take t.1) n) (fun t=>l.length-t.1) (0,[]) ⟨zw1 _,rfl⟩ ?_ ?_
 ·refine bp.n5 5 905 3 1 1 rfl rfl ?_;simp only[vR];refine bp.cG ?_ ?_ ?_ ?_ <;>simp[b6,cF,cn,ct,ay,bY,cQ,I.only,I.b8,aq.only,b7]
 rintro ⟨i,xs⟩ ⟨hi,hxs⟩;simp only at hi hxs;have hxl:xs.length≤i:=by
  rw[hxs,iq];refine zu0 (List.length_filter_le _ _) ?_;rw[zx2];omega
 simp only[vR];by_cases hlt:i<l.length
 ·have hc:=fK hlt;have he:=fun A=>eK (A:=A) 1 hlt rfl;have hw:=fg (i:=i) (by omega);have hsn:iq (l.take (i+1)) n=xs++if l[i] != n then [l[i]] else []:=by
   rw[zy0 hlt,iq,List.filter_append,hxs];simp only[iq,List.filter_cons,List.filter_nil]
  obtain ⟨y,hy⟩:∃ y,y=l[i]:=⟨_,rfl⟩
  rw[←hy] at he hsn;have hbs:eW 1 (some [.int .i64 y])=some (enc [y]):=h2 1 y rfl;have hap:=fun (A:ai) d rest=>lD (A:=A) (d:=d) 3 1 8 905 (l:=xs.length) (es:=xs) (ys:=[y]) (rest:=rest) rfl rfl (by simp) (by simp[maxLen];omega) (by simp;omega);rcases q:(y != n)
  ·rw[q,if_neg (by decide),zw4] at hsn;have R:=y6 @hc (y6 @he (y6 @hw (y6 @q (y6 @aZ az))))
   repeat' ((first |refine ae.aB (by decide +kernel) rfl fun K hK =>?_|(refine .au [0,1,4,5,7,8,9,10,11,16] hK ?_;clear hK K)|(with_reducible refine .done (hK _ ?_);clear hK K)|refine ae.of rfl ?_|(with_reducible refine av.aA (fun h =>?_) (fun h =>?_) <;>try simp only[h])) <;>try simp only[aC,R,simprocAttr])
   all_goals clear R
   refine ⟨(i+1,xs),⟨by simp only;omega,hsn.symm⟩,by simp only;omega,?_⟩;simp only;clear hxs hsn;refine bp.cG ?_ ?_ ?_ ?_ <;>simp[b6,cF,cn,ct,ay,bY,cQ,I.only,aq.only,e8,b7]
  ·rw[q,if_pos rfl] at hsn;have R:=y6 @hc (y6 @he (y6 @hw (y6 @q (y6 @hbs (y6 @hap (y6 @aZ az))))))
   repeat' ((first |refine ae.aB (by decide +kernel) rfl fun K hK =>?_|(refine .au [0,1,4,5,7,8,9,10,11,16] hK ?_;clear hK K)|(with_reducible refine .done (hK _ ?_);clear hK K)|refine ae.of rfl ?_|(with_reducible refine av.aA (fun h =>?_) (fun h =>?_) <;>try simp only[h])) <;>try simp only[aC,R,simprocAttr])
   all_goals clear R
   refine ⟨(i+1,xs++[y]),⟨by simp only;omega,hsn.symm⟩,by simp only;omega,?_⟩;simp only;clear hxs hsn;refine bp.cG ?_ ?_ ?_ ?_ <;>simp[b6,cF,cn,ct,ay,bY,cQ,I.only,I.b8,aq.only,e8,kz,b7,eP]
 ·have hge:i=l.length:=by omega
  have hc:=fR hlt;have hx2:xs=iq l n:=by rw[hxs,hge,zv5]
  rw[←hx2];have R:=y6 @hc (y6 @tM (y6 @aZ az))
  repeat' ((first |refine ae.aB (by decide +kernel) rfl fun K hK =>?_|(refine .au [0,1,4,5,7,8,9,10,11,16] hK ?_;clear hK K)|(with_reducible refine .done (hK _ ?_);clear hK K)|refine ae.of rfl ?_|(with_reducible refine av.aA (fun h =>?_) (fun h =>?_) <;>try simp only[h])) <;>try simp only[aC,R,simprocAttr])
  all_goals clear R
section
variable {α:Type} [Enc α] {P:Program} {ab:List FuncId} {Y:Value→List I→List (Nat×aq)→cL→Prop} {K:ai→Prop} {rest:List aJ} {d e esz bytes:Nat}
def ly(esz:Nat)(v:I)(os:List (Nat×aq))(l:List α)(S:List Nat):Prop:=(l=[]∧v=.c0 esz)∨∃ n q,n∈S∧v=.view n [] esz 0 l.length∧ak os n=some (.box (.agg ((l++q).map enc)))
theorem JV{A:ai}{q:Nat}(z:I){l:List α}(hsz:Enc.sz α=esz)(ao:l≠[])(hf:A.o d=none)(hb:l.length*bytes≤140737488355328)(hml:l.length≤maxLen) :
  ∃ p:Nat→Prop,gf A (some d) e esz bytes z (enc l) rest (.c0 q)=.any p fun m=>aE rest ((A.aT d (.box (.agg (l.map enc++List.replicate m z)))).aW (some d) (.view d [] esz 0 l.length)):=by
 have hne:l.map (enc (α:=α))≠[]:=by simpa using ao
 have J:dX A esz (.c0 q)=some []:=rfl;refine ⟨fun m=>l.length+m≤maxLen,?_⟩;simp only[gf,J,nS A esz l hsz,fw,if_neg hne,gv,hf,List.length_nil,zz4,zz6,if_pos (y6 hb hml),List.nil_append]
theorem JU{A:ai}(z:I)(hsz:Enc.sz α=esz){n l:Nat}{xs ys:List α}(hy:ys≠[])(ho:A.o n=some (.box (.agg (xs.map enc))))(ao:l≤xs.length)(hr:xs.length<l+ys.length)(hf:A.o d=none)(hb:(l+ys.length)*bytes≤140737488355328)(hml:l+ys.length≤maxLen) :
  ∃ p:Nat→Prop,gf A (some d) e esz bytes z (enc ys) rest (.view n [] esz 0 l)=.any p fun m=>aE rest ((A.aT d (.box (.agg ((xs.take l).map enc++(ys.map enc++List.replicate m z))))).aW (some d) (.view d [] esz 0 (l+ys.length))):=by
 have J:=vh (A:=A) (esz:=esz) (lo:=0) (k:=l) ho (by omega);have U:(I.agg (xs.map (enc (α:=α)))).at []=some (.agg (xs.map enc)):=rfl;have ar:(xs.take l).length=l:=by rw[zx2];omega
 refine ⟨fun m=>l+ys.length+m≤maxLen,?_⟩;simp only[gf,J,List.drop_zero,nS A esz ys hsz,fw];rw[if_neg (by simpa using hy)];simp only[ho,U,zz6,zz4];rw[if_neg (by omega)];simp only[gv,hf,zz6,ar];rw[if_pos ⟨hb,hml⟩]
theorem DZ(z:α){ts:List (Nat×I)}{os:List (Nat×aq)}{v:I}{l ys:List α}{S:List Nat}(hsz:Enc.sz α=esz)(hg:ly esz v os l S)(hf:ak os d=none)(hb:(l.length+ys.length)*bytes≤140737488355328)(hml:l.length+ys.length≤maxLen) :
  (∃ v' os',gf (aw ts os) (some d) e esz bytes (enc z) (enc ys) rest v=aE rest (aw ((d,v')::ts) os')∧ly esz v' os' (l++ys) (d::S)∧∀ m,m∉d::S→ak os' m=ak os m) ∨
  (∃ p,∃ v':Nat→I,∃ os':Nat→List (Nat×aq),gf (aw ts os) (some d) e esz bytes (enc z) (enc ys) rest v=.any p (fun m=>aE rest (aw ((d,v' m)::ts) (os' m)))∧∀ k,ly esz (v' k) (os' k) (l++ys) (d::S)∧∀ m,m∉d::S→ak (os' k) m=ak os m):=by
 by_cases hy:ys=[]
 ·subst hy;rw[zw4];rcases hg with ⟨rfl,rfl⟩ | ⟨n,q,hn,rfl,ho⟩
  ·exact .inl ⟨.c0 esz,os,JW _ hsz,.inl ⟨rfl,rfl⟩,fun _ _=>rfl⟩
  ·refine .inl ⟨_,os,?_,.inr ⟨n,q,List.mem_cons_of_mem _ hn,rfl,ho⟩,fun _ _=>rfl⟩;have J:=vh (A:=aw ts os) (esz:=esz) (lo:=0) (k:=l.length) ho (by simp);simp only[gf,J,nS _ esz ([]:List α) hsz,fw,zx7,if_true];rfl
 ·rcases hg with ⟨rfl,rfl⟩ | ⟨n,q,hn,rfl,ho⟩
  ·obtain ⟨p,J⟩:=JV (A:=aw ts os) (rest:=rest) (e:=e) (q:=esz) (enc z) hsz hy hf (by simpa using hb) (by simpa using hml);refine .inr ⟨p,fun m=>.view d [] esz 0 ys.length,fun m=>(d,.box (.agg (ys.map enc++List.replicate m (enc z))))::os,J,fun k=>⟨.inr ⟨d,List.replicate k z,List.mem_cons_self,by simp,?_⟩,fun m hm =>?_⟩⟩
   ·simp[ak]
   ·rw[cQ,if_neg (fun h=>by rw[h] at hm;exact hm List.mem_cons_self)]
  ·by_cases hr:l.length+ys.length≤(l++q).length
   ·have J:=Ax (A:=aw ts os) (rest:=rest) (d:=some d) (e:=e) (bytes:=bytes) (esz:=esz) (enc z) hsz hy ho hr;have e1:(l++q).take l.length++(ys++(l++q).drop (l.length+ys.length))=(l++ys)++q.drop ys.length:=by simp[List.drop_append]
    rw[e1] at J;refine .inl ⟨_,(n,.box (.agg (((l++ys)++q.drop ys.length).map enc)))::os,J,.inr ⟨n,q.drop ys.length,List.mem_cons_of_mem _ hn,by simp,by simp[ak]⟩,fun m hm =>?_⟩;rw[cQ,if_neg (fun h=>by rw[h] at hm;exact hm (List.mem_cons_of_mem _ hn))]
   ·obtain ⟨p,J⟩:=JU (A:=aw ts os) (rest:=rest) (d:=d) (e:=e) (bytes:=bytes) (esz:=esz) (enc z) hsz hy ho (by simp) (by omega) hf hb hml;refine .inr ⟨p,fun m=>.view d [] esz 0 (l.length+ys.length),fun m=>(d,.box (.agg (((l++q).take l.length).map enc++(ys.map enc++List.replicate m (enc z)))))::os,J,fun k=>⟨.inr ⟨d,List.replicate k z,List.mem_cons_self,by simp,?_⟩,fun m hm =>?_⟩⟩
    ·simp[ak]
    ·rw[cQ,if_neg (fun h=>by rw[h] at hm;exact hm List.mem_cons_self)]
theorem bT.jL(z:α){ts:List (Nat×I)}{os:List (Nat×aq)}{v:I}{l ys:List α}{S:List Nat}(hsz:Enc.sz α=esz)(hg:ly esz v os l S)(hf:ak os d=none)(hb:(l.length+ys.length)*bytes≤140737488355328)(hml:l.length+ys.length≤maxLen)
  (h:∀ v' os',ly esz v' os' (l++ys) (d::S)→(∀ m,m∉d::S→ak os' m=ak os m)→bT P Y ab K (aE rest (aw ((d,v')::ts) os'))):bT P Y ab K (gf (aw ts os) (some d) e esz bytes (enc z) (enc ys) rest v):=by
 rcases DZ (rest:=rest) (e:=e) z hsz hg hf hb hml (ts:=ts) with ⟨v',os',J,U,af⟩ | ⟨p,v',os',J,U⟩
 ·rw[J];exact h v' os' U af
 ·rw[J];exact .any fun m _=>h _ _ (U m).1 (U m).2
theorem aV.jL(z:α){ts:List (Nat×I)}{os:List (Nat×aq)}{v:I}{l ys:List α}{S:List Nat}(hsz:Enc.sz α=esz)(hg:ly esz v os l S)(hf:ak os d=none)(hb:(l.length+ys.length)*bytes≤140737488355328)(hml:l.length+ys.length≤maxLen)
  (h:∀ v' os',ly esz v' os' (l++ys) (d::S)→(∀ m,m∉d::S→ak os' m=ak os m)→aV P Y false K (aE rest (aw ((d,v')::ts) os'))):aV P Y false K (gf (aw ts os) (some d) e esz bytes (enc z) (enc ys) rest v):=by
 rcases DZ (rest:=rest) (e:=e) z hsz hg hf hb hml (ts:=ts) with ⟨v',os',J,U,af⟩ | ⟨p,v',os',J,U⟩
 ·rw[J];exact h v' os' U af
 ·rw[J];exact .any rfl fun m _=>h _ _ (U m).1 (U m).2
theorem pU(os:List (Nat×aq))(S:List Nat):ly esz (.c0 esz) os ([]:List α) S:=.inl ⟨rfl,rfl⟩
theorem pS{v:I}{os:List (Nat×aq)}{l:List α}{S:List Nat}{A:ai}(hsz:Enc.sz α=esz)(h:ly esz v os l S)(hA:∀ m∈S,A.o m=ak os m):br true A v=some (enc l):=by
 rcases h with ⟨rfl,rfl⟩ | ⟨n,q,hn,rfl,ho⟩
 ·simp only[br,hh,zx7,hsz]
 ·have J:br true A (.view n [] esz 0 l.length)=mu esz 0 l.length (some ((l++q).map enc)):=by
   rw[xt,hA n hn,ho];rfl
  rw[J,xq hsz,List.take_left]
end
def eH:List Int→Int→List Int
 | [],n=>[n]
 |x::l,n=>if x<n then x::eH l n else if x=n then x::l else n::x::l
theorem FN:∀ (l:List Int) (n:Int) (i:Nat) (h:i<l.length),(∀ k,k<i→∀ hk:k<l.length,l[k]<n)→l[i]=n→eH l n=l
 | [],_,_,h,_,_=>by simp at h
 |x::l,n,0,_,_,U=>by simp at U;simp[eH,U]
 |x::l,n,i+1,h,J,U=>by
  have hx:=J 0 (by omega) (by simp);simp only[List.getElem_cons_zero] at hx;rw[eH,if_pos hx,FN l n i (by simpa using h) (fun k hk ao=>J (k+1) (by omega) (by simpa using ao)) (by simpa using U)]
theorem yU:∀ (l:List Int) (n:Int) (i:Nat),i≤l.length→(∀ k,k<i→∀ hk:k<l.length,l[k]<n)→(∀ h:i<l.length,n<l[i])→eH l n=l.take i++n::l.drop i
 | [],n,i,h,_,_=>by simp[eH]
 |x::l,n,0,_,_,U=>by
  have:=U (by simp);simp only[List.getElem_cons_zero] at this;simp[eH,show ¬ x<n by omega,show ¬ x=n by omega]
 |x::l,n,i+1,h,J,U=>by
  have hx:=J 0 (by omega) (by simp);simp only[List.getElem_cons_zero] at hx;rw[eH,if_pos hx,yU l n i (by simpa using h) (fun k hk ao=>J (k+1) (by omega) (by simpa using ao)) (fun ao=>U (by simpa using ao))];rfl
theorem zB{α:Type}[Enc α]{A:ai}(esz:Nat){l:List α}{i:Nat}(h:i≤l.length)(ab:Enc.sz α=esz):jb A esz (some (.int .i64 i)) none none (enc l)=some (enc (l.drop i)):=by
 simp only[jb,hh,ab,if_true,iN,jf,zz6];rw[if_pos ⟨by omega,by omega,by omega,by omega⟩];simp[List.take_of_length_le]
theorem sQ(l:List Int)(n:Int)(ao:l.length≤1000):bd Tryz.prog 109 [enc l,enc n] (enc (eH l n)):=by
 refine bd.b5 Tryz.func109 KN LX M8 (t7 rfl) (fun hwf W0 bH E1 =>?_);simp only[A1,F1,bM,zz4];clear hwf;have R:=y6 @aZ az
 repeat' ((first |(with_reducible refine .guard (fun hb =>?_) (fun hb =>?_) <;>try simp only[hb])|refine ae.aB (by decide +kernel) rfl fun K hK =>?_|(refine .au [0,1,4,5,17,31] hK ?_;clear hK K)|(with_reducible refine .done (hK _ ?_);clear hK K)|refine ae.of rfl ?_|(with_reducible refine av.aA (fun h =>?_) (fun h =>?_) <;>try simp only[h])) <;>try simp only[aC,R,simprocAttr])
 all_goals clear R
 refine ae.loop (fun i:Nat=>aw [(0,enc l),(1,.int .i64 n),(5,.int .i64 i)] []) (fun i=>i≤l.length∧∀ k,k<i→∀ h:k<l.length,l[k]<n) (fun i=>l.length-i) 0 ⟨zw1 _,fun k h=>by omega⟩ ?_ (fun i hi =>?_)
 ·refine bp.cG ?_ ?_ ?_ ?_ <;>simp[b6,cF,cn,ct,bY,I.only,b7]
 obtain ⟨hi1,hi2⟩:=hi;by_cases hlt:i<l.length
 ·have hc:=fK hlt;have he:=fun A=>eK (A:=A) 1 hlt rfl;have hw:=fg (i:=i) (by omega);rcases hp:decide (l[i]<n)
  ·have hp0:=of_decide_eq_false hp;rcases hq:(l[i]==n)
   ·have hq0:¬ l[i]=n:=by simpa using hq
    have hm:eH l n=l.take i++n::l.drop i:=yU l n i hi1 hi2 (fun h=>by omega);have R:=y6 @hc (y6 @he (y6 @hp (y6 @hq az)))
    repeat' ((first |(with_reducible refine .guard (fun hb =>?_) (fun hb =>?_) <;>try simp only[hb])|refine ae.aB (by decide +kernel) rfl fun K hK =>?_|(refine .au [0,1,4,5,17,31] hK ?_;clear hK K)|(with_reducible refine .done (hK _ ?_);clear hK K)|refine ae.of rfl ?_|(with_reducible refine av.aA (fun h =>?_) (fun h =>?_) <;>try simp only[h])) <;>try simp only[aC,R,simprocAttr])
    all_goals clear R
    refine ae.sg (gs:=rq) [] [(33,[]),(0,[]),(41,[])] [0,1,2,3,5,6,8,9,10,4,7,11,12] (by decide +kernel) (cZ.of (by simp[fG,bY,p9,I.only,b7])) fun K hK =>?_;have hbs:eW 1 (some [.int .i64 n])=some (enc [n]):=h2 1 n rfl
    try simp only[fm,rq,zy7,zy8,zC 1 hi1 rfl,zB 1 hi1 rfl,zw5,zz9,hbs,lr,bF,simprocAttr]
    refine bT.jL (0:Int) rfl (pU _ []) rfl (by simp;omega) (by simp[maxLen];omega) fun v1 o1 g1 f1 =>?_
    try simp only[bF,simprocAttr]
    refine bT.jL (0:Int) rfl g1 (f1 40 (by decide)) (by simp;omega) (by simp[maxLen];omega) fun v2 o2 g2 f2 =>?_
    try simp only[bF,simprocAttr]
    refine bT.jL (0:Int) rfl g2 ((f2 44 (by decide)).trans (f1 44 (by decide))) (by simp;omega) (by simp[maxLen];omega) fun v3 o3 g3 f3 =>?_;have hf:=fun ts=>pS (A:=aw ts o3) rfl g3 fun _ _=>rfl;rw[show ([]++List.take i l++[n]++List.drop i l)=eH l n by rw[hm];simp] at hf
    try simp only[bF,simprocAttr]
    refine .done (hK _ ?_);clear hK K;have R:=y6 @hf az
    repeat' ((first |(with_reducible refine .guard (fun hb =>?_) (fun hb =>?_) <;>try simp only[hb])|refine ae.aB (by decide +kernel) rfl fun K hK =>?_|(refine .au [0,1,4,5,17,31] hK ?_;clear hK K)|(with_reducible refine .done (hK _ ?_);clear hK K)|refine ae.of rfl ?_|(with_reducible refine av.aA (fun h =>?_) (fun h =>?_) <;>try simp only[h])) <;>try simp only[aC,R,simprocAttr])
    all_goals clear R
   ·have hm:eH l n=l:=FN l n i hlt hi2 (by simpa using hq);rw[hm];have R:=y6 @hc (y6 @he (y6 @hp (y6 @hq az)))
    repeat' ((first |(with_reducible refine .guard (fun hb =>?_) (fun hb =>?_) <;>try simp only[hb])|refine ae.aB (by decide +kernel) rfl fun K hK =>?_|(refine .au [0,1,4,5,17,31] hK ?_;clear hK K)|(with_reducible refine .done (hK _ ?_);clear hK K)|refine ae.of rfl ?_|(with_reducible refine av.aA (fun h =>?_) (fun h =>?_) <;>try simp only[h])) <;>try simp only[aC,R,simprocAttr])
    all_goals clear R
  ·have R:=y6 @hc (y6 @he (y6 @hp (y6 @hw az)))
   repeat' ((first |(with_reducible refine .guard (fun hb =>?_) (fun hb =>?_) <;>try simp only[hb])|refine ae.aB (by decide +kernel) rfl fun K hK =>?_|(refine .au [0,1,4,5,17,31] hK ?_;clear hK K)|(with_reducible refine .done (hK _ ?_);clear hK K)|refine ae.of rfl ?_|(with_reducible refine av.aA (fun h =>?_) (fun h =>?_) <;>try simp only[h])) <;>try simp only[aC,R,simprocAttr])
   all_goals clear R
   refine ⟨i+1,⟨by omega,fun k hk h =>?_⟩,by omega,?_⟩
   ·by_cases e:k=i
    ·subst e;exact of_decide_eq_true hp
    ·exact hi2 k (by omega) h
   ·refine bp.cG ?_ ?_ ?_ ?_ <;>simp[b6,cF,cn,ct,bY,I.only,b7]
 ·have hc:=fR hlt;have hge:i=l.length:=by omega
  have hm:eH l n=l.take i++n::l.drop i:=yU l n i hi1 hi2 (fun h=>absurd h hlt);have R:=y6 @hc az
  repeat' ((first |(with_reducible refine .guard (fun hb =>?_) (fun hb =>?_) <;>try simp only[hb])|refine ae.aB (by decide +kernel) rfl fun K hK =>?_|(refine .au [0,1,4,5,17,31] hK ?_;clear hK K)|(with_reducible refine .done (hK _ ?_);clear hK K)|refine ae.of rfl ?_|(with_reducible refine av.aA (fun h =>?_) (fun h =>?_) <;>try simp only[h])) <;>try simp only[aC,R,simprocAttr])
  all_goals clear R
  refine ae.sg (gs:=rq) [] [(33,[]),(0,[]),(41,[])] [0,1,2,3,5,6,8,9,10,4,7,11,12] (by decide +kernel) (cZ.of (by simp[fG,bY,p9,I.only,b7])) fun K hK =>?_;have hbs:eW 1 (some [.int .i64 n])=some (enc [n]):=h2 1 n rfl
  try simp only[fm,rq,zy7,zy8,zC 1 hi1 rfl,zB 1 hi1 rfl,zw5,zz9,hbs,lr,bF,simprocAttr]
  refine bT.jL (0:Int) rfl (pU _ []) rfl (by simp;omega) (by simp[maxLen];omega) fun v1 o1 g1 f1 =>?_
  try simp only[bF,simprocAttr]
  refine bT.jL (0:Int) rfl g1 (f1 40 (by decide)) (by simp;omega) (by simp[maxLen];omega) fun v2 o2 g2 f2 =>?_
  try simp only[bF,simprocAttr]
  refine bT.jL (0:Int) rfl g2 ((f2 44 (by decide)).trans (f1 44 (by decide))) (by simp;omega) (by simp[maxLen];omega) fun v3 o3 g3 f3 =>?_;have hf:=fun ts=>pS (A:=aw ts o3) rfl g3 fun _ _=>rfl;rw[show ([]++List.take i l++[n]++List.drop i l)=eH l n by rw[hm];simp] at hf
  try simp only[bF,simprocAttr]
  refine .done (hK _ ?_);clear hK K;have R:=y6 @hf az
  repeat' ((first |(with_reducible refine .guard (fun hb =>?_) (fun hb =>?_) <;>try simp only[hb])|refine ae.aB (by decide +kernel) rfl fun K hK =>?_|(refine .au [0,1,4,5,17,31] hK ?_;clear hK K)|(with_reducible refine .done (hK _ ?_);clear hK K)|refine ae.of rfl ?_|(with_reducible refine av.aA (fun h =>?_) (fun h =>?_) <;>try simp only[h])) <;>try simp only[aC,R,simprocAttr])
  all_goals clear R
def qy:dB:=⟨0,0,0,false⟩
theorem w0:I.agg [.int .i64 0,.int .i64 0,.int .i64 0,.bool false]=enc qy:=rfl
def zt:iA:=⟨0,0,0,0⟩
theorem Po:I.agg [.int .i64 0,.int .i64 0,.int .i64 0,.int .i64 0]=enc zt:=rfl
def jH(s:cD)(i:Nat):cD := { s with bL:=s.bL.take i++s.bL.drop (i+1) }
def ki(v:I):Prop:=v.bX=true∧ca none v=true∧v.bg=.one∧v.size=1
theorem acq(l:List dB):ki (enc l):=⟨eF _,by simp[mq,mn],(eX l).trans oj,by rw[lN,kR]⟩
theorem yG(l:List iA):ki (enc l):=⟨eF _,by simp[mq,mn],(eX l).trans oj,by rw[lN,kR]⟩
theorem pT{α:Type}[Enc α]{esz:Nat}{v:I}{os:List (Nat×aq)}{l:List α}{S:List Nat}(h:ly esz v os l S):ki v:=by
 rcases h with ⟨_,rfl⟩ | ⟨n,q,_,rfl,_⟩ <;>exact ⟨rfl,rfl,rfl,rfl⟩
theorem ad5{a s:Int}{h:List Int}{r e:I}(hr:ki r)(he:ki e):(gV a (enc h) s r e).bg=.db [.one,.one,.one,.one,.one]:=by
 simp only[gV,I.bg,I.de,eX,oj,hr.2.2.1,he.2.2.1]
theorem HT{a s:Int}{h:List Int}{r e:I}(hr:ki r)(he:ki e):ca (some 5) (gV a (enc h) s r e)=true:=by
 simp[ca,gV,I.isAgg,I.size,I.sizes,lN,kR,hr.2.2.2,he.2.2.2]
theorem vn{a s:Int}{h:List Int}{r e:I}(hr:ki r)(he:ki e):ca (some 5) (gV a (enc h) s r e)=true∧(∀ A n rest x y,c7 A (some 5) n [] (.agg [.int .i64 x,.nils 1,.int .i64 y,.nils 4,.nils 4]) (gV a (enc h) s r e) rest (some (.agg [.int .i64 x,.nils 1,.int .i64 y,.nils 4,.nils 4]))=aE rest (A.aT n (.box (gV a (enc h) s r e)))) :=
 ⟨HT hr he,fun A n rest x y=>dI rfl (HT hr he) (ad5 hr he)⟩
theorem zG{q:cD}{v:I}(hv:ki v):∀ A n rest,c7 A none n [3] (enc q) v rest (some (enc q.bL))=aE rest (A.aT n (.box (gV q.aD (enc q.here) q.dO v (enc q.bA)))) :=
 fun A n rest=>(dI hv.1 hv.2.1 (hv.2.2.1.trans ((eX _).trans oj).symm)).trans rfl
theorem ad4{q:cD}{v:I}(hv:ki v):∀ A n rest,c7 A none n [4] (enc q) v rest (some (enc q.bA))=aE rest (A.aT n (.box (gV q.aD (enc q.here) q.dO (enc q.bL) v))) :=
 fun A n rest=>(dI hv.1 hv.2.1 (hv.2.2.1.trans ((eX _).trans oj).symm)).trans rfl
theorem vp{A:ai}{a s:Int}{h:List Int}{r e:I}{rs:List dB}{es:List iA}(hr:br true A r=some (enc rs))(he:br true A e=some (enc es)):br true A (gV a (enc h) s r e)=some (enc (⟨a,h,s,rs,es⟩:cD)):=by
 have U:∀ k n,br true A (.int k n)=some (.int k n):=fun k n=>by simp only[br]
 have af:br true A (enc h)=some (enc h):=by simp only[ml]
 simp only[gV,xr,xu,xw,hr,he,U,af,kP,zz9];rfl
theorem zV(s:cD)(i:Nat)(hi:i<s.bL.length)(ao:s.bL.length≤1000):bd Tryz.prog 111 [enc s,enc (i:Int)] (enc (jH s i)):=by
 refine bd.b5 Tryz.func111 KP LZ Na (t7 rfl) (fun hwf W0 bH E1 =>?_);simp only[A4,F3,bM,zz4];clear hwf;have hc:=fK hi;have hw:=fg (i:=i) (by omega);have hle:i≤s.bL.length:=by omega
 have ah:(s.bL.take i).length+(s.bL.drop (i+1)).length≤1000:=by rw[zx2,zw9];omega
 have hd0:(s.bL.take i).length≤1000:=by omega
 have R:=y6 @hc (y6 @hw (y6 @cO az))
 repeat' ((first |refine ae.aB (by decide +kernel) rfl fun K hK =>?_|(refine .au [0,1,2,4] hK ?_;clear hK K)|(with_reducible refine .done (hK _ ?_);clear hK K)|refine ae.of rfl ?_|(with_reducible refine av.aA (fun h =>?_) (fun h =>?_) <;>try simp only[h])) <;>try simp only[aC,R,simprocAttr])
 all_goals clear R
 refine ae.sg (gs:=xz) [] [(5,[])] [0,1,2,3,4,6,7,8,9,10,5,11,12,13] (by decide +kernel) (cZ.of (by simp[fG,bY,p9,I.only])) fun K hK =>?_
 try simp only[fm,xz,zy7,zy8,zC 4 hle rfl,zB 4 (show i+1≤s.bL.length by omega) rfl,zw5,zz9,hw,w0,lr,cO,az,bF,simprocAttr]
 refine bT.jL qy rfl (pU _ []) rfl (by simp;omega) (by simp[maxLen];omega) fun v1 o1 g1 f1 =>?_
 try simp only[bF,simprocAttr]
 refine bT.jL qy rfl g1 (f1 16 (by decide)) (by simp;omega) (by simp[maxLen];omega) fun v2 o2 g2 f2 =>?_;have ho2:ak o2 2=some (.box (enc s)):=(f2 2 (by decide)).trans (f1 2 (by decide));have ho4:ak o2 4=some (.box (.agg [.int .i64 0,.nils 1,.int .i64 0,.nils 4,.nils 4])):=(f2 4 (by decide)).trans (f1 4 (by decide));have ab:=zG (q:=s) (pT g2);have ht:=vn (a:=s.aD) (h:=s.here) (s:=s.dO) (pT g2) (yG s.bA);have hf:∀ ts os,ak os 10=ak o2 10→ak os 16=ak o2 16→br true (aw ts os) (gV s.aD (enc s.here) s.dO v2 (enc s.bA))=some (enc (jH s i)):=fun ts os J U =>
  (vp (pS rfl g2 (by intro m hm;simp only[zx3,List.not_mem_nil,or_false] at hm;rcases hm with rfl | rfl;exact U;exact J)) (by simp only[ml])).trans rfl
 try simp only[ho2,ab,cO,az,bF,simprocAttr]
 refine .done (hK _ ?_);clear hK K;have R:=y6 @ho4 (y6 @ht (y6 @hf (y6 @cO az)))
 repeat' ((first |refine ae.aB (by decide +kernel) rfl fun K hK =>?_|(refine .au [0,1,2,4] hK ?_;clear hK K)|(with_reducible refine .done (hK _ ?_);clear hK K)|refine ae.of rfl ?_|(with_reducible refine av.aA (fun h =>?_) (fun h =>?_) <;>try simp only[h])) <;>try simp only[aC,R,simprocAttr])
 all_goals clear R
theorem Ky(a b c d:Int):(dS [.int .i64 0,.int .i64 0,.int .i64 0,.int .i64 0] [(0,.int .i64 a),(1,.int .i64 b),(2,.int .i64 c),(3,.int .i64 d)]).map I.agg=some (enc (⟨a,b,c,d⟩:iA)):=by simp[dS,I.bX,I.size];rfl
def gB(s:cD)(x:bn):cD := { s with bA:=s.bA++[⟨x.kind,x.other,x.no,x.aL⟩] }
theorem zW(s:cD)(x:bn)(ao:s.bA.length≤1000):bd Tryz.prog 112 [enc s,enc x] (enc (gB s x)):=by
 refine bd.b5 Tryz.func112 KQ L0 Nb (t7 rfl) (fun hwf W0 bH E1 =>?_);simp only[A5,F4,bM,zz4];clear hwf;have hbs:∀ y:iA,eW 4 (some [enc y])=some (enc [y]):=fun y=>h2 4 y rfl;have R:=y6 @cO az
 repeat' ((first |refine ae.aB (by decide +kernel) rfl fun K hK =>?_|(refine .au [0,1,2,3,4] hK ?_;clear hK K)|(with_reducible refine .done (hK _ ?_);clear hK K)|refine ae.of rfl ?_|(with_reducible refine av.aA (fun h =>?_) (fun h =>?_) <;>try simp only[h])) <;>try simp only[aC,R,simprocAttr])
 all_goals clear R
 refine ae.sg (gs:=xA) [] [(5,[])] [0,1,2,4,5,6,7,8,9,10,11,12,13,3,14,15,16] (by decide +kernel) (cZ.of (by simp[fG,bY,p9,I.only])) fun K hK =>?_
 try simp only[fm,xA,zy7,zy8,List.nil_append,Po,Ky,lr,hbs,cO,az,bF,simprocAttr]
 refine bT.jL zt rfl (pU _ []) rfl (by simp;omega) (by simp[maxLen];omega) fun v1 o1 g1 f1 =>?_
 try simp only[bF,simprocAttr]
 refine bT.jL zt rfl g1 (f1 19 (by decide)) (by simp;omega) (by simp[maxLen];omega) fun v2 o2 g2 f2 =>?_;have ho2:ak o2 2=some (.box (enc s)):=(f2 2 (by decide)).trans (f1 2 (by decide));have ho4:ak o2 4=some (.box (.agg [.int .i64 0,.nils 1,.int .i64 0,.nils 4,.nils 4])):=(f2 4 (by decide)).trans (f1 4 (by decide));have ab:=ad4 (q:=s) (pT g2);have ht:=vn (a:=s.aD) (h:=s.here) (s:=s.dO) (acq s.bL) (pT g2);have hf:∀ ts os,ak os 8=ak o2 8→ak os 19=ak o2 19→br true (aw ts os) (gV s.aD (enc s.here) s.dO (enc s.bL) v2)=some (enc (gB s x)):=fun ts os J U =>
  (vp (by simp only[ml]) (pS rfl g2 (by intro m hm;simp only[zx3,List.not_mem_nil,or_false] at hm;rcases hm with rfl | rfl;exact U;exact J))).trans rfl
 try simp only[ho2,ab,cO,az,bF,simprocAttr]
 refine .done (hK _ ?_);clear hK K;have R:=y6 @ho4 (y6 @ht (y6 @hf (y6 @cO az)))
 repeat' ((first |refine ae.aB (by decide +kernel) rfl fun K hK =>?_|(refine .au [0,1,2,3,4] hK ?_;clear hK K)|(with_reducible refine .done (hK _ ?_);clear hK K)|refine ae.of rfl ?_|(with_reducible refine av.aA (fun h =>?_) (fun h =>?_) <;>try simp only[h])) <;>try simp only[aC,R,simprocAttr])
 all_goals clear R
def ir(s:cD)(x:bn):Bool:=match j7 s x.no with
 |some i=>match s.bL[i]? with
  |some r=>r.to==x.other&&r.aL==x.aL
  |none=>false
 |none=>false
def pC(s:cD)(x:bn):Bool:=match j7 s x.no with
 |some i=>match s.bL[i]? with
  |some r=>r.dM
  |none=>false
 |none=>false
def atR(s:cD)(x:bn):Nat:=(j7 s x.no).getD 0
def cR(s:cD)(x:bn):cD×Bool :=
 if x.kind=1 then if decide (x.aL∈s.here)||jd s x.aL then (s,false) else ({ s with here:=eH s.here x.aL },true)
 else if x.kind=2 then ({ s with here:=iq s.here x.aL },decide (x.aL∈s.here))
 else if x.kind=3 then if x.aL∉s.here∨x.other=s.aD∨x.no≠s.dO+1 then (s,false) else ({ s with here:=iq s.here x.aL,dO:=x.no,bL:=s.bL++[⟨x.no,x.other,x.aL,false⟩] },true)
 else if x.kind=4 then if ir s x && !pC s x then ({ s with bL:=s.bL.modify (atR s x) fun r => { r with dM:=true } },true) else (s,false)
 else if x.kind=5 then if ir s x then (jH s (atR s x),true) else (s,false)
 else if x.kind=6 then if ir s x&&pC s x then ({ jH s (atR s x) with here:=eH s.here x.aL },true) else (s,false)
 else if x.other=s.aD∨jM s x.other x.no≠0 then (s,false)
 else if x.kind=7 then if decide (x.aL∈s.here)||jd s x.aL then (s,false) else (gB { s with here:=eH s.here x.aL } x,true)
 else (gB s x,true)
theorem Hn(s:cD)(no:Int):(j7 s no=none∧lf s no=-1)∨∃ i,∃ h:i<s.bL.length,j7 s no=some i∧lf s no=(i:Int)∧(s.bL[i]).no=no:=by
 cases h:j7 s no with
 |none=>exact .inl ⟨rfl,by simp[lf,h]⟩
 |some i =>
  obtain ⟨J,U,_⟩:=List.findIdx?_eq_some_iff_getElem.1 h;exact .inr ⟨i,J,rfl,by simp[lf,h],of_decide_eq_true U⟩
def lA(s:cD)(x:bn):ai:=aw [(2,.ptr 2 []),(3,.ptr 3 []),(4,.ptr 4 []),(5,.bool false),(6,.bool (decide (x.aL∈s.here))),(7,.int .i64 (lf s x.no)),(8,.bool (ir s x))] [(4,.box (.agg [.int .i64 0,.nils 1,.int .i64 0,.nils 4,.nils 4])),(3,.box (enc x)),(2,.box (enc s))]
theorem nH{W0:World}{bH:aS}{n:Nat}{own cP:_}(y:bx)(Q:Exit→ai→Prop)(s:cD)(x:bn)(ao:s.bL.length≤1000)
  (h:ae { P:=Tryz.prog,eM:=W0,bH:=bH,n:=n,own:=own,cP:=cP,Y:=dA,kE:=none } y Q (lA s x)) :
  ae { P:=Tryz.prog,eM:=W0,bH:=bH,n:=n,own:=own,cP:=cP,Y:=dA,kE:=none } (.seq (.cg none Dt) (.seq (.cg none Du) (.seq (.cg none Dv) (.seq (.cg Cz Dw) y)))) Q (aw [(0,enc s),(1,enc x)] []):=by
 have hF1:=Je s.here x.aL;have hF2:=Jf s x.no ao;have hg:decide ((-1:Int)≥0)=false:=rfl;unfold lA at h;rcases Hn s x.no with ⟨J,U⟩ | ⟨i,hi,J,U,-⟩
 ·have hm:ir s x=false:=by simp only[ir,J]
  rw[U] at hF2 h;rw[hm] at h;have R:=y6 @hg (y6 @cO (y6 @aZ az))
  repeat' ((first |(with_reducible refine .guard (fun hb =>?_) (fun hb =>?_) <;>try simp only[hb])|refine ae.aB (by decide +kernel) rfl fun K hK =>?_|refine .flat _ (hF1) rfl ?_|refine .flat _ (hF2) rfl ?_|(refine .au [0,1,2,3,4,5,6,7,8,45,46,54,63,73,91,117,128,141,144,149,161,186,190,197] hK ?_;clear hK K)|(with_reducible refine .done (hK _ ?_);clear hK K)|refine ae.of rfl ?_|(with_reducible refine av.aA (fun h =>?_) (fun h =>?_) <;>try simp only[h])) <;>try simp only[aC,R,decide_false,simprocAttr])
  all_goals clear R
  refine ae.sub ?_ h;refine bp.cG ?_ ?_ ?_ ?_ <;>simp[b6,cF,cn,ct,ay,bY,cQ,I.only,I.b8,aq.only,b7]
 ·have hm:ir s x=((s.bL[i]).to==x.other&&(s.bL[i]).aL==x.aL):=by simp only[ir,J,zy2 hi]
  have hx:(if 0>(i:Int) then 0 else (i:Int))=(i:Int):=if_neg (by omega);have hg2:decide ((i:Int)≥0)=true:=by simp
  have he:=fun A=>eK (A:=A) 4 hi rfl;rw[U] at hF2 h;rw[hm] at h;rcases q1:((s.bL[i]).to==x.other)
  ·rw[q1,Bool.false_and] at h;have R:=y6 @hg2 (y6 @hx (y6 @he (y6 @q1 (y6 @cO (y6 @aZ az)))))
   repeat' ((first |(with_reducible refine .guard (fun hb =>?_) (fun hb =>?_) <;>try simp only[hb])|refine ae.aB (by decide +kernel) rfl fun K hK =>?_|refine .flat _ (hF1) rfl ?_|refine .flat _ (hF2) rfl ?_|(refine .au [0,1,2,3,4,5,6,7,8,45,46,54,63,73,91,117,128,141,144,149,161,186,190,197] hK ?_;clear hK K)|(with_reducible refine .done (hK _ ?_);clear hK K)|refine ae.of rfl ?_|(with_reducible refine av.aA (fun h =>?_) (fun h =>?_) <;>try simp only[h])) <;>try simp only[aC,R,decide_true,simprocAttr])
   all_goals clear R
   refine ae.sub ?_ h;refine bp.cG ?_ ?_ ?_ ?_ <;>simp[b6,cF,cn,ct,ay,bY,cQ,I.only,I.b8,aq.only,b7]
  ·rw[q1,Bool.true_and] at h;have R:=y6 @hg2 (y6 @hx (y6 @he (y6 @q1 (y6 @cO (y6 @aZ az)))))
   repeat' ((first |(with_reducible refine .guard (fun hb =>?_) (fun hb =>?_) <;>try simp only[hb])|refine ae.aB (by decide +kernel) rfl fun K hK =>?_|refine .flat _ (hF1) rfl ?_|refine .flat _ (hF2) rfl ?_|(refine .au [0,1,2,3,4,5,6,7,8,45,46,54,63,73,91,117,128,141,144,149,161,186,190,197] hK ?_;clear hK K)|(with_reducible refine .done (hK _ ?_);clear hK K)|refine ae.of rfl ?_|(with_reducible refine av.aA (fun h =>?_) (fun h =>?_) <;>try simp only[h])) <;>try simp only[aC,R,decide_true,simprocAttr])
   all_goals clear R
   refine ae.sub ?_ h;refine bp.cG ?_ ?_ ?_ ?_ <;>simp[b6,cF,cn,ct,ay,bY,cQ,I.only,I.b8,aq.only,b7]
structure Small (s:cD):Prop where
 ao:s.bL.length≤1000
 bz:s.here.length≤1000
 ab:s.bA.length≤1000
 aR:0≤s.dO
 J:s.dO≤1000
theorem gx(b:Bool):b=false∨b=true:=by cases b <;>simp
theorem I6(s:cD)(x:bn)(ab:Small s)(hk:x.kind=1):bd Tryz.prog 76 [enc s,enc x] (.tuple [enc (cR s x).1,enc (cR s x).2]):=by
 refine bd.b5 Tryz.func76 nk nl nm (t7 rfl) (fun hwf W0 bH E1 =>?_);simp only[c76,mL,bM,zz4];clear hwf;refine nH _ _ s x ab.ao ?_;unfold lA;have hk1:(x.kind==1)=true:=by rw[hk];rfl
 have hF1:=vF s x.aL ab.ao;have hF2:=sQ s.here x.aL ab.bz;rcases gx (decide (x.aL∈s.here)) with q | q
 ·rcases gx (jd s x.aL) with q2 | q2
  ·rw[show cR s x=({ s with here:=eH s.here x.aL },true) by simp only[cR,hk,q,q2];rfl];have R:=y6 @hk1 (y6 @q (y6 @q2 (y6 @cO (y6 @aZ az))))
   repeat' ((first |(with_reducible refine .guard (fun hb =>?_) (fun hb =>?_) <;>try simp only[hb])|refine ae.aB (by decide +kernel) rfl fun K hK =>?_|refine .flat _ (hF1) rfl ?_|refine .lead _ (hF2) ?_|(refine .au [0,1,2,3,4,5,6,7,8,45,46,54,63,73,91,117,128,141,144,149,161,186,190,197] hK ?_;clear hK K)|(with_reducible refine .done (hK _ ?_);clear hK K)|refine ae.of rfl ?_|(with_reducible refine av.aA (fun h =>?_) (fun h =>?_) <;>try simp only[h])) <;>try simp only[aC,R,simprocAttr])
   all_goals clear R
  ·rw[show cR s x=(s,false) by simp only[cR,hk,q,q2];rfl];have R:=y6 @hk1 (y6 @q (y6 @q2 (y6 @cO (y6 @aZ az))))
   repeat' ((first |(with_reducible refine .guard (fun hb =>?_) (fun hb =>?_) <;>try simp only[hb])|refine ae.aB (by decide +kernel) rfl fun K hK =>?_|refine .flat _ (hF1) rfl ?_|refine .lead _ (hF2) ?_|(refine .au [0,1,2,3,4,5,6,7,8,45,46,54,63,73,91,117,128,141,144,149,161,186,190,197] hK ?_;clear hK K)|(with_reducible refine .done (hK _ ?_);clear hK K)|refine ae.of rfl ?_|(with_reducible refine av.aA (fun h =>?_) (fun h =>?_) <;>try simp only[h])) <;>try simp only[aC,R,simprocAttr])
   all_goals clear R
 ·rw[show cR s x=(s,false) by simp only[cR,hk,q];rfl];have R:=y6 @hk1 (y6 @q (y6 @cO (y6 @aZ az)))
  repeat' ((first |(with_reducible refine .guard (fun hb =>?_) (fun hb =>?_) <;>try simp only[hb])|refine ae.aB (by decide +kernel) rfl fun K hK =>?_|refine .flat _ (hF1) rfl ?_|refine .lead _ (hF2) ?_|(refine .au [0,1,2,3,4,5,6,7,8,45,46,54,63,73,91,117,128,141,144,149,161,186,190,197] hK ?_;clear hK K)|(with_reducible refine .done (hK _ ?_);clear hK K)|refine ae.of rfl ?_|(with_reducible refine av.aA (fun h =>?_) (fun h =>?_) <;>try simp only[h])) <;>try simp only[aC,R,simprocAttr])
  all_goals clear R
theorem I7(s:cD)(x:bn)(ab:Small s)(hk:x.kind=2):bd Tryz.prog 76 [enc s,enc x] (.tuple [enc (cR s x).1,enc (cR s x).2]):=by
 refine bd.b5 Tryz.func76 nk nl nm (t7 rfl) (fun hwf W0 bH E1 =>?_);simp only[c76,mL,bM,zz4];clear hwf;refine nH _ _ s x ab.ao ?_;unfold lA;have hk1:(x.kind==1)=false:=by rw[hk];rfl
 have hk2:(x.kind==2)=true:=by rw[hk];rfl
 have hF2:=zU s.here x.aL ab.bz;rw[show cR s x=({ s with here:=iq s.here x.aL },decide (x.aL∈s.here)) by simp only[cR,hk];rfl];have R:=y6 @hk1 (y6 @hk2 (y6 @cO (y6 @aZ az)))
 repeat' ((first |(with_reducible refine .guard (fun hb =>?_) (fun hb =>?_) <;>try simp only[hb])|refine ae.aB (by decide +kernel) rfl fun K hK =>?_|refine .lead _ (hF2) ?_|(refine .au [0,1,2,3,4,5,6,7,8,45,46,54,63,73,91,117,128,141,144,149,161,186,190,197] hK ?_;clear hK K)|(with_reducible refine .done (hK _ ?_);clear hK K)|refine ae.of rfl ?_|(with_reducible refine av.aA (fun h =>?_) (fun h =>?_) <;>try simp only[h])) <;>try simp only[aC,R,simprocAttr])
 all_goals clear R
theorem I8(s:cD)(x:bn)(ab:Small s)(hk:x.kind=3):bd Tryz.prog 76 [enc s,enc x] (.tuple [enc (cR s x).1,enc (cR s x).2]):=by
 refine bd.b5 Tryz.func76 nk nl nm (t7 rfl) (fun hwf W0 bH E1 =>?_);simp only[c76,mL,bM,zz4];clear hwf;refine nH _ _ s x ab.ao ?_;unfold lA;have hk1:(x.kind==1)=false:=by rw[hk];rfl
 have hk2:(x.kind==2)=false:=by rw[hk];rfl
 have hk3:(x.kind==3)=true:=by rw[hk];rfl
 have hw:IntKind.i64.wrap (s.dO+1)=s.dO+1:=by have:=ab.aR;have:=ab.J;exact iy _ (by omega) (by omega)
 have hF2:=zU s.here x.aL ab.bz;have e3:cR s x=if x.aL∉s.here∨x.other=s.aD∨x.no≠s.dO+1 then (s,false) else ({ s with here:=iq s.here x.aL,dO:=x.no,bL:=s.bL++[⟨x.no,x.other,x.aL,false⟩] },true):=by simp only[cR,hk];rfl
 rcases gx (decide (x.aL∈s.here)) with q | q
 ·rw[e3,if_pos (.inl (of_decide_eq_false q))];have R:=y6 @hk1 (y6 @hk2 (y6 @hk3 (y6 @q (y6 @cO (y6 @aZ az)))))
  repeat' ((first |(with_reducible refine .guard (fun hb =>?_) (fun hb =>?_) <;>try simp only[hb])|refine ae.aB (by decide +kernel) rfl fun K hK =>?_|refine .lead _ (hF2) ?_|(refine .au [0,1,2,3,4,5,6,7,8,45,46,54,63,73,91,117,128,141,144,149,161,186,190,197] hK ?_;clear hK K)|(with_reducible refine .done (hK _ ?_);clear hK K)|refine ae.of rfl ?_|(with_reducible refine av.aA (fun h =>?_) (fun h =>?_) <;>try simp only[h])) <;>try simp only[aC,R,simprocAttr])
  all_goals clear R
 rcases gx (x.other==s.aD) with q2 | q2
 rotate_left
 ·rw[e3,if_pos (.inr (.inl (by simpa using q2)))];have R:=y6 @hk1 (y6 @hk2 (y6 @hk3 (y6 @q (y6 @q2 (y6 @cO (y6 @aZ az))))))
  repeat' ((first |(with_reducible refine .guard (fun hb =>?_) (fun hb =>?_) <;>try simp only[hb])|refine ae.aB (by decide +kernel) rfl fun K hK =>?_|refine .lead _ (hF2) ?_|(refine .au [0,1,2,3,4,5,6,7,8,45,46,54,63,73,91,117,128,141,144,149,161,186,190,197] hK ?_;clear hK K)|(with_reducible refine .done (hK _ ?_);clear hK K)|refine ae.of rfl ?_|(with_reducible refine av.aA (fun h =>?_) (fun h =>?_) <;>try simp only[h])) <;>try simp only[aC,R,simprocAttr])
  all_goals clear R
 rcases gx (x.no != s.dO+1) with q3 | q3
 rotate_left
 ·rw[e3,if_pos (.inr (.inr (by simpa using q3)))];have R:=y6 @hk1 (y6 @hk2 (y6 @hk3 (y6 @q (y6 @q2 (y6 @q3 (y6 @hw (y6 @cO (y6 @aZ az))))))))
  repeat' ((first |(with_reducible refine .guard (fun hb =>?_) (fun hb =>?_) <;>try simp only[hb])|refine ae.aB (by decide +kernel) rfl fun K hK =>?_|refine .lead _ (hF2) ?_|(refine .au [0,1,2,3,4,5,6,7,8,45,46,54,63,73,91,117,128,141,144,149,161,186,190,197] hK ?_;clear hK K)|(with_reducible refine .done (hK _ ?_);clear hK K)|refine ae.of rfl ?_|(with_reducible refine av.aA (fun h =>?_) (fun h =>?_) <;>try simp only[h])) <;>try simp only[aC,R,simprocAttr])
  all_goals clear R
 have J:x.aL∈s.here:=of_decide_eq_true q;have U:¬ x.other=s.aD:=by simpa using q2
 have af:x.no=s.dO+1:=by simpa using q3
 rw[e3,if_neg (fun h=>h.elim (fun h=>h J) fun h=>h.elim U fun h=>h af)];have ao:=ab.ao;obtain ⟨q0,hq0⟩:∃ q0:cD,q0 = { s with here:=iq s.here x.aL,dO:=x.no } :=⟨_,rfl⟩
 have hr0:q0.bL=s.bL:=by rw[hq0]
 have R:=y6 @hk1 (y6 @hk2 (y6 @hk3 (y6 @q (y6 @q2 (y6 @q3 (y6 @hw (y6 @cO (y6 @aZ az))))))))
 repeat' ((first |(with_reducible refine .guard (fun hb =>?_) (fun hb =>?_) <;>try simp only[hb])|refine ae.aB (by decide +kernel) rfl fun K hK =>?_|refine .lead _ (hF2) ?_|(refine .au [0,1,2,3,4,5,6,7,8,45,46,54,63,73,91,117,128,141,144,149,161,186,190,197] hK ?_;clear hK K)|(with_reducible refine .done (hK _ ?_);clear hK K)|refine ae.of rfl ?_|(with_reducible refine av.aA (fun h =>?_) (fun h =>?_) <;>try simp only[h])) <;>try simp only[aC,R,simprocAttr])
 all_goals clear R
 rw[←hq0];refine ae.sg (gs:=xI) [] [(102,[])] [0,1,2,4,5,6,7,8,9,10,11,3,12,13,14] (by decide +kernel) (cZ.of (by simp[fG,bY,p9,I.only])) fun K hK =>?_;have hbs:∀ y:dB,eW 4 (some [enc y])=some (enc [y]):=fun y=>h2 4 y rfl
 try simp only[fm,xI,zy7,zy8,List.nil_append,w0,tm,lr,hbs,cO,az,bF,simprocAttr]
 refine bT.jL qy rfl (pU _ []) rfl (by simp[hr0];omega) (by simp[maxLen,hr0];omega) fun v1 o1 g1 f1 =>?_
 try simp only[bF,simprocAttr]
 refine bT.jL qy rfl g1 (f1 114 (by decide)) (by simp[hr0];omega) (by simp[maxLen,hr0];omega) fun v2 o2 g2 f2 =>?_;have ho2:ak o2 2=some (.box (enc q0)):=(f2 2 (by decide)).trans (f1 2 (by decide));have ho4:ak o2 4=some (.box (.agg [.int .i64 0,.nils 1,.int .i64 0,.nils 4,.nils 4])):=(f2 4 (by decide)).trans (f1 4 (by decide));have ab:=zG (q:=q0) (pT g2);have ht:=vn (a:=q0.aD) (h:=q0.here) (s:=q0.dO) (pT g2) (yG q0.bA);have hf:∀ ts os,ak os 105=ak o2 105→ak os 114=ak o2 114→br true (aw ts os) (gV q0.aD (enc q0.here) q0.dO v2 (enc q0.bA))=some (enc ({ s with here:=iq s.here x.aL,dO:=x.no,bL:=s.bL++[⟨x.no,x.other,x.aL,false⟩] } : cD)):=fun ts os J U =>
  (vp (es:=q0.bA) (pS rfl g2 (by intro m hm;simp only[zx3,List.not_mem_nil,or_false] at hm;rcases hm with rfl | rfl;exact U;exact J)) (by simp only[ml])).trans (by rw[hq0];rfl)
 try simp only[ho2,ab,cO,az,bF,simprocAttr]
 refine .done (hK _ ?_);clear hK K;have R:=y6 @ho4 (y6 @ht (y6 @hf (y6 @cO az)))
 repeat' ((first |(with_reducible refine .guard (fun hb =>?_) (fun hb =>?_) <;>try simp only[hb])|refine ae.aB (by decide +kernel) rfl fun K hK =>?_|(refine .au [0,1,2,3,4,5,6,7,8,45,46,54,63,73,91,117,128,141,144,149,161,186,190,197] hK ?_;clear hK K)|(with_reducible refine .done (hK _ ?_);clear hK K)|refine ae.of rfl ?_|(with_reducible refine av.aA (fun h =>?_) (fun h =>?_) <;>try simp only[h])) <;>try simp only[aC,R,simprocAttr])
 all_goals clear R
theorem ye{s:cD}{x:bn}(h:ir s x=true):∃ i,∃ h:i<s.bL.length,j7 s x.no=some i∧lf s x.no=(i:Int)∧atR s x=i∧pC s x=(s.bL[i]).dM:=by
 rcases Hn s x.no with ⟨J,U⟩ | ⟨i,hi,J,U,-⟩
 ·simp only[ir,J] at h;cases h
 ·exact ⟨i,hi,J,U,by simp only[atR,J];rfl,by simp only[pC,J,zy2 hi]⟩
theorem EV{α β:Type}(e:α→β)(f:α→α):∀ (l:List α) (i:Nat) (h:i<l.length),(l.map e).set i (e (f l[i]))=(l.modify i f).map e
 |x::l,0,_=>rfl
 |x::l,i+1,h=>by
  have:=EV e f l i (by simpa using h);simp only[zz5,List.set_cons_succ,List.modify_succ_cons,List.getElem_cons_succ,this]
theorem adY{A:ai}{n i:Nat}{xs:List dB}{c v:Bool}{rest:List aJ}(hi:i<xs.length):c7 A none n [i,3] (.agg (xs.map enc)) (.bool v) rest (some (.bool c))=aE rest (A.aT n (.box (.agg ((xs.modify i fun r => { r with dM:=v }).map enc)))):=by
 rw[dI (s:=none) (v:=.bool v) (old:=.bool c) rfl rfl rfl];have U:(xs.map (enc (α:=dB)))[i]?=some (enc xs[i]):=by simp[hi]
 have af:(enc xs[i]:I).ev [3] (.bool v)=enc ({ xs[i] with dM:=v } : dB):=rfl;have ar:(xs.map (enc (α:=dB))).set i (enc ({ xs[i] with dM:=v } : dB))=(xs.modify i fun r => { r with dM:=v }).map enc:=EV enc (fun r:dB => { r with dM:=v }) xs i hi;simp only[I.ev,U,af,ar]
theorem J0{i:Nat}{xs:List dB}(hi:i<xs.length):nj i [3] (some (xs.map enc))=some (.bool (xs[i]).dM):=by
 simp only[nj,zx4,zy2 hi,zz9,py];rfl
theorem Fa{α:Type}(f:α→α):∀ (l r:List α) (i:Nat),i<l.length→(l++r).modify i f=l.modify i f++r
 | [],_,_,h=>by simp at h
 |x::l,r,0,_=>rfl
 |x::l,r,i+1,h=>by
  have:=Fa f l r i (by simpa using h);simp only[zy1,List.modify_succ_cons,this]
theorem I9(s:cD)(x:bn)(ab:Small s)(hk:x.kind=4):bd Tryz.prog 76 [enc s,enc x] (.tuple [enc (cR s x).1,enc (cR s x).2]):=by
 refine bd.b5 Tryz.func76 nk nl nm (t7 rfl) (fun hwf W0 bH E1 =>?_);simp only[c76,mL,bM,zz4];clear hwf;refine nH _ _ s x ab.ao ?_;unfold lA;have hk1:(x.kind==1)=false:=by rw[hk];rfl
 have hk2:(x.kind==2)=false:=by rw[hk];rfl
 have hk3:(x.kind==3)=false:=by rw[hk];rfl
 have hk4:(x.kind==4)=true:=by rw[hk];rfl
 rcases gx (ir s x) with q | q
 ·rw[show cR s x=(s,false) by simp only[cR,hk,q];rfl];have R:=y6 @hk1 (y6 @hk2 (y6 @hk3 (y6 @hk4 (y6 @q (y6 @cO (y6 @aZ az))))))
  repeat' ((first |(with_reducible refine .guard (fun hb =>?_) (fun hb =>?_) <;>try simp only[hb])|refine ae.aB (by decide +kernel) rfl fun K hK =>?_|(refine .au [0,1,2,3,4,5,6,7,8,45,46,54,63,73,91,117,128,141,144,149,161,186,190,197] hK ?_;clear hK K)|(with_reducible refine .done (hK _ ?_);clear hK K)|refine ae.of rfl ?_|(with_reducible refine av.aA (fun h =>?_) (fun h =>?_) <;>try simp only[h])) <;>try simp only[aC,R,simprocAttr])
  all_goals clear R
 ·obtain ⟨i,hi,J,U,af,ar⟩:=ye q;have he:=fun A=>eK (A:=A) 4 hi rfl;rcases gx (s.bL[i]).dM with q2 | q2
  rotate_left
  ·rw[show cR s x=(s,false) by simp only[cR,hk,q,ar,q2];rfl];have R:=y6 @hk1 (y6 @hk2 (y6 @hk3 (y6 @hk4 (y6 @q (y6 @U (y6 @he (y6 @q2 (y6 @cO (y6 @aZ az)))))))))
   repeat' ((first |(with_reducible refine .guard (fun hb =>?_) (fun hb =>?_) <;>try simp only[hb])|refine ae.aB (by decide +kernel) rfl fun K hK =>?_|(refine .au [0,1,2,3,4,5,6,7,8,45,46,54,63,73,91,117,128,141,144,149,161,186,190,197] hK ?_;clear hK K)|(with_reducible refine .done (hK _ ?_);clear hK K)|refine ae.of rfl ?_|(with_reducible refine av.aA (fun h =>?_) (fun h =>?_) <;>try simp only[h])) <;>try simp only[aC,R,simprocAttr])
   all_goals clear R
  ·rw[show cR s x=({ s with bL:=s.bL.modify i fun r => { r with dM:=true } },true) by simp only[cR,hk,q,af,ar,q2];rfl];have R:=y6 @hk1 (y6 @hk2 (y6 @hk3 (y6 @hk4 (y6 @q (y6 @U (y6 @he (y6 @q2 (y6 @w0 (y6 @lr (y6 @cO (y6 @aZ az)))))))))))
   repeat' ((first |(with_reducible refine .guard (fun hb =>?_) (fun hb =>?_) <;>try simp only[hb])|refine ae.aB (by decide +kernel) rfl fun K hK =>?_|(refine .au [0,1,2,3,4,5,6,7,8,45,46,54,63,73,91,117,128,141,144,149,161,186,190,197] hK ?_;clear hK K)|(with_reducible refine .done (hK _ ?_);clear hK K)|refine ae.of rfl ?_|(with_reducible refine av.aA (fun h =>?_) (fun h =>?_) <;>try simp only[h])) <;>try simp only[aC,R,simprocAttr])
   all_goals clear R
   have ao:=ab.ao;refine aV.jL qy rfl (pU _ []) rfl (by simp;omega) (by simp[maxLen];omega) fun v2 o2 g2 f2 =>?_;have hne:s.bL≠[]:=fun h=>by rw[h] at hi;simp at hi
   rw[List.nil_append] at g2;rcases g2 with ⟨hz,_⟩ | ⟨n,qq,hn,rfl,hrow⟩
   ·exact absurd hz hne
   rw[zx1] at hn;subst hn;have ho2:ak o2 2=some (.box (enc s)):=f2 2 (by decide);have ho4:ak o2 4=some (.box (.agg [.int .i64 0,.nils 1,.int .i64 0,.nils 4,.nils 4])):=f2 4 (by decide);have hone:ki (.view 133 [] 4 0 s.bL.length):=⟨rfl,rfl,rfl,rfl⟩
   have hs3:=zG (q:=s) hone
   try simp only[ho2,hs3,cO,az,bF,simprocAttr]
   have hof:∀ w,du [.int .i64 s.aD,enc s.here,.int .i64 s.dO,.view 133 [] 4 0 s.bL.length,enc s.bA] 3 3 w=some w:=fun w=>ky (by simp) (by simp[I.sizes,I.size,lN,kR]);have hok:ca none (.view 133 [] 4 0 s.bL.length)=true:=rfl;have hi':i<(s.bL++qq).length:=by rw[zz8];omega
   have hv:∀ fs,nw 133 [] 4 0 s.bL.length 4 (i:Int) (some fs)=some (.ptr 133 [i]):=fun fs=>by
    have:=aay (m:=133) (sz:=4) (lo:=0) (l:=s.bL.length) (i:=i) (fs:=fs) hi
    rwa [zz4] at this
   have hat:nj i [] (some ((s.bL++qq).map enc))=some (enc s.bL[i]):=by
    simp only[nj,zx4,zy6 hi,zy2 hi,zz9,py,AB]
   have hat2:=J0 hi';have hst:=fun A rest c v=>adY (A:=A) (n:=133) (rest:=rest) (c:=c) (v:=v) hi';simp only[Fa _ _ _ _ hi] at hst;have ht:=vn (a:=s.aD) (h:=s.here) (s:=s.dO) hone (yG s.bA);have hf:∀ ts os,ak os 133=some (.box (.agg (((s.bL.modify i fun r => { r with dM:=true })++qq).map enc)))→br true (aw ts os) (gV s.aD (enc s.here) s.dO (.view 133 [] 4 0 s.bL.length) (enc s.bA))=some (enc ({ s with bL:=s.bL.modify i fun r => { r with dM:=true } } : cD)):=fun ts os J =>
    vp (rs:=s.bL.modify i fun r => { r with dM:=true }) (pS (esz:=4) (S:=[133]) (os:=os) rfl (.inr ⟨133,qq,zx1.2 rfl,by rw[List.length_modify],J⟩) fun _ _=>rfl) (by simp only[ml])
   have R:=y6 @hrow (y6 @hof (y6 @hv (y6 @hat (y6 @hat2 (y6 @hst (y6 @ho4 (y6 @ht (y6 @hf (y6 @hok (y6 @lr (y6 @cO (y6 @aZ az))))))))))))
   repeat' ((first |(with_reducible refine .guard (fun hb =>?_) (fun hb =>?_) <;>try simp only[hb])|refine ae.aB (by decide +kernel) rfl fun K hK =>?_|(refine .au [0,1,2,3,4,5,6,7,8,45,46,54,63,73,91,117,128,141,144,149,161,186,190,197] hK ?_;clear hK K)|(with_reducible refine .done (hK _ ?_);clear hK K)|refine ae.of rfl ?_|(with_reducible refine av.aA (fun h =>?_) (fun h =>?_) <;>try simp only[h])) <;>try simp only[aC,R,zy1,simprocAttr])
   all_goals clear R
theorem Ja(s:cD)(x:bn)(ab:Small s)(hk:x.kind=5):bd Tryz.prog 76 [enc s,enc x] (.tuple [enc (cR s x).1,enc (cR s x).2]):=by
 refine bd.b5 Tryz.func76 nk nl nm (t7 rfl) (fun hwf W0 bH E1 =>?_);simp only[c76,mL,bM,zz4];clear hwf;refine nH _ _ s x ab.ao ?_;unfold lA;have hk1:(x.kind==1)=false:=by rw[hk];rfl
 have hk2:(x.kind==2)=false:=by rw[hk];rfl
 have hk3:(x.kind==3)=false:=by rw[hk];rfl
 have hk4:(x.kind==4)=false:=by rw[hk];rfl
 have hk5:(x.kind==5)=true:=by rw[hk];rfl
 rcases gx (ir s x) with q | q
 ·rw[show cR s x=(s,false) by simp only[cR,hk,q];rfl];have R:=y6 @hk1 (y6 @hk2 (y6 @hk3 (y6 @hk4 (y6 @hk5 (y6 @q (y6 @cO (y6 @aZ az)))))))
  repeat' ((first |(with_reducible refine .guard (fun hb =>?_) (fun hb =>?_) <;>try simp only[hb])|refine ae.aB (by decide +kernel) rfl fun K hK =>?_|(refine .au [0,1,2,3,4,5,6,7,8,45,46,54,63,73,91,117,128,141,144,149,161,186,190,197] hK ?_;clear hK K)|(with_reducible refine .done (hK _ ?_);clear hK K)|refine ae.of rfl ?_|(with_reducible refine av.aA (fun h =>?_) (fun h =>?_) <;>try simp only[h])) <;>try simp only[aC,R,simprocAttr])
  all_goals clear R
 ·obtain ⟨i,hi,J,U,af,ar⟩:=ye q;rw[show cR s x=(jH s i,true) by simp only[cR,hk,q,af];rfl];have hF:=zV s i hi ab.ao;have R:=y6 @hk1 (y6 @hk2 (y6 @hk3 (y6 @hk4 (y6 @hk5 (y6 @q (y6 @U (y6 @cO (y6 @aZ az))))))))
  repeat' ((first |(with_reducible refine .guard (fun hb =>?_) (fun hb =>?_) <;>try simp only[hb])|refine ae.aB (by decide +kernel) rfl fun K hK =>?_|refine .lead _ (hF) ?_|(refine .au [0,1,2,3,4,5,6,7,8,45,46,54,63,73,91,117,128,141,144,149,161,186,190,197] hK ?_;clear hK K)|(with_reducible refine .done (hK _ ?_);clear hK K)|refine ae.of rfl ?_|(with_reducible refine av.aA (fun h =>?_) (fun h =>?_) <;>try simp only[h])) <;>try simp only[aC,R,simprocAttr])
  all_goals clear R
theorem Jb(s:cD)(x:bn)(ab:Small s)(hk:x.kind=6):bd Tryz.prog 76 [enc s,enc x] (.tuple [enc (cR s x).1,enc (cR s x).2]):=by
 refine bd.b5 Tryz.func76 nk nl nm (t7 rfl) (fun hwf W0 bH E1 =>?_);simp only[c76,mL,bM,zz4];clear hwf;refine nH _ _ s x ab.ao ?_;unfold lA;have hk1:(x.kind==1)=false:=by rw[hk];rfl
 have hk2:(x.kind==2)=false:=by rw[hk];rfl
 have hk3:(x.kind==3)=false:=by rw[hk];rfl
 have hk4:(x.kind==4)=false:=by rw[hk];rfl
 have hk5:(x.kind==5)=false:=by rw[hk];rfl
 have hk6:(x.kind==6)=true:=by rw[hk];rfl
 rcases gx (ir s x) with q | q
 ·rw[show cR s x=(s,false) by simp only[cR,hk,q];rfl];have R:=y6 @hk1 (y6 @hk2 (y6 @hk3 (y6 @hk4 (y6 @hk5 (y6 @hk6 (y6 @q (y6 @cO (y6 @aZ az))))))))
  repeat' ((first |(with_reducible refine .guard (fun hb =>?_) (fun hb =>?_) <;>try simp only[hb])|refine ae.aB (by decide +kernel) rfl fun K hK =>?_|(refine .au [0,1,2,3,4,5,6,7,8,45,46,54,63,73,91,117,128,141,144,149,161,186,190,197] hK ?_;clear hK K)|(with_reducible refine .done (hK _ ?_);clear hK K)|refine ae.of rfl ?_|(with_reducible refine av.aA (fun h =>?_) (fun h =>?_) <;>try simp only[h])) <;>try simp only[aC,R,simprocAttr])
  all_goals clear R
 ·obtain ⟨i,hi,J,U,af,ar⟩:=ye q;have he:=fun A=>eK (A:=A) 4 hi rfl;rcases gx (s.bL[i]).dM with q2 | q2
  ·rw[show cR s x=(s,false) by simp only[cR,hk,q,ar,q2];rfl];have R:=y6 @hk1 (y6 @hk2 (y6 @hk3 (y6 @hk4 (y6 @hk5 (y6 @hk6 (y6 @q (y6 @U (y6 @he (y6 @q2 (y6 @cO (y6 @aZ az)))))))))))
   repeat' ((first |(with_reducible refine .guard (fun hb =>?_) (fun hb =>?_) <;>try simp only[hb])|refine ae.aB (by decide +kernel) rfl fun K hK =>?_|(refine .au [0,1,2,3,4,5,6,7,8,45,46,54,63,73,91,117,128,141,144,149,161,186,190,197] hK ?_;clear hK K)|(with_reducible refine .done (hK _ ?_);clear hK K)|refine ae.of rfl ?_|(with_reducible refine av.aA (fun h =>?_) (fun h =>?_) <;>try simp only[h])) <;>try simp only[aC,R,simprocAttr])
   all_goals clear R
  ·rw[show cR s x=({ jH s i with here:=eH s.here x.aL },true) by simp only[cR,hk,q,af,ar,q2];rfl];have hF:=zV s i hi ab.ao;have hF2:=sQ s.here x.aL ab.bz;have R:=y6 @hk1 (y6 @hk2 (y6 @hk3 (y6 @hk4 (y6 @hk5 (y6 @hk6 (y6 @q (y6 @U (y6 @he (y6 @q2 (y6 @cO (y6 @aZ az)))))))))))
   repeat' ((first |(with_reducible refine .guard (fun hb =>?_) (fun hb =>?_) <;>try simp only[hb])|refine ae.aB (by decide +kernel) rfl fun K hK =>?_|refine .lead _ (hF) ?_|refine .lead _ (hF2) ?_|(refine .au [0,1,2,3,4,5,6,7,8,45,46,54,63,73,91,117,128,141,144,149,161,186,190,197] hK ?_;clear hK K)|(with_reducible refine .done (hK _ ?_);clear hK K)|refine ae.of rfl ?_|(with_reducible refine av.aA (fun h =>?_) (fun h =>?_) <;>try simp only[h])) <;>try simp only[aC,R,simprocAttr])
   all_goals clear R
theorem Jc(s:cD)(x:bn)(ab:Small s)(hk:x.kind=7):bd Tryz.prog 76 [enc s,enc x] (.tuple [enc (cR s x).1,enc (cR s x).2]):=by
 refine bd.b5 Tryz.func76 nk nl nm (t7 rfl) (fun hwf W0 bH E1 =>?_);simp only[c76,mL,bM,zz4];clear hwf;refine nH _ _ s x ab.ao ?_;unfold lA;have hk1:(x.kind==1)=false:=by simp;omega
 have hk2:(x.kind==2)=false:=by simp;omega
 have hk3:(x.kind==3)=false:=by simp;omega
 have hk4:(x.kind==4)=false:=by simp;omega
 have hk5:(x.kind==5)=false:=by simp;omega
 have hk6:(x.kind==6)=false:=by simp;omega
 have e1:cR s x=if x.other=s.aD∨jM s x.other x.no≠0 then (s,false)
   else if x.kind=7 then if decide (x.aL∈s.here)||jd s x.aL then (s,false) else (gB { s with here:=eH s.here x.aL } x,true)
   else (gB s x,true):=by
  unfold cR;rw[if_neg (by omega),if_neg (by omega),if_neg (by omega),if_neg (by omega),if_neg (by omega),if_neg (by omega)]
 have hF1:=Ai s x.other x.no ab.ab;have hF2:=vF s x.aL ab.ao;have hF3:=sQ s.here x.aL ab.bz;rcases gx (x.other==s.aD) with q | q
 rotate_left
 ·rw[e1,if_pos (.inl (by simpa using q))];have R:=y6 @hk1 (y6 @hk2 (y6 @hk3 (y6 @hk4 (y6 @hk5 (y6 @hk6 (y6 @q (y6 @cO (y6 @aZ az))))))))
  repeat' ((first |(with_reducible refine .guard (fun hb =>?_) (fun hb =>?_) <;>try simp only[hb])|refine ae.aB (by decide +kernel) rfl fun K hK =>?_|(refine .au [0,1,2,3,4,5,6,7,8,45,46,54,63,73,91,117,128,141,144,149,161,186,190,197] hK ?_;clear hK K)|(with_reducible refine .done (hK _ ?_);clear hK K)|refine ae.of rfl ?_|(with_reducible refine av.aA (fun h =>?_) (fun h =>?_) <;>try simp only[h])) <;>try simp only[aC,R,simprocAttr])
  all_goals clear R
 rcases gx (jM s x.other x.no != 0) with q2 | q2
 rotate_left
 ·rw[e1,if_pos (.inr (by simpa using q2))];have R:=y6 @hk1 (y6 @hk2 (y6 @hk3 (y6 @hk4 (y6 @hk5 (y6 @hk6 (y6 @q (y6 @q2 (y6 @cO (y6 @aZ az)))))))))
  repeat' ((first |(with_reducible refine .guard (fun hb =>?_) (fun hb =>?_) <;>try simp only[hb])|refine ae.aB (by decide +kernel) rfl fun K hK =>?_|refine .flat _ (hF1) rfl ?_|(refine .au [0,1,2,3,4,5,6,7,8,45,46,54,63,73,91,117,128,141,144,149,161,186,190,197] hK ?_;clear hK K)|(with_reducible refine .done (hK _ ?_);clear hK K)|refine ae.of rfl ?_|(with_reducible refine av.aA (fun h =>?_) (fun h =>?_) <;>try simp only[h])) <;>try simp only[aC,R,simprocAttr])
  all_goals clear R
 rw[e1,if_neg (fun h=>h.elim (by simpa using q) (by simpa using q2))];rw[if_pos hk];have hk7:(x.kind==7)=true:=by rw[hk];rfl
 rcases gx (decide (x.aL∈s.here)) with q3 | q3
 ·rcases gx (jd s x.aL) with q4 | q4
  ·rw[show (if (decide (x.aL∈s.here)||jd s x.aL)=true then ((s,false):cD×Bool) else (gB { s with here:=eH s.here x.aL } x,true))=(gB { s with here:=eH s.here x.aL } x,true) by rw[q3,q4];rfl];have hF4:=zW { s with here:=eH s.here x.aL } x ab.ab;have R:=y6 @hk1 (y6 @hk2 (y6 @hk3 (y6 @hk4 (y6 @hk5 (y6 @hk6 (y6 @hk7 (y6 @q (y6 @q2 (y6 @q3 (y6 @q4 (y6 @cO (y6 @aZ az))))))))))))
   repeat' ((first |(with_reducible refine .guard (fun hb =>?_) (fun hb =>?_) <;>try simp only[hb])|refine ae.aB (by decide +kernel) rfl fun K hK =>?_|refine .flat _ (hF1) rfl ?_|refine .flat _ (hF2) rfl ?_|refine .lead _ (hF3) ?_|refine .lead _ (hF4) ?_|(refine .au [0,1,2,3,4,5,6,7,8,45,46,54,63,73,91,117,128,141,144,149,161,186,190,197] hK ?_;clear hK K)|(with_reducible refine .done (hK _ ?_);clear hK K)|refine ae.of rfl ?_|(with_reducible refine av.aA (fun h =>?_) (fun h =>?_) <;>try simp only[h])) <;>try simp only[aC,R,simprocAttr])
   all_goals clear R
  ·rw[show (if (decide (x.aL∈s.here)||jd s x.aL)=true then ((s,false):cD×Bool) else (gB { s with here:=eH s.here x.aL } x,true))=(s,false) by rw[q3,q4];rfl];have R:=y6 @hk1 (y6 @hk2 (y6 @hk3 (y6 @hk4 (y6 @hk5 (y6 @hk6 (y6 @hk7 (y6 @q (y6 @q2 (y6 @q3 (y6 @q4 (y6 @cO (y6 @aZ az))))))))))))
   repeat' ((first |(with_reducible refine .guard (fun hb =>?_) (fun hb =>?_) <;>try simp only[hb])|refine ae.aB (by decide +kernel) rfl fun K hK =>?_|refine .flat _ (hF1) rfl ?_|refine .flat _ (hF2) rfl ?_|(refine .au [0,1,2,3,4,5,6,7,8,45,46,54,63,73,91,117,128,141,144,149,161,186,190,197] hK ?_;clear hK K)|(with_reducible refine .done (hK _ ?_);clear hK K)|refine ae.of rfl ?_|(with_reducible refine av.aA (fun h =>?_) (fun h =>?_) <;>try simp only[h])) <;>try simp only[aC,R,simprocAttr])
   all_goals clear R
 ·rw[show (if (decide (x.aL∈s.here)||jd s x.aL)=true then ((s,false):cD×Bool) else (gB { s with here:=eH s.here x.aL } x,true))=(s,false) by rw[q3];rfl];have R:=y6 @hk1 (y6 @hk2 (y6 @hk3 (y6 @hk4 (y6 @hk5 (y6 @hk6 (y6 @hk7 (y6 @q (y6 @q2 (y6 @q3 (y6 @cO (y6 @aZ az)))))))))))
  repeat' ((first |(with_reducible refine .guard (fun hb =>?_) (fun hb =>?_) <;>try simp only[hb])|refine ae.aB (by decide +kernel) rfl fun K hK =>?_|refine .flat _ (hF1) rfl ?_|refine .flat _ (hF2) rfl ?_|(refine .au [0,1,2,3,4,5,6,7,8,45,46,54,63,73,91,117,128,141,144,149,161,186,190,197] hK ?_;clear hK K)|(with_reducible refine .done (hK _ ?_);clear hK K)|refine ae.of rfl ?_|(with_reducible refine av.aA (fun h =>?_) (fun h =>?_) <;>try simp only[h])) <;>try simp only[aC,R,simprocAttr])
  all_goals clear R
theorem Jd(s:cD)(x:bn)(ab:Small s)(hk:8≤x.kind∨x.kind<1):bd Tryz.prog 76 [enc s,enc x] (.tuple [enc (cR s x).1,enc (cR s x).2]):=by
 refine bd.b5 Tryz.func76 nk nl nm (t7 rfl) (fun hwf W0 bH E1 =>?_);simp only[c76,mL,bM,zz4];clear hwf;refine nH _ _ s x ab.ao ?_;unfold lA;have hk1:(x.kind==1)=false:=by simp;omega
 have hk2:(x.kind==2)=false:=by simp;omega
 have hk3:(x.kind==3)=false:=by simp;omega
 have hk4:(x.kind==4)=false:=by simp;omega
 have hk5:(x.kind==5)=false:=by simp;omega
 have hk6:(x.kind==6)=false:=by simp;omega
 have e1:cR s x=if x.other=s.aD∨jM s x.other x.no≠0 then (s,false)
   else if x.kind=7 then if decide (x.aL∈s.here)||jd s x.aL then (s,false) else (gB { s with here:=eH s.here x.aL } x,true)
   else (gB s x,true):=by
  unfold cR;rw[if_neg (by omega),if_neg (by omega),if_neg (by omega),if_neg (by omega),if_neg (by omega),if_neg (by omega)]
 have hF1:=Ai s x.other x.no ab.ab;have hF2:=vF s x.aL ab.ao;have hF3:=sQ s.here x.aL ab.bz;rcases gx (x.other==s.aD) with q | q
 rotate_left
 ·rw[e1,if_pos (.inl (by simpa using q))];have R:=y6 @hk1 (y6 @hk2 (y6 @hk3 (y6 @hk4 (y6 @hk5 (y6 @hk6 (y6 @q (y6 @cO (y6 @aZ az))))))))
  repeat' ((first |(with_reducible refine .guard (fun hb =>?_) (fun hb =>?_) <;>try simp only[hb])|refine ae.aB (by decide +kernel) rfl fun K hK =>?_|(refine .au [0,1,2,3,4,5,6,7,8,45,46,54,63,73,91,117,128,141,144,149,161,186,190,197] hK ?_;clear hK K)|(with_reducible refine .done (hK _ ?_);clear hK K)|refine ae.of rfl ?_|(with_reducible refine av.aA (fun h =>?_) (fun h =>?_) <;>try simp only[h])) <;>try simp only[aC,R,simprocAttr])
  all_goals clear R
 rcases gx (jM s x.other x.no != 0) with q2 | q2
 rotate_left
 ·rw[e1,if_pos (.inr (by simpa using q2))];have R:=y6 @hk1 (y6 @hk2 (y6 @hk3 (y6 @hk4 (y6 @hk5 (y6 @hk6 (y6 @q (y6 @q2 (y6 @cO (y6 @aZ az)))))))))
  repeat' ((first |(with_reducible refine .guard (fun hb =>?_) (fun hb =>?_) <;>try simp only[hb])|refine ae.aB (by decide +kernel) rfl fun K hK =>?_|refine .flat _ (hF1) rfl ?_|(refine .au [0,1,2,3,4,5,6,7,8,45,46,54,63,73,91,117,128,141,144,149,161,186,190,197] hK ?_;clear hK K)|(with_reducible refine .done (hK _ ?_);clear hK K)|refine ae.of rfl ?_|(with_reducible refine av.aA (fun h =>?_) (fun h =>?_) <;>try simp only[h])) <;>try simp only[aC,R,simprocAttr])
  all_goals clear R
 rw[e1,if_neg (fun h=>h.elim (by simpa using q) (by simpa using q2))];rw[if_neg (by omega)];have hk7:(x.kind==7)=false:=by simp;omega
 have hF4:=zW s x ab.ab;have R:=y6 @hk1 (y6 @hk2 (y6 @hk3 (y6 @hk4 (y6 @hk5 (y6 @hk6 (y6 @hk7 (y6 @q (y6 @q2 (y6 @cO (y6 @aZ az))))))))))
 repeat' ((first |(with_reducible refine .guard (fun hb =>?_) (fun hb =>?_) <;>try simp only[hb])|refine ae.aB (by decide +kernel) rfl fun K hK =>?_|refine .flat _ (hF1) rfl ?_|refine .lead _ (hF4) ?_|(refine .au [0,1,2,3,4,5,6,7,8,45,46,54,63,73,91,117,128,141,144,149,161,186,190,197] hK ?_;clear hK K)|(with_reducible refine .done (hK _ ?_);clear hK K)|refine ae.of rfl ?_|(with_reducible refine av.aA (fun h =>?_) (fun h =>?_) <;>try simp only[h])) <;>try simp only[aC,R,simprocAttr])
 all_goals clear R
theorem I5(s:cD)(x:bn)(ab:Small s):bd Tryz.prog 76 [enc s,enc x] (.tuple [enc (cR s x).1,enc (cR s x).2]):=by
 by_cases J:x.kind=1;· exact I6 s x ab J
 by_cases U:x.kind=2;· exact I7 s x ab U
 by_cases af:x.kind=3;· exact I8 s x ab af
 by_cases ar:x.kind=4;· exact I9 s x ab ar
 by_cases h5:x.kind=5;· exact Ja s x ab h5
 by_cases h6:x.kind=6;· exact Jb s x ab h6
 by_cases h7:x.kind=7;· exact Jc s x ab h7
 exact Jd s x ab (by omega)
theorem FO:∀ (l:List Int) (n:Int),(eH l n).length≤l.length+1
 | [],n=>by simp[eH]
 |x::l,n=>by
  have:=FO l n;simp only[eH];split
  ·simp only[zx8];omega
  ·split <;>simp
theorem aa4(l:List Int)(n:Int):(iq l n).length≤l.length:=List.length_filter_le _ _
theorem Pq(s:cD)(i:Nat):(jH s i).bL.length≤s.bL.length:=by
 simp only[jH,zz8,zx2,zw9];omega
structure pq (s:cD) (i:Nat):Prop where
 ao:s.bL.length≤i
 bz:s.here.length≤i
 ab:s.bA.length≤i
 aR:0≤s.dO
 J:s.dO≤i
theorem pq.small{s:cD}{i:Nat}(h:pq s i)(hi:i≤1000):Small s:=by
 obtain ⟨J,U,af,ar,h5⟩:=h;exact ⟨by omega,by omega,by omega,ar,by omega⟩
theorem pq.next{s:cD}{i:Nat}(h:pq s i)(x:bn)(ht:(cR s x).2=true):pq (cR s x).1 (i+1):=by
 obtain ⟨J,U,af,ar,h5⟩:=h;have hp:=FO s.here x.aL;have hq:=aa4 s.here x.aL;have he:=Pq s (atR s x);have hm:(s.bL.modify (atR s x) fun r => { r with dM:=true }).length=s.bL.length:=List.length_modify ..;have e1:(jH s (atR s x)).here=s.here:=rfl;have e2:(jH s (atR s x)).bA=s.bA:=rfl;have e3:(jH s (atR s x)).dO=s.dO:=rfl;unfold cR at ht ⊢;split at ht
 ·rename_i hk;rw[if_pos hk];split at ht
  ·cases ht
  ·rename_i h;rw[if_neg h];exact ⟨by simp only;omega,by simp only;omega,by simp only;omega,ar,by simp only;omega⟩
 rename_i hk;rw[if_neg hk];clear hk;split at ht
 ·rename_i hk;rw[if_pos hk];exact ⟨by simp only;omega,by simp only;omega,by simp only;omega,ar,by simp only;omega⟩
 rename_i hk;rw[if_neg hk];clear hk;split at ht
 ·rename_i hk;rw[if_pos hk];split at ht
  ·cases ht
  ·rename_i h;rw[if_neg h];have:x.no=s.dO+1:=Classical.byContradiction fun hn=>h (.inr (.inr hn));exact ⟨by simp only[zz8,zw6];omega,by simp only;omega,by simp only;omega,by simp only;omega,by simp only;omega⟩
 rename_i hk;rw[if_neg hk];clear hk;split at ht
 ·rename_i hk;rw[if_pos hk];split at ht
  ·rename_i h;rw[if_pos h];exact ⟨by simp only[List.length_modify];omega,by simp only;omega,by simp only;omega,ar,by simp only;omega⟩
  ·cases ht
 rename_i hk;rw[if_neg hk];clear hk;split at ht
 ·rename_i hk;rw[if_pos hk];split at ht
  ·rename_i h;rw[if_pos h];exact ⟨by simp only;omega,by simp only[e1];omega,by simp only[e2];omega,by simp only[e3];omega,by simp only[e3];omega⟩
  ·cases ht
 rename_i hk;rw[if_neg hk];clear hk;split at ht
 ·rename_i hk;rw[if_pos hk];split at ht
  ·rename_i h;rw[if_pos h];exact ⟨by simp only;omega,by simp only;omega,by simp only[e2];omega,by simp only[e3];omega,by simp only[e3];omega⟩
  ·cases ht
 rename_i hk;rw[if_neg hk];clear hk;split at ht
 ·cases ht
 rename_i hk;rw[if_neg hk];clear hk;split at ht
 ·rename_i hk;rw[if_pos hk];split at ht
  ·cases ht
  ·rename_i h;rw[if_neg h];exact ⟨by simp only[gB];omega,by simp only[gB];omega,by simp only[gB,zz8,zw6];omega,ar,by simp only[gB];omega⟩
 ·rename_i hk;rw[if_neg hk];exact ⟨by simp only[gB];omega,by simp only[gB];omega,by simp only[gB,zz8,zw6];omega,ar,by simp only[gB];omega⟩
def gT(s:cD):List bn→cD×Bool
 | []=>(s,true)
 |x::l=>if fZ x then (if (cR s x).2 then gT (cR s x).1 l else (s,false)) else (s,false)
def ka(aD:Int):cD:=⟨aD,[],0,[],[]⟩
def sB(aD:Int):I:=.agg [.int .i64 aD,.nils 1,.int .i64 0,.nils 4,.nils 4]
theorem Kz(aD:Int):(dS [.int .i64 0,.nils 1,.int .i64 0,.nils 4,.nils 4] [(0,.int .i64 aD)]).map I.agg=some (sB aD):=by simp[dS,I.bX,I.size];rfl
def sO(b:I)(s:cD):Prop:=(b=sB s.aD∧s=ka s.aD)∨b=enc s
theorem sO.CX{b:I}{s:cD}(h:sO b s):ca (some 5) b=true∧(∀ aP A,br aP A b=some (enc s))∧(∀ A n rest (q:cD),c7 A (some 5) n [] b (enc q) rest (some b)=aE rest (A.aT n (.box (enc q))))∧(∀ A n rest x y,c7 A (some 5) n [] (.agg [.int .i64 x,.nils 1,.int .i64 y,.nils 4,.nils 4]) b rest (some (.agg [.int .i64 x,.nils 1,.int .i64 y,.nils 4,.nils 4]))=aE rest (A.aT n (.box b)))∧b.bX=true∧(∀ p,b.only p=true):=by
 rcases h with ⟨rfl,U⟩ | rfl
 ·refine ⟨rfl,fun aP A =>?_,fun A n rest q =>?_,fun A n rest x y=>dI rfl rfl rfl,rfl,fun _=>rfl⟩
  ·rw[U];simp only[sB,br,cm];rfl
  ·rw[dI (eF _) (by rw[fB];rfl) ((eX _).trans rfl),oZ]
 ·refine ⟨by rw[fB];rfl,fun aP A=>by simp only[ml],fun A n rest q =>?_,fun A n rest x y =>?_,eF _,fun _=>b7 _ _⟩
  ·rw[dI (eF _) (by rw[fB];rfl) ((eX _).trans (eX _).symm),oZ]
  ·rw[dI (eF _) (by rw[fB];rfl) (eX _),oZ]
def vW(p:bI)(n:Nat)(t:Nat×I×cD):ai:=aw [(0,enc p),(1,.int .i64 n),(2,.ptr 2 []),(4,.ptr 4 []),(5,.bool false),(6,.ptr 6 []),(7,.int .i64 t.1)] [(6,.box t.2.1),(4,.box (.agg [.int .i64 0,.nils 1,.int .i64 0,.nils 4,.nils 4])),(2,.box (enc p))]
theorem I1(p:bI)(n:Nat)(hn:n≤p.j.length)(ao:n≤200):bd Tryz.prog 65 [enc p,enc (n:Int)] (.tuple [enc (gT (ka p.aD) (p.j.take n)).1,enc (gT (ka p.aD) (p.j.take n)).2]):=by
 refine bd.b5 Tryz.func65 Li Mq NO (t7 rfl) (fun hwf W0 bH E1 =>?_);simp only[Bt,GF,bM,zz4];clear hwf;generalize hL:p.j.take n=L;have hLl:L.length=n:=by rw[←hL,zx2];omega
 obtain ⟨z1,z2,z3,z4,z5,z6⟩:=sO.CX (b:=sB p.aD) (s:=ka p.aD) (.inl ⟨rfl,rfl⟩);have R:=y6 @Kz (y6 @z4 (y6 @cO (y6 @e6 (y6 @aZ az))))
 repeat' ((first |refine ae.aB (by decide +kernel) rfl fun K hK =>?_|(refine .au [0,1,2,4,5,6,7,8,9,15,24,37] hK ?_;clear hK K)|(with_reducible refine .done (hK _ ?_);clear hK K)|refine ae.of rfl ?_|(with_reducible refine av.aA (fun h =>?_) (fun h =>?_) <;>try simp only[h])) <;>try simp only[aC,R,simprocAttr])
 all_goals clear R
 refine ae.loop (vW p n) (fun t=>t.1≤n∧gT (ka p.aD) L=gT t.2.2 (L.drop t.1)∧pq t.2.2 t.1∧sO t.2.1 t.2.2) (fun t=>n-t.1) (0,sB p.aD,ka p.aD) ⟨zw1 _,rfl,⟨zw1 _,zw1 _,zw1 _,Int.le_refl _,Int.le_refl _⟩,.inl ⟨rfl,rfl⟩⟩ ?_ ?_
 ·simp only[vW];clear z1 z2 z3 z4 z5 hL;refine bp.cG ?_ ?_ ?_ ?_ <;>simp[*,b6,cF,cn,ct,ay,bY,cQ,I.only,I.b8,aq.only,b7]
 clear z1 z2 z3 z4 z5 z6;rintro ⟨i,b,s⟩ ⟨hi,hr,hu,hb0⟩;simp only at hi hr hu hb0;obtain ⟨z1,z2,z3,z4,z5,z6⟩:=hb0.CX;simp only[vW];by_cases hlt:i<n
 ·have hc:=fK hlt;have hij:i<p.j.length:=by omega
  have he:=fun A=>eK (A:=A) 4 hij rfl;have hw:=fg (i:=i) (by omega);have hx:L.drop i=p.j[i]::L.drop (i+1):=by
   have U:i<L.length:=by omega
   rw[List.drop_eq_getElem_cons U]
   congr 1
   subst hL;rw[List.getElem_take]
  rw[hx] at hr;obtain ⟨x,hxe⟩:∃ x,x=p.j[i]:=⟨_,rfl⟩
  rw[←hxe] at he hr;have hF1:=IK x;have hF2:=I5 s x (hu.small (by omega));rcases gx (fZ x) with q | q
  ·rw[hr,show gT s (x::L.drop (i+1))=(s,false) by simp only[gT,q];rfl];rw[q] at hF1;have R:=y6 @hc (y6 @he (y6 @z1 (y6 @z2 (y6 @z4 (y6 @cO (y6 @e6 (y6 @aZ az)))))))
   repeat' ((first |refine ae.aB (by decide +kernel) rfl fun K hK =>?_|refine .flat _ (hF1) rfl ?_|(refine .au [0,1,2,4,5,6,7,8,9,15,24,37] hK ?_;clear hK K)|(with_reducible refine .done (hK _ ?_);clear hK K)|refine ae.of rfl ?_|(with_reducible refine av.aA (fun h =>?_) (fun h =>?_) <;>try simp only[h])) <;>try simp only[aC,R,simprocAttr])
   all_goals clear R
  ·rw[q] at hF1;rcases gx (cR s x).2 with q2 | q2
   ·rw[hr,show gT s (x::L.drop (i+1))=(s,false) by simp only[gT,q,q2];rfl];rw[q2] at hF2;have R:=y6 @hc (y6 @he (y6 @z1 (y6 @z2 (y6 @z4 (y6 @cO (y6 @e6 (y6 @aZ az)))))))
    repeat' ((first |refine ae.aB (by decide +kernel) rfl fun K hK =>?_|refine .flat _ (hF1) rfl ?_|refine .lead _ (hF2) ?_|(refine .au [0,1,2,4,5,6,7,8,9,15,24,37] hK ?_;clear hK K)|(with_reducible refine .done (hK _ ?_);clear hK K)|refine ae.of rfl ?_|(with_reducible refine av.aA (fun h =>?_) (fun h =>?_) <;>try simp only[h])) <;>try simp only[aC,R,simprocAttr])
    all_goals clear R
   ·have hu':=hu.next x q2
    have hr':gT (ka p.aD) L=gT (cR s x).1 (L.drop (i+1)):=by rw[hr];simp only[gT,q,q2,if_true]
    rw[q2] at hF2;have R:=y6 @hc (y6 @he (y6 @hw (y6 @z1 (y6 @z2 (y6 @z3 (y6 @cO (y6 @e6 (y6 @aZ az))))))))
    repeat' ((first |refine ae.aB (by decide +kernel) rfl fun K hK =>?_|refine .flat _ (hF1) rfl ?_|refine .lead _ (hF2) ?_|(refine .au [0,1,2,4,5,6,7,8,9,15,24,37] hK ?_;clear hK K)|(with_reducible refine .done (hK _ ?_);clear hK K)|refine ae.of rfl ?_|(with_reducible refine av.aA (fun h =>?_) (fun h =>?_) <;>try simp only[h])) <;>try simp only[aC,R,simprocAttr])
    all_goals clear R
    refine ⟨(i+1,enc (cR s x).1,(cR s x).1),⟨by simp only;omega,hr',hu',.inr rfl⟩,by simp only;omega,?_⟩;simp only;clear hr hr' z1 z2 z3 z4 z5 z6;refine bp.cG ?_ ?_ ?_ ?_ <;>simp[b6,cF,cn,ct,ay,bY,cQ,I.only,I.b8,aq.only,b7]
 ·have hc:=fR hlt;have ah:L.drop i=[]:=List.drop_eq_nil_of_le (by omega);rw[hr,ah,show gT s []=(s,true) from rfl];have R:=y6 @hc (y6 @z1 (y6 @z2 (y6 @z4 (y6 @cO (y6 @e6 (y6 @aZ az))))))
  repeat' ((first |refine ae.aB (by decide +kernel) rfl fun K hK =>?_|(refine .au [0,1,2,4,5,6,7,8,9,15,24,37] hK ?_;clear hK K)|(with_reducible refine .done (hK _ ?_);clear hK K)|refine ae.of rfl ?_|(with_reducible refine av.aA (fun h =>?_) (fun h =>?_) <;>try simp only[h])) <;>try simp only[aC,R,simprocAttr])
  all_goals clear R
def abz(p:bI):cD:=(gT (ka p.aD) p.j).1
def lI(p:bI):Int:=if dJ 0 5 p.aD=true∧p.j.length≤200∧dJ 0 p.j.length p.di=true∧(gT (ka p.aD) p.j).2=true then 0 else 91
theorem Aa(p:bI):bd Tryz.prog 24 [enc p] (enc (lI p)):=by
 refine bd.b5 Tryz.func24 K3 Mb Ny (t7 rfl) (fun hwf W0 bH E1 =>?_);simp only[Bg,Gp,bM];clear hwf;have hF1:=Af p.aD;have hF2:=sU p.di 0 p.j.length;rcases gx (dJ 0 5 p.aD) with q | q
 ·rw[show lI p=91 from if_neg fun h=>by rw[q] at h;cases h.1];rw[q] at hF1;have R:=y6 @cO (y6 @e6 az)
  repeat' ((first |(with_reducible refine .guard (fun hb =>?_) (fun hb =>?_) <;>try simp only[hb])|refine ae.aB (by decide +kernel) rfl fun K hK =>?_|refine .flat _ (hF1) rfl ?_|(refine .au [0,1,2,4,23,33] hK ?_;clear hK K)|(with_reducible refine .done (hK _ ?_);clear hK K)|refine ae.of rfl ?_|(with_reducible refine av.aA (fun h =>?_) (fun h =>?_) <;>try simp only[h])) <;>try simp only[aC,R,simprocAttr])
  all_goals clear R
 rw[q] at hF1;rcases gx (decide ((p.j.length:Int)>200)) with q2 | q2
 rotate_left
 ·rw[show lI p=91 from if_neg fun h=>by have:=h.2.1;have:=of_decide_eq_true q2;omega];have R:=y6 @q2 (y6 @cO (y6 @e6 az))
  repeat' ((first |(with_reducible refine .guard (fun hb =>?_) (fun hb =>?_) <;>try simp only[hb])|refine ae.aB (by decide +kernel) rfl fun K hK =>?_|refine .flat _ (hF1) rfl ?_|(refine .au [0,1,2,4,23,33] hK ?_;clear hK K)|(with_reducible refine .done (hK _ ?_);clear hK K)|refine ae.of rfl ?_|(with_reducible refine av.aA (fun h =>?_) (fun h =>?_) <;>try simp only[h])) <;>try simp only[aC,R,simprocAttr])
  all_goals clear R
 have U:p.j.length≤200:=by have:=of_decide_eq_false q2;omega
 rcases gx (dJ 0 p.j.length p.di) with q3 | q3
 ·rw[show lI p=91 from if_neg fun h=>by rw[q3] at h;cases h.2.2.1];rw[q3] at hF2;have R:=y6 @q2 (y6 @cO (y6 @e6 az))
  repeat' ((first |(with_reducible refine .guard (fun hb =>?_) (fun hb =>?_) <;>try simp only[hb])|refine ae.aB (by decide +kernel) rfl fun K hK =>?_|refine .flat _ (hF1) rfl ?_|refine .flat _ (hF2) rfl ?_|(refine .au [0,1,2,4,23,33] hK ?_;clear hK K)|(with_reducible refine .done (hK _ ?_);clear hK K)|refine ae.of rfl ?_|(with_reducible refine av.aA (fun h =>?_) (fun h =>?_) <;>try simp only[h])) <;>try simp only[aC,R,simprocAttr])
  all_goals clear R
 rw[q3] at hF2;have hF:=I1 p p.j.length (zz3 _) U;rw[zv5] at hF;rcases gx (gT (ka p.aD) p.j).2 with q4 | q4
 ·rw[show lI p=91 from if_neg fun h=>by rw[q4] at h;cases h.2.2.2];rw[q4] at hF;have R:=y6 @q2 (y6 @cO (y6 @e6 az))
  repeat' ((first |(with_reducible refine .guard (fun hb =>?_) (fun hb =>?_) <;>try simp only[hb])|refine ae.aB (by decide +kernel) rfl fun K hK =>?_|refine .flat _ (hF1) rfl ?_|refine .flat _ (hF2) rfl ?_|refine .lead _ (hF) ?_|(refine .au [0,1,2,4,23,33] hK ?_;clear hK K)|(with_reducible refine .done (hK _ ?_);clear hK K)|refine ae.of rfl ?_|(with_reducible refine av.aA (fun h =>?_) (fun h =>?_) <;>try simp only[h])) <;>try simp only[aC,R,simprocAttr])
  all_goals clear R
 ·rw[show lI p=0 from if_pos ⟨q,U,q3,q4⟩];rw[q4] at hF;have R:=y6 @q2 (y6 @cO (y6 @e6 az))
  repeat' ((first |(with_reducible refine .guard (fun hb =>?_) (fun hb =>?_) <;>try simp only[hb])|refine ae.aB (by decide +kernel) rfl fun K hK =>?_|refine .flat _ (hF1) rfl ?_|refine .flat _ (hF2) rfl ?_|refine .lead _ (hF) ?_|(refine .au [0,1,2,4,23,33] hK ?_;clear hK K)|(with_reducible refine .done (hK _ ?_);clear hK K)|refine ae.of rfl ?_|(with_reducible refine av.aA (fun h =>?_) (fun h =>?_) <;>try simp only[h])) <;>try simp only[aC,R,simprocAttr])
  all_goals clear R
end Go.Proofs.YthbdbocionnfgaaGreatDoor
namespace Go.Proofs.YthbdbocionnfgaaGreatDoor
open Go Go.Abs
theorem E5(l:List Int)(n b:Int):b∈eH l n↔b=n∨b∈l:=by
 induction l with
 |nil=>simp[eH]
 |cons x l ih =>
  simp only[eH];split
  ·simp only[zx3,ih];constructor
   ·rintro (h | h | h) <;>simp[h]
   ·rintro (h | h | h) <;>simp[h]
  ·split
   ·rename_i h;subst h;simp
   ·simp
theorem ac2{l:List Int}(h:l.Pairwise (· < ·))(n:Int):(eH l n).Pairwise (· < ·):=by
 induction l with
 |nil=>simp[eH]
 |cons x l ih =>
  obtain ⟨J,U⟩:=List.pairwise_cons.1 h;simp only[eH];split
  ·refine List.pairwise_cons.2 ⟨fun a ha =>?_,ih U⟩;rcases (E5 l n a).1 ha with rfl | ha
   ·assumption
   ·exact J a ha
  ·split
   ·exact h
   ·refine List.pairwise_cons.2 ⟨fun a ha =>?_,h⟩;rcases zx3.1 ha with rfl | ha
    ·omega
    ·have:=J a ha;omega
theorem abl(l:List Int)(n b:Int):b∈iq l n↔b∈l∧b≠n:=by simp[iq]
theorem aa5{l:List Int}(h:l.Pairwise (· < ·))(n:Int):(iq l n).Pairwise (· < ·):=h.filter _
def sx(x:bn):iA:=⟨x.kind,x.other,x.no,x.aL⟩
structure eD (s:aI) (t:cD):Prop where
 aD:t.aD=s.aD
 here:∀ b,b∈t.here↔b∈s.here
 qD:t.here.Pairwise (· < ·)
 dO:t.dO=s.all.length
 bL:t.bL=s.bL
 bA:t.bA=s.bA.map sx
 oB:∀ x∈s.bA,x.kind≠0
 no:∀ i,i<s.all.length→(s.cw i).no=(i:Int)+1
 cJ:s.aU.Pairwise (· < ·)
 ok:cI s
theorem eD.zero(aD:Int):eD (fk aD) (ka aD):=⟨rfl,fun b=>by simp[fk,ka],by simp[ka],rfl,rfl,rfl,fun x hx=>by simp[fk] at hx,fun i hi=>by simp[fk] at hi,by simp[fk],lU aD⟩
theorem eD.OZ{s:aI}{t:cD}(h:eD s t)(b:Int):decide (b∈t.here)=decide (b∈s.here):=by simp only[h.here]
theorem eD.J3{s:aI}{t:cD}(h:eD s t)(b:Int):jd t b=s.fD b:=by simp only[jd,aI.fD,h.bL]
theorem eD.aaL{s:aI}{t:cD}(h:eD s t)(x:bn):(jM t x.other x.no≠0)↔fU x∈s.en:=by
 have hk:=h.oB;simp only[jM,h.bA,aI.en];revert hk;generalize s.bA=l;intro hk
 induction l with
 |nil=>simp
 |cons y l ih =>
  have ih':=ih fun z hz=>hk z (List.mem_cons_of_mem _ hz);simp only[zz5,List.find?_cons,zx3];by_cases e:(sx y).dw=x.other∧(sx y).no=x.no
  ·rw[decide_eq_true e];simp only;have e2:fU x=fU y:=by
    simp only[sx] at e;simp only[fU,e.1,e.2]
   exact ⟨fun _=>.inl e2,fun _=>hk y List.mem_cons_self⟩
  ·rw[decide_eq_false e];refine Iff.trans ih' ?_;constructor
   ·exact .inr
   ·rintro (h | h)
    ·exfalso;apply e
     simp only[fU,n1.mk.injEq] at h;simp only[sx,h.1,h.2,and_self]
    ·exact h
theorem eD.ael{s:aI}{t:cD}(h:eD s t)(x:bn):(s.unknown x=true)↔¬ (x.other=t.aD∨jM t x.other x.no≠0):=by
 rw[h.aaL,h.aD];simp only[aI.unknown,zz0,bne_iff_ne,ne_eq,Bool.not_eq_true',decide_eq_false_iff_not,not_or]
theorem eD.bM{s:aI}{t:cD}(h:eD s t)(no:Int):(s.at no=none∧j7 t no=none)∨∃ k,∃ hk:k<s.aU.length,s.at no=some s.aU[k]∧j7 t no=some k:=by
 have hno:∀ i∈s.aU,(s.cw i).no=(i:Int)+1:=fun i hi=>h.no i (h.ok.cJ i hi);simp only[aI.at,j7,h.bL,aI.bL];revert hno;generalize s.aU=l;intro hno
 induction l with
 |nil=>exact .inl ⟨rfl,rfl⟩
 |cons i l ih =>
  have hi:=hno i List.mem_cons_self;simp only[List.find?_cons,zz5,List.findIdx?_cons,hi];by_cases e:no=(i:Int)+1
  ·exact .inr ⟨0,by simp,by simp[e],by simp[e]⟩
  ·have e':¬ (i:Int)+1=no:=fun h=>e h.symm;rw[decide_eq_false e,decide_eq_false e'];rcases ih fun j hj=>hno j (List.mem_cons_of_mem _ hj) with ⟨J,U⟩ | ⟨k,hk,J,U⟩
   ·exact .inl ⟨J,by simp[U]⟩
   ·exact .inr ⟨k+1,by simpa using hk,by simpa using J,by simp[U]⟩
theorem eD.iV{s:aI}{t:cD}(h:eD s t)(x:bn):(s.on x=none∧ir t x=false)∨∃ k,∃ hk:k<s.aU.length,s.on x=some s.aU[k]∧ir t x=true∧atR t x=k∧pC t x=(s.cw s.aU[k]).dM:=by
 rcases h.bM x.no with ⟨J,U⟩ | ⟨k,hk,J,U⟩
 ·exact .inl ⟨by simp only[aI.on,J],by simp only[ir,U]⟩
 ·have hr:t.bL[k]?=some (s.cw s.aU[k]):=by rw[h.bL,aI.bL,zx4,zy2 hk];rfl
  by_cases e:(s.cw s.aU[k]).to=x.other∧(s.cw s.aU[k]).aL=x.aL
  ·exact .inr ⟨k,hk,by simp only[aI.on,J,if_pos e],by simp[ir,U,hr,e.1,e.2],by simp[atR,U],by simp[pC,U,hr]⟩
  ·refine .inl ⟨by simp only[aI.on,J,if_neg e],?_⟩;simp only[ir,U,hr,Bool.and_eq_false_iff,beq_eq_false_iff_ne,ne_eq];by_cases e1:(s.cw s.aU[k]).to=x.other
   ·exact .inr fun e2=>e ⟨e1,e2⟩
   ·exact .inl e1
theorem Pw{l:List Nat}(h:l.Nodup)(k:Nat)(hk:k<l.length):l.erase l[k]=l.take k++l.drop (k+1):=by
 induction l generalizing k with
 |nil=>simp at hk
 |cons x l ih =>
  cases k with
  |zero=>simp
  |succ k =>
   obtain ⟨J,U⟩:=List.nodup_cons.1 h;have hk':k<l.length:=by simpa using hk
   have:¬ x=l[k]:=fun e=>J (e▸zw7 hk');simp only[List.getElem_cons_succ,zw2,List.drop_succ_cons,zy1];rw[List.erase_cons_tail (by simpa using this),ih U k hk']
theorem abk(l:List Int)(n b:Int):b∈h0 l n↔b=n∨b∈l:=by
 unfold h0;split
 ·constructor
  ·exact .inr
  ·rintro (rfl | h)
   ·assumption
   ·exact h
 ·simp only[zw0,zx1];exact Or.comm
theorem adx{s:aI}(ab:cI s)(r:dB)(h:List Int):({ s with here:=h,all:=s.all++[r],aU:=s.aU++[s.all.length] } : aI).bL=s.bL++[r]:=by
 simp only[aI.bL,zy5,zz5,zx7,aI.cw]
 congr 1
 ·refine List.map_congr_left fun i hi =>?_
  show (s.all++[r]).getD i default=s.all.getD i default
  simp only[zz1,zy6 (ab.cJ i hi)]
 ·simp
theorem ady{s:aI}(ab:cI s){k:Nat}(hk:k<s.aU.length):({ s with all:=s.all.set s.aU[k] { s.cw s.aU[k] with dM:=true } } : aI).bL=s.bL.modify k fun r => { r with dM:=true } :=by
 have ao:=ab.cJ;have hn:=ab.jr;refine List.ext_getElem (by simp[aI.bL]) fun j J U =>?_;have hj:j<s.aU.length:=by simpa[aI.bL] using J
 rw[List.getElem_modify];simp only[aI.bL,List.getElem_map,aI.cw,zz1];by_cases e:k=j
 ·subst e;rw[if_pos rfl,List.getElem?_set_self (ao _ (zw7 hk))];rfl
 ·have hne:s.aU[k]≠s.aU[j]:=fun e'=>e ((List.getElem_inj hn).1 e');rw[if_neg e,List.getElem?_set_ne hne]
theorem eD.CL{s:aI}{t:cD}(h:eD s t){k:Nat}(hk:k<s.aU.length):eD { s with aU:=s.aU.erase s.aU[k] } (jH t k):=by
 have hr:(jH t k).bL=({ s with aU:=s.aU.erase s.aU[k] } : aI).bL:=by
  simp only[jH,h.bL,aI.bL,Pw h.ok.jr k hk,zy5,List.map_take,List.map_drop];rfl
 exact ⟨h.aD,h.here,h.qD,h.dO,hr,h.bA,h.oB,h.no,h.cJ.sublist List.erase_sublist,⟨fun i hi=>h.ok.cJ i (List.mem_of_mem_erase hi),h.ok.jr.erase _,h.ok.ah⟩⟩
theorem eD.put{s:aI}{t:cD}(h:eD s t)(b:Int):eD { s with here:=h0 s.here b } { t with here:=eH t.here b } :=
 ⟨h.aD,fun c=>by simp only[E5,abk,h.here],ac2 h.qD b,h.dO,h.bL,h.bA,h.oB,h.no,h.cJ,⟨h.ok.cJ,h.ok.jr,n2 h.ok.ah⟩⟩
theorem eD.oD{s:aI}{t:cD}(h:eD s t)(b:Int):eD { s with here:=s.here.erase b } { t with here:=iq t.here b } :=
 ⟨h.aD,fun c=>by simp only[abl,h.here,h.ok.ah.mem_erase_iff];exact And.comm,aa5 h.qD b,h.dO,h.bL,h.bA,h.oB,h.no,h.cJ,⟨h.ok.cJ,h.ok.jr,h.ok.ah.erase _⟩⟩
theorem eD.HM{s:aI}{t:cD}(h:eD s t){x:bn}(hx:x.kind≠0):eD { s with bA:=s.bA++[x] } (gB t x) :=
 ⟨h.aD,h.here,h.qD,h.dO,h.bL,by simp only[gB,h.bA,zy5];rfl,fun y hy=>by
  rcases zw0.1 hy with hy | hy
  ·exact h.oB y hy
  ·rw[zx1.1 hy];exact hx,h.no,h.cJ,⟨h.ok.cJ,h.ok.jr,h.ok.ah⟩⟩
theorem eD.step{s:aI}{t:cD}(h:eD s t){x:bn}(hx:fZ x=true):match ff s x with
  |some s'=>(cR t x).2=true∧eD s' (cR t x).1
  |none=>(cR t x).2=false:=by
 have hk:1≤x.kind∧x.kind≤8:=by
  simp only[fZ] at hx;split at hx
  ·omega
  ·split at hx
   ·omega
   ·cases hx
 have hb:=h.here x.aL;have ah:=h.OZ x.aL;have ha:=h.J3 x.aL;simp only[ff,cR,ah,ha];by_cases k1:x.kind=1
 ·simp only[if_pos k1];by_cases c:x.aL∈s.here∨s.fD x.aL=true
  ·have c2:(decide (x.aL∈s.here)||s.fD x.aL)=true:=by simpa using c
   simp only[if_pos c,if_pos c2]
  ·have c2:¬ (decide (x.aL∈s.here)||s.fD x.aL)=true:=by simpa using c
   simp only[if_neg c,if_neg c2];exact ⟨trivial,h.put _⟩
 simp only[if_neg k1];by_cases k2:x.kind=2
 ·simp only[if_pos k2];by_cases c:x.aL∈s.here
  ·simp only[if_pos c,decide_eq_true c];exact ⟨trivial,h.oD _⟩
  ·simp only[if_neg c,decide_eq_false c]
 simp only[if_neg k2];by_cases k3:x.kind=3
 ·simp only[if_pos k3];by_cases c:x.aL∈s.here∧x.other≠s.aD∧x.no=(s.all.length:Int)+1
  ·have c2:¬ (x.aL∉t.here∨x.other=t.aD∨x.no≠t.dO+1):=by
    rw[hb,h.aD,h.dO];rintro (c' | c' | c')
    ·exact c' c.1
    ·exact c.2.1 c'
    ·exact c' c.2.2
   simp only[if_pos c,if_neg c2];have ao:=h.oD x.aL;refine ⟨trivial,h.aD,ao.here,ao.qD,by simp only[zz8,zw6,c.2.2];omega,?_,h.bA,h.oB,fun i hi =>?_,?_,?_⟩
   ·rw[adx h.ok,h.bL]
   ·simp only[zz8,zw6] at hi;by_cases e:i<s.all.length
    ·have:=h.no i e;rw[←this];simp only[aI.cw,zz1,zy6 e]
    ·have e2:i=s.all.length:=by omega
     subst e2;simp only[aI.cw,zz1];simp[c.2.2]
   ·refine List.pairwise_append.2 ⟨h.cJ,by simp,fun a ha b hb =>?_⟩;rw[zx1.1 hb];exact h.ok.cJ a ha
   ·have hn:ff s x=some { s with here:=s.here.erase x.aL,all:=s.all++[⟨x.no,x.other,x.aL,false⟩],aU:=s.aU++[s.all.length] } :=by
     simp only[ff,if_neg k1,if_neg k2,if_pos k3,if_pos c]
    exact (h.ok.next hn).1
  ·have c2:x.aL∉t.here∨x.other=t.aD∨x.no≠t.dO+1:=by
    rw[hb,h.aD,h.dO];by_cases c1:x.aL∈s.here
    ·by_cases c3:x.other=s.aD
     ·exact .inr (.inl c3)
     ·exact .inr (.inr fun e=>c ⟨c1,c3,e⟩)
    ·exact .inl c1
   simp only[if_neg c,if_pos c2]
 simp only[if_neg k3];by_cases k4:x.kind=4
 ·simp only[if_pos k4];rcases h.iV x with ⟨J,U⟩ | ⟨k,hk',J,U,af,ar⟩
  ·simp only[J,U];rfl
  ·simp only[J,U,af,ar];rcases Bool.eq_false_or_eq_true (s.cw s.aU[k]).dM with c | c
   ·rw[c];rfl
   ·rw[c];refine ⟨rfl,h.aD,h.here,h.qD,h.dO.trans (by simp),?_,h.bA,h.oB,fun i hi =>?_,h.cJ,?_⟩
    ·show t.bL.modify k _=_
     rw[ady h.ok hk',h.bL]
    ·have hi':i<s.all.length:=by simpa using hi
     simp only[aI.cw,zz1,List.getElem?_set];split
     ·rename_i e;rw[if_pos (e▸hi')];simp only[Option.getD_some,e];have:=h.no i hi';simpa only[aI.cw,zz1] using this
     ·have:=h.no i hi';simpa only[aI.cw,zz1] using this
    ·have hn:ff s x=some { s with all:=s.all.set s.aU[k] { s.cw s.aU[k] with dM:=true } } :=by
      simp only[ff,if_neg k1,if_neg k2,if_neg k3,if_pos k4,J,c];rfl
     exact (h.ok.next hn).1
 simp only[if_neg k4];by_cases k5:x.kind=5
 ·simp only[if_pos k5];rcases h.iV x with ⟨J,U⟩ | ⟨k,hk',J,U,af,ar⟩
  ·simp only[J,U];rfl
  ·simp only[J,U,af];exact ⟨rfl,h.CL hk'⟩
 simp only[if_neg k5];by_cases k6:x.kind=6
 ·simp only[if_pos k6];rcases h.iV x with ⟨J,U⟩ | ⟨k,hk',J,U,af,ar⟩
  ·simp only[J,U];rfl
  ·simp only[J,U,af,ar];rcases Bool.eq_false_or_eq_true (s.cw s.aU[k]).dM with c | c
   ·rw[c];exact ⟨rfl,(h.CL hk').put x.aL⟩
   ·rw[c];rfl
 simp only[if_neg k6];have hu:=h.ael x;by_cases c:x.other=t.aD∨jM t x.other x.no≠0
 ·have hu':¬ s.unknown x=true:=fun bz=>hu.1 bz c;simp only[if_pos c];by_cases k7:x.kind=7
  ·rw[if_pos k7,if_neg fun bz=>hu' bz.1];trivial
  ·rw[if_neg k7,if_pos (by omega),if_neg hu'];trivial
 ·have hu':s.unknown x=true:=hu.2 c;simp only[if_neg c];by_cases k7:x.kind=7
  ·simp only[if_pos k7];by_cases c2:(decide (x.aL∈s.here)||s.fD x.aL)=true
   ·have hn:¬ (s.unknown x=true∧x.aL∉s.here∧s.fD x.aL=false):=fun bz=>by
     simp only[Bool.or_eq_true,decide_eq_true_eq] at c2;rcases c2 with c2 | c2
     ·exact bz.2.1 c2
     ·rw[bz.2.2] at c2;cases c2
    simp only[if_pos c2,if_neg hn]
   ·have c3:=c2;simp only[Bool.or_eq_true,decide_eq_true_eq,not_or,Bool.not_eq_true] at c3;have hn:s.unknown x=true∧x.aL∉s.here∧s.fD x.aL=false:=⟨hu',c3.1,c3.2⟩
    simp only[if_neg c2,if_pos hn];exact ⟨trivial,(h.put x.aL).HM (by omega)⟩
  ·simp only[if_neg k7];rw[if_pos (by omega),if_pos hu'];exact ⟨trivial,h.HM (by omega)⟩
theorem eD.run:∀ (l:List bn) {s:aI} {t:cD},eD s t→match gA s l with
  |some s'=>(gT t l).2=true∧eD s' (gT t l).1
  |none=>(gT t l).2=false
 | [],s,t,h=>⟨rfl,h⟩
 |x::l,s,t,h=>by
  simp only[gA,gT,gW];by_cases hx:fZ x=true
  ·have ab:=h.step hx;rw[if_pos hx,if_pos hx];cases hn:ff s x with
   |none=>rw[hn] at ab;simp only at ab ⊢;rw[ab];rfl
   |some s' =>
    rw[hn] at ab;simp only at ab ⊢;rw[ab.1,if_pos rfl];exact eD.run l ab.2
  ·rw[if_neg hx,if_neg hx]
theorem acw(p:bI):match dD p with
  |some s=>lI p=0∧eD s (abz p)
  |none=>lI p=91:=by
 have hr:=eD.run p.j (eD.zero p.aD);simp only[dD,ga,lI];by_cases hk:iG p=true
 ·have hk':=hk;simp only[iG,zz0,decide_eq_true_eq] at hk';rw[if_pos hk];cases hq:gA (fk p.aD) p.j with
  |none=>rw[hq] at hr;simp only at hr ⊢;rw[if_neg fun h=>by rw[hr] at h;cases h.2.2.2]
  |some s=>rw[hq] at hr;exact ⟨if_pos ⟨hk'.1,hk'.2.1,hk'.2.2,hr.1⟩,hr.2⟩
 ·rw[if_neg hk];refine if_neg fun h=>hk ?_;simp only[iG,zz0,decide_eq_true_eq];exact ⟨h.1,h.2.1,h.2.2.1⟩
theorem Cn(p:bI):iB p=lI p:=by
 have h:=acw p;simp only[iB];cases ho:dD p with
 |none=>rw[ho] at h;exact h.symm
 |some s=>rw[ho] at h;exact h.1.symm
end Go.Proofs.YthbdbocionnfgaaGreatDoor
namespace Go.Proofs.YthbdbocionnfgaaGreatDoor
open Go Go.Abs
open Go.Abs.Enc (enc)
theorem sR:bd Tryz.prog 121 [] (enc dU):=by
 refine bd.b5 Tryz.func121 KS L2 Nd (t7 rfl) (fun hwf W0 bH E1 =>?_);simp only[A7,F6,bM];have R:=y6 @AM az
 repeat' ((first |refine ae.aB (by decide +kernel) rfl fun K hK =>?_|(refine .au [0] hK ?_;clear hK K)|(with_reducible refine .done (hK _ ?_);clear hK K)|refine ae.of rfl ?_|(with_reducible refine av.aA (fun h =>?_) (fun h =>?_) <;>try simp only[h])) <;>try simp only[aC,R,simprocAttr])
 all_goals clear R
 all_goals rfl
theorem aaC{n:Int}(h:0≤n∧n<10):gI n=aG.of [UInt8.ofNat (48+n).toNat]:=by
 obtain ⟨m,rfl⟩:=zx9 h.1;refine aG.pO ?_
 show Lib.itoa (m:Int)=[_]
 rw[Lib.itoa_nonneg,Lib.decDigits_one (by omega)];rw[show ((48:Int)+(m:Int)).toNat=48+m by omega]
theorem aaA{n:Int}(h:10≤n):gI n=mV (gI (n.tdiv 10)) (aG.of [UInt8.ofNat (48+n.tmod 10).toNat]):=by
 obtain ⟨m,rfl⟩:=zx9 (show 0≤n by omega);refine aG.pO ?_;rw[zp];have e1:((m:Int)).tdiv 10=((m / 10:Nat):Int):=rfl;have e2:((m:Int)).tmod 10=((m%10:Nat):Int):=rfl;rw[e1,e2]
 show Lib.itoa (m:Int)=Lib.itoa ((m / 10:Nat):Int)++[_]
 rw[Lib.itoa_nonneg,Lib.itoa_nonneg,wT (by omega)];rw[show ((48:Int)+((m%10:Nat):Int)).toNat=48+m%10 by omega]
theorem aaB{n:Int}(h:IntKind.i64.min≤n∧n≤IntKind.i64.max):(gI n).l.length≤21:=by
 rw[←aG.size];exact ue h
theorem zM{n:Int}(h:0≤n∧n<256):IntKind.u8.wrap n=n:=by
 simp only[IntKind.wrap,IntKind.bits,IntKind.signed];simp;omega
theorem zX:∀ (k:Nat) (n:Int),0≤n→n<k→n≤9223372036854775807→bd Tryz.prog 120 [enc n] (enc (gI n))
 |0,n,aR,J,_=>by omega
 |k+1,n,aR,J,U=>by
  rcases q:decide (n<10)
  ·have bz:¬ n<10:=of_decide_eq_false q;have hd0:0≤n.tdiv 10:=Int.tdiv_nonneg aR (by omega);have hd1:n.tdiv 10<n:=by
    obtain ⟨m,rfl⟩:=zx9 aR;have e1:((m:Int)).tdiv 10=((m / 10:Nat):Int):=rfl;rw[e1];omega
   have hm0:0≤n.tmod 10:=Int.tmod_nonneg 10 aR;have hm1:n.tmod 10<10:=Int.tmod_lt_of_pos n (by omega);have ih:=zX k (n.tdiv 10) hd0 (by omega) (by omega);have hw1:IntKind.i64.wrap (n.tdiv 10)=n.tdiv 10:=iy _ (by omega) (by omega);have hw2:IntKind.i64.wrap (48+n.tmod 10)=48+n.tmod 10:=iy _ (by omega) (by omega);have hw3:IntKind.u8.wrap (48+n.tmod 10)=48+n.tmod 10:=zM (by omega);have hbig:=aaA (show 10≤n by omega);have hlen:=aaB (n:=n.tdiv 10) (aaq (by omega));have hadd:=adG (gI (n.tdiv 10)) (aG.of [UInt8.ofNat (48+n.tmod 10).toNat]) (by rw[aG.iU];simp;omega);rw[hbig];refine bd.b5 Tryz.func120 BP B9 Cs (t7 rfl) (fun hwf W0 bH E1 =>?_);simp only[wm,yW,bM];have R:=y6 @q (y6 @hw1 (y6 @hw2 (y6 @hw3 (y6 @hadd (y6 @cz az)))))
   repeat' ((first |refine ae.aB (by decide +kernel) rfl fun K hK =>?_|refine .flat _ (ih) rfl ?_|(refine .au [0,2,4] hK ?_;clear hK K)|(with_reducible refine .done (hK _ ?_);clear hK K)|refine ae.of rfl ?_|(with_reducible refine av.aA (fun h =>?_) (fun h =>?_) <;>try simp only[h])) <;>try simp only[aC,R,simprocAttr])
   all_goals clear R
   all_goals rfl
  ·have bz:n<10:=of_decide_eq_true q;have hw2:IntKind.i64.wrap (48+n)=48+n:=iy _ (by omega) (by omega);have hw3:IntKind.u8.wrap (48+n)=48+n:=zM (by omega);rw[aaC ⟨aR,bz⟩];refine bd.b5 Tryz.func120 BP B9 Cs (t7 rfl) (fun hwf W0 bH E1 =>?_);simp only[wm,yW,bM];have R:=y6 @q (y6 @hw2 (y6 @hw3 (y6 @cz az)))
   repeat' ((first |refine ae.aB (by decide +kernel) rfl fun K hK =>?_|(refine .au [0,2,4] hK ?_;clear hK K)|(with_reducible refine .done (hK _ ?_);clear hK K)|refine ae.of rfl ?_|(with_reducible refine av.aA (fun h =>?_) (fun h =>?_) <;>try simp only[h])) <;>try simp only[aC,R,simprocAttr])
   all_goals clear R
   all_goals rfl
where
 aaq {n:Int} (h:0≤n∧n≤9223372036854775807):IntKind.i64.min≤n∧n≤IntKind.i64.max:=by
  have J:IntKind.i64.min=-9223372036854775808:=by decide
  have U:IntKind.i64.max=9223372036854775807:=by decide
  omega
theorem LL(a b d:aG):gP (gP a b) d=gP a (gP b d):=by
 refine aG.pO ?_
 show (mV (mV a b) d).l=(mV a (mV b d)).l
 simp only[zp,zy3]
theorem vK(w:aG)(l:List Int)(hb:w.b.size+22*l.length≤1000000000000)(hp:∀ x∈l,0≤x):bd Tryz.prog 95 [enc w,enc l] (enc (jv w l)):=by
 refine bd.b5 Tryz.func95 LB MI N7 (t7 rfl) (fun hwf W0 bH E1 =>?_);simp only[BI,GY,bM,zz4];have hlen:l.length≤maxLen:=((kI l).1 hwf.2.1).1;have hwl:∀ x∈l,IntKind.i64.min≤x∧x≤IntKind.i64.max:=fun x hx=>((kI l).1 hwf.2.1).2 x hx;simp only[maxLen] at hlen;have ab:=u9 w hwl;refine .fT (by decide +kernel) fun K hK =>?_;simp only[DL,bF,simprocAttr];refine .done (hK _ ?_);clear hK K;refine ae.seq ?_;refine .fT (by decide +kernel) fun K hK =>?_;simp only[DM,bF,simprocAttr]
 try simp only[kH,bF,simprocAttr]
 refine .done (hK _ ?_);clear hK K;refine ae.block (ae.loop (fun i:Nat=>aw [(0,enc (gp w l i)),(7,enc l),(8,.int .i64 l.length),(9,.int .i64 i)] []) (fun i=>i≤l.length) (fun i=>l.length-i) 0 (zw1 _) ?_ (fun i hi =>?_))
 ·refine bp.cG ?_ ?_ ?_ ?_ <;>simp[b6,cF,cn,ct,bY,I.only,b7]
  all_goals rfl
 ·refine .fT (by decide +kernel) fun K hK =>?_;simp only[DN,bF,simprocAttr];refine .done (hK _ ?_);clear hK K;refine ae.seq ?_;refine ae.jZ ?_;simp only[av,bF,simprocAttr];refine ⟨fun h =>?_,fun h =>?_⟩
  ·have hlt:i<l.length:=by simpa using h
   refine ae.skip ?_;try simp only[ej,simprocAttr]
   refine ae.seq (ae.block ?_);refine .fT (by decide +kernel) fun K hK =>?_;simp only[DO,bF,simprocAttr]
   try simp only[eK 1 hlt rfl,bF,simprocAttr]
   refine .done (hK _ ?_);clear hK K;refine .j5 (by decide +kernel) fun K hK =>?_;simp only[DP,bF,simprocAttr];have J:=ue (hwl l[i] (zw7 _));have U:=ab i hi;have af:lj.b.size=1:=rfl;have ar:=(hwl l[i] (zw7 _)).2;have h5:IntKind.i64.max=9223372036854775807:=by decide
   try simp only[show (I.bm ⟨#[32]⟩)=I.bm lj.b from rfl,show (enc (gp w l i):I)=.bm (gp w l i).b from rfl,nh (gp w l i) lj (by omega),bF,simprocAttr]
   refine .flat _ (zX (l[i].toNat+1) l[i] (hp _ (zw7 _)) (by have:=hp _ (zw7 hlt);omega) (by omega)) rfl ?_
   try simp only[show (enc (gI l[i]):I)=.bm (gI l[i]).b from rfl,nh (gP (gp w l i) lj) (gI l[i]) (by rw[pD];omega),bF,simprocAttr]
   refine .done (hK _ ?_);clear hK K;try simp only[ej,jF]
   refine .j5 (by decide +kernel) fun K hK =>?_;simp only[DQ,bF,simprocAttr];refine .done (hK _ ?_);clear hK K;try simp only[ej]
   refine ⟨i+1,by omega,by omega,?_⟩;rw[iy _ (by omega) (by omega),vb w hlt,←LL];refine bp.cG ?_ ?_ ?_ ?_ <;>simp[b6,cF,cn,ct,bY,I.only,b7]
   all_goals rfl
  ·have hge:i=l.length:=by simp at h;omega
   subst hge;refine ae.exit ?_;try simp only[ej,jF,simprocAttr]
   have U:=ab l.length (zz3 _);have af:nB.b.size=1:=rfl;refine .fT (by decide +kernel) fun K hK =>?_;simp only[DR,bF,simprocAttr]
   try simp only[show (I.bm ⟨#[10]⟩)=I.bm nB.b from rfl,show (enc (gp w l l.length):I)=.bm (gp w l l.length).b from rfl,nh (gp w l l.length) nB (by omega),bF,simprocAttr]
   refine .done (hK _ ?_);clear hK K;refine ae.ret ?_;simp only[bF,simprocAttr];rfl
theorem Jm(x:bn)(hok:fZ x=true):bd Tryz.prog 96 [enc x] (enc (gJ x)):=by
 obtain ⟨hk,hk2,hk3,hk4⟩:=ql hok;have hwd:=El hk;have hww:=vy x.kind;by_cases bz:x.kind≤2
 ·have ao:gJ x=jv (fo x.kind) [x.aL]:=by simp[gJ,bz]
  have hR2:=vK (fo x.kind) [x.aL] (by simp;omega) (by simp;omega);rw[ao];rcases (show x.kind=1∨x.kind=2 by omega) with e | e
  ·have e1:(x.kind==1)=true:=by rw[e];rfl
   refine bd.b5 Tryz.func96 wG wI wP (t7 rfl) (fun hwf W0 bH E1 =>?_);simp only[tr,uT,bM];have R:=y6 @e1 (y6 @hwd (y6 @tq (y6 @bE (y6 @aZ (y6 @bw (y6 @bl (y6 @bj az)))))))
   repeat' ((first |(with_reducible refine .guard (fun hb =>?_) (fun hb =>?_) <;>try simp only[hb])|refine ae.aB (by decide +kernel) rfl fun K hK =>?_|refine .lead _ (sR) ?_|refine .flat _ (hR2) rfl ?_|(refine .au [0,1,2,10] hK ?_;clear hK K)|(with_reducible refine .done (hK _ ?_);clear hK K)|refine ae.of rfl ?_|(with_reducible refine av.aA (fun h =>?_) (fun h =>?_) <;>try simp only[h])) <;>try simp only[aC,R,simprocAttr])
   all_goals clear R
   all_goals rfl
  ·have e1:(x.kind==1)=false:=by rw[e];rfl
   have e2:(x.kind==2)=true:=by rw[e];rfl
   refine bd.b5 Tryz.func96 wG wI wP (t7 rfl) (fun hwf W0 bH E1 =>?_);simp only[tr,uT,bM];have R:=y6 @e1 (y6 @e2 (y6 @hwd (y6 @tq (y6 @bE (y6 @aZ (y6 @bw (y6 @bl (y6 @bj az))))))))
   repeat' ((first |(with_reducible refine .guard (fun hb =>?_) (fun hb =>?_) <;>try simp only[hb])|refine ae.aB (by decide +kernel) rfl fun K hK =>?_|refine .lead _ (sR) ?_|refine .flat _ (hR2) rfl ?_|(refine .au [0,1,2,10] hK ?_;clear hK K)|(with_reducible refine .done (hK _ ?_);clear hK K)|refine ae.of rfl ?_|(with_reducible refine av.aA (fun h =>?_) (fun h =>?_) <;>try simp only[h])) <;>try simp only[aC,R,simprocAttr])
   all_goals clear R
   all_goals rfl
 ·have ao:gJ x=jv (fo x.kind) [x.aL,x.other,x.no]:=by simp[gJ,bz]
  have hR2:=vK (fo x.kind) [x.aL,x.other,x.no] (by simp;omega) (by
   intro y hy;simp only[zx3,List.not_mem_nil,or_false] at hy;rcases hy with rfl | rfl | rfl <;>omega)
  have e1:(x.kind==1)=false:=by simp;omega
  have e2:(x.kind==2)=false:=by simp;omega
  rw[ao];refine bd.b5 Tryz.func96 wG wI wP (t7 rfl) (fun hwf W0 bH E1 =>?_);simp only[tr,uT,bM];have R:=y6 @e1 (y6 @e2 (y6 @hwd (y6 @AO (y6 @bE (y6 @aZ (y6 @bw (y6 @bl (y6 @bj az))))))))
  repeat' ((first |(with_reducible refine .guard (fun hb =>?_) (fun hb =>?_) <;>try simp only[hb])|refine ae.aB (by decide +kernel) rfl fun K hK =>?_|refine .lead _ (sR) ?_|refine .flat _ (hR2) rfl ?_|(refine .au [0,1,2,10] hK ?_;clear hK K)|(with_reducible refine .done (hK _ ?_);clear hK K)|refine ae.of rfl ?_|(with_reducible refine av.aA (fun h =>?_) (fun h =>?_) <;>try simp only[h])) <;>try simp only[aC,R,simprocAttr])
  all_goals clear R
  all_goals rfl
def Ap(p:bI)(i:Nat):ai :=
 aw [(1,.ptr 1 []),(5,enc (hJ p i)),(20,enc p.j),(21,.int .i64 p.j.length),(22,.int .i64 i)] [(1,.box (enc p))]
theorem IT(p:bI):bd Tryz.prog 54 [enc p] (.tuple [enc (kY p).1,enc (kY p).2]):=by
 refine bd.b5 Tryz.func54 Lc Mk NI (t7 rfl) (fun hwf W0 bH E1 =>?_);simp only[Bm,Gy,bM];clear hwf;have hF:=Aa p;rw[←Cn] at hF;simp only[iB] at hF;simp only[kY];cases ho:dD p with
 |none =>
  rw[ho] at hF;have R:=y6 @bE (y6 @aZ (y6 @bw (y6 @bl (y6 @bj az))))
  repeat' ((first |refine ae.aB (by decide +kernel) rfl fun K hK =>?_|refine .lead _ (hF) ?_|(refine .au [0,1,2,3,4,5,7,11,20,21,22,23] hK ?_;clear hK K)|(with_reducible refine .done (hK _ ?_);clear hK K)|refine ae.of rfl ?_|(with_reducible refine av.aA (fun h =>?_) (fun h =>?_) <;>try simp only[h])) <;>try simp only[aC,R,simprocAttr])
  all_goals clear R
  all_goals rfl
 |some s =>
  have hjl:=(iJ ho).2.2.2.1;have hok:=uJ ho;have hsz:=yS ho;have hp:fS.b.size=5:=rfl;have hfm:=(iJ ho).2.2.2.2.1;simp only[iG,dJ,zz0,decide_eq_true_eq] at hfm;have hR:=vK fS [p.aD,p.di] (by simp[hp]) (by
   intro y hy;simp only[zx3,List.not_mem_nil,or_false] at hy;rcases hy with rfl | rfl <;>omega)
  rw[ho] at hF;have R:=y6 @AN (y6 @bE (y6 @aZ (y6 @bw (y6 @bl (y6 @bj az)))))
  repeat' ((first |refine ae.aB (by decide +kernel) rfl fun K hK =>?_|refine .lead _ (hF) ?_|refine .flat _ (hR) rfl ?_|(refine .au [0,1,2,3,4,5,7,11,20,21,22,23] hK ?_;clear hK K)|(with_reducible refine .done (hK _ ?_);clear hK K)|refine ae.of rfl ?_|(with_reducible refine av.aA (fun h =>?_) (fun h =>?_) <;>try simp only[h])) <;>try simp only[aC,R,simprocAttr])
  all_goals clear R
  refine ae.loop (Ap p) (fun i=>i≤p.j.length) (fun i=>p.j.length-i) 0 (zw1 _) ?_ ?_
  ·refine bp.cG ?_ ?_ ?_ ?_ <;>simp[b6,cF,cn,ct,ay,bY,cQ,I.only,aq.only,b7]
   all_goals rfl
  intro i hi;simp only[Ap];have hsi:=hsz i hi;by_cases hlt:i<p.j.length
  ·have hc:=fK hlt;have he:=fun A=>eK (A:=A) 4 hlt rfl;have hw:=fg (i:=i) (by omega);have hst:∀ A rest b,c7 A (some 4) 7 [] b (enc p.j[i]) rest (some (.agg [.int .i64 0,.int .i64 0,.int .i64 0,.int .i64 0]))=aE rest (A.aT 7 (.box (enc p.j[i]))):=fun A rest b=>dI (eF _) (by rw[fB];rfl) (eX _);have hoki:=hok p.j[i] (zw7 hlt);have hls:=x4 hoki;have hps:=uQ p hlt;generalize p.j[i]=x at *;have hF96:=Jm x hoki;have had:cu .add (enc (hJ p i)) (enc (gJ x))=some (enc (gP (hJ p i) (gJ x))):=nh (hJ p i) (gJ x) (by omega);have R:=y6 @hc (y6 @he (y6 @hw (y6 @hst (y6 @had (y6 @bE (y6 @aZ (y6 @bw (y6 @bl (y6 @bj az)))))))))
   repeat' ((first |refine ae.aB (by decide +kernel) rfl fun K hK =>?_|refine .flat _ (hF96) rfl ?_|(refine .au [0,1,2,3,4,5,7,11,20,21,22,23] hK ?_;clear hK K)|(with_reducible refine .done (hK _ ?_);clear hK K)|refine ae.of rfl ?_|(with_reducible refine av.aA (fun h =>?_) (fun h =>?_) <;>try simp only[h])) <;>try simp only[aC,R,simprocAttr])
   all_goals clear R
   refine ⟨i+1,by omega,by omega,?_⟩;rw[hps];refine bp.cG ?_ ?_ ?_ ?_ <;>simp[b6,cF,cn,ct,ay,bY,cQ,I.only,aq.only,b7]
   all_goals rfl
  ·have hge:i=p.j.length:=by omega
   have hc:=fR hlt;subst hge;have R:=y6 @hc (y6 @bE (y6 @aZ (y6 @bw (y6 @bl (y6 @bj az)))))
   repeat' ((first |refine ae.aB (by decide +kernel) rfl fun K hK =>?_|(refine .au [0,1,2,3,4,5,7,11,20,21,22,23] hK ?_;clear hK K)|(with_reducible refine .done (hK _ ?_);clear hK K)|refine ae.of rfl ?_|(with_reducible refine av.aA (fun h =>?_) (fun h =>?_) <;>try simp only[h])) <;>try simp only[aC,R,simprocAttr])
   all_goals clear R
theorem ln(A:ai)(n:Nat)(b:I)(q:bn)(x y z w:Int)(rest:List aJ):c7 A (some 4) n [] b (enc q) rest (some (.agg [.int .i64 x,.int .i64 y,.int .i64 z,.int .i64 w]))=aE rest (A.aT n (.box (enc q))):=dI (eF _) (by rw[fB];rfl) (eX _)
theorem bT.sM{P:Program}{Y:Value→List I→List (Nat×aq)→cL→Prop}{ab:List FuncId}{K:ai→Prop}{v:Value}{vs:List I}{dst:Option Nat}{rest:List aJ}{ts:List (Nat×I)}{os osk ow:List (Nat×aq)}{In Ix:List (Nat×aq)→Prop}
  (hY:Y v vs osk (fun r os2=>(r=.bool true∧In os2)∨(r=.bool false∧Ix os2))) (hk:fq os osk) (hi:∀ os',In os'→fq os os') (hx:∀ os',Ix os'→fq os os') (hcl:I.cv vs=true) (how:∀ m,ay ow m=true→m<1000000)
  (J:∀ os2,In os2→bT P Y ab K (aE rest ((aw ts (ow++os2)).aW dst (.bool true)))) (U:∀ os2,Ix os2→bT P Y ab K (aE rest ((aw ts (ow++os2)).aW dst (.bool false)))) :
  bT P Y ab K (.lG v vs dst rest (aw ts (ow++osk))):=by
 refine .Ig osk vs _ hY (gG.jj hk how) (th vs hcl) ?_ ?_
 ·rintro r os' (⟨rfl,h⟩ | ⟨rfl,h⟩)
  ·exact gX.jj hk (hi _ h) rfl
  ·exact gX.jj hk (hx _ h) rfl
 ·rintro r os' (⟨rfl,h⟩ | ⟨rfl,h⟩)
  ·rw[tj hk (hi _ h) how];exact J os' h
  ·rw[tj hk (hx _ h) how];exact U os' h
theorem rB{os os2 ow:List (Nat×aq)}{ts:List (Nat×I)}(h:fq os os2)(how:∀ m,ay ow m=true→m<1000000):∀ n x,ak os2 n=some x→(aw ts (ow++os2)).o n=some x∧x.only (ay os2)=true∧x.eG=true:=fun n x hx=>by
 have hn:ay os2 n=true:=by simp[ay,hx]
 have hg:=h.mA n (by rw[←h.same];exact hn);refine ⟨?_,h.ok n x hx⟩;simp only[aw,fY];cases hw:ak ow n with
 |none=>exact hx
 |some y=>have:=how n (by simp[ay,hw]);omega
def uY:er:=⟨0,0,0,0,0⟩
def oP(s:aI)(to n:Int):er:=⟨if (s.cw (n.toNat-1)).dM then 3 else 1,s.aD,to,(s.cw (n.toNat-1)).aL,n⟩
def qF(s:aI)(to n:Int):Bool:=(s.cw (n.toNat-1)).to==to
def gH(s:aI)(to:Int)(i:Nat):List er:=(((cE s.bK).take i).filter (qF s to)).map (oP s to)
def l3(s:aI)(to:Int)(no:Nat):List er:=match s.bA.find? fun x=>decide (fU x=⟨to,no⟩) with
 |some x=>[⟨if x.kind=8 then 4 else 2,s.aD,to,x.aL,no⟩]
 |none=>[]
def il(s:aI)(to:Int)(k:Nat):List er:=(List.range k).flatMap fun i=>l3 s to (i+1)
def fM(s:aI)(to:Int):List er:=gH s to (cE s.bK).length++il s to 200
theorem xS(s:aI)(to:Int){i:Nat}(h:i<(cE s.bK).length):gH s to (i+1)=gH s to i++if qF s to (cE s.bK)[i] then [oP s to (cE s.bK)[i]] else []:=by
 simp only[gH,zy0 h,List.filter_append,zy5,List.filter_cons,List.filter_nil]
 congr 1
 split <;>rfl
theorem pY(s:aI)(to:Int)(k:Nat):il s to (k+1)=il s to k++l3 s to (k+1):=by
 simp only[il,List.range_succ,List.flatMap_append,List.flatMap_cons,List.flatMap_nil,zw4]
theorem Eo(s:aI)(to:Int):∀ {i n:Nat},i≤n→n≤(cE s.bK).length→gH s to i <+: gH s to n
 |i,0,h,_=>by
   have:i=0:=by omega
   subst this;exact List.prefix_rfl
 |i,n+1,h,hn=>by
  by_cases e:i=n+1
  ·subst e;exact List.prefix_rfl
  ·rw[xS s to (by omega)];exact (Eo s to (by omega) (by omega)).trans (List.prefix_append _ _)
theorem Es(s:aI)(to:Int):∀ {k n:Nat},k≤n→il s to k <+: il s to n
 |k,0,h=>by
   have:k=0:=by omega
   subst this;exact List.prefix_rfl
 |k,n+1,h=>by
  by_cases e:k=n+1
  ·subst e;exact List.prefix_rfl
  ·rw[pY];exact (Es s to (by omega)).trans (List.prefix_append _ _)
theorem DT{α:Type}{l m:List α}{x d:α}(h:l++[x] <+: m):l.length<m.length∧m.getD l.length d=x:=by
 obtain ⟨r,rfl⟩:=h;refine ⟨by simp,?_⟩;rw[zy3,zz1,zv3 (zz3 _)];simp
theorem ZJ{s:aI}{to:Int}{i:Nat}(h:i<(cE s.bK).length)(ht:qF s to (cE s.bK)[i]=true):(gH s to i).length<(fM s to).length∧(fM s to).getD (gH s to i).length uY=oP s to (cE s.bK)[i]:=by
 have J:=xS s to h;rw[if_pos ht] at J;have U:=Eo s to (i:=i+1) (n:=(cE s.bK).length) (by omega) (zz3 _);rw[J] at U;exact DT (U.trans (List.prefix_append _ _))
theorem ZK{s:aI}{to:Int}{k:Nat}{x:er}(h:k<200)(hx:l3 s to (k+1)=[x]):(gH s to (cE s.bK).length++il s to k).length<(fM s to).length∧(fM s to).getD (gH s to (cE s.bK).length++il s to k).length uY=x:=by
 have J:=pY s to k;rw[hx] at J;have U:=Es s to (k:=k+1) (n:=200) (by omega);rw[J] at U;refine DT ?_;rw[zy3];exact List.prefix_append_right_inj _ |>.2 U
theorem pA(a b c d e:Int):(dS [.int .i64 0,.int .i64 0,.int .i64 0,.int .i64 0,.int .i64 0] [(0,.int .i64 a),(1,.int .i64 b),(2,.int .i64 c),(3,.int .i64 d),(4,.int .i64 e)]).map I.agg=some (enc (⟨a,b,c,d,e⟩:er)):=by simp[dS,I.bX,I.size];rfl
theorem nT:(∀ A n b rest (q:er) x y z w u,c7 A (some 5) n [] b (enc q) rest (some (.agg [.int .i64 x,.int .i64 y,.int .i64 z,.int .i64 w,.int .i64 u]))=aE rest (A.aT n (.box (enc q)))) ∧
  (∀ (A:ai) n (q:er) rest (v u:Int),c7 A none n [0] (enc q) (.int .i64 v) rest (some (.int .i64 u))=aE rest (A.aT n (.box (enc (⟨v,q.dw,q.to,q.aL,q.no⟩:er))))) ∧
  (∀ A n b rest (q:bn) x y z w,c7 A (some 4) n [] b (enc q) rest (some (.agg [.int .i64 x,.int .i64 y,.int .i64 z,.int .i64 w]))=aE rest (A.aT n (.box (enc q)))) :=
 ⟨fun A n b rest q x y z w u=>dI (eF _) (by rw[fB];rfl) (eX _),fun A n q rest v u=>dI rfl rfl rfl,fun A n b rest q x y z w=>dI (eF _) (by rw[fB];rfl) (eX _)⟩
theorem uM{a b:aq} : ∀ m,ay [(7,a),(7,b)] m=true→m<1000000:=fun m h=>by
 simp only[ay,ak] at h
 (repeat' split at h) <;>first | omega | (simp at h;done)
theorem uN{a b c:aq} : ∀ m,ay [(7,a),(7,b),(7,c)] m=true→m<1000000:=fun m h=>by
 simp only[ay,ak] at h
 (repeat' split at h) <;>first | omega | (simp at h;done)
theorem uL{a b c d:aq} : ∀ m,ay [(11,a),(11,b),(9,c),(9,d)] m=true→m<1000000:=fun m h=>by
 simp only[ay,ak] at h
 (repeat' split at h) <;>first | omega | (simp at h;done)
theorem yK{a b c d e:aq} : ∀ m,ay [(11,a),(11,b),(11,e),(9,c),(9,d)] m=true→m<1000000:=fun m h=>by
 simp only[ay,ak] at h
 (repeat' split at h) <;>first | omega | (simp at h;done)
theorem acB:∀ m,ay [] m=true→m<1000000:=fun m h=>by simp[ay,ak] at h
theorem oi{ow os osk:List (Nat×aq)}(hw:∀ m,ay ow m=true→m<1000000)(gk:fq os osk):∀ m,ak osk m=none∨ak osk m=ak (ow++osk) m:=fun m=>by
 rw[fY];cases h:ak ow m with
 |none=>exact .inr rfl
 |some y=>exact .inl (gk.none (hw m (by simp[ay,h])))
theorem o8(p:Nat→Bool)(s:aI):(dP s).only p=true:=kW p _ (o7 s)
def s9(s:aI)(to:Int)(v:Value)(t:Nat×List (Nat×aq)):ai :=
 aw [(0,.raw v),(1,.ref (dP s)),(2,.ref (.int .i64 to)),(8,.int .i64 ((t.1:Int)+1))] t.2
def s8(s:aI)(to:Int)(v:Value)(t:Nat×List (Nat×aq)):ai :=
 aw [(0,.raw v),(1,.ref (dP s)),(2,.ref (.int .i64 to)),(13,enc (cE s.bK)),(14,.int .i64 (cE s.bK).length),(15,.int .i64 t.1)] t.2
theorem Io(s:aI)(to:Int)(ao:s.aU.length≤1000):Al Tryz.prog 107 [.ref (dP s),.ref (enc to)] (fM s to).length (fun k=>[enc ((fM s to).getD k uY)]):=by
 intro Y v aQ Ix os hv hY hI hIx aR;have hG:=hI 0 os aR;have hlen:(cE s.bK).length=s.aU.length:=by simp[cE,aI.bK]
 have hN:=Ah s (by omega);refine lu.b5 Tryz.func107 BM LV M6 (t7 rfl) (t7 rfl) hG.mA (fun hwf W0 bH E1 =>?_);simp only[AY,FZ,bM,zz4,Nat.reduceAdd];have R:=y6 @eU (y6 @aZ (y6 @bw (y6 @bl (y6 @bj az))))
 repeat' ((first |(with_reducible refine .guard (fun hb =>?_) (fun hb =>?_) <;>try simp only[hb])|refine ae.aB (by decide +kernel) rfl fun K hK =>?_|refine .lead _ (hN) ?_|(refine .au [0,1,2,5,6,7,8,9,10,11,13,14,15,16,39,52,55,80,88] hK ?_;clear hK K)|(with_reducible refine .done (hK _ ?_);clear hK K)|refine ae.of rfl ?_|(with_reducible refine av.aA (fun h =>?_) (fun h =>?_) <;>try simp only[h])) <;>try simp only[aC,R,simprocAttr])
 all_goals clear R
 refine ae.loop (s8 s to v) (fun t=>t.1≤(cE s.bK).length∧aQ (gH s to t.1).length t.2) (fun t=>(cE s.bK).length-t.1) (0,os) ⟨zw1 _,aR⟩ ?_ ?_
 ·refine bp.slots ?_ (fun n=>rfl);simp[b6,bY]
 rintro ⟨i,osk⟩ ⟨hi,hIk⟩;simp only at hi hIk;have gk:=hI _ osk hIk;have n7:=gk.none (n:=7) (by decide);simp only[s8];by_cases hlt:i<(cE s.bK).length
 ·have hc:=fK hlt;have he:=fun A=>eK (A:=A) 1 hlt rfl;have hw:=fg (i:=i) (by omega);have hlk:=EI s hlt;have hsu:=xS s to hlt;have hra:=ZJ (s:=s) (to:=to) hlt;obtain ⟨n,hn⟩:∃ n,n=(cE s.bK)[i]:=⟨_,rfl⟩
  rw[←hn] at he hlk hsu hra;obtain ⟨r,hr⟩:∃ r,r=s.cw (n.toNat-1):=⟨_,rfl⟩
  have hrd:oP s to n=⟨if r.dM then 3 else 1,s.aD,to,r.aL,n⟩:=by simp only[oP,←hr]
  have hta:qF s to n=(r.to==to):=by simp only[qF,←hr]
  rw[←hr] at hlk;rcases q:(r.to==to)
  ·rw[q] at hta;rw[hta] at hsu;simp only[zz2,if_false,zw4] at hsu;rcases qc:r.dM
   all_goals
    have R:=y6 @hc (y6 @he (y6 @hw (y6 @hlk (y6 @q (y6 @qc (y6 @n7 (y6 @pA (y6 @nT (y6 @eU (y6 @aZ (y6 @bw (y6 @bl (y6 @bj az)))))))))))))
    repeat' ((first |(with_reducible refine .guard (fun hb =>?_) (fun hb =>?_) <;>try simp only[hb])|(refine ae.qw (gs:=ov) [] [] [0,1,2,3,4,5,6,7,8,9,10,11] (by decide +kernel) (cZ.of (by simp[fG])) fun K hK =>?_;simp only[fm,ov,zy7,zy8,R,simprocAttr])|refine ae.aB (by decide +kernel) rfl fun K hK =>?_|(refine .au [0,1,2,5,6,7,8,9,10,11,13,14,15,16,39,52,55,80,88] hK ?_;clear hK K)|(with_reducible refine .done (hK _ ?_);clear hK K)|refine ae.of rfl ?_|(with_reducible refine av.aA (fun h =>?_) (fun h =>?_) <;>try simp only[h])) <;>try simp only[aC,R,simprocAttr])
    all_goals clear R
    refine ⟨(i+1,osk),⟨by simp only;omega,by simp only[hsu];exact hIk⟩,by simp only;omega,?_⟩;refine bp.fn ?_ ?_ ?_ (fun m x h=>(gk.ok m x h).1)
    ·simp[b6,bY]
    ·first | exact oi (ow:=[(7,_),(7,_)]) uM gk | exact oi (ow:=[(7,_),(7,_),(7,_)]) uN gk
    ·simp[cn,I.only,b7,o8]
  ·rw[q] at hta;rw[hta,if_pos rfl] at hsu;obtain ⟨g1,g2⟩:=hra hta;have hs1:(gH s to (i+1)).length=(gH s to i).length+1:=by rw[hsu];simp
   have hy:=hY _ osk _ g1 hIk (fun r os2 h=>h);simp only[g2,hrd] at hy;rcases qc:r.dM
   ·rw[qc] at hy;simp only[zz2,if_false] at hy;have R:=y6 @hc (y6 @he (y6 @hw (y6 @hlk (y6 @q (y6 @qc (y6 @n7 (y6 @pA (y6 @nT (y6 @tw (y6 @eU (y6 @aZ (y6 @bw (y6 @bl (y6 @bj az))))))))))))))
    repeat' ((first |(with_reducible refine .guard (fun hb =>?_) (fun hb =>?_) <;>try simp only[hb])|(refine ae.qw (gs:=ov) [] [] [0,1,2,3,4,5,6,7,8,9,10,11] (by decide +kernel) (cZ.of (by simp[fG])) fun K hK =>?_;simp only[fm,ov,zy7,zy8,R,simprocAttr])|refine ae.aB (by decide +kernel) rfl fun K hK =>?_|refine bT.sM (ow:=[(7,_),(7,_)]) hy gk (hI _) hIx (by simp[I.cv,lL]) uM (fun os2 U =>?_) (fun os2 U =>?_)|(refine .au [0,1,2,5,6,7,8,9,10,11,13,14,15,16,39,52,55,80,88] hK ?_;clear hK K)|(with_reducible refine .done (hK _ ?_);clear hK K)|refine ae.of rfl ?_|(with_reducible refine av.aA (fun h =>?_) (fun h =>?_) <;>try simp only[h])) <;>try simp only[aC,R,simprocAttr])
    all_goals clear R
    ·have g3:=hI _ os2 U;refine ⟨(i+1,os2),⟨by simp only;omega,by simp only[hs1];exact U⟩,by simp only;omega,?_⟩;refine bp.fn ?_ (oi uM g3) ?_ (fun m x h=>(g3.ok m x h).1)
     ·simp[b6,bY]
     ·simp[cn,I.only,b7,o8]
    ·rw[oU];exact ⟨os2,[],rB (hIx os2 U) uM,trivial,rfl,.inr U⟩
   ·rw[qc] at hy;simp only[if_true] at hy;have R:=y6 @hc (y6 @he (y6 @hw (y6 @hlk (y6 @q (y6 @qc (y6 @n7 (y6 @pA (y6 @nT (y6 @tw (y6 @eU (y6 @aZ (y6 @bw (y6 @bl (y6 @bj az))))))))))))))
    repeat' ((first |(with_reducible refine .guard (fun hb =>?_) (fun hb =>?_) <;>try simp only[hb])|(refine ae.qw (gs:=ov) [] [] [0,1,2,3,4,5,6,7,8,9,10,11] (by decide +kernel) (cZ.of (by simp[fG])) fun K hK =>?_;simp only[fm,ov,zy7,zy8,R,simprocAttr])|refine ae.aB (by decide +kernel) rfl fun K hK =>?_|refine bT.sM (ow:=[(7,_),(7,_),(7,_)]) hy gk (hI _) hIx (by simp[I.cv,lL]) uN (fun os2 U =>?_) (fun os2 U =>?_)|(refine .au [0,1,2,5,6,7,8,9,10,11,13,14,15,16,39,52,55,80,88] hK ?_;clear hK K)|(with_reducible refine .done (hK _ ?_);clear hK K)|refine ae.of rfl ?_|(with_reducible refine av.aA (fun h =>?_) (fun h =>?_) <;>try simp only[h])) <;>try simp only[aC,R,simprocAttr])
    all_goals clear R
    ·have g3:=hI _ os2 U;refine ⟨(i+1,os2),⟨by simp only;omega,by simp only[hs1];exact U⟩,by simp only;omega,?_⟩;refine bp.fn ?_ (oi uN g3) ?_ (fun m x h=>(g3.ok m x h).1)
     ·simp[b6,bY]
     ·simp[cn,I.only,b7,o8]
    ·rw[oU];exact ⟨os2,[],rB (hIx os2 U) uN,trivial,rfl,.inr U⟩
 ·have hge:i=(cE s.bK).length:=by omega
  have hc:=fR hlt;rw[hge] at hIk;rw[hge] at hc ⊢;have R:=y6 @hc (y6 @eU (y6 @aZ (y6 @bw (y6 @bl (y6 @bj az)))))
  repeat' ((first |(with_reducible refine .guard (fun hb =>?_) (fun hb =>?_) <;>try simp only[hb])|refine ae.aB (by decide +kernel) rfl fun K hK =>?_|(refine .au [0,1,2,5,6,7,8,9,10,11,13,14,15,16,39,52,55,80,88] hK ?_;clear hK K)|(with_reducible refine .done (hK _ ?_);clear hK K)|refine ae.of rfl ?_|(with_reducible refine av.aA (fun h =>?_) (fun h =>?_) <;>try simp only[h])) <;>try simp only[aC,R,simprocAttr])
  all_goals clear R
  refine ae.loop (s9 s to v) (fun t=>t.1≤200∧aQ (gH s to (cE s.bK).length++il s to t.1).length t.2) (fun t=>200-t.1) (0,osk) ⟨zw1 _,by simpa[il] using hIk⟩ ?_ ?_
  ·refine bp.slots ?_ (fun n=>rfl);simp[b6,bY]
  clear hIk gk n7 hc hlt hi hge;rintro ⟨k,osk⟩ ⟨hk,hIk⟩;simp only at hk hIk;have gk:=hI _ osk hIk;have n9:=gk.none (n:=9) (by decide);have n11:=gk.none (n:=11) (by decide);simp only[s9];by_cases hlt:k<200
  ·have hc:decide (((k:Int)+1)≤200)=true:=by simp;omega
   have hw:IntKind.i64.wrap ((k:Int)+1+1)=((k+1:Nat):Int)+1:=by rw[iy _ (by omega) (by omega)];omega
   have hsu:=pY s to k;have hlg:=EH w7 fU (fun x:bn=>enc x) (.agg [.int .i64 0,.int .i64 0,.int .i64 0,.int .i64 0]) ⟨to,(k:Int)+1⟩ s.bA;have ew:(enc (⟨to,(k:Int)+1⟩:n1):I)=.agg [.int .i64 to,.int .i64 ((k:Int)+1)]:=rfl;rw[ew] at hlg;have e2:(fun x:bn=>decide ((⟨to,(k:Int)+1⟩:n1)=fU x))=fun x=>decide (fU x=⟨to,(k:Int)+1⟩):=by
    funext x;rw[Bool.eq_iff_iff];simp[eq_comm]
   rw[e2] at hlg;have hrb:l3 s to (k+1)=match s.bA.find? fun x=>decide (fU x=⟨to,(k:Int)+1⟩) with
    |some x=>[⟨if x.kind=8 then 4 else 2,s.aD,to,x.aL,(k:Int)+1⟩]
    |none=>[]:=by simp only[l3];rfl
   have gr:=fun x=>ZK (s:=s) (to:=to) (k:=k) (x:=x) hlt;cases hf:s.bA.find? fun x=>decide (fU x=⟨to,(k:Int)+1⟩) with
   |none =>
    rw[hf] at hlg hrb;simp only at hlg hrb;have hlk:fJ (.bh [.i .i64,.i .i64]) (.agg [.int .i64 0,.int .i64 0,.int .i64 0,.int .i64 0]) (.agg [.int .i64 to,.int .i64 ((k:Int)+1)]) (s.en.map enc) (s.bA.map enc)=some (enc iE,false):=hlg;have q:(iE.kind==8)=false:=rfl;rw[hrb,zw4] at hsu;have R:=y6 @hc (y6 @hw (y6 @hlk (y6 @q (y6 @n9 (y6 @n11 (y6 @wj (y6 @pA (y6 @nT (y6 @eU (y6 @aZ (y6 @bw (y6 @bl (y6 @bj az)))))))))))))
    repeat' ((first |(with_reducible refine .guard (fun hb =>?_) (fun hb =>?_) <;>try simp only[hb])|refine ae.aB (by decide +kernel) rfl fun K hK =>?_|(refine .au [0,1,2,5,6,7,8,9,10,11,13,14,15,16,39,52,55,80,88] hK ?_;clear hK K)|(with_reducible refine .done (hK _ ?_);clear hK K)|refine ae.of rfl ?_|(with_reducible refine av.aA (fun h =>?_) (fun h =>?_) <;>try simp only[h])) <;>try simp only[aC,R,simprocAttr])
    all_goals clear R
    refine ⟨(k+1,osk),⟨by simp only;omega,by simp only[hsu];exact hIk⟩,by simp only;omega,?_⟩;refine bp.fn ?_ (oi (ow:=[(11,_),(11,_),(9,_),(9,_)]) uL gk) ?_ (fun m x h=>(gk.ok m x h).1)
    ·simp[b6,bY]
    ·simp[cn,I.only,o8]
   |some x =>
    rw[hf] at hlg hrb;simp only at hlg hrb;have hlk:fJ (.bh [.i .i64,.i .i64]) (.agg [.int .i64 0,.int .i64 0,.int .i64 0,.int .i64 0]) (.agg [.int .i64 to,.int .i64 ((k:Int)+1)]) (s.en.map enc) (s.bA.map enc)=some (enc x,true):=hlg;obtain ⟨g1,g2⟩:=gr _ hrb;rw[hrb] at hsu;have hs1:(gH s to (cE s.bK).length++il s to (k+1)).length=(gH s to (cE s.bK).length++il s to k).length+1:=by rw[hsu];simp only[zz8,zx8,List.length_nil];omega
    have hy:=hY _ osk _ g1 hIk (fun r os2 h=>h);simp only[g2] at hy;rcases q:(x.kind==8)
    ·have qk:¬ x.kind=8:=by simpa using q
     simp only[if_neg qk] at hy;have R:=y6 @hc (y6 @hw (y6 @hlk (y6 @q (y6 @n9 (y6 @n11 (y6 @wj (y6 @pA (y6 @nT (y6 @tw (y6 @eU (y6 @aZ (y6 @bw (y6 @bl (y6 @bj az))))))))))))))
     repeat' ((first |(with_reducible refine .guard (fun hb =>?_) (fun hb =>?_) <;>try simp only[hb])|refine ae.aB (by decide +kernel) rfl fun K hK =>?_|refine aV.sM (ow:=[(11,_),(11,_),(9,_),(9,_)]) hy gk (hI _) hIx (by simp[I.cv,lL]) uL (fun os2 U =>?_) (fun os2 U =>?_)|(refine .au [0,1,2,5,6,7,8,9,10,11,13,14,15,16,39,52,55,80,88] hK ?_;clear hK K)|(with_reducible refine .done (hK _ ?_);clear hK K)|refine ae.of rfl ?_|(with_reducible refine av.aA (fun h =>?_) (fun h =>?_) <;>try simp only[h])) <;>try simp only[aC,R,simprocAttr])
     all_goals clear R
     ·have g3:=hI _ os2 U;refine ⟨(k+1,os2),⟨by simp only;omega,by simp only[hs1];exact U⟩,by simp only;omega,?_⟩;refine bp.fn ?_ (oi uL g3) ?_ (fun m x h=>(g3.ok m x h).1)
      ·simp[b6,bY]
      ·simp[cn,I.only,o8]
     ·rw[oU];exact ⟨os2,[],rB (hIx os2 U) uL,trivial,rfl,.inr U⟩
    ·have qk:x.kind=8:=by simpa using q
     simp only[if_pos qk] at hy;have R:=y6 @hc (y6 @hw (y6 @hlk (y6 @q (y6 @n9 (y6 @n11 (y6 @wj (y6 @pA (y6 @nT (y6 @tw (y6 @eU (y6 @aZ (y6 @bw (y6 @bl (y6 @bj az))))))))))))))
     repeat' ((first |(with_reducible refine .guard (fun hb =>?_) (fun hb =>?_) <;>try simp only[hb])|refine ae.aB (by decide +kernel) rfl fun K hK =>?_|refine aV.sM (ow:=[(11,_),(11,_),(11,_),(9,_),(9,_)]) hy gk (hI _) hIx (by simp[I.cv,lL]) yK (fun os2 U =>?_) (fun os2 U =>?_)|(refine .au [0,1,2,5,6,7,8,9,10,11,13,14,15,16,39,52,55,80,88] hK ?_;clear hK K)|(with_reducible refine .done (hK _ ?_);clear hK K)|refine ae.of rfl ?_|(with_reducible refine av.aA (fun h =>?_) (fun h =>?_) <;>try simp only[h])) <;>try simp only[aC,R,simprocAttr])
     all_goals clear R
     ·have g3:=hI _ os2 U;refine ⟨(k+1,os2),⟨by simp only;omega,by simp only[hs1];exact U⟩,by simp only;omega,?_⟩;refine bp.fn ?_ (oi yK g3) ?_ (fun m x h=>(g3.ok m x h).1)
      ·simp[b6,bY]
      ·simp[cn,I.only,o8]
     ·rw[oU];exact ⟨os2,[],rB (hIx os2 U) yK,trivial,rfl,.inr U⟩
  ·have hc:decide (((k:Int)+1)≤200)=false:=by simp;omega
   have hge:k=200:=by omega
   have R:=y6 @hc (y6 @eU (y6 @aZ (y6 @bw (y6 @bl (y6 @bj az)))))
   repeat' ((first |(with_reducible refine .guard (fun hb =>?_) (fun hb =>?_) <;>try simp only[hb])|refine ae.aB (by decide +kernel) rfl fun K hK =>?_|(refine .au [0,1,2,5,6,7,8,9,10,11,13,14,15,16,39,52,55,80,88] hK ?_;clear hK K)|(with_reducible refine .done (hK _ ?_);clear hK K)|refine ae.of rfl ?_|(with_reducible refine av.aA (fun h =>?_) (fun h =>?_) <;>try simp only[h])) <;>try simp only[aC,R,simprocAttr])
   all_goals clear R
   rw[mR];refine ⟨osk,[],rB (ow:=[]) gk acB,trivial,rfl,.inl ?_⟩;rw[fM];rw[hge] at hIk;exact hIk
end Go.Proofs.YthbdbocionnfgaaGreatDoor
