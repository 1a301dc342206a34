/-
  A part of the proof that the law HerdJoins returns true for every input; conditions: none beyond the statement's own. (part 6 of 7)
-/
import Derived.Test.YtcldiigclhgafaaGreatNee
set_option linter.unusedSimpArgs false
set_option linter.unusedVariables false
set_option maxHeartbeats 16000000
set_option maxRecDepth 100000
namespace Go.Proofs.YtcldiigclhgafaaGreat
open Go Go.Abs
open Go.Abs.Enc (enc)
abbrev fE:=aS 9 Int
def z9:fE:=⟨List.replicate 9 0,rfl⟩
def lp(l:List Int)(b:Int)(i:Nat):Int:=IntKind.i64.wrap (aX l (IntKind.i64.wrap ((i:Int)+b))+b)
def qo(l:List Int)(b:Int):List Int:=(List.range l.length).map (lp l b)
theorem Qt(l:List Int)(b:Int)(hl:l.length*8≤140737488355328):aA Tryz.prog 83 [enc l,enc b] (enc (qo l b)):=by
 refine aA.bA Tryz.func83 Tv Vq Xy (Nat.le_of_ble_eq_true rfl) (fun hwf W0 D0 E1 =>?_)
 simp only[CA,NL,bp,Nat.zero_add]
 clear hwf
 have R:=And.intro @bn (And.intro @a6 @U)
 repeat' ((first
  |(with_reducible refine .guard (fun hb =>?_) (fun hb =>?_) <;>try simp only[hb])
  |refine ab.aO (by decide +kernel) rfl fun K hK =>?_
  |(refine .aI [0,1,4,5,6,10] hK ?_;clear hK K)
  |(with_reducible refine .done (hK _ ?_);clear hK K)
  |refine ab.of rfl ?_
  |(with_reducible refine ar.aL (fun h =>?_) (fun h =>?_) <;>try simp only[h])) <;>try simp only[aQ,R,reduceIte,Nat.reduceBEq])
 all_goals clear R
 refine ab.loop (fun i:Nat=>av [(0,enc l),(1,.int .i64 b),(5,.own 905 ((List.range i).map (lp l b)).length),(6,.int .i64 i)] [(905,.bT 3 1 (((List.range i).map (lp l b)).map enc))]) (fun i=>i≤l.length) (fun i=>l.length-i) 0 (Nat.zero_le _) ?_ (fun i hi =>?_)
 ·refine aD.qG 5 905 3 1 1 rfl rfl ?_
  simp only[List.range_zero,List.map_nil,List.length_nil]
  refine aD.bM ?_ ?_ ?_ ?_ <;>simp[aV,bF,bE,a7,au,aY,ct,I.only,I.bR,ai.only,bh]
 by_cases hlt:i<l.length
 ·have hc:=gD hlt
  have hw:=ft (i:=i) (by omega)
  have hsu:(List.range (i+1)).map (lp l b)=(List.range i).map (lp l b)++[lp l b i]:=by rw[List.range_succ,List.map_append];rfl
  have hxl:((List.range i).map (lp l b)).length=i:=by simp
  have hv:lp l b i=IntKind.i64.wrap (aX l (IntKind.i64.wrap ((i:Int)+b))+b):=rfl
  rw[hv] at hsu
  generalize (List.range i).map (lp l b)=xs at hsu hxl ⊢
  have happ:=fun (A:af) d rest=>lB (α:=Int) (A:=A) (d:=d) 3 1 8 905 (l:=xs.length) (es:=xs) (ys:=[IntKind.i64.wrap (aX l (IntKind.i64.wrap ((i:Int)+b))+b)]) (rest:=rest) rfl rfl (by simp) (by simp[maxLen];omega) (by simp;omega)
  have R:=And.intro @hc (And.intro @hw (And.intro @happ (And.intro @AS (And.intro @bn (And.intro @a6 @U)))))
  repeat' ((first
   |(with_reducible refine .guard (fun hb =>?_) (fun hb =>?_) <;>try simp only[hb])
   |refine ab.aO (by decide +kernel) rfl fun K hK =>?_
   |refine .flat _ (lx l _ (by omega)) rfl ?_
   |(refine .aI [0,1,4,5,6,10] hK ?_;clear hK K)
   |(with_reducible refine .done (hK _ ?_);clear hK K)
   |refine ab.of rfl ?_
   |(with_reducible refine ar.aL (fun h =>?_) (fun h =>?_) <;>try simp only[h])) <;>try simp only[aQ,R,Nat.reduceEqDiff,reduceIte,Nat.reduceBEq])
  all_goals clear R
  refine ⟨i+1,by omega,by omega,?_⟩
  simp only[hsu]
  refine aD.bM ?_ ?_ ?_ ?_ <;>simp[aV,bF,bE,a7,au,aY,ct,I.only,I.bR,ai.only,dN,gG,bh,jw]
 ·have hc:=ib hlt
  have hge:i=l.length:=by omega
  subst hge
  have hfo:=nz (k:=((List.range l.length).map (lp l b)).length) (T:=3) (es:=(List.range l.length).map (lp l b)) 1 rfl rfl
  have R:=And.intro @hc (And.intro @hfo (And.intro @bn (And.intro @a6 @U)))
  repeat' ((first
   |(with_reducible refine .guard (fun hb =>?_) (fun hb =>?_) <;>try simp only[hb])
   |refine ab.aO (by decide +kernel) rfl fun K hK =>?_
   |(refine .aI [0,1,4,5,6,10] hK ?_;clear hK K)
   |(with_reducible refine .done (hK _ ?_);clear hK K)
   |refine ab.of rfl ?_
   |(with_reducible refine ar.aL (fun h =>?_) (fun h =>?_) <;>try simp only[h])) <;>try simp only[aQ,R,Nat.reduceEqDiff,reduceIte,Nat.reduceBEq])
  all_goals clear R
  all_goals rfl
def zx:aS 6 Int:=⟨List.replicate 6 31,rfl⟩
def uM(m:bZ)(picks:List Int)(i:Nat)(n:fE):aS 6 Int:=if 0<m.given.length then rX m (cZ m (n.g 8%(m.given.length:Int)).toNat).mark (qo picks i) else zx
def kD(m:bZ)(picks:List Int)(h Lc i:Nat)(n:fE):ak where
 aX:=⟨h,Lc⟩
 kind:=n.g 1%7
 day:=if n.g 1%7=0 then 0 else n.g 2%30
 known:=n.g 3%40
 ef:=1+n.g 4%6
 e7:=if n.g 7%7=1+n.g 4%6 then 0 else n.g 7%7
 dA:=1+n.g 5%2
 bP:=1+n.g 6%12
 cm:=if n.g 1%7=4 then uM m picks i n else oc
 j0:=if n.g 1%7=0 then ⟨h,n.g 4%(Lc:Int)⟩ else ⟨0,0⟩
def r4(m:bZ)(ls:List fE)(picks:List Int)(h:Nat)(o:List ak)(i:Nat):List ak :=
 if (ls.getD i z9).g 0%3=(h:Int)∧¬ ((ls.getD i z9).g 1%7=0∧o.length=0) then o++[jQ (kD m picks h o.length i (ls.getD i z9))] else o
def gf(m:bZ)(ls:List fE)(picks:List Int)(h:Nat):Nat→List ak
 |0=>[]
 |i+1=>r4 m ls picks h (gf m ls picks h i) i
def iz(ls:List fE):Nat:=min ls.length 20
def ig(m:bZ)(ls:List fE)(picks:List Int):Nat→List ak
 |0=>[]
 |h+1=>ig m ls picks h++gf m ls picks h (iz ls)
def oI(m:bZ)(ls:List fE)(picks:List Int):List ak:=ig m ls picks 3
theorem tM(m:bZ)(ls:List fE)(picks:List Int)(h:Nat):∀ i,(gf m ls picks h i).length≤i
 |0=>Nat.le_refl _
 |i+1=>by
  have:=tM m ls picks h i
  simp only[gf,r4]
  split <;>simp <;>omega
theorem yg(ls:List fE):iz ls≤ls.length∧iz ls≤20:=by simp only[iz];omega
theorem yd(m:bZ)(ls:List fE)(picks:List Int):∀ h,(ig m ls picks h).length≤20*h
 |0=>Nat.le_refl _
 |h+1=>by
  have h1:=yd m ls picks h
  have h2:=tM m ls picks h (iz ls)
  have h3:=yg ls
  simp only[ig,List.length_append];omega
def ik(N:Nat→Nat)(h c:Nat):aS 3 Int:=⟨(List.range 3).map fun k=>if k<h then (N k:Int) else if k=h then (c:Int) else 0,by simp⟩
theorem aiX{N:Nat→Nat}{h c:Nat}(hh:h<3):(ik N h c).g h=(c:Int):=by
 simp[ik,aS.g,List.getD_eq_getElem?_getD,hh]
theorem zU{n:Nat}{x y:aS n Int}(h:x.l=y.l):x=y:=by cases x;cases y;simp_all
theorem aiZ{N:Nat→Nat}{h c:Nat}(c':Nat)(hh:h<3):gX (ik N h c) h (c':Int)=ik N h c':=by
 refine zU (List.ext_getElem (by simp[gX,ik]) fun k h1 h2 =>?_)
 simp only[gX,ik,List.getElem_set,List.getElem_map,List.getElem_range]
 by_cases e:h=k
 ·subst e;simp
 ·have:¬ k=h:=fun e'=>e e'.symm
  simp[e,this]
theorem aiY{N:Nat→Nat}{h:Nat} : ik N h (N h)=ik N (h+1) 0:=by
 refine zU (List.ext_getElem (by simp[ik]) fun k h1 h2 =>?_)
 simp only[ik,List.getElem_map,List.getElem_range]
 rcases Nat.lt_trichotomy k h with e | e | e
 ·rw[if_pos e,if_pos (by omega)]
 ·subst e;rw[if_neg (by omega),if_pos rfl,if_pos (by omega)]
 ·rw[if_neg (by omega),if_neg (by omega),if_neg (by omega)];split <;>rfl
theorem Zc(N:Nat→Nat):I.agg [.int .i64 0,.int .i64 0,.int .i64 0]=enc (ik N 0 0):=rfl
theorem qS:(∀ a b:Nat,I.agg [.int .i64 (a:Int),.int .i64 (b:Int)]=enc (⟨a,b⟩:Item))∧(∀ (a:Nat) (b c:Int),I.agg [.int .i64 (a:Int),.int .i64 (b%c)]=enc (⟨a,b%c⟩:Item)):=⟨fun _ _=>rfl,fun _ _ _=>rfl⟩
theorem Dv:I.agg [.int .i64 31,.int .i64 31,.int .i64 31,.int .i64 31,.int .i64 31,.int .i64 31]=enc zx:=rfl
theorem AR(a b c d e f:Int):dY [.int .i64 0,.int .i64 0,.int .i64 0,.int .i64 0,.int .i64 0,.int .i64 0] [(0,.int .i64 a),(1,.int .i64 b),(2,.int .i64 c),(3,.int .i64 d),(4,.int .i64 e),(5,.int .i64 f)]=some [.int .i64 a,.int .i64 b,.int .i64 c,.int .i64 d,.int .i64 e,.int .i64 f]:=by simp[dY,I.cj,I.size]
theorem qM(a b:Int):dY [.int .i64 0,.int .i64 0] [(0,.int .i64 a),(1,.int .i64 b)]=some [.int .i64 a,.int .i64 b]:=by simp[dY,I.cj,I.size]
theorem qL(a:Item)(k d kn b s o dm:Int):(dY [.agg [.int .i64 0,.int .i64 0],.int .i64 0,.int .i64 0,.int .i64 0,.int .i64 0,.int .i64 0,.int .i64 0,.int .i64 0,.agg [.int .i64 0,.int .i64 0,.int .i64 0,.int .i64 0,.int .i64 0,.int .i64 0],.agg [.int .i64 0,.int .i64 0]] [(0,enc a),(1,.int .i64 k),(2,.int .i64 d),(3,.int .i64 kn),(4,.int .i64 b),(6,.int .i64 s),(7,.int .i64 o),(5,.int .i64 dm)]).map .agg=some (enc (⟨a,k,d,kn,b,dm,s,o,oc,⟨0,0⟩⟩:ak)):=by
 simp[dY,I.cj,I.size,I.sizes,fG,qT];rfl
theorem pH:I.agg [.int .i64 0,.int .i64 0,.int .i64 0,.int .i64 0,.int .i64 0,.int .i64 0,.int .i64 0,.int .i64 0,.int .i64 0]=enc z9:=rfl
theorem qv{A:af}{n:Nat}{w:I}{x y:fE}{rest:List aB} : dQ A (some 9) n [] w (enc x) rest (some (enc y))=az rest (A.aK n (.box (enc x))):=by
 rw[ev (s:=some 9) (dq _) (by rw[fZ];rfl) ((eQ x).trans (eQ y).symm),gi]
theorem qg(x:fE):bY (some 9) (enc x)=true:=by rw[fZ];rfl
theorem akJ(n:fE) :
  (∀ y,eh (0:Int) 9 (eg 9 1 (n.l.map enc) y)=y)∧fB 0 [] (some (n.l.map (enc (α:=Int))))=some (.int .i64 (n.g 0))∧((0:Int).toNat=0)∧(∀ y,eh (1:Int) 9 (eg 9 1 (n.l.map enc) y)=y)∧fB 1 [] (some (n.l.map (enc (α:=Int))))=some (.int .i64 (n.g 1))∧((1:Int).toNat=1)∧(∀ y,eh (2:Int) 9 (eg 9 1 (n.l.map enc) y)=y)∧fB 2 [] (some (n.l.map (enc (α:=Int))))=some (.int .i64 (n.g 2))∧((2:Int).toNat=2)∧(∀ y,eh (3:Int) 9 (eg 9 1 (n.l.map enc) y)=y)∧fB 3 [] (some (n.l.map (enc (α:=Int))))=some (.int .i64 (n.g 3))∧((3:Int).toNat=3)∧(∀ y,eh (4:Int) 9 (eg 9 1 (n.l.map enc) y)=y)∧fB 4 [] (some (n.l.map (enc (α:=Int))))=some (.int .i64 (n.g 4))∧((4:Int).toNat=4)∧(∀ y,eh (5:Int) 9 (eg 9 1 (n.l.map enc) y)=y)∧fB 5 [] (some (n.l.map (enc (α:=Int))))=some (.int .i64 (n.g 5))∧((5:Int).toNat=5)∧(∀ y,eh (6:Int) 9 (eg 9 1 (n.l.map enc) y)=y)∧fB 6 [] (some (n.l.map (enc (α:=Int))))=some (.int .i64 (n.g 6))∧((6:Int).toNat=6)∧(∀ y,eh (7:Int) 9 (eg 9 1 (n.l.map enc) y)=y)∧fB 7 [] (some (n.l.map (enc (α:=Int))))=some (.int .i64 (n.g 7))∧((7:Int).toNat=7)∧(∀ y,eh (8:Int) 9 (eg 9 1 (n.l.map enc) y)=y)∧fB 8 [] (some (n.l.map (enc (α:=Int))))=some (.int .i64 (n.g 8))∧((8:Int).toNat=8) :=
 ⟨fun _=>gm 1 n (by decide) rfl,(eP n (by decide)).trans (iv _),rfl,fun _=>gm 1 n (by decide) rfl,(eP n (by decide)).trans (iv _),rfl,fun _=>gm 1 n (by decide) rfl,(eP n (by decide)).trans (iv _),rfl,fun _=>gm 1 n (by decide) rfl,(eP n (by decide)).trans (iv _),rfl,fun _=>gm 1 n (by decide) rfl,(eP n (by decide)).trans (iv _),rfl,fun _=>gm 1 n (by decide) rfl,(eP n (by decide)).trans (iv _),rfl,fun _=>gm 1 n (by decide) rfl,(eP n (by decide)).trans (iv _),rfl,fun _=>gm 1 n (by decide) rfl,(eP n (by decide)).trans (iv _),rfl,fun _=>gm 1 n (by decide) rfl,(eP n (by decide)).trans (iv _),rfl⟩
theorem zP(x d:Int)(h0:0<d)(h1:d≤1000):IntKind.i64.wrap (1+x%d)=1+x%d:=by
 have a1:=Int.emod_nonneg x (show d≠0 by omega)
 have a2:=Int.emod_lt_of_pos x h0
 exact cA _ (by omega) (by omega)
theorem Ak(m:bZ)(ls:List fE)(picks:List Int)(hm:en m=true)(hl:picks.length*8≤140737488355328):aA Tryz.prog 23 [enc m,enc ls,enc picks] (enc (oI m ls picks)):=by
 refine aA.bA Tryz.func23 S5 U1 W9 (Nat.le_of_ble_eq_true rfl) (fun hwf W0 D0 E1 =>?_)
 simp only[Cc,Nj,bp,Nat.zero_add,Nat.reduceAdd]
 have hlen:ls.length≤maxLen:=((kJ ls).1 hwf.2.1).1
 simp only[maxLen] at hlen
 clear hwf
 obtain ⟨hw,hf0,hf2⟩:=Lq hm
 have hgl:=Lr hm
 obtain ⟨hn1,hn2⟩:=yg ls
 obtain ⟨N,hN⟩:∃ N:Nat→Nat,N=fun k=>(gf m ls picks k (iz ls)).length:=⟨_,rfl⟩
 have hz:=Zc N
 have R:=And.intro @hz (And.intro @gU (And.intro @bn (And.intro @a6 @U)))
 repeat' ((first
  |(with_reducible refine .guard (fun hb =>?_) (fun hb =>?_) <;>try simp only[hb])
  |refine ab.aO (by decide +kernel) rfl fun K hK =>?_
  |(refine .aI [0,1,2,3,6,7,8,9,10,11,12,14,24,35,70,74,78,91,97] hK ?_;clear hK K)
  |(with_reducible refine .done (hK _ ?_);clear hK K)
  |refine ab.of rfl ?_
  |(with_reducible refine ar.aL (fun h =>?_) (fun h =>?_) <;>try simp only[h])) <;>try simp only[aQ,R,Nat.reduceEqDiff,reduceIte,Nat.reduceBEq])
 all_goals clear R
 refine ab.loop (fun h:Nat=>av [(1,enc ls),(2,enc picks),(3,.ptr 3 []),(7,.ptr 7 []),(8,.own 908 (ig m ls picks h).length),(9,.int .i64 h)] [(3,.box (enc m)),(7,.box (enc (ik N h 0))),(908,.bT 68 17 ((ig m ls picks h).map enc))]) (fun h=>h≤3) (fun h=>3-h) 0 (by omega) ?_ (fun h hh =>?_)
 ·refine aD.qG 8 908 68 17 17 rfl rfl ?_
  simp only[ig,List.map_nil,List.length_nil]
  refine aD.bM ?_ ?_ ?_ ?_ <;>simp[aV,bF,bE,a7,au,aY,ct,I.only,I.bR,ai.only,bh]
 have hal:=yd m ls picks h
 by_cases hh3:h<3
 case neg =>
  have hc:decide ((h:Int)<3)=false:=by simp;omega
  have he:h=3:=by omega
  subst he
  have hfo:=nz (k:=(ig m ls picks 3).length) (T:=68) (es:=ig m ls picks 3) 17 rfl rfl
  have R:=And.intro @hc (And.intro @hfo (And.intro @bn (And.intro @a6 @U)))
  repeat' ((first
   |(with_reducible refine .guard (fun hb =>?_) (fun hb =>?_) <;>try simp only[hb])
   |refine ab.aO (by decide +kernel) rfl fun K hK =>?_
   |(refine .aI [0,1,2,3,6,7,8,9,10,11,12,14,24,35,70,74,78,91,97] hK ?_;clear hK K)
   |(with_reducible refine .done (hK _ ?_);clear hK K)
   |refine ab.of rfl ?_
   |(with_reducible refine ar.aL (fun h =>?_) (fun h =>?_) <;>try simp only[h])) <;>try simp only[aQ,R,Nat.reduceEqDiff,reduceIte,Nat.reduceBEq])
  all_goals clear R
  all_goals rfl
 have hc:decide ((h:Int)<3)=true:=by simp;omega
 have hwh:=ft (i:=h) (by omega)
 have R:=And.intro @hc (And.intro @bn (And.intro @a6 @U))
 repeat' ((first
  |(with_reducible refine .guard (fun hb =>?_) (fun hb =>?_) <;>try simp only[hb])
  |refine ab.aO (by decide +kernel) rfl fun K hK =>?_
  |(refine .aI [0,1,2,3,6,7,8,9,10,11,12,14,24,35,70,74,78,91,97] hK ?_;clear hK K)
  |(with_reducible refine .done (hK _ ?_);clear hK K)
  |refine ab.of rfl ?_
  |(with_reducible refine ar.aL (fun h =>?_) (fun h =>?_) <;>try simp only[h])) <;>try simp only[aQ,R,Nat.reduceEqDiff,reduceIte,Nat.reduceBEq])
 all_goals clear R
 refine ab.loop (fun i:Nat=>av [(1,enc ls),(2,enc picks),(3,.ptr 3 []),(7,.ptr 7 []),(8,.own 908 (ig m ls picks h++gf m ls picks h i).length),(9,.int .i64 h),(10,.int .i64 i)] [(3,.box (enc m)),(7,.box (enc (ik N h (gf m ls picks h i).length))),(908,.bT 68 17 ((ig m ls picks h++gf m ls picks h i).map enc))]) (fun i=>i≤iz ls) (fun i=>iz ls-i) 0 (Nat.zero_le _) ?_ (fun i hi =>?_)
 ·simp only[gf,List.append_nil,List.length_nil]
  refine aD.bM ?_ ?_ ?_ ?_ <;>simp[aV,bF,bE,a7,au,aY,ct,I.only,ai.only,dN,bh]
 by_cases hlt:i<iz ls
 case neg =>
  have he:i=iz ls:=by omega
  subst he
  have hnx:ik N h (gf m ls picks h (iz ls)).length=ik N (h+1) 0:=by
   have:(gf m ls picks h (iz ls)).length=N h:=by rw[hN]
   rw[this,aiY]
  rw[hnx]
  by_cases hq:iz ls<ls.length
  ·have q1:=gD hq
   have q20:iz ls=20:=by simp only[iz] at hq ⊢;omega
   have q2:decide ((iz ls:Int)<20)=false:=by rw[q20];rfl
   have R:=And.intro @q1 (And.intro @q2 (And.intro @hwh (And.intro @bn (And.intro @a6 @U))))
   repeat' ((first
    |(with_reducible refine .guard (fun hb =>?_) (fun hb =>?_) <;>try simp only[hb])
    |refine ab.aO (by decide +kernel) rfl fun K hK =>?_
    |(refine .aI [0,1,2,3,6,7,8,9,10,11,12,14,24,35,70,74,78,91,97] hK ?_;clear hK K)
    |(with_reducible refine .done (hK _ ?_);clear hK K)
    |refine ab.of rfl ?_
    |(with_reducible refine ar.aL (fun h =>?_) (fun h =>?_) <;>try simp only[h])) <;>try simp only[aQ,R,Nat.reduceEqDiff,reduceIte,Nat.reduceBEq])
   all_goals clear R
   refine ⟨h+1,by omega,by omega,?_⟩
   simp only[ig]
   refine aD.bM ?_ ?_ ?_ ?_ <;>simp[aV,bF,bE,a7,au,aY,ct,I.only,ai.only,dN,gG,bh]
  ·have q1:=ib hq
   have R:=And.intro @q1 (And.intro @hwh (And.intro @bn (And.intro @a6 @U)))
   repeat' ((first
    |(with_reducible refine .guard (fun hb =>?_) (fun hb =>?_) <;>try simp only[hb])
    |refine ab.aO (by decide +kernel) rfl fun K hK =>?_
    |(refine .aI [0,1,2,3,6,7,8,9,10,11,12,14,24,35,70,74,78,91,97] hK ?_;clear hK K)
    |(with_reducible refine .done (hK _ ?_);clear hK K)
    |refine ab.of rfl ?_
    |(with_reducible refine ar.aL (fun h =>?_) (fun h =>?_) <;>try simp only[h])) <;>try simp only[aQ,R,Nat.reduceEqDiff,reduceIte,Nat.reduceBEq])
   all_goals clear R
   refine ⟨h+1,by omega,by omega,?_⟩
   simp only[ig]
   refine aD.bM ?_ ?_ ?_ ?_ <;>simp[aV,bF,bE,a7,au,aY,ct,I.only,ai.only,dN,gG,bh]
 have q1:decide ((i:Int)<(ls.length:Int))=true:=gD (by omega)
 have q2:decide ((i:Int)<20)=true:=by simp;omega
 have hwi:=ft (i:=i) (by omega)
 have hil:i<ls.length:=by omega
 have he:=fun A=>fI (A:=A) 9 hil rfl
 have hn:ls.getD i z9=ls[i]:=by rw[List.getD_eq_getElem?_getD,List.getElem?_eq_getElem hil];rfl
 have hsu:gf m ls picks h (i+1)=r4 m ls picks h (gf m ls picks h i) i:=rfl
 have hhl:=tM m ls picks h i
 simp only[r4,hn] at hsu
 generalize ls[i]=n at he hsu
 generalize gf m ls picks h i=o at hsu hhl ⊢
 generalize ig m ls picks h=pre at hal ⊢
 have hin:=fun c y=>gm (n:=3) 1 (k:=(h:Int)) (ik N h c) (y:=y) ⟨by omega,by omega⟩ rfl
 have hag:=fun c=>(eP (p:=[]) (ik N h c) hh3).trans (iv _)
 have hng:=fun c=>aiX (N:=N) (c:=c) hh3
 have hst:=fun (A:af) c v u rest=>o9 (A:=A) (n:=7) (ik N h c) hh3 (v:=v) (u:=u) (rest:=rest)
 have hup:=fun c c'=>aiZ (N:=N) (c:=c) c' hh3
 have hto:((h:Int)).toNat=h:=Int.toNat_natCast h
 have hwo:=ft (i:=o.length) (by omega)
 have happ:=fun (A:af) d rest (y:ak)=>lB (α:=ak) (A:=A) (d:=d) 68 17 136 908 (l:=(pre++o).length) (es:=pre++o) (ys:=[y]) (rest:=rest) rfl rfl (by simp) (by simp[maxLen];omega) (by simp;omega)
 have hbs:=fun y:ak=>nq 17 y rfl
 have hR:=akJ n
 have w6:=zP (n.g 4) 6 (by omega) (by omega)
 have w2:=zP (n.g 5) 2 (by omega) (by omega)
 have w12:=zP (n.g 6) 12 (by omega) (by omega)
 rcases c1:(n.g 0%3 != (h:Int))
 case true =>
  have c1':¬ n.g 0%3=(h:Int):=by simpa using c1
  rw[if_neg (fun hx=>c1' hx.1)] at hsu
  have R:=And.intro @q1 (And.intro @q2 (And.intro @hwi (And.intro @he (And.intro @hR (And.intro @c1 (And.intro @pH (And.intro @qv (And.intro @qg (And.intro @bn (And.intro @a6 @U))))))))))
  repeat' ((first
   |(with_reducible refine .guard (fun hb =>?_) (fun hb =>?_) <;>try simp only[hb])
   |refine ab.aO (by decide +kernel) rfl fun K hK =>?_
   |refine .flat _ (gI _ _ (by first | decide | omega) (by first | decide | omega)) rfl ?_
   |(refine .aI [0,1,2,3,6,7,8,9,10,11,12,14,24,35,70,74,78,91,97] hK ?_;clear hK K)
   |(with_reducible refine .done (hK _ ?_);clear hK K)
   |refine ab.of rfl ?_
   |(with_reducible refine ar.aL (fun h =>?_) (fun h =>?_) <;>try simp only[h])) <;>try simp only[aQ,R,Nat.reduceEqDiff,reduceIte,Nat.reduceBEq])
  all_goals clear R
  refine ⟨i+1,by omega,by omega,?_⟩
  simp only[hsu]
  refine aD.bM ?_ ?_ ?_ ?_ <;>simp[aV,bF,bE,a7,au,aY,ct,I.only,ai.only,dN,gG,bh]
 have c1':n.g 0%3=(h:Int):=by simpa using c1
 have hS:∀ hg:0<m.given.length,aA Tryz.prog 35 [enc m,enc (cZ m (n.g 8%(m.given.length:Int)).toNat).mark,enc (qo picks i)] (enc (rX m (cZ m (n.g 8%(m.given.length:Int)).toNat).mark (qo picks i))):=fun hg=>by
  have a1:=Int.emod_nonneg (n.g 8) (show (m.given.length:Int)≠0 by omega)
  have a2:=Int.emod_lt_of_pos (n.g 8) (show (0:Int)<(m.given.length:Int) by omega)
  exact Qj m _ _ (by simp[qo];omega) hw (Ke hm (by omega)) hf0 hf2
 have hSh:=Qt picks i hl
 by_cases k0:n.g 1%7=0
 ·have k1:(n.g 1%7==0)=true:=by simp[k0]
  have k4:(n.g 1%7==4)=false:=by simp[k0]
  by_cases o0:o.length=0
  ·have z0:((o.length:Int)==0)=true:=by simp[o0]
   rw[if_neg (fun hx=>hx.2 ⟨k0,o0⟩)] at hsu
   rcases cd:(n.g 7%7==1+n.g 4%6)
   all_goals
    have R:=And.intro @q1 (And.intro @q2 (And.intro @hwi (And.intro @he (And.intro @hR (And.intro @c1 (And.intro @cd (And.intro @k1 (And.intro @z0 (And.intro @hin (And.intro @hag (And.intro @hng (And.intro @hto (And.intro @w6 (And.intro @w2 (And.intro @w12 (And.intro @pH (And.intro @qv (And.intro @qg (And.intro @qM (And.intro @qS (And.intro @qL (And.intro @bn (And.intro @a6 @U)))))))))))))))))))))))
    repeat' ((first
     |(with_reducible refine .guard (fun hb =>?_) (fun hb =>?_) <;>try simp only[hb])
     |refine ab.aO (by decide +kernel) rfl fun K hK =>?_
     |refine .flat _ (gI _ _ (by first | decide | omega) (by first | decide | omega)) rfl ?_
     |(refine .aI [0,1,2,3,6,7,8,9,10,11,12,14,24,35,70,74,78,91,97] hK ?_;clear hK K)
     |(with_reducible refine .done (hK _ ?_);clear hK K)
     |refine ab.of rfl ?_
     |(with_reducible refine ar.aL (fun h =>?_) (fun h =>?_) <;>try simp only[h])) <;>try simp only[aQ,R,Nat.reduceEqDiff,reduceIte,Nat.reduceBEq])
    all_goals clear R
    refine ⟨i+1,by omega,by omega,?_⟩
    simp only[hsu]
    refine aD.bM ?_ ?_ ?_ ?_ <;>simp[aV,bF,bE,a7,au,aY,ct,I.only,ai.only,dN,gG,bh]
  ·have z0:((o.length:Int)==0)=false:=beq_eq_false_iff_ne.2 (by omega)
   rw[if_pos ⟨c1',fun hx=>o0 hx.2⟩] at hsu
   rcases cd:(n.g 7%7==1+n.g 4%6)
   all_goals
    have hraw:kD m picks h o.length i n=⟨⟨h,o.length⟩,n.g 1%7,0,n.g 3%40,1+n.g 4%6,if n.g 7%7=1+n.g 4%6 then 0 else n.g 7%7,1+n.g 5%2,1+n.g 6%12,oc,⟨h,n.g 4%(o.length:Int)⟩⟩:=by simp[kD,k0]
    have cd':=cd
    simp only[beq_iff_eq,beq_eq_false_iff_ne,ne_eq] at cd'
    simp only[cd',if_true,if_false] at hraw
    rw[hraw] at hsu
    have R:=And.intro @q1 (And.intro @q2 (And.intro @hwi (And.intro @hwo (And.intro @he (And.intro @hR (And.intro @c1 (And.intro @cd (And.intro @k1 (And.intro @k4 (And.intro @z0 (And.intro @hin (And.intro @hag (And.intro @hng (And.intro @hst (And.intro @hup (And.intro @hto (And.intro @w6 (And.intro @w2 (And.intro @w12 (And.intro @happ (And.intro @hbs (And.intro @pH (And.intro @qv (And.intro @qg (And.intro @qM (And.intro @qS (And.intro @qL (And.intro @bn (And.intro @a6 @U)))))))))))))))))))))))))))))
    repeat' ((first
     |(with_reducible refine .guard (fun hb =>?_) (fun hb =>?_) <;>try simp only[hb])
     |refine ab.aO (by decide +kernel) rfl fun K hK =>?_
     |refine .flat _ (gI _ _ (by first | decide | omega) (by first | decide | omega)) rfl ?_
     |refine .lead _ (sr _) ?_
     |(refine .aI [0,1,2,3,6,7,8,9,10,11,12,14,24,35,70,74,78,91,97] hK ?_;clear hK K)
     |(with_reducible refine .done (hK _ ?_);clear hK K)
     |refine ab.of rfl ?_
     |(with_reducible refine ar.aL (fun h =>?_) (fun h =>?_) <;>try simp only[h])) <;>try simp only[aQ,R,Nat.reduceEqDiff,reduceIte,Nat.reduceBEq])
    all_goals clear R
    refine ⟨i+1,by omega,by omega,?_⟩
    rw[hsu,←List.append_assoc]
    refine aD.bM ?_ ?_ ?_ ?_ <;>simp[aV,bF,bE,a7,au,aY,ct,I.only,I.bR,ai.only,dN,gG,bh]
 have k1:(n.g 1%7==0)=false:=by simp[k0]
 rw[if_pos ⟨c1',fun hx=>k0 hx.1⟩] at hsu
 by_cases k4':n.g 1%7=4
 ·have k4:(n.g 1%7==4)=true:=by simp[k4']
  by_cases fC:0<m.given.length
  ·have g1:decide ((0:Int)<(m.given.length:Int))=true:=decide_eq_true (by omega)
   have hS1:=hS fC
   have hgi:∀ A,iM A 7 (n.g 8%(m.given.length:Int)) (enc m.given)=some (.ref (enc (cZ m (n.g 8%(m.given.length:Int)).toNat))):=fun A=>by
    have a1:=Int.emod_nonneg (n.g 8) (show (m.given.length:Int)≠0 by omega)
    have a2:=Int.emod_lt_of_pos (n.g 8) (show (0:Int)<(m.given.length:Int) by omega)
    have a3:n.g 8%(m.given.length:Int)=((n.g 8%(m.given.length:Int)).toNat:Int):=(Int.toNat_of_nonneg a1).symm
    have:=xU (A:=A) (m:=m) (i:=(n.g 8%(m.given.length:Int)).toNat) (by rw[a3] at a2;exact Int.ofNat_lt.1 a2)
    rwa [←a3] at this
   rcases cd:(n.g 7%7==1+n.g 4%6)
   all_goals
    have hraw:kD m picks h o.length i n=⟨⟨h,o.length⟩,n.g 1%7,n.g 2%30,n.g 3%40,1+n.g 4%6,if n.g 7%7=1+n.g 4%6 then 0 else n.g 7%7,1+n.g 5%2,1+n.g 6%12,rX m (cZ m (n.g 8%(m.given.length:Int)).toNat).mark (qo picks i),⟨0,0⟩⟩:=by simp[kD,k4',uM,fC]
    have cd':=cd
    simp only[beq_iff_eq,beq_eq_false_iff_ne,ne_eq] at cd'
    simp only[cd',if_true,if_false] at hraw
    rw[hraw] at hsu
    have R:=And.intro @q1 (And.intro @q2 (And.intro @hwi (And.intro @hwo (And.intro @he (And.intro @hR (And.intro @c1 (And.intro @cd (And.intro @k1 (And.intro @k4 (And.intro @g1 (And.intro @hgi (And.intro @hin (And.intro @hag (And.intro @hng (And.intro @hst (And.intro @hup (And.intro @hto (And.intro @w6 (And.intro @w2 (And.intro @w12 (And.intro @happ (And.intro @hbs (And.intro @pH (And.intro @qv (And.intro @qg (And.intro @gU (And.intro @qM (And.intro @qS (And.intro @AR (And.intro @Dv (And.intro @qL (And.intro @cD (And.intro @bn (And.intro @a6 @U))))))))))))))))))))))))))))))))))
    repeat' ((first
     |(with_reducible refine .guard (fun hb =>?_) (fun hb =>?_) <;>try simp only[hb])
     |refine ab.aO (by decide +kernel) rfl fun K hK =>?_
     |refine .flat _ (gI _ _ (by first | decide | omega) (by first | decide | omega)) rfl ?_
     |refine .lead _ (sr _) ?_
     |refine .lead _ (hSh) ?_
     |refine .lead _ (hS1) ?_
     |(refine .aI [0,1,2,3,6,7,8,9,10,11,12,14,24,35,70,74,78,91,97] hK ?_;clear hK K)
     |(with_reducible refine .done (hK _ ?_);clear hK K)
     |refine ab.of rfl ?_
     |(with_reducible refine ar.aL (fun h =>?_) (fun h =>?_) <;>try simp only[h])) <;>try simp only[aQ,R,Nat.reduceEqDiff,reduceIte,Nat.reduceBEq])
    all_goals clear R
    refine ⟨i+1,by omega,by omega,?_⟩
    rw[hsu,←List.append_assoc]
    refine aD.bM ?_ ?_ ?_ ?_ <;>simp[aV,bF,bE,a7,au,aY,ct,I.only,I.bR,ai.only,dN,gG,bh]
  ·have g1:decide ((0:Int)<(m.given.length:Int))=false:=decide_eq_false (by omega)
   rcases cd:(n.g 7%7==1+n.g 4%6)
   all_goals
    have hraw:kD m picks h o.length i n=⟨⟨h,o.length⟩,n.g 1%7,n.g 2%30,n.g 3%40,1+n.g 4%6,if n.g 7%7=1+n.g 4%6 then 0 else n.g 7%7,1+n.g 5%2,1+n.g 6%12,zx,⟨0,0⟩⟩:=by simp[kD,k4',uM,fC]
    have cd':=cd
    simp only[beq_iff_eq,beq_eq_false_iff_ne,ne_eq] at cd'
    simp only[cd',if_true,if_false] at hraw
    rw[hraw] at hsu
    have R:=And.intro @q1 (And.intro @q2 (And.intro @hwi (And.intro @hwo (And.intro @he (And.intro @hR (And.intro @c1 (And.intro @cd (And.intro @k1 (And.intro @k4 (And.intro @g1 (And.intro @hin (And.intro @hag (And.intro @hng (And.intro @hst (And.intro @hup (And.intro @hto (And.intro @w6 (And.intro @w2 (And.intro @w12 (And.intro @happ (And.intro @hbs (And.intro @pH (And.intro @qv (And.intro @qg (And.intro @gU (And.intro @qM (And.intro @qS (And.intro @AR (And.intro @Dv (And.intro @qL (And.intro @cD (And.intro @bn (And.intro @a6 @U)))))))))))))))))))))))))))))))))
    repeat' ((first
     |(with_reducible refine .guard (fun hb =>?_) (fun hb =>?_) <;>try simp only[hb])
     |refine ab.aO (by decide +kernel) rfl fun K hK =>?_
     |refine .flat _ (gI _ _ (by first | decide | omega) (by first | decide | omega)) rfl ?_
     |refine .lead _ (sr _) ?_
     |(refine .aI [0,1,2,3,6,7,8,9,10,11,12,14,24,35,70,74,78,91,97] hK ?_;clear hK K)
     |(with_reducible refine .done (hK _ ?_);clear hK K)
     |refine ab.of rfl ?_
     |(with_reducible refine ar.aL (fun h =>?_) (fun h =>?_) <;>try simp only[h])) <;>try simp only[aQ,R,Nat.reduceEqDiff,reduceIte,Nat.reduceBEq])
    all_goals clear R
    refine ⟨i+1,by omega,by omega,?_⟩
    rw[hsu,←List.append_assoc]
    refine aD.bM ?_ ?_ ?_ ?_ <;>simp[aV,bF,bE,a7,au,aY,ct,I.only,I.bR,ai.only,dN,gG,bh]
 ·have k4:(n.g 1%7==4)=false:=by simp[k4']
  rcases cd:(n.g 7%7==1+n.g 4%6)
  all_goals
   have hraw:kD m picks h o.length i n=⟨⟨h,o.length⟩,n.g 1%7,n.g 2%30,n.g 3%40,1+n.g 4%6,if n.g 7%7=1+n.g 4%6 then 0 else n.g 7%7,1+n.g 5%2,1+n.g 6%12,oc,⟨0,0⟩⟩:=by simp[kD,k0,k4']
   have cd':=cd
   simp only[beq_iff_eq,beq_eq_false_iff_ne,ne_eq] at cd'
   simp only[cd',if_true,if_false] at hraw
   rw[hraw] at hsu
   have R:=And.intro @q1 (And.intro @q2 (And.intro @hwi (And.intro @hwo (And.intro @he (And.intro @hR (And.intro @c1 (And.intro @cd (And.intro @k1 (And.intro @k4 (And.intro @hin (And.intro @hag (And.intro @hng (And.intro @hst (And.intro @hup (And.intro @hto (And.intro @w6 (And.intro @w2 (And.intro @w12 (And.intro @happ (And.intro @hbs (And.intro @pH (And.intro @qv (And.intro @qg (And.intro @qM (And.intro @qS (And.intro @qL (And.intro @bn (And.intro @a6 @U))))))))))))))))))))))))))))
   repeat' ((first
    |(with_reducible refine .guard (fun hb =>?_) (fun hb =>?_) <;>try simp only[hb])
    |refine ab.aO (by decide +kernel) rfl fun K hK =>?_
    |refine .flat _ (gI _ _ (by first | decide | omega) (by first | decide | omega)) rfl ?_
    |refine .lead _ (sr _) ?_
    |(refine .aI [0,1,2,3,6,7,8,9,10,11,12,14,24,35,70,74,78,91,97] hK ?_;clear hK K)
    |(with_reducible refine .done (hK _ ?_);clear hK K)
    |refine ab.of rfl ?_
    |(with_reducible refine ar.aL (fun h =>?_) (fun h =>?_) <;>try simp only[h])) <;>try simp only[aQ,R,Nat.reduceEqDiff,reduceIte,Nat.reduceBEq])
   all_goals clear R
   refine ⟨i+1,by omega,by omega,?_⟩
   rw[hsu,←List.append_assoc]
   refine aD.bM ?_ ?_ ?_ ?_ <;>simp[aV,bF,bE,a7,au,aY,ct,I.only,I.bR,ai.only,dN,gG,bh]
abbrev fF(l:List ak):Prop:=l.Pairwise fun a b=>before a.aX b.aX=true
theorem qp{l:List ak}(h:fF l){i j:Nat}(hij:i<j)(hj:j<l.length):before (ae l i).aX (ae l j).aX=true:=by
 rw[←fb hj,←fb (show i<l.length by omega)]
 exact List.pairwise_iff_getElem.1 h i j (by omega) hj hij
theorem mQ{l:List ak}(h:dc l=true):fF l:=(rI.1 h).2.2
theorem LZ(l:List ak)(a:Item):eF l a≤l.length:=List.findIdx_le_length
theorem LY{l:List ak}{a:Item}{i:Nat}(hi:i≤l.length)(h1:∀ k,k<i→before (ae l k).aX a=true)(h2:i<l.length→before (ae l i).aX a=false):eF l a=i:=by
 simp only[eF]
 by_cases hlt:i<l.length
 ·refine (List.findIdx_eq hlt).2 ⟨by rw[fb hlt,h2 hlt];rfl,fun j hj =>?_⟩
  rw[fb (by omega),h1 j hj];rfl
 ·have e:i=l.length:=by omega
  rw[e]
  refine List.findIdx_eq_length.2 fun x hx =>?_
  obtain ⟨k,hk,rfl⟩:=List.getElem_of_mem hx
  rw[fb hk,h1 k (by omega)];rfl
theorem akq{l:List ak}(hs:fF l){a:Item}{k:Nat}(h1:eF l a≤k)(hk:k<l.length):before (ae l k).aX a=false:=by
 have hp:eF l a<l.length:=by omega
 have h2:(!before (l[eF l a]).aX a)=true:=List.findIdx_getElem (w:=hp)
 rw[fb hp] at h2
 by_cases e:k=eF l a
 ·rw[e];simpa using h2
 ·cases hb:before (ae l k).aX a with
  |false=>rfl
  |true =>
   have:=pB (qp hs (show eF l a<k by omega) hk) hb
   rw[this] at h2;cases h2
theorem akp{l:List ak}{a:Item}{k:Nat}(h:k<eF l a):before (ae l k).aX a=true:=by
 have hk:k<l.length:=Nat.lt_of_lt_of_le h (LZ l a)
 have:=List.not_of_lt_findIdx (p:=fun x:ak => !before x.aX a) (xs:=l) (i:=k) h
 rw[fb hk] at this
 simpa using this
theorem xI{l:List ak}(hs:fF l)(a:Item):jT l a=(decide (eF l a<l.length)&&decide ((ae l (eF l a)).aX=a)):=by
 rw[Bool.eq_iff_iff,Bool.and_eq_true,decide_eq_true_eq,decide_eq_true_eq]
 constructor
 ·intro h
  simp only[jT,List.any_eq_true,decide_eq_true_eq] at h
  obtain ⟨x,hx,rfl⟩:=h
  obtain ⟨k,hk,rfl⟩:=List.getElem_of_mem hx
  rw[fb hk]
  have h1:eF l (ae l k).aX=k:=LY (by omega) (fun j hj=>qp hs hj hk) (fun _=>pA _)
  rw[h1];exact ⟨hk,rfl⟩
 ·rintro ⟨h1,h2⟩
  exact Kf h1 h2
theorem z6(x:ak)(a:Item):aA Tryz.prog 143 [enc x,enc a] (enc (lG x.aX a)):=by
 refine aA.bA Tryz.func143 Sn Ui Wn (Nat.le_of_ble_eq_true rfl) (fun hwf W0 D0 E1 =>?_)
 simp only[Br,My,bp,Nat.zero_add]
 have R:=And.intro @a6 @U
 repeat' ((first
  |(with_reducible refine .guard (fun hb =>?_) (fun hb =>?_) <;>try simp only[hb])
  |refine ab.aO (by decide +kernel) rfl fun K hK =>?_
  |refine .flat _ (u5 _ _) rfl ?_
  |(refine .aI [0,1,2,3,4] hK ?_;clear hK K)
  |(with_reducible refine .done (hK _ ?_);clear hK K)
  |refine ab.of rfl ?_
  |(with_reducible refine ar.aL (fun h =>?_) (fun h =>?_) <;>try simp only[h])) <;>try simp only[aQ,R,Nat.reduceEqDiff,reduceIte,Nat.reduceBEq])
 all_goals clear R
theorem PE(l:List ak)(a:Item)(hs:fF l)(hl:l.length≤1000):aA Tryz.prog 142 [enc l,enc a,.func 143 []] (.tuple [enc (eF l a:Int),enc (jT l a)]):=by
 refine aA.bA Tryz.func142 Sm Uh Wm (Nat.le_of_ble_eq_true rfl) (fun hwf W0 D0 E1 =>?_)
 simp only[Bq,Mx,bp,Nat.zero_add,Nat.reduceAdd]
 clear hwf
 have R:=And.intro @iH (And.intro @bn (And.intro @a6 @U))
 repeat' ((first
  |(with_reducible refine .guard (fun hb =>?_) (fun hb =>?_) <;>try simp only[hb])
  |refine ab.aO (by decide +kernel) rfl fun K hK =>?_
  |(refine .aI [0,1,2,4,6,7,8,9,10,11,17,31] hK ?_;clear hK K)
  |(with_reducible refine .done (hK _ ?_);clear hK K)
  |refine ab.of rfl ?_
  |(with_reducible refine ar.aL (fun h =>?_) (fun h =>?_) <;>try simp only[h])) <;>try simp only[aQ,R,Nat.reduceEqDiff,reduceIte,Nat.reduceBEq])
 all_goals clear R
 refine ab.loop (fun s:Nat×Nat=>av [(0,enc l),(2,.func 143 []),(4,.ptr 4 []),(8,.int .i64 l.length),(9,.int .i64 s.1),(10,.int .i64 s.2)] [(4,.box (enc a))]) (fun s=>s.1≤s.2∧s.2≤l.length∧(∀ k,k<s.1→before (ae l k).aX a=true)∧∀ k,s.2≤k→k<l.length→before (ae l k).aX a=false) (fun s=>s.2-s.1) (0,l.length) ⟨Nat.zero_le _,Nat.le_refl _,fun k hk=>by omega,fun k h1 h2=>by omega⟩ ?_ ?_
 ·refine aD.bM ?_ ?_ ?_ ?_ <;>simp[aV,bF,bE,a7,au,aY,ct,I.only,I.bR,ai.only,bh]
 rintro ⟨i,j⟩ ⟨h1,h2,h3,h4⟩
 simp only at h1 h2 h3 h4 ⊢
 by_cases hlt:i<j
 ·have hc:=gD hlt
  have w1:=ke i j (by omega)
  have w2:=mM (x:=i+j) (by omega)
  obtain ⟨h,hh⟩:∃ h,h=(i+j) / 2:=⟨_,rfl⟩
  have w5:=sc (n:=h) (by omega)
  have hhl:h<l.length:=by omega
  have he:=fun A=>jV (A:=A) hhl
  have hn:=C5 (ae l h).aX a
  have hw:=ft (i:=h) (by omega)
  rcases hb:before (ae l h).aX a
  all_goals
   rw[hb] at hn
   have R:=And.intro @hc (And.intro @w1 (And.intro @w2 (And.intro @w5 (And.intro @he (And.intro @hn (And.intro @hw (And.intro @nP (And.intro @nO (And.intro @iH (And.intro @dV (And.intro @bn (And.intro @a6 @U))))))))))))
   repeat' ((first
    |(with_reducible refine .guard (fun hb =>?_) (fun hb =>?_) <;>try simp only[hb])
    |refine ab.aO (by decide +kernel) rfl fun K hK =>?_
    |refine .flat _ (z6 _ _) rfl ?_
    |(refine .aI [0,1,2,4,6,7,8,9,10,11,17,31] hK ?_;clear hK K)
    |(with_reducible refine .done (hK _ ?_);clear hK K)
    |refine ab.of rfl ?_
    |(with_reducible refine ar.aL (fun h =>?_) (fun h =>?_) <;>try simp only[h])) <;>try simp only[aQ,R,←hh,List.cons_append,Nat.reduceEqDiff,reduceIte,Nat.reduceBEq])
   all_goals clear R
  ·refine ⟨(i,h),⟨by simp only;omega,by simp only;omega,h3,fun k hk hkl =>?_⟩,by simp only;omega,?_⟩
   ·simp only at hk
    cases hbk:before (ae l k).aX a with
    |false=>rfl
    |true =>
     by_cases e:k=h
     ·rw[e,hb] at hbk;cases hbk
     ·have:=pB (qp hs (show h<k by omega) hkl) hbk
      rw[this] at hb;cases hb
   ·refine aD.bM ?_ ?_ ?_ ?_ <;>simp[aV,bF,bE,a7,au,aY,ct,I.only,I.bR,ai.only,bh]
  ·refine ⟨(h+1,j),⟨by simp only;omega,h2,fun k hk =>?_,h4⟩,by simp only;omega,?_⟩
   ·simp only at hk
    by_cases e:k=h
    ·rw[e];exact hb
    ·cases hbk:before (ae l k).aX a with
     |true=>rfl
     |false =>
      have:=pB (qp hs (show k<h by omega) hhl) hb
      rw[this] at hbk;cases hbk
   ·refine aD.bM ?_ ?_ ?_ ?_ <;>simp[aV,bF,bE,a7,au,aY,ct,I.only,I.bR,ai.only,bh]
 ·have hij:i=j:=by omega
  subst hij
  have hc:=ib hlt
  have hp:eF l a=i:=LY h2 h3 fun h=>h4 i (Nat.le_refl _) h
  have hh:=xI hs a
  rw[hp] at hh
  rw[hp,hh]
  by_cases hil:i<l.length
  ·have hc2:=gD hil
   have he:=fun A=>jV (A:=A) hil
   have hz:=VQ (ae l i).aX a
   have hd:decide (i<l.length)=true:=decide_eq_true hil
   have R:=And.intro @hc (And.intro @hc2 (And.intro @he (And.intro @hz (And.intro @hd (And.intro @iH (And.intro @dV (And.intro @bn (And.intro @a6 @U))))))))
   repeat' ((first
    |(with_reducible refine .guard (fun hb =>?_) (fun hb =>?_) <;>try simp only[hb])
    |refine ab.aO (by decide +kernel) rfl fun K hK =>?_
    |refine .flat _ (z6 _ _) rfl ?_
    |(refine .aI [0,1,2,4,6,7,8,9,10,11,17,31] hK ?_;clear hK K)
    |(with_reducible refine .done (hK _ ?_);clear hK K)
    |refine ab.of rfl ?_
    |(with_reducible refine ar.aL (fun h =>?_) (fun h =>?_) <;>try simp only[h])) <;>try simp only[aQ,R,List.cons_append,Nat.reduceEqDiff,reduceIte,Nat.reduceBEq])
   all_goals clear R
   all_goals simp
  ·have hc2:=ib hil
   have hd:decide (i<l.length)=false:=decide_eq_false hil
   have R:=And.intro @hc (And.intro @hc2 (And.intro @hd (And.intro @iH (And.intro @bn (And.intro @a6 @U)))))
   repeat' ((first
    |(with_reducible refine .guard (fun hb =>?_) (fun hb =>?_) <;>try simp only[hb])
    |refine ab.aO (by decide +kernel) rfl fun K hK =>?_
    |(refine .aI [0,1,2,4,6,7,8,9,10,11,17,31] hK ?_;clear hK K)
    |(with_reducible refine .done (hK _ ?_);clear hK K)
    |refine ab.of rfl ?_
    |(with_reducible refine ar.aL (fun h =>?_) (fun h =>?_) <;>try simp only[h])) <;>try simp only[aQ,R,Nat.reduceEqDiff,reduceIte,Nat.reduceBEq])
   all_goals clear R
   all_goals rfl
theorem Pn(l:List ak)(a:Item)(hs:fF l)(hl:l.length≤1000):aA Tryz.prog 103 [enc l,enc a] (.tuple [enc (eF l a:Int),enc (jT l a)]):=by
 have hF:=PE l a hs hl
 refine aA.bA Tryz.func103 RV TO VV (Nat.le_of_ble_eq_true rfl) (fun hwf W0 D0 E1 =>?_)
 simp only[AX,L6,bp,Nat.zero_add]
 clear hwf
 have R:=And.intro @iH (And.intro @bn (And.intro @a6 @U))
 repeat' ((first
  |(with_reducible refine .guard (fun hb =>?_) (fun hb =>?_) <;>try simp only[hb])
  |refine ab.aO (by decide +kernel) rfl fun K hK =>?_
  |refine .lead _ (hF) ?_
  |(refine .aI [0,1,3,4,5] hK ?_;clear hK K)
  |(with_reducible refine .done (hK _ ?_);clear hK K)
  |refine ab.of rfl ?_
  |(with_reducible refine ar.aL (fun h =>?_) (fun h =>?_) <;>try simp only[h])) <;>try simp only[aQ,R,Nat.reduceEqDiff,reduceIte,Nat.reduceBEq])
 all_goals clear R
theorem ajM(h c:Nat)(k d kn b s o dm f:Int)(r:aS 6 Int)(hh:h≤5)(hc:c≤9999)(h1:0≤k∧k≤6)(h2:0≤d∧d≤100)(h3:0≤kn∧kn≤100)(h4:1≤b∧b≤6)(h5:1≤s∧s≤2)(h6:1≤o∧o≤12)(h7:0≤dm∧dm≤6∧dm≠b)(h8:k=0→0≤f∧f<c)(h9:k=4→il r=true) :
  gS (jQ ⟨⟨h,c⟩,k,if k=0 then 0 else d,kn,b,dm,s,o,if k=4 then r else oc,if k=0 then ⟨h,f⟩ else ⟨0,0⟩⟩)=true:=by
 obtain hk | hk | hk | hk | hk | hk | hk:k=0∨k=1∨k=2∨k=3∨k=4∨k=5∨k=6:=by omega
 all_goals
  subst hk
  simp[gS,pM,jQ,pS,cq]
 all_goals first
  |omega
  |(have:=h8 rfl;omega)
  |(refine ⟨?_,?_⟩ <;>first | exact ⟨by omega,h9 rfl⟩ | exact h9 rfl | omega)
  |(have:=h9 rfl;simp[this];omega)
theorem ajN{m:bZ}(hm:en m=true)(picks:List Int)(h c i:Nat)(n:fE)(hh:h≤5)(hc:c≤9999)(h0:n.g 1%7=0→0<c):gS (jQ (kD m picks h c i n))=true:=by
 obtain ⟨hw,-,-⟩:=Lq hm
 refine ajM h c _ _ _ _ _ _ _ _ _ hh hc ?_ ?_ ?_ ?_ ?_ ?_ ?_ ?_ ?_
 iterate 6 omega
 ·refine ⟨?_,?_,?_⟩ <;>split <;>omega
 ·intro hk
  have:=h0 hk
  exact ⟨Int.emod_nonneg _ (by omega),Int.emod_lt_of_pos _ (by omega)⟩
 ·intro _
  simp only[uM]
  split
  ·rename_i hg
   have a1:=Int.emod_nonneg (n.g 8) (show (m.given.length:Int)≠0 by omega)
   have a2:=Int.emod_lt_of_pos (n.g 8) (show (0:Int)<(m.given.length:Int) by omega)
   exact ale hw (Ke hm (by omega)) _
  ·decide
def l4(e:ak):Prop:=0≤e.bP∧e.bP≤12∧(e.kind=1∨e.kind=2→1≤e.dA∧e.dA≤2∧1≤e.ef∧e.ef≤6)
theorem aix{x:ak}(h1:1≤x.bP∧x.bP≤12)(h2:1≤x.dA∧x.dA≤2)(h3:1≤x.ef∧x.ef≤6):l4 (jQ x):=by
 refine ⟨?_,?_,fun hk =>?_⟩
 ·show 0≤(if x.kind=1∨x.kind=3∨x.kind=5 then x.bP else 0)
  split <;>omega
 ·show (if x.kind=1∨x.kind=3∨x.kind=5 then x.bP else 0)≤12
  split <;>omega
 ·have hk:x.kind=1∨x.kind=2:=hk
  show 1≤(if x.kind=1∨x.kind=2 then x.dA else 0)∧(if x.kind=1∨x.kind=2 then x.dA else 0)≤2∧1≤(if x.kind=0 then 0 else x.ef)∧(if x.kind=0 then 0 else x.ef)≤6
  rw[if_pos hk,if_neg (by omega)];omega
theorem aiz(m:bZ)(picks:List Int)(h c i:Nat)(n:fE):l4 (jQ (kD m picks h c i n)) :=
 aix (by show 1≤1+n.g 6%12∧1+n.g 6%12≤12;omega) (by show 1≤1+n.g 5%2∧1+n.g 5%2≤2;omega) (by show 1≤1+n.g 4%6∧1+n.g 4%6≤6;omega)
theorem yf{m:bZ}(hm:en m=true)(ls:List fE)(picks:List Int)(h:Nat)(hh:h≤5):∀ i,i≤9999→(∀ x∈gf m ls picks h i,gS x=true∧l4 x)∧∀ k (hk:k<(gf m ls picks h i).length),((gf m ls picks h i)[k]).aX=⟨h,k⟩
 |0,_=>⟨by simp[gf],by simp[gf]⟩
 |i+1,hi=>by
  obtain ⟨h1,h2⟩:=yf hm ls picks h hh i (by omega)
  have hl:=tM m ls picks h i
  simp only[gf,r4]
  split
  ·rename_i hc
   refine ⟨fun x hx =>?_,fun k hk =>?_⟩
   ·rcases List.mem_append.1 hx with hx | hx
    ·exact h1 x hx
    ·simp only[List.mem_singleton] at hx
     subst hx
     exact ⟨ajN hm picks h _ i _ hh (by omega) (fun hk=>Nat.pos_of_ne_zero fun e=>hc.2 ⟨hk,e⟩),aiz ..⟩
   ·rw[List.getElem_append]
    split
    ·exact h2 k _
    ·rename_i hk2
     simp only[List.length_append,List.length_singleton] at hk
     have e:k=(gf m ls picks h i).length:=by omega
     subst e
     simp[jQ,kD]
  ·exact ⟨h1,h2⟩
theorem KU{m:bZ}(hm:en m=true)(ls:List fE)(picks:List Int){h i:Nat}(hh:h≤5)(hi:i≤9999){x:ak}(hx:x∈gf m ls picks h i):x.aX.fe=(h:Int):=by
 obtain ⟨k,hk,rfl⟩:=List.getElem_of_mem hx
 rw[(yf hm ls picks h hh i hi).2 k hk]
theorem ye{m:bZ}(hm:en m=true)(ls:List fE)(picks:List Int):∀ h,h≤5→(∀ x∈ig m ls picks h,gS x=true∧l4 x∧x.aX.fe<(h:Int))∧fF (ig m ls picks h)
 |0,_=>⟨by simp[ig],.nil⟩
 |h+1,hh=>by
  obtain ⟨h1,h2⟩:=ye hm ls picks h (by omega)
  have hn:=(yg ls).2
  obtain ⟨h3,h4⟩:=yf hm ls picks h (by omega) (iz ls) (by omega)
  simp only[ig]
  refine ⟨fun x hx =>?_,List.pairwise_append.2 ⟨h2,List.pairwise_iff_getElem.2 fun i j hi hj hij =>?_,fun a ha b hb =>?_⟩⟩
  ·rcases List.mem_append.1 hx with hx | hx
   ·obtain ⟨a,b,c⟩:=h1 x hx
    exact ⟨a,b,by omega⟩
   ·obtain ⟨a,b⟩:=h3 x hx
    exact ⟨a,b,by rw[KU hm ls picks (by omega) (by omega) hx];omega⟩
  ·rw[h4 i hi,h4 j hj];simp[before];omega
  ·have e1:=(h1 a ha).2.2
   have e2:=KU hm ls picks (by omega) (by omega) hb
   simp[before,e2];omega
theorem Ln{m:bZ}(hm:en m=true)(ls:List fE)(picks:List Int):dc (oI m ls picks)=true:=by
 obtain ⟨h1,h2⟩:=ye hm ls picks 3 (by omega)
 exact rI.2 ⟨yd m ls picks 3,fun x hx=>(h1 x hx).1,h2⟩
theorem aiy{m:bZ}(hm:en m=true)(ls:List fE)(picks:List Int)(i:Nat):l4 (ae (oI m ls picks) i):=by
 by_cases h:i<(oI m ls picks).length
 ·rw[←fb h];exact ((ye hm ls picks 3 (by omega)).1 _ (List.getElem_mem h)).2.1
 ·have:ae (oI m ls picks) i=default:=by simp[ae,List.getD_eq_getElem?_getD,List.getElem?_eq_none (Nat.le_of_not_lt h)]
  rw[this]
  exact ⟨by decide,by decide,by decide⟩
def lZ(b:aU):Prop:=0≤b.bP∧b.bP≤12∧1≤b.dA∧b.dA≤2∧1≤b.no∧b.no≤9999
theorem aiw{b b':aU}{x:ak}(hb:lZ b)(hx:l4 x)(h:kI b x=some b'):lZ b':=by
 simp only[kI] at h
 obtain ⟨x1,x2,x3⟩:=hx
 obtain ⟨b1,b2,b3,b4,b5,b6⟩:=hb
 repeat' split at h
 all_goals first
  |(cases h;done)
  |(simp only[Option.some.injEq] at h;subst h;exact ⟨by simp only;omega,by simp only;omega,b3,b4,b5,b6⟩)
theorem aiv{bs bs':List aU}{x:ak}(hb:∀ b∈bs,lZ b)(hx:l4 x)(h:eO fo bs x=some bs'):∀ b∈bs',lZ b:=by
 simp only[eO] at h
 split at h
 ·rename_i hk
  split at h
  ·simp only[Option.some.injEq] at h
   subst h
   intro b hm
   simp only[fo,List.mem_append,List.mem_singleton] at hm
   rcases hm with hm | rfl
   ·exact hb b hm
   ·obtain ⟨x1,x2,x3⟩:=hx
    have:=x3 hk
    exact ⟨x1,x2,this.1,this.2.1,this.2.2.1,by simp only[fV];omega⟩
  ·cases h
 ·split at h
  ·cases h
  ·rename_i b0 hb0
   simp only[Option.map_eq_some_iff] at h
   obtain ⟨b',hb',rfl⟩:=h
   intro b hm
   simp only[mf,List.mem_map] at hm
   obtain ⟨a,ha,rfl⟩:=hm
   split
   ·exact aiw (hb b0 (J7 hb0).1) hx hb'
   ·exact hb a ha
theorem KY(l:List ak)(hl:∀ i,l4 (ae l i)):∀ (o:List Nat) (s:List aU×List Nat),(∀ b∈s.1,lZ b)→∀ b∈(o.foldl (nh fo l) s).1,lZ b
 | [],_,h=>h
 |i::o,s,h=>by
  refine KY l hl o _ ?_
  simp only[nh]
  split
  ·rename_i bs hbs;exact aiv h (hl i) hbs
  ·exact h
theorem KZ{l:List ak}(hl:∀ i,l4 (ae l i))(day known:Int):∀ b∈cS l day known,lZ b:=KY l hl _ _ (by simp)
def oq(bs:List aU)(o s:Int):Nat:=(bs.filter fun b => !decide (0≤b.dU)&&(b.bP==o&&b.dA==s)).length
def mj(bs:List aU)(o:Nat):Nat→Nat
 |0=>0
 |s+1=>mj bs o s+oq bs ((o+1:Nat):Int) ((s+1:Nat):Int)
def jL(bs:List aU):Nat→Nat
 |0=>0
 |o+1=>jL bs o+mj bs o 2
def oN(bs:List aU)(n:Nat):Nat:=(bs.filter fun b => !decide (0≤b.dU)&&(decide (1≤b.bP)&&decide (b.bP≤(n:Int)))).length
theorem VR(b:aU)(bs:List aU)(o s:Int):oq (b::bs) o s=oq bs o s+if (!decide (0≤b.dU)&&(b.bP==o&&b.dA==s))=true then 1 else 0:=by
 simp only[oq,List.filter_cons]
 split <;>simp
theorem alM{bs:List aU}(hb:∀ b∈bs,lZ b)(o:Nat):oN bs (o+1)=oN bs o+mj bs o 2:=by
 induction bs with
 |nil=>rfl
 |cons b bs ih =>
  have ih:=ih fun x hx=>hb x (by simp[hx])
  obtain ⟨b1,b2,b3,b4,-,-⟩:=hb b (by simp)
  have hs:b.dA=1∨b.dA=2:=by omega
  simp only[mj,VR] at ih ⊢
  simp only[oN,List.filter_cons] at ih ⊢
  by_cases hd:0≤b.dU
  ·simp only[hd,decide_true,Bool.not_true,Bool.false_and,Bool.false_eq_true,if_false]
   omega
  ·simp only[hd,decide_false,Bool.not_false,Bool.true_and]
   by_cases h1:b.bP=((o+1:Nat):Int)
   ·have e1:(decide (1≤b.bP)&&decide (b.bP≤((o+1:Nat):Int)))=true:=by simp;omega
    have e2:(decide (1≤b.bP)&&decide (b.bP≤(o:Int)))=false:=by simp;omega
    rw[e1,e2,if_pos rfl,if_neg (by decide),List.length_cons]
    rcases hs with hs | hs
    ·have f1:(b.bP==((o+1:Nat):Int)&&b.dA==((0+1:Nat):Int))=true:=by simp[h1,hs]
     have f2:(b.bP==((o+1:Nat):Int)&&b.dA==((0+1+1:Nat):Int))=false:=by simp[h1,hs]
     rw[if_pos f1,if_neg (by rw[f2];decide)]
     omega
    ·have f1:(b.bP==((o+1:Nat):Int)&&b.dA==((0+1:Nat):Int))=false:=by simp[h1,hs]
     have f2:(b.bP==((o+1:Nat):Int)&&b.dA==((0+1+1:Nat):Int))=true:=by simp[h1,hs]
     rw[if_pos f2,if_neg (by rw[f1];decide)]
     omega
   ·have f:∀ s:Int,(b.bP==((o+1:Nat):Int)&&b.dA==s)=false:=fun s=>by
     have:(b.bP==((o+1:Nat):Int))=false:=beq_eq_false_iff_ne.2 h1
     rw[this];rfl
    have e:(decide (1≤b.bP)&&decide (b.bP≤((o+1:Nat):Int)))=(decide (1≤b.bP)&&decide (b.bP≤(o:Int))):=by
     rw[Bool.eq_iff_iff];simp;omega
    simp only[f,Bool.false_eq_true,if_false,e]
    split <;>(try simp only[List.length_cons]) <;>omega
theorem OX{bs:List aU}(hb:∀ b∈bs,lZ b):∀ o,jL bs o=oN bs o
 |0=>by
  have:(bs.filter fun b => !decide (0≤b.dU)&&(decide (1≤b.bP)&&decide (b.bP≤((0:Nat):Int))))=[]:=by
   rw[List.filter_eq_nil_iff]
   intro b _
   simp;omega
  simp only[jL,oN,this,List.length_nil]
 |o+1=>by rw[jL,OX hb o,alM hb o]
def oy(l:List ak)(day known no:Int):Int:=(nB l no day known).1
theorem Kj{l:List ak}{day known:Int}(hok:dc l=true)(hd:cq 0 100000 day=true)(hk:cq 0 100000 known=true){b:aU}(hb:b∈cS l day known)(hm:lZ b)(ha:¬ 0≤b.dU):nB l b.no day known=(b.bP,0):=by
 have hg:dF (cS l day known) b.no=some b:=ag4 (rj hok day known).1 hb
 have hno:cq 1 9999 b.no=true:=by
  obtain ⟨-,-,-,-,h5,h6⟩:=hm
  simp[cq];omega
 have hc:fR l [eR b.no 9999] [day,known]=0:=by
  have e1:(eR b.no 9999).g 0=b.no:=rfl
  have e2:(eR b.no 9999).g 1=9999:=rfl
  simp only[fR,hok,if_true,List.all_cons,List.all_nil,e1,e2,hno,Bool.and_true,List.any_cons,List.any_nil,hd,hk,Bool.not_true,Bool.or_false,Bool.false_eq_true,if_false]
 simp only[nB,hc,if_true,hg,if_neg ha]
theorem akk{l:List ak}{day known:Int}(hok:dc l=true)(hl:∀ i,l4 (ae l i))(hd:cq 0 100000 day=true)(hk:cq 0 100000 known=true) :
  ((dP (((cS l day known).filter fun b => !decide (0≤b.dU)).map (·.no))).filter fun no=>oy l day known no != 0).length=oN (cS l day known) 12:=by
 have hb:=KZ hl day known
 rw[((uO _).filter _).length_eq,List.filter_map,List.length_map,List.filter_filter,oN]
 congr 1
 refine List.filter_congr fun b hm =>?_
 obtain ⟨m1,m2,-,-,-,-⟩:=hb b hm
 simp only[Function.comp]
 by_cases ha:0≤b.dU
 ·simp[ha]
 ·have:=Kj hok hd hk hm (hb b hm) ha
  simp only[oy,this,ha,decide_false,Bool.not_false,Bool.and_true,Bool.true_and]
  rw[Bool.eq_iff_iff]
  simp;omega
def l7(l:List ak)(day known:Int)(nos:List Int)(i:Nat):Nat:=((nos.take i).filter fun no=>oy l day known no != 0).length
theorem akj(l:List ak)(day known:Int){nos:List Int}{i:Nat}(h:i<nos.length):l7 l day known nos (i+1)=l7 l day known nos i+if oy l day known nos[i] != 0 then 1 else 0:=by
 simp only[l7]
 rw[List.take_succ_eq_append_getElem h,List.filter_append,List.length_append,List.filter_cons,List.filter_nil]
 split <;>simp_all
theorem aki(l:List ak)(day known:Int)(nos:List Int)(i:Nat):l7 l day known nos i≤nos.length :=
 Nat.le_trans (List.length_filter_le _ _) (by rw[List.length_take];omega)
theorem C7(bs:List aU)(o s:Int):oq bs o s≤bs.length:=List.length_filter_le _ _
theorem zH(bs:List aU)(o:Nat):∀ s,mj bs o s≤s*bs.length
 |0=>Nat.zero_le _
 |s+1=>by
  have h1:=zH bs o s
  have h2:=C7 bs ((o+1:Nat):Int) ((s+1:Nat):Int)
  rw[mj,Nat.succ_mul];omega
theorem OW(bs:List aU):∀ o,jL bs o≤o*(2*bs.length)
 |0=>Nat.zero_le _
 |o+1=>by
  have h1:=OW bs o
  have h2:=zH bs o 2
  rw[jL,Nat.succ_mul];omega
theorem ama{a b:Nat}(h:a+b<9223372036854775807):IntKind.i64.wrap ((a:Int)+(b:Int))=((a+b:Nat):Int):=ke a b h
theorem Qk(c:List Int)(ls:List fE)(n:js)(hc:c.length*8≤140737488355328):aA Tryz.prog 4 [enc c,enc ls,enc n] (enc true):=by
 obtain ⟨m,hm⟩:∃ m,m=mK c:=⟨_,rfl⟩
 have hokm:en m=true:=by rw[hm];exact Ls c
 have h24:=Al c (by omega)
 rw[←hm] at h24
 have h23:=Ak m ls c hokm hc
 have hok:=Ln hokm ls c
 have hev:=aiy hokm ls c
 generalize oI m ls c=l at h23 hok hev
 obtain ⟨D,hD⟩:∃ D,D=n.g 0%32:=⟨_,rfl⟩
 obtain ⟨eC,hKn⟩:∃ eC,eC=n.g 1%45:=⟨_,rfl⟩
 have hDb:0≤D∧D<32:=by rw[hD];exact ⟨Int.emod_nonneg _ (by decide),Int.emod_lt_of_pos _ (by decide)⟩
 have hKb:0≤eC∧eC<45:=by rw[hKn];exact ⟨Int.emod_nonneg _ (by decide),Int.emod_lt_of_pos _ (by decide)⟩
 have hd:cq 0 100000 D=true:=by simp[cq];omega
 have hk:cq 0 100000 eC=true:=by simp[cq];omega
 have hb:=KZ hev D eC
 have hbl:=(rj hok D eC).2.1
 have hck:∀ ns,(ns.all fun q:js=>cq 1 (q.g 1) (q.g 0))=true→fR l ns [D,eC]=0:=fun ns h=>by
  simp only[fR,hok,if_true,h,List.any_cons,List.any_nil,hd,hk,Bool.not_true,Bool.or_false,Bool.false_eq_true,if_false]
 have h26:=Am l D eC
 have hA:og l D eC=(dP (((cS l D eC).filter fun b => !decide (0≤b.dU)).map (·.no)),0):=by simp only[og,hck [] rfl,if_true]
 rw[hA] at h26
 have hall:=akk hok hev hd hk
 have hsum:=OX hb 12
 have hmem:∀ no∈dP (((cS l D eC).filter fun b => !decide (0≤b.dU)).map (·.no)),nB l no D eC=(oy l D eC no,0):=fun no hno=>by
  rw[(uO _).mem_iff,List.mem_map] at hno
  obtain ⟨b,hbm,rfl⟩:=hno
  obtain ⟨m1,m2⟩:=List.mem_filter.1 hbm
  have:=Kj hok hd hk m1 (hb b m1) (by simpa using m2)
  simp only[oy,this]
 have hnl:(dP (((cS l D eC).filter fun b => !decide (0≤b.dU)).map (·.no))).length≤60:=by
  rw[(uO _).length_eq,List.length_map]
  exact Nat.le_trans (List.length_filter_le _ _) hbl
 generalize dP (((cS l D eC).filter fun b => !decide (0≤b.dU)).map (·.no))=nos at h26 hall hmem hnl
 have hC:∀ o s:Nat,1≤o→o≤12→1≤s→s≤2→pE l o s D eC=((oq (cS l D eC) o s:Int),0):=fun o s h1 h2 h3 h4=>by
  have h0:=hck [eR o 99,eR s 9] (by
   have e1:(eR (o:Int) 99).g 0=o:=rfl
   have e2:(eR (o:Int) 99).g 1=99:=rfl
   have e3:(eR (s:Int) 9).g 0=s:=rfl
   have e4:(eR (s:Int) 9).g 1=9:=rfl
   simp only[List.all_cons,List.all_nil,e1,e2,e3,e4,cq]
   simp;omega)
  simp only[pE,h0,if_true];rfl
 have hSl:=OW (cS l D eC)
 have hSs:=zH (cS l D eC)
 have hcl:=C7 (cS l D eC)
 obtain ⟨bs,hbs⟩:∃ bs,bs=cS l D eC:=⟨_,rfl⟩
 rw[←hbs] at hall hsum hC hSl hSs hcl hbl
 refine aA.bA Tryz.func4 Te Va Xi (Nat.le_of_ble_eq_true rfl) (fun hwf W0 D0 E1 =>?_)
 simp only[iy,Nu,bp,Nat.zero_add,Nat.reduceAdd]
 clear hwf
 have R:=And.intro @x8 (And.intro @eT (And.intro @bn (And.intro @a6 @U)))
 repeat' ((first
  |(with_reducible refine .guard (fun hb =>?_) (fun hb =>?_) <;>try simp only[hb])
  |refine ab.aO (by decide +kernel) rfl fun K hK =>?_
  |refine .lead _ (h24) ?_
  |refine .lead _ (h23) ?_
  |refine .flat _ (gI _ _ (by decide) (by decide)) rfl ?_
  |refine .lead _ (h26) ?_
  |(refine .aI [0,1,2,5,6,7,8,9,10,11,12,13,14,15,16,17,18,19,20,40,44,59,61,65,69,82] hK ?_;clear hK K)
  |(with_reducible refine .done (hK _ ?_);clear hK K)
  |refine ab.of rfl ?_
  |(with_reducible refine ar.aL (fun h =>?_) (fun h =>?_) <;>try simp only[h])) <;>try simp only[aQ,R,←hD,←hKn,Nat.reduceEqDiff,reduceIte,Int.reduceBNe,Nat.reduceBEq])
 all_goals clear R
 refine ab.loop (fun i:Nat=>av [(7,enc l),(8,.int .i64 D),(9,.int .i64 eC),(10,enc nos),(12,.int .i64 (l7 l D eC nos i)),(13,.int .i64 i)] []) (fun i=>i≤nos.length) (fun i=>nos.length-i) 0 (Nat.zero_le _) ?_ (fun i hi =>?_)
 ·have e:l7 l D eC nos 0=0:=by simp[l7]
  rw[e]
  refine aD.bM ?_ ?_ ?_ ?_ <;>simp[aV,bF,bE,a7,aY,I.only,bh]
 have hol:=aki l D eC nos i
 by_cases hlt:i<nos.length
 ·have hc1:=gD hlt
  have he:=fun A=>fI (A:=A) 1 hlt rfl
  have hw:=ft (i:=i) (by omega)
  have hwo:=ft (i:=l7 l D eC nos i) (by omega)
  have hsu:=akj l D eC hlt
  have hF:=An l nos[i] D eC
  rw[hmem _ (List.getElem_mem hlt)] at hF
  rcases q:(oy l D eC nos[i] != 0)
  all_goals
   rw[q] at hsu
   simp only[if_true,Bool.false_eq_true,if_false,Nat.add_zero] at hsu
   have R:=And.intro @hc1 (And.intro @he (And.intro @hw (And.intro @hwo (And.intro @q (And.intro @bn (And.intro @a6 @U))))))
   repeat' ((first
    |(with_reducible refine .guard (fun hb =>?_) (fun hb =>?_) <;>try simp only[hb])
    |refine ab.aO (by decide +kernel) rfl fun K hK =>?_
    |refine .flat _ (hF) rfl ?_
    |(refine .aI [0,1,2,5,6,7,8,9,10,11,12,13,14,15,16,17,18,19,20,40,44,59,61,65,69,82] hK ?_;clear hK K)
    |(with_reducible refine .done (hK _ ?_);clear hK K)
    |refine ab.of rfl ?_
    |(with_reducible refine ar.aL (fun h =>?_) (fun h =>?_) <;>try simp only[h])) <;>try simp only[aQ,R,Nat.reduceEqDiff,reduceIte,Int.reduceBNe,Nat.reduceBEq])
   all_goals clear R
   refine ⟨i+1,by omega,by omega,?_⟩
   rw[hsu]
   refine aD.bM ?_ ?_ ?_ ?_ <;>simp[aV,bF,bE,a7,aY,I.only,bh]
 have hc1:=ib hlt
 have hge:i=nos.length:=by omega
 subst hge
 have hfin:l7 l D eC nos nos.length=jL bs 12:=by
  rw[hsum,←hall,l7,List.take_length]
 rw[hfin]
 have R:=And.intro @hc1 (And.intro @bn (And.intro @a6 @U))
 repeat' ((first
  |(with_reducible refine .guard (fun hb =>?_) (fun hb =>?_) <;>try simp only[hb])
  |refine ab.aO (by decide +kernel) rfl fun K hK =>?_
  |(refine .aI [0,1,2,5,6,7,8,9,10,11,12,13,14,15,16,17,18,19,20,40,44,59,61,65,69,82] hK ?_;clear hK K)
  |(with_reducible refine .done (hK _ ?_);clear hK K)
  |refine ab.of rfl ?_
  |(with_reducible refine ar.aL (fun h =>?_) (fun h =>?_) <;>try simp only[h])) <;>try simp only[aQ,R,Nat.reduceEqDiff,reduceIte,Nat.reduceBEq])
 all_goals clear R
 refine ab.loop (fun o:Nat=>av [(7,enc l),(8,.int .i64 D),(9,.int .i64 eC),(12,.int .i64 (jL bs 12:Nat)),(16,.int .i64 (jL bs o:Nat)),(17,.int .i64 ((o+1:Nat):Int))] []) (fun o=>o≤12) (fun o=>12-o) 0 (Nat.zero_le _) ?_ (fun o ho =>?_)
 ·simp only[jL]
  refine aD.bM ?_ ?_ ?_ ?_ <;>simp[aV,bF,bE,a7,aY,I.only,bh]
 have h1:=hSl o
 have h2:o*(2*bs.length)≤12*(2*bs.length):=Nat.mul_le_mul_right _ ho
 by_cases ho12:o<12
 case neg =>
  have e:o=12:=by omega
  subst e
  have q1:decide (((12+1:Nat):Int)≤12)=false:=rfl
  have q2:∀ x:Int,(x==x)=true:=fun x=>by simp
  have R:=And.intro @q1 (And.intro @q2 (And.intro @bn (And.intro @a6 @U)))
  repeat' ((first
   |(with_reducible refine .guard (fun hb =>?_) (fun hb =>?_) <;>try simp only[hb])
   |refine ab.aO (by decide +kernel) rfl fun K hK =>?_
   |refine .flat _ (Aj) rfl ?_
   |(refine .aI [0,1,2,5,6,7,8,9,10,11,12,13,14,15,16,17,18,19,20,40,44,59,61,65,69,82] hK ?_;clear hK K)
   |(with_reducible refine .done (hK _ ?_);clear hK K)
   |refine ab.of rfl ?_
   |(with_reducible refine ar.aL (fun h =>?_) (fun h =>?_) <;>try simp only[h])) <;>try simp only[aQ,R,Nat.reduceEqDiff,reduceIte,Nat.reduceBEq])
  all_goals clear R
 have q1:decide (((o+1:Nat):Int)≤12)=true:=decide_eq_true (by omega)
 have hwo:=ft (i:=o+1) (by omega)
 have R:=And.intro @q1 (And.intro @bn (And.intro @a6 @U))
 repeat' ((first
  |(with_reducible refine .guard (fun hb =>?_) (fun hb =>?_) <;>try simp only[hb])
  |refine ab.aO (by decide +kernel) rfl fun K hK =>?_
  |(refine .aI [0,1,2,5,6,7,8,9,10,11,12,13,14,15,16,17,18,19,20,40,44,59,61,65,69,82] hK ?_;clear hK K)
  |(with_reducible refine .done (hK _ ?_);clear hK K)
  |refine ab.of rfl ?_
  |(with_reducible refine ar.aL (fun h =>?_) (fun h =>?_) <;>try simp only[h])) <;>try simp only[aQ,R,Nat.reduceEqDiff,reduceIte,Nat.reduceBEq])
 all_goals clear R
 refine ab.loop (fun s:Nat=>av [(7,enc l),(8,.int .i64 D),(9,.int .i64 eC),(12,.int .i64 (jL bs 12:Nat)),(16,.int .i64 ((jL bs o+mj bs o s:Nat):Int)),(17,.int .i64 ((o+1:Nat):Int)),(18,.int .i64 ((s+1:Nat):Int))] []) (fun s=>s≤2) (fun s=>2-s) 0 (Nat.zero_le _) ?_ (fun s hs =>?_)
 ·simp only[mj,Nat.add_zero]
  refine aD.bM ?_ ?_ ?_ ?_ <;>simp[aV,bF,bE,a7,aY,I.only,bh]
 by_cases hs2:s<2
 case neg =>
  have e:s=2:=by omega
  subst e
  have q3:decide (((2+1:Nat):Int)≤2)=false:=rfl
  have R:=And.intro @q3 (And.intro @hwo (And.intro @bn (And.intro @a6 @U)))
  repeat' ((first
   |(with_reducible refine .guard (fun hb =>?_) (fun hb =>?_) <;>try simp only[hb])
   |refine ab.aO (by decide +kernel) rfl fun K hK =>?_
   |(refine .aI [0,1,2,5,6,7,8,9,10,11,12,13,14,15,16,17,18,19,20,40,44,59,61,65,69,82] hK ?_;clear hK K)
   |(with_reducible refine .done (hK _ ?_);clear hK K)
   |refine ab.of rfl ?_
   |(with_reducible refine ar.aL (fun h =>?_) (fun h =>?_) <;>try simp only[h])) <;>try simp only[aQ,R,Nat.reduceEqDiff,reduceIte,Nat.reduceBEq])
  all_goals clear R
  refine ⟨o+1,by omega,by omega,?_⟩
  simp only[jL]
  refine aD.bM ?_ ?_ ?_ ?_ <;>simp[aV,bF,bE,a7,aY,I.only,bh]
 have q3:decide (((s+1:Nat):Int)≤2)=true:=decide_eq_true (by omega)
 have hws:=ft (i:=s+1) (by omega)
 have h3:=hSs o s
 have h4:s*bs.length≤2*bs.length:=Nat.mul_le_mul_right _ hs
 have h5:=hcl ((o+1:Nat):Int) ((s+1:Nat):Int)
 have hwa:=ama (a:=jL bs o+mj bs o s) (b:=oq bs ((o+1:Nat):Int) ((s+1:Nat):Int)) (by omega)
 have hF:=Ao l ((o+1:Nat):Int) ((s+1:Nat):Int) D eC
 rw[hC (o+1) (s+1) (by omega) (by omega) (by omega) (by omega)] at hF
 have R:=And.intro @q3 (And.intro @hws (And.intro @hwa (And.intro @bn (And.intro @a6 @U))))
 repeat' ((first
  |(with_reducible refine .guard (fun hb =>?_) (fun hb =>?_) <;>try simp only[hb])
  |refine ab.aO (by decide +kernel) rfl fun K hK =>?_
  |refine .flat _ (hF) rfl ?_
  |(refine .aI [0,1,2,5,6,7,8,9,10,11,12,13,14,15,16,17,18,19,20,40,44,59,61,65,69,82] hK ?_;clear hK K)
  |(with_reducible refine .done (hK _ ?_);clear hK K)
  |refine ab.of rfl ?_
  |(with_reducible refine ar.aL (fun h =>?_) (fun h =>?_) <;>try simp only[h])) <;>try simp only[aQ,R,Nat.reduceEqDiff,reduceIte,Int.reduceBNe,Nat.reduceBEq])
 all_goals clear R
 refine ⟨s+1,by omega,by omega,?_⟩
 simp only[mj,←Nat.add_assoc]
 refine aD.bM ?_ ?_ ?_ ?_ <;>simp[aV,bF,bE,a7,aY,I.only,bh]
end Go.Proofs.YtcldiigclhgafaaGreat
namespace Go.Proofs.YtcldiigclhgafaaGreat
open Go Go.Abs Go.ChangeShapes Go.WideShapes Go.ChangeAt Go.RowKit
open Go.Abs.Enc (enc)
theorem ai2:jN Tryz.prog 130 (aS 9 Int):=LJ (Ku (by kernel_rfl)) yA (by kernel_rfl) (by decide)
theorem Ld:jN Tryz.prog 43 (List (aS 9 Int)):=LK (by kernel_rfl) ai2 (by kernel_rfl)
theorem KK{H:Type}{P:Program}{ts:List TypeId}{ds:List (DataW H)}(hz:(DataW.weightsEach P ts ds).all (· ≤ reachBytes)=true){j:Nat}{t e:TypeId}{d:DataW H}{n:Nat}(ht:ts[j]?=some t)(hd:ds[j]?=some d)(hu:P.underlying t=some (.slice e))(hb:8≤P.bytesOf e)
  (h:n=0∨∃ elems spare,d=.slice elems spare∧elems.length=n):n*8≤140737488355328:=by
 rcases h with h | ⟨elems,spare,rfl,h⟩
 ·omega
 ·have h1:=sized_slice hz ht hd hu
  have h2:reachBytes<2^47:=reachBytes_lt
  have h3:(elems.length+spare.length)*8≤(elems.length+spare.length)*P.bytesOf e:=Nat.mul_le_mul_left _ hb
  omega
theorem ahD(os:Os)(started:os.Started)(H:Type)(enc0:TypeId×Value→H) :
  ReturnsInHanded {} Tryz.checked os 4 .any (Rows.herdSumsSpec.pre6 enc0 Tryz.prog Tryz.f4 Rows.herdSumsRow.domain false) (Rows.herdSumsSpec.post enc0 Tryz.prog Tryz.f4 false true false false):=by
 refine returnsInHanded_of_change_sized (C:=Tryz.checked) Tryz.own started (by kernel_rfl) Tryz.func4
  (ChangeSpec.witness6 (enc:=enc0) (C:=Tryz.checked) false ⟨#[],#[.slice none 0 0,.slice none 0 0,.agg #[.int .i64 0,.int .i64 0]],[]⟩ 8 (by kernel_rfl) (by kernel_rfl) (by kernel_rfl) (by kernel_rfl)) ?_
 intro W base args ds gs before hval0 hW hcnd hz0 _
 have hval:∀ (j:Nat) t v,Tryz.f4.params[j]?=some t→args[j]?=some v→Value.okWide Tryz.prog W .any base t v:=hval0
 have hz:(DataW.weightsEach Tryz.prog (Tryz.f4.params.toList++Rows.herdSumsSpec.plain.varTypes Tryz.prog) (ds++gs)).all (· ≤ reachBytes)=true:=hz0
 have hW':=hW
 obtain ⟨p,q,hA0,hV,hbef,hfz,hnd⟩:=hW
 have hA:DataW.TrodAll enc0 Tryz.prog W 0 (fun _=>true) true Tryz.f4.params.toList args.toList ds p:=hA0
 rw[Tryz.params4] at hA hval hz
 obtain ⟨v0,v1,v2,d0,d1,d2,p0,p1,p2,rfl,rfl,rfl,h0,h1,h2⟩:=trodAll_three hA
 obtain ⟨rfl,rfl⟩:=trodVars_none hV
 obtain ⟨a0,k0,l0⟩:=yW yB (e:=3) (by kernel_rfl) (hval 0 29 v0 rfl rfl) h0
 obtain ⟨a1,c1,k1⟩:=yV Ld rfl (by kernel_rfl) (hval 1 43 v1 rfl rfl) h1
 obtain ⟨a2,c2,k2⟩:=aka ai1 rfl (by kernel_rfl) (hval 2 28 v2 rfl rfl) h2
 have n0:=KK hz (j:=0) (t:=29) (e:=3) rfl rfl (by kernel_rfl) (of_decide_eq_true (by kernel_rfl)) l0
 exact KC (tb:=4) Tryz.KB (by rw[Tryz.params4]) rfl rfl (by rw[hbef];simp) rfl rfl (by kernel_rfl) (by kernel_rfl) hW' h0 h1 h2 (by
  intro t ht
  simp only[List.mem_cons,List.mem_nil_iff,or_false] at ht
  rcases ht with rfl | rfl | rfl <;>exact ⟨by kernel_rfl,of_decide_eq_true (by kernel_rfl)⟩) (Qk a0 a1 a2 n0) (On k0 ⟨c1,k1⟩ ⟨c2,k2⟩)
theorem ahC:Rows.HerdSumsSaid :=
 OpenClaim.holds_of_wide 4 Tryz.f4 rfl rfl rfl rfl rfl rfl rfl ⟨rfl,rfl,rfl,rfl,rfl⟩ rfl rfl rfl rfl rfl (by kernel_rfl) Tryz.func4 (by kernel_rfl)
  (of_decide_eq_true (by kernel_rfl)) (by unfold Func.isWrapper;first | (rw[if_pos (by decide +kernel)];kernel_rfl) | (rw[if_neg (by decide +kernel)];exact ⟨rfl,rfl⟩))
  (fun os started H enc0 _=>ahD os started H enc0)
#print axioms ahC
end Go.Proofs.YtcldiigclhgafaaGreat
namespace Go.Proofs.YtcldiigclhgafaaGreat
open Go Go.Abs
open Go.Abs.Enc (enc)
theorem Ap(a b:List ak):aA Tryz.prog 53 [enc a,enc b] (enc (decide (a=b))):=by
 refine aA.bA Tryz.func53 Tg Vc Xk (Nat.le_of_ble_eq_true rfl) (fun hwf W0 D0 E1 =>?_)
 simp only[Cm,Nw,bp,Nat.zero_add]
 have hlen:a.length≤maxLen:=((kJ a).1 hwf.1).1
 simp only[maxLen] at hlen
 clear hwf
 by_cases hl:a.length=b.length
 case neg =>
  have hn:((a.length:Int) != (b.length:Int))=true:=by simp;omega
  have R:=And.intro @hn (And.intro @bn (And.intro @a6 @U))
  repeat' ((first
   |(with_reducible refine .guard (fun hb =>?_) (fun hb =>?_) <;>try simp only[hb])
   |refine ab.aO (by decide +kernel) rfl fun K hK =>?_
   |(refine .aI [0,1,4,5,10,14,25] hK ?_;clear hK K)
   |(with_reducible refine .done (hK _ ?_);clear hK K)
   |refine ab.of rfl ?_
   |(with_reducible refine ar.aL (fun h =>?_) (fun h =>?_) <;>try simp only[h])) <;>try simp only[aQ,R,simprocAttr])
  all_goals clear R
  have:¬ a=b:=fun e=>hl (by rw[e])
  simp[this]
 have hn:((a.length:Int) != (b.length:Int))=false:=by simp;omega
 have R:=And.intro @hn (And.intro @bn (And.intro @a6 @U))
 repeat' ((first
  |(with_reducible refine .guard (fun hb =>?_) (fun hb =>?_) <;>try simp only[hb])
  |refine ab.aO (by decide +kernel) rfl fun K hK =>?_
  |(refine .aI [0,1,4,5,10,14,25] hK ?_;clear hK K)
  |(with_reducible refine .done (hK _ ?_);clear hK K)
  |refine ab.of rfl ?_
  |(with_reducible refine ar.aL (fun h =>?_) (fun h =>?_) <;>try simp only[h])) <;>try simp only[aQ,R,simprocAttr])
 all_goals clear R
 refine ab.loop (fun i:Nat=>av [(0,enc a),(1,enc b),(5,.int .i64 i)] []) (fun i=>i≤a.length∧∀ k,k<i→a[k]?=b[k]?) (fun i=>a.length-i) 0 ⟨Nat.zero_le _,fun k h=>by omega⟩ ?_ (fun i hi =>?_)
 ·refine aD.bM ?_ ?_ ?_ ?_ <;>simp[aV,bF,bE,a7,aY,I.only,bh]
 obtain ⟨hi1,hi2⟩:=hi
 by_cases hlt:i<a.length
 ·have hc:=gD hlt
  have he:=fun A=>fI (A:=A) 17 hlt rfl
  have hlt2:i<b.length:=by omega
  have he2:=fun A=>fI (A:=A) 17 hlt2 rfl
  have hw:=ft (i:=i) (by omega)
  rcases hp:decide (a[i]=b[i])
  ·have R:=And.intro @hc (And.intro @he (And.intro @he2 (And.intro @hp (And.intro @gq (And.intro @bn (And.intro @a6 @U))))))
   repeat' ((first
    |(with_reducible refine .guard (fun hb =>?_) (fun hb =>?_) <;>try simp only[hb])
    |refine ab.aO (by decide +kernel) rfl fun K hK =>?_
    |(refine .aI [0,1,4,5,10,14,25] hK ?_;clear hK K)
    |(with_reducible refine .done (hK _ ?_);clear hK K)
    |refine ab.of rfl ?_
    |(with_reducible refine ar.aL (fun h =>?_) (fun h =>?_) <;>try simp only[h])) <;>try simp only[aQ,R,simprocAttr])
   all_goals clear R
   have:¬ a=b:=fun e=>by subst e;simp at hp
   simp[this]
  ·have R:=And.intro @hc (And.intro @he (And.intro @he2 (And.intro @hp (And.intro @hw (And.intro @gq (And.intro @bn (And.intro @a6 @U)))))))
   repeat' ((first
    |(with_reducible refine .guard (fun hb =>?_) (fun hb =>?_) <;>try simp only[hb])
    |refine ab.aO (by decide +kernel) rfl fun K hK =>?_
    |(refine .aI [0,1,4,5,10,14,25] hK ?_;clear hK K)
    |(with_reducible refine .done (hK _ ?_);clear hK K)
    |refine ab.of rfl ?_
    |(with_reducible refine ar.aL (fun h =>?_) (fun h =>?_) <;>try simp only[h])) <;>try simp only[aQ,R,simprocAttr])
   all_goals clear R
   refine ⟨i+1,⟨by omega,fun k hk =>?_⟩,by omega,?_⟩
   ·by_cases e:k=i
    ·subst e
     have:a[k]=b[k]:=by simpa using hp
     simp[hlt,hlt2,this]
    ·exact hi2 k (by omega)
   ·refine aD.bM ?_ ?_ ?_ ?_ <;>simp[aV,bF,bE,a7,aY,I.only,bh]
 ·have hc:=ib hlt
  have R:=And.intro @hc (And.intro @bn (And.intro @a6 @U))
  repeat' ((first
   |(with_reducible refine .guard (fun hb =>?_) (fun hb =>?_) <;>try simp only[hb])
   |refine ab.aO (by decide +kernel) rfl fun K hK =>?_
   |(refine .aI [0,1,4,5,10,14,25] hK ?_;clear hK K)
   |(with_reducible refine .done (hK _ ?_);clear hK K)
   |refine ab.of rfl ?_
   |(with_reducible refine ar.aL (fun h =>?_) (fun h =>?_) <;>try simp only[h])) <;>try simp only[aQ,R,simprocAttr])
  all_goals clear R
  have:a=b:=List.ext_getElem? fun k=>by
   by_cases hk:k<i
   ·exact hi2 k hk
   ·rw[List.getElem?_eq_none (by omega),List.getElem?_eq_none (by omega)]
  simp[this]
theorem akr{l:List ak}{a:Item}(hs:fF l)(hno:jT l a=false){i:Nat}(h1:eF l a≤i)(h2:i<l.length):before a (ae l i).aX=true:=by
 rcases Rk (akq hs h1 h2) with h | h
 ·exact h
 ·rw[Kf h2 h] at hno;cases hno
def nK:List ak→List ak→Option (List ak)
 |out,[]=>some out
 |out,x::m=>if jT out x.aX then (if ae out (eF out x.aX)=x then nK out m else none) else nK (fH out (eF out x.aX) x) m
def mI(l more:List ak):List ak×Int:=match nK l more with
 |none=>([],43)
 |some out=>if out.length≤60 then (out,0) else ([],2)
theorem Kq{l:List ak}{p:Nat}{x y:ak} : y∈fH l p x↔y=x∨y∈l:=by
 have h:=List.take_append_drop p l
 have e:y∈l↔y∈l.take p∨y∈l.drop p:=by rw[←List.mem_append,h]
 rw[e]
 simp only[fH,List.mem_append,List.mem_cons]
 constructor <;>(rintro (h | h | h) <;>simp[h])
theorem Kr{l:List ak}{x:ak}(hs:fF l)(hno:jT l x.aX=false):fF (fH l (eF l x.aX) x):=by
 have h1:∀ a∈l.take (eF l x.aX),before a.aX x.aX=true:=fun a ha=>by
  obtain ⟨i,hi,rfl⟩:=List.mem_take_iff_getElem.1 ha
  rw[fb (by omega)];exact akp (by omega)
 have h2:∀ b∈l.drop (eF l x.aX),before x.aX b.aX=true:=fun b hb=>by
  obtain ⟨i,hi,rfl⟩:=List.mem_drop_iff_getElem.1 hb
  rw[fb (by omega)];exact akr hs hno (by omega) (by omega)
 simp only[fH,fF]
 refine List.pairwise_append.2 ⟨hs.sublist (List.take_sublist _ _),List.pairwise_cons.2 ⟨h2,hs.sublist (List.drop_sublist _ _)⟩,fun a ha b hb =>?_⟩
 rcases List.mem_cons.1 hb with rfl | hb
 ·exact h1 a ha
 ·exact pB (h1 a ha) (h2 b hb)
def xQ(g:ak):cR:=fun r os'=>∃ q,r=.view 25 [] 17 0 1∧os'=dG 25 [g] q
theorem OB(A:af):mh A 17 (some (.int .i64 0)) none none (.c0 17)=some (.slice 17 [])∧mh A 17 (some (.int .i64 0)) none none (.nils 17)=some (.slice 17 []):=by
 constructor <;>simp[mh,jJ,iw]
theorem z7(x:I)(hx:x=.nils 17∨x=.c0 17)(g:ak):cF Tryz.prog 153 [x,enc (0:Int),enc [g]] [] (xQ g):=by
 rcases hx with rfl | rfl
 ·refine cF.bA Tryz.func153 vE vH vT (Nat.le_of_ble_eq_true rfl) (Nat.le_of_ble_eq_true rfl) (fun m hm=>by simp[au,al] at hm) (fun hwf W0 D0 E1 =>?_)
  simp only[sJ,uu,bp,Nat.zero_add,Nat.reduceAdd]
  refine .ao (by decide +kernel) fun K hK =>?_
  simp only[ta,U,simprocAttr]
  refine .done (hK _ ?_);clear hK K
  refine .ao (by decide +kernel) fun K hK =>?_
  simp only[tc,U,simprocAttr]
  try simp only[Option.map_none,(OB _).2,U,simprocAttr]
  refine .done (hK _ ?_);clear hK K
  refine .ao (by decide +kernel) fun K hK =>?_
  simp only[td,U,simprocAttr]
  try simp only[bn,U,simprocAttr]
  refine .done (hK _ ?_);clear hK K
  refine ab.seq (ab.seq ?_)
  refine .bl (by decide +kernel) fun K hK =>?_
  simp only[te,U,simprocAttr]
  try simp only[cD,bn,gq,cH,U,simprocAttr]
  refine .done (hK _ ?_);clear hK K;try simp only[aq]
  refine ab.bC ?_
  simp only[ar,U,simprocAttr]
  refine ⟨fun h =>?_,fun h =>?_⟩
  ·first | cases h | simp at h
  refine ab.skip ?_;try simp only[aq,simprocAttr]
  refine .ao (by decide +kernel) fun K hK =>?_
  simp only[tf,U,simprocAttr]
  try simp only[cD,bn,gq,cH,U,simprocAttr]
  refine .done (hK _ ?_);clear hK K
  refine ab.seq (ab.seq ?_)
  refine .bl (by decide +kernel) fun K hK =>?_
  simp only[tg,U,simprocAttr]
  try simp only[cD,bn,gq,cH,U,simprocAttr]
  refine .done (hK _ ?_);clear hK K;try simp only[aq]
  refine ab.bC ?_
  simp only[ar,U,simprocAttr]
  refine ⟨fun h =>?_,fun h =>?_⟩
  case refine_2.refine_2=>first | cases h | simp at h
  refine .ao (by decide +kernel) fun K hK =>?_
  simp only[re,U,simprocAttr]
  try simp only[mC,simprocAttr]
  refine a8.Q1 (esz:=17) cE (l:=[g]) rfl (by simp) rfl (by simp) (by simp[maxLen]) fun q =>?_
  try simp only[U,simprocAttr]
  refine .done (hK _ ?_);clear hK K
  refine ab.ret ?_
  simp only[aq,eY]
  exact ⟨dG 25 [g] q,[.view 25 [] 17 0 1],kp rfl (fun p=>fK p _),⟨⟨_,rfl,.inl ⟨rfl,rfl,rfl⟩⟩,trivial⟩,q,rfl,rfl⟩
 ·refine cF.bA Tryz.func153 vE vH vT (Nat.le_of_ble_eq_true rfl) (Nat.le_of_ble_eq_true rfl) (fun m hm=>by simp[au,al] at hm) (fun hwf W0 D0 E1 =>?_)
  simp only[sJ,uu,bp,Nat.zero_add,Nat.reduceAdd]
  refine .ao (by decide +kernel) fun K hK =>?_
  simp only[ta,U,simprocAttr]
  refine .done (hK _ ?_);clear hK K
  refine .ao (by decide +kernel) fun K hK =>?_
  simp only[tc,U,simprocAttr]
  try simp only[Option.map_none,(OB _).1,U,simprocAttr]
  refine .done (hK _ ?_);clear hK K
  refine .ao (by decide +kernel) fun K hK =>?_
  simp only[td,U,simprocAttr]
  try simp only[bn,U,simprocAttr]
  refine .done (hK _ ?_);clear hK K
  refine ab.seq (ab.seq ?_)
  refine .bl (by decide +kernel) fun K hK =>?_
  simp only[te,U,simprocAttr]
  try simp only[cD,bn,gq,cH,U,simprocAttr]
  refine .done (hK _ ?_);clear hK K;try simp only[aq]
  refine ab.bC ?_
  simp only[ar,U,simprocAttr]
  refine ⟨fun h =>?_,fun h =>?_⟩
  ·first | cases h | simp at h
  refine ab.skip ?_;try simp only[aq,simprocAttr]
  refine .ao (by decide +kernel) fun K hK =>?_
  simp only[tf,U,simprocAttr]
  try simp only[cD,bn,gq,cH,U,simprocAttr]
  refine .done (hK _ ?_);clear hK K
  refine ab.seq (ab.seq ?_)
  refine .bl (by decide +kernel) fun K hK =>?_
  simp only[tg,U,simprocAttr]
  try simp only[cD,bn,gq,cH,U,simprocAttr]
  refine .done (hK _ ?_);clear hK K;try simp only[aq]
  refine ab.bC ?_
  simp only[ar,U,simprocAttr]
  refine ⟨fun h =>?_,fun h =>?_⟩
  case refine_2.refine_2=>first | cases h | simp at h
  refine .ao (by decide +kernel) fun K hK =>?_
  simp only[re,U,simprocAttr]
  try simp only[mC,simprocAttr]
  refine a8.vp (esz:=17) cE (l:=[g]) rfl (by simp) rfl (by simp) (by simp[maxLen]) fun q =>?_
  try simp only[U,simprocAttr]
  refine .done (hK _ ?_);clear hK K
  refine ab.ret ?_
  simp only[aq,eY]
  exact ⟨dG 25 [g] q,[.view 25 [] 17 0 1],kp rfl (fun p=>fK p _),⟨⟨_,rfl,.inl ⟨rfl,rfl,rfl⟩⟩,trivial⟩,q,rfl,rfl⟩
theorem aj8(p:Nat→Bool)(q:Nat):I.bR p (List.replicate q (enc cE))=true:=by
 rw[←List.map_replicate];exact dN p _
def qD(out:List ak)(v:I)(os:List (Nat×ai)):Prop :=
 (out=[]∧(v=.nils 17∨v=.c0 17)∧os=[])∨(out≠[]∧∃ nm k,(nm=906∨nm=907)∧v=.view nm [] 17 0 out.length∧os=dG nm out k)
theorem ahP{nm n i:Nat}(h:i<n)(fs:List I):lW nm [] 17 0 n 17 (i:Int) (some fs)=some (.ptr nm [i]):=by
 have:=xY (m:=nm) (sz:=17) (lo:=0) (l:=n) (i:=i) (fs:=fs) h
 rwa [Nat.zero_add] at this
theorem Rh{l:List ak}{k i:Nat}(h:i<l.length):fB i [] (some ((l++List.replicate k cE).map enc))=some (enc (ae l i)):=by
 rw[vv (α:=ak) default (by simp;omega)]
 simp only[ae,List.getD_eq_getElem?_getD]
 rw[List.getElem?_append_left h]
theorem DQ{l:List ak}{k:Nat} : lQ 17 0 l.length (some ((l++List.replicate k cE).map enc))=some (enc l):=by
 rw[qY (α:=ak) (sz:=17) rfl,List.take_left]
theorem aiU:(∀ A z,je A (.nils z)=some (.int .i64 0))∧(∀ A z,je A (.c0 z)=some (.int .i64 0)):=⟨fun _ _=>rfl,fun _ _=>rfl⟩
theorem zV(l more:List ak)(hs:fF l)(hl:l.length≤60)(hm:more.length≤60):aA Tryz.prog 112 [enc l,enc more] (.tuple [enc (mI l more).1,enc (mI l more).2]):=by
 refine aA.bA Tryz.func112 RY TR VY (Nat.le_of_ble_eq_true rfl) (fun hwf W0 D0 E1 =>?_)
 simp only[A1,L9,bp,Nat.zero_add]
 clear hwf
 obtain ⟨J,hJ⟩:∃ J,J=mI l more:=⟨_,rfl⟩
 rw[←hJ]
 refine .ao (by decide +kernel) fun K hK =>?_
 simp only[Et,U,simprocAttr]
 refine .done (hK _ ?_);clear hK K
 refine .ao (by decide +kernel) fun K hK =>?_
 simp only[Eu,U,simprocAttr]
 try simp only[U,simprocAttr]
 refine .bS false [(7,906)] [] [enc l] (vO l) rfl (zZ l (by omega)) fP.nil ⟨.inl ⟨(hX _ _).symm,bh _ _,dq _⟩,trivial⟩ ?_ ?_
 ·rintro x os' (⟨_,h | h,rfl⟩ | ⟨_,k,rfl,rfl⟩)
  ·subst h;exact dx.nil (fun _=>rfl) (fun h=>by cases h)
  ·subst h;exact dx.nil (fun _=>rfl) (fun h=>by cases h)
  ·exact dx.qa (fun p=>tO p _) (fun h=>by cases h) rfl (fun h=>by cases h) rfl (by decide)
 rintro x0 os' hp
 have hO:qD l (x0.aR (bD [(7,906)])) (dJ [(7,906)] os'++[]):=by
  rcases hp with ⟨hn,h,rfl⟩ | ⟨hn,k,rfl,rfl⟩
  ·left
   rcases h with rfl | rfl
   ·exact ⟨hn,.inl rfl,rfl⟩
   ·exact ⟨hn,.inr rfl,rfl⟩
  ·right
   refine ⟨hn,906,k,.inl rfl,rfl,?_⟩
   simp only[dG,gh,gu,List.append_nil,if_true]
 generalize x0.aR (bD [(7,906)])=v at hO ⊢
 generalize dJ [(7,906)] os'++[]=os at hO ⊢
 try simp only[U,simprocAttr]
 refine .done (hK _ ?_);clear hK K
 refine ab.seq (ab.seq ?_)
 refine .bl (by decide +kernel) fun K hK =>?_
 simp only[Ev,U,simprocAttr]
 try simp only[bn,U,simprocAttr]
 refine .done (hK _ ?_);clear hK K;try simp only[aq]
 refine ab.block (ab.loop (fun s:Nat×List ak×I×List (Nat×ai)=>av [(6,s.2.2.1),(13,enc more),(14,.int .i64 more.length),(15,.int .i64 s.1)] s.2.2.2) (fun s=>s.1≤more.length∧qD s.2.1 s.2.2.1 s.2.2.2∧fF s.2.1∧s.2.1.length≤60+s.1∧nK l more=nK s.2.1 (more.drop s.1)) (fun s=>more.length-s.1) (0,l,v,os) ⟨Nat.zero_le _,hO,hs,by simp only;omega,rfl⟩ ?_ ?_)
 ·refine aD.da ?_ (fun n=>rfl)
  simp[aV,aY]
 clear hO hp
 rintro ⟨i,out,v,os⟩ ⟨h1,hO,hs,hol,hj⟩
 simp only at h1 hO hs hol hj ⊢
 by_cases hlt:i<more.length
 case neg =>
  have hc:=ib hlt
  have hge:i=more.length:=by omega
  subst hge
  have hJ2:J=if out.length≤60 then (out,0) else ([],2):=by
   rw[hJ,mI,hj,List.drop_length];rfl
  rw[hJ2]
  rcases hO with ⟨rfl,hv,rfl⟩ | ⟨hne,nm,k,hnm,rfl,rfl⟩
  ·have h60:decide ((60:Int)<0)=false:=rfl
   rcases hv with rfl | rfl
   all_goals
    have R:=And.intro @hc (And.intro @h60 (And.intro @aiU (And.intro @bn (And.intro @a6 @U))))
    repeat' ((first
     |(with_reducible refine .guard (fun hb =>?_) (fun hb =>?_) <;>try simp only[hb])
     |refine ab.aO (by decide +kernel) rfl fun K hK =>?_
     |(refine .aI [0,1,4,5,6,8,9,10,13,14,15,16,34,36,45] hK ?_;clear hK K)
     |(with_reducible refine .done (hK _ ?_);clear hK K)
     |refine ab.of rfl ?_
     |(with_reducible refine ar.aL (fun h =>?_) (fun h =>?_) <;>try simp only[h])) <;>try simp only[aQ,R,simprocAttr])
    all_goals clear R
    all_goals first | rfl | exact absurd (by assumption) (by decide:¬ decide ((60:Int)<0)=true)
  ·have hfv:=fun k=>DQ (l:=out) (k:=k)
   by_cases hl60:out.length≤60
   ·have h60:decide ((60:Int)<(out.length:Int))=false:=by simp;omega
    rw[if_pos hl60]
    simp only[dG]
    have R:=And.intro @hc (And.intro @h60 (And.intro @hfv (And.intro @dp (And.intro @bn (And.intro @a6 @U)))))
    repeat' ((first
     |(with_reducible refine .guard (fun hb =>?_) (fun hb =>?_) <;>try simp only[hb])
     |refine ab.aO (by decide +kernel) rfl fun K hK =>?_
     |(refine .aI [0,1,4,5,6,8,9,10,13,14,15,16,34,36,45] hK ?_;clear hK K)
     |(with_reducible refine .done (hK _ ?_);clear hK K)
     |refine ab.of rfl ?_
     |(with_reducible refine ar.aL (fun h =>?_) (fun h =>?_) <;>try simp only[h])) <;>try simp only[aQ,R,simprocAttr])
    all_goals clear R
   ·have h60:decide ((60:Int)<(out.length:Int))=true:=by simp;omega
    rw[if_neg hl60]
    simp only[dG]
    have R:=And.intro @hc (And.intro @h60 (And.intro @hfv (And.intro @dp (And.intro @bn (And.intro @a6 @U)))))
    repeat' ((first
     |(with_reducible refine .guard (fun hb =>?_) (fun hb =>?_) <;>try simp only[hb])
     |refine ab.aO (by decide +kernel) rfl fun K hK =>?_
     |(refine .aI [0,1,4,5,6,8,9,10,13,14,15,16,34,36,45] hK ?_;clear hK K)
     |(with_reducible refine .done (hK _ ?_);clear hK K)
     |refine ab.of rfl ?_
     |(with_reducible refine ar.aL (fun h =>?_) (fun h =>?_) <;>try simp only[h])) <;>try simp only[aQ,R,simprocAttr])
    all_goals clear R
    all_goals rfl
 have hc:=gD hlt
 have he:=fun A=>jV (A:=A) hlt
 have hw:=ft (i:=i) (by omega)
 have hd:more.drop i=ae more i::more.drop (i+1):=by rw[List.drop_eq_getElem_cons hlt,fb hlt]
 rw[hd] at hj
 generalize ae more i=x at he hj
 have hF:=Pn out x.aX hs (by omega)
 have hh:=xI hs x.aX
 have hpl:=LZ out x.aX
 have hbs:=nq 17 x rfl
 simp only[nK] at hj
 rcases hO with ⟨rfl,hv,rfl⟩ | ⟨hne,nm,k,hnm,rfl,rfl⟩
 ·have e1:jT [] x.aX=false:=rfl
  have e2:eF [] x.aX=0:=rfl
  rw[e1,e2] at hF
  rw[e1,e2,if_neg (by decide)] at hj
  rcases hv with rfl | rfl
  all_goals
   have R:=And.intro @hc (And.intro @he (And.intro @hbs (And.intro @bn (And.intro @a6 @U))))
   repeat' ((first
    |(with_reducible refine .guard (fun hb =>?_) (fun hb =>?_) <;>try simp only[hb])
    |refine ab.aO (by decide +kernel) rfl fun K hK =>?_
    |refine .flat _ (hF) rfl ?_
    |(refine .aI [0,1,4,5,6,8,9,10,13,14,15,16,34,36,45] hK ?_;clear hK K)
    |(with_reducible refine .done (hK _ ?_);clear hK K)
    |refine ab.of rfl ?_
    |(with_reducible refine ar.aL (fun h =>?_) (fun h =>?_) <;>try simp only[h])) <;>try simp only[aQ,R,simprocAttr])
   all_goals clear R
  all_goals
   first
    |refine .bS false [(25,906)] [] [.nils 17,enc (0:Int),enc [x]] (xQ x) rfl (z7 _ (.inl rfl) x) fP.nil ⟨.inl ⟨rfl,rfl,rfl⟩,.inl ⟨rfl,rfl,rfl⟩,.inl ⟨(hX _ _).symm,bh _ _,dq _⟩,trivial⟩ ?_ ?_
    |refine .bS false [(25,906)] [] [.c0 17,enc (0:Int),enc [x]] (xQ x) rfl (z7 _ (.inr rfl) x) fP.nil ⟨.inl ⟨rfl,rfl,rfl⟩,.inl ⟨rfl,rfl,rfl⟩,.inl ⟨(hX _ _).symm,bh _ _,dq _⟩,trivial⟩ ?_ ?_
   ·rintro x os' ⟨k,rfl,rfl⟩
    exact dx.qa (fun p=>fK p _) (fun h=>by cases h) rfl (fun h=>by cases h) rfl (by decide)
   ·rintro r os' ⟨q,rfl,rfl⟩
    try simp only[dG,gh,hX,gu,List.cons_append,List.nil_append,U,simprocAttr]
    refine .done (hK _ ?_);clear hK K;try simp only[aq,bN]
    have R:=And.intro @hw (And.intro @a6 @U)
    repeat' ((first
     |(with_reducible refine .guard (fun hb =>?_) (fun hb =>?_) <;>try simp only[hb])
     |refine ab.aO (by decide +kernel) rfl fun K hK =>?_
     |(refine .aI [0,1,4,5,6,8,9,10,13,14,15,16,34,36,45] hK ?_;clear hK K)
     |(with_reducible refine .done (hK _ ?_);clear hK K)
     |refine ab.of rfl ?_
     |(with_reducible refine ar.aL (fun h =>?_) (fun h =>?_) <;>try simp only[h])) <;>try simp only[aQ,R,simprocAttr])
    all_goals clear R
    have o1:qD [x] (.view 906 [] 17 0 1) (dG 906 [x] q):=.inr ⟨by simp,906,q,.inl rfl,rfl,rfl⟩
    refine ⟨(i+1,[x],.view 906 [] 17 0 1,dG 906 [x] q),⟨by simp only;omega,o1,List.pairwise_singleton _ _,by simp;omega,hj⟩,by simp only;omega,?_⟩
    simp only[dG]
    refine aD.bM ?_ ?_ ?_ ?_ <;>simp[*,aV,bF,bE,a7,au,aY,ct,I.only,I.bR,ai.only,bh,aj8]
 have hfv:=fun k=>DQ (l:=out) (k:=k)
 have hI:=fun k=>PH out (eF out x.aX) x k hpl hne (by omega)
 rcases q:jT out x.aX
 case true =>
  rw[q] at hF hh
  rw[q,if_pos rfl] at hj
  simp only[Bool.true_eq,Bool.and_eq_true,decide_eq_true_eq] at hh
  have v1:=fun nm fs=>ahP (nm:=nm) hh.1 fs
  have l1:=fun k=>Rh (l:=out) (k:=k) hh.1
  simp only[dG]
  by_cases hx:ae out (eF out x.aX)=x
  ·have q2:decide (ae out (eF out x.aX)=x)=true:=by simp[hx]
   rw[if_pos hx] at hj
   have o1:qD out (.view nm [] 17 0 out.length) (dG nm out k):=.inr ⟨hne,nm,k,hnm,rfl,rfl⟩
   rcases hnm with rfl | rfl
   all_goals
    have R:=And.intro @hc (And.intro @he (And.intro @hw (And.intro @hfv (And.intro @v1 (And.intro @l1 (And.intro @q2 (And.intro @dp (And.intro @bn (And.intro @a6 @U)))))))))
    repeat' ((first
     |(with_reducible refine .guard (fun hb =>?_) (fun hb =>?_) <;>try simp only[hb])
     |refine ab.aO (by decide +kernel) rfl fun K hK =>?_
     |refine .flat _ (hF) rfl ?_
     |(refine .aI [0,1,4,5,6,8,9,10,13,14,15,16,34,36,45] hK ?_;clear hK K)
     |(with_reducible refine .done (hK _ ?_);clear hK K)
     |refine ab.of rfl ?_
     |(with_reducible refine ar.aL (fun h =>?_) (fun h =>?_) <;>try simp only[h])) <;>try simp only[aQ,R,simprocAttr])
    all_goals clear R
    refine ⟨(i+1,out,_,_),⟨by simp only;omega,o1,hs,by simp only;omega,hj⟩,by simp only;omega,?_⟩
    simp only[]
    generalize out++List.replicate k cE=ws
    refine aD.bM ?_ ?_ ?_ ?_ <;>simp[aV,bF,bE,a7,au,aY,ct,I.only,ai.only,dN,bh]
  ·have q2:decide (ae out (eF out x.aX)=x)=false:=by simp[hx]
   rw[if_neg hx] at hj
   have hJ2:J=([],43):=by rw[hJ,mI,hj]
   rw[hJ2]
   rcases hnm with rfl | rfl
   all_goals
    have R:=And.intro @hc (And.intro @he (And.intro @hw (And.intro @hfv (And.intro @v1 (And.intro @l1 (And.intro @q2 (And.intro @dp (And.intro @bn (And.intro @a6 @U)))))))))
    repeat' ((first
     |(with_reducible refine .guard (fun hb =>?_) (fun hb =>?_) <;>try simp only[hb])
     |refine ab.aO (by decide +kernel) rfl fun K hK =>?_
     |refine .flat _ (hF) rfl ?_
     |(refine .aI [0,1,4,5,6,8,9,10,13,14,15,16,34,36,45] hK ?_;clear hK K)
     |(with_reducible refine .done (hK _ ?_);clear hK K)
     |refine ab.of rfl ?_
     |(with_reducible refine ar.aL (fun h =>?_) (fun h =>?_) <;>try simp only[h])) <;>try simp only[aQ,R,simprocAttr])
    all_goals clear R
    all_goals rfl
 rw[q] at hF
 rw[q,if_neg (by decide)] at hj
 have hsi:=Kr hs q
 have hil:=ahK x hpl
 have hni:fH out (eF out x.aX) x≠[]:=fun e=>by rw[e] at hil;simp at hil
 generalize eF out x.aX=p at *
 obtain ⟨ay,hL⟩:∃ ay,ay=fH out p x:=⟨_,rfl⟩
 rw[←hL] at hsi hil hni hj
 have o1:∀ nm q,nm=906∨nm=907→qD ay (.view nm [] 17 0 ay.length) (dG nm ay q):=fun nm q h=>.inr ⟨hni,nm,q,h,rfl,rfl⟩
 simp only[dG]
 rcases hnm with rfl | rfl
 all_goals
  have R:=And.intro @hc (And.intro @he (And.intro @hbs (And.intro @hfv (And.intro @dp (And.intro @bn (And.intro @a6 @U))))))
  repeat' ((first
   |(with_reducible refine .guard (fun hb =>?_) (fun hb =>?_) <;>try simp only[hb])
   |refine ab.aO (by decide +kernel) rfl fun K hK =>?_
   |refine .flat _ (hF) rfl ?_
   |(refine .aI [0,1,4,5,6,8,9,10,13,14,15,16,34,36,45] hK ?_;clear hK K)
   |(with_reducible refine .done (hK _ ?_);clear hK K)
   |refine ab.of rfl ?_
   |(with_reducible refine ar.aL (fun h =>?_) (fun h =>?_) <;>try simp only[h])) <;>try simp only[aQ,R,simprocAttr])
  all_goals clear R
 ·refine .bS false [(1000000,906),(25,907),(40,907)] (dG 1000000 out k) [.view 1000000 [] 17 0 out.length,enc (p:Int),enc [x]] (xR out p x k) rfl (hI k) ⟨?_,?_⟩ ⟨.inl ⟨?_,?_,rfl⟩,.inl ⟨rfl,rfl,rfl⟩,.inl ⟨(hX _ _).symm,bh _ _,dq _⟩,trivial⟩ ?_ ?_
  ·intro n y h
   simp only[dG,al] at h
   split at h
   ·rename_i hn'
    subst hn'
    simp only[Option.some.injEq] at h
    subst h
    exact ⟨by simp only[gh,gu,U,simprocAttr],fK _ _,rfl⟩
   ·cases h
  ·intro a b ha hb _
   rw[cW.1 ha,cW.1 hb]
  ·try simp only[gh,simprocAttr]
  ·exact cW.2 rfl
  ·rintro r os' (⟨q,rfl,rfl⟩ | ⟨d,q,rfl | rfl,rfl,rfl⟩)
   ·exact dx.yO (fun p=>fK p _) (fun h=>by cases h) rfl (fun h=>by cases h)
   ·exact dx.oa rfl rfl (by decide) (by decide) (fun p=>fK p _) (fun h=>by cases h) (fun p=>fK p _) (fun h=>by cases h) rfl (fun h=>by cases h) rfl (by decide)
   ·exact dx.oa rfl rfl (by decide) (by decide) (fun p=>fK p _) (fun h=>by cases h) (fun p=>fK p _) (fun h=>by cases h) rfl (fun h=>by cases h) rfl (by decide)
  ·rintro r os' (⟨q,rfl,rfl⟩ | ⟨d,q,rfl | rfl,rfl,rfl⟩)
   all_goals
    rw[←hL,←hil]
    try simp only[dG,gh,gu,List.cons_append,List.nil_append,U,simprocAttr]
    refine .done (hK _ ?_);clear hK K;try simp only[aq,bN]
    have R:=And.intro @hw (And.intro @a6 @U)
    repeat' ((first
     |(with_reducible refine .guard (fun hb =>?_) (fun hb =>?_) <;>try simp only[hb])
     |refine ab.aO (by decide +kernel) rfl fun K hK =>?_
     |(refine .aI [0,1,4,5,6,8,9,10,13,14,15,16,34,36,45] hK ?_;clear hK K)
     |(with_reducible refine .done (hK _ ?_);clear hK K)
     |refine ab.of rfl ?_
     |(with_reducible refine ar.aL (fun h =>?_) (fun h =>?_) <;>try simp only[h])) <;>try simp only[aQ,R,simprocAttr])
    all_goals clear R
    first
     |refine ⟨(i+1,ay,_,_),⟨by simp only;omega,o1 906 q (.inl rfl),hsi,by simp only;omega,hj⟩,by simp only;omega,?_⟩
      simp only[]
      generalize ay++List.replicate q cE=ws
      refine aD.bM ?_ ?_ ?_ ?_ <;>simp[aV,bF,bE,a7,au,aY,ct,I.only,ai.only,dN,bh]
      done
     |refine ⟨(i+1,ay,_,_),⟨by simp only;omega,o1 907 q (.inr rfl),hsi,by simp only;omega,hj⟩,by simp only;omega,?_⟩
      simp only[]
      generalize ay++List.replicate q cE=ws
      refine aD.bM ?_ ?_ ?_ ?_ <;>simp[aV,bF,bE,a7,au,aY,ct,I.only,ai.only,dN,bh]
      done
 ·refine .bS false [(1000000,907),(25,906),(40,906)] (dG 1000000 out k) [.view 1000000 [] 17 0 out.length,enc (p:Int),enc [x]] (xR out p x k) rfl (hI k) ⟨?_,?_⟩ ⟨.inl ⟨?_,?_,rfl⟩,.inl ⟨rfl,rfl,rfl⟩,.inl ⟨(hX _ _).symm,bh _ _,dq _⟩,trivial⟩ ?_ ?_
  ·intro n y h
   simp only[dG,al] at h
   split at h
   ·rename_i hn'
    subst hn'
    simp only[Option.some.injEq] at h
    subst h
    exact ⟨by simp only[gh,gu,U,simprocAttr],fK _ _,rfl⟩
   ·cases h
  ·intro a b ha hb _
   rw[cW.1 ha,cW.1 hb]
  ·try simp only[gh,simprocAttr]
  ·exact cW.2 rfl
  ·rintro r os' (⟨q,rfl,rfl⟩ | ⟨d,q,rfl | rfl,rfl,rfl⟩)
   ·exact dx.yO (fun p=>fK p _) (fun h=>by cases h) rfl (fun h=>by cases h)
   ·exact dx.oa rfl rfl (by decide) (by decide) (fun p=>fK p _) (fun h=>by cases h) (fun p=>fK p _) (fun h=>by cases h) rfl (fun h=>by cases h) rfl (by decide)
   ·exact dx.oa rfl rfl (by decide) (by decide) (fun p=>fK p _) (fun h=>by cases h) (fun p=>fK p _) (fun h=>by cases h) rfl (fun h=>by cases h) rfl (by decide)
  ·rintro r os' (⟨q,rfl,rfl⟩ | ⟨d,q,rfl | rfl,rfl,rfl⟩)
   all_goals
    rw[←hL,←hil]
    try simp only[dG,gh,gu,List.cons_append,List.nil_append,U,simprocAttr]
    refine .done (hK _ ?_);clear hK K;try simp only[aq,bN]
    have R:=And.intro @hw (And.intro @a6 @U)
    repeat' ((first
     |(with_reducible refine .guard (fun hb =>?_) (fun hb =>?_) <;>try simp only[hb])
     |refine ab.aO (by decide +kernel) rfl fun K hK =>?_
     |(refine .aI [0,1,4,5,6,8,9,10,13,14,15,16,34,36,45] hK ?_;clear hK K)
     |(with_reducible refine .done (hK _ ?_);clear hK K)
     |refine ab.of rfl ?_
     |(with_reducible refine ar.aL (fun h =>?_) (fun h =>?_) <;>try simp only[h])) <;>try simp only[aQ,R,simprocAttr])
    all_goals clear R
    first
     |refine ⟨(i+1,ay,_,_),⟨by simp only;omega,o1 906 q (.inl rfl),hsi,by simp only;omega,hj⟩,by simp only;omega,?_⟩
      simp only[]
      generalize ay++List.replicate q cE=ws
      refine aD.bM ?_ ?_ ?_ ?_ <;>simp[aV,bF,bE,a7,au,aY,ct,rC,I.only,ai.only,dN,bh]
      done
     |refine ⟨(i+1,ay,_,_),⟨by simp only;omega,o1 907 q (.inr rfl),hsi,by simp only;omega,hj⟩,by simp only;omega,?_⟩
      simp only[]
      generalize ay++List.replicate q cE=ws
      refine aD.bM ?_ ?_ ?_ ?_ <;>simp[aV,bF,bE,a7,au,aY,ct,I.only,ai.only,dN,bh]
      done
def ry(a b:List ak):List ak×Int:=if dc a&&dc b then mI a b else ([],41)
theorem pj(a b:List ak):aA Tryz.prog 52 [enc a,enc b] (.tuple [enc (ry a b).1,enc (ry a b).2]):=by
 have h1:=sm a
 have h2:=sm b
 refine aA.bA Tryz.func52 Tf Vb Xj (Nat.le_of_ble_eq_true rfl) (fun hwf W0 D0 E1 =>?_)
 simp only[Cl,Nv,bp,Nat.zero_add]
 clear hwf
 simp only[ry]
 rcases q1:dc a <;>rcases q2:dc b
 all_goals
  rw[q1] at h1
  rw[q2] at h2
  simp only[if_true,Bool.false_eq_true,if_false] at h1 h2
 iterate 3
  ·have R:=And.intro @a6 @U
   repeat' ((first
    |(with_reducible refine .guard (fun hb =>?_) (fun hb =>?_) <;>try simp only[hb])
    |refine ab.aO (by decide +kernel) rfl fun K hK =>?_
    |refine .flat _ (h1) rfl ?_
    |refine .flat _ (h2) rfl ?_
    |(refine .aI [0,1,4,5,13] hK ?_;clear hK K)
    |(with_reducible refine .done (hK _ ?_);clear hK K)
    |refine ab.of rfl ?_
    |(with_reducible refine ar.aL (fun h =>?_) (fun h =>?_) <;>try simp only[h])) <;>try simp only[aQ,R,Nat.reduceEqDiff,reduceIte,Int.reduceBNe,Nat.reduceBEq])
   all_goals clear R
   all_goals rfl
 have hF:=zV a b (mQ q1) (kY q1) (kY q2)
 simp only[Bool.and_self,if_true]
 have R:=And.intro @a6 @U
 repeat' ((first
  |(with_reducible refine .guard (fun hb =>?_) (fun hb =>?_) <;>try simp only[hb])
  |refine ab.aO (by decide +kernel) rfl fun K hK =>?_
  |refine .flat _ (h1) rfl ?_
  |refine .flat _ (h2) rfl ?_
  |refine .lead _ (hF) ?_
  |(refine .aI [0,1,4,5,13] hK ?_;clear hK K)
  |(with_reducible refine .done (hK _ ?_);clear hK K)
  |refine ab.of rfl ?_
  |(with_reducible refine ar.aL (fun h =>?_) (fun h =>?_) <;>try simp only[h])) <;>try simp only[aQ,R,Nat.reduceEqDiff,reduceIte,Int.reduceBNe,Nat.reduceBEq])
 all_goals clear R
def qE(l:List ak)(x:ak):List ak×Int:=if dc l then (if gS x then mI l [x] else ([],40)) else ([],41)
theorem Ql(l:List ak)(x:ak):aA Tryz.prog 54 [enc l,enc x] (.tuple [enc (qE l x).1,enc (qE l x).2]):=by
 have h1:=sm l
 have h2:=Qm x
 refine aA.bA Tryz.func54 Th Vd Xl (Nat.le_of_ble_eq_true rfl) (fun hwf W0 D0 E1 =>?_)
 simp only[Cn,Nx,bp,Nat.zero_add]
 clear hwf
 simp only[qE]
 rcases q1:dc l
 ·rw[q1,if_neg (by decide)] at h1
  have R:=And.intro @a6 @U
  repeat' ((first
   |(with_reducible refine .guard (fun hb =>?_) (fun hb =>?_) <;>try simp only[hb])
   |refine ab.aO (by decide +kernel) rfl fun K hK =>?_
   |refine .flat _ (h1) rfl ?_
   |(refine .aI [0,1,3,4,5,6,7,11,16] hK ?_;clear hK K)
   |(with_reducible refine .done (hK _ ?_);clear hK K)
   |refine ab.of rfl ?_
   |(with_reducible refine ar.aL (fun h =>?_) (fun h =>?_) <;>try simp only[h])) <;>try simp only[aQ,R,Nat.reduceEqDiff,reduceIte,Int.reduceBNe,Nat.reduceBEq])
  all_goals clear R
  all_goals rfl
 rw[q1,if_pos rfl] at h1
 rcases q2:gS x
 ·rw[q2,if_neg (by decide)] at h2
  have R:=And.intro @a6 @U
  repeat' ((first
   |(with_reducible refine .guard (fun hb =>?_) (fun hb =>?_) <;>try simp only[hb])
   |refine ab.aO (by decide +kernel) rfl fun K hK =>?_
   |refine .flat _ (h1) rfl ?_
   |refine .flat _ (h2) rfl ?_
   |(refine .aI [0,1,3,4,5,6,7,11,16] hK ?_;clear hK K)
   |(with_reducible refine .done (hK _ ?_);clear hK K)
   |refine ab.of rfl ?_
   |(with_reducible refine ar.aL (fun h =>?_) (fun h =>?_) <;>try simp only[h])) <;>try simp only[aQ,R,Nat.reduceEqDiff,reduceIte,Int.reduceBNe,Nat.reduceBEq])
  all_goals clear R
  all_goals rfl
 rw[q2,if_pos rfl] at h2
 have hF:=zV l [x] (mQ q1) (kY q1) (by simp)
 have hbs:=nq 17 x rfl
 have R:=And.intro @hbs (And.intro @a6 @U)
 repeat' ((first
  |(with_reducible refine .guard (fun hb =>?_) (fun hb =>?_) <;>try simp only[hb])
  |refine ab.aO (by decide +kernel) rfl fun K hK =>?_
  |refine .flat _ (h1) rfl ?_
  |refine .flat _ (h2) rfl ?_
  |refine .lead _ (hF) ?_
  |(refine .aI [0,1,3,4,5,6,7,11,16] hK ?_;clear hK K)
  |(with_reducible refine .done (hK _ ?_);clear hK K)
  |refine ab.of rfl ?_
  |(with_reducible refine ar.aL (fun h =>?_) (fun h =>?_) <;>try simp only[h])) <;>try simp only[aQ,R,Nat.reduceEqDiff,reduceIte,Int.reduceBNe,Nat.reduceBEq])
 all_goals clear R
theorem alw{l:List ak}(hs:fF l){y z:ak}(hy:y∈l)(hz:z∈l)(h:y.aX=z.aX):y=z:=by
 obtain ⟨i,hi,rfl⟩:=List.getElem_of_mem hy
 obtain ⟨j,hj,rfl⟩:=List.getElem_of_mem hz
 rw[fb hi,fb hj] at h
 rcases Nat.lt_trichotomy i j with e | e | e
 ·have:=qp hs e hj
  rw[h,pA] at this;cases this
 ·subst e;rfl
 ·have:=qp hs e hi
  rw[h,pA] at this;cases this
theorem aks{l:List ak}(hs:fF l){a:Item}(h:jT l a=true):eF l a<l.length∧(ae l (eF l a)).aX=a∧ae l (eF l a)∈l:=by
 have hh:=xI hs a
 rw[h] at hh
 simp only[Bool.true_eq,Bool.and_eq_true,decide_eq_true_eq] at hh
 refine ⟨hh.1,hh.2,?_⟩
 rw[←fb hh.1];exact List.getElem_mem hh.1
theorem uP:∀ {a b:List ak},fF a→fF b→(∀ y,y∈a↔y∈b)→a=b
 | [],[],_,_,_=>rfl
 | [],y::b,_,_,h=>by have:=(h y).2 (by simp);cases this
 |x::a,[],_,_,h=>by have:=(h x).1 (by simp);cases this
 |x::a,y::b,h1,h2,h=>by
  obtain ⟨p1,p2⟩:=List.pairwise_cons.1 h1
  obtain ⟨r1,dH⟩:=List.pairwise_cons.1 h2
  have e:x=y:=by
   rcases List.mem_cons.1 ((h x).1 (by simp)) with e | e
   ·exact e
   ·rcases List.mem_cons.1 ((h y).2 (by simp)) with e2 | e2
    ·exact e2.symm
    ·have k1:=r1 x e
     have k2:=p1 y e2
     have:=pB k1 k2
     rw[pA] at this;cases this
  subst e
  congr 1
  refine uP p2 dH fun z=>⟨fun hz =>?_,fun hz =>?_⟩
  ·rcases List.mem_cons.1 ((h z).1 (by simp[hz])) with e | e
   ·have:=p1 z hz
    rw[e,pA] at this;cases this
   ·exact e
  ·rcases List.mem_cons.1 ((h z).2 (by simp[hz])) with e | e
   ·have:=r1 z hz
    rw[e,pA] at this;cases this
   ·exact e
theorem tz{x:List ak}(hx:fF x):∀ (b out:List ak),fF out→(∀ y∈out,y∈x)→(∀ y∈b,y∈x)→∃ u,nK out b=some u∧fF u∧∀ y,y∈u↔y∈out∨y∈b
 | [],out,h1,_,_=>⟨out,rfl,h1,by simp⟩
 |e::b,out,h1,h2,h3=>by
  simp only[nK]
  cases q:jT out e.aX with
  |true =>
   obtain ⟨o1,o2,o3⟩:=aks h1 q
   have he:ae out (eF out e.aX)=e:=alw hx (h2 _ o3) (h3 e (by simp)) o2
   simp only[if_true,he]
   obtain ⟨u,k1,k2,k3⟩:=tz hx b out h1 h2 fun y hy=>h3 y (by simp[hy])
   refine ⟨u,k1,k2,fun y =>?_⟩
   rw[k3,List.mem_cons]
   constructor
   ·rintro (h | h)
    ·exact .inl h
    ·exact .inr (.inr h)
   ·rintro (h | rfl | h)
    ·exact .inl h
    ·rw[he] at o3;exact .inl o3
    ·exact .inr h
  |false =>
   simp only[Bool.false_eq_true,if_false]
   obtain ⟨u,k1,k2,k3⟩:=tz hx b (fH out (eF out e.aX) e) (Kr h1 q) (fun y hy=>by
    rcases Kq.1 hy with rfl | hy
    ·exact h3 _ (by simp)
    ·exact h2 y hy) fun y hy=>h3 y (by simp[hy])
   refine ⟨u,k1,k2,fun y =>?_⟩
   rw[k3,Kq,List.mem_cons]
   constructor
   ·rintro ((h | h) | h) <;>simp[h]
   ·rintro (h | h | h) <;>simp[h]
theorem OJ{a x:List ak}(hx:fF x)(ha:fF a)(h:∀ y∈a,y∈x):a.length≤x.length:=by
 have e:a=x.filter fun y=>decide (y∈a):=uP ha (hx.sublist List.filter_sublist) fun y=>by
  rw[List.mem_filter,decide_eq_true_eq]
  exact ⟨fun hy=>⟨h y hy,hy⟩,fun hy=>hy.2⟩
 rw[e];exact List.length_filter_le _ _
theorem pU{x a b u:List ak}(hx:dc x=true)(ha:dc a=true)(hb:dc b=true)(h1:∀ y∈a,y∈x)(h2:∀ y∈b,y∈x)(hu:fF u)(hm:∀ y,y∈u↔y∈a∨y∈b):ry a b=(u,0):=by
 obtain ⟨v,k1,k2,k3⟩:=tz (mQ hx) b a (mQ ha) h1 h2
 have e:v=u:=uP k2 hu fun y=>by rw[k3,hm]
 subst e
 have hl:v.length≤60:=Nat.le_trans (OJ (mQ hx) hu fun y hy=>by rcases (hm y).1 hy with h | h;exact h1 y h;exact h2 y h) (kY hx)
 simp only[ry,ha,hb,Bool.and_self,if_true,mI,k1,hl]
theorem QM{x a u:List ak}{e:ak}(hx:dc x=true)(ha:dc a=true)(h1:∀ y∈a,y∈x)(he:e∈x)(hu:fF u)(hm:∀ y,y∈u↔y∈a∨y=e):qE a e=(u,0):=by
 obtain ⟨v,k1,k2,k3⟩:=tz (mQ hx) [e] a (mQ ha) h1 (by simp[he])
 have ev':v=u:=uP k2 hu fun y=>by rw[k3,hm,List.mem_singleton]
 subst ev'
 have hl:v.length≤60:=Nat.le_trans (OJ (mQ hx) hu fun y hy=>by rcases (hm y).1 hy with h | rfl;exact h1 y h;exact he) (kY hx)
 have hoe:=(rI.1 hx).2.1 e he
 simp only[qE,ha,hoe,if_true,mI,k1,hl]
def pR(n:List Int)(k:Int)(j:Nat):Bool:=decide (aX n (j:Int)%3=k)||(decide (aX n ((j+1:Nat):Int)%2=0)&&decide ((aX n (j:Int)%3+1)%3=k))
def fW(x:List ak)(n:List Int)(k:Int)(i:Nat):List ak:=((List.range i).filter (pR n k)).map (ae x)
theorem y6(x:List ak)(n:List Int)(k:Int)(i:Nat):fW x n k (i+1)=fW x n k i++if pR n k i then [ae x i] else []:=by
 simp only[fW,List.range_succ,List.filter_append,List.map_append,List.filter_cons,List.filter_nil]
 congr 1
 split <;>rfl
theorem y0(x:List ak)(n:List Int)(k:Int)(i:Nat):(fW x n k i).length≤i:=by
 have:=List.length_filter_le (pR n k) (List.range i)
 simpa[fW] using this
theorem y5(x:List ak)(n:List Int)(k:Int):(fW x n k x.length).Sublist x:=by
 have h:=(List.filter_sublist (p:=pR n k) (l:=List.range x.length)).map (ae x)
 have e:(List.range x.length).map (ae x)=x:=List.ext_getElem (by simp) fun i h1 h2=>by simp[fb h2]
 rwa [e] at h
theorem akv{x:List ak}{n:List Int}{y:ak}(hy:y∈x):y∈fW x n 0 x.length∨y∈fW x n 1 x.length∨y∈fW x n 2 x.length:=by
 obtain ⟨j,hj,rfl⟩:=List.getElem_of_mem hy
 have key:∀ k,aX n (j:Int)%3=k→x[j]∈fW x n k x.length:=fun k hk=>by
  refine List.mem_map.2 ⟨j,List.mem_filter.2 ⟨List.mem_range.2 hj,?_⟩,(fb hj).symm⟩
  simp[pR,hk]
 have:aX n (j:Int)%3=0∨aX n (j:Int)%3=1∨aX n (j:Int)%3=2:=by omega
 rcases this with h | h | h
 ·exact .inl (key 0 h)
 ·exact .inr (.inl (key 1 h))
 ·exact .inr (.inr (key 2 h))
abbrev uo(p q r:Nat):I:=.agg [.own 911 p,.own 912 q,.own 913 r]
theorem wu{A:af}{m n:Nat}{l:List ak}(ho:A.o n=some (.bT 68 17 (l.map enc))):dL A (m+1) (.own n l.length)=some (enc l):=by
 simp only[dL,I.bB,Bool.false_eq_true,if_false,ho,List.length_map,kh,and_self,if_true];rfl
theorem ZF{A:af}{a b c:List ak}(h8:A.o 8=some (.box (uo a.length b.length c.length)))(h1:A.o 911=some (.bT 68 17 (a.map enc)))(h2:A.o 912=some (.bT 68 17 (b.map enc)))(h3:A.o 913=some (.bT 68 17 (c.map enc))) :
  br true A (.ptr 8 [])=some (.ref (.agg [enc a,enc b,enc c])):=by
 have h6:dL A 9 (uo a.length b.length c.length)=some (.agg [enc a,enc b,enc c]):=by
  rw[dL]
  simp only[I.bB,I.bX,Bool.and_true,Bool.false_and,Bool.false_eq_true,if_false,fJ,wu h1,wu h2,wu h3,Option.map_some]
 simp only[br,cC,h8,if_true,iv,I.bB,I.bX,Bool.and_true,Bool.false_and,Bool.false_eq_true,if_false,h6]
 rfl
theorem akl :
  (∀ p q r y,eh (0:Int) 3 (eg 3 1 [.own 911 p,.own 912 q,.own 913 r] y)=y)∧(∀ p q r y,eh (1:Int) 3 (eg 3 1 [.own 911 p,.own 912 q,.own 913 r] y)=y)∧(∀ p q r y,eh (2:Int) 3 (eg 3 1 [.own 911 p,.own 912 q,.own 913 r] y)=y) ∧
  (∀ p q r,fB 0 [] (some [.own 911 p,.own 912 q,.own 913 r])=some (.own 911 p))∧(∀ p q r,fB 1 [] (some [.own 911 p,.own 912 q,.own 913 r])=some (.own 912 q))∧(∀ p q r,fB 2 [] (some [.own 911 p,.own 912 q,.own 913 r])=some (.own 913 r)) ∧
  ((0:Int).toNat=0)∧((1:Int).toNat=1)∧((2:Int).toNat=2) ∧
  (∀ (A:af) p q r p' rest,dQ A none 8 [0] (.agg [.own 911 p,.own 912 q,.own 913 r]) (.own 911 p') rest (some (.own 911 p))=az rest (A.aK 8 (.box (.agg [.own 911 p',.own 912 q,.own 913 r])))) ∧
  (∀ (A:af) p q r p' rest,dQ A none 8 [1] (.agg [.own 911 p,.own 912 q,.own 913 r]) (.own 912 p') rest (some (.own 912 q))=az rest (A.aK 8 (.box (.agg [.own 911 p,.own 912 p',.own 913 r])))) ∧
  (∀ (A:af) p q r p' rest,dQ A none 8 [2] (.agg [.own 911 p,.own 912 q,.own 913 r]) (.own 913 p') rest (some (.own 913 r))=az rest (A.aK 8 (.box (.agg [.own 911 p,.own 912 q,.own 913 p'])))) ∧
  (IntKind.i64.wrap ((0:Int)+1)=1)∧(IntKind.i64.wrap ((1:Int)+1)=2)∧(IntKind.i64.wrap ((2:Int)+1)=3)∧((1:Int).tmod 3=1)∧((2:Int).tmod 3=2)∧((3:Int).tmod 3=0)∧(((3:Int)=0)=False) :=
 ⟨fun _ _ _ _=>by simp[eh,eg,ga,I.size],fun _ _ _ _=>by simp[eh,eg,ga,I.size],fun _ _ _ _=>by simp[eh,eg,ga,I.size],fun _ _ _=>rfl,fun _ _ _=>rfl,fun _ _ _=>rfl,rfl,rfl,rfl,
  fun _ p _ _ p' _=>(ev (s:=none) (v:=.own 911 p') (old:=.own 911 p) rfl rfl rfl).trans rfl,fun _ _ q _ p' _=>(ev (s:=none) (v:=.own 912 p') (old:=.own 912 q) rfl rfl rfl).trans rfl,fun _ _ _ r p' _=>(ev (s:=none) (v:=.own 913 p') (old:=.own 913 r) rfl rfl rfl).trans rfl,by decide,by decide,by decide,rfl,rfl,rfl,by simp⟩
theorem Pr(c:List Int)(ls:List fE)(ns:List Int)(hc:c.length*8≤140737488355328)(hns:ns.length≤4611686018427387904):aA Tryz.prog 11 [enc c,enc ls,enc ns] (enc true):=by
 obtain ⟨m,hm⟩:∃ m,m=mK c:=⟨_,rfl⟩
 have hokm:en m=true:=by rw[hm];exact Ls c
 have h24:=Al c (by omega)
 rw[←hm] at h24
 have h23:=Ak m ls c hokm hc
 have hok:=Ln hokm ls c
 generalize oI m ls c=x at h23 hok
 have hl:=kY hok
 have hs:=mQ hok
 refine aA.bA Tryz.func11 RX TQ VX (Nat.le_of_ble_eq_true rfl) (fun hwf W0 D0 E1 =>?_)
 simp only[AZ,L8,bp,Nat.zero_add,Nat.reduceAdd]
 clear hwf
 have R:=And.intro @bn (And.intro @a6 @U)
 repeat' ((first
  |(with_reducible refine .guard (fun hb =>?_) (fun hb =>?_) <;>try simp only[hb])
  |refine ab.aO (by decide +kernel) rfl fun K hK =>?_
  |refine .lead _ (h24) ?_
  |refine .lead _ (h23) ?_
  |(refine .aI [0,1,2,6,7,8,9,10,11,12,13,14,15,16,17,18,19,20,21,22,23,24,25,26,35,58,163,168,181] hK ?_;clear hK K)
  |(with_reducible refine .done (hK _ ?_);clear hK K)
  |refine ab.of rfl ?_
  |(with_reducible refine ar.aL (fun h =>?_) (fun h =>?_) <;>try simp only[h])) <;>try simp only[aQ,R,Nat.reduceEqDiff,reduceIte,Nat.reduceBEq])
 all_goals clear R
 refine ab.loop (fun i:Nat=>av [(2,enc ns),(7,enc x),(8,.ptr 8 []),(9,.int .i64 i)] [(8,.box (uo (fW x ns 0 i).length (fW x ns 1 i).length (fW x ns 2 i).length)),(911,.bT 68 17 ((fW x ns 0 i).map enc)),(912,.bT 68 17 ((fW x ns 1 i).map enc)),(913,.bT 68 17 ((fW x ns 2 i).map enc))]) (fun i=>i≤x.length) (fun i=>x.length-i) 0 (Nat.zero_le _) ?_ (fun i hi =>?_)
 ·refine aD.qF 8 911 68 17 17 [0] (.agg [.nils 17,.nils 17,.nils 17]) rfl rfl rfl ?_
  refine aD.qF 8 912 68 17 17 [1] (.agg [.own 911 0,.nils 17,.nils 17]) rfl rfl rfl ?_
  refine aD.qF 8 913 68 17 17 [2] (.agg [.own 911 0,.own 912 0,.nils 17]) rfl rfl rfl ?_
  have e:(I.agg [.own 911 0,.own 912 0,.nils 17]).dz [2] (.own 913 0)=uo 0 0 0:=rfl
  have e0:∀ k,fW x ns k 0=[]:=fun k=>rfl
  rw[e,e0,e0,e0]
  simp only[List.map_nil,List.length_nil]
  refine aD.bM ?_ ?_ ?_ ?_ <;>simp[aV,bF,bE,a7,au,aY,ct,I.only,I.bR,ai.only,bh]
 have l0:=y0 x ns 0 i
 have l1:=y0 x ns 1 i
 have l2:=y0 x ns 2 i
 by_cases hlt:i<x.length
 ·have hc1:=gD hlt
  have he:=fun A=>jV (A:=A) hlt
  have hw:=ft (i:=i) (by omega)
  have s0:=y6 x ns 0 i
  have s1:=y6 x ns 1 i
  have s2:=y6 x ns 2 i
  have hbs:=fun y:ak=>nq 17 y rfl
  generalize fW x ns 0 i=a0 at l0 s0 ⊢
  generalize fW x ns 1 i=a1 at l1 s1 ⊢
  generalize fW x ns 2 i=a2 at l2 s2 ⊢
  have p0:=fun (A:af) d rest=>lB (α:=ak) (A:=A) (d:=d) 68 17 136 911 (l:=a0.length) (es:=a0) (ys:=[ae x i]) (rest:=rest) rfl rfl (by simp) (by simp[maxLen];omega) (by simp;omega)
  have p1:=fun (A:af) d rest=>lB (α:=ak) (A:=A) (d:=d) 68 17 136 912 (l:=a1.length) (es:=a1) (ys:=[ae x i]) (rest:=rest) rfl rfl (by simp) (by simp[maxLen];omega) (by simp;omega)
  have p2:=fun (A:af) d rest=>lB (α:=ak) (A:=A) (d:=d) 68 17 136 913 (l:=a2.length) (es:=a2) (ys:=[ae x i]) (rest:=rest) rfl rfl (by simp) (by simp[maxLen];omega) (by simp;omega)
  have hA:aX ns (i:Int)%3=0∨aX ns (i:Int)%3=1∨aX ns (i:Int)%3=2:=by omega
  rcases hA with hA | hA | hA <;>rcases hB:(aX ns ((i+1:Nat):Int)%2==0)
  all_goals
   have hB':decide (aX ns ((i+1:Nat):Int)%2=0)=(aX ns ((i+1:Nat):Int)%2==0):=rfl
   rw[hB] at hB'
   simp only[pR,hA,hB'] at s0 s1 s2
   have R:=And.intro @hc1 (And.intro @he (And.intro @hw (And.intro @hbs (And.intro @hA (And.intro @hB (And.intro @p0 (And.intro @p1 (And.intro @p2 (And.intro @akl (And.intro @bn (And.intro @a6 @U)))))))))))
   repeat' ((first
    |(with_reducible refine .guard (fun hb =>?_) (fun hb =>?_) <;>try simp only[hb])
    |refine ab.aO (by decide +kernel) rfl fun K hK =>?_
    |refine .flat _ (lx ns _ hns) rfl ?_
    |refine .flat _ (gI _ _ (by decide) (by decide)) rfl ?_
    |(refine ab.ql (gs:=wE) [] [] [0,1,2,3,4,5,6,7,8,9,10,11] (by decide +kernel) (eU.of (by simp[nJ])) fun K hK =>?_;simp only[nU,wE,List.getD_cons_zero,List.getD_cons_succ,R,Nat.reduceEqDiff,reduceIte])
    |(refine ab.ql (gs:=wF) [] [] [0,1,2,3,4,5,6,7,8,9,10,11,12,13,14,15] (by decide +kernel) (eU.of (by simp[nJ])) fun K hK =>?_;simp only[nU,wF,List.getD_cons_zero,List.getD_cons_succ,R,Nat.reduceEqDiff,reduceIte])
    |(refine .aI [0,1,2,6,7,8,9,10,11,12,13,14,15,16,17,18,19,20,21,22,23,24,25,26,35,58,163,168,181] hK ?_;clear hK K)
    |(with_reducible refine .done (hK _ ?_);clear hK K)
    |refine ab.of rfl ?_
    |(with_reducible refine ar.aL (fun h =>?_) (fun h =>?_) <;>try simp only[h])) <;>try simp only[aQ,R,Nat.reduceEqDiff,reduceIte,Nat.reduceBEq])
   all_goals clear R
   refine ⟨i+1,by omega,by omega,?_⟩
   rw[s0,s1,s2]
   refine aD.bM ?_ ?_ ?_ ?_ <;>simp[aV,bF,bE,a7,au,aY,ct,I.only,I.bR,ai.only,dN,gG,bh]
 have hc1:=ib hlt
 have hge:i=x.length:=by omega
 subst hge
 have b0:=y5 x ns 0
 have b1:=y5 x ns 1
 have b2:=y5 x ns 2
 have hmem:=fun y=>akv (x:=x) (n:=ns) (y:=y)
 generalize fW x ns 0 x.length=a0 at b0 hmem ⊢
 generalize fW x ns 1 x.length=a1 at b1 hmem ⊢
 generalize fW x ns 2 x.length=a2 at b2 hmem ⊢
 refine ab.seq (ab.seq ?_)
 refine .bl (by decide +kernel) fun K hK =>?_
 simp only[EG,U,Nat.reduceEqDiff,reduceIte]
 try simp only[hc1,bn,U,Nat.reduceEqDiff,reduceIte]
 refine .done (hK _ ?_);clear hK K;try simp only[aq]
 refine ab.bC ?_
 simp only[ar,U,Nat.reduceEqDiff,reduceIte]
 refine ⟨fun h =>?_,fun h =>?_⟩
 ·cases h
 refine ab.exit ?_;try simp only[aq,bN,reduceIte]
 refine ab.sub (aD.oz [8,911,912,913] 8 (x:=.ptr 8 []) (y:=.ref (.agg [enc a0,enc a1,enc a2])) (ts':=[(7,enc x),(8,.ref (.agg [enc a0,enc a1,enc a2]))]) (os':=[]) rfl ?_ ?_ ?_ ?_ ?_ ?_) ?_
 ·exact ZF rfl rfl rfl rfl
 ·simp[c7,a7]
 ·simp[aV,gB,aY,I.only,bh]
 ·simp[bF]
 ·simp[bE,I.only,I.bR,bh]
 ·simp[a7]
 have m0:∀ y∈a0,y∈x:=fun y hy=>b0.subset hy
 have m1:∀ y∈a1,y∈x:=fun y hy=>b1.subset hy
 have m2:∀ y∈a2,y∈x:=fun y hy=>b2.subset hy
 have o0:=oM b0 hok
 have o1:=oM b1 hok
 have o2:=oM b2 hok
 obtain ⟨u,hu⟩:∃ u,u=x.filter fun y=>decide (y∈a0∨y∈a1):=⟨_,rfl⟩
 obtain ⟨v,hv⟩:∃ v,v=x.filter fun y=>decide (y∈a1∨y∈a2):=⟨_,rfl⟩
 have us:u.Sublist x:=by rw[hu];exact List.filter_sublist
 have vs:v.Sublist x:=by rw[hv];exact List.filter_sublist
 have um:∀ y,y∈u↔y∈a0∨y∈a1:=fun y=>by
  rw[hu,List.mem_filter,decide_eq_true_eq]
  exact ⟨fun h=>h.2,fun h=>⟨h.elim (m0 y) (m1 y),h⟩⟩
 have vm:∀ y,y∈v↔y∈a1∨y∈a2:=fun y=>by
  rw[hv,List.mem_filter,decide_eq_true_eq]
  exact ⟨fun h=>h.2,fun h=>⟨h.elim (m1 y) (m2 y),h⟩⟩
 clear hu hv
 have j1:=pj a0 a1
 rw[pU hok o0 o1 m0 m1 (hs.sublist us) um] at j1
 have j2:=pj a1 a0
 rw[pU hok o1 o0 m1 m0 (hs.sublist us) (fun y=>by rw[um];exact Or.comm)] at j2
 have j3:=pj u a2
 rw[pU hok (oM us hok) o2 (fun y hy=>us.subset hy) m2 hs (fun y=>by
  rw[um]
  constructor
  ·intro h
   rcases hmem y h with h | h | h
   ·exact .inl (.inl h)
   ·exact .inl (.inr h)
   ·exact .inr h
  ·rintro ((h | h) | h)
   ·exact m0 y h
   ·exact m1 y h
   ·exact m2 y h)] at j3
 have j4:=pj a1 a2
 rw[pU hok o1 o2 m1 m2 (hs.sublist vs) vm] at j4
 have j5:=pj a0 v
 rw[pU hok o0 (oM vs hok) m0 (fun y hy=>vs.subset hy) hs (fun y=>by
  rw[vm]
  constructor
  ·intro h
   exact hmem y h
  ·rintro (h | h | h)
   ·exact m0 y h
   ·exact m1 y h
   ·exact m2 y h)] at j5
 have j6:=pj x x
 rw[pU hok hok hok (fun y h=>h) (fun y h=>h) hs (fun y=>by simp)] at j6
 have q0:((0:Int) != 0)=false:=rfl
 have hD:(∀ y,eh (0:Int) 3 (eg 3 1 [enc a0,enc a1,enc a2] y)=y)∧(∀ y,eh (1:Int) 3 (eg 3 1 [enc a0,enc a1,enc a2] y)=y)∧(∀ y,eh (2:Int) 3 (eg 3 1 [enc a0,enc a1,enc a2] y)=y)∧((0:Int).toNat=0)∧((1:Int).toNat=1)∧((2:Int).toNat=2) :=
  ⟨fun _=>by simp[eh,eg,ga,fG,pG],fun _=>by simp[eh,eg,ga,fG,pG],fun _=>by simp[eh,eg,ga,fG,pG],rfl,rfl,rfl⟩
 have hw0:IntKind.i64.wrap ((x.length:Int)-1)=(x.length:Int)-1:=cA _ (by omega) (by omega)
 have R:=And.intro @q0 (And.intro @hD (And.intro @hw0 (And.intro @yN (And.intro @bn (And.intro @a6 @U)))))
 repeat' ((first
  |(with_reducible refine .guard (fun hb =>?_) (fun hb =>?_) <;>try simp only[hb])
  |refine ab.aO (by decide +kernel) rfl fun K hK =>?_
  |refine .lead _ (j1) ?_
  |refine .lead _ (j2) ?_
  |refine .lead _ (j3) ?_
  |refine .lead _ (j4) ?_
  |refine .lead _ (j5) ?_
  |refine .lead _ (j6) ?_
  |refine .flat _ (Ap _ _) rfl ?_
  |(refine .aI [0,1,2,6,7,8,9,10,11,12,13,14,15,16,17,18,19,20,21,22,23,24,25,26,35,58,163,168,181] hK ?_;clear hK K)
  |(with_reducible refine .done (hK _ ?_);clear hK K)
  |refine ab.of rfl ?_
  |(with_reducible refine ar.aL (fun h =>?_) (fun h =>?_) <;>try simp only[h])) <;>try simp only[aQ,R,eq_self,decide_true,Nat.reduceEqDiff,reduceIte,Nat.reduceBEq])
 all_goals clear R
 refine ab.loop (fun n:Nat=>av [(7,enc x),(23,enc (x.drop n)),(24,.int .i64 ((n:Int)-1))] []) (fun n=>n≤x.length) (fun n=>n) x.length (Nat.le_refl _) ?_ (fun n hn =>?_)
 ·rw[List.drop_length]
  refine aD.oz [] 23 (x:=.nils 17) (y:=enc ([]:List ak)) rfl (by rfl) ?_ ?_ ?_ ?_ ?_ <;>simp[c7,a7,aV,bF,bE,gB,aY,I.only,I.bR,bh]
 cases n with
 |zero =>
  have hc1:decide ((0:Int)≤((0:Nat):Int)-1)=false:=rfl
  rw[List.drop_zero]
  have R:=And.intro @hc1 (And.intro @bn (And.intro @a6 @U))
  repeat' ((first
   |(with_reducible refine .guard (fun hb =>?_) (fun hb =>?_) <;>try simp only[hb])
   |refine ab.aO (by decide +kernel) rfl fun K hK =>?_
   |refine .flat _ (Ap _ _) rfl ?_
   |refine .flat _ (Aj) rfl ?_
   |(refine .aI [0,1,2,6,7,8,9,10,11,12,13,14,15,16,17,18,19,20,21,22,23,24,25,26,35,58,163,168,181] hK ?_;clear hK K)
   |(with_reducible refine .done (hK _ ?_);clear hK K)
   |refine ab.of rfl ?_
   |(with_reducible refine ar.aL (fun h =>?_) (fun h =>?_) <;>try simp only[h])) <;>try simp only[aQ,R,eq_self,decide_true,Nat.reduceEqDiff,reduceIte,Nat.reduceBEq])
  all_goals clear R
 |succ i =>
  have hi:i<x.length:=hn
  have e1:((i+1:Nat):Int)-1=(i:Int):=by omega
  rw[e1]
  have hc1:decide ((0:Int)≤(i:Int))=true:=by simp
  have he:=fun A=>jV (A:=A) hi
  have hw:IntKind.i64.wrap ((i:Int)-1)=(i:Int)-1:=cA _ (by omega) (by omega)
  have hd:x.drop i=ae x i::x.drop (i+1):=by rw[List.drop_eq_getElem_cons hi,fb hi]
  have hF:=Ql (x.drop (i+1)) (ae x i)
  rw[QM hok (oM (List.drop_sublist _ _) hok) (fun y hy=>(List.drop_sublist _ _).subset hy) (by rw[←fb hi];exact List.getElem_mem hi) (hs.sublist (List.drop_sublist i x)) (fun y=>by rw[hd,List.mem_cons];exact Or.comm)] at hF
  have R:=And.intro @q0 (And.intro @hc1 (And.intro @he (And.intro @hw (And.intro @bn (And.intro @a6 @U)))))
  repeat' ((first
   |(with_reducible refine .guard (fun hb =>?_) (fun hb =>?_) <;>try simp only[hb])
   |refine ab.aO (by decide +kernel) rfl fun K hK =>?_
   |refine .lead _ (hF) ?_
   |(refine .aI [0,1,2,6,7,8,9,10,11,12,13,14,15,16,17,18,19,20,21,22,23,24,25,26,35,58,163,168,181] hK ?_;clear hK K)
   |(with_reducible refine .done (hK _ ?_);clear hK K)
   |refine ab.of rfl ?_
   |(with_reducible refine ar.aL (fun h =>?_) (fun h =>?_) <;>try simp only[h])) <;>try simp only[aQ,R,decide_true,Nat.reduceEqDiff,reduceIte,Nat.reduceBEq])
  all_goals clear R
  refine ⟨i,by omega,by omega,?_⟩
  refine aD.bM ?_ ?_ ?_ ?_ <;>simp[aV,bF,bE,a7,aY,I.only,bh]
end Go.Proofs.YtcldiigclhgafaaGreat
