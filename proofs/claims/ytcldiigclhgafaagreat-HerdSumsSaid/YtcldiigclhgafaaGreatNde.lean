/-
  A part of the proof that the law HerdSums returns true for every input; conditions: none beyond the statement's own. (part 5 of 6)
-/
import Derived.Test.YtcldiigclhgafaaGreatRows
import Derived.Test.YtcldiigclhgafaaGreatNdd
set_option linter.unusedSimpArgs false
set_option linter.unusedVariables false
set_option maxHeartbeats 16000000
set_option maxRecDepth 100000
namespace Go.Proofs.YtcldiigclhgafaaGreat
open Go Go.Abs
open Go.Abs.Enc (enc)
def fk(l:List ay)(o:List Nat)(i:Nat):List aQ×List Nat:=(o.take i).foldl (mF e8 l) ([],[])
theorem JZ{l:List ay}{o:List Nat}{i:Nat}(h:i<o.length):fk l o (i+1)=mF e8 l (fk l o i) (o.getD i 0):=by
 have e:o.getD i 0=o[i]:=by rw[List.getD_eq_getElem?_getD,List.getElem?_eq_getElem h];rfl
 simp only[fk]
 rw[List.take_succ_eq_append_getElem h,List.foldl_append,e];rfl
theorem JY(l:List ay)(o:List Nat):fk l o o.length=qJ e8 l o:=by simp only[fk,List.take_length];rfl
theorem OW{bs bs':List aQ}{x:ay}{n:Nat}(hs:∀ b∈bs,b.cg.length≤n)(h:eE e8 bs x=some bs'):bs'.length≤bs.length+1∧∀ b∈bs',b.cg.length≤n+1:=by
 simp only[eE] at h
 split at h
 ·split at h
  ·simp only[Option.some.injEq] at h
   subst h
   refine ⟨by simp[e8],fun b hb =>?_⟩
   simp only[e8,List.mem_append,List.mem_singleton] at hb
   rcases hb with hb | rfl
   ·exact Nat.le_succ_of_le (hs b hb)
   ·simp[fE]
  ·cases h
 ·split at h
  ·cases h
  ·rename_i b0 hb0
   simp only[Option.map_eq_some_iff] at h
   obtain ⟨b',hb',rfl⟩:=h
   refine ⟨by simp[lI],fun b hb =>?_⟩
   simp only[lI,List.mem_map] at hb
   obtain ⟨c,hc,rfl⟩:=hb
   split
   ·have h0:=hs b0 (Ig hb0).1
    simp only[ka] at hb'
    repeat' split at hb'
    all_goals first
     |(cases hb';done)
     |(simp only[Option.some.injEq] at hb';subst hb';simp only[List.length_append,List.length_singleton];omega)
     |(simp only[Option.some.injEq] at hb';subst hb';simp only;omega)
   ·exact Nat.le_succ_of_le (hs c hc)
theorem xw(l:List ay)(o:List Nat):∀ i,i≤o.length→((fk l o i).1.map (·.no)).Nodup∧(fk l o i).1.length≤i∧(∀ b∈(fk l o i).1,b.cg.length≤i)∧(fk l o i).2.length≤i
 |0,_=>⟨by simp[fk],by simp[fk],by simp[fk],by simp[fk]⟩
 |i+1,h=>by
  obtain ⟨h1,h2,h3,h4⟩:=xw l o i (by omega)
  rw[JZ (by omega)]
  simp only[mF]
  split
  ·rename_i bs hb
   have:=OW h3 hb
   exact ⟨OV OD h1 hb,by simp only;omega,this.2,by simp only;omega⟩
  ·exact ⟨h1,by simp only;omega,fun b hb=>Nat.le_succ_of_le (h3 b hb),by simp;omega⟩
theorem IT(B:Nat)(b:aQ):∀ (bs:List aQ) (i:Nat),eM B i (bs++[b])=eM B i bs++eM B (i+bs.length) [b]
 | [],i=>rfl
 |a::bs,i=>by
  simp only[List.cons_append,eM,IT B b bs (i+1),List.length_cons]
  rw[show i+1+bs.length=i+(bs.length+1) by omega]
theorem agl(B n:Nat):ea B (n+1)=ea B n++[.ptr (B+2+2*n) []]:=by
 simp only[ea,List.range_succ,List.map_append,List.map_cons,List.map_nil]
theorem qk{bs:List aQ}{n:Nat}(h:¬ (n=43∨n=41∨(2002≤n∧n<2002+2*bs.length))):aj (dO bs) n=none:=by
 have:=wa (bs:=bs) (n:=n)
 rw[decide_eq_false h] at this
 simpa[al] using this
theorem adv{bs:List aQ}{n:Nat}(h:n=43∨n=41∨(2002≤n∧n<2002+2*bs.length)):∃ y,aj (dO bs) n=some y:=by
 have:=wa (bs:=bs) (n:=n)
 rw[decide_eq_true h] at this
 exact Option.isSome_iff_exists.1 this
theorem wF{bs bs':List aQ}{z y:ah}(h:bs.length≤bs'.length)(n:Nat):aj (dO bs'++((900,z)::(dO bs++[(3,y)]))) n=aj ((900,z)::(dO bs'++[(3,y)])) n:=by
 simp only[jX,aj]
 by_cases h1:n=43∨n=41∨(2002≤n∧n<2002+2*bs'.length)
 ·obtain ⟨u,hu⟩:=adv h1
  have:n≠900:=by omega
  simp only[hu,this,if_false]
 ·have h2:aj (dO bs) n=none:=qk (by omega)
  simp only[qk h1,h2]
theorem aee{bs:List aQ}{z z' y:ah}(n:Nat):aj ((900,z')::(dO bs++((900,z)::(dO bs++[(3,y)])))) n=aj ((900,z')::(dO bs++[(3,y)])) n:=by
 have h:=wF (bs:=bs) (bs':=bs) (z:=z) (y:=y) (Nat.le_refl _) n
 by_cases hn:n=900
 ·simp only[aj,hn,if_true]
 ·simp only[aj,if_neg hn] at h ⊢
  rw[h]
theorem aed{bs:List aQ}{b:aQ}{z y:ah}(hk:bs.length≤60)(hb:b.cg=[])(n:Nat) :
  aj ((2002+2*bs.length,.box (ed b (.own (2003+2*bs.length) 0)))::(2003+2*bs.length,.bS 66 6 [])::(mU bs b++((900,z)::(dO bs++[(3,y)])))) n=aj ((900,z)::(dO (bs++[b])++[(3,y)])) n:=by
 have hC:aj (dO (bs++[b])) n=if n=43 then some (.box (.agg [.mref 41])) else if n=41 then some (.cu (dc (bs++[b])) (ea 2000 bs.length++[.ptr (2002+2*bs.length) []])) else
   match aj (eM 2000 0 bs) n with
   |some u=>some u
   |none=>if n=2002+2*bs.length then some (.box (ed b (.own (2003+2*bs.length) 0))) else if n=2003+2*bs.length then some (.bS 66 6 []) else none:=by
  simp only[dO,aj,IT,jX,eM,hb,List.map_nil,List.length_nil,List.length_append,List.length_singleton,agl,Nat.zero_add]
  rfl
 have hL:aj (dO bs) n=if n=43 then some (.box (.agg [.mref 41])) else if n=41 then some (.cu (dc bs) (ea 2000 bs.length)) else aj (eM 2000 0 bs) n:=rfl
 have hlow:n<2002→aj (eM 2000 0 bs) n=none:=fun h=>sw 2000 bs 0 n (by omega)
 have hhigh:2002+2*bs.length≤n→aj (eM 2000 0 bs) n=none:=fun h=>su 2000 bs 0 n (by omega)
 simp only[aj,jX,mU,List.cons_append,hC,hL]
 by_cases c1:n=2002+2*bs.length
 ·have d1:¬ n=900:=by omega
  have d2:¬ n=43:=by omega
  have d3:¬ n=41:=by omega
  rw[if_pos c1,if_neg d1,if_neg d2,if_neg d3,hhigh (by omega)]
  simp only[c1,if_true]
 by_cases c2:n=2003+2*bs.length
 ·have d1:¬ n=900:=by omega
  have d2:¬ n=43:=by omega
  have d3:¬ n=41:=by omega
  rw[if_neg c1,if_pos c2,if_neg d1,if_neg d2,if_neg d3,hhigh (by omega)]
  simp only[c2,if_true]
  rw[if_neg (by omega)]
 rw[if_neg c1,if_neg c2]
 by_cases c3:n=41
 ·have d1:¬ n=900:=by omega
  have d2:¬ n=43:=by omega
  rw[if_pos c3,if_neg d1,if_neg d2,if_pos c3]
 rw[if_neg c3,if_neg c1]
 by_cases iz:n=43
 ·have d1:¬ n=900:=by omega
  simp only[iz,if_true]
  simp
 rw[if_neg iz,if_neg iz]
 by_cases kS:n=900
 ·have:=hlow (by omega)
  subst kS
  simp[this]
 ·cases hq:aj (eM 2000 0 bs) n with
  |some u=>simp only[kS,c3,if_false]
  |none=>simp only[kS,c3,c1,c2,if_false]
theorem xp{p:Nat→Bool}{ns:List Nat} : ∀ {os:List (Nat×ah)},bd p os→bd p (c4 ns os)
 | [],_=>trivial
 |(m,y)::os,h=>by
  simp only[c4,List.filter_cons]
  split
  ·exact ⟨h.1,xp h.2⟩
  ·exact xp h.2
theorem JI{p:Nat→Bool} : ∀ {os os':List (Nat×ah)},bd p os→bd p os'→bd p (os++os')
 | [],_,_,h=>h
 |_::_,_,h,k=>⟨h.1,JI h.2 k⟩
theorem IU{p:Nat→Bool}{B:Nat}(hp:∀ j,B≤j→p j=true):∀ (bs:List aQ) (i:Nat),bd p (eM B i bs)
 | [],_=>trivial
 |b::bs,i=>⟨by simp[ah.only,ed,I.only,I.bV,hp _ (show B≤B+3+2*i by omega)],eh _ _,IU hp bs (i+1)⟩
theorem adu{p:Nat→Bool}(hp:∀ j,2000≤j→p j=true)(h41:p 41=true)(bs:List aQ):bd p (dO bs) :=
 ⟨by simp[ah.only,I.only,I.bV,h41],by simp only[ah.only,Bool.and_eq_true];exact ⟨eh _ _,xr _ fun i _=>hp _ (by omega)⟩,IU hp bs 0⟩
def gm(bs:List aQ):I:=.ref (.agg [.cM (dc bs) (bs.map fun b=>.ref (enc (⟨b⟩:eD)))])
theorem I3{f:I→Option I} : ∀ {xs ys:List I},xs.length=ys.length→(∀ (i:Nat) (x y:I),xs[i]?=some x→ys[i]?=some y→f x=some y)→fD f xs=some ys
 | [],[],_,_=>rfl
 |x::xs,y::ys,hl,h=>by
  have h1:=h 0 x y rfl rfl
  have h2:=I3 (f:=f) (xs:=xs) (ys:=ys) (by simpa using hl) fun i a b ha hb=>h (i+1) a b ha hb
  simp only[fD,h1,h2]
theorem WI{A:ab}{bs:List aQ}(hA:∀ m y,aj (dO bs) m=some y→A.o m=some y):a6 true A (.ptr 43 [])=some (gm bs):=by
 have h43:A.o 43=some (.box (.agg [.mref 41])):=hA _ _ rfl
 have h41:A.o 41=some (.cu (dc bs) (ea 2000 bs.length)):=hA _ _ rfl
 have hl:∀ k,k<bs.length→2002+2*k≠43∧2002+2*k≠41∧2003+2*k≠43∧2003+2*k≠41:=fun k hk=>by omega
 have hm:fD (dU A 7) (ea 2000 bs.length)=some (bs.map fun b=>.ref (enc (⟨b⟩:eD))):=by
  refine I3 (by simp[ea]) fun i x y hx hy =>?_
  have hi:i<bs.length:=by
   have:=(List.getElem?_eq_some_iff.1 hx).1
   simpa[ea] using this
  rw[J3 hi] at hx
  simp only[List.getElem?_map,List.getElem?_eq_getElem hi,Option.map_some,Option.some.injEq] at hx hy
  subst hx hy
  obtain ⟨q1,q2,q3,q4⟩:=hl i hi
  have h1:A.o (2000+2+2*i)=some (.box (ed bs[i] (.own (2000+3+2*i) (bs[i]).cg.length))):=hA _ _ (by
   simp only[dO,aj];rw[if_neg (by omega),if_neg (by omega)]
   have:=sv 2000 bs 0 i hi
   rwa [Nat.zero_add] at this)
  have h2:A.o (2000+3+2*i)=some (.bS 66 6 ((bs[i]).cg.map enc)):=hA _ _ (by
   simp only[dO,aj];rw[if_neg (by omega),if_neg (by omega)]
   have:=sx 2000 bs 0 i hi
   rwa [Nat.zero_add] at this)
  have h3:=lZ (m:=3) h2
  have h4:cz A (.ptr (2000+2+2*i) [])=some (ed bs[i] (.own (2000+3+2*i) (bs[i]).cg.length)):=by
   simp only[cz,h1];exact hE _
  rw[dU]
  simp only[I.bl,Bool.false_eq_true,if_false,h4]
  rw[h3];rfl
 have h5:dU A 8 (.mref 41)=some (.cM (dc bs) (bs.map fun b=>.ref (enc (⟨b⟩:eD)))):=by
  rw[dU]
  simp only[I.bl,Bool.false_eq_true,if_false,h41]
  rw[if_pos (show I.bT (dc bs)=true from kj _),hm];rfl
 have h6:dU A 9 (.agg [.mref 41])=some (.agg [.cM (dc bs) (bs.map fun b=>.ref (enc (⟨b⟩:eD)))]):=by
  rw[dU]
  simp only[I.bl,I.bT,Bool.and_true,Bool.false_eq_true,if_false,fD,h5,Option.map_some]
 simp only[a6,cz,h43,if_true,hE,I.bl,I.bT,Bool.and_true,Bool.false_eq_true,if_false,h6]
 rfl
def qI(l:List ay)(day known:Int):I:=.tuple [gm (qJ e8 l (jG l day known)).1,enc (dC (dq (qJ e8 l (jG l day known)).2))]
def Ox(l:List ay)(ord:List Int):ab:=au [(3,.ptr 3 []),(9,.nils 1),(11,.ptr 43 []),(12,kl),(45,enc ord),(46,.int .i64 ord.length),(47,.int .i64 0)] [(43,.box (.agg [.mref 41])),(41,.cu [] []),(3,.box (enc l))]
def yQ(l:List ay)(o:List Nat)(i:Nat):ab:=au [(3,.ptr 3 []),(9,.own 900 (dq (fk l o i).2).length),(11,.ptr 43 []),(12,kl),(45,enc (dq o)),(46,.int .i64 (dq o).length),(47,.int .i64 i)] ((900,.cO 3 (dq (fk l o i).2))::(dO (fk l o i).1++[(3,.box (enc l))]))
theorem adF{xs:List Int}{i:Nat}(h:i<xs.length)(A:ab):ic A 1 (i:Int) (enc xs)=some (.ref (.int .i64 (xs.getD i 0))):=by
 rw[fL 1 (by omega) rfl,List.getD_eq_getElem?_getD,List.getElem?_eq_getElem h];rfl
noncomputable abbrev BC (W0:World) (D0:aH) (E1:aS):cK := { P:=Tryz.prog,eX:=W0,D0:=D0,n:=Tryz.f88.ntmps,own:=di E1,dz:=E1,Y:=ig,mu:=none }
def MX:aP:=((aP.ca none sc).seq ((aP.cond (aG.t 48) aP.skip (aP.exit 2)).seq ((aP.block 3 ((aP.ca none vK).seq ((aP.ca BE sd).seq (aP.cond (aG.t 64) (aP.ca none HN) aP.skip)))).seq (aP.ca none HO))))
def ahZ:aP:=(aP.ca none HP).seq ((aP.ca none HQ).seq aP.ret)
theorem yM(l:List ay)(day known:Int)(hok:dW l=true){W0:World}{D0:aH}{E1:aS} : U (BC W0 D0 E1) (.block 2 (.loop MX)) (ao (fun B=>U (BC W0 D0 E1) ahZ (jl [.tmp 6,.tmp 7] (qI l day known)) B) (jl [.tmp 6,.tmp 7] (qI l day known))) (Ox l (pA l day known)):=by
 have hl:=qE hok
 have hmem:∀ i∈jG l day known,i<l.length∧(ae l i).kind≠0:=fun i hi=>by
  have h1:=af8 hi
  refine ⟨BN h1,?_⟩
  have:=(List.mem_filter.1 h1).2
  simp only[Bool.and_eq_true,decide_eq_true_eq] at this
  exact this.1
 have hol:(jG l day known).length≤60:=by rw[JT];exact Nat.le_trans (uK l day known) hl
 have hall:=JY l (jG l day known)
 simp only[qI,pA,←hall]
 clear hall
 generalize jG l day known=o at hmem hol ⊢
 have htl:(dq o).length=o.length:=by simp[dq]
 refine U.block (U.loop (fun i:Nat=>yQ l o i) (fun i=>i≤o.length) (fun i=>o.length-i) 0 (Nat.zero_le _) ?_ (fun i hi =>?_))
 ·refine aE.yU 9 900 3 1 rfl rfl ?_
  refine aE.c5 ?_ (fun n =>?_)
  ·simp[aT,aV,fk,dq]
  ·simp only[fk,dq,List.take_zero,List.foldl_nil,List.map_nil,dO,eM,ea,dc,List.length_nil,List.range_zero,List.cons_append,List.nil_append]
 obtain ⟨hnd,hbl,hsl,hvl⟩:=xw l o i hi
 simp only[yQ,MX]
 have n3:aj ((900,.cO 3 (dq (fk l o i).2))::(dO (fk l o i).1++[(3,.box (enc l))])) 3=some (.box (enc l)):=by
  simp only[aj,jX]
  rw[qk (by omega)];rfl
 by_cases hlt:i<o.length
 ·have hc:decide ((i:Int)<((dq o).length:Int))=true:=by rw[htl];exact iI hlt
  have hw:=fG (i:=i) (by omega)
  have hst:=JZ (l:=l) hlt
  generalize fk l o i=s at *
  obtain ⟨bs,vd⟩:=s
  simp only at hnd hbl hsl hvl n3 hst ⊢
  obtain ⟨j,hj⟩:∃ j,j=o.getD i 0:=⟨_,rfl⟩
  have hjm:j∈o:=by
   rw[hj,List.getD_eq_getElem?_getD,List.getElem?_eq_getElem hlt];exact List.getElem_mem hlt
  obtain ⟨hjl,hjk⟩:=hmem j hjm
  rw[←hj] at hst
  have he:=m0 hjl
  have hi2:∀ A,ic A 1 (i:Int) (enc (dq o))=some (.ref (.int .i64 (j:Int))):=fun A=>by
   rw[adF (by omega),hj]
   congr 3
   simp[dq,List.getD_eq_getElem?_getD,List.getElem?_eq_getElem hlt]
  obtain ⟨f,hf1,hf2,hf3⟩:=uH (bs:=bs) (xj hok hjl) hjk hnd (fun b hb=>by have:=hsl b hb;omega)
  have hmo:∀ A,fZ A kl=some (mN,mO):=fun A=>rfl
  refine .ak (by decide +kernel) fun K hK =>?_
  simp only[sc,J,simprocAttr]
  simp only[hc]
  refine .done (hK _ ?_);clear hK K
  refine U.seq ?_
  refine U.bD ?_
  simp only[ar,J,simprocAttr]
  refine ⟨fun h =>?_,fun h =>?_⟩
  case refine_2=>cases h
  refine U.skip ?_;try simp only[ao,simprocAttr]
  refine U.seq (U.block ?_)
  refine .ak (by decide +kernel) fun K hK =>?_
  simp only[vK,J,simprocAttr]
  try simp only[hi2,J,simprocAttr]
  refine .done (hK _ ?_);clear hK K
  refine U.seq (U.tk (gs:=sd) [172,173,174,175,176,177] [] [0,1,2,3,4,5,6,7,8,9,10,11,12,13] (by decide +kernel) (eZ.of trivial) fun K hK =>?_)
  try simp only[pC,sd,List.getD_cons_zero,List.getD_cons_succ,n3,he,hmo,hf1,eJ,eA,bg,J,simprocAttr]
  have hlo:∀ bs',bs.length≤bs'.length→aj (dO bs'++((900,.cO 3 (dq vd))::(dO bs++[(3,.box (enc l))]))) 900=some (.cO 3 (dq vd)):=fun bs' h=>by
   rw[wF h];rfl
  have htv:(dq vd).length=vd.length:=by simp[dq]
  have hap:=fun (A:ab) d rest=>ub (A:=A) (d:=d) (e:=3) (bytes:=8) (n:=900) (l:=(dq vd).length) (xs:=dq vd) (y:=(j:Int)) (rest:=rest) rfl (by simp[dq,maxLen];omega) (by simp[dq];omega)
  refine cB.uH (by omega) hf2 hf3 rfl (fun hb =>?_) (fun bs' hb hk =>?_) (fun hb =>?_)
  ·have hs2:fk l o (i+1)=(bs,vd++[j]):=by rw[hst];simp only[mF,hb]
   have h900:=hlo bs (Nat.le_refl _)
   try simp only[J,simprocAttr]
   have R:=And.intro @h900 (And.intro @hap (And.intro @eJ (And.intro @bK (And.intro @bg @J))))
   repeat' ((first
    |(with_reducible refine .guard (fun hb =>?_) (fun hb =>?_) <;>try simp only[hb])
    |refine U.aW (by decide +kernel) rfl fun K hK =>?_
    |(refine .aO [0,1,2,3,4,6,7,8,9,10,11,12,14,17,18,33,45,46,47,48,64] hK ?_;clear hK K)
    |(with_reducible refine .done (hK _ ?_);clear hK K)
    |refine U.of rfl ?_
    |(with_reducible refine ar.aU (fun h =>?_) (fun h =>?_) <;>try simp only[h])) <;>try simp only[aX,R,simprocAttr])
   all_goals clear R
   refine ⟨i+1,by omega,by omega,?_⟩
   rw[hs2,hw]
   have e:dq (vd++[j])=dq vd++[(j:Int)]:=by simp[dq]
   simp only[e]
   refine aE.c5 ?_ (fun n=>aee n)
   simp[aT,aV]
  ·have hs2:fk l o (i+1)=(bs',vd):=by rw[hst];simp only[mF,hb]
   try simp only[J,simprocAttr]
   have R:=And.intro @eJ (And.intro @bK (And.intro @bg @J))
   repeat' ((first
    |(with_reducible refine .guard (fun hb =>?_) (fun hb =>?_) <;>try simp only[hb])
    |refine U.aW (by decide +kernel) rfl fun K hK =>?_
    |(refine .aO [0,1,2,3,4,6,7,8,9,10,11,12,14,17,18,33,45,46,47,48,64] hK ?_;clear hK K)
    |(with_reducible refine .done (hK _ ?_);clear hK K)
    |refine U.of rfl ?_
    |(with_reducible refine ar.aU (fun h =>?_) (fun h =>?_) <;>try simp only[h])) <;>try simp only[aX,R,simprocAttr])
   all_goals clear R
   refine ⟨i+1,by omega,by omega,?_⟩
   rw[hs2,hw]
   refine aE.c5 ?_ (fun n=>wF (Nat.le_of_eq (uc hk hb).symm) n)
   simp[aT,aV]
  ·have hs2:fk l o (i+1)=(bs++[fE (ae l j)],vd):=by rw[hst];simp only[mF,hb]
   try simp only[J,simprocAttr]
   have R:=And.intro @eJ (And.intro @bK (And.intro @bg @J))
   repeat' ((first
    |(with_reducible refine .guard (fun hb =>?_) (fun hb =>?_) <;>try simp only[hb])
    |refine U.aW (by decide +kernel) rfl fun K hK =>?_
    |(refine .aO [0,1,2,3,4,6,7,8,9,10,11,12,14,17,18,33,45,46,47,48,64] hK ?_;clear hK K)
    |(with_reducible refine .done (hK _ ?_);clear hK K)
    |refine U.of rfl ?_
    |(with_reducible refine ar.aU (fun h =>?_) (fun h =>?_) <;>try simp only[h])) <;>try simp only[aX,R,simprocAttr])
   all_goals clear R
   refine ⟨i+1,by omega,by omega,?_⟩
   rw[hs2,hw]
   refine aE.yT (2002+2*bs.length) (2003+2*bs.length) 66 6 6 [0,8] (ed (fE (ae l j)) (.nils 6)) ?_ rfl ?_ ?_ (by omega)
   ·have:¬ 2002+2*bs.length=41:=by omega
    simp[mU,aj,this]
   ·have h1:¬ 2003+2*bs.length=41:=by omega
    have h2:¬ 2003+2*bs.length=2002+2*bs.length:=by omega
    have h3:¬ 2003+2*bs.length=900:=by omega
    have h4:¬ 2003+2*bs.length=3:=by omega
    have h5:aj (dO bs) (2003+2*bs.length)=none:=qk (by omega)
    simp only[mU,List.cons_append,aj,jX,h1,h2,h3,h4,h5,if_false]
   ·refine aE.c5 ?_ (fun n=>aed (by omega) rfl n)
    simp[aT,aV]
 ·have hio:i=o.length:=by omega
  subst hio
  have hc:decide ((o.length:Int)<((dq o).length:Int))=false:=by simp[htl]
  refine .ak (by decide +kernel) fun K hK =>?_
  simp only[sc,J,simprocAttr]
  try simp only[hc,simprocAttr]
  refine .done (hK _ ?_);clear hK K
  refine U.seq ?_
  refine U.bD ?_
  simp only[ar,J,simprocAttr]
  refine ⟨fun h =>?_,fun h =>?_⟩
  case refine_1=>cases h
  refine U.exit ?_;try simp only[ao,bH,simprocAttr]
  generalize fk l o o.length=s at *
  obtain ⟨bs,vd⟩:=s
  simp only at hnd hbl hsl hvl ⊢
  have htv:(dq vd).length=vd.length:=by simp[dq]
  have hw2:∀ t,nd 900 (dq vd).length (Abs.cj [(48,I.bool false),(3,.ptr 3 []),(9,.own 900 (dq vd).length),(11,.ptr 43 []),(12,kl),(45,enc (dq o)),(46,.int .i64 ((dq o).length:Int)),(47,.int .i64 (o.length:Int))] t):=sW (by simp[nd,I.only,bt,kl,I.bV])
  refine U.Mp (a:=70) (b:=71) (d:=9) (n:=900) (xs:=dq vd) rfl rfl (by decide) (by omega) hw2 ?_ [(11,.ptr 43 [])] ?_ (by decide) (by decide) ?_
  ·refine xp ⟨rfl,JI (adu (fun j hj=>by simp;omega) (by decide) bs) ⟨bt _ _,trivial⟩⟩
  ·simp[Abs.cj,I.only]
  ·have hfin:=fun (ts:List (Nat×I))=>WI (A:=au ts (c4 [900] ((900,.cO 3 (dq vd))::(dO bs++[(3,.box (enc l))])))) (bs:=bs) (fun m y hy=>by
    have:m≠900:=fun e=>by
     rw[e,qk (by omega)] at hy;cases hy
    simp only[au,m3]
    simp[aj,this,jX,hy])
   have R:=And.intro @hfin (And.intro @bK (And.intro @bg @J))
   repeat' ((first
    |(with_reducible refine .guard (fun hb =>?_) (fun hb =>?_) <;>try simp only[hb])
    |refine U.aW (by decide +kernel) rfl fun K hK =>?_
    |(refine .aO [0,1,2,3,4,6,7,8,9,10,11,12,14,17,18,33,45,46,47,48,64] hK ?_;clear hK K)
    |(with_reducible refine .done (hK _ ?_);clear hK K)
    |refine U.of rfl ?_
    |(with_reducible refine ar.aU (fun h =>?_) (fun h =>?_) <;>try simp only[h])) <;>try simp only[aX,R,simprocAttr])
   all_goals clear R
theorem ahg{xs ys:List Int}(h:xs.Perm ys):dC xs=dC ys:=by
 unfold dC
 have hx:=List.pairwise_mergeSort (le:=fun x y:Int=>decide (x≤y)) (by intro a b c;simp;omega) (by intro a b;simp;omega) xs
 have hy:=List.pairwise_mergeSort (le:=fun x y:Int=>decide (x≤y)) (by intro a b c;simp;omega) (by intro a b;simp;omega) ys
 refine List.Perm.eq_of_pairwise (fun a b _ _ h k =>?_) hx hy ((List.mergeSort_perm _ _).trans (h.trans (List.mergeSort_perm _ _).symm))
 simp only[decide_eq_true_eq] at h k;omega
theorem aeR{A:ab}{d:Option Nat}{n:Nat}{rest:List av}{ks vs:List I}{cur:Option Nat} : px A d n rest (some (.it ks vs [] cur))=az rest (A.aI d (.tuple [.bool false])):=by
 simp only[px,if_true]
theorem a7.jg{P:Program}{Y:Value→List I→List (Nat×ah)→cS→Prop}{K:ab→Prop}{A:ab}{d:Option Nat}{n:Nat}{rest:List av}{ks vs:List I}{left:List Nat}{cur:Option Nat}(hl:left≠[])
  (h:∀ i,i∈left→∃ kk x,ks[i]?=some kk∧vs[i]?=some x∧a7 P Y false K (az rest ((A.aL n (.it ks vs (left.filter (· != i)) (some i))).aI d (.tuple [.bool true,kk,x])))) :
  a7 P Y false K (px A d n rest (some (.it ks vs left cur))):=by
 simp only[px,if_neg hl]
 refine .any rfl fun i hi =>?_
 obtain ⟨kk,x,h1,h2,h3⟩:=h i hi
 simp only[h1,h2]
 exact h3
def iL(bs:List aQ)(p:aQ→Bool)(aO:List Nat):List Int:=((aO.map fun i=>bs.getD i default).filter p).map (·.no)
theorem agi(bs:List aQ)(p:aQ→Bool)(aO:List Nat)(i:Nat):iL bs p (aO++[i])=iL bs p aO++if p (bs.getD i default) then [(bs.getD i default).no] else []:=by
 simp only[iL,List.map_append,List.filter_append,List.map_cons,List.map_nil,List.filter_cons,List.filter_nil]
 congr 1
 split <;>rfl
theorem JX(bs:List aQ)(p:aQ→Bool)(aO:List Nat):(iL bs p aO).length≤aO.length:=by
 simp only[iL,List.length_map]
 exact Nat.le_trans (List.length_filter_le _ _) (by simp)
theorem agh{bs:List aQ}{p:aQ→Bool}{aO:List Nat}(h:aO.Perm (List.range bs.length)):(iL bs p aO).Perm ((bs.filter p).map (·.no)):=by
 have e:(List.range bs.length).map (fun i=>bs.getD i default)=bs:=by
  refine List.ext_getElem (by simp) fun i h1 h2 =>?_
  simp[List.getD_eq_getElem?_getD,h2]
 simp only[iL]
 refine List.Perm.map _ ?_
 have:=(h.map fun i=>bs.getD i default).filter p
 rwa [e] at this
theorem af1(p:Nat→Bool)(bs:List aQ):I.bV p (bs.map fun b=>.ref (enc (⟨b⟩:eD)))=true:=by
 induction bs with
 |nil=>rfl
 |cons b bs ih=>simp only[List.map_cons,I.bV,I.only,bt,ih,Bool.and_self]
def yP(bs:List aQ)(p:aQ→Bool)(f:FuncId)(caps:List I)(s:List Nat×List Nat×Option Nat):ab :=
 au [(1,.func f caps),(5,.own 905 (iL bs p s.1).length),(12,.dg 12)] [(12,.it (dc bs) (bs.map fun b=>.ref (enc (⟨b⟩:eD))) s.2.1 s.2.2),(905,.cO 3 (iL bs p s.1))]
theorem tV(bs:List aQ)(hn:bs.length≤60)(f:FuncId)(caps:List I)(hcaps:I.eR caps=true)(p:aQ→Bool)(hf:∀ b∈bs,aB Tryz.prog f (.ref (enc (⟨b⟩:eD))::caps) (enc (p b))) :
  aB Tryz.prog 72 [gm bs,.func f caps] (enc (dC ((bs.filter p).map (·.no)))):=by
 refine aB.bu Tryz.func72 QZ SJ UI (Nat.le_of_ble_eq_true rfl) (fun hwf W0 D0 E1 =>?_)
 simp only[AR,Lt,bp,Nat.zero_add]
 clear hwf
 have hcl:I.bT caps=true:=kp caps hcaps
 have hfc:∀ aw A,bY aw A caps=some caps:=fun aw A=>kv aw A caps hcaps
 have hon:∀ q,I.bV q caps=true:=fun q=>j0 q caps hcl
 refine .ak (by decide +kernel) fun K hK =>?_
 simp only[Hb,J,simprocAttr]
 refine .done (hK _ ?_);clear hK K
 refine .ak (by decide +kernel) fun K hK =>?_
 simp only[Hc,J,simprocAttr]
 refine .done (hK _ ?_);clear hK K
 refine U.seq (U.seq ?_)
 refine .bj (by decide +kernel) fun K hK =>?_
 simp only[Hd,J,simprocAttr]
 try simp only[gm,eJ,eA,bg,J,simprocAttr]
 refine .done (hK _ ?_);clear hK K;try simp only[ao]
 refine U.block (U.loop (yP bs p f caps) (fun s=>(s.1++s.2.1).Perm (List.range bs.length)) (fun s=>s.2.1.length) ([],List.range bs.length,none) (by simp) ?_ ?_)
 ·refine aE.yU 5 905 3 1 rfl rfl ?_
  refine aE.c5 ?_ (fun n =>?_)
  ·simp[aT,aV,iL]
  ·simp only[iL,List.map_nil,List.filter_nil,cw,sA,dc,List.length_map]
   (repeat' split) <;>simp_all
 rintro ⟨aO,left,cur⟩ hC
 simp only at hC
 have hlen:aO.length+left.length=bs.length:=by simpa using hC.length_eq
 have hpl:=JX bs p aO
 simp only[yP]
 by_cases hl:left=[]
 ·subst hl
  refine .ak (by decide +kernel) fun K hK =>?_
  simp only[vI,J,simprocAttr]
  try simp only[eA,aeR,J,simprocAttr]
  refine .done (hK _ ?_);clear hK K
  refine U.seq ?_
  refine U.bD ?_
  simp only[ar,J,simprocAttr]
  refine ⟨fun h =>?_,fun h =>?_⟩
  case refine_1=>cases h
  refine U.exit ?_;try simp only[ao,bH,simprocAttr]
  have hdn:(iL bs p aO).Perm ((bs.filter p).map (·.no)):=agh (by simpa using hC)
  rw[←ahg hdn]
  generalize iL bs p aO=xs at hpl
  refine U.Mp (a:=25) (b:=26) (d:=5) (n:=905) (xs:=xs) rfl rfl (by decide) (by omega) (sW (by simp[nd,I.only,I.bV,hon])) (by simp only[c4,dc,List.filter_cons,List.filter_nil,List.contains_cons];simp[bd,ah.only,eh,af1,-List.map_map]) [] (by simp) (by decide) (by decide) ?_
  have R:=And.intro @bg @J
  repeat' ((first
   |(with_reducible refine .guard (fun hb =>?_) (fun hb =>?_) <;>try simp only[hb])
   |refine U.aW (by decide +kernel) rfl fun K hK =>?_
   |(refine .aO [0,1,4,5,6,7,12,14,20] hK ?_;clear hK K)
   |(with_reducible refine .done (hK _ ?_);clear hK K)
   |refine U.of rfl ?_
   |(with_reducible refine ar.aU (fun h =>?_) (fun h =>?_) <;>try simp only[h])) <;>try simp only[aX,R,simprocAttr])
  all_goals clear R
 ·refine .ak (by decide +kernel) fun K hK =>?_
  simp only[vI,J,simprocAttr]
  try simp only[eA,J,simprocAttr]
  refine a7.jg hl fun i hi =>?_
  have hib:i<bs.length:=List.mem_range.1 (hC.mem_iff.1 (by simp[hi]))
  refine ⟨enc (bs[i]).no,.ref (enc (⟨bs[i]⟩:eD)),by simp[dc,hib],by simp[hib],?_⟩
  have hx:bs.getD i default=bs[i]:=by simp[List.getD_eq_getElem?_getD,hib]
  try simp only[J,simprocAttr]
  refine .done (hK _ ?_);clear hK K
  refine U.seq ?_
  refine U.bD ?_
  simp only[ar,J,simprocAttr]
  refine ⟨fun h =>?_,fun h =>?_⟩
  case refine_2=>cases h
  refine U.skip ?_;try simp only[ao,simprocAttr]
  refine U.block ?_
  have hent:oS (dc bs) (bs.map fun b=>.ref (enc (⟨b⟩:eD))) (some i)=some (.tuple [.int .i64 (bs[i]).no,.ref (enc (⟨bs[i]⟩:eD))]):=by
   simp[oS,dc,hib,iZ]
  have hsn:=agi bs p aO i
  have hps:=JX bs p (aO++[i])
  have hpl2:(left.filter (· != i)).length<left.length:=by
   rcases Nat.lt_or_ge (left.filter (· != i)).length left.length with h | h
   ·exact h
   ·have:=List.filter_eq_self.1 (List.Sublist.eq_of_length_le List.filter_sublist h) i hi
    simp at this
  have hnd:left.Nodup:=(List.nodup_append.1 (hC.nodup_iff.2 List.nodup_range)).2.1
  have hC2:((aO++[i])++left.filter (· != i)).Perm (List.range bs.length):=by
   have h1:left.Perm (i::left.filter (· != i)):=by
    have h2:(left.filter (· == i)).length=1:=by
     have:=List.nodup_iff_count.1 hnd i
     have h3:=List.count_pos_iff.2 hi
     have h4:left.count i=(left.filter (· == i)).length:=by rw[List.count,List.countP_eq_length_filter]
     omega
    have h5:left.filter (· == i)=[i]:=by
     obtain ⟨a,ha⟩:=List.length_eq_one_iff.1 h2
     have:a∈left.filter (· == i):=by rw[ha];simp
     have:=(List.mem_filter.1 this).2
     simp at this
     rw[ha,this]
    have h6:=(List.filter_append_perm (· == i) left).symm
    rw[h5] at h6
    exact h6
   refine List.Perm.trans ?_ hC
   rw[List.append_assoc]
   exact (h1.symm).append_left aO
  refine .ak (by decide +kernel) fun K hK =>?_
  simp only[He,J,simprocAttr]
  try simp only[hent,eA,bg,J,simprocAttr]
  refine .done (hK _ ?_);clear hK K
  refine .ak (by decide +kernel) fun K hK =>?_
  simp only[Hf,J,simprocAttr]
  try simp only[List.cons_append,List.nil_append,hfc,ki,J,simprocAttr]
  refine .flat _ (hf _ (List.getElem_mem hib)) rfl ?_
  try simp only[J,simprocAttr]
  refine .done (hK _ ?_);clear hK K
  have hap:=fun (A:ab) d rest=>ub (A:=A) (d:=d) (e:=3) (bytes:=8) (n:=905) (l:=(iL bs p aO).length) (xs:=iL bs p aO) (y:=(bs[i]).no) (rest:=rest) rfl (by simp[maxLen];omega) (by omega)
  rw[hx] at hsn
  rcases hpb:p bs[i]
  ·rw[hpb,if_neg (by decide),List.append_nil] at hsn
   have R:=And.intro @hpb (And.intro @bg @J)
   repeat' ((first
    |(with_reducible refine .guard (fun hb =>?_) (fun hb =>?_) <;>try simp only[hb])
    |refine U.aW (by decide +kernel) rfl fun K hK =>?_
    |(refine .aO [0,1,4,5,6,7,12,14,20] hK ?_;clear hK K)
    |(with_reducible refine .done (hK _ ?_);clear hK K)
    |refine U.of rfl ?_
    |(with_reducible refine ar.aU (fun h =>?_) (fun h =>?_) <;>try simp only[h])) <;>try simp only[aX,R,simprocAttr])
   all_goals clear R
   refine ⟨(aO++[i],left.filter (· != i),some i),hC2,hpl2,?_⟩
   simp only[hsn]
   refine aE.c5 ?_ (fun n =>?_)
   ·simp[aT,aV]
   ·simp only[cw,sA];(repeat' split) <;>simp_all
  ·rw[hpb,if_pos rfl] at hsn
   have R:=And.intro @hpb (And.intro @hap (And.intro @bg @J))
   repeat' ((first
    |(with_reducible refine .guard (fun hb =>?_) (fun hb =>?_) <;>try simp only[hb])
    |refine U.aW (by decide +kernel) rfl fun K hK =>?_
    |(refine .aO [0,1,4,5,6,7,12,14,20] hK ?_;clear hK K)
    |(with_reducible refine .done (hK _ ?_);clear hK K)
    |refine U.of rfl ?_
    |(with_reducible refine ar.aU (fun h =>?_) (fun h =>?_) <;>try simp only[h])) <;>try simp only[aX,R,simprocAttr])
   all_goals clear R
   refine ⟨(aO++[i],left.filter (· != i),some i),hC2,hpl2,?_⟩
   simp only[hsn]
   refine aE.c5 ?_ (fun n =>?_)
   ·simp[aT,aV]
   ·simp only[cw,sA];(repeat' split) <;>simp_all
theorem y7{aw:Bool}{A0:ab}{os:List (Nat×ah)} : ∀ xs:List I,(∀ x∈xs,x.only (al os)=true∧x.b9=true)→iX aw A0 [] os xs xs
 | [],_=>trivial
 |x::xs,h=>⟨.inl ⟨(lE (ρ:=bA []) (fun _=>rfl) x).symm,(h x (by simp)).1,(h x (by simp)).2⟩,y7 xs fun y hy=>h y (by simp[hy])⟩
theorem agY(ts:List (Nat×I))(k:Nat)(a b:List Int):au ts (cv k a++cv k b)=au ts (cv k a):=by
 simp only[au];congr 1;funext n
 simp only[cv,List.cons_append,List.nil_append,aj]
 split <;>rfl
theorem a7.kH{K:ab→Prop}{f:FuncId}{avs:List I}{a1 a2:Option (List I)}{dst:Option Nat}{rest:List av}{ts:List (Nat×I)}{ws:List Int}{post:cS}(hc:cD Tryz.prog f avs (cv 1000000 ws) post)(hav:∀ x∈avs,x.only (al (cv 1000000 ws))=true∧x.b9=true)
  (h:∀ r os',post r os'→∃ ws',os'=cv 1000000 ws'∧r=.tuple []∧a7 Tryz.prog ig false K (az rest ((au ts (cv 1000000 ws')).aI dst (.tuple [])))):a7 Tryz.prog ig false K (.call f avs a1 a2 dst rest (au ts (cv 1000000 ws))):=by
 refine .bR false [] (cv 1000000 ws) avs post rfl hc ⟨fun m y hy =>?_,fun m m' _ _ h=>h⟩ (y7 avs hav) ?_ ?_
 ·rw[ah.lE (ρ:=bA []) (fun n=>rfl)]
  refine ⟨hy,?_⟩
  simp only[cv,aj] at hy
  split at hy
  ·cases hy;exact ⟨nS _ _,rfl⟩
  ·cases hy
 ·intro r os' hp
  obtain ⟨ws',rfl,rfl,_⟩:=h r os' hp
  refine ⟨fun m y hy =>?_,fun m m' _ _ h=>h,fun m hm=>by rw[df.1 hm];exact df.2 rfl,fun m a b=>by rw[df.1 a] at b;simp[cv,al,aj] at b,rfl,fun h=>by cases h⟩
  simp only[cv,aj] at hy
  split at hy
  ·cases hy;exact ⟨nS _ _,rfl,fun h=>by cases h⟩
  ·cases hy
 ·intro r os' hp
  obtain ⟨ws',rfl,rfl,hw⟩:=h r os' hp
  rw[tl,agY]
  exact hw
theorem kg(ws:List Int)(n:Nat)(f:FuncId)(caps:List I)(hcl:I.bT caps=true)(aC:List Int):∀ x∈.view 1000000 [] 1 0 n::(aC.map enc++[.func f caps]),x.only (al (cv 1000000 ws))=true∧x.b9=true:=by
 intro x hx
 simp only[List.mem_cons,List.mem_append,List.mem_map,List.not_mem_nil,or_false] at hx
 rcases hx with rfl | ⟨y,_,rfl⟩ | rfl
 ·exact ⟨df.2 rfl,rfl⟩
 ·exact ⟨bt _ _,dG _⟩
 ·exact ⟨mf _ _ (by simpa[I.bl] using hcl),rfl⟩
structure Oq where
 p:List Int
 u:List Int
 v:List Int
 q:List Int
theorem N1(p u v q:List Int)(a m b n:Nat)(f:FuncId)(caps:List I)(hcl:I.bT caps=true)(ha:p.length=a)(hm:a+u.length=m)(hb:m+v.length=b)(hu:0<u.length)(hv:0<v.length)(hn:b≤n)(hN:n≤1000) :
  cD Tryz.prog 213 [.view 1000000 [] 1 0 n,enc (a:Int),enc (m:Int),enc (b:Int),.func f caps] (cv 1000000 (p++u++v++q)) (xO (p++v++u++q)):=by
 refine cD.bu Tryz.func213 QG Sr Uq (Nat.le_of_ble_eq_true rfl) (Nat.le_of_ble_eq_true rfl) nj (fun hwf W0 D0 E1 =>?_)
 simp only[Az,Lb,bp,Nat.zero_add,Nat.reduceAdd]
 clear hwf
 have w1:=iv (x:=m) (y:=a) (by omega) (by omega)
 have w2:=iv (x:=b) (y:=m) (by omega) (by omega)
 refine .ak (by decide +kernel) fun K hK =>?_
 simp only[Gg,J,simprocAttr]
 try simp only[w1,simprocAttr]
 refine .done (hK _ ?_);clear hK K
 refine .ak (by decide +kernel) fun K hK =>?_
 simp only[Gh,J,simprocAttr]
 try simp only[w2,simprocAttr]
 refine .done (hK _ ?_);clear hK K
 refine U.seq (U.block (U.loop (fun s:Oq=>au [(0,.view 1000000 [] 1 0 n),(2,.int .i64 m),(4,.func f caps),(10,.int .i64 s.u.length),(11,.int .i64 s.v.length)] (cv 1000000 (s.p++s.u++s.v++s.q))) (fun s=>0<s.u.length∧0<s.v.length∧s.p.length+s.u.length=m∧m+s.v.length≤b∧s.p++s.v++s.u++s.q=p++v++u++q) (fun s=>s.u.length+s.v.length) ⟨p,u,v,q⟩ ⟨hu,hv,by simp only;omega,by simp only;omega,rfl⟩ ?_ ?_))
 ·have e1:m-a=u.length:=by omega
  have e2:b-m=v.length:=by omega
  simp only[e1,e2]
  refine aE.c5 ?_ (fun n=>rfl)
  simp[aT,aV]
 rintro ⟨p1,u1,v1,q1⟩ ⟨g1,g2,g3,g4,g5⟩
 simp only at g1 g2 g3 g4 g5 ⊢
 refine U.seq (U.seq ?_)
 refine .bj (by decide +kernel) fun K hK =>?_
 simp only[Gi,J,simprocAttr]
 refine .done (hK _ ?_);clear hK K;try simp only[ao]
 refine U.bD ?_
 simp only[ar,J,simprocAttr]
 refine ⟨fun h =>?_,fun h =>?_⟩
 ·have hne:u1.length≠v1.length:=fun e=>by rw[e] at h;simp at h
  refine U.skip ?_;try simp only[ao,simprocAttr]
  refine U.block (U.seq ?_)
  refine .bj (by decide +kernel) fun K hK =>?_
  simp only[Gj,J,simprocAttr]
  refine .done (hK _ ?_);clear hK K;try simp only[ao]
  refine U.bD ?_
  simp only[ar,J,simprocAttr]
  refine ⟨fun h =>?_,fun h =>?_⟩
  ·have hgt:v1.length<u1.length:=by simp at h;omega
   have w3:=iv (x:=m) (y:=u1.length) (by omega) (by omega)
   have w4:=iv (x:=u1.length) (y:=v1.length) (by omega) (by omega)
   have hs:u1=u1.take v1.length++u1.drop v1.length:=(List.take_append_drop _ _).symm
   have ht:(u1.take v1.length).length=v1.length:=by rw[List.length_take];omega
   have hd:(u1.drop v1.length).length=u1.length-v1.length:=by rw[List.length_drop]
   have hc:=tT p1 (u1.take v1.length) (u1.drop v1.length) v1 q1 (m-u1.length) m n v1.length (.func f caps) (by omega) (by omega) (by omega) (by omega) (by omega) hN
   rw[List.append_assoc p1,←hs] at hc
   refine .ak (by decide +kernel) fun K hK =>?_
   simp only[Gk,J,simprocAttr]
   try simp only[w3,simprocAttr]
   refine a7.kH hc (kg _ n f caps hcl [_,_,_]) ?_
   rintro r os' ⟨rfl,rfl⟩
   refine ⟨_,rfl,rfl,?_⟩
   try simp only[J,simprocAttr]
   refine .done (hK _ ?_);clear hK K
   refine .bj (by decide +kernel) fun K hK =>?_
   simp only[Gl,J,simprocAttr]
   try simp only[w4,simprocAttr]
   refine .done (hK _ ?_);clear hK K;try simp only[ao,bH]
   refine ⟨⟨p1++v1,u1.drop v1.length,u1.take v1.length,q1⟩,⟨by simp only;omega,by simp only;omega,by simp only[List.length_append];omega,by simp only;omega,?_⟩,by simp only;omega,?_⟩
   ·simp only
    rw[←g5]
    conv=>rhs;rw[hs]
    simp only[List.append_assoc]
   ·simp only[hd,ht]
    refine aE.c5 ?_ (fun n=>rfl)
    simp[aT,aV]
  ·have hlt:u1.length<v1.length:=by simp at h;omega
   have w3:=iv (x:=m) (y:=u1.length) (by omega) (by omega)
   have w4:=iv (x:=v1.length) (y:=u1.length) (by omega) (by omega)
   have w5:=kb m v1.length (by omega)
   have w6:=iv (x:=m+v1.length) (y:=u1.length) (by omega) (by omega)
   have hs:v1=v1.take (v1.length-u1.length)++v1.drop (v1.length-u1.length):=(List.take_append_drop _ _).symm
   have ht:(v1.take (v1.length-u1.length)).length=v1.length-u1.length:=by rw[List.length_take];omega
   have hd:(v1.drop (v1.length-u1.length)).length=u1.length:=by rw[List.length_drop];omega
   have hc:=tT p1 u1 (v1.take (v1.length-u1.length)) (v1.drop (v1.length-u1.length)) q1 (m-u1.length) (m+v1.length-u1.length) n u1.length (.func f caps) (by omega) (by omega) (by omega) (by omega) (by omega) hN
   rw[List.append_assoc (p1++u1),←hs] at hc
   refine .ak (by decide +kernel) fun K hK =>?_
   simp only[Gm,J,simprocAttr]
   try simp only[w3,w5,w6,simprocAttr]
   refine a7.kH hc (kg _ n f caps hcl [_,_,_]) ?_
   rintro r os' ⟨rfl,rfl⟩
   refine ⟨_,rfl,rfl,?_⟩
   try simp only[J,simprocAttr]
   refine .done (hK _ ?_);clear hK K
   refine .bj (by decide +kernel) fun K hK =>?_
   simp only[Gn,J,simprocAttr]
   try simp only[w4,simprocAttr]
   refine .done (hK _ ?_);clear hK K;try simp only[ao,bH]
   refine ⟨⟨p1,v1.drop (v1.length-u1.length),v1.take (v1.length-u1.length),u1++q1⟩,⟨by simp only;omega,by simp only;omega,by simp only;omega,by simp only;omega,?_⟩,by simp only;omega,?_⟩
   ·simp only
    rw[←g5]
    conv=>rhs;rw[hs]
    simp only[List.append_assoc]
   ·simp only[hd,ht]
    rw[←List.append_assoc _ u1 q1]
    refine aE.c5 ?_ (fun n=>rfl)
    simp[aT,aV]
 ·have he:u1.length=v1.length:=by simp at h;omega
  refine U.exit ?_;try simp only[ao,bH,simprocAttr]
  have w3:=iv (x:=m) (y:=u1.length) (by omega) (by omega)
  have hc:=tT p1 u1 [] v1 q1 (m-u1.length) m n u1.length (.func f caps) (by omega) (by omega) (by simp;omega) rfl (by omega) hN
  simp only[List.append_nil] at hc
  refine .bj (by decide +kernel) fun K hK =>?_
  simp only[Gp,J,simprocAttr]
  try simp only[w3,simprocAttr]
  refine a7.kH hc (kg _ n f caps hcl [_,_,_]) ?_
  rintro r os' ⟨rfl,rfl⟩
  refine ⟨_,rfl,rfl,?_⟩
  try simp only[J,simprocAttr]
  refine .done (hK _ ?_)
  clear hK K
  rw[lF]
  exact ng rfl g5 ⟨rfl,rfl⟩
theorem tA{el:List ay}{s:List Int}(h:db el s){i j:Nat}(hij:i<j)(hj:j<s.length):dA el (s.getD i 0) (s.getD j 0):=by
 rw[List.getD_eq_getElem?_getD,List.getD_eq_getElem?_getD,List.getElem?_eq_getElem (by omega),List.getElem?_eq_getElem hj]
 exact List.pairwise_iff_getElem.1 h i j (by omega) hj hij
theorem pJ{el:List ay}{s:List Int}(h:db el s){i j:Nat}(hij:i≤j)(hj:j<s.length){x:Int}(hx:dA el (s.getD j 0) x):dA el (s.getD i 0) x:=by
 rcases Nat.lt_or_ge i j with h1 | h1
 ·exact wG (tA h h1 hj) hx
 ·have:i=j:=by omega
  rw[this];exact hx
theorem pI{el:List ay}{s:List Int}(h:db el s){i j:Nat}(hij:i≤j)(hj:j<s.length){x:Int}(hx:dA el x (s.getD i 0)):dA el x (s.getD j 0):=by
 rcases Nat.lt_or_ge i j with h1 | h1
 ·exact wG hx (tA h h1 hj)
 ·have:i=j:=by omega
  rw[←this];exact hx
theorem sG{s:List Int}{k:Nat}{x:Int}(h:x∈s.take k):∃ i,i<k∧i<s.length∧s.getD i 0=x:=by
 obtain ⟨i,hi,rfl⟩:=List.getElem_of_mem h
 rw[List.length_take] at hi
 exact ⟨i,by omega,by omega,by rw[List.getD_eq_getElem?_getD,List.getElem?_eq_getElem (by omega),List.getElem_take];rfl⟩
theorem pg{s:List Int}{k:Nat}{x:Int}(h:x∈s.drop k):∃ i,k≤i∧i<s.length∧s.getD i 0=x:=by
 obtain ⟨i,hi,rfl⟩:=List.getElem_of_mem h
 rw[List.length_drop] at hi
 exact ⟨k+i,by omega,by omega,by rw[List.getD_eq_getElem?_getD,List.getElem?_eq_getElem (by omega),List.getElem_drop];rfl⟩
def rl(el:List ay)(l r:List Int)(k i:Nat):Prop:=∀ x∈l.take i++r.take (k-i),∀ y∈l.drop i++r.drop (k-i),dA el x y
theorem U1{el:List ay}{l r:List Int}{k i lo hi:Nat}(hl:db el l)(hr:db el r)(h1:lo≤i)(h2:i≤hi)(hlo:lo=0∨lo+r.length=k)(hhi:hi=l.length∨hi=k)(hil:hi≤l.length)(hik:hi≤k)(hlr:k≤lo+r.length)
  (g1:∀ j,lo≤j→j<i→dA el (l.getD j 0) (r.getD (k-1-j) 0)) (g2:∀ j,i≤j→j<hi→dA el (r.getD (k-1-j) 0) (l.getD j 0)):rl el l r k i:=by
 intro x hx y hy
 rcases List.mem_append.1 hx with hx | hx
 ·obtain ⟨a,ha1,ha2,rfl⟩:=sG hx
  rcases List.mem_append.1 hy with hy | hy
  ·obtain ⟨b,hb1,hb2,rfl⟩:=pg hy
   exact tA hl (by omega) hb2
  ·obtain ⟨b,hb1,hb2,rfl⟩:=pg hy
   by_cases hli:lo<i
   ·have:=g1 (i-1) (by omega) (by omega)
    have e:k-1-(i-1)=k-i:=by omega
    rw[e] at this
    refine pJ hl (j:=i-1) (by omega) (by omega) ?_
    exact pI hr (i:=k-i) (by omega) hb2 this
   ·omega
 ·obtain ⟨a,ha1,ha2,rfl⟩:=sG hx
  rcases List.mem_append.1 hy with hy | hy
  ·obtain ⟨b,hb1,hb2,rfl⟩:=pg hy
   by_cases hih:i<hi
   ·have:=g2 i (Nat.le_refl _) hih
    refine pJ hr (j:=k-1-i) (by omega) (by omega) ?_
    exact pI hl (i:=i) (by omega) hb2 this
   ·omega
  ·obtain ⟨b,hb1,hb2,rfl⟩:=pg hy
   exact tA hr (by omega) hb2
theorem ahi{el:List ay}{l r s1 s2:List Int}{k i:Nat}(hc:rl el l r k i)(h1:s1.Perm (l.take i++r.take (k-i)))(h2:s2.Perm (l.drop i++r.drop (k-i)))(k1:db el s1)(k2:db el s2):(s1++s2).Perm (l++r)∧db el (s1++s2):=by
 refine ⟨(h1.append h2).trans ?_,List.pairwise_append.2 ⟨k1,k2,fun x hx y hy=>hc x (h1.mem_iff.1 hx) y (h2.mem_iff.1 hy)⟩⟩
 have e:l.take i++r.take (k-i)++(l.drop i++r.drop (k-i))=l.take i++(r.take (k-i)++l.drop i)++r.drop (k-i):=by simp only[List.append_assoc]
 rw[e]
 refine (((List.perm_append_comm (l₁:=r.take (k-i)) (l₂:=l.drop i)).append_left _).append_right _).trans ?_
 have e2:l.take i++(l.drop i++r.take (k-i))++r.drop (k-i)=(l.take i++l.drop i)++(r.take (k-i)++r.drop (k-i)):=by simp only[List.append_assoc]
 rw[e2,List.take_append_drop,List.take_append_drop]
theorem Ms{el:List ay}{s:List Int}(h:db el s)(k:Nat):db el (s.take k):=h.sublist (List.take_sublist _ _)
theorem Mr{el:List ay}{s:List Int}(h:db el s)(k:Nat):db el (s.drop k):=h.sublist (List.drop_sublist _ _)
theorem vT{p l r q:List Int}{a i:Nat}(ha:p.length=a)(hi:i<l.length):(p++l++r++q).getD (a+i) 0=l.getD i 0:=by
 subst ha
 rw[List.getD_eq_getElem?_getD,List.getD_eq_getElem?_getD,List.append_assoc,List.append_assoc,List.getElem?_append_right (by omega),Nat.add_sub_cancel_left,List.getElem?_append_left hi]
theorem vU{p l r q:List Int}{m i:Nat}(hm:p.length+l.length=m)(hi:i<r.length):(p++l++r++q).getD (m+i) 0=r.getD i 0:=by
 subst hm
 rw[List.getD_eq_getElem?_getD,List.getD_eq_getElem?_getD,List.append_assoc (p++l),List.getElem?_append_right (by rw[List.length_append];omega),List.length_append,Nat.add_sub_cancel_left,List.getElem?_append_left hi]
theorem nU(x:Nat):Int.fdiv (x:Int) (2^min (Int.toNat 1) IntKind.u64.bits)=((x / 2:Nat):Int):=by
 have:min (Int.toNat 1) IntKind.u64.bits=1:=rfl
 rw[this]
 show Int.fdiv (x:Int) 2=_
 rw[Int.fdiv_eq_ediv_of_nonneg _ (by decide)];rfl
theorem na{x:Nat}(h:x<9223372036854775807):IntKind.u64.wrap (x:Int)=(x:Int):=by
 simp only[IntKind.wrap,IntKind.bits,IntKind.signed]
 simp
 omega
theorem nT:((0:Int)≤1)=True:=by simp
theorem U.ahO{c:cK}{Q:Exit→ab→Prop}{A:ab}{x:aP}{σ:Type}(T:σ→ab)(C:σ→Prop)(h1:U c x (ao (fun B=>∃ s,C s∧Abs.aE B (T s)) fun _ _=>False) A)(h2:∀ s B,C s→Abs.aE B (T s)→Q .normal B):U c x Q A :=
 h1.mono fun e B hq=>by
  cases e <;>simp only[ao] at hq <;>first
   |(obtain ⟨s,k1,k2⟩:=hq;exact h2 s B k1 k2)
   |exact hq.elim
theorem ahD{p r q:List Int}{x:Int}{a j:Nat}(ha:p.length=a)(hj:j<r.length):j9 (dV p r q x j) (a+j) (a+j+1)=dV p r q x (j+1):=by
 have e1:dV p r q x (j+1)=(p++r.take j)++r[j]::x::(r.drop (j+1)++q):=by
  simp only[dV]
  rw[List.take_succ_eq_append_getElem hj]
  simp only[List.append_assoc,List.cons_append,List.nil_append]
 have e2:dV p r q x j=(p++r.take j)++x::r[j]::(r.drop (j+1)++q):=by
  simp only[dV]
  rw[List.drop_eq_getElem_cons hj]
  simp only[List.append_assoc,List.cons_append]
 rw[e1,e2]
 exact ahE (by rw[List.length_append,List.length_take];omega) rfl
theorem adz(p r q:List Int)(x:Int):dV p r q x 0=p++[x]++r++q:=by simp[dV]
theorem adC(p r q:List Int)(x:Int):dV p r q x r.length=p++r++[x]++q:=by simp[dV]
theorem NV(el:List ay)(hd:lU el)(hel:el.length≤60)(p l r q:List Int)(a m b n:Nat)(hl0:0<l.length)(hr0:0<r.length)(ha:p.length=a)(hm:a+l.length=m)(hb:m+r.length=b)(hn:b≤n)(hnl:n≤(p++l++r++q).length)(hn1:n≤1000)(hsl:db el l)(hsr:db el r)(hlr:∀ x∈l,∀ y∈r,x<y)(hin:∀ x∈l++r,jc el x)(hl1:l.length=1) :
  cD Tryz.prog 204 [.view 1000000 [] 1 0 n,enc (a:Int),enc (m:Int),enc (b:Int),.func 138 [.ref (enc el)]] (cv 1000000 (p++l++r++q)) (mE el p (l++r) q):=by
 have hlen:(p++l++r++q).length=p.length+l.length+r.length+q.length:=by simp only[List.length_append]
 have mR:=fun i (hi:i<l.length)=>vT (p:=p) (l:=l) (r:=r) (q:=q) (i:=i) ha hi
 have gr:=fun i (hi:i<r.length)=>vU (p:=p) (l:=l) (r:=r) (q:=q) (m:=m) (i:=i) (by omega) hi
 have ml:=fun i (hi:i<l.length)=>(show l.getD i 0∈l by rw[List.getD_eq_getElem?_getD,List.getElem?_eq_getElem hi];exact List.getElem_mem _)
 have mr:=fun i (hi:i<r.length)=>(show r.getD i 0∈r by rw[List.getD_eq_getElem?_getD,List.getElem?_eq_getElem hi];exact List.getElem_mem _)
 refine cD.bu Tryz.func204 ur uv uF (Nat.le_of_ble_eq_true rfl) (Nat.le_of_ble_eq_true rfl) nj (fun hwf W0 D0 E1 =>?_)
 simp only[rL,s9,bp,Nat.zero_add,Nat.reduceAdd]
 clear hwf
 have eX:=iv (x:=m) (y:=a) (by omega) (by omega)
 refine U.seq (U.seq ?_)
 obtain ⟨x,rfl⟩:=List.length_eq_one_iff.1 hl1
 obtain ⟨ws,hws⟩:∃ ws,ws=p++[x]++r++q:=⟨_,rfl⟩
 rw[←hws] at hnl hlen gr mR ⊢
 have gx:ws.getD a 0=x:=by have:=mR 0 hl0;simpa using this
 have hxr:=hlr x (by simp)
 have hxS:=hin x (by simp)
 have hrS:=fun y (hy:y∈r)=>hin y (by simp[hy])
 have h1:((m-a:Nat):Int)=1:=by omega
 refine .bj (by decide +kernel) fun K hK =>?_
 simp only[r8,J,Nat.reduceEqDiff,reduceIte]
 try simp only[eX,h1,Int.reduceBEq]
 refine .done (hK _ ?_);clear hK K;try simp only[ao]
 refine U.bD ?_
 try simp only[ar,J,Nat.reduceEqDiff,reduceIte]
 refine ⟨fun _ =>?_,fun h =>?_⟩
 rotate_left
 ·simp at h
 refine .ak (by decide +kernel) fun K hK =>?_
 simp only[FO,J,Nat.reduceEqDiff,reduceIte]
 refine .done (hK _ ?_);clear hK K
 refine .ak (by decide +kernel) fun K hK =>?_
 simp only[FT,J,Nat.reduceEqDiff,reduceIte]
 refine .done (hK _ ?_);clear hK K
 refine U.seq (U.block (U.loop (fun s:Nat×Nat=>au [(0,.view 1000000 [] 1 0 n),(1,.int .i64 a),(2,.int .i64 m),(3,.int .i64 b),(4,.func 138 [.ref (enc el)]),(10,.int .i64 ((m+s.1:Nat):Int)),(11,.int .i64 ((m+s.2:Nat):Int))] (cv 1000000 ws))
  (fun s=>s.1≤s.2∧s.2≤r.length∧(∀ j,j<s.1→dA el (r.getD j 0) x)∧∀ j,s.2≤j→j<r.length→dA el x (r.getD j 0)) (fun s=>s.2-s.1) (0,r.length) ⟨Nat.zero_le _,Nat.le_refl _,fun j hj=>by omega,fun j h1 h2=>by simp only at h1;omega⟩ ?_ ?_))
 ·have e1:m+0=m:=rfl
  simp only[e1,hb]
  refine aE.c5 ?_ (fun n=>rfl)
  simp[aT,aV]
 rintro ⟨i,j⟩ ⟨g1,g2,g3,g4⟩
 simp only at g1 g2 g3 g4 ⊢
 by_cases hij:i<j
 ·have hc:decide (((m+i:Nat):Int)<((m+j:Nat):Int))=true:=by simp;omega
  have w1:=kb (m+i) (m+j) (by omega)
  have w2:=na (x:=m+i+(m+j)) (by omega)
  obtain ⟨c,hcd⟩:∃ c,c=(i+j) / 2:=⟨_,rfl⟩
  have hci:i≤c∧c<j:=by omega
  have w3:(m+i+(m+j)) / 2=m+c:=by omega
  have w4:=na (x:=m+c) (by omega)
  have w5:=tJ (n:=m+c) (by omega)
  have w6:=fG (i:=m+c) (by omega)
  have v1:=jd (n:=n) (i:=m+c) (by omega)
  have v2:=jd (n:=n) (i:=a) (by omega)
  have l1:=gE (xs:=ws) (i:=m+c) (by omega)
  have l2:=gE (xs:=ws) (i:=a) (by omega)
  rw[gr c (by omega)] at l1
  rw[gx] at l2
  have hrc:=mr c (by omega)
  have hcmp:=rn el hd hel (r.getD c 0) x (hrS _ hrc) hxS
  have hlt:=sD (l:=el) (hxr _ hrc)
  simp only[cv]
  cases hdc:decide (fV el (r.getD c 0)-fV el x<0) with
  |true =>
   have hd1:dA el (r.getD c 0) x:=hlt.2 (by have:=of_decide_eq_true hdc;omega)
   have R:=And.intro @hc (And.intro @w1 (And.intro @w2 (And.intro @w3 (And.intro @w4 (And.intro @w5 (And.intro @w6 (And.intro @nU (And.intro @nT (And.intro @v1 (And.intro @v2 (And.intro @l1 (And.intro @l2 (And.intro @hdc (And.intro @eB (And.intro @dT (And.intro @bg @J))))))))))))))))
   repeat' ((first
    |(with_reducible refine .guard (fun hb =>?_) (fun hb =>?_) <;>try simp only[hb])
    |refine U.aW (by decide +kernel) rfl fun K hK =>?_
    |refine .flat _ (hcmp) rfl ?_
    |(refine .aO [0,1,2,3,4,10,11,12,13,14,15,16,17,18,19,20,21,22,23,24,28,33,50,58,80,85,103,110,140,151,171,185,199,213] hK ?_;clear hK K)
    |(with_reducible refine .done (hK _ ?_);clear hK K)
    |refine U.of rfl ?_
    |(with_reducible refine ar.aU (fun h =>?_) (fun h =>?_) <;>try simp only[h])) <;>try simp only[aX,R,List.cons_append,Nat.reduceEqDiff,reduceIte,Nat.reduceBEq])
   all_goals clear R
   refine ⟨(c+1,j),⟨by simp only;omega,g2,fun k hk =>?_,g4⟩,by simp only;omega,?_⟩
   ·simp only at hk
    exact pJ hsr (j:=c) (by omega) (by omega) hd1
   ·refine aE.c5 ?_ (fun n=>rfl)
    simp[aT,aV];omega
  |false =>
   have hd1:dA el x (r.getD c 0):=sC (hxr _ hrc) (by have:=of_decide_eq_false hdc;omega)
   have R:=And.intro @hc (And.intro @w1 (And.intro @w2 (And.intro @w3 (And.intro @w4 (And.intro @w5 (And.intro @w6 (And.intro @nU (And.intro @nT (And.intro @v1 (And.intro @v2 (And.intro @l1 (And.intro @l2 (And.intro @hdc (And.intro @eB (And.intro @dT (And.intro @bg @J))))))))))))))))
   repeat' ((first
    |(with_reducible refine .guard (fun hb =>?_) (fun hb =>?_) <;>try simp only[hb])
    |refine U.aW (by decide +kernel) rfl fun K hK =>?_
    |refine .flat _ (hcmp) rfl ?_
    |(refine .aO [0,1,2,3,4,10,11,12,13,14,15,16,17,18,19,20,21,22,23,24,28,33,50,58,80,85,103,110,140,151,171,185,199,213] hK ?_;clear hK K)
    |(with_reducible refine .done (hK _ ?_);clear hK K)
    |refine U.of rfl ?_
    |(with_reducible refine ar.aU (fun h =>?_) (fun h =>?_) <;>try simp only[h])) <;>try simp only[aX,R,List.cons_append,Nat.reduceEqDiff,reduceIte,Nat.reduceBEq])
   all_goals clear R
   refine ⟨(i,c),⟨by simp only;omega,by simp only;omega,g3,fun k hk hk2 =>?_⟩,by simp only;omega,?_⟩
   ·simp only at hk
    exact pI hsr (i:=c) (by omega) hk2 hd1
   ·refine aE.c5 ?_ (fun n=>rfl)
    simp[aT,aV]
 ·have hc:decide (((m+i:Nat):Int)<((m+j:Nat):Int))=false:=by simp;omega
  have he:j=i:=by omega
  subst he
  refine U.seq (U.seq ?_)
  refine .bj (by decide +kernel) fun K hK =>?_
  simp only[FY,J,Nat.reduceEqDiff,reduceIte]
  try simp only[hc]
  refine .done (hK _ ?_);clear hK K;try simp only[ao]
  refine U.bD ?_
  simp only[ar,J,Nat.reduceEqDiff,reduceIte]
  refine ⟨fun h =>?_,fun h =>?_⟩
  ·cases h
  refine U.exit ?_;try simp only[ao,bH,reduceIte]
  refine U.seq (U.seq ?_)
  refine .bj (by decide +kernel) fun K hK =>?_
  simp only[F2,J,Nat.reduceEqDiff,reduceIte]
  refine .done (hK _ ?_);clear hK K;try simp only[ao]
  have hi0:=adz p r q x
  rw[hws,←hi0]
  refine U.block (U.loop (fun k:Nat=>au [(0,.view 1000000 [] 1 0 n),(10,.int .i64 ((m+j:Nat):Int)),(13,.int .i64 ((a+k:Nat):Int))] (cv 1000000 (dV p r q x k))) (fun k=>k≤j) (fun k=>j-k) 0 (Nat.zero_le _) ?_ (fun k hk =>?_))
  ·refine aE.c5 ?_ (fun n=>rfl)
   simp[aT,aV]
  have ww:IntKind.i64.wrap (((m+j:Nat):Int)-1)=((a+j:Nat):Int):=by rw[cA _ (by omega) (by omega)];simp at hm;omega
  have hil:(dV p r q x k).length=p.length+r.length+1+q.length:=wi (by omega)
  by_cases hkj:k<j
  ·have hc2:decide (((a+k:Nat):Int)<((a+j:Nat):Int))=true:=by simp;omega
   have hstep:=ahD (p:=p) (r:=r) (q:=q) (x:=x) (j:=k) ha (by omega)
   generalize dV p r q x k=ws at hil hstep ⊢
   obtain ⟨i1,hi1e⟩:∃ i1,i1=a+k:=⟨_,rfl⟩
   obtain ⟨j1,hj1e⟩:∃ j1,j1=a+k+1:=⟨_,rfl⟩
   rw[←hj1e,←hi1e] at hstep
   have wk:IntKind.i64.wrap ((i1:Int)+1)=(j1:Int):=by rw[cA _ (by omega) (by omega)];omega
   rw[←hi1e] at hc2 ⊢
   have hi1:i1<n:=by simp at hm;omega
   have hj1:j1<n:=by simp at hm;omega
   simp only[cv]
   have v1:=jd (n:=n) (i:=i1) hi1
   have v2:=jd (n:=n) (i:=j1) hj1
   have l1:=gE (xs:=ws) (i:=i1) (by omega)
   have l2:=gE (xs:=ws) (i:=j1) (by omega)
   have s1:=fun (A:ab) v u rest=>nt (A:=A) (n:=1000000) (xs:=ws) (i:=i1) (by omega) v u rest
   obtain ⟨ws2,hws2⟩:∃ ws2,ws2=ws.set i1 (ws.getD j1 0):=⟨_,rfl⟩
   have hw2l:ws2.length=ws.length:=by rw[hws2];simp
   have s2:=fun (A:ab) v u rest=>nt (A:=A) (n:=1000000) (xs:=ws2) (i:=j1) (by omega) v u rest
   have l3:=gE (xs:=ws2) (i:=j1) (by omega)
   have R:=And.intro @ww (And.intro @hc2 (And.intro @wk (And.intro @v1 (And.intro @v2 (And.intro @l1 (And.intro @l2 (And.intro @l3 (And.intro @s1 (And.intro @s2 (And.intro @eB (And.intro @bg @J)))))))))))
   repeat' ((first
    |(with_reducible refine .guard (fun hb =>?_) (fun hb =>?_) <;>try simp only[hb])
    |refine U.aW (by decide +kernel) rfl fun K hK =>?_
    |(refine .aO [0,1,2,3,4,10,11,12,13,14,15,16,17,18,19,20,21,22,23,24,28,33,50,58,80,85,103,110,140,151,171,185,199,213] hK ?_;clear hK K)
    |(with_reducible refine .done (hK _ ?_);clear hK K)
    |refine U.of rfl ?_
    |(with_reducible refine ar.aU (fun h =>?_) (fun h =>?_) <;>try simp only[h])) <;>try simp only[aX,R,←hws2,Nat.reduceEqDiff,reduceIte,Nat.reduceBEq])
   all_goals clear R
   refine ⟨k+1,by omega,by omega,?_⟩
   rw[←hstep]
   simp only[j9,←hws2]
   have e:a+(k+1)=j1:=by omega
   rw[e]
   refine aE.c5 ?_ (fun n =>?_)
   ·simp[aT,aV]
   ·simp only[aj];split <;>rfl
  ·have hc2:decide (((a+k:Nat):Int)<((a+j:Nat):Int))=false:=by simp;omega
   have hk2:k=j:=by omega
   subst hk2
   have R:=And.intro @ww (And.intro @hc2 (And.intro @bg (And.intro @fF @J)))
   repeat' ((first
    |(with_reducible refine .guard (fun hb =>?_) (fun hb =>?_) <;>try simp only[hb])
    |refine U.aW (by decide +kernel) rfl fun K hK =>?_
    |(refine .aO [0,1,2,3,4,10,11,12,13,14,15,16,17,18,19,20,21,22,23,24,28,33,50,58,80,85,103,110,140,151,171,185,199,213] hK ?_;clear hK K)
    |(with_reducible refine .done (hK _ ?_);clear hK K)
    |refine U.of rfl ?_
    |(with_reducible refine ar.aU (fun h =>?_) (fun h =>?_) <;>try simp only[h])) <;>try simp only[aX,R,Nat.reduceEqDiff,reduceIte,Nat.reduceBEq])
   all_goals clear R
   refine ng rfl rfl ⟨rfl,r.take k++x::r.drop k,?_,?_,?_⟩
   ·refine List.perm_middle.trans ?_
    rw[List.take_append_drop];exact .refl _
   ·refine x6 hsr (fun y hy =>?_) (fun y hy =>?_)
    ·obtain ⟨i,h1,h2,rfl⟩:=sG hy;exact g3 i h1
    ·obtain ⟨i,h1,h2,rfl⟩:=pg hy;exact g4 i h1 h2
   ·rfl
theorem NW(el:List ay)(hd:lU el)(hel:el.length≤60)(p l r q:List Int)(a m b n:Nat)(hl0:0<l.length)(hr0:0<r.length)(ha:p.length=a)(hm:a+l.length=m)(hb:m+r.length=b)(hn:b≤n)(hnl:n≤(p++l++r++q).length)(hn1:n≤1000)(hsl:db el l)(hsr:db el r)(hlr:∀ x∈l,∀ y∈r,x<y)(hin:∀ x∈l++r,jc el x)(hl1:¬ l.length=1)(hr1:r.length=1) :
  cD Tryz.prog 204 [.view 1000000 [] 1 0 n,enc (a:Int),enc (m:Int),enc (b:Int),.func 138 [.ref (enc el)]] (cv 1000000 (p++l++r++q)) (mE el p (l++r) q):=by
 have hlen:(p++l++r++q).length=p.length+l.length+r.length+q.length:=by simp only[List.length_append]
 have mR:=fun i (hi:i<l.length)=>vT (p:=p) (l:=l) (r:=r) (q:=q) (i:=i) ha hi
 have gr:=fun i (hi:i<r.length)=>vU (p:=p) (l:=l) (r:=r) (q:=q) (m:=m) (i:=i) (by omega) hi
 have ml:=fun i (hi:i<l.length)=>(show l.getD i 0∈l by rw[List.getD_eq_getElem?_getD,List.getElem?_eq_getElem hi];exact List.getElem_mem _)
 have mr:=fun i (hi:i<r.length)=>(show r.getD i 0∈r by rw[List.getD_eq_getElem?_getD,List.getElem?_eq_getElem hi];exact List.getElem_mem _)
 refine cD.bu Tryz.func204 ur uv uF (Nat.le_of_ble_eq_true rfl) (Nat.le_of_ble_eq_true rfl) nj (fun hwf W0 D0 E1 =>?_)
 simp only[rL,s9,bp,Nat.zero_add,Nat.reduceAdd]
 clear hwf
 have eX:=iv (x:=m) (y:=a) (by omega) (by omega)
 refine U.seq (U.seq ?_)
 have h1:(((m-a:Nat):Int)==1)=false:=by simp;omega
 obtain ⟨ws,hws⟩:∃ ws,ws=p++l++r++q:=⟨_,rfl⟩
 rw[←hws] at hnl hlen gr mR ⊢
 have w0b:=iv (x:=b) (y:=m) (by omega) (by omega)
 refine .bj (by decide +kernel) fun K hK =>?_
 simp only[r8,J,Nat.reduceEqDiff,reduceIte]
 try simp only[eX,h1]
 refine .done (hK _ ?_);clear hK K;try simp only[ao]
 refine U.bD ?_
 try simp only[ar,J,Nat.reduceEqDiff,reduceIte]
 refine ⟨fun h =>?_,fun _ =>?_⟩
 ·simp at h
 refine U.skip ?_;try simp only[ao]
 refine U.seq (U.seq ?_)
 obtain ⟨x,rfl⟩:=List.length_eq_one_iff.1 hr1
 have gx:ws.getD m 0=x:=by have:=gr 0 hr0;simpa using this
 have hlx:∀ y∈l,y<x:=fun y hy=>hlr y hy x (by simp)
 have hxS:=hin x (by simp)
 have hlS:=fun y (hy:y∈l)=>hin y (by simp[hy])
 have h2:((b-m:Nat):Int)=1:=by omega
 refine .bj (by decide +kernel) fun K hK =>?_
 simp only[vF,J,Nat.reduceEqDiff,reduceIte]
 try simp only[w0b,h2,Int.reduceBEq]
 refine .done (hK _ ?_);clear hK K;try simp only[ao]
 refine U.bD ?_
 try simp only[ar,J,Nat.reduceEqDiff,reduceIte]
 refine ⟨fun _ =>?_,fun h =>?_⟩
 rotate_left
 ·simp at h
 refine .ak (by decide +kernel) fun K hK =>?_
 simp only[FP,J,Nat.reduceEqDiff,reduceIte]
 refine .done (hK _ ?_);clear hK K
 refine .ak (by decide +kernel) fun K hK =>?_
 simp only[FQ,J,Nat.reduceEqDiff,reduceIte]
 refine .done (hK _ ?_);clear hK K
 refine U.seq (U.block (U.loop (fun s:Nat×Nat=>au [(0,.view 1000000 [] 1 0 n),(1,.int .i64 a),(2,.int .i64 m),(3,.int .i64 b),(4,.func 138 [.ref (enc el)]),(14,.int .i64 ((a+s.1:Nat):Int)),(15,.int .i64 ((a+s.2:Nat):Int))] (cv 1000000 ws))
  (fun s=>s.1≤s.2∧s.2≤l.length∧(∀ j,j<s.1→dA el (l.getD j 0) x)∧∀ j,s.2≤j→j<l.length→dA el x (l.getD j 0)) (fun s=>s.2-s.1) (0,l.length) ⟨Nat.zero_le _,Nat.le_refl _,fun j hj=>by omega,fun j h1 h2=>by simp only at h1;omega⟩ ?_ ?_))
 ·have e1:a+0=a:=rfl
  simp only[e1,hm]
  refine aE.c5 ?_ (fun n=>rfl)
  simp[aT,aV]
 rintro ⟨i,j⟩ ⟨g1,g2,g3,g4⟩
 simp only at g1 g2 g3 g4 ⊢
 by_cases hij:i<j
 ·have hc:decide (((a+i:Nat):Int)<((a+j:Nat):Int))=true:=by simp;omega
  have w1:=kb (a+i) (a+j) (by omega)
  have w2:=na (x:=a+i+(a+j)) (by omega)
  obtain ⟨c,hcd⟩:∃ c,c=(i+j) / 2:=⟨_,rfl⟩
  have hci:i≤c∧c<j:=by omega
  have w3:(a+i+(a+j)) / 2=a+c:=by omega
  have w4:=na (x:=a+c) (by omega)
  have w5:=tJ (n:=a+c) (by omega)
  have w6:=fG (i:=a+c) (by omega)
  have v1:=jd (n:=n) (i:=a+c) (by omega)
  have v2:=jd (n:=n) (i:=m) (by omega)
  have l1:=gE (xs:=ws) (i:=a+c) (by omega)
  have l2:=gE (xs:=ws) (i:=m) (by omega)
  rw[mR c (by omega)] at l1
  rw[gx] at l2
  have hrc:=ml c (by omega)
  have hcmp:=rn el hd hel x (l.getD c 0) hxS (hlS _ hrc)
  have hlt:=sD (l:=el) (hlx _ hrc)
  simp only[cv]
  cases hdc:decide (fV el x-fV el (l.getD c 0)<0) with
  |true =>
   have hd1:dA el x (l.getD c 0):=hlt.2 (by have:=of_decide_eq_true hdc;omega)
   have R:=And.intro @hc (And.intro @w1 (And.intro @w2 (And.intro @w3 (And.intro @w4 (And.intro @w5 (And.intro @w6 (And.intro @nU (And.intro @nT (And.intro @v1 (And.intro @v2 (And.intro @l1 (And.intro @l2 (And.intro @hdc (And.intro @eB (And.intro @dT (And.intro @bg @J))))))))))))))))
   repeat' ((first
    |(with_reducible refine .guard (fun hb =>?_) (fun hb =>?_) <;>try simp only[hb])
    |refine U.aW (by decide +kernel) rfl fun K hK =>?_
    |refine .flat _ (hcmp) rfl ?_
    |(refine .aO [0,1,2,3,4,10,11,12,13,14,15,16,17,18,19,20,21,22,23,24,28,33,50,58,80,85,103,110,140,151,171,185,199,213] hK ?_;clear hK K)
    |(with_reducible refine .done (hK _ ?_);clear hK K)
    |refine U.of rfl ?_
    |(with_reducible refine ar.aU (fun h =>?_) (fun h =>?_) <;>try simp only[h])) <;>try simp only[aX,R,List.cons_append,Nat.reduceEqDiff,reduceIte,Nat.reduceBEq])
   all_goals clear R
   refine ⟨(i,c),⟨by simp only;omega,by simp only;omega,g3,fun k hk hk2 =>?_⟩,by simp only;omega,?_⟩
   ·simp only at hk
    exact pI hsl (i:=c) (by omega) hk2 hd1
   ·refine aE.c5 ?_ (fun n=>rfl)
    simp[aT,aV]
  |false =>
   have hd1:dA el (l.getD c 0) x:=sC (hlx _ hrc) (by have:=of_decide_eq_false hdc;omega)
   have R:=And.intro @hc (And.intro @w1 (And.intro @w2 (And.intro @w3 (And.intro @w4 (And.intro @w5 (And.intro @w6 (And.intro @nU (And.intro @nT (And.intro @v1 (And.intro @v2 (And.intro @l1 (And.intro @l2 (And.intro @hdc (And.intro @eB (And.intro @dT (And.intro @bg @J))))))))))))))))
   repeat' ((first
    |(with_reducible refine .guard (fun hb =>?_) (fun hb =>?_) <;>try simp only[hb])
    |refine U.aW (by decide +kernel) rfl fun K hK =>?_
    |refine .flat _ (hcmp) rfl ?_
    |(refine .aO [0,1,2,3,4,10,11,12,13,14,15,16,17,18,19,20,21,22,23,24,28,33,50,58,80,85,103,110,140,151,171,185,199,213] hK ?_;clear hK K)
    |(with_reducible refine .done (hK _ ?_);clear hK K)
    |refine U.of rfl ?_
    |(with_reducible refine ar.aU (fun h =>?_) (fun h =>?_) <;>try simp only[h])) <;>try simp only[aX,R,List.cons_append,Nat.reduceEqDiff,reduceIte,Nat.reduceBEq])
   all_goals clear R
   refine ⟨(c+1,j),⟨by simp only;omega,g2,fun k hk =>?_,g4⟩,by simp only;omega,?_⟩
   ·simp only at hk
    exact pJ hsl (j:=c) (by omega) (by omega) hd1
   ·refine aE.c5 ?_ (fun n=>rfl)
    simp[aT,aV];omega
 ·have hc:decide (((a+i:Nat):Int)<((a+j:Nat):Int))=false:=by simp;omega
  have he:j=i:=by omega
  subst he
  refine U.seq (U.seq ?_)
  refine .bj (by decide +kernel) fun K hK =>?_
  simp only[FR,J,Nat.reduceEqDiff,reduceIte]
  try simp only[hc]
  refine .done (hK _ ?_);clear hK K;try simp only[ao]
  refine U.bD ?_
  simp only[ar,J,Nat.reduceEqDiff,reduceIte]
  refine ⟨fun h =>?_,fun h =>?_⟩
  ·cases h
  refine U.exit ?_;try simp only[ao,bH,reduceIte]
  refine U.seq (U.seq ?_)
  refine .bj (by decide +kernel) fun K hK =>?_
  simp only[FU,J,Nat.reduceEqDiff,reduceIte]
  refine .done (hK _ ?_);clear hK K;try simp only[ao]
  have hi0:=adC p l q x
  rw[hws,←hi0]
  refine U.block (U.loop (fun k:Nat=>au [(0,.view 1000000 [] 1 0 n),(14,.int .i64 ((a+j:Nat):Int)),(17,.int .i64 ((a+k:Nat):Int))] (cv 1000000 (dV p l q x k))) (fun k=>j≤k∧k≤l.length) (fun k=>k-j) l.length ⟨g2,Nat.le_refl _⟩ ?_ (fun k hk =>?_))
  ·rw[hm]
   refine aE.c5 ?_ (fun n=>rfl)
   simp[aT,aV]
  have hil:(dV p l q x k).length=p.length+l.length+1+q.length:=wi (by omega)
  by_cases hkj:j<k
  ·have hc2:decide (((a+j:Nat):Int)<((a+k:Nat):Int))=true:=by simp;omega
   obtain ⟨k',rfl⟩:∃ k',k=k'+1:=⟨k-1,by omega⟩
   have hstep:=Iy (p:=p) (t:=l) (rest:=q) (x:=x) (c:=k') ha (by omega)
   generalize dV p l q x (k'+1)=ws at hil hstep ⊢
   obtain ⟨i1,hi1e⟩:∃ i1,i1=a+(k'+1):=⟨_,rfl⟩
   obtain ⟨j1,hj1e⟩:∃ j1,j1=a+k':=⟨_,rfl⟩
   have hij:a+k'+1=i1:=by omega
   rw[hij,←hj1e] at hstep
   have wk:IntKind.i64.wrap ((i1:Int)-1)=(j1:Int):=by rw[cA _ (by omega) (by omega)];omega
   rw[←hi1e] at hc2 ⊢
   have hi1:i1<n:=by omega
   have hj1:j1<n:=by omega
   simp only[cv]
   have v1:=jd (n:=n) (i:=i1) hi1
   have v2:=jd (n:=n) (i:=j1) hj1
   have l1:=gE (xs:=ws) (i:=i1) (by omega)
   have l2:=gE (xs:=ws) (i:=j1) (by omega)
   have s1:=fun (A:ab) v u rest=>nt (A:=A) (n:=1000000) (xs:=ws) (i:=i1) (by omega) v u rest
   obtain ⟨ws2,hws2⟩:∃ ws2,ws2=ws.set i1 (ws.getD j1 0):=⟨_,rfl⟩
   have hw2l:ws2.length=ws.length:=by rw[hws2];simp
   have s2:=fun (A:ab) v u rest=>nt (A:=A) (n:=1000000) (xs:=ws2) (i:=j1) (by omega) v u rest
   have l3:=gE (xs:=ws2) (i:=j1) (by omega)
   have R:=And.intro @hc2 (And.intro @wk (And.intro @v1 (And.intro @v2 (And.intro @l1 (And.intro @l2 (And.intro @l3 (And.intro @s1 (And.intro @s2 (And.intro @eB (And.intro @bg @J))))))))))
   repeat' ((first
    |(with_reducible refine .guard (fun hb =>?_) (fun hb =>?_) <;>try simp only[hb])
    |refine U.aW (by decide +kernel) rfl fun K hK =>?_
    |(refine .aO [0,1,2,3,4,10,11,12,13,14,15,16,17,18,19,20,21,22,23,24,28,33,50,58,80,85,103,110,140,151,171,185,199,213] hK ?_;clear hK K)
    |(with_reducible refine .done (hK _ ?_);clear hK K)
    |refine U.of rfl ?_
    |(with_reducible refine ar.aU (fun h =>?_) (fun h =>?_) <;>try simp only[h])) <;>try simp only[aX,R,←hws2,Nat.reduceEqDiff,reduceIte,Nat.reduceBEq])
   all_goals clear R
   refine ⟨k',by omega,by omega,?_⟩
   rw[←hstep]
   simp only[j9,←hws2,←hj1e]
   refine aE.c5 ?_ (fun n =>?_)
   ·simp[aT,aV]
   ·simp only[aj];split <;>rfl
  ·have hc2:decide (((a+j:Nat):Int)<((a+k:Nat):Int))=false:=by simp;omega
   have hk2:k=j:=by omega
   subst hk2
   have R:=And.intro @hc2 (And.intro @bg (And.intro @fF @J))
   repeat' ((first
    |(with_reducible refine .guard (fun hb =>?_) (fun hb =>?_) <;>try simp only[hb])
    |refine U.aW (by decide +kernel) rfl fun K hK =>?_
    |(refine .aO [0,1,2,3,4,10,11,12,13,14,15,16,17,18,19,20,21,22,23,24,28,33,50,58,80,85,103,110,140,151,171,185,199,213] hK ?_;clear hK K)
    |(with_reducible refine .done (hK _ ?_);clear hK K)
    |refine U.of rfl ?_
    |(with_reducible refine ar.aU (fun h =>?_) (fun h =>?_) <;>try simp only[h])) <;>try simp only[aX,R,Nat.reduceEqDiff,reduceIte,Nat.reduceBEq])
   all_goals clear R
   refine ng rfl rfl ⟨rfl,l.take k++x::l.drop k,?_,?_,?_⟩
   ·refine List.perm_middle.trans ?_
    rw[List.take_append_drop];exact List.perm_append_comm (l₁:=[x])
   ·refine x6 hsl (fun y hy =>?_) (fun y hy =>?_)
    ·obtain ⟨i,h1,h2,rfl⟩:=sG hy;exact g3 i h1
    ·obtain ⟨i,h1,h2,rfl⟩:=pg hy;exact g4 i h1 h2
   ·rfl
theorem NX(el:List ay)(hd:lU el)(hel:el.length≤60)(N:Nat)(ih:∀ (p l r q:List Int) (a m b n:Nat),l.length+r.length≤N→0<l.length→0<r.length→p.length=a→a+l.length=m→m+r.length=b→b≤n→n≤(p++l++r++q).length→n≤1000→db el l→db el r→(∀ x∈l,∀ y∈r,x<y)→(∀ x∈l++r,jc el x) →
  cD Tryz.prog 204 [.view 1000000 [] 1 0 n,enc (a:Int),enc (m:Int),enc (b:Int),.func 138 [.ref (enc el)]] (cv 1000000 (p++l++r++q)) (mE el p (l++r) q)) (p l r q:List Int) (a m b n:Nat) (hl0:0<l.length) (hr0:0<r.length) (ha:p.length=a) (hm:a+l.length=m) (hb:m+r.length=b) (hn:b≤n) (hnl:n≤(p++l++r++q).length) (hn1:n≤1000) (hsl:db el l) (hsr:db el r) (hlr:∀ x∈l,∀ y∈r,x<y) (hin:∀ x∈l++r,jc el x) (hN:l.length+r.length≤N+1) (hl1:¬ l.length=1) (hr1:¬ r.length=1) :
  cD Tryz.prog 204 [.view 1000000 [] 1 0 n,enc (a:Int),enc (m:Int),enc (b:Int),.func 138 [.ref (enc el)]] (cv 1000000 (p++l++r++q)) (mE el p (l++r) q):=by
 have hlen:(p++l++r++q).length=p.length+l.length+r.length+q.length:=by simp only[List.length_append]
 have mR:=fun i (hi:i<l.length)=>vT (p:=p) (l:=l) (r:=r) (q:=q) (i:=i) ha hi
 have gr:=fun i (hi:i<r.length)=>vU (p:=p) (l:=l) (r:=r) (q:=q) (m:=m) (i:=i) (by omega) hi
 have ml:=fun i (hi:i<l.length)=>(show l.getD i 0∈l by rw[List.getD_eq_getElem?_getD,List.getElem?_eq_getElem hi];exact List.getElem_mem _)
 have mr:=fun i (hi:i<r.length)=>(show r.getD i 0∈r by rw[List.getD_eq_getElem?_getD,List.getElem?_eq_getElem hi];exact List.getElem_mem _)
 refine cD.bu Tryz.func204 ur uv uF (Nat.le_of_ble_eq_true rfl) (Nat.le_of_ble_eq_true rfl) nj (fun hwf W0 D0 E1 =>?_)
 simp only[rL,s9,bp,Nat.zero_add,Nat.reduceAdd]
 clear hwf
 have eX:=iv (x:=m) (y:=a) (by omega) (by omega)
 refine U.seq (U.seq ?_)
 have h1:(((m-a:Nat):Int)==1)=false:=by simp;omega
 obtain ⟨ws,hws⟩:∃ ws,ws=p++l++r++q:=⟨_,rfl⟩
 rw[←hws] at hnl hlen gr mR ⊢
 have w0b:=iv (x:=b) (y:=m) (by omega) (by omega)
 refine .bj (by decide +kernel) fun K hK =>?_
 simp only[r8,J,Nat.reduceEqDiff,reduceIte]
 try simp only[eX,h1]
 refine .done (hK _ ?_);clear hK K;try simp only[ao]
 refine U.bD ?_
 try simp only[ar,J,Nat.reduceEqDiff,reduceIte]
 refine ⟨fun h =>?_,fun _ =>?_⟩
 ·simp at h
 refine U.skip ?_;try simp only[ao]
 refine U.seq (U.seq ?_)
 have h2:(((b-m:Nat):Int)==1)=false:=by simp;omega
 refine .bj (by decide +kernel) fun K hK =>?_
 simp only[vF,J,Nat.reduceEqDiff,reduceIte]
 try simp only[w0b,h2]
 refine .done (hK _ ?_);clear hK K;try simp only[ao]
 refine U.bD ?_
 try simp only[ar,J,Nat.reduceEqDiff,reduceIte]
 refine ⟨fun h =>?_,fun _ =>?_⟩
 ·simp at h
 refine U.skip ?_;try simp only[ao]
 obtain ⟨k,hk⟩:∃ k,k=(l.length+r.length) / 2:=⟨_,rfl⟩
 have w1:=kb a b (by omega)
 have w2:=na (x:=a+b) (by omega)
 have w3:(a+b) / 2=a+k:=by omega
 have w4:=na (x:=a+k) (by omega)
 have w5:=tJ (n:=a+k) (by omega)
 have w6:=kb (a+k) m (by omega)
 refine .ak (by decide +kernel) fun K hK =>?_
 simp only[FV,J,Nat.reduceEqDiff,reduceIte]
 try simp only[w1,w2,w3,w5,nU,nT,J,Nat.reduceEqDiff,reduceIte]
 refine .done (hK _ ?_);clear hK K
 refine .ak (by decide +kernel) fun K hK =>?_
 simp only[FW,J,Nat.reduceEqDiff,reduceIte]
 try simp only[w6]
 refine .done (hK _ ?_);clear hK K
 refine .ak (by decide +kernel) fun K hK =>?_
 simp only[FX,J]
 refine .done (hK _ ?_);clear hK K
 obtain ⟨lo,hi,q1,q2,q3,q4,q5,q6,q7⟩:∃ lo hi,(if a+k<m then lo+r.length=k∧hi=k else lo=0∧hi=l.length)∧lo≤hi∧hi≤l.length∧hi≤k∧k≤lo+r.length∧(lo=0∨lo+r.length=k)∧(hi=l.length∨hi=k):=by
  by_cases h:a+k<m
  ·exact ⟨k-r.length,k,by rw[if_pos h];omega,by omega,by omega,by omega,by omega,by omega,by omega⟩
  ·exact ⟨0,l.length,by rw[if_neg h];omega,by omega,by omega,by omega,by omega,by omega,by omega⟩
 refine U.seq (U.yh (au [(0,.view 1000000 [] 1 0 n),(1,.int .i64 a),(2,.int .i64 m),(3,.int .i64 b),(4,.func 138 [.ref (enc el)]),(18,.int .i64 ((a+k:Nat):Int)),(19,.int .i64 ((a+k+m:Nat):Int)),(20,.int .i64 ((a+lo:Nat):Int)),(21,.int .i64 ((a+hi:Nat):Int))] (cv 1000000 ws)) ?_ fun B hB=>U.sub hB ?_)
 ·by_cases h:a+k<m
  ·rw[if_pos h] at q1
   have hc:decide (((a+k:Nat):Int)<(m:Int))=true:=by simp;omega
   have w7:=iv (x:=a+k+m) (y:=b) (by omega) (by omega)
   have e1:a+k+m-b=a+lo:=by omega
   have R:=And.intro @hc (And.intro @w7 (And.intro @e1 (And.intro @bg @J)))
   repeat' ((first
    |(with_reducible refine .guard (fun hb =>?_) (fun hb =>?_) <;>try simp only[hb])
    |refine U.aW (by decide +kernel) rfl fun K hK =>?_
    |(refine .aO [0,1,2,3,4,10,11,12,13,14,15,16,17,18,19,20,21,22,23,24,28,33,50,58,80,85,103,110,140,151,171,185,199,213] hK ?_;clear hK K)
    |(with_reducible refine .done (hK _ ?_);clear hK K)
    |refine U.of rfl ?_
    |(with_reducible refine ar.aU (fun h =>?_) (fun h =>?_) <;>try simp only[h])) <;>try simp only[aX,R,Nat.reduceEqDiff,reduceIte,Nat.reduceBEq])
   all_goals clear R
   rw[q1.2]
   refine aE.c5 ?_ (fun n=>rfl)
   simp[aT,aV]
  ·rw[if_neg h] at q1
   have hc:decide (((a+k:Nat):Int)<(m:Int))=false:=by simp;omega
   have R:=And.intro @hc (And.intro @bg @J)
   repeat' ((first
    |(with_reducible refine .guard (fun hb =>?_) (fun hb =>?_) <;>try simp only[hb])
    |refine U.aW (by decide +kernel) rfl fun K hK =>?_
    |(refine .aO [0,1,2,3,4,10,11,12,13,14,15,16,17,18,19,20,21,22,23,24,28,33,50,58,80,85,103,110,140,151,171,185,199,213] hK ?_;clear hK K)
    |(with_reducible refine .done (hK _ ?_);clear hK K)
    |refine U.of rfl ?_
    |(with_reducible refine ar.aU (fun h =>?_) (fun h =>?_) <;>try simp only[h])) <;>try simp only[aX,R,Nat.reduceEqDiff,reduceIte,Nat.reduceBEq])
   all_goals clear R
   rw[q1.2,q1.1,hm]
   refine aE.c5 ?_ (fun n=>rfl)
   simp[aT,aV]
 clear q1 w1 w2 w3 w4 w5 w6 hl1 hr1 eX w0b
 have hcrF:∀ i,lo≤i→i≤hi→(∀ j,lo≤j→j<i→dA el (l.getD j 0) (r.getD (k-1-j) 0))→(∀ j,i≤j→j<hi→dA el (r.getD (k-1-j) 0) (l.getD j 0))→rl el l r k i:=fun i a1 a2 a3 a4=>U1 hsl hsr a1 a2 q6 q7 q3 q4 q5 a3 a4
 have hk2:2*k≤l.length+r.length:=by omega
 have hk3:1≤k:=by omega
 clear q6 q7 hk
 have w8:IntKind.i64.wrap (((a+k+m:Nat):Int)-1)=((a+k+m-1:Nat):Int):=by rw[cA _ (by omega) (by omega)];omega
 refine .ak (by decide +kernel) fun K hK =>?_
 simp only[FZ,J,Nat.reduceEqDiff,reduceIte]
 try simp only[w8]
 refine .done (hK _ ?_);clear hK K
 refine U.seq (U.block (U.loop (fun s:Nat×Nat=>au [(0,.view 1000000 [] 1 0 n),(1,.int .i64 a),(2,.int .i64 m),(3,.int .i64 b),(4,.func 138 [.ref (enc el)]),(18,.int .i64 ((a+k:Nat):Int)),(19,.int .i64 ((a+k+m:Nat):Int)),(22,.int .i64 ((a+k+m-1:Nat):Int)),(20,.int .i64 ((a+s.1:Nat):Int)),(21,.int .i64 ((a+s.2:Nat):Int))] (cv 1000000 ws))
  (fun s=>lo≤s.1∧s.1≤s.2∧s.2≤hi∧(∀ j,lo≤j→j<s.1→dA el (l.getD j 0) (r.getD (k-1-j) 0))∧∀ j,s.2≤j→j<hi→dA el (r.getD (k-1-j) 0) (l.getD j 0)) (fun s=>s.2-s.1) (lo,hi) ⟨Nat.le_refl _,q2,Nat.le_refl _,fun j h1 h2=>by simp only at h2;omega,fun j h1 h2=>by simp only at h1;omega⟩ ?_ ?_))
 ·refine aE.c5 ?_ (fun n=>rfl)
  simp[aT,aV]
 rintro ⟨i,j⟩ ⟨fj,g1,g2,g3,g4⟩
 simp only at fj g1 g2 g3 g4 ⊢
 by_cases hij:i<j
 ·have hc:decide (((a+i:Nat):Int)<((a+j:Nat):Int))=true:=by simp;omega
  have w1:=kb (a+i) (a+j) (by omega)
  have w2:=na (x:=a+i+(a+j)) (by omega)
  obtain ⟨c,hcd⟩:∃ c,c=(i+j) / 2:=⟨_,rfl⟩
  have hci:i≤c∧c<j:=by omega
  have w3:(a+i+(a+j)) / 2=a+c:=by omega
  have w4:=na (x:=a+c) (by omega)
  have w5:=tJ (n:=a+c) (by omega)
  have w6:=fG (i:=a+c) (by omega)
  have w9:=iv (x:=a+k+m-1) (y:=a+c) (by omega) (by omega)
  have e1:a+k+m-1-(a+c)=m+(k-1-c):=by omega
  have v1:=jd (n:=n) (i:=a+c) (by omega)
  have v2:=jd (n:=n) (i:=m+(k-1-c)) (by omega)
  have l1:=gE (xs:=ws) (i:=a+c) (by omega)
  have l2:=gE (xs:=ws) (i:=m+(k-1-c)) (by omega)
  rw[mR c (by omega)] at l1
  rw[gr (k-1-c) (by omega)] at l2
  have hlc:=ml c (by omega)
  have hrc:=mr (k-1-c) (by omega)
  have hcmp:=rn el hd hel (r.getD (k-1-c) 0) (l.getD c 0) (hin _ (by simp only[List.mem_append];exact .inr hrc)) (hin _ (by simp only[List.mem_append];exact .inl hlc))
  have hlt:=sD (l:=el) (hlr _ hlc _ hrc)
  simp only[cv]
  cases hdc:decide (fV el (r.getD (k-1-c) 0)-fV el (l.getD c 0)<0) with
  |true =>
   have hd1:dA el (r.getD (k-1-c) 0) (l.getD c 0):=hlt.2 (by have:=of_decide_eq_true hdc;omega)
   have R:=And.intro @hc (And.intro @w1 (And.intro @w2 (And.intro @w3 (And.intro @w4 (And.intro @w5 (And.intro @w6 (And.intro @w9 (And.intro @e1 (And.intro @nU (And.intro @nT (And.intro @v1 (And.intro @v2 (And.intro @l1 (And.intro @l2 (And.intro @hdc (And.intro @eB (And.intro @dT (And.intro @bg @J))))))))))))))))))
   repeat' ((first
    |(with_reducible refine .guard (fun hb =>?_) (fun hb =>?_) <;>try simp only[hb])
    |refine U.aW (by decide +kernel) rfl fun K hK =>?_
    |refine .flat _ (hcmp) rfl ?_
    |(refine .aO [0,1,2,3,4,10,11,12,13,14,15,16,17,18,19,20,21,22,23,24,28,33,50,58,80,85,103,110,140,151,171,185,199,213] hK ?_;clear hK K)
    |(with_reducible refine .done (hK _ ?_);clear hK K)
    |refine U.of rfl ?_
    |(with_reducible refine ar.aU (fun h =>?_) (fun h =>?_) <;>try simp only[h])) <;>try simp only[aX,R,List.cons_append,Nat.reduceEqDiff,reduceIte,Nat.reduceBEq])
   all_goals clear R
   refine ⟨(i,c),⟨fj,by simp only;omega,by simp only;omega,g3,fun t ht ht2 =>?_⟩,by simp only;omega,?_⟩
   ·simp only at ht
    exact pJ hsr (j:=k-1-c) (by omega) (by omega) (pI hsl (i:=c) (by omega) (by omega) hd1)
   ·refine aE.c5 ?_ (fun n=>rfl)
    simp[aT,aV]
  |false =>
   have hd1:dA el (l.getD c 0) (r.getD (k-1-c) 0):=sC (hlr _ hlc _ hrc) (by have:=of_decide_eq_false hdc;omega)
   have R:=And.intro @hc (And.intro @w1 (And.intro @w2 (And.intro @w3 (And.intro @w4 (And.intro @w5 (And.intro @w6 (And.intro @w9 (And.intro @e1 (And.intro @nU (And.intro @nT (And.intro @v1 (And.intro @v2 (And.intro @l1 (And.intro @l2 (And.intro @hdc (And.intro @eB (And.intro @dT (And.intro @bg @J))))))))))))))))))
   repeat' ((first
    |(with_reducible refine .guard (fun hb =>?_) (fun hb =>?_) <;>try simp only[hb])
    |refine U.aW (by decide +kernel) rfl fun K hK =>?_
    |refine .flat _ (hcmp) rfl ?_
    |(refine .aO [0,1,2,3,4,10,11,12,13,14,15,16,17,18,19,20,21,22,23,24,28,33,50,58,80,85,103,110,140,151,171,185,199,213] hK ?_;clear hK K)
    |(with_reducible refine .done (hK _ ?_);clear hK K)
    |refine U.of rfl ?_
    |(with_reducible refine ar.aU (fun h =>?_) (fun h =>?_) <;>try simp only[h])) <;>try simp only[aX,R,List.cons_append,Nat.reduceEqDiff,reduceIte,Nat.reduceBEq])
   all_goals clear R
   refine ⟨(c+1,j),⟨by simp only;omega,by simp only;omega,g2,fun t ht ht2 =>?_,g4⟩,by simp only;omega,?_⟩
   ·simp only at ht2
    exact pJ hsl (j:=c) (by omega) (by omega) (pI hsr (i:=k-1-c) (by omega) (by omega) hd1)
   ·refine aE.c5 ?_ (fun n=>rfl)
    simp[aT,aV];omega
 have hc:decide (((a+i:Nat):Int)<((a+j:Nat):Int))=false:=by simp;omega
 have he:j=i:=by omega
 subst he
 have hcr:rl el l r k j:=hcrF _ fj g2 g3 g4
 refine U.seq (U.seq ?_)
 refine .bj (by decide +kernel) fun K hK =>?_
 simp only[F0,J,Nat.reduceEqDiff,reduceIte]
 try simp only[hc]
 refine .done (hK _ ?_);clear hK K;try simp only[ao]
 refine U.bD ?_
 simp only[ar,J,Nat.reduceEqDiff,reduceIte]
 refine ⟨fun h =>?_,fun h =>?_⟩
 ·cases h
 refine U.exit ?_;try simp only[ao,bH,reduceIte]
 have w10:=iv (x:=a+k+m) (y:=a+j) (by omega) (by omega)
 have e2:a+k+m-(a+j)=m+(k-j):=by omega
 refine .ak (by decide +kernel) fun K hK =>?_
 simp only[F1,J,Nat.reduceEqDiff,reduceIte]
 try simp only[w10,e2]
 refine .done (hK _ ?_);clear hK K
 -- the four parts
 have hl12:l.take j++l.drop j=l:=List.take_append_drop _ _
 have hr12:r.take (k-j)++r.drop (k-j)=r:=List.take_append_drop _ _
 obtain ⟨l1,hl1e⟩:∃ l1,l1=l.take j:=⟨_,rfl⟩
 obtain ⟨l2,hl2e⟩:∃ l2,l2=l.drop j:=⟨_,rfl⟩
 obtain ⟨r1,hr1e⟩:∃ r1,r1=r.take (k-j):=⟨_,rfl⟩
 obtain ⟨dR,hr2e⟩:∃ dR,dR=r.drop (k-j):=⟨_,rfl⟩
 have ll1:l1.length=j:=by rw[hl1e,List.length_take];omega
 have ll2:l2.length=l.length-j:=by rw[hl2e,List.length_drop]
 have lr1:r1.length=k-j:=by rw[hr1e,List.length_take];omega
 have lr2:dR.length=r.length-(k-j):=by rw[hr2e,List.length_drop]
 have sl1:db el l1:=hl1e▸Ms hsl _
 have sl2:db el l2:=hl2e▸Mr hsl _
 have sr1:db el r1:=hr1e▸Ms hsr _
 have sr2:db el dR:=hr2e▸Mr hsr _
 have ml1:∀ x∈l1,x∈l:=fun x hx=>List.mem_of_mem_take (hl1e▸hx)
 have ml2:∀ x∈l2,x∈l:=fun x hx=>List.mem_of_mem_drop (hl2e▸hx)
 have mr1:∀ x∈r1,x∈r:=fun x hx=>List.mem_of_mem_take (hr1e▸hx)
 have mr2:∀ x∈dR,x∈r:=fun x hx=>List.mem_of_mem_drop (hr2e▸hx)
 rw[←hl1e,←hl2e] at hl12
 rw[←hr1e,←hr2e] at hr12
 have hws4:ws=(p++l1)++l2++r1++(dR++q):=by rw[hws,←hl12,←hr12];simp only[List.append_assoc]
 have e3:((a+j:Nat):Int)<m↔j<l.length:=by omega
 -- the parts change places
 refine U.seq (U.yh (au [(0,.view 1000000 [] 1 0 n),(1,.int .i64 a),(3,.int .i64 b),(4,.func 138 [.ref (enc el)]),(18,.int .i64 ((a+k:Nat):Int)),(20,.int .i64 ((a+j:Nat):Int)),(24,.int .i64 ((m+(k-j):Nat):Int))] (cv 1000000 (p++l1++r1++(l2++dR++q)))) ?_ fun B hB=>U.sub hB ?_)
 ·by_cases h1:j<l.length
  ·have hc1:decide (((a+j:Nat):Int)<(m:Int))=true:=by simp;omega
   by_cases h2:j<k
   ·have hc2:decide ((m:Int)<((m+(k-j):Nat):Int))=true:=by simp;omega
    have hrot:=N1 (p++l1) l2 r1 (dR++q) (a+j) m (m+(k-j)) n 138 [.ref (enc el)] (by simp[I.bT,I.bl,dT]) (by rw[List.length_append];omega) (by omega) (by omega) (by omega) (by omega) (by omega) hn1
    rw[←hws4] at hrot
    have R:=And.intro @hc1 (And.intro @hc2 (And.intro @bg @J))
    repeat' ((first
     |(with_reducible refine .guard (fun hb =>?_) (fun hb =>?_) <;>try simp only[hb])
     |refine U.aW (by decide +kernel) rfl fun K hK =>?_
     |(refine .aO [0,1,2,3,4,10,11,12,13,14,15,16,17,18,19,20,21,22,23,24,28,33,50,58,80,85,103,110,140,151,171,185,199,213] hK ?_;clear hK K)
     |(with_reducible refine .done (hK _ ?_);clear hK K)
     |refine U.of rfl ?_
     |(with_reducible refine ar.aU (fun h =>?_) (fun h =>?_) <;>try simp only[h])) <;>try simp only[aX,R,Nat.reduceEqDiff,reduceIte,Nat.reduceBEq])
    all_goals clear R
    refine a7.kH hrot (kg _ n 138 [.ref (enc el)] (by simp[I.bT,I.bl,dT]) [_,_,_]) ?_
    rintro eW os' ⟨rfl,rfl⟩
    refine ⟨_,rfl,rfl,?_⟩
    try simp only[J]
    refine .done (hK _ ?_);clear hK K
    have e5:p++l1++r1++l2++(dR++q)=p++l1++r1++(l2++dR++q):=by simp only[List.append_assoc]
    rw[e5]
    refine aE.c5 ?_ (fun n=>rfl)
    simp[aT,aV]
   ·have hc2:decide ((m:Int)<((m+(k-j):Nat):Int))=false:=by simp;omega
    have hn0:r1=[]:=List.length_eq_zero_iff.1 (by omega)
    have e5:ws=p++l1++r1++(l2++dR++q):=by rw[hws4,hn0];simp only[List.append_assoc,List.append_nil]
    rw[e5]
    have R:=And.intro @hc1 (And.intro @hc2 (And.intro @bg @J))
    repeat' ((first
     |(with_reducible refine .guard (fun hb =>?_) (fun hb =>?_) <;>try simp only[hb])
     |refine U.aW (by decide +kernel) rfl fun K hK =>?_
     |(refine .aO [0,1,2,3,4,10,11,12,13,14,15,16,17,18,19,20,21,22,23,24,28,33,50,58,80,85,103,110,140,151,171,185,199,213] hK ?_;clear hK K)
     |(with_reducible refine .done (hK _ ?_);clear hK K)
     |refine U.of rfl ?_
     |(with_reducible refine ar.aU (fun h =>?_) (fun h =>?_) <;>try simp only[h])) <;>try simp only[aX,R,Nat.reduceEqDiff,reduceIte,Nat.reduceBEq])
    all_goals clear R
    refine aE.c5 ?_ (fun n=>rfl)
    simp[aT,aV]
  ·have hc1:decide (((a+j:Nat):Int)<(m:Int))=false:=by simp;omega
   have hn0:l2=[]:=List.length_eq_zero_iff.1 (by omega)
   have e5:ws=p++l1++r1++(l2++dR++q):=by rw[hws4,hn0];simp only[List.append_assoc,List.append_nil,List.nil_append]
   rw[e5]
   have R:=And.intro @hc1 (And.intro @bg @J)
   repeat' ((first
    |(with_reducible refine .guard (fun hb =>?_) (fun hb =>?_) <;>try simp only[hb])
    |refine U.aW (by decide +kernel) rfl fun K hK =>?_
    |(refine .aO [0,1,2,3,4,10,11,12,13,14,15,16,17,18,19,20,21,22,23,24,28,33,50,58,80,85,103,110,140,151,171,185,199,213] hK ?_;clear hK K)
    |(with_reducible refine .done (hK _ ?_);clear hK K)
    |refine U.of rfl ?_
    |(with_reducible refine ar.aU (fun h =>?_) (fun h =>?_) <;>try simp only[h])) <;>try simp only[aX,R,Nat.reduceEqDiff,reduceIte,Nat.reduceBEq])
   all_goals clear R
   refine aE.c5 ?_ (fun n=>rfl)
   simp[aT,aV]
 -- the lower half
 refine U.seq (U.ahO (fun s1:List Int=>au [(0,.view 1000000 [] 1 0 n),(3,.int .i64 b),(4,.func 138 [.ref (enc el)]),(18,.int .i64 ((a+k:Nat):Int)),(24,.int .i64 ((m+(k-j):Nat):Int))] (cv 1000000 (p++s1++l2++dR++q))) (fun s1=>s1.Perm (l1++r1)∧db el s1) ?_ fun s1 B hC hB=>U.sub hB ?_)
 ·by_cases h1:0<j
  ·have hc1:decide ((a:Int)<((a+j:Nat):Int))=true:=by simp;omega
   by_cases h2:j<k
   ·have hc2:decide (((a+j:Nat):Int)<((a+k:Nat):Int))=true:=by simp;omega
    have hrec:=ih p l1 r1 (l2++dR++q) a (a+j) (a+k) n (by omega) (by omega) (by omega) ha (by omega) (by omega) (by omega) (by simp only[List.length_append];omega) hn1 sl1 sr1 (fun x hx y hy=>hlr x (ml1 x hx) y (mr1 y hy)) (fun x hx=>hin x (by
     rcases List.mem_append.1 hx with h | h
     ·exact List.mem_append.2 (.inl (ml1 x h))
     ·exact List.mem_append.2 (.inr (mr1 x h))))
    have R:=And.intro @hc1 (And.intro @hc2 (And.intro @bg @J))
    repeat' ((first
     |(with_reducible refine .guard (fun hb =>?_) (fun hb =>?_) <;>try simp only[hb])
     |refine U.aW (by decide +kernel) rfl fun K hK =>?_
     |(refine .aO [0,1,2,3,4,10,11,12,13,14,15,16,17,18,19,20,21,22,23,24,28,33,50,58,80,85,103,110,140,151,171,185,199,213] hK ?_;clear hK K)
     |(with_reducible refine .done (hK _ ?_);clear hK K)
     |refine U.of rfl ?_
     |(with_reducible refine ar.aU (fun h =>?_) (fun h =>?_) <;>try simp only[h])) <;>try simp only[aX,R,Nat.reduceEqDiff,reduceIte,Nat.reduceBEq])
    all_goals clear R
    refine a7.kH hrec (kg _ n 138 [.ref (enc el)] (by simp[I.bT,I.bl,dT]) [_,_,_]) ?_
    rintro eW os' ⟨rfl,s1,k1,k2,rfl⟩
    refine ⟨_,rfl,rfl,?_⟩
    try simp only[J]
    refine .done (hK _ ?_);clear hK K
    refine ⟨s1,⟨k1,k2⟩,?_⟩
    have e5:p++s1++(l2++dR++q)=p++s1++l2++dR++q:=by simp only[List.append_assoc]
    rw[e5]
    refine aE.c5 ?_ (fun n=>rfl)
    simp[aT,aV]
   ·have hc2:decide (((a+j:Nat):Int)<((a+k:Nat):Int))=false:=by simp;omega
    have hn0:r1=[]:=List.length_eq_zero_iff.1 (by omega)
    have R:=And.intro @hc1 (And.intro @hc2 (And.intro @bg @J))
    repeat' ((first
     |(with_reducible refine .guard (fun hb =>?_) (fun hb =>?_) <;>try simp only[hb])
     |refine U.aW (by decide +kernel) rfl fun K hK =>?_
     |(refine .aO [0,1,2,3,4,10,11,12,13,14,15,16,17,18,19,20,21,22,23,24,28,33,50,58,80,85,103,110,140,151,171,185,199,213] hK ?_;clear hK K)
     |(with_reducible refine .done (hK _ ?_);clear hK K)
     |refine U.of rfl ?_
     |(with_reducible refine ar.aU (fun h =>?_) (fun h =>?_) <;>try simp only[h])) <;>try simp only[aX,R,Nat.reduceEqDiff,reduceIte,Nat.reduceBEq])
    all_goals clear R
    refine ⟨l1++r1,⟨.refl _,by rw[hn0,List.append_nil];exact sl1⟩,?_⟩
    have e5:p++l1++r1++(l2++dR++q)=p++(l1++r1)++l2++dR++q:=by simp only[List.append_assoc]
    rw[e5]
    refine aE.c5 ?_ (fun n=>rfl)
    simp[aT,aV]
  ·have hc1:decide ((a:Int)<((a+j:Nat):Int))=false:=by simp;omega
   have hn0:l1=[]:=List.length_eq_zero_iff.1 (by omega)
   have R:=And.intro @hc1 (And.intro @bg @J)
   repeat' ((first
    |(with_reducible refine .guard (fun hb =>?_) (fun hb =>?_) <;>try simp only[hb])
    |refine U.aW (by decide +kernel) rfl fun K hK =>?_
    |(refine .aO [0,1,2,3,4,10,11,12,13,14,15,16,17,18,19,20,21,22,23,24,28,33,50,58,80,85,103,110,140,151,171,185,199,213] hK ?_;clear hK K)
    |(with_reducible refine .done (hK _ ?_);clear hK K)
    |refine U.of rfl ?_
    |(with_reducible refine ar.aU (fun h =>?_) (fun h =>?_) <;>try simp only[h])) <;>try simp only[aX,R,Nat.reduceEqDiff,reduceIte,Nat.reduceBEq])
   all_goals clear R
   refine ⟨l1++r1,⟨.refl _,by rw[hn0,List.nil_append];exact sr1⟩,?_⟩
   have e5:p++l1++r1++(l2++dR++q)=p++(l1++r1)++l2++dR++q:=by simp only[List.append_assoc]
   rw[e5]
   refine aE.c5 ?_ (fun n=>rfl)
   simp[aT,aV]
 -- the upper half
 obtain ⟨k1,k2⟩:=hC
 have ls1:s1.length=k:=by rw[k1.length_eq,List.length_append];omega
 have done:∀ s2,s2.Perm (l2++dR)→db el s2→∀ ts ws',ws'=p++s1++s2++q→kP [] (mE el p (l++r) q) (au ts (cv 1000000 ws')):=fun s2 k3 k4 ts ws' he=>by
  obtain ⟨j1,j2⟩:=ahi hcr (hl1e▸hr1e▸k1) (hl2e▸hr2e▸k3) k2 k4
  exact ng rfl (he.trans (by simp only[List.append_assoc])) ⟨rfl,s1++s2,j1,j2,rfl⟩
 by_cases h1:j<l.length
 ·have hc1:decide (((a+k:Nat):Int)<((m+(k-j):Nat):Int))=true:=by simp;omega
  by_cases h2:k-j<r.length
  ·have hc2:decide (((m+(k-j):Nat):Int)<(b:Int))=true:=by simp;omega
   have hrec:=ih (p++s1) l2 dR q (a+k) (m+(k-j)) b n (by omega) (by omega) (by omega) (by rw[List.length_append];omega) (by omega) (by omega) hn (by simp only[List.length_append];omega) hn1 sl2 sr2 (fun x hx y hy=>hlr x (ml2 x hx) y (mr2 y hy)) (fun x hx=>hin x (by
    rcases List.mem_append.1 hx with h | h
    ·exact List.mem_append.2 (.inl (ml2 x h))
    ·exact List.mem_append.2 (.inr (mr2 x h))))
   have R:=And.intro @hc1 (And.intro @hc2 (And.intro @bg @J))
   repeat' ((first
    |(with_reducible refine .guard (fun hb =>?_) (fun hb =>?_) <;>try simp only[hb])
    |refine U.aW (by decide +kernel) rfl fun K hK =>?_
    |(refine .aO [0,1,2,3,4,10,11,12,13,14,15,16,17,18,19,20,21,22,23,24,28,33,50,58,80,85,103,110,140,151,171,185,199,213] hK ?_;clear hK K)
    |(with_reducible refine .done (hK _ ?_);clear hK K)
    |refine U.of rfl ?_
    |(with_reducible refine ar.aU (fun h =>?_) (fun h =>?_) <;>try simp only[h])) <;>try simp only[aX,R,Nat.reduceEqDiff,reduceIte,Nat.reduceBEq])
   all_goals clear R
   refine a7.kH hrec (kg _ n 138 [.ref (enc el)] (by simp[I.bT,I.bl,dT]) [_,_,_]) ?_
   rintro eW os' ⟨rfl,s2,k3,k4,rfl⟩
   refine ⟨_,rfl,rfl,?_⟩
   try simp only[J]
   refine .done (hK _ ?_)
   clear hK K
   rw[lF]
   exact done s2 k3 k4 _ _ rfl
  ·have hc2:decide (((m+(k-j):Nat):Int)<(b:Int))=false:=by simp;omega
   have hn0:dR=[]:=List.length_eq_zero_iff.1 (by omega)
   have R:=And.intro @hc1 (And.intro @hc2 (And.intro @bg @J))
   repeat' ((first
    |(with_reducible refine .guard (fun hb =>?_) (fun hb =>?_) <;>try simp only[hb])
    |refine U.aW (by decide +kernel) rfl fun K hK =>?_
    |(refine .aO [0,1,2,3,4,10,11,12,13,14,15,16,17,18,19,20,21,22,23,24,28,33,50,58,80,85,103,110,140,151,171,185,199,213] hK ?_;clear hK K)
    |(with_reducible refine .done (hK _ ?_);clear hK K)
    |refine U.of rfl ?_
    |(with_reducible refine ar.aU (fun h =>?_) (fun h =>?_) <;>try simp only[h])) <;>try simp only[aX,R,Nat.reduceEqDiff,reduceIte,Nat.reduceBEq])
   all_goals clear R
   rw[lF]
   exact done (l2++dR) (.refl _) (by rw[hn0,List.append_nil];exact sl2) _ (p++s1++l2++dR++q) (by simp only[List.append_assoc])
 ·have hc1:decide (((a+k:Nat):Int)<((m+(k-j):Nat):Int))=false:=by simp;omega
  have hn0:l2=[]:=List.length_eq_zero_iff.1 (by omega)
  have R:=And.intro @hc1 (And.intro @bg @J)
  repeat' ((first
   |(with_reducible refine .guard (fun hb =>?_) (fun hb =>?_) <;>try simp only[hb])
   |refine U.aW (by decide +kernel) rfl fun K hK =>?_
   |(refine .aO [0,1,2,3,4,10,11,12,13,14,15,16,17,18,19,20,21,22,23,24,28,33,50,58,80,85,103,110,140,151,171,185,199,213] hK ?_;clear hK K)
   |(with_reducible refine .done (hK _ ?_);clear hK K)
   |refine U.of rfl ?_
   |(with_reducible refine ar.aU (fun h =>?_) (fun h =>?_) <;>try simp only[h])) <;>try simp only[aX,R,Nat.reduceEqDiff,reduceIte,Nat.reduceBEq])
  all_goals clear R
  rw[lF]
  exact done (l2++dR) (.refl _) (by rw[hn0,List.nil_append];exact sr2) _ (p++s1++l2++dR++q) (by simp only[List.append_assoc])
theorem yI(el:List ay)(hd:lU el)(hel:el.length≤60):∀ (N:Nat) (p l r q:List Int) (a m b n:Nat),l.length+r.length≤N→0<l.length→0<r.length→p.length=a→a+l.length=m→m+r.length=b→b≤n→n≤(p++l++r++q).length→n≤1000→db el l→db el r→(∀ x∈l,∀ y∈r,x<y)→(∀ x∈l++r,jc el x) →
  cD Tryz.prog 204 [.view 1000000 [] 1 0 n,enc (a:Int),enc (m:Int),enc (b:Int),.func 138 [.ref (enc el)]] (cv 1000000 (p++l++r++q)) (mE el p (l++r) q):=by
 intro N
 induction N with
 |zero=>intro p l r q a m b n h1 h2;omega
 |succ N ih =>
  intro p l r q a m b n hN hl0 hr0 ha hm hb hn hnl hn1 hsl hsr hlr hin
  by_cases hl1:l.length=1
  ·exact NV el hd hel p l r q a m b n hl0 hr0 ha hm hb hn hnl hn1 hsl hsr hlr hin hl1
  by_cases hr1:r.length=1
  ·exact NW el hd hel p l r q a m b n hl0 hr0 ha hm hb hn hnl hn1 hsl hsr hlr hin hl1 hr1
  ·exact NX el hd hel N ih p l r q a m b n hl0 hr0 ha hm hb hn hnl hn1 hsl hsr hlr hin hN hl1 hr1
def dv(ws:List Int)(bs t:Nat):List Int:=(ws.drop (t*bs)).take bs
theorem Br(ws:List Int)(bs u:Nat):dv ws (2*bs) u=dv ws bs (2*u)++dv ws bs (2*u+1):=by
 simp only[dv]
 rw[show 2*bs=bs+bs by omega,List.take_add,List.drop_drop]
 have e1:u*(bs+bs)=2*u*bs:=by rw[Nat.mul_add,show 2*u=u+u by omega,Nat.add_mul]
 have e2:2*u*bs+bs=(2*u+1)*bs:=by rw[Nat.add_mul];omega
 rw[e1,e2]
def lO(el:List ay)(bs:Nat)(o d:List Int):Prop:=o.length=d.length∧∀ t,(dv d bs t).Perm (dv o bs t)∧db el (dv d bs t)
theorem yR(el:List ay)(bs:Nat):lO el bs [] []:=⟨rfl,fun t=>by simp[dv,db]⟩
theorem Bq{o b:List Int}{bs t t':Nat}(ho:o.length=t*bs)(hb:b.length≤bs):dv (o++b) bs t'=if t'<t then dv o bs t' else if t'=t then b else []:=by
 simp only[dv]
 by_cases h1:t'<t
 ·rw[if_pos h1]
  have h2:(t'+1)*bs≤t*bs:=Nat.mul_le_mul_right _ h1
  rw[Nat.add_mul,Nat.one_mul] at h2
  rw[List.drop_append_of_le_length (by omega),List.take_append_of_le_length (by rw[List.length_drop];omega)]
 ·rw[if_neg h1]
  by_cases h2:t'=t
  ·subst h2
   rw[if_pos rfl,←ho,List.drop_left,List.take_of_length_le hb]
  ·rw[if_neg h2]
   have h3:(t+1)*bs≤t'*bs:=Nat.mul_le_mul_right _ (by omega)
   rw[Nat.add_mul,Nat.one_mul] at h3
   rw[List.drop_eq_nil_of_le (by rw[List.length_append];omega)]
   exact List.take_nil
theorem rB{el:List ay}{bs t:Nat}{o d b b':List Int}(h:lO el bs o d)(ho:o.length=t*bs)(hp:b'.Perm b)(hs:db el b')(hl:b.length≤bs):lO el bs (o++b) (d++b'):=by
 refine ⟨by rw[List.length_append,List.length_append,h.1,hp.length_eq],fun t' =>?_⟩
 rw[Bq (by rw[←h.1];exact ho) (by rw[hp.length_eq];exact hl),Bq ho hl]
 split
 ·exact h.2 t'
 ·split
  ·exact ⟨hp,hs⟩
  ·exact ⟨.refl _,List.Pairwise.nil⟩
theorem Ou{el:List ay}{bs:Nat}{o d:List Int}(h:lO el bs o d)(hn:o.length≤bs):d.Perm o∧db el d:=by
 have:=h.2 0
 simp only[dv,Nat.zero_mul,List.drop_zero] at this
 rw[List.take_of_length_le (by rw[←h.1];exact hn),List.take_of_length_le hn] at this
 exact this
theorem S3{xs:List Int}(hx:xs.Pairwise (· < ·))(bs u:Nat):∀ x∈dv xs bs (2*u),∀ y∈dv xs bs (2*u+1),x<y:=by
 have h:(dv xs (2*bs) u).Pairwise (· < ·):=(hx.sublist (List.drop_sublist _ _)).sublist (List.take_sublist _ _)
 rw[Br,List.pairwise_append] at h
 exact h.2.2
theorem uz{xs:List Int}{bs t:Nat}{x:Int}(h:x∈dv xs bs t):x∈xs:=List.mem_of_mem_drop (List.mem_of_mem_take h)
theorem MK(xs:List Int)(bs t:Nat):xs.take ((t+1)*bs)=xs.take (t*bs)++dv xs bs t:=by
 rw[Nat.add_mul,Nat.one_mul,List.take_add];rfl
theorem p8(xs:List Int)(bs t:Nat):xs.drop (t*bs)=dv xs bs t++xs.drop ((t+1)*bs):=by
 simp only[dv]
 rw[Nat.add_mul,Nat.one_mul,←List.drop_drop,List.take_append_drop]
theorem p7{xs:List Int}{bs t:Nat}(h:(t+1)*bs≤xs.length):(dv xs bs t).length=bs:=by
 rw[Nat.add_mul,Nat.one_mul] at h
 simp only[dv,List.length_take,List.length_drop];omega
theorem ahV{x:Nat}(h:x<1000000):IntKind.i64.wrap (2*(x:Int))=((2*x:Nat):Int):=by rw[cA _ (by omega) (by omega)];omega
theorem ahW{x:Nat}(h:x<1000000):IntKind.i64.wrap ((x:Int)*2)=((2*x:Nat):Int):=by rw[cA _ (by omega) (by omega)];omega
theorem IK{i n:Nat}(h:i≤n):decide ((i:Int)≤(n:Int))=true:=by simp;omega
theorem Jh{i n:Nat}(h:¬ i≤n):decide ((i:Int)≤(n:Int))=false:=by simp;omega
structure Ow where
 bs:Nat
 d:List Int
theorem NF(el:List ay)(hd:lU el)(hel:el.length≤60)(xs q:List Int)(hx:xs.Pairwise (· < ·))(hS:∀ x∈xs,jc el x)(hn:xs.length≤60) :
  cD Tryz.prog 171 [.view 1000000 [] 1 0 xs.length,enc (xs.length:Int),.func 138 [.ref (enc el)]] (cv 1000000 (xs++q)) (mE el [] xs q):=by
 refine cD.bu Tryz.func171 Be Bm Bz (Nat.le_of_ble_eq_true rfl) (Nat.le_of_ble_eq_true rfl) nj (fun hwf W0 D0 E1 =>?_)
 simp only[uj,xD,bp,Nat.zero_add,Nat.reduceAdd]
 clear hwf
 have hcl:I.bT [.ref (enc el)]=true:=by simp[I.bT,I.bl,dT]
 refine .ak (by decide +kernel) fun K hK =>?_
 simp only[vv,J,simprocAttr]
 refine .done (hK _ ?_);clear hK K
 refine .ak (by decide +kernel) fun K hK =>?_
 simp only[vw,J,simprocAttr]
 refine .done (hK _ ?_);clear hK K
 -- blocks of twenty
 refine U.seq (U.block (U.loop (fun s:Nat×List Int=>au [(0,.view 1000000 [] 1 0 xs.length),(1,.int .i64 xs.length),(2,.func 138 [.ref (enc el)]),(6,.int .i64 20),(7,.int .i64 ((s.1*20:Nat):Int)),(8,.int .i64 (((s.1+1)*20:Nat):Int))] (cv 1000000 (s.2++xs.drop (s.1*20)++q)))
  (fun s=>s.1*20≤xs.length∧lO el 20 (xs.take (s.1*20)) s.2) (fun s=>xs.length-s.1*20) (0,[]) ⟨Nat.zero_le _,yR el 20⟩ ?_ ?_))
 ·refine aE.c5 ?_ (fun n=>rfl)
  simp[aT,aV]
 rintro ⟨t,d⟩ ⟨g1,g2⟩
 simp only at g1 g2 ⊢
 have ht:(xs.take (t*20)).length=t*20:=by rw[List.length_take];omega
 have hdl:d.length=t*20:=by rw[←g2.1,ht]
 by_cases hb:(t+1)*20≤xs.length
 ·have hc:=IK hb
  have w1:IntKind.i64.wrap ((((t+1)*20:Nat):Int)+20)=(((t+1+1)*20:Nat):Int):=by rw[cA _ (by omega) (by omega)];omega
  have hcl2:=p7 hb
  have hins:=yH el hd hel d (dv xs 20 t) (xs.drop ((t+1)*20)++q) (t*20) ((t+1)*20) xs.length hdl (by omega) hb (by simp only[List.length_append,List.length_drop];omega) (by omega) ((hx.sublist (List.drop_sublist _ _)).sublist (List.take_sublist _ _)) (fun x hx=>hS x (uz hx))
  have e1:d++dv xs 20 t++(xs.drop ((t+1)*20)++q)=d++xs.drop (t*20)++q:=by rw[p8 xs 20 t];simp only[List.append_assoc]
  rw[e1] at hins
  have R:=And.intro @hc (And.intro @bg @J)
  repeat' ((first
   |(with_reducible refine .guard (fun hb =>?_) (fun hb =>?_) <;>try simp only[hb])
   |refine U.aW (by decide +kernel) rfl fun K hK =>?_
   |(refine .aO [0,1,2,6,7,8,9,13,30,35,54] hK ?_;clear hK K)
   |(with_reducible refine .done (hK _ ?_);clear hK K)
   |refine U.of rfl ?_
   |(with_reducible refine ar.aU (fun h =>?_) (fun h =>?_) <;>try simp only[h])) <;>try simp only[aX,R,simprocAttr])
  all_goals clear R
  refine a7.kH hins (kg _ xs.length 138 [.ref (enc el)] hcl [_,_]) ?_
  rintro eW os' ⟨rfl,s',k1,k2,rfl⟩
  refine ⟨_,rfl,rfl,?_⟩
  try simp only[J,simprocAttr]
  refine .done (hK _ ?_);clear hK K
  have R:=And.intro @w1 (And.intro @bg @J)
  repeat' ((first
   |(with_reducible refine .guard (fun hb =>?_) (fun hb =>?_) <;>try simp only[hb])
   |refine U.aW (by decide +kernel) rfl fun K hK =>?_
   |(refine .aO [0,1,2,6,7,8,9,13,30,35,54] hK ?_;clear hK K)
   |(with_reducible refine .done (hK _ ?_);clear hK K)
   |refine U.of rfl ?_
   |(with_reducible refine ar.aU (fun h =>?_) (fun h =>?_) <;>try simp only[h])) <;>try simp only[aX,R,simprocAttr])
  all_goals clear R
  refine ⟨(t+1,d++s'),⟨hb,?_⟩,by simp only;omega,?_⟩
  ·simp only
   rw[MK]
   exact rB g2 ht k1 k2 (by omega)
  ·simp only[←List.append_assoc]
   refine aE.c5 ?_ (fun n=>rfl)
   simp[aT,aV]
 have hc:=Jh hb
 refine U.seq (U.seq ?_)
 refine .bj (by decide +kernel) fun K hK =>?_
 simp only[EV,J,simprocAttr]
 try simp only[hc,simprocAttr]
 refine .done (hK _ ?_);clear hK K;try simp only[ao]
 refine U.bD ?_
 simp only[ar,J,simprocAttr]
 refine ⟨fun h =>?_,fun h =>?_⟩
 ·cases h
 refine U.exit ?_;try simp only[ao,bH,simprocAttr]
 -- what is left
 have hins:=yH el hd hel d (xs.drop (t*20)) q (t*20) xs.length xs.length hdl (by rw[List.length_drop];omega) (Nat.le_refl _) (by simp only[List.length_append,List.length_drop];omega) (by omega) (hx.sublist (List.drop_sublist _ _)) (fun x hx=>hS x (List.mem_of_mem_drop hx))
 refine .ak (by decide +kernel) fun K hK =>?_
 simp only[EW,J,simprocAttr]
 refine a7.kH hins (kg _ xs.length 138 [.ref (enc el)] hcl [_,_]) ?_
 rintro eW os' ⟨rfl,s',k1,k2,rfl⟩
 refine ⟨_,rfl,rfl,?_⟩
 try simp only[J,simprocAttr]
 refine .done (hK _ ?_);clear hK K
 have hSB:lO el 20 xs (d++s'):=by
  have:=rB g2 ht k1 k2 (by rw[List.length_drop];omega)
  rwa [List.take_append_drop] at this
 clear k1 k2 hins g2 ht hdl hb hc g1
 generalize d++s'=d0 at hSB ⊢
 -- blocks are merged
 refine U.block (U.loop (fun s:Ow=>au [(0,.view 1000000 [] 1 0 xs.length),(1,.int .i64 xs.length),(2,.func 138 [.ref (enc el)]),(6,.int .i64 s.bs)] (cv 1000000 (s.d++q))) (fun s=>20≤s.bs∧s.bs≤120∧lO el s.bs xs s.d) (fun s=>200-s.bs) ⟨20,d0⟩ ⟨Nat.le_refl _,(by show 20≤120;omega),hSB⟩ ?_ ?_)
 ·refine aE.c5 ?_ (fun n=>rfl)
  simp[aT,aV]
 rintro ⟨bs,d1⟩ ⟨g1,g2,g3⟩
 simp only at g1 g2 g3 ⊢
 have hdl:=g3.1
 by_cases hb:bs<xs.length
 case neg =>
  have hc:=jx hb
  refine U.seq (U.seq ?_)
  refine .bj (by decide +kernel) fun K hK =>?_
  simp only[vx,J,simprocAttr]
  try simp only[hc,simprocAttr]
  refine .done (hK _ ?_);clear hK K;try simp only[ao]
  refine U.bD ?_
  simp only[ar,J,simprocAttr]
  refine ⟨fun h =>?_,fun h =>?_⟩
  ·cases h
  refine U.exit ?_;try simp only[ao,bH,simprocAttr]
  rw[lF]
  obtain ⟨k1,k2⟩:=Ou g3 (by omega)
  exact ng rfl rfl ⟨rfl,d1,k1,k2,rfl⟩
 have hc:=iI hb
 have w1:=ahV (x:=bs) (by omega)
 refine U.seq (U.seq ?_)
 refine .bj (by decide +kernel) fun K hK =>?_
 simp only[vx,J,simprocAttr]
 try simp only[hc,simprocAttr]
 refine .done (hK _ ?_);clear hK K;try simp only[ao]
 refine U.bD ?_
 simp only[ar,J,simprocAttr]
 refine ⟨fun h =>?_,fun h =>?_⟩
 rotate_left
 ·cases h
 refine U.skip ?_;try simp only[ao,simprocAttr]
 refine U.block (U.seq ?_)
 refine .bj (by decide +kernel) fun K hK =>?_
 simp only[EX,J,simprocAttr]
 try simp only[w1,simprocAttr]
 refine .done (hK _ ?_);clear hK K;try simp only[ao]
 refine U.seq (U.block (U.loop (fun s:Nat×List Int=>au [(0,.view 1000000 [] 1 0 xs.length),(1,.int .i64 xs.length),(2,.func 138 [.ref (enc el)]),(6,.int .i64 bs),(7,.int .i64 ((s.1*(2*bs):Nat):Int)),(8,.int .i64 (((s.1+1)*(2*bs):Nat):Int))] (cv 1000000 (s.2++d1.drop (s.1*(2*bs))++q)))
  (fun s=>s.1*(2*bs)≤xs.length∧lO el (2*bs) (xs.take (s.1*(2*bs))) s.2) (fun s=>xs.length-s.1*(2*bs)) (0,[]) ⟨by simp,by simp only[Nat.zero_mul,List.take_zero];exact yR el _⟩ ?_ ?_))
 ·simp only[Nat.zero_mul,Nat.zero_add,Nat.one_mul,List.drop_zero,List.nil_append]
  refine aE.c5 ?_ (fun n=>rfl)
  simp[aT,aV]
 rintro ⟨u,e⟩ ⟨q1,q2⟩
 simp only at q1 q2 ⊢
 obtain ⟨A,hA⟩:∃ A,A=u*(2*bs):=⟨_,rfl⟩
 have hA1:(u+1)*(2*bs)=A+2*bs:=by rw[hA,Nat.add_mul];omega
 have hA2:2*u*bs=A:=by rw[hA,Nat.mul_comm 2 u,Nat.mul_assoc]
 have hA3:(2*u+1)*bs=A+bs:=by rw[Nat.add_mul,hA2];omega
 have hA4:(2*u+1+1)*bs=A+2*bs:=by rw[Nat.add_mul,hA3];omega
 have ht:(xs.take A).length=A:=by rw[List.length_take,hA];omega
 have hel2:e.length=A:=by rw[←q2.1,←hA,ht]
 obtain ⟨kl1,kl2⟩:=g3.2 (2*u)
 obtain ⟨kr1,kr2⟩:=g3.2 (2*u+1)
 have hlt2:=S3 hx bs u
 have hd2:d1.drop A=dv d1 bs (2*u)++d1.drop (A+bs):=by
  have:=p8 d1 bs (2*u)
  rwa [hA2,hA3] at this
 have hd3:d1.drop (A+bs)=dv d1 bs (2*u+1)++d1.drop (A+2*bs):=by
  have:=p8 d1 bs (2*u+1)
  rwa [hA3,hA4] at this
 have hlr:∀ x∈dv d1 bs (2*u),∀ y∈dv d1 bs (2*u+1),x<y:=fun x h1 y h2=>hlt2 x (kl1.mem_iff.1 h1) y (kr1.mem_iff.1 h2)
 have hin:∀ x∈dv d1 bs (2*u)++dv d1 bs (2*u+1),jc el x:=fun x h1=>by
  rcases List.mem_append.1 h1 with h1 | h1
  ·exact hS x (uz (kl1.mem_iff.1 h1))
  ·exact hS x (uz (kr1.mem_iff.1 h1))
 rw[hA1]
 rw[←hA] at q1 q2 ⊢
 by_cases hb2:A+2*bs≤xs.length
 ·have hc2:=IK hb2
  have w2:=kb A bs (by omega)
  have w3:IntKind.i64.wrap (((A+2*bs:Nat):Int)+((2*bs:Nat):Int))=((A+2*bs+2*bs:Nat):Int):=kb _ _ (by omega)
  have ll:(dv d1 bs (2*u)).length=bs:=p7 (by rw[hA3];omega)
  have lr:(dv d1 bs (2*u+1)).length=bs:=p7 (by rw[hA4];omega)
  have hm:=yI el hd hel _ e (dv d1 bs (2*u)) (dv d1 bs (2*u+1)) (d1.drop (A+2*bs)++q) A (A+bs) (A+2*bs) xs.length (Nat.le_refl _) (by omega) (by omega) hel2 (by omega) (by omega) hb2 (by simp only[List.length_append,List.length_drop];omega) (by omega) kl2 kr2 hlr hin
  have e1:e++dv d1 bs (2*u)++dv d1 bs (2*u+1)++(d1.drop (A+2*bs)++q)=e++d1.drop A++q:=by rw[hd2,hd3];simp only[List.append_assoc]
  rw[e1] at hm
  have R:=And.intro @hc2 (And.intro @w2 (And.intro @bg @J))
  repeat' ((first
   |(with_reducible refine .guard (fun hb =>?_) (fun hb =>?_) <;>try simp only[hb])
   |refine U.aW (by decide +kernel) rfl fun K hK =>?_
   |(refine .aO [0,1,2,6,7,8,9,13,30,35,54] hK ?_;clear hK K)
   |(with_reducible refine .done (hK _ ?_);clear hK K)
   |refine U.of rfl ?_
   |(with_reducible refine ar.aU (fun h =>?_) (fun h =>?_) <;>try simp only[h])) <;>try simp only[aX,R,simprocAttr])
  all_goals clear R
  refine a7.kH hm (kg _ xs.length 138 [.ref (enc el)] hcl [_,_,_]) ?_
  rintro eW os' ⟨rfl,s',k1,k2,rfl⟩
  refine ⟨_,rfl,rfl,?_⟩
  try simp only[J,simprocAttr]
  refine .done (hK _ ?_);clear hK K;try simp only[ao]
  have R:=And.intro @w1 (And.intro @w3 (And.intro @bg @J))
  repeat' ((first
   |(with_reducible refine .guard (fun hb =>?_) (fun hb =>?_) <;>try simp only[hb])
   |refine U.aW (by decide +kernel) rfl fun K hK =>?_
   |(refine .aO [0,1,2,6,7,8,9,13,30,35,54] hK ?_;clear hK K)
   |(with_reducible refine .done (hK _ ?_);clear hK K)
   |refine U.of rfl ?_
   |(with_reducible refine ar.aU (fun h =>?_) (fun h =>?_) <;>try simp only[h])) <;>try simp only[aX,R,simprocAttr])
  all_goals clear R
  refine ⟨(u+1,e++s'),⟨by simp only;omega,?_⟩,by simp only;omega,?_⟩
  ·simp only
   rw[MK,←hA]
   refine rB q2 (ht.trans hA) (k1.trans ?_) k2 (by rw[p7 (by omega)];omega)
   rw[Br]
   exact kl1.append kr1
  ·have e2:(u+1+1)*(2*bs)=A+2*bs+2*bs:=by rw[Nat.add_mul,hA1];omega
   simp only[hA1,e2,←List.append_assoc]
   refine aE.c5 ?_ (fun n=>rfl)
   simp[aT,aV]
 have hc2:=Jh hb2
 refine U.seq (U.seq ?_)
 refine .bj (by decide +kernel) fun K hK =>?_
 simp only[EY,J,simprocAttr]
 try simp only[hc2,simprocAttr]
 refine .done (hK _ ?_);clear hK K;try simp only[ao]
 refine U.bD ?_
 simp only[ar,J,simprocAttr]
 refine ⟨fun h =>?_,fun h =>?_⟩
 ·cases h
 refine U.exit ?_;try simp only[ao,bH,simprocAttr]
 have w2:=kb A bs (by omega)
 have w4:=ahW (x:=bs) (by omega)
 have a6:∀ s',s'.Perm (xs.drop A)→db el s'→lO el (2*bs) xs (e++s'):=fun s' k1 k2=>by
  have:=rB q2 (ht.trans hA) k1 k2 (by rw[List.length_drop];omega)
  rwa [List.take_append_drop] at this
 have hx1:xs.drop A=dv xs bs (2*u)++xs.drop (A+bs):=by
  have:=p8 xs bs (2*u)
  rwa [hA2,hA3] at this
 have hx2:xs.drop (A+bs)=dv xs bs (2*u+1)++xs.drop (A+2*bs):=by
  have:=p8 xs bs (2*u+1)
  rwa [hA3,hA4] at this
 by_cases hb3:A+bs<xs.length
 ·have hc3:=iI hb3
  have ll:(dv d1 bs (2*u)).length=bs:=p7 (by rw[hA3];omega)
  have hdn:d1.drop (A+2*bs)=[]:=List.drop_eq_nil_of_le (by omega)
  have hxn:xs.drop (A+2*bs)=[]:=List.drop_eq_nil_of_le (by omega)
  have lr:(dv d1 bs (2*u+1)).length=xs.length-(A+bs):=by
   have:=congrArg List.length hd3
   rw[hdn,List.append_nil,List.length_drop] at this
   omega
  have hm:=yI el hd hel _ e (dv d1 bs (2*u)) (dv d1 bs (2*u+1)) q A (A+bs) xs.length xs.length (Nat.le_refl _) (by omega) (by omega) hel2 (by omega) (by omega) (Nat.le_refl _) (by simp only[List.length_append];omega) (by omega) kl2 kr2 hlr hin
  have e1:e++dv d1 bs (2*u)++dv d1 bs (2*u+1)++q=e++d1.drop A++q:=by rw[hd2,hd3,hdn];simp only[List.append_assoc,List.append_nil]
  rw[e1] at hm
  have R:=And.intro @hc3 (And.intro @w2 (And.intro @bg @J))
  repeat' ((first
   |(with_reducible refine .guard (fun hb =>?_) (fun hb =>?_) <;>try simp only[hb])
   |refine U.aW (by decide +kernel) rfl fun K hK =>?_
   |(refine .aO [0,1,2,6,7,8,9,13,30,35,54] hK ?_;clear hK K)
   |(with_reducible refine .done (hK _ ?_);clear hK K)
   |refine U.of rfl ?_
   |(with_reducible refine ar.aU (fun h =>?_) (fun h =>?_) <;>try simp only[h])) <;>try simp only[aX,R,simprocAttr])
  all_goals clear R
  refine a7.kH hm (kg _ xs.length 138 [.ref (enc el)] hcl [_,_,_]) ?_
  rintro eW os' ⟨rfl,s',k1,k2,rfl⟩
  refine ⟨_,rfl,rfl,?_⟩
  try simp only[J,simprocAttr]
  refine .done (hK _ ?_);clear hK K;try simp only[ao]
  have R:=And.intro @w4 (And.intro @bg @J)
  repeat' ((first
   |(with_reducible refine .guard (fun hb =>?_) (fun hb =>?_) <;>try simp only[hb])
   |refine U.aW (by decide +kernel) rfl fun K hK =>?_
   |(refine .aO [0,1,2,6,7,8,9,13,30,35,54] hK ?_;clear hK K)
   |(with_reducible refine .done (hK _ ?_);clear hK K)
   |refine U.of rfl ?_
   |(with_reducible refine ar.aU (fun h =>?_) (fun h =>?_) <;>try simp only[h])) <;>try simp only[aX,R,simprocAttr])
  all_goals clear R
  refine ⟨⟨2*bs,e++s'⟩,⟨by simp only;omega,by simp only;omega,a6 s' (k1.trans ?_) k2⟩,by simp only;omega,?_⟩
  ·rw[hx1,hx2,hxn,List.append_nil]
   exact kl1.append kr1
  ·refine aE.c5 ?_ (fun n=>rfl)
   simp[aT,aV]
 ·have hc3:=jx hb3
  have hdn:d1.drop (A+bs)=[]:=List.drop_eq_nil_of_le (by omega)
  have hxn:xs.drop (A+bs)=[]:=List.drop_eq_nil_of_le (by omega)
  rw[hdn,List.append_nil] at hd2
  rw[hxn,List.append_nil] at hx1
  have R:=And.intro @hc3 (And.intro @w2 (And.intro @w4 (And.intro @bg @J)))
  repeat' ((first
   |(with_reducible refine .guard (fun hb =>?_) (fun hb =>?_) <;>try simp only[hb])
   |refine U.aW (by decide +kernel) rfl fun K hK =>?_
   |(refine .aO [0,1,2,6,7,8,9,13,30,35,54] hK ?_;clear hK K)
   |(with_reducible refine .done (hK _ ?_);clear hK K)
   |refine U.of rfl ?_
   |(with_reducible refine ar.aU (fun h =>?_) (fun h =>?_) <;>try simp only[h])) <;>try simp only[aX,R,simprocAttr])
  all_goals clear R
  refine ⟨⟨2*bs,e++d1.drop A⟩,⟨by simp only;omega,by simp only;omega,a6 _ (by rw[hd2,hx1];exact kl1) (by rw[hd2];exact kl2)⟩,by simp only;omega,?_⟩
  refine aE.c5 ?_ (fun n=>rfl)
  simp[aT,aV]
theorem Nk(el:List ay)(hd:lU el)(hel:el.length≤60)(xs q:List Int)(hx:xs.Pairwise (· < ·))(hS:∀ x∈xs,jc el x)(hn:xs.length≤60) :
  cD Tryz.prog 137 [.view 1000000 [] 1 0 xs.length,.func 138 [.ref (enc el)]] (cv 1000000 (xs++q)) (mE el [] xs q):=by
 refine cD.bu Tryz.func137 Bc Bl By (Nat.le_of_ble_eq_true rfl) (Nat.le_of_ble_eq_true rfl) nj (fun hwf W0 D0 E1 =>?_)
 simp only[ui,xC,bp,Nat.zero_add]
 clear hwf
 refine .bj (by decide +kernel) fun K hK =>?_
 simp only[Dz,J,simprocAttr]
 try simp only[eB,J,simprocAttr]
 refine a7.kH (NF el hd hel xs q hx hS hn) (kg _ xs.length 138 [.ref (enc el)] (by simp[I.bT,I.bl,dT]) [_]) ?_
 rintro eW os' ⟨rfl,s',k1,k2,rfl⟩
 refine ⟨_,rfl,rfl,?_⟩
 try simp only[J,simprocAttr]
 refine .done (hK _ ?_)
 clear hK K
 rw[lF]
 exact ng rfl rfl ⟨rfl,s',k1,k2,rfl⟩
def iT(l:List ay)(day:Int)(xs:List Int):List (Nat×ah):=[(1000008,.box (.own 1000080 xs.length)),(1000080,.cO 3 xs),(1000003,.box (enc l)),(1000004,.box (enc day))]
theorem ahr(l:List ay)(day:Int)(xs ys:List Int):fh (iT l day xs) (iT l day ys):=by
 refine ⟨fun n=>by simp only[iT,al,aj];(repeat' split) <;>rfl,fun n x h =>?_,fun n h =>?_⟩
 ·simp only[iT,aj] at h
  repeat' split at h
  all_goals first | (cases h;done) | (simp only[Option.some.injEq] at h;subst h;exact ⟨by simp[iT,al,aj,ah.only,bt,I.only],rfl⟩)
 ·simp only[iT,al,aj] at h
  repeat' split at h
  all_goals first | omega | (simp at h;done)
def qq(l:List ay)(day:Int)(i:Nat):Bool:=decide ((ae l i).kind≠0)&&decide ((ae l i).day≤day)
def lb(l:List ay)(day known:Int)(k:Nat):List Nat:=((gT l known).take k).filter (qq l day)
theorem Wg{l:List ay}{day known:Int}{k:Nat}(hk:k<(gT l known).length):lb l day known (k+1)=lb l day known k++(if qq l day ((gT l known).getD k 0) then [(gT l known).getD k 0] else []):=by
 have e:(gT l known).getD k 0=(gT l known)[k]:=by rw[List.getD_eq_getElem?_getD,List.getElem?_eq_getElem hk];rfl
 simp only[lb]
 rw[List.take_succ_eq_append_getElem hk,List.filter_append,e]
 simp only[List.filter_cons,List.filter_nil]
theorem We(l:List ay)(day known:Int):lb l day known (gT l known).length=jQ l day known:=by
 simp only[lb,List.take_length];rfl
theorem Wf(l:List ay)(day known:Int)(k:Nat):(lb l day known k).length≤l.length:=by
 have h1:=List.length_filter_le (qq l day) ((gT l known).take k)
 have h2:((gT l known).take k).length≤(gT l known).length:=by rw[List.length_take];omega
 have h3:(gT l known).length≤l.length:=by
  have:=List.length_filter_le (fun i=>(kK l known).getD i false) (List.range l.length)
  rwa [List.length_range] at this
 exact Nat.le_trans h1 (Nat.le_trans h2 h3)
theorem ahq:(∀ (A:ab) n b m k m' k' rest,dS A none n [] b (.own m k) rest (some (.own m' k'))=az rest (A.aL n (.box (.own m k)))) :=
 fun _ _ _ m k m' k' _=>by rw[ep (s:=none) (v:=.own m k) (old:=.own m' k') rfl rfl rfl,gf]
theorem MG:(∀ n k,fu n k (.own n k)=.view n [] 1 0 k)∧(∀ n k m p,fu n k (.ptr m p)=.ptr m p)∧(∀ n k z,fu n k (.nils z)=.nils z)∧(∀ {α:Type} [Enc α] n k (x:α),fu n k (enc x)=enc x)∧(∀ n k i (x:Int),fu n k (.int i x)=.int i x)∧(∀ n k f xs,fu n k (.func f xs)=.func f xs)∧(∀ n k ks vs,fu n k (.cM ks vs)=.cM ks vs)∧(∀ n k b,fu n k (.bool b)=.bool b) ∧
  (∀ n,ft n (.own n 0)=.nils 1)∧(∀ n m p,ft n (.ptr m p)=.ptr m p)∧(∀ n z,ft n (.nils z)=.nils z)∧(∀ {α:Type} [Enc α] n (x:α),ft n (enc x)=enc x)∧(∀ n i (x:Int),ft n (.int i x)=.int i x)∧(∀ n f xs,ft n (.func f xs)=.func f xs)∧(∀ n ks vs,ft n (.cM ks vs)=.cM ks vs)∧(∀ n b,ft n (.bool b)=.bool b) ∧
  (∀ f v,iu f (.box v)=.box (f v))∧(∀ f T xs,iu f (.cO T xs)=.cO T xs)∧(∀ f ks vs,iu f (.cu ks vs)=.cu ks vs) :=
 ⟨fun _ _=>by simp[fu],fun _ _ _ _=>rfl,fun _ _ _=>rfl,fun _ _ x=>qZ (bt _ x),fun _ _ _ _=>rfl,fun _ _ _ _=>rfl,fun _ _ _ _=>rfl,fun _ _ _=>rfl,fun _=>by simp[ft],fun _ _ _=>rfl,fun _ _=>rfl,fun _ x=>yc (bt _ x),fun _ _ _=>rfl,fun _ _ _=>rfl,fun _ _ _=>rfl,fun _ _=>rfl,fun _ _=>rfl,fun _ _ _=>rfl,fun _ _ _=>rfl⟩
theorem rv(l:List ay)(day known:Int)(hok:dW l=true):aB Tryz.prog 88 [enc l,enc day,enc known] (qI l day known):=by
 have hl:=qE hok
 have hd:lU l:=fun i hi=>afE (xj hok hi)
 refine aB.bu Tryz.func88 Ra SV UT (Nat.le_of_ble_eq_true rfl) (fun hwf W0 D0 E1 =>?_)
 simp only[A4,LF,bp,Nat.zero_add,Nat.reduceAdd]
 clear hwf
 refine .ak (by decide +kernel) fun K hK =>?_
 simp only[HL,J,simprocAttr]
 refine .done (hK _ ?_);clear hK K
 refine .ak (by decide +kernel) fun K hK =>?_
 simp only[HM,J,simprocAttr]
 refine .done (hK _ ?_);clear hK K
 refine U.seq (U.seq ?_)
 refine .bj (by decide +kernel) fun K hK =>?_
 simp only[HR,J,simprocAttr]
 try simp only[eJ,bg,J,simprocAttr]
 refine .lead _ (M6 l known hl) ?_
 try simp only[J,simprocAttr]
 refine .done (hK _ ?_);clear hK K;try simp only[ao]
 refine U.sub (aE.OI 8 80 3 1 [] _ rfl rfl rfl (B:=au [(3,.ptr 3 []),(4,.ptr 4 []),(8,.ptr 8 []),(9,.nils 1),(17,.func 146 [.ref (enc l),.ref (enc (kK l known))])] [(8,.box (.own 80 0)),(80,.cO 3 []),(3,.box (enc l)),(4,.box (enc day))]) ?_) ?_
 ·simp only[gf]
  refine aE.bP ?_ ?_ ?_ ?_ <;>simp[aT,bJ,bI,bd,al,aV,cw,I.only,I.bV,ah.only,bt,iZ]
 refine U.block (U.kF (osb0:=iT l day []) (tsR:=[(3,.ptr 1000003 []),(4,.ptr 1000004 []),(8,.ptr 1000008 [])]) (ρ:=[(1999999,999999),(1000003,3),(1000004,4),(1000008,8),(1000080,80)])
  (fun k os=>os=iT l day (dq (lb l day known k)))
  (fun _ _=>False)
  rfl (Nat.le_of_ble_eq_true rfl) (by simp only[J,simprocAttr]) (by simp[I.bT,I.bl,dT]) Bd (Nq l (kK l known) hl (ahv l known)) (fun _=>rfl) rfl rfl rfl (fun o=>⟨?_,?_⟩) ?_ ?_ ?_ ?_ ?_ ?_ ?_)
 ·intro n x hx
  simp only[dy,iT,aj] at hx
  repeat' split at hx
  all_goals first | (cases hx;done) | (subst_vars;simp only[Option.some.injEq] at hx;subst hx;simp[dy,iT,al,bA,aj,ah.aK,I.aK,jR,ah.only,I.only,bt,ah.eL,iZ])
 ·intro a b ha hb
  simp only[dy,iT,al,aj] at ha hb
  repeat' split at ha
  all_goals first | (simp at ha;done) | skip
  all_goals (repeat' split at hb)
  all_goals first | (simp at hb;done) | (subst_vars;simp[bA])
 ·simp[mD,aV,I.aK,bA,I.only,iT,al,aj]
 ·rintro k os rfl;exact ahr ..
 ·rintro e os h;exact h.elim
 ·simp[iT,lb,dq]
 ·rintro k osb hk rfl W1 D1 E1 adY o1 o2
  have hk':k<(gT l known).length:=hk
  have hdl:=Wf l day known k
  have hsu:=Wg (day:=day) hk'
  generalize lb l day known k=dk at hsu hdl ⊢
  obtain ⟨i,hi⟩:∃ i,i=(gT l known).getD k 0:=⟨_,rfl⟩
  have hil:i<l.length:=by
   rw[hi,List.getD_eq_getElem?_getD,List.getElem?_eq_getElem hk']
   exact MA (List.getElem_mem hk')
  have hit:((iU (fun i=>(kK l known).getD i false) l.length).getD k 0)=i:=hi.symm
  rw[←hi] at hsu
  have he:=m0 hil
  simp only[hit,qL,dy,iT]
  have R:=And.intro @bg @J
  repeat' ((first
   |(with_reducible refine .guard (fun hb =>?_) (fun hb =>?_) <;>try simp only[hb])
   |refine U.aW (by decide +kernel) rfl fun K hK =>?_
   |(refine .aO [0,1,2,3,4,6,7,8,9,10,11,12,14,17,18,33,45,46,47,48,64] hK ?_;clear hK K)
   |(with_reducible refine .done (hK _ ?_);clear hK K)
   |refine U.of rfl ?_
   |(with_reducible refine ar.aU (fun h =>?_) (fun h =>?_) <;>try simp only[h])) <;>try simp only[aX,R,simprocAttr])
  all_goals clear R
  refine ⟨by simp[],?_⟩
  have hap:=fun (A:ab) d rest=>ub (A:=A) (d:=d) (e:=3) (bytes:=8) (n:=1000080) (l:=(dq dk).length) (xs:=dq dk) (y:=(i:Int)) (rest:=rest) rfl (by simp[dq,maxLen];omega) (by simp[dq];omega)
  rcases h1:((ae l i).kind != 0) <;>rcases h2:decide ((ae l i).day≤day)
  all_goals
   have R:=And.intro @h1 (And.intro @h2 (And.intro @he (And.intro @hap (And.intro @eJ (And.intro @ahq (And.intro @eA (And.intro @bK (And.intro @bg @J))))))))
   repeat' ((first
    |(with_reducible refine .guard (fun hb =>?_) (fun hb =>?_) <;>try simp only[hb])
    |refine U.aW (by decide +kernel) rfl fun K hK =>?_
    |(refine .aO [0,1,2,3,4,6,7,8,9,10,11,12,14,17,18,33,45,46,47,48,64] hK ?_;clear hK K)
    |(with_reducible refine .done (hK _ ?_);clear hK K)
    |refine U.of rfl ?_
    |(with_reducible refine ar.aU (fun h =>?_) (fun h =>?_) <;>try simp only[h])) <;>try simp only[aX,R,simprocAttr])
   all_goals clear R
  all_goals
   have hdue:qq l day i=(((ae l i).kind != 0)&&decide ((ae l i).day≤day)):=by simp only[qq,bne,ne_eq,decide_not];rfl
   rw[h1,h2] at hdue
   rw[hdue] at hsu
   refine ⟨_,?_,rfl⟩
   rw[hsu]
   intro n x hx
   simp only[dy,aj,if_true,Bool.false_eq_true,Bool.and_self,Bool.and_true,Bool.and_false,if_false,List.append_nil] at hx
   (repeat' split at hx) <;>first
    |(cases hx;done)
    |(subst_vars;simp only[Option.some.injEq] at hx;subst hx;simp[dy,al,au,aj,ah.only,I.only,bt,ah.eL,dq])
 ·rintro os rfl
  have eN:lb l day known (iU (fun i=>(kK l known).getD i false) l.length).length=jQ l day known:=We l day known
  simp only[eN,iT,dI,List.map_cons,List.map_nil,bA,ah.aK,I.aK,jR,ao,bH,reduceIte,Nat.reduceEqDiff,List.cons_append,List.nil_append]
  refine U.sub (B:=au [(3,.ptr 3 []),(8,.ptr 8 []),(9,.nils 1)] [(8,.box (.own 80 (kZ l day known).length)),(80,.cO 3 (kZ l day known)),(3,.box (enc l))]) ?_ ?_
  ·refine aE.bP ?_ ?_ ?_ ?_ <;>simp[*,aT,bJ,bI,bd,al,aV,cw,I.only,ah.only,bt,iZ,kZ]
  have hlen:(kZ l day known).length≤60:=by simp only[kZ,dq,List.length_map];exact Nat.le_trans (uK l day known) hl
  have hris:=Wd l day known
  have hin:=Wc (l:=l) (day:=day) (known:=known)
  have heq:=fun s=>af6 (l:=l) (day:=day) (known:=known) (s:=s)
  generalize kZ l day known=xs at hlen hris hin heq ⊢
  by_cases hx0:xs=[]
  ·subst hx0
   have ho0:pA l day known=[]:=(heq [] (List.Perm.refl _) List.Pairwise.nil).symm
   refine U.sub (aE.MN (n:=80) (T:=3) rfl (B:=au [(3,.ptr 3 []),(8,.ptr 8 []),(9,.nils 1)] [(8,.box (.nils 1)),(3,.box (enc l))]) ?_) ?_
   ·simp only[List.map_cons,List.map_nil,MG,List.length_nil]
    refine aE.bP ?_ ?_ ?_ ?_ <;>simp[aT,bJ,bI,bd,al,aV,cw,I.only,ah.only,bt]
   refine .ak (by decide +kernel) fun K hK =>?_
   simp only[vL,J,simprocAttr]
   try simp only[pj,ki,J,simprocAttr]
   refine .flat _ (Nl l) rfl ?_
   try simp only[J,simprocAttr]
   refine .done (hK _ ?_);clear hK K
   refine .ak (by decide +kernel) fun K hK =>?_
   simp only[vM,J,simprocAttr]
   try simp only[eA,J,simprocAttr]
   refine .done (hK _ ?_);clear hK K
   refine .ak (by decide +kernel) fun K hK =>?_
   simp only[vN,J,simprocAttr]
   refine .lead _ yx ?_
   try simp only[J,simprocAttr]
   refine .done (hK _ ?_);clear hK K
   refine U.seq (U.seq ?_)
   refine .bj (by decide +kernel) fun K hK =>?_
   simp only[vO,J,simprocAttr]
   try simp only[eJ,eB,bK,eA,J,simprocAttr]
   refine .done (hK _ ?_);clear hK K;try simp only[ao]
   have hF:=yM l day known hok (W0:=W0) (D0:=D0) (E1:=E1)
   rw[ho0] at hF
   refine U.sub (aE.qh [8] 45 (x:=.nils 1) (y:=enc ([]:List Int)) rfl (by rfl) ?_ ?_ ?_ ?_ ?_) hF
   ·simp[c4,bd,ah.only,I.only,I.bV,bt]
   ·simp[aT,gI,aV,I.only,I.bV,kl]
   ·simp[bJ,c4,aj]
   ·simp[bI,al,aj,I.only,I.bV,bt,kl]
   ·simp[bd,al,aj,ah.only,I.only,I.bV,bt]
  ·refine U.ML (n:=80) rfl hx0 (by omega) (sW (by simp[nd,I.only])) ?_ (fun q =>?_)
   ·intro m y hy hm
    simp only[aj] at hy
    repeat' split at hy
    all_goals first | (cases hy;done) | (exact absurd (by assumption) hm) | (simp only[Option.some.injEq] at hy;subst hy;first | exact .inl rfl | exact .inr (by simp[ah.only,bt]))
   simp only[List.map_cons,List.map_nil,MG]
   refine .ak (by decide +kernel) fun K hK =>?_
   simp only[vL,J,simprocAttr]
   try simp only[eJ,pj,ki,J,simprocAttr]
   refine .bR true [(1000000,80)] (cv 1000000 (xs++List.replicate q 0)) [.view 1000000 [] 1 0 xs.length,.func 138 [.ref (enc l)]] _ rfl (Nk l hd hl xs _ hris hin hlen) ?_ ?_ ?_ ?_
   ·refine ⟨fun m y hy =>?_,fun m m' h h' _=>by rw[df.1 h,df.1 h']⟩
    simp only[cv,aj] at hy
    split at hy
    ·rename_i hm
     cases hy
     subst hm
     exact ⟨by simp only[bA,if_true,aj,ah.aK,I.aK,iO],nS _ _,rfl⟩
    ·cases hy
   ·refine ⟨.inl ⟨by simp[I.aK,bA],df.2 rfl,rfl⟩,.inr ?_,trivial⟩
    simp[a6,bY,cz,au,c4,jD,cv,bA,aj,dT,hE]
   ·rintro eW os' ⟨rfl,s',k1,k2,rfl⟩
    refine ⟨fun m y hy =>?_,fun m m' h h' _=>by rw[df.1 h,df.1 h'],fun m hm=>by rw[df.1 hm];exact df.2 rfl,fun m a b=>by rw[df.1 a] at b;simp[cv,al,aj] at b,rfl,fun _=>rfl⟩
    simp only[cv,aj] at hy
    split at hy
    ·cases hy;exact ⟨nS _ _,rfl,fun _=>aeg _⟩
    ·cases hy
   ·rintro eW os' ⟨rfl,s',k1,k2,rfl⟩
    have hs':=heq s' k1 k2
    have hsl:xs.length=s'.length:=k1.length_eq.symm
    try simp only[cv,dI,List.map_cons,List.map_nil,ah.aK,I.aK,iO,bA,reduceIte,List.cons_append,List.nil_append,I.cP,J,simprocAttr]
    refine .done (hK _ ?_);clear hK K
    refine .ak (by decide +kernel) fun K hK =>?_
    simp only[vM,J,simprocAttr]
    try simp only[eA,J,simprocAttr]
    refine .done (hK _ ?_);clear hK K
    refine .ak (by decide +kernel) fun K hK =>?_
    simp only[vN,J,simprocAttr]
    refine .lead _ yx ?_
    try simp only[J,simprocAttr]
    refine .done (hK _ ?_);clear hK K
    refine U.seq (U.seq ?_)
    refine .bj (by decide +kernel) fun K hK =>?_
    simp only[vO,J,simprocAttr]
    try simp only[eJ,eB,J,simprocAttr]
    refine .done (hK _ ?_);clear hK K;try simp only[ao]
    have hF:=yM l day known hok (W0:=W0) (D0:=D0) (E1:=E1)
    rw[←hs'] at hF
    refine U.sub (aE.qh [80,8] 45 (x:=.view 80 [] 1 0 xs.length) (y:=enc s') rfl ?_ ?_ ?_ ?_ ?_ ?_) hF
    ·have:aj (iG [80,8] [(43,ah.box (I.agg ([I.raw (Value.map none)].set 0 (I.mref 41)))),(41,ah.cu [] []),(80,ah.box (I.agg ((s'++List.replicate q 0).map enc))),(80,ah.box (I.agg ((xs++List.replicate q 0).map enc))),(8,ah.box (I.view 80 [] 1 0 xs.length)),(80,ah.cO 3 xs),(3,ah.box (enc l))]) 80=some (.box (.agg ((s'++List.replicate q 0).map enc))):=by
      rw[nR];simp[aj]
     try simp only[this,J,simprocAttr]
     exact Ce hsl.symm
    ·simp[c4,bd,ah.only,I.only,I.bV,bt]
    ·simp[aT,gI,aV,I.only,I.bV,kl,hsl]
    ·simp[bJ,c4,aj]
    ·simp[bI,al,aj,I.only,I.bV,bt,kl]
    ·simp[bd,al,aj,ah.only,I.only,I.bV,bt]
 ·rintro e os h;exact h.elim
theorem Nc(n:Int):aB Tryz.prog 126 [enc n] (enc (!cm 0 100000 n)):=by
 refine aB.bu Tryz.func126 PR Rz Tx (Nat.le_of_ble_eq_true rfl) (fun hwf W0 D0 E1 =>?_)
 simp only[zB,Kj,bp]
 have R:=And.intro @bg @J
 repeat' ((first
  |(with_reducible refine .guard (fun hb =>?_) (fun hb =>?_) <;>try simp only[hb])
  |refine U.aW (by decide +kernel) rfl fun K hK =>?_
  |refine .flat _ (tP _) rfl ?_
  |(refine .aO [0,2] hK ?_;clear hK K)
  |(with_reducible refine .done (hK _ ?_);clear hK K)
  |refine U.of rfl ?_
  |(with_reducible refine ar.aU (fun h =>?_) (fun h =>?_) <;>try simp only[h])) <;>try simp only[aX,R,simprocAttr])
 all_goals clear R
abbrev iW:=aM 2 Int
def eI(a b:Int):iW:=⟨[a,b],rfl⟩
def fy(l:List ay)(ns:List iW)(ds:List Int):Int:=if dW l then (if ns.all (fun n=>cm 1 (n.g 1) (n.g 0)) then (if ds.any (fun d => !cm 0 100000 d) then 6 else 0) else 1) else 41
theorem Mw{A:ab}{n:Nat}{b:I}{x:iW}{u v:Int}{rest:List av} : dS A (some 2) n [] b (enc x) rest (some (.agg [.int .i64 u,.int .i64 v]))=az rest (A.aL n (.box (enc x))):=by
 have:=ep (A:=A) (n:=n) (p:=[]) (b:=b) (v:=enc x) (old:=.agg [.int .i64 u,.int .i64 v]) (rest:=rest) (s:=some 2) (dG _) (by rw[fJ];rfl) (eH x)
 rw[this,gf]
theorem wC :
  (∀ (x:iW) y,fq (0:Int) 2 (fp 2 1 (x.l.map enc) y)=y)∧(∀ (x:iW) y,fq (1:Int) 2 (fp 2 1 (x.l.map enc) y)=y)∧(∀ x:iW,(x.l.map (enc (α:=Int)))[0]?=some (I.int .i64 (x.g 0)))∧(∀ x:iW,(x.l.map (enc (α:=Int)))[1]?=some (I.int .i64 (x.g 1))) ∧
  (∀ x:iW,(enc x:I).dj=some (x.l.map enc))∧(∀ x:iW,bU (some 2) (enc x)=true)∧((0:Int).toNat=0)∧((1:Int).toNat=1) :=
 ⟨fun x y=>fP 1 x (by decide) rfl,fun x y=>fP 1 x (by decide) rfl,fun x=>qi x (by decide),fun x=>qi x (by decide),fun _=>rfl,fun x=>by rw[fJ];rfl,rfl,rfl⟩
theorem pR(l:List ay)(ns:List iW)(ds:List Int):aB Tryz.prog 67 [enc l,enc ns,enc ds] (enc (fy l ns ds)):=by
 refine aB.bu Tryz.func67 QW SG UF (Nat.le_of_ble_eq_true rfl) (fun hwf W0 D0 E1 =>?_)
 simp only[AO,Lq,bp,Nat.zero_add,Nat.reduceAdd]
 have hnl:ns.length≤maxLen:=((kM ns).1 hwf.2.1).1
 simp only[maxLen] at hnl
 have hF64:=N7 l
 simp only[fy]
 rcases hok:dW l
 ·rw[hok,if_neg (by decide)] at hF64
  have R:=And.intro @hok (And.intro @bK (And.intro @bg @J))
  repeat' ((first
   |(with_reducible refine .guard (fun hb =>?_) (fun hb =>?_) <;>try simp only[hb])
   |refine U.aW (by decide +kernel) rfl fun K hK =>?_
   |refine .flat _ (hF64) rfl ?_
   |(refine .aO [0,1,2,6,7,9,13,15,16,17,18,26,29] hK ?_;clear hK K)
   |(with_reducible refine .done (hK _ ?_);clear hK K)
   |refine U.of rfl ?_
   |(with_reducible refine ar.aU (fun h =>?_) (fun h =>?_) <;>try simp only[h])) <;>try simp only[aX,R,simprocAttr])
  all_goals clear R
 rw[hok,if_pos rfl] at hF64
 have R:=And.intro @hok (And.intro @bK (And.intro @bg @J))
 repeat' ((first
  |(with_reducible refine .guard (fun hb =>?_) (fun hb =>?_) <;>try simp only[hb])
  |refine U.aW (by decide +kernel) rfl fun K hK =>?_
  |refine .flat _ (hF64) rfl ?_
  |(refine .aO [0,1,2,6,7,9,13,15,16,17,18,26,29] hK ?_;clear hK K)
  |(with_reducible refine .done (hK _ ?_);clear hK K)
  |refine U.of rfl ?_
  |(with_reducible refine ar.aU (fun h =>?_) (fun h =>?_) <;>try simp only[h])) <;>try simp only[aX,R,simprocAttr])
 all_goals clear R
 refine U.loop (fun i:Nat=>au [(2,enc ds),(15,enc ns),(16,.int .i64 ns.length),(17,.int .i64 i)] []) (fun i=>i≤ns.length∧∀ k,(h:k<ns.length)→k<i→cm 1 ((ns[k]).g 1) ((ns[k]).g 0)=true) (fun i=>ns.length-i) 0 ⟨Nat.zero_le _,fun k _ hk=>by omega⟩ ?_ (fun i hi =>?_)
 ·refine aE.bP ?_ ?_ ?_ ?_ <;>simp[aT,bJ,bI,bd,aV,I.only,bt]
 obtain ⟨hi1,hi2⟩:=hi
 by_cases hlt:i<ns.length
 ·have hc:=iI hlt
  have he:=fun A=>fL (A:=A) 2 hlt rfl
  have hw:=fG (i:=i) (by omega)
  obtain ⟨x,hx⟩:∃ x,x=ns[i]:=⟨_,rfl⟩
  rw[←hx] at he
  rcases hp:cm 1 (x.g 1) (x.g 0)
  ·have hall:(ns.all fun n=>cm 1 (n.g 1) (n.g 0))=false:=by
    rw[List.all_eq_false]
    exact ⟨x,hx▸List.getElem_mem hlt,by rw[hp];decide⟩
   have R:=And.intro @hc (And.intro @he (And.intro @hp (And.intro @hall (And.intro @Mw (And.intro @wC (And.intro @bK @J))))))
   repeat' ((first
    |(with_reducible refine .guard (fun hb =>?_) (fun hb =>?_) <;>try simp only[hb])
    |refine U.aW (by decide +kernel) rfl fun K hK =>?_
    |refine .flat _ (lM _ _ _) rfl ?_
    |(refine .aO [0,1,2,6,7,9,13,15,16,17,18,26,29] hK ?_;clear hK K)
    |(with_reducible refine .done (hK _ ?_);clear hK K)
    |refine U.of rfl ?_
    |(with_reducible refine ar.aU (fun h =>?_) (fun h =>?_) <;>try simp only[h])) <;>try simp only[aX,R,simprocAttr])
   all_goals clear R
  ·have R:=And.intro @hc (And.intro @he (And.intro @hp (And.intro @hw (And.intro @Mw (And.intro @wC (And.intro @bK @J))))))
   repeat' ((first
    |(with_reducible refine .guard (fun hb =>?_) (fun hb =>?_) <;>try simp only[hb])
    |refine U.aW (by decide +kernel) rfl fun K hK =>?_
    |refine .flat _ (lM _ _ _) rfl ?_
    |(refine .aO [0,1,2,6,7,9,13,15,16,17,18,26,29] hK ?_;clear hK K)
    |(with_reducible refine .done (hK _ ?_);clear hK K)
    |refine U.of rfl ?_
    |(with_reducible refine ar.aU (fun h =>?_) (fun h =>?_) <;>try simp only[h])) <;>try simp only[aX,R,simprocAttr])
   all_goals clear R
   refine ⟨i+1,⟨by omega,fun k hk hki =>?_⟩,by omega,?_⟩
   ·by_cases e:k=i
    ·subst e;rw[←hx];exact hp
    ·exact hi2 k hk (by omega)
   ·refine aE.bP ?_ ?_ ?_ ?_ <;>simp[aT,bJ,bI,bd,aV,bt,I.only]
 ·have hc:=jx hlt
  have hall:(ns.all fun n=>cm 1 (n.g 1) (n.g 0))=true:=by
   rw[List.all_eq_true]
   intro x hx
   obtain ⟨k,hk,rfl⟩:=List.getElem_of_mem hx
   exact hi2 k hk (by omega)
  have hF:=tO ds 126 [] rfl (fun d => !cm 0 100000 d) (fun x _=>Nc x)
  rcases hd:ds.any fun d => !cm 0 100000 d
  all_goals
   rw[hd] at hF
   have R:=And.intro @hc (And.intro @hall (And.intro @hd (And.intro @bK (And.intro @bg @J))))
   repeat' ((first
    |(with_reducible refine .guard (fun hb =>?_) (fun hb =>?_) <;>try simp only[hb])
    |refine U.aW (by decide +kernel) rfl fun K hK =>?_
    |refine .flat _ (hF) rfl ?_
    |(refine .aO [0,1,2,6,7,9,13,15,16,17,18,26,29] hK ?_;clear hK K)
    |(with_reducible refine .done (hK _ ?_);clear hK K)
    |refine U.of rfl ?_
    |(with_reducible refine ar.aU (fun h =>?_) (fun h =>?_) <;>try simp only[h])) <;>try simp only[aX,R,simprocAttr])
   all_goals clear R
def cL(l:List ay)(day known:Int):List aQ:=(qJ e8 l (jG l day known)).1
def ahP(l:List ay)(day known:Int):List Int:=dC (dq (qJ e8 l (jG l day known)).2)
theorem s8(l:List ay)(day known:Int):qI l day known=.tuple [gm (cL l day known),enc (ahP l day known)]:=rfl
theorem ql{l:List ay}(hok:dW l=true)(day known:Int):((cL l day known).map (·.no)).Nodup∧(cL l day known).length≤60∧∀ b∈cL l day known,b.cg.length≤60:=by
 have h:=xw l (jG l day known) _ (Nat.le_refl _)
 rw[JY] at h
 have h2:(jG l day known).length≤60:=by rw[JT];exact Nat.le_trans (uK l day known) (qE hok)
 exact ⟨h.1,by simp only[cL];omega,fun b hb=>by have:=h.2.2.1 b hb;omega⟩
theorem sy(bs:List aQ)(no:Int):fY (.i .i64) .nilp (.int .i64 no) (dc bs) (bs.map fun b=>.ref (enc (⟨b⟩:eD)))=match dw bs no with
  |some b=>some (.ref (enc (⟨b⟩:eD)),true)
  |none=>some (.nilp,false):=by
 have h1:=vS (bs:=bs) (no:=no)
 have h2:=wD uR .nilp no (bs.map (·.no)) (bs.map fun b=>.ref (enc (⟨b⟩:eD)))
 rw[iZ] at h2
 unfold dc
 rw[h2]
 cases h:(bs.map (·.no)).findIdx? fun x=>decide (no=x) with
 |none=>rw[h] at h1;simp only at h1;rw[h1]
 |some i =>
  rw[h] at h1
  obtain ⟨hi,g1,g2⟩:=h1
  rw[g1]
  simp[hi]
theorem Te(bs:List aQ):I.bT (bs.map fun b=>.ref (enc (⟨b⟩:eD)))=true:=by
 induction bs with
 |nil=>rfl
 |cons b bs ih=>simp only[List.map_cons,I.bT,I.bl,dT,ih,Bool.and_self]
theorem S8(bs:List aQ):(I.cM (dc bs) (bs.map fun b=>.ref (enc (⟨b⟩:eD)))).bl=true:=by
 simp only[I.bl,Te,Bool.and_true];exact kj _
theorem nM:(∀ bs,(gm bs).bl=true)∧(∀ aw A bs,a6 aw A (gm bs)=some (gm bs))∧(∀ bs,(gm bs).b9=true)∧(∀ bs,bU none (gm bs)=true)∧(∀ p bs,(gm bs).only p=true)∧(∀ x:eD,(enc x:I).bl=true)∧(∀ bs,mc (gm bs)=some (gm bs)) ∧
  (∀ A bs,lh A 0 0 (gm bs)=some (.ref (.cM (dc bs) (bs.map fun b=>.ref (enc (⟨b⟩:eD))))))∧(∀ x:eD,mc (.ref (enc x))=some (.ref (enc x))) :=
 have h:∀ bs,(I.agg [.cM (dc bs) (bs.map fun b=>.ref (enc (⟨b⟩:eD)))]).bl=true:=fun bs=>by simp only[I.bl,I.bT,Bool.and_true];exact S8 bs
 ⟨fun bs=>by simp only[gm,I.bl];exact h bs,fun aw A bs=>by simp only[gm,a6,h bs,if_true],fun _=>rfl,fun _=>rfl,fun p bs=>mf p _ (by simp only[gm,I.bl];exact h bs),fun x=>dT x,fun _=>rfl,
  fun A bs=>by simp[gm,lh,I.dj,qf,oV,dQ,I.sizes],fun _=>rfl⟩
theorem MP:(∀ k n,(I.int k n).b9=true)∧(∀ b,(I.bool b).b9=true):=⟨fun _ _=>rfl,fun _=>rfl⟩
theorem nC{l:List ay}{ns:List iW}{ds:List Int}(h:fy l ns ds=0):dW l=true:=by
 simp only[fy] at h
 split at h
 ·assumption
 ·cases h
theorem pk{a:Int}(h:a=0):(a != 0)=false:=by simp[h]
theorem pn{a:Int}(h:¬ a=0):(a != 0)=true:=by simp[h]
theorem p6(a b:Int):hP 1 (some [.int .i64 a,.int .i64 b])=some (enc [a,b]):=mJ (ys:=[a,b]) 1 rfl
theorem rq(l:List ay)(known:Int)(hok:dW l=true):aB Tryz.prog 68 [enc l,enc known] (gm (cL l 100000 known)):=by
 refine aB.bu Tryz.func68 QX SH UG (Nat.le_of_ble_eq_true rfl) (fun hwf W0 D0 E1 =>?_)
 simp only[AP,Lr,bp,Nat.zero_add]
 have hF:=rv l 100000 known hok
 rw[s8] at hF
 have R:=And.intro @nM (And.intro @bg @J)
 repeat' ((first
  |(with_reducible refine .guard (fun hb =>?_) (fun hb =>?_) <;>try simp only[hb])
  |refine U.aW (by decide +kernel) rfl fun K hK =>?_
  |refine .lead _ (hF) ?_
  |(refine .aO [0,1,4,5] hK ?_;clear hK K)
  |(with_reducible refine .done (hK _ ?_);clear hK K)
  |refine U.of rfl ?_
  |(with_reducible refine ar.aU (fun h =>?_) (fun h =>?_) <;>try simp only[h])) <;>try simp only[aX,R,simprocAttr])
 all_goals clear R
theorem Oi(b:aQ):aB Tryz.prog 89 [.ref (enc (⟨b⟩:eD))] (enc (!decide (0≤b.dJ))):=by
 refine aB.bu Tryz.func89 Rb SW UU (Nat.le_of_ble_eq_true rfl) (fun hwf W0 D0 E1 =>?_)
 simp only[A5,LG,bp]
 have R:=And.intro @nM (And.intro @bg @J)
 repeat' ((first
  |(with_reducible refine .guard (fun hb =>?_) (fun hb =>?_) <;>try simp only[hb])
  |refine U.aW (by decide +kernel) rfl fun K hK =>?_
  |refine .flat _ (iV _) rfl ?_
  |(refine .aO [0,2] hK ?_;clear hK K)
  |(with_reducible refine .done (hK _ ?_);clear hK K)
  |refine U.of rfl ?_
  |(with_reducible refine ar.aU (fun h =>?_) (fun h =>?_) <;>try simp only[h])) <;>try simp only[aX,R,simprocAttr])
 all_goals clear R
def nx(l:List ay)(day known:Int):List Int×Int:=if fy l [] [day,known]=0 then (dC (((cL l day known).filter fun b => !decide (0≤b.dJ)).map (·.no)),0) else ([],fy l [] [day,known])
theorem yJ(l:List ay)(day known:Int):aB Tryz.prog 26 [enc l,enc day,enc known] (.tuple [enc (nx l day known).1,enc (nx l day known).2]):=by
 refine aB.bu Tryz.func26 QM Sx Uw (Nat.le_of_ble_eq_true rfl) (fun hwf W0 D0 E1 =>?_)
 simp only[AG,Lh,bp,Nat.zero_add,Nat.reduceAdd]
 clear hwf
 have hC:=pR l [] [day,known]
 simp only[nx]
 generalize hc:fy l [] [day,known]=e at hC ⊢
 by_cases he:e=0
 ·have hn:=pk he
  subst he
  have hok:=nC hc
  have hF:=rv l day known hok
  rw[s8] at hF
  have hb:=ql hok day known
  have hN:=tV (cL l day known) hb.2.1 89 [] rfl (fun b => !decide (0≤b.dJ)) (fun b _=>Oi b)
  have R:=And.intro @hn (And.intro @p6 (And.intro @nM (And.intro @ki (And.intro @bg @J))))
  repeat' ((first
   |(with_reducible refine .guard (fun hb =>?_) (fun hb =>?_) <;>try simp only[hb])
   |refine U.aW (by decide +kernel) rfl fun K hK =>?_
   |refine .flat _ (hC) rfl ?_
   |refine .lead _ (hF) ?_
   |refine .lead _ (hN) ?_
   |(refine .aO [0,1,2,6,7,8,9,17] hK ?_;clear hK K)
   |(with_reducible refine .done (hK _ ?_);clear hK K)
   |refine U.of rfl ?_
   |(with_reducible refine ar.aU (fun h =>?_) (fun h =>?_) <;>try simp only[h])) <;>try simp only[aX,R,simprocAttr])
  all_goals clear R
  all_goals rfl
 ·have hn:=pn he
  have R:=And.intro @hn (And.intro @he (And.intro @p6 (And.intro @bg @J)))
  repeat' ((first
   |(with_reducible refine .guard (fun hb =>?_) (fun hb =>?_) <;>try simp only[hb])
   |refine U.aW (by decide +kernel) rfl fun K hK =>?_
   |refine .flat _ (hC) rfl ?_
   |(refine .aO [0,1,2,6,7,8,9,17] hK ?_;clear hK K)
   |(with_reducible refine .done (hK _ ?_);clear hK K)
   |refine U.of rfl ?_
   |(with_reducible refine ar.aU (fun h =>?_) (fun h =>?_) <;>try simp only[h])) <;>try simp only[aX,R,simprocAttr])
  all_goals clear R
  all_goals rfl
def mT(l:List ay)(no day known:Int):Int×Int:=if fy l [eI no 9999] [day,known]=0 then (match dw (cL l day known) no with
 |none=>(0,42)
 |some b=>if 0≤b.dJ then (0,0) else (b.bN,0)) else (0,fy l [eI no 9999] [day,known])
theorem zj(a b:Int):hP 2 (some [.agg [.int .i64 a,.int .i64 b]])=some (enc [eI a b]):=mJ (ys:=[eI a b]) 2 rfl
theorem zk(a b c d:Int):hP 2 (some [.agg [.int .i64 a,.int .i64 b],.agg [.int .i64 c,.int .i64 d]])=some (enc [eI a b,eI c d]):=mJ (ys:=[eI a b,eI c d]) 2 rfl
theorem fb:(type_of% @bg)∧(type_of% @gA)∧(type_of% @nM)∧(type_of% @ki)∧(type_of% @eA)∧(type_of% @eJ)∧(type_of% @bK)∧(type_of% @p6)∧(type_of% @zj)∧(type_of% @zk)∧(type_of% @zg)∧(type_of% @MP)∧(type_of% @J):=⟨@bg,@gA,@nM,@ki,@eA,@eJ,@bK,@p6,@zj,@zk,@zg,@MP,@J⟩
theorem yK(l:List ay)(no day known:Int):aB Tryz.prog 27 [enc l,enc no,enc day,enc known] (.tuple [enc (mT l no day known).1,enc (mT l no day known).2]):=by
 refine aB.bu Tryz.func27 QN Sy Ux (Nat.le_of_ble_eq_true rfl) (fun hwf W0 D0 E1 =>?_)
 simp only[AH,Li,bp,Nat.zero_add,Nat.reduceAdd]
 clear hwf
 have hC:=pR l [eI no 9999] [day,known]
 simp only[mT]
 generalize hc:fy l [eI no 9999] [day,known]=e at hC ⊢
 by_cases he:e=0
 ·have hn:=pk he
  subst he
  have hok:=nC hc
  have hF:=rv l day known hok
  rw[s8] at hF
  have hk:=sy (cL l day known) no
  cases hg:dw (cL l day known) no with
  |none =>
   rw[hg] at hk
   have R:=And.intro @hn (And.intro @hk fb)
   repeat' ((first
    |(with_reducible refine .guard (fun hb =>?_) (fun hb =>?_) <;>try simp only[hb])
    |refine U.aW (by decide +kernel) rfl fun K hK =>?_
    |refine .flat _ (hC) rfl ?_
    |refine .lead _ (hF) ?_
    |(refine .aO [0,1,2,3,8,9,10,11,13,23,38,41] hK ?_;clear hK K)
    |(with_reducible refine .done (hK _ ?_);clear hK K)
    |refine U.of rfl ?_
    |(with_reducible refine ar.aU (fun h =>?_) (fun h =>?_) <;>try simp only[h])) <;>try simp only[aX,R,simprocAttr])
   all_goals clear R
  |some b =>
   rw[hg] at hk
   rcases hd:decide (0≤b.dJ)
   all_goals
    have R:=And.intro @hn (And.intro @hk (And.intro @hd fb))
    repeat' ((first
     |(with_reducible refine .guard (fun hb =>?_) (fun hb =>?_) <;>try simp only[hb])
     |refine U.aW (by decide +kernel) rfl fun K hK =>?_
     |refine .flat _ (hC) rfl ?_
     |refine .lead _ (hF) ?_
     |refine .flat _ (iV _) rfl ?_
     |(refine .aO [0,1,2,3,8,9,10,11,13,23,38,41] hK ?_;clear hK K)
     |(with_reducible refine .done (hK _ ?_);clear hK K)
     |refine U.of rfl ?_
     |(with_reducible refine ar.aU (fun h =>?_) (fun h =>?_) <;>try simp only[h])) <;>try simp only[aX,R,simprocAttr])
    all_goals clear R
    simp only[decide_eq_true_eq,decide_eq_false_iff_not] at hd
    simp[hd]
 ·have hn:=pn he
  have R:=And.intro @hn (And.intro @he fb)
  repeat' ((first
   |(with_reducible refine .guard (fun hb =>?_) (fun hb =>?_) <;>try simp only[hb])
   |refine U.aW (by decide +kernel) rfl fun K hK =>?_
   |refine .flat _ (hC) rfl ?_
   |(refine .aO [0,1,2,3,8,9,10,11,13,23,38,41] hK ?_;clear hK K)
   |(with_reducible refine .done (hK _ ?_);clear hK K)
   |refine U.of rfl ?_
   |(with_reducible refine ar.aU (fun h =>?_) (fun h =>?_) <;>try simp only[h])) <;>try simp only[aX,R,simprocAttr])
  all_goals clear R
  all_goals rfl
theorem Oj(b:aQ)(o s:Int):aB Tryz.prog 91 [.ref (enc (⟨b⟩:eD)),.ref (enc o),.ref (enc s)] (enc (!decide (0≤b.dJ)&&(b.bN==o&&b.dp==s))):=by
 refine aB.bu Tryz.func91 Re SY UX (Nat.le_of_ble_eq_true rfl) (fun hwf W0 D0 E1 =>?_)
 simp only[A7,LI,bp,Nat.zero_add,Nat.reduceAdd]
 have R:=fb
 repeat' ((first
  |(with_reducible refine .guard (fun hb =>?_) (fun hb =>?_) <;>try simp only[hb])
  |refine U.aW (by decide +kernel) rfl fun K hK =>?_
  |refine .flat _ (iV _) rfl ?_
  |(refine .aO [0,1,2,4] hK ?_;clear hK K)
  |(with_reducible refine .done (hK _ ?_);clear hK K)
  |refine U.of rfl ?_
  |(with_reducible refine ar.aU (fun h =>?_) (fun h =>?_) <;>try simp only[h])) <;>try simp only[aX,R,simprocAttr])
 all_goals clear R
 all_goals simp_all
def oP(l:List ay)(o s day known:Int):Int×Int:=if fy l [eI o 99,eI s 9] [day,known]=0 then ((((cL l day known).filter fun b => !decide (0≤b.dJ)&&(b.bN==o&&b.dp==s)).length:Int),0) else (0,fy l [eI o 99,eI s 9] [day,known])
theorem yL(l:List ay)(o s day known:Int):aB Tryz.prog 28 [enc l,enc o,enc s,enc day,enc known] (.tuple [enc (oP l o s day known).1,enc (oP l o s day known).2]):=by
 refine aB.bu Tryz.func28 QO Sz Uy (Nat.le_of_ble_eq_true rfl) (fun hwf W0 D0 E1 =>?_)
 simp only[AI,Lj,bp,Nat.zero_add,Nat.reduceAdd]
 clear hwf
 have hC:=pR l [eI o 99,eI s 9] [day,known]
 simp only[oP]
 generalize hc:fy l [eI o 99,eI s 9] [day,known]=e at hC ⊢
 by_cases he:e=0
 ·have hn:=pk he
  subst he
  have hok:=nC hc
  have hF:=rv l day known hok
  rw[s8] at hF
  have hb:=ql hok day known
  have hN:=tV (cL l day known) hb.2.1 91 [.ref (enc o),.ref (enc s)] rfl (fun b => !decide (0≤b.dJ)&&(b.bN==o&&b.dp==s)) (fun b _=>Oj b o s)
  have R:=And.intro @hn (And.intro @pj fb)
  repeat' ((first
   |(with_reducible refine .guard (fun hb =>?_) (fun hb =>?_) <;>try simp only[hb])
   |refine U.aW (by decide +kernel) rfl fun K hK =>?_
   |refine .flat _ (hC) rfl ?_
   |refine .lead _ (hF) ?_
   |(refine .aO [0,1,2,3,4,6,7,10,11,12,13,26] hK ?_;clear hK K)
   |(with_reducible refine .done (hK _ ?_);clear hK K)
   |refine U.of rfl ?_
   |(with_reducible refine ar.aU (fun h =>?_) (fun h =>?_) <;>try simp only[h])) <;>try simp only[aX,R,simprocAttr])
  all_goals clear R
  refine .ib [6,7] _ rfl hN ?_ ?_ ?_
  ·simp[a6,bY,cz,au,iG,aj,hE,nM,I.bl]
   exact ⟨rfl,rfl⟩
  ·simp[bd,c4]
  ·have hlen:(dC (((cL l day known).filter fun b => !decide (0≤b.dJ)&&(b.bN==o&&b.dp==s)).map (·.no))).length=((cL l day known).filter fun b => !decide (0≤b.dJ)&&(b.bN==o&&b.dp==s)).length:=by simp[dC]
   try simp only[gI,List.map_cons,List.map_nil,hlen,fb,J,simprocAttr]
   have R:=And.intro @hlen fb
   repeat' ((first
    |(with_reducible refine .guard (fun hb =>?_) (fun hb =>?_) <;>try simp only[hb])
    |refine U.aW (by decide +kernel) rfl fun K hK =>?_
    |(refine .aO [0,1,2,3,4,6,7,10,11,12,13,26] hK ?_;clear hK K)
    |(with_reducible refine .done (hK _ ?_);clear hK K)
    |refine U.of rfl ?_
    |(with_reducible refine ar.aU (fun h =>?_) (fun h =>?_) <;>try simp only[h])) <;>try simp only[aX,R,simprocAttr])
   all_goals clear R
 ·have hn:=pn he
  have R:=And.intro @hn (And.intro @he fb)
  repeat' ((first
   |(with_reducible refine .guard (fun hb =>?_) (fun hb =>?_) <;>try simp only[hb])
   |refine U.aW (by decide +kernel) rfl fun K hK =>?_
   |refine .flat _ (hC) rfl ?_
   |(refine .aO [0,1,2,3,4,6,7,10,11,12,13,26] hK ?_;clear hK K)
   |(with_reducible refine .done (hK _ ?_);clear hK K)
   |refine U.of rfl ?_
   |(with_reducible refine ar.aU (fun h =>?_) (fun h =>?_) <;>try simp only[h])) <;>try simp only[aX,R,simprocAttr])
  all_goals clear R
  all_goals rfl
theorem gv(m:bX):bU (some 7) (enc m)=true:=by rw[fJ];rfl
theorem rr(m:bX)(b:aQ):aB Tryz.prog 69 [enc m,.ref (enc (⟨b⟩:eD))] (enc (iJ m b.cg).1):=by
 refine aB.bu Tryz.func69 QY SI UH (Nat.le_of_ble_eq_true rfl) (fun hwf W0 D0 E1 =>?_)
 simp only[AQ,Ls,bp,Nat.zero_add]
 clear hwf
 have hC:=Nd m b.cg
 have R:=And.intro @gv fb
 repeat' ((first
  |(with_reducible refine .guard (fun hb =>?_) (fun hb =>?_) <;>try simp only[hb])
  |refine U.aW (by decide +kernel) rfl fun K hK =>?_
  |refine .lead _ (hC) ?_
  |(refine .aO [0,1,2,4,5] hK ?_;clear hK K)
  |(with_reducible refine .done (hK _ ?_);clear hK K)
  |refine U.of rfl ?_
  |(with_reducible refine ar.aU (fun h =>?_) (fun h =>?_) <;>try simp only[h])) <;>try simp only[aX,R,simprocAttr])
 all_goals clear R
theorem Ng(l:List Int)(n:Int):aB Tryz.prog 131 [enc l,enc n] (enc (mY (fun x=>n==x) l)):=by
 refine aB.bu Tryz.func131 PV RD TB (Nat.le_of_ble_eq_true rfl) (fun hwf W0 D0 E1 =>?_)
 simp only[zF,Kn,bp,Nat.zero_add]
 have hlen:l.length≤maxLen:=((kM l).1 hwf.1).1
 simp only[maxLen] at hlen
 clear hwf
 have R:=And.intro @bK @J
 repeat' ((first
  |(with_reducible refine .guard (fun hb =>?_) (fun hb =>?_) <;>try simp only[hb])
  |refine U.aW (by decide +kernel) rfl fun K hK =>?_
  |(refine .aO [0,1,4,5,7,8,9,16] hK ?_;clear hK K)
  |(with_reducible refine .done (hK _ ?_);clear hK K)
  |refine U.of rfl ?_
  |(with_reducible refine ar.aU (fun h =>?_) (fun h =>?_) <;>try simp only[h])) <;>try simp only[aX,R,simprocAttr])
 all_goals clear R
 refine U.loop (fun i:Nat=>au [(0,enc l),(1,.int .i64 n),(7,.int .i64 l.length),(8,.int .i64 i)] []) (fun i=>i≤l.length∧∀ x∈l.take i,(n==x)=false) (fun i=>l.length-i) 0 ⟨Nat.zero_le _,by simp⟩ ?_ (fun i hi =>?_)
 ·refine aE.bP ?_ ?_ ?_ ?_ <;>simp[aT,bJ,bI,bd,aV,I.only,bt]
 obtain ⟨hi1,hi2⟩:=hi
 by_cases hlt:i<l.length
 ·have hc:=iI hlt
  have he:=fun A=>fL (A:=A) 1 hlt rfl
  have hw:=fG (i:=i) (by omega)
  rcases hp:(n==l[i])
  ·have R:=And.intro @hc (And.intro @he (And.intro @hp (And.intro @hw (And.intro @kB (And.intro @bK @J)))))
   repeat' ((first
    |(with_reducible refine .guard (fun hb =>?_) (fun hb =>?_) <;>try simp only[hb])
    |refine U.aW (by decide +kernel) rfl fun K hK =>?_
    |(refine .aO [0,1,4,5,7,8,9,16] hK ?_;clear hK K)
    |(with_reducible refine .done (hK _ ?_);clear hK K)
    |refine U.of rfl ?_
    |(with_reducible refine ar.aU (fun h =>?_) (fun h =>?_) <;>try simp only[h])) <;>try simp only[aX,R,simprocAttr])
   all_goals clear R
   refine ⟨i+1,⟨by omega,fun x hm =>?_⟩,by omega,?_⟩
   ·rw[List.take_succ_eq_append_getElem hlt] at hm
    rcases List.mem_append.1 hm with hm | hm
    ·exact hi2 x hm
    ·simp at hm;rw[hm];exact hp
   ·refine aE.bP ?_ ?_ ?_ ?_ <;>simp[aT,bJ,bI,bd,aV,I.only,bt]
  ·have R:=And.intro @hc (And.intro @he (And.intro @hp (And.intro @kB (And.intro @bK @J))))
   repeat' ((first
    |(with_reducible refine .guard (fun hb =>?_) (fun hb =>?_) <;>try simp only[hb])
    |refine U.aW (by decide +kernel) rfl fun K hK =>?_
    |(refine .aO [0,1,4,5,7,8,9,16] hK ?_;clear hK K)
    |(with_reducible refine .done (hK _ ?_);clear hK K)
    |refine U.of rfl ?_
    |(with_reducible refine ar.aU (fun h =>?_) (fun h =>?_) <;>try simp only[h])) <;>try simp only[aX,R,simprocAttr])
   all_goals clear R
   simp[mY,u0 hlt hi2 hp]
 ·have hc:=jx hlt
  have hge:i=l.length:=by omega
  have R:=And.intro @hc (And.intro @bK @J)
  repeat' ((first
   |(with_reducible refine .guard (fun hb =>?_) (fun hb =>?_) <;>try simp only[hb])
   |refine U.aW (by decide +kernel) rfl fun K hK =>?_
   |(refine .aO [0,1,4,5,7,8,9,16] hK ?_;clear hK K)
   |(with_reducible refine .done (hK _ ?_);clear hK K)
   |refine U.of rfl ?_
   |(with_reducible refine ar.aU (fun h =>?_) (fun h =>?_) <;>try simp only[h])) <;>try simp only[aX,R,simprocAttr])
  all_goals clear R
  subst hge
  rw[List.take_length] at hi2
  simp[mY,uZ hi2]
theorem N9(l:List Int)(n:Int):aB Tryz.prog 74 [enc l,enc n] (enc (decide (n∈l))):=by
 refine aB.bu Tryz.func74 Q1 SL UK (Nat.le_of_ble_eq_true rfl) (fun hwf W0 D0 E1 =>?_)
 simp only[AT,Lv,bp,Nat.zero_add]
 clear hwf
 have R:=And.intro @bg @J
 repeat' ((first
  |(with_reducible refine .guard (fun hb =>?_) (fun hb =>?_) <;>try simp only[hb])
  |refine U.aW (by decide +kernel) rfl fun K hK =>?_
  |refine .flat _ (Ng _ _) rfl ?_
  |(refine .aO [0,1,4] hK ?_;clear hK K)
  |(with_reducible refine .done (hK _ ?_);clear hK K)
  |refine U.of rfl ?_
  |(with_reducible refine ar.aU (fun h =>?_) (fun h =>?_) <;>try simp only[h])) <;>try simp only[aX,R,simprocAttr])
 all_goals clear R
 rw[It]
 congr 1
 rw[Bool.eq_iff_iff]
 simp[List.any_eq_true]
theorem N8(m:bX)(b:aQ):aB Tryz.prog 73 [.ref (enc (⟨b⟩:eD)),.ref (enc m)] (enc (decide (0<b.ju) && !decide (b.ju∈(iJ m b.cg).1))):=by
 refine aB.bu Tryz.func73 Q0 SK UJ (Nat.le_of_ble_eq_true rfl) (fun hwf W0 D0 E1 =>?_)
 simp only[AS,Lu,bp,Nat.zero_add]
 clear hwf
 have hC:=rr m b
 have R:=And.intro @gv fb
 repeat' ((first
  |(with_reducible refine .guard (fun hb =>?_) (fun hb =>?_) <;>try simp only[hb])
  |refine U.aW (by decide +kernel) rfl fun K hK =>?_
  |refine .lead _ (hC) ?_
  |refine .flat _ (N9 _ _) rfl ?_
  |(refine .aO [0,1,3] hK ?_;clear hK K)
  |(with_reducible refine .done (hK _ ?_);clear hK K)
  |refine U.of rfl ?_
  |(with_reducible refine ar.aU (fun h =>?_) (fun h =>?_) <;>try simp only[h])) <;>try simp only[aX,R,simprocAttr])
 all_goals clear R
 all_goals first | (simp_all;done) | (simp_all;intro h;omega)
def kR(m:bX)(l:List ay)(no known:Int):List Int×Int:=if ee m then (if fy l [eI no 9999] [known]=0 then (match dw (cL l 100000 known) no with
 |none=>([],42)
 |some b=>((iJ m b.cg).1,0)) else ([],fy l [eI no 9999] [known])) else ([],13)
theorem zi(a:Int):hP 1 (some [.int .i64 a])=some (enc [a]):=mJ (ys:=[a]) 1 rfl
theorem tQ(m:bX)(l:List ay)(no known:Int):aB Tryz.prog 14 [enc m,enc l,enc no,enc known] (.tuple [enc (kR m l no known).1,enc (kR m l no known).2]):=by
 refine aB.bu Tryz.func14 P2 RK TI (Nat.le_of_ble_eq_true rfl) (fun hwf W0 D0 E1 =>?_)
 simp only[zM,Ku,bp,Nat.zero_add,Nat.reduceAdd]
 clear hwf
 have hM:=tU m
 have hC:=pR l [eI no 9999] [known]
 simp only[kR]
 rcases hm:ee m
 ·rw[hm,if_neg (by decide)] at hM
  have R:=And.intro @gv fb
  repeat' ((first
   |(with_reducible refine .guard (fun hb =>?_) (fun hb =>?_) <;>try simp only[hb])
   |refine U.aW (by decide +kernel) rfl fun K hK =>?_
   |refine .flat _ (hM) rfl ?_
   |(refine .aO [0,1,2,3,4,8,9,10,11,12,16,26,37] hK ?_;clear hK K)
   |(with_reducible refine .done (hK _ ?_);clear hK K)
   |refine U.of rfl ?_
   |(with_reducible refine ar.aU (fun h =>?_) (fun h =>?_) <;>try simp only[h])) <;>try simp only[aX,R,simprocAttr])
  all_goals clear R
  all_goals rfl
 rw[hm,if_pos rfl] at hM
 generalize hc:fy l [eI no 9999] [known]=e at hC ⊢
 by_cases he:e=0
 ·have hn:=pk he
  subst he
  have hok:=nC hc
  have hF:=rq l known hok
  have hk:=sy (cL l 100000 known) no
  cases hg:dw (cL l 100000 known) no with
  |none =>
   rw[hg] at hk
   have R:=And.intro @hn (And.intro @hk (And.intro @gv fb))
   repeat' ((first
    |(with_reducible refine .guard (fun hb =>?_) (fun hb =>?_) <;>try simp only[hb])
    |refine U.aW (by decide +kernel) rfl fun K hK =>?_
    |refine .flat _ (hM) rfl ?_
    |refine .flat _ (hC) rfl ?_
    |refine .lead _ (hF) ?_
    |(refine .aO [0,1,2,3,4,8,9,10,11,12,16,26,37] hK ?_;clear hK K)
    |(with_reducible refine .done (hK _ ?_);clear hK K)
    |refine U.of rfl ?_
    |(with_reducible refine ar.aU (fun h =>?_) (fun h =>?_) <;>try simp only[h])) <;>try simp only[aX,R,simprocAttr])
   all_goals clear R
   all_goals rfl
  |some b =>
   rw[hg] at hk
   have hB:=rr m b
   have R:=And.intro @hn (And.intro @hk (And.intro @gv fb))
   repeat' ((first
    |(with_reducible refine .guard (fun hb =>?_) (fun hb =>?_) <;>try simp only[hb])
    |refine U.aW (by decide +kernel) rfl fun K hK =>?_
    |refine .flat _ (hM) rfl ?_
    |refine .flat _ (hC) rfl ?_
    |refine .lead _ (hF) ?_
    |refine .lead _ (hB) ?_
    |(refine .aO [0,1,2,3,4,8,9,10,11,12,16,26,37] hK ?_;clear hK K)
    |(with_reducible refine .done (hK _ ?_);clear hK K)
    |refine U.of rfl ?_
    |(with_reducible refine ar.aU (fun h =>?_) (fun h =>?_) <;>try simp only[h])) <;>try simp only[aX,R,simprocAttr])
   all_goals clear R
 ·have hn:=pn he
  have R:=And.intro @hn (And.intro @he (And.intro @gv fb))
  repeat' ((first
   |(with_reducible refine .guard (fun hb =>?_) (fun hb =>?_) <;>try simp only[hb])
   |refine U.aW (by decide +kernel) rfl fun K hK =>?_
   |refine .flat _ (hM) rfl ?_
   |refine .flat _ (hC) rfl ?_
   |(refine .aO [0,1,2,3,4,8,9,10,11,12,16,26,37] hK ?_;clear hK K)
   |(with_reducible refine .done (hK _ ?_);clear hK K)
   |refine U.of rfl ?_
   |(with_reducible refine ar.aU (fun h =>?_) (fun h =>?_) <;>try simp only[h])) <;>try simp only[aX,R,simprocAttr])
  all_goals clear R
  all_goals rfl
def ri(m:bX)(l:List ay)(known:Int):List Int×Int:=if ee m then (if fy l [] [known]=0 then
 (dC (((cL l 100000 known).filter fun b=>decide (0<b.ju) && !decide (b.ju∈(iJ m b.cg).1)).map (·.no)),0) else ([],fy l [] [known])) else ([],13)
theorem Nv(m:bX)(l:List ay)(known:Int):aB Tryz.prog 16 [enc m,enc l,enc known] (.tuple [enc (ri m l known).1,enc (ri m l known).2]):=by
 refine aB.bu Tryz.func16 Qb RU TS (Nat.le_of_ble_eq_true rfl) (fun hwf W0 D0 E1 =>?_)
 simp only[zW,KF,bp,Nat.zero_add,Nat.reduceAdd]
 clear hwf
 have hM:=tU m
 have hC:=pR l [] [known]
 simp only[ri]
 rcases hm:ee m
 ·rw[hm,if_neg (by decide)] at hM
  have R:=And.intro @gv fb
  repeat' ((first
   |(with_reducible refine .guard (fun hb =>?_) (fun hb =>?_) <;>try simp only[hb])
   |refine U.aW (by decide +kernel) rfl fun K hK =>?_
   |refine .flat _ (hM) rfl ?_
   |(refine .aO [0,1,2,3,6,7,8,9,13,20] hK ?_;clear hK K)
   |(with_reducible refine .done (hK _ ?_);clear hK K)
   |refine U.of rfl ?_
   |(with_reducible refine ar.aU (fun h =>?_) (fun h =>?_) <;>try simp only[h])) <;>try simp only[aX,R,simprocAttr])
  all_goals clear R
  all_goals rfl
 rw[hm,if_pos rfl] at hM
 generalize hc:fy l [] [known]=e at hC ⊢
 by_cases he:e=0
 ·have hn:=pk he
  subst he
  have hok:=nC hc
  have hF:=rq l known hok
  have hb:=ql hok 100000 known
  have hN:=tV (cL l 100000 known) hb.2.1 73 [.ref (enc m)] (by simp[I.eR,I.done,dT]) (fun b=>decide (0<b.ju) && !decide (b.ju∈(iJ m b.cg).1)) (fun b _=>N8 m b)
  have R:=And.intro @hn (And.intro @gv (And.intro @pj fb))
  repeat' ((first
   |(with_reducible refine .guard (fun hb =>?_) (fun hb =>?_) <;>try simp only[hb])
   |refine U.aW (by decide +kernel) rfl fun K hK =>?_
   |refine .flat _ (hM) rfl ?_
   |refine .flat _ (hC) rfl ?_
   |refine .lead _ (hF) ?_
   |(refine .aO [0,1,2,3,6,7,8,9,13,20] hK ?_;clear hK K)
   |(with_reducible refine .done (hK _ ?_);clear hK K)
   |refine U.of rfl ?_
   |(with_reducible refine ar.aU (fun h =>?_) (fun h =>?_) <;>try simp only[h])) <;>try simp only[aX,R,simprocAttr])
  all_goals clear R
  refine .ib [3] _ rfl hN ?_ ?_ ?_
  ·simp[a6,bY,cz,au,iG,aj,hE,nM,dT]
  ·simp[bd,c4]
  ·try simp only[gI,List.map_cons,List.map_nil,fb,J,simprocAttr]
   have R:=fb
   repeat' ((first
    |(with_reducible refine .guard (fun hb =>?_) (fun hb =>?_) <;>try simp only[hb])
    |refine U.aW (by decide +kernel) rfl fun K hK =>?_
    |(refine .aO [0,1,2,3,6,7,8,9,13,20] hK ?_;clear hK K)
    |(with_reducible refine .done (hK _ ?_);clear hK K)
    |refine U.of rfl ?_
    |(with_reducible refine ar.aU (fun h =>?_) (fun h =>?_) <;>try simp only[h])) <;>try simp only[aX,R,simprocAttr])
   all_goals clear R
 ·have hn:=pn he
  have R:=And.intro @hn (And.intro @he (And.intro @gv fb))
  repeat' ((first
   |(with_reducible refine .guard (fun hb =>?_) (fun hb =>?_) <;>try simp only[hb])
   |refine U.aW (by decide +kernel) rfl fun K hK =>?_
   |refine .flat _ (hM) rfl ?_
   |refine .flat _ (hC) rfl ?_
   |(refine .aO [0,1,2,3,6,7,8,9,13,20] hK ?_;clear hK K)
   |(with_reducible refine .done (hK _ ?_);clear hK K)
   |refine U.of rfl ?_
   |(with_reducible refine ar.aU (fun h =>?_) (fun h =>?_) <;>try simp only[h])) <;>try simp only[aX,R,simprocAttr])
  all_goals clear R
  all_goals rfl
end Go.Proofs.YtcldiigclhgafaaGreat
namespace Go.Proofs.YtcldiigclhgafaaGreat
open Go Go.Abs Go.ChangeShapes Go.WideShapes Go.RowKit
open Go.Abs.Enc (enc)
theorem Tryz.own:ownKnob Tryz.prog.godebug=none:=by kernel_rfl
theorem Tryz.adZ:laidOutB Tryz.prog=true:=by kernel_rfl
theorem xa:jr Tryz.prog 3 Int:=af5 (by kernel_rfl) (by kernel_rfl)
theorem aeS:jr Tryz.prog 29 (List Int):=JP (by kernel_rfl) xa (by kernel_rfl)
theorem aeT:jr Tryz.prog 28 iW:=JO (IC (by kernel_rfl)) xa (by kernel_rfl) (by decide)
theorem ag0{w:World}{D:aH}{E:aS}{x y z:I}{a b c:Value}(hx:∃ cs,bB x a cs∧af w D E x cs)(hy:∃ cs,bB y b cs∧af w D E y cs)(hz:∃ cs,bB z c cs∧af w D E z cs):aD w D E [x,y,z] [a,b,c]:=by
 obtain ⟨c1,h1,h2⟩:=hx
 obtain ⟨c2,h3,h4⟩:=hy
 obtain ⟨c3,h5,h6⟩:=hz
 simp only[aD]
 exact ⟨a,[b,c],c1,rfl,h1,h2,b,[c],c2,rfl,h3,h4,c,[],c3,rfl,h5,h6,rfl⟩
end Go.Proofs.YtcldiigclhgafaaGreat
namespace Go.Proofs.YtcldiigclhgafaaGreat
open Go Go.Abs
open Go.Abs.Enc (enc)
theorem Pv(w:aM 5 Int)(n:Int):dM [enc (a5 0 0 0 0 0),.int .i64 0,.nils 7] [(0,enc w),(1,.int .i64 n)]=some [enc w,.int .i64 n,.nils 7]:=by
 have h1:((enc w:I).b9=true∧(enc w:I).size=(enc (a5 0 0 0 0 0)).size):=⟨dG _,by rw[fX,fX]⟩
 rw[oj (z:=enc (a5 0 0 0 0 0)) rfl h1.1 h1.2,oj (v:=.int .i64 n) (z:=.int .i64 0) rfl rfl rfl];rfl
theorem lS(w:aM 5 Int)(n:Int)(x:I)(h1:x.b9=true)(h2:x.aJ=.one)(h3:x.size=1):(I.agg [enc w,.int .i64 n,x]).b9=true∧bU (some 7) (I.agg [enc w,.int .i64 n,x])=true∧(I.agg [enc w,.int .i64 n,x]).aJ=.dZ [.dZ (List.replicate 5 .one),.one,.one]:=by
 refine ⟨rfl,?_,?_⟩
 ·simp[bU,I.isAgg,I.size,I.sizes,fX,h3,kq,kr]
 ·simp[I.aJ,I.cQ,eH,h2,rU,rV]
theorem xd(w:aM 5 Int)(n:Int)(x:I)(v:I):dQ [enc w,.int .i64 n,x] 2 6 v=some v:=lA (Nat.le_of_ble_eq_true rfl) (by simp[I.sizes,I.size,fX,kq,kr])
theorem N4(c:List Int)(hl:c.length≤4611686018427387904):aB Tryz.prog 24 [enc c] (enc (m8 c)):=by
 refine aB.bu Tryz.func24 QK Sv Uu (Nat.le_of_ble_eq_true rfl) (fun hwf W0 D0 E1 =>?_)
 simp only[AE,Lf,bp]
 refine .ak (by decide +kernel) fun K hK =>?_
 simp only[Gr,J,simprocAttr]
 refine .done (hK _ ?_);clear hK K
 obtain ⟨w,hw⟩:∃ w,w=fv c 5:=⟨_,rfl⟩
 obtain ⟨f,hf⟩:∃ f,f=bL c 5%2:=⟨_,rfl⟩
 refine .ak (by decide +kernel) fun K hK =>?_
 simp only[Gs,J,simprocAttr]
 try simp only[cT,J,simprocAttr]
 refine .lead _ (Of c hl) ?_
 try simp only[cT,J,simprocAttr]
 refine .flat _ (lN c 5 hl) rfl ?_
 try simp only[J,simprocAttr]
 refine .flat _ (gC (bL c 5) 2 (by decide) (by decide)) rfl ?_
 try simp only[BP,Pv,←hw,←hf,J,simprocAttr]
 obtain ⟨q1,q2,q3⟩:=lS w f (.nils 7) rfl rfl rfl
 rw[ep q1 q2 (q3.trans (lS (a5 0 0 0 0 0) 0 (.nils 7) rfl rfl rfl).2.2.symm)]
 try simp only[gf,J,simprocAttr]
 refine .done (hK _ ?_);clear hK K
 refine .ak (by decide +kernel) fun K hK =>?_
 simp only[Gt,J,simprocAttr]
 refine .done (hK _ ?_);clear hK K
 refine U.seq (U.seq ?_)
 refine .bj (by decide +kernel) fun K hK =>?_
 simp only[Gu,J,simprocAttr]
 refine .done (hK _ ?_);clear hK K;try simp only[ao]
 refine U.block (U.loop (fun i:Nat=>au [(0,enc c),(2,.ptr 2 []),(3,.ptr 3 []),(4,.int .i64 (cW c i).1),(5,.int .i64 i)] [(1,.bS 63 7 ((cW c i).2.map enc)),(2,.box (.agg [enc (a5 0 0 0 0 0),.int .i64 0,.nils 7])),(3,.box (.agg [enc w,.int .i64 f,.own 1 (cW c i).2.length]))]) (fun i=>i≤12) (fun i=>12-i) 0 (by omega) ?_ (fun i hi =>?_))
 ·refine aE.yT 3 1 63 7 7 [2] (.agg [enc w,.int .i64 f,.nils 7]) ?_ rfl ?_ ?_
  ·try simp only[J,simprocAttr]
  ·try simp only[J,simprocAttr]
  ·have e1:(I.agg [enc w,.int .i64 f,.nils 7]).dx [2] (.own 1 0)=.agg [enc w,.int .i64 f,.own 1 0]:=rfl
   rw[e1]
   simp only[cW,List.map_nil,List.length_nil]
   refine aE.bP ?_ ?_ ?_ ?_ <;>simp[aT,bJ,bI,bd,al,aV,cw,I.only,I.bV,ah.only,bt]
 obtain ⟨b1,b2,b3,_,_⟩:=wL c i
 have q4:=Jb (c.getD i 0)
 have fin12:¬ (i<c.length∧i<12∧(cW c i).2.length<9)→(m8 c).given=(cW c i).2:=by
  intro hn
  by_cases e:i=12
  ·subst e;rfl
  ·have:cW c 12=cW c i:=I2 (fun hh=>hn ⟨hh.1,by omega,hh.2⟩) 12 hi
   simp only[m8,jA,this]
 refine U.seq (U.seq ?_)
 refine .bj (by decide +kernel) fun K hK =>?_
 simp only[Gv,J,simprocAttr]
 try simp only[bK,J,simprocAttr]
 generalize hz:decide ((i:Int)<c.length)=bz
 cases bz
 ·have hout:=fin12 (fun hh=>by simp at hz;omega)
  try simp only[J,simprocAttr]
  refine .done (hK _ ?_);clear hK K;try simp only[ao]
  refine U.bD ?_
  simp only[ar,J,simprocAttr]
  refine ⟨fun h =>?_,fun h =>?_⟩
  ·cases h
  refine U.exit ?_;try simp only[ao,bH,simprocAttr]
  refine .ak (by decide +kernel) fun K hK =>?_
  simp only[r9,J,simprocAttr]
  obtain ⟨s1,s2,s3⟩:=lS w f (.own 1 (cW c i).2.length) rfl rfl rfl
  try simp only[s2,J,simprocAttr]
  rw[ep s1 s2 (s3.trans (lS (a5 0 0 0 0 0) 0 (.nils 7) rfl rfl rfl).2.2.symm)]
  try simp only[gf,J,simprocAttr]
  refine .done (hK _ ?_);clear hK K
  refine U.ret ?_
  simp only[J,simprocAttr]
  try simp only[s2,mQ (α:=b7) 7 rfl rfl,cT,J,simprocAttr]
  have hfin:(⟨w,f,(cW c i).2⟩:bX)=m8 c:=by rw[←hout,hw,hf];rfl
  rw[p9,hfin]
 have hic:i<c.length:=by simpa using hz
 try simp only[J,simprocAttr]
 generalize hz2:decide ((i:Int)<12)=bz
 cases bz
 ·have hout:=fin12 (fun hh=>by simp at hz2;omega)
  try simp only[J,simprocAttr]
  refine .done (hK _ ?_);clear hK K
  refine U.bD ?_
  simp only[ar,J,simprocAttr]
  refine ⟨fun h =>?_,fun h =>?_⟩
  ·cases h
  refine U.exit ?_;try simp only[ao,bH,simprocAttr]
  refine .ak (by decide +kernel) fun K hK =>?_
  simp only[r9,J,simprocAttr]
  obtain ⟨s1,s2,s3⟩:=lS w f (.own 1 (cW c i).2.length) rfl rfl rfl
  try simp only[s2,J,simprocAttr]
  rw[ep s1 s2 (s3.trans (lS (a5 0 0 0 0 0) 0 (.nils 7) rfl rfl rfl).2.2.symm)]
  try simp only[gf,J,simprocAttr]
  refine .done (hK _ ?_);clear hK K
  refine U.ret ?_
  simp only[J,simprocAttr]
  try simp only[s2,mQ (α:=b7) 7 rfl rfl,cT,J,simprocAttr]
  have hfin:(⟨w,f,(cW c i).2⟩:bX)=m8 c:=by rw[←hout,hw,hf];rfl
  rw[p9,hfin]
 have hi12:i<12:=by simp at hz2;omega
 try simp only[xd,cC,J,simprocAttr]
 rw[ad7 _ 1 _ 63 7 (cW c i).2 (by simp only[J,simprocAttr]) rfl]
 try simp only[J,simprocAttr]
 generalize hz3:decide (((cW c i).2.length:Int)<9)=bz
 cases bz
 ·have hout:=fin12 (fun hh=>by simp at hz3;omega)
  try simp only[cC,bK,kB,cT,J,simprocAttr]
  refine .done (hK _ ?_);clear hK K
  refine U.bD ?_
  simp only[ar,J,simprocAttr]
  refine ⟨fun h =>?_,fun h =>?_⟩
  ·cases h
  refine U.exit ?_;try simp only[ao,bH,simprocAttr]
  refine .ak (by decide +kernel) fun K hK =>?_
  simp only[r9,J,simprocAttr]
  obtain ⟨s1,s2,s3⟩:=lS w f (.own 1 (cW c i).2.length) rfl rfl rfl
  try simp only[s2,J,simprocAttr]
  rw[ep s1 s2 (s3.trans (lS (a5 0 0 0 0 0) 0 (.nils 7) rfl rfl rfl).2.2.symm)]
  try simp only[gf,J,simprocAttr]
  refine .done (hK _ ?_);clear hK K
  refine U.ret ?_
  simp only[J,simprocAttr]
  try simp only[s2,mQ (α:=b7) 7 rfl rfl,cT,J,simprocAttr]
  have hfin:(⟨w,f,(cW c i).2⟩:bX)=m8 c:=by rw[←hout,hw,hf];rfl
  rw[p9,hfin]
 have hi9:(cW c i).2.length<9:=by simp at hz3;omega
 try simp only[cC,bK,kB,cT,J,simprocAttr]
 refine .done (hK _ ?_);clear hK K
 refine U.bD ?_
 simp only[ar,J,simprocAttr]
 refine ⟨fun h =>?_,fun h =>?_⟩
 case refine_2.true.true.true.refine_2=>cases h
 have hbk:xh ⟨w,f,(cW c i).2⟩:=by rw[hw,hf];exact afM (Jx c (by omega))
 have hstep:cW c (i+1)=qA c i (cW c i):=by simp only[cW,if_pos (show i<c.length∧(cW c i).2.length<9 from ⟨hic,hi9⟩)]
 generalize cW c i=p at *
 obtain ⟨o,l⟩:=p
 simp only at *
 refine U.skip ?_;try simp only[ao,simprocAttr]
 refine U.seq (U.block ?_)
 refine .ak (by decide +kernel) fun K hK =>?_
 simp only[Gw,J,simprocAttr]
 try simp only[wj hic,J,simprocAttr]
 refine .flat _ (gC (c.getD i 0) 4 (by decide) (by decide)) rfl ?_
 try simp only[J,simprocAttr]
 rw[cA _ (show -9223372036854775808≤1+c.getD i 0%4 by omega) (by omega),cA _ (by omega) (by omega)]
 refine .done (hK _ ?_);clear hK K
 obtain ⟨o2,ho2⟩:∃ o2,o2=o+(1+c.getD i 0%4):=⟨_,rfl⟩
 rw[←ho2]
 refine .ak (by decide +kernel) fun K hK =>?_
 simp only[Gx,J,simprocAttr]
 try simp only[wj hic,J,simprocAttr]
 rw[cA ((i:Int)*2503) (by omega) (by omega)]
 refine .flat _ (gC _ 15625 (by decide) (by decide)) rfl ?_
 try simp only[J,simprocAttr]
 refine .lead _ (Og _) ?_
 have hmark:jP (IntKind.i64.wrap (IntKind.i64.wrap (c.getD i 0*7)+i*2503)%15625) 6=(lx c i 0).mark:=rfl
 rw[hmark]
 obtain ⟨mk,hmk⟩:∃ mk,mk=(lx c i 0).mark:=⟨_,rfl⟩
 rw[←hmk]
 try simp only[BQ,Pr,Wh,ahs,J,simprocAttr]
 refine .done (hK _ ?_);clear hK K
 obtain ⟨s1,s2,s3⟩:=lS w f (.own 1 l.length) rfl rfl rfl
 have hokm:dH mk=true:=by rw[hmk];exact Jz _
 refine .ak (by decide +kernel) fun K hK =>?_
 simp only[Gy,J,simprocAttr]
 try simp only[s2,mQ (α:=b7) 7 rfl rfl,cC,p9,cT,J,simprocAttr]
 refine .flat _ (Oh ⟨w,f,l⟩ mk hbk hokm) rfl ?_
 obtain ⟨near,hnear⟩:∃ near,near=l.any (fun h=>jK ⟨w,f,l⟩ h.mark mk):=⟨_,rfl⟩
 have hst:cW c (i+1)=(o2,if near then l else l++[⟨o2,mk⟩]):=by
  rw[hstep,qA,hnear,ho2,hmk,hw,hf];rfl
 have hnear':(l.any fun g=>decide ((ev (iy w g.mark mk) 6:Int)≤IntKind.i64.wrap (2*f)))=near:=by rw[hnear];rfl
 try simp only[hnear',J,simprocAttr]
 refine .done (hK _ ?_);clear hK K
 cases near
 ·rw[if_neg (by simp)] at hst
  refine U.bD ?_
  simp only[ar,J,simprocAttr]
  refine ⟨fun h =>?_,fun h =>?_⟩
  ·refine .bj (by decide +kernel) fun K hK =>?_
   simp only[Gz,J,simprocAttr]
   try simp only[xd,p5 7 (⟨o2,mk⟩:b7) rfl,cC,cT,J,simprocAttr]
   rw[nA (α:=b7) 63 7 56 1 rfl rfl (by simp) (by simp[maxLen];omega) (by simp;omega)]
   try simp only[xd,cC,J,simprocAttr]
   rw[ep (s:=none) (v:=.own 1 (l++[(⟨o2,mk⟩:b7)]).length) (old:=.own 1 l.length) rfl rfl rfl]
   have hset:(I.agg [enc w,.int .i64 f,.own 1 l.length]).dx [2] (.own 1 (l++[(⟨o2,mk⟩:b7)]).length)=.agg [enc w,.int .i64 f,.own 1 (l++[(⟨o2,mk⟩:b7)]).length]:=rfl
   try simp only[hset,J,simprocAttr]
   refine .done (hK _ ?_);clear hK K;try simp only[ao,bH]
   refine .bj (by decide +kernel) fun K hK =>?_
   simp only[vG,J,simprocAttr]
   refine .done (hK _ ?_);clear hK K;try simp only[ao]
   refine ⟨i+1,by omega,by omega,?_⟩
   rw[cA _ (by omega) (by omega),hst]
   refine aE.bP ?_ ?_ ?_ ?_ <;>simp[aT,bJ,bI,bd,al,aV,cw,I.only,I.bV,ah.only,eh,gw,bt]
  ·cases h
 ·rw[if_pos rfl] at hst
  refine U.bD ?_
  simp only[ar,J,simprocAttr]
  refine ⟨fun h =>?_,fun h =>?_⟩
  ·cases h
  refine U.skip ?_;try simp only[ao,bH,simprocAttr]
  refine .bj (by decide +kernel) fun K hK =>?_
  simp only[vG,J,simprocAttr]
  refine .done (hK _ ?_);clear hK K;try simp only[ao]
  refine ⟨i+1,by omega,by omega,?_⟩
  rw[cA _ (by omega) (by omega),hst]
  refine aE.bP ?_ ?_ ?_ ?_ <;>simp[aT,bJ,bI,bd,al,aV,cw,I.only,I.bV,ah.only,eh,bt]
theorem er.af0{aw:Bool}{ρ:List (Nat×Nat)}{k:Nat}{x:ah}{os0:List (Nat×ah)}{r c:I}(h1:∀ p,c.only p=true)(h2:aw=true→c.cV=true)(h3:r.only (al [(k,.box c)])=true)(h4:aw=true→r.cV=true):er aw ρ [(k,x)] os0 r [(k,.box c)]:=by
 refine ⟨fun m x h =>?_,fun m m' h h' _ =>?_,fun m h =>?_,fun m h h' =>?_,h3,h4⟩
 ·simp only[aj] at h
  split at h
  ·simp only[Option.some.injEq] at h;subst h;exact ⟨h1 _,rfl,h2⟩
  ·cases h
 ·rw[df.1 h,df.1 h']
 ·rw[df.1 h];exact df.2 rfl
 ·rw[df.1 h] at h'
  have:al [(k,x)] k=true:=df.2 rfl
  rw[this] at h';cases h'
theorem wN(p:Nat→Bool)(l:List ay):(I.agg (l.map enc)).only p=true:=by simp only[I.only];exact eh p l
theorem Ob(l:List ay)(i:Nat)(hi:i<l.length)(hlen:l.length≤60):aB Tryz.prog 78 [enc l,enc (i:Int)] (enc (eQ l i)):=by
 have hne:l≠[]:=fun e=>by rw[e] at hi;simp at hi
 have hdl:=BH hi
 refine aB.bu Tryz.func78 Q2 SM UL (Nat.le_of_ble_eq_true rfl) (fun hwf W0 D0 E1 =>?_)
 simp only[AU,Lw,bp,Nat.zero_add]
 clear hwf
 refine .ak (by decide +kernel) fun K hK =>?_
 simp only[Hg,J,simprocAttr]
 refine .done (hK _ ?_);clear hK K
 refine .ak (by decide +kernel) fun K hK =>?_
 simp only[Hh,J,simprocAttr]
 refine .bR false [(7,6)] [] [enc l] (Bv l) rfl (Nj l (by omega)) fT.nil ⟨.inl ⟨(jR _ _).symm,bt _ _,dG _⟩,trivial⟩ ?_ ?_
 ·rintro x os' (⟨_,h | h,rfl⟩ | ⟨_,k,rfl,rfl⟩)
  ·subst h;exact er.nil (fun _=>rfl) (fun h=>by cases h)
  ·subst h;exact er.nil (fun _=>rfl) (fun h=>by cases h)
  ·exact er.sO (fun p=>wN p _) (fun h=>by cases h) rfl (fun h=>by cases h) rfl (by decide)
 ·rintro x os' (⟨hn,_,_⟩ | ⟨hn,k,rfl,rfl⟩)
  ·exact absurd hn hne
  try simp only[kG,jj,iO,List.cons_append,List.nil_append,J,simprocAttr]
  rw[cA _ (by omega) (by omega)]
  have hp1:(i:Int)+1=((i+1:Nat):Int):=by omega
  simp only[hp1]
  refine .bR false [(1000000,6)] (kG 1000000 l k) [.view 1000000 [] 17 0 l.length,enc (i:Int),enc ((i+1:Nat):Int)] (BF l i) rfl (Ni l i k hi (by omega)) ⟨?_,?_⟩ ⟨.inl ⟨?_,?_,rfl⟩,.inl ⟨rfl,rfl,rfl⟩,.inl ⟨rfl,rfl,rfl⟩,trivial⟩ ?_ ?_
  ·intro n x h
   simp only[kG,aj] at h
   split at h
   ·rename_i hn'
    subst hn'
    simp only[Option.some.injEq] at h
    subst h
    exact ⟨by simp only[jj,iO,J,simprocAttr],wN _ _,rfl⟩
   ·cases h
  ·intro a b ha hb _
   rw[df.1 ha,df.1 hb]
  ·try simp only[jj,simprocAttr]
  ·exact df.2 rfl
  ·rintro x os' ⟨q,rfl,rfl⟩
   exact er.af0 (fun p=>wN p _) (fun h=>by cases h) rfl (fun h=>by cases h)
  ·rintro x os' ⟨q,rfl,rfl⟩
   rw[←hdl]
   generalize hL:eQ l i=aC at hdl ⊢
   try simp only[kG,jj,iO,List.cons_append,List.nil_append,J,simprocAttr]
   refine .done (hK _ ?_);clear hK K
   refine U.ret ?_
   simp only[J,simprocAttr]
   try simp only[rZ (α:=ay) (sz:=17) rfl,J,simprocAttr]
   rw[hL];simp
theorem Nh(a b:List Int):aB Tryz.prog 134 [enc a,enc b] (enc (decide (a=b))):=by
 refine aB.bu Tryz.func134 PX RF TD (Nat.le_of_ble_eq_true rfl) (fun hwf W0 D0 E1 =>?_)
 simp only[zH,Kp,bp,Nat.zero_add]
 have hlen:a.length≤maxLen:=((kM a).1 hwf.1).1
 simp only[maxLen] at hlen
 clear hwf
 by_cases hl:a.length=b.length
 case neg =>
  have hn:((a.length:Int) != (b.length:Int))=true:=by simp;omega
  have R:=And.intro @hn (And.intro @bK (And.intro @bg @J))
  repeat' ((first
   |(with_reducible refine .guard (fun hb =>?_) (fun hb =>?_) <;>try simp only[hb])
   |refine U.aW (by decide +kernel) rfl fun K hK =>?_
   |(refine .aO [0,1,4,5,10,12,13,14,24] hK ?_;clear hK K)
   |(with_reducible refine .done (hK _ ?_);clear hK K)
   |refine U.of rfl ?_
   |(with_reducible refine ar.aU (fun h =>?_) (fun h =>?_) <;>try simp only[h])) <;>try simp only[aX,R,simprocAttr])
  all_goals clear R
  have:¬ a=b:=fun e=>hl (by rw[e])
  simp[this]
 have hn:((a.length:Int) != (b.length:Int))=false:=by simp;omega
 have R:=And.intro @hn (And.intro @bK (And.intro @bg @J))
 repeat' ((first
  |(with_reducible refine .guard (fun hb =>?_) (fun hb =>?_) <;>try simp only[hb])
  |refine U.aW (by decide +kernel) rfl fun K hK =>?_
  |(refine .aO [0,1,4,5,10,12,13,14,24] hK ?_;clear hK K)
  |(with_reducible refine .done (hK _ ?_);clear hK K)
  |refine U.of rfl ?_
  |(with_reducible refine ar.aU (fun h =>?_) (fun h =>?_) <;>try simp only[h])) <;>try simp only[aX,R,simprocAttr])
 all_goals clear R
 refine U.loop (fun i:Nat=>au [(0,enc a),(1,enc b),(12,.int .i64 a.length),(13,.int .i64 i)] []) (fun i=>i≤a.length∧∀ k,k<i→a[k]?=b[k]?) (fun i=>a.length-i) 0 ⟨Nat.zero_le _,fun k h=>by omega⟩ ?_ (fun i hi =>?_)
 ·refine aE.bP ?_ ?_ ?_ ?_ <;>simp[aT,bJ,bI,bd,aV,I.only,bt]
 obtain ⟨hi1,hi2⟩:=hi
 by_cases hlt:i<a.length
 ·have hc:=iI hlt
  have he:=fun A=>fL (A:=A) 1 hlt rfl
  have hlt2:i<b.length:=by omega
  have he2:=fun A=>fL (A:=A) 1 hlt2 rfl
  have hw:=fG (i:=i) (by omega)
  rcases hp:(a[i] != b[i])
  ·have R:=And.intro @hc (And.intro @he (And.intro @he2 (And.intro @hp (And.intro @hw (And.intro @kB (And.intro @bK @J))))))
   repeat' ((first
    |(with_reducible refine .guard (fun hb =>?_) (fun hb =>?_) <;>try simp only[hb])
    |refine U.aW (by decide +kernel) rfl fun K hK =>?_
    |(refine .aO [0,1,4,5,10,12,13,14,24] hK ?_;clear hK K)
    |(with_reducible refine .done (hK _ ?_);clear hK K)
    |refine U.of rfl ?_
    |(with_reducible refine ar.aU (fun h =>?_) (fun h =>?_) <;>try simp only[h])) <;>try simp only[aX,R,simprocAttr])
   all_goals clear R
   refine ⟨i+1,⟨by omega,fun k hk =>?_⟩,by omega,?_⟩
   ·by_cases e:k=i
    ·subst e
     have:a[k]=b[k]:=by simpa using hp
     simp[hlt,hlt2,this]
    ·exact hi2 k (by omega)
   ·refine aE.bP ?_ ?_ ?_ ?_ <;>simp[aT,bJ,bI,bd,aV,I.only,bt]
  ·have R:=And.intro @hc (And.intro @he (And.intro @he2 (And.intro @hp (And.intro @kB (And.intro @bK @J)))))
   repeat' ((first
    |(with_reducible refine .guard (fun hb =>?_) (fun hb =>?_) <;>try simp only[hb])
    |refine U.aW (by decide +kernel) rfl fun K hK =>?_
    |(refine .aO [0,1,4,5,10,12,13,14,24] hK ?_;clear hK K)
    |(with_reducible refine .done (hK _ ?_);clear hK K)
    |refine U.of rfl ?_
    |(with_reducible refine ar.aU (fun h =>?_) (fun h =>?_) <;>try simp only[h])) <;>try simp only[aX,R,simprocAttr])
   all_goals clear R
   have:¬ a=b:=fun e=>by subst e;simp at hp
   simp[this]
 ·have hc:=jx hlt
  have R:=And.intro @hc (And.intro @bK @J)
  repeat' ((first
   |(with_reducible refine .guard (fun hb =>?_) (fun hb =>?_) <;>try simp only[hb])
   |refine U.aW (by decide +kernel) rfl fun K hK =>?_
   |(refine .aO [0,1,4,5,10,12,13,14,24] hK ?_;clear hK K)
   |(with_reducible refine .done (hK _ ?_);clear hK K)
   |refine U.of rfl ?_
   |(with_reducible refine ar.aU (fun h =>?_) (fun h =>?_) <;>try simp only[h])) <;>try simp only[aX,R,simprocAttr])
  all_goals clear R
  have:a=b:=List.ext_getElem? fun k=>by
   by_cases hk:k<i
   ·exact hi2 k hk
   ·rw[List.getElem?_eq_none (by omega),List.getElem?_eq_none (by omega)]
  simp[this]
def rH(b:aQ):aM 8 Int:=⟨[b.no,b.dp,b.eP,b.bN,b.ju,b.born,b.dJ,if b.found then 1 else 0],rfl⟩
theorem Pq(a b c d e f g h:Int):(dM [.int .i64 0,.int .i64 0,.int .i64 0,.int .i64 0,.int .i64 0,.int .i64 0,.int .i64 0,.int .i64 0] [(0,.int .i64 a),(1,.int .i64 b),(2,.int .i64 c),(3,.int .i64 d),(4,.int .i64 e),(5,.int .i64 f),(6,.int .i64 g),(7,.int .i64 h)])=some [.int .i64 a,.int .i64 b,.int .i64 c,.int .i64 d,.int .i64 e,.int .i64 f,.int .i64 g,.int .i64 h]:=by simp[dM,I.b9,I.size]
theorem ahl{A:ab}{n:Nat}{w:I}{a b c d e f g h a' b' c' d' e' f' g' h':Int}{rest:List av} : dS A (some 8) n [] w (.agg [.int .i64 a,.int .i64 b,.int .i64 c,.int .i64 d,.int .i64 e,.int .i64 f,.int .i64 g,.int .i64 h]) rest (some (.agg [.int .i64 a',.int .i64 b',.int .i64 c',.int .i64 d',.int .i64 e',.int .i64 f',.int .i64 g',.int .i64 h'])) =
  az rest (A.aL n (.box (.agg [.int .i64 a,.int .i64 b,.int .i64 c,.int .i64 d,.int .i64 e,.int .i64 f,.int .i64 g,.int .i64 h]))):=by
 refine (ep (s:=some 8) (by rfl) (by rfl) (by rfl)).trans ?_
 rw[gf]
theorem afX{a b c d e f g h:Int} : bU (some 8) (.agg [.int .i64 a,.int .i64 b,.int .i64 c,.int .i64 d,.int .i64 e,.int .i64 f,.int .i64 g,.int .i64 h])=true:=rfl
theorem yw(b:aQ):aB Tryz.prog 133 [.ref (enc (⟨b⟩:eD))] (enc (rH b)):=by
 refine aB.bu Tryz.func133 PW RE TC (Nat.le_of_ble_eq_true rfl) (fun hwf W0 D0 E1 =>?_)
 simp only[zG,Ko,bp]
 clear hwf
 rcases hf:b.found
 all_goals
  have R:=And.intro @hf (And.intro @Pq (And.intro @ahl (And.intro @afX fb)))
  repeat' ((first
   |(with_reducible refine .guard (fun hb =>?_) (fun hb =>?_) <;>try simp only[hb])
   |refine U.aW (by decide +kernel) rfl fun K hK =>?_
   |(refine .aO [0,2,3,8] hK ?_;clear hK K)
   |(with_reducible refine .done (hK _ ?_);clear hK K)
   |refine U.of rfl ?_
   |(with_reducible refine ar.aU (fun h =>?_) (fun h =>?_) <;>try simp only[h])) <;>try simp only[aX,R,simprocAttr])
  all_goals clear R
  simp[rH,hf];rfl
def jF:Option aQ→I
 |none=>.nilp
 |some b=>.ref (enc (⟨b⟩:eD))
def oi(m:bX):Option aQ→Option aQ→Bool
 |some a,some b=>decide ((rH a).l=(rH b).l)&&decide ((iJ m a.cg).1=(iJ m b.cg).1)
 |none,none=>true
 |_,_=>false
theorem xz:mh false (some true) (some false)=some (.bool false):=rfl
theorem Oa(m:bX)(x y:Option aQ):aB Tryz.prog 77 [enc m,jF x,jF y] (enc (oi m x y)):=by
 rcases x with _ | a
 ·rcases y with _ | b
  all_goals
   simp only[jF,oi]
   refine aB.bu Tryz.func77 uu uw uG (Nat.le_of_ble_eq_true rfl) (fun hwf W0 D0 E1 =>?_)
   simp only[rM,tc,bp,Nat.zero_add,Nat.reduceAdd]
   clear hwf
   have R:=And.intro @xz (And.intro @rW (And.intro @gv fb))
   repeat' ((first
    |(with_reducible refine .guard (fun hb =>?_) (fun hb =>?_) <;>try simp only[hb])
    |refine U.aW (by decide +kernel) rfl fun K hK =>?_
    |(refine .aO [0,1,2,3,6,7,13] hK ?_;clear hK K)
    |(with_reducible refine .done (hK _ ?_);clear hK K)
    |refine U.of rfl ?_
    |(with_reducible refine ar.aU (fun h =>?_) (fun h =>?_) <;>try simp only[h])) <;>try simp only[aX,R,simprocAttr])
   all_goals clear R
 rcases y with _ | b
 ·simp only[jF,oi]
  refine aB.bu Tryz.func77 uu uw uG (Nat.le_of_ble_eq_true rfl) (fun hwf W0 D0 E1 =>?_)
  simp only[rM,tc,bp,Nat.zero_add,Nat.reduceAdd]
  clear hwf
  have R:=And.intro @xz (And.intro @rW (And.intro @gv fb))
  repeat' ((first
   |(with_reducible refine .guard (fun hb =>?_) (fun hb =>?_) <;>try simp only[hb])
   |refine U.aW (by decide +kernel) rfl fun K hK =>?_
   |(refine .aO [0,1,2,3,6,7,13] hK ?_;clear hK K)
   |(with_reducible refine .done (hK _ ?_);clear hK K)
   |refine U.of rfl ?_
   |(with_reducible refine ar.aU (fun h =>?_) (fun h =>?_) <;>try simp only[h])) <;>try simp only[aX,R,simprocAttr])
  all_goals clear R
 simp only[jF,oi]
 refine aB.bu Tryz.func77 uu uw uG (Nat.le_of_ble_eq_true rfl) (fun hwf W0 D0 E1 =>?_)
 simp only[rM,tc,bp,Nat.zero_add,Nat.reduceAdd]
 clear hwf
 have ha:=rr m a
 have hyB:=rr m b
 have h3:=yw a
 have h4:=yw b
 have R:=And.intro @xz (And.intro @rW (And.intro @gv fb))
 repeat' ((first
  |(with_reducible refine .guard (fun hb =>?_) (fun hb =>?_) <;>try simp only[hb])
  |refine U.aW (by decide +kernel) rfl fun K hK =>?_
  |refine .flat _ (h3) rfl ?_
  |refine .flat _ (h4) rfl ?_
  |refine .lead _ (ha) ?_
  |refine .lead _ (hyB) ?_
  |refine .flat _ (Nh _ _) rfl ?_
  |(refine .aO [0,1,2,3,6,7,13] hK ?_;clear hK K)
  |(with_reducible refine .done (hK _ ?_);clear hK K)
  |refine U.of rfl ?_
  |(with_reducible refine ar.aU (fun h =>?_) (fun h =>?_) <;>try simp only[h])) <;>try simp only[aX,R,List.cons_append,simprocAttr])
 all_goals clear R
 all_goals simp_all
def tp(m:bX)(l:List ay)(no known:Int)(i:Nat):Bool := !oi m (dw (cL l 100000 known) no) (dw (cL (eQ l i) 100000 known) no)
def jk(m:bX)(l:List ay)(no known:Int)(n:Nat):List Item:=((List.range n).filter (tp m l no known)).map fun i=>(ae l i).bL
theorem agN(m:bX)(l:List ay)(no known:Int)(n:Nat):jk m l no known (n+1)=jk m l no known n++if tp m l no known n then [(ae l n).bL] else []:=by
 simp only[jk,List.range_succ,List.filter_append,List.map_append,List.filter_cons,List.filter_nil]
 congr 1
 split <;>rfl
theorem agM(m:bX)(l:List ay)(no known:Int)(n:Nat):(jk m l no known n).length≤n:=by
 simp only[jk,List.length_map]
 have:=List.length_filter_le (tp m l no known) (List.range n)
 simpa using this
def tq(m:bX)(l:List ay)(no known:Int):List Item×Int:=if (kR m l no known).2=0 then (jk m l no known l.length,0) else ([],(kR m l no known).2)
theorem O2{m:bX}{l:List ay}{no known:Int}(h:(kR m l no known).2=0):dW l=true:=by
 simp only[kR] at h
 repeat' split at h
 all_goals first | (exact nC (by assumption)) | (simp_all;done) | exact nC h
theorem JL(p:Nat→Bool)(x:Option aQ):(jF x).only p=true:=by cases x <;>simp[jF,I.only,bt]
theorem xk{l:List ay} : dW l=true↔l.length≤60∧(∀ x∈l,ij x=true)∧l.Pairwise fun a b=>before a.bL b.bL=true:=by
 constructor
 ·intro h
  refine ⟨qE h,fun x hx =>?_,List.pairwise_iff_getElem.2 fun i j hi hj hij =>?_⟩
  ·obtain ⟨i,hi,rfl⟩:=List.getElem_of_mem hx
   have:=xj h hi
   rwa [←lX hi] at this
  ·have:=Jt h hij hj
   rwa [←lX hi,←lX hj] at this
 ·rintro ⟨h1,h2,h3⟩
  refine Js h1 fun i hi =>?_
  simp only[jZ,Bool.and_eq_true,Bool.or_eq_true,decide_eq_true_eq]
  refine ⟨by rw[←lX hi];exact h2 _ (List.getElem_mem hi),?_⟩
  by_cases h0:i=0
  ·exact .inl h0
  ·right
   have:=List.pairwise_iff_getElem.1 h3 (i-1) i (by omega) hi (by omega)
   rwa [lX,lX] at this
theorem afL{l l':List ay}(hs:l'.Sublist l)(h:dW l=true):dW l'=true:=by
 obtain ⟨h1,h2,h3⟩:=xk.1 h
 exact xk.2 ⟨Nat.le_trans hs.length_le h1,fun x hx=>h2 x (hs.subset hx),h3.sublist hs⟩
theorem VR(l:List ay)(i:Nat):(eQ l i).Sublist l:=by
 have:=(List.take_append_drop i l)
 simp only[eQ]
 conv=>rhs;rw[←this]
 refine List.Sublist.append_left ?_ _
 rw[←List.drop_drop]
 exact List.drop_sublist _ _
theorem afJ{l:List ay}(hok:dW l=true)(i:Nat):dW (eQ l i)=true:=afL (VR l i) hok
theorem NN(m:bX)(l:List ay)(no known:Int):aB Tryz.prog 18 [enc m,enc l,enc no,enc known] (.tuple [enc (tq m l no known).1,enc (tq m l no known).2]):=by
 refine aB.bu Tryz.func18 Qs Sc Uc (Nat.le_of_ble_eq_true rfl) (fun hwf W0 D0 E1 =>?_)
 simp only[Ak,KX,bp,Nat.zero_add,Nat.reduceAdd]
 clear hwf
 have hC:=tQ m l no known
 simp only[tq]
 have hok0:=O2 (m:=m) (l:=l) (no:=no) (known:=known)
 generalize kR m l no known=e at hC hok0 ⊢
 obtain ⟨e1,e2⟩:=e
 simp only at hC hok0 ⊢
 by_cases he:e2=0
 case neg =>
  have hn:=pn he
  have R:=And.intro @hn (And.intro @he (And.intro @gv fb))
  repeat' ((first
   |(with_reducible refine .guard (fun hb =>?_) (fun hb =>?_) <;>try simp only[hb])
   |refine U.aW (by decide +kernel) rfl fun K hK =>?_
   |refine .lead _ (hC) ?_
   |(refine .aO [0,1,2,3,4,8,9,11,12,13,14,15,25,35,36,37,38,55] hK ?_;clear hK K)
   |(with_reducible refine .done (hK _ ?_);clear hK K)
   |refine U.of rfl ?_
   |(with_reducible refine ar.aU (fun h =>?_) (fun h =>?_) <;>try simp only[h])) <;>try simp only[aX,R,simprocAttr])
  all_goals clear R
  all_goals rfl
 have hn:=pk he
 have hok:=hok0 he
 subst he
 have hF:=rq l known hok
 have hk:=sy (cL l 100000 known) no
 have hx:fY (.i .i64) .nilp (.int .i64 no) (dc (cL l 100000 known)) ((cL l 100000 known).map fun b=>.ref (enc (⟨b⟩:eD)))=some (jF (dw (cL l 100000 known) no),(dw (cL l 100000 known) no).isSome):=by
  rw[hk];cases dw (cL l 100000 known) no <;>rfl
 have hlen:=qE hok
 have R:=And.intro @hn (And.intro @hx (And.intro @gv fb))
 repeat' ((first
  |(with_reducible refine .guard (fun hb =>?_) (fun hb =>?_) <;>try simp only[hb])
  |refine U.aW (by decide +kernel) rfl fun K hK =>?_
  |refine .lead _ (hC) ?_
  |refine .lead _ (hF) ?_
  |(refine .aO [0,1,2,3,4,8,9,11,12,13,14,15,25,35,36,37,38,55] hK ?_;clear hK K)
  |(with_reducible refine .done (hK _ ?_);clear hK K)
  |refine U.of rfl ?_
  |(with_reducible refine ar.aU (fun h =>?_) (fun h =>?_) <;>try simp only[h])) <;>try simp only[aX,R,simprocAttr])
 all_goals clear R
 refine U.loop (fun i:Nat=>au [(1,enc l),(2,.int .i64 no),(3,.int .i64 known),(4,.ptr 4 []),(12,jF (dw (cL l 100000 known) no)),(13,.own 913 (jk m l no known i).length),(35,enc l),(36,.int .i64 l.length),(37,.int .i64 i)] [(4,.box (enc m)),(913,.bS 65 2 ((jk m l no known i).map enc))]) (fun i=>i≤l.length) (fun i=>l.length-i) 0 (Nat.zero_le _) ?_ (fun i hi =>?_)
 ·refine aE.pT 13 913 65 2 2 rfl rfl ?_
  simp only[jk,List.range_zero,List.filter_nil,List.map_nil,List.length_nil]
  refine aE.bP ?_ ?_ ?_ ?_ <;>simp[*,aT,bJ,bI,bd,al,aV,cw,I.only,I.bV,ah.only,bt,JL]
 have hRl:=agM m l no known i
 by_cases hlt:i<l.length
 ·have hc:=iI hlt
  have he:=fun A=>m0 (A:=A) hlt
  have hw:=fG (i:=i) (by omega)
  have hD:=Ob l i hlt hlen
  have hokd:=afJ hok i
  have hF2:=rq (eQ l i) known hokd
  have hk2:=sy (cL (eQ l i) 100000 known) no
  have hx2:fY (.i .i64) .nilp (.int .i64 no) (dc (cL (eQ l i) 100000 known)) ((cL (eQ l i) 100000 known).map fun b=>.ref (enc (⟨b⟩:eD)))=some (jF (dw (cL (eQ l i) 100000 known) no),(dw (cL (eQ l i) 100000 known) no).isSome):=by
   rw[hk2];cases dw (cL (eQ l i) 100000 known) no <;>rfl
  have hS:=Oa m (dw (cL l 100000 known) no) (dw (cL (eQ l i) 100000 known) no)
  have hsu:=agN m l no known i
  have hp:tp m l no known i = !oi m (dw (cL l 100000 known) no) (dw (cL (eQ l i) 100000 known) no):=rfl
  rw[hp] at hsu
  generalize oi m (dw (cL l 100000 known) no) (dw (cL (eQ l i) 100000 known) no)=b at hS hsu
  have happ:=fun (A:ab) d rest=>nA (α:=Item) (A:=A) (d:=d) 65 2 16 913 (l:=(jk m l no known i).length) (es:=jk m l no known i) (ys:=[(ae l i).bL]) (rest:=rest) rfl rfl (by simp) (by simp[maxLen];omega) (by simp;omega)
  have hbs:=p5 2 (ae l i).bL rfl
  have hol:(∀ aw A x,a6 aw A (jF x)=some (jF x)):=fun aw A x=>by cases x <;>simp[jF,a6,dT]
  cases b
  all_goals
   simp only[Bool.not_true,Bool.not_false,if_true,Bool.false_eq_true,if_false,List.append_nil] at hsu
   have R:=And.intro @hc (And.intro @he (And.intro @hw (And.intro @hx2 (And.intro @happ (And.intro @hbs (And.intro @hol (And.intro @gv fb)))))))
   repeat' ((first
    |(with_reducible refine .guard (fun hb =>?_) (fun hb =>?_) <;>try simp only[hb])
    |refine U.aW (by decide +kernel) rfl fun K hK =>?_
    |refine .lead _ (hD) ?_
    |refine .lead _ (hF2) ?_
    |refine .flat _ (hS) rfl ?_
    |(refine .aO [0,1,2,3,4,8,9,11,12,13,14,15,25,35,36,37,38,55] hK ?_;clear hK K)
    |(with_reducible refine .done (hK _ ?_);clear hK K)
    |refine U.of rfl ?_
    |(with_reducible refine ar.aU (fun h =>?_) (fun h =>?_) <;>try simp only[h])) <;>try simp only[aX,R,simprocAttr])
   all_goals clear R
   refine ⟨i+1,by omega,by omega,?_⟩
   simp only[hsu]
   refine aE.bP ?_ ?_ ?_ ?_ <;>simp[*,aT,bJ,bI,bd,al,aV,cw,I.only,I.bV,ah.only,eh,gw,bt,JL]
 ·have hc:=jx hlt
  have hie:i=l.length:=by omega
  subst hie
  have hfo:nH (jk m l no known l.length).length (some (.bS 65 2 ((jk m l no known l.length).map enc)))=some (enc (jk m l no known l.length)):=mQ 2 rfl rfl
  have R:=And.intro @hc (And.intro @hfo (And.intro @bK (And.intro @bg @J)))
  repeat' ((first
   |(with_reducible refine .guard (fun hb =>?_) (fun hb =>?_) <;>try simp only[hb])
   |refine U.aW (by decide +kernel) rfl fun K hK =>?_
   |(refine .aO [0,1,2,3,4,8,9,11,12,13,14,15,25,35,36,37,38,55] hK ?_;clear hK K)
   |(with_reducible refine .done (hK _ ?_);clear hK K)
   |refine U.of rfl ?_
   |(with_reducible refine ar.aU (fun h =>?_) (fun h =>?_) <;>try simp only[h])) <;>try simp only[aX,R,simprocAttr])
  all_goals clear R
theorem NY(a b:List Item):aB Tryz.prog 21 [enc a,enc b] (enc (decide (a=b))):=by
 refine aB.bu Tryz.func21 QD Sn Un (Nat.le_of_ble_eq_true rfl) (fun hwf W0 D0 E1 =>?_)
 simp only[Aw,K8,bp,Nat.zero_add]
 have hlen:a.length≤maxLen:=((kM a).1 hwf.1).1
 simp only[maxLen] at hlen
 clear hwf
 by_cases hl:a.length=b.length
 case neg =>
  have hn:((a.length:Int) != (b.length:Int))=true:=by simp;omega
  have R:=And.intro @hn (And.intro @bK (And.intro @bg @J))
  repeat' ((first
   |(with_reducible refine .guard (fun hb =>?_) (fun hb =>?_) <;>try simp only[hb])
   |refine U.aW (by decide +kernel) rfl fun K hK =>?_
   |(refine .aO [0,1,4,5,10,14,25] hK ?_;clear hK K)
   |(with_reducible refine .done (hK _ ?_);clear hK K)
   |refine U.of rfl ?_
   |(with_reducible refine ar.aU (fun h =>?_) (fun h =>?_) <;>try simp only[h])) <;>try simp only[aX,R,simprocAttr])
  all_goals clear R
  have:¬ a=b:=fun e=>hl (by rw[e])
  simp[this]
 have hn:((a.length:Int) != (b.length:Int))=false:=by simp;omega
 have R:=And.intro @hn (And.intro @bK (And.intro @bg @J))
 repeat' ((first
  |(with_reducible refine .guard (fun hb =>?_) (fun hb =>?_) <;>try simp only[hb])
  |refine U.aW (by decide +kernel) rfl fun K hK =>?_
  |(refine .aO [0,1,4,5,10,14,25] hK ?_;clear hK K)
  |(with_reducible refine .done (hK _ ?_);clear hK K)
  |refine U.of rfl ?_
  |(with_reducible refine ar.aU (fun h =>?_) (fun h =>?_) <;>try simp only[h])) <;>try simp only[aX,R,simprocAttr])
 all_goals clear R
 refine U.loop (fun i:Nat=>au [(0,enc a),(1,enc b),(5,.int .i64 i)] []) (fun i=>i≤a.length∧∀ k,k<i→a[k]?=b[k]?) (fun i=>a.length-i) 0 ⟨Nat.zero_le _,fun k h=>by omega⟩ ?_ (fun i hi =>?_)
 ·refine aE.bP ?_ ?_ ?_ ?_ <;>simp[aT,bJ,bI,bd,aV,I.only,bt]
 obtain ⟨hi1,hi2⟩:=hi
 by_cases hlt:i<a.length
 ·have hc:=iI hlt
  have he:=fun A=>fL (A:=A) 2 hlt rfl
  have hlt2:i<b.length:=by omega
  have he2:=fun A=>fL (A:=A) 2 hlt2 rfl
  have hw:=fG (i:=i) (by omega)
  rcases hp:decide (a[i]=b[i])
  ·have R:=And.intro @hc (And.intro @he (And.intro @he2 (And.intro @hp (And.intro @kB (And.intro @bK (And.intro @bg @J))))))
   repeat' ((first
    |(with_reducible refine .guard (fun hb =>?_) (fun hb =>?_) <;>try simp only[hb])
    |refine U.aW (by decide +kernel) rfl fun K hK =>?_
    |(refine .aO [0,1,4,5,10,14,25] hK ?_;clear hK K)
    |(with_reducible refine .done (hK _ ?_);clear hK K)
    |refine U.of rfl ?_
    |(with_reducible refine ar.aU (fun h =>?_) (fun h =>?_) <;>try simp only[h])) <;>try simp only[aX,R,simprocAttr])
   all_goals clear R
   have:¬ a=b:=fun e=>by subst e;simp at hp
   simp[this]
  ·have R:=And.intro @hc (And.intro @he (And.intro @he2 (And.intro @hp (And.intro @hw (And.intro @kB (And.intro @bK (And.intro @bg @J)))))))
   repeat' ((first
    |(with_reducible refine .guard (fun hb =>?_) (fun hb =>?_) <;>try simp only[hb])
    |refine U.aW (by decide +kernel) rfl fun K hK =>?_
    |(refine .aO [0,1,4,5,10,14,25] hK ?_;clear hK K)
    |(with_reducible refine .done (hK _ ?_);clear hK K)
    |refine U.of rfl ?_
    |(with_reducible refine ar.aU (fun h =>?_) (fun h =>?_) <;>try simp only[h])) <;>try simp only[aX,R,simprocAttr])
   all_goals clear R
   refine ⟨i+1,⟨by omega,fun k hk =>?_⟩,by omega,?_⟩
   ·by_cases e:k=i
    ·subst e
     have:a[k]=b[k]:=by simpa using hp
     simp[hlt,hlt2,this]
    ·exact hi2 k (by omega)
   ·refine aE.bP ?_ ?_ ?_ ?_ <;>simp[aT,bJ,bI,bd,aV,I.only,bt]
 ·have hc:=jx hlt
  have R:=And.intro @hc (And.intro @bK (And.intro @bg @J))
  repeat' ((first
   |(with_reducible refine .guard (fun hb =>?_) (fun hb =>?_) <;>try simp only[hb])
   |refine U.aW (by decide +kernel) rfl fun K hK =>?_
   |(refine .aO [0,1,4,5,10,14,25] hK ?_;clear hK K)
   |(with_reducible refine .done (hK _ ?_);clear hK K)
   |refine U.of rfl ?_
   |(with_reducible refine ar.aU (fun h =>?_) (fun h =>?_) <;>try simp only[h])) <;>try simp only[aX,R,simprocAttr])
  all_goals clear R
  have:a=b:=List.ext_getElem? fun k=>by
   by_cases hk:k<i
   ·exact hi2 k hk
   ·rw[List.getElem?_eq_none (by omega),List.getElem?_eq_none (by omega)]
  simp[this]
def js(a b c d e f:Int):aM 6 Int:=⟨[a,b,c,d,e,f],rfl⟩
def OY(a b c d e:Int):aM 5 Int:=⟨[a,b,c,d,e],rfl⟩
def lf(n k d kn b eP s o:Int)(r:aM 6 Int)(f:Int):ay:=⟨⟨0,n⟩,k,d,kn,b,eP,s,o,r,⟨0,f⟩⟩
def iD:List ay:=[lf 0 1 1 1 10 0 3 2 (js 0 0 0 0 0 0) 0,lf 1 1 5 5 11 10 3 2 (js 0 0 0 0 0 0) 0,lf 2 2 6 6 20 0 3 0 (js 0 0 0 0 0 0) 0,lf 3 4 6 6 20 0 0 0 (js 31 1 1 1 1 31) 0,lf 4 3 7 7 10 0 0 1 (js 0 0 0 0 0 0) 0,
 lf 5 4 6 9 20 0 0 0 (js 24 1 1 1 1 31) 0,lf 6 5 10 10 20 0 0 3 (js 0 0 0 0 0 0) 0,lf 7 4 8 11 11 0 0 0 (js 1 1 1 1 1 1) 0,lf 8 6 12 12 10 0 0 0 (js 0 0 0 0 0 0) 0,lf 9 0 0 14 0 0 0 0 (js 0 0 0 0 0 0) 5]
def lg:bX:=⟨OY 1 3 4 24 24,0,[⟨1,js 0 0 0 0 0 0⟩,⟨2,js 2 0 0 0 0 0⟩,⟨3,js 3 0 0 0 0 2⟩]⟩
theorem Oc:aB Tryz.prog 81 [] (enc iD):=by
 refine aB.bu Tryz.func81 Q3 SN UM (Nat.le_of_ble_eq_true rfl) (fun hwf W0 D0 E1 =>?_)
 simp only[AV,Lx,bp]
 clear hwf
 refine .ak (by decide +kernel) fun K hK =>?_
 simp only[Hi,J,simprocAttr]
 refine .done (hK _ ?_);clear hK K
 refine .ak (by decide +kernel) fun K hK =>?_
 simp only[Hj,J,simprocAttr]
 try simp only[dM,I.b9,I.size,I.sizes,List.set_cons_zero,List.set_cons_succ,List.getElem?_cons_zero,List.getElem?_cons_succ,and_self,J,simprocAttr]
 simp only[hP]
 rw[if_pos ⟨by rfl,by rfl⟩]
 try simp only[J,simprocAttr]
 refine .done (hK _ ?_);clear hK K
 refine U.ret ?_
 simp only[J,simprocAttr]
 try simp only[Bool.and_self,J,simprocAttr]
 rfl
theorem Od:aB Tryz.prog 82 [] (enc lg):=by
 refine aB.bu Tryz.func82 Q4 SO UN (Nat.le_of_ble_eq_true rfl) (fun hwf W0 D0 E1 =>?_)
 simp only[AW,Ly,bp]
 clear hwf
 refine .ak (by decide +kernel) fun K hK =>?_
 simp only[Hk,J,simprocAttr]
 refine .done (hK _ ?_);clear hK K
 refine .ak (by decide +kernel) fun K hK =>?_
 simp only[Hl,J,simprocAttr]
 try simp only[dM,I.b9,I.size,I.sizes,List.set_cons_zero,List.set_cons_succ,List.getElem?_cons_zero,List.getElem?_cons_succ,and_self,J,simprocAttr]
 simp only[hP]
 rw[if_pos ⟨by rfl,by rfl⟩]
 try simp only[dM,I.b9,I.size,I.sizes,List.set_cons_zero,List.set_cons_succ,List.getElem?_cons_zero,List.getElem?_cons_succ,and_self,J,simprocAttr]
 rw[ep (by rfl) (by rfl) (by rfl)]
 try simp only[gf,J,simprocAttr]
 refine .done (hK _ ?_);clear hK K
 refine U.ret ?_
 simp only[J,simprocAttr]
 rw[if_pos (by rfl)]
 try simp only[Bool.and_self,J,simprocAttr]
 rfl
def nP(x:Int):List Int→List Int
 | []=>[x]
 |y::l=>if x≤y then x::y::l else y::nP x l
def lq:List Int→List Int
 | []=>[]
 |x::l=>nP x (lq l)
theorem wg(x:Int):∀ l,(nP x l).Perm (x::l)
 | []=>.refl _
 |y::l=>by
  simp only[nP]
  split
  ·exact .refl _
  ·exact ((wg x l).cons y).trans (.swap x y l)
theorem Iv(x:Int):∀ l:List Int,l.Pairwise (· ≤ ·)→(nP x l).Pairwise (· ≤ ·)
 | [],_=>by simp[nP]
 |y::l,h=>by
  obtain ⟨h1,h2⟩:=List.pairwise_cons.1 h
  simp only[nP]
  split
  ·rename_i hxy
   refine List.pairwise_cons.2 ⟨fun z hz =>?_,h⟩
   rcases List.mem_cons.1 hz with rfl | hz
   ·exact hxy
   ·have:=h1 z hz;omega
  ·refine List.pairwise_cons.2 ⟨fun z hz =>?_,Iv x l h2⟩
   rcases List.mem_cons.1 ((wg x l).mem_iff.1 hz) with rfl | hz
   ·omega
   ·exact h1 z hz
theorem IE:∀ l,(lq l).Perm l
 | []=>.refl _
 |x::l=>(wg x _).trans ((IE l).cons x)
theorem IF:∀ l,(lq l).Pairwise (· ≤ ·)
 | []=>.nil
 |x::l=>Iv x _ (IF l)
theorem ahk{a b:List Int}(ha:a.Pairwise (· ≤ ·))(hb:b.Pairwise (· ≤ ·))(h:a.Perm b):a=b :=
 List.Perm.eq_of_pairwise (fun x y _ _ h k=>Int.le_antisymm h k) ha hb h
theorem ahh(l:List Int):(dC l).Pairwise (· ≤ ·):=by
 have hx:=List.pairwise_mergeSort (le:=fun x y:Int=>decide (x≤y)) (by intro a b c;simp;omega) (by intro a b;simp;omega) l
 exact hx.imp fun {a b} h=>by simpa using h
theorem tx(l:List Int):(dC l).Perm l:=List.mergeSort_perm _ _
theorem Mo(l:List Int):dC l=lq l:=ahk (ahh l) (IF l) ((tx l).trans (IE l).symm)
theorem Wt:mT iD 10 6 7=(2,0):=by decide +kernel
theorem Wu:kR lg iD 20 9=([3],0):=by decide +kernel
theorem Wv:kR lg iD 20 14=([1,2,3],0):=by decide +kernel
theorem Ww:ri lg iD 11=([11],0):=by
 simp only[ri,Mo];decide +kernel
theorem Wx:oP iD 2 3 7 7=(1,0):=by decide +kernel
theorem Wy:nx iD 12 12=([11,20],0):=by
 simp only[nx,Mo];decide +kernel
theorem Wz:tq lg iD 20 9=([⟨0,2⟩,⟨0,5⟩],0):=by decide +kernel
theorem Ps(b:Int):dM [.int .i64 0,.int .i64 0] [(1,.int .i64 b)]=some [.int .i64 0,.int .i64 b]:=by simp[dM,I.b9,I.size]
theorem PB(a b c d:Int):hP 2 (some [.agg [.int .i64 a,.int .i64 b],.agg [.int .i64 c,.int .i64 d]])=some (enc ([⟨a,b⟩,⟨c,d⟩]:List Item)):=mJ (ys:=([⟨a,b⟩,⟨c,d⟩]:List Item)) 2 rfl
theorem PA(a b c:Int):hP 1 (some [.int .i64 a,.int .i64 b,.int .i64 c])=some (enc [a,b,c]):=mJ (ys:=[a,b,c]) 1 rfl
theorem aho{A:ab}{n:Nat}{b:I}(m:bX)(x y z:I){rest:List av}(h:I.aJ (.agg [x,y,z])=Enc.aJ bX):dS A (some 7) n [] b (enc m) rest (some (.agg [x,y,z]))=az rest (A.aL n (.box (enc m))):=by
 refine (ep (s:=some 7) (dG _) (by rw[fJ];rfl) ((eH m).trans h.symm)).trans ?_
 rw[gf]
theorem N2:aB Tryz.prog 22 [] (enc true):=by
 have h1:=yK iD 10 6 7
 have h2:=tQ lg iD 20 9
 have h3:=tQ lg iD 20 14
 have h4:=Nv lg iD 11
 have h5:=yL iD 2 3 7 7
 have h6:=yJ iD 12 12
 have h7:=NN lg iD 20 9
 rw[Wt] at h1
 rw[Wu] at h2
 rw[Wv] at h3
 rw[Ww] at h4
 rw[Wx] at h5
 rw[Wy] at h6
 rw[Wz] at h7
 simp only at h1 h2 h3 h4 h5 h6 h7
 have h8:=fun a b=>yG a b
 refine aB.bu Tryz.func22 QI St Us (Nat.le_of_ble_eq_true rfl) (fun hwf W0 D0 E1 =>?_)
 simp only[AB,Ld,bp]
 clear hwf
 have hst:=fun (A:ab) (rest:List av)=>aho (A:=A) (n:=2) (b:=.agg [.agg [.int .i64 0,.int .i64 0,.int .i64 0,.int .i64 0,.int .i64 0],.int .i64 0,.nils 7]) lg (.agg [.int .i64 0,.int .i64 0,.int .i64 0,.int .i64 0,.int .i64 0]) (.int .i64 0) (.nils 7) (rest:=rest) rfl
 have q1:((2:Int)==2)=true:=rfl
 have q2:((1:Int)==1)=true:=rfl
 have q3:((0:Int)==0)=true:=rfl
 have R:=And.intro @hst (And.intro @q1 (And.intro @q2 (And.intro @q3 (And.intro @gv (And.intro @Ps (And.intro @PB (And.intro @zi (And.intro @p6 (And.intro @PA (And.intro @bg @J))))))))))
 repeat' ((first
  |(with_reducible refine .guard (fun hb =>?_) (fun hb =>?_) <;>try simp only[hb])
  |refine U.aW (by decide +kernel) rfl fun K hK =>?_
  |refine .lead _ (Oc) ?_
  |refine .lead _ (Od) ?_
  |refine .flat _ (h1) rfl ?_
  |refine .lead _ (h2) ?_
  |refine .lead _ (h3) ?_
  |refine .lead _ (h4) ?_
  |refine .flat _ (h5) rfl ?_
  |refine .lead _ (h6) ?_
  |refine .lead _ (h7) ?_
  |refine .flat _ (yG _ _) rfl ?_
  |refine .flat _ (NY _ _) rfl ?_
  |(refine .aO [0,1,2,3,4,5,6,7,8,9,10,11,12,13,14,15,16,17] hK ?_;clear hK K)
  |(with_reducible refine .done (hK _ ?_);clear hK K)
  |refine U.of rfl ?_
  |(with_reducible refine ar.aU (fun h =>?_) (fun h =>?_) <;>try simp only[h])) <;>try simp only[aX,R,decide_true,simprocAttr])
 all_goals clear R
 all_goals trace_state
theorem Ti(k:Nat):∀ n,ev (fun i=>i==k) n=if k<n then 1 else 0
 |0=>by simp[ev]
 |n+1=>by
  simp only[ev,Ti k n]
  by_cases h:n=k
  ·subst h;simp
  ·have h2:(n==k)=false:=by simp[h]
   simp only[h2,Bool.false_eq_true,if_false]
   by_cases h3:k<n
   ·rw[if_pos h3,if_pos (by omega)]
   ·rw[if_neg h3,if_neg (by omega)]
theorem JA{r:aM 6 Int}(h:gQ r=true){j:Nat}(hj:j<6):1≤r.g j∧r.g j≤31:=by
 simp only[gQ,List.all_eq_true,List.mem_range] at h
 have:=h j hj
 simpa only[cm,Bool.and_eq_true,decide_eq_true_eq] using this
theorem JB{r:aM 6 Int}(h:∀ j,j<6→1≤r.g j∧r.g j≤31):gQ r=true:=by
 simp only[gQ,List.all_eq_true,List.mem_range]
 intro j hj
 simp[cm,h j hj]
def qF(r:aM 6 Int)(j:Nat):Prop:=∃ k:Nat,k<5∧r.g j=shl 1 k
theorem afP{r:aM 6 Int}(h:∀ j,j<6→qF r j):gQ r=true:=JB fun j hj=>by
 obtain ⟨k,hk,e⟩:=h j hj
 rw[e];exact aha ⟨k,hk⟩
theorem I7{w:Int} : ∀ n,∀ x∈gn w n,gF w x.toNat=true
 |0=>by simp[gn]
 |n+1=>by
  intro x hx
  simp only[gn,List.mem_append] at hx
  rcases hx with hx | hx
  ·exact I7 n x hx
  ·split at hx
   ·rename_i h
    simp only[List.mem_singleton] at hx
    subst hx;simpa using h
   ·cases hx
theorem ahS{w:aM 5 Int}{a:aM 6 Int}(hw:gR w=true)(ha:dH a=true)(c:List Int){j:Nat}(hj:j<6):∃ k:Nat,k<5∧rh w a c j=shl 1 k∧gF (w.g (a.g j).toNat) k=true:=by
 have a1:=nc ha hj
 have a2:=JC hw (show (a.g j).toNat<5 by omega)
 have hp:0<(iR w a j).length:=List.length_pos_of_mem (wS a2.2 5 (by omega))
 have hc:=BD c j hp
 have hm:(iR w a j).getD (kY c j (iR w a j).length) 0∈iR w a j:=by rw[List.getD_eq_getElem?_getD,List.getElem?_eq_getElem hc];exact List.getElem_mem hc
 have h1:=wQ 5 _ hm
 exact ⟨((iR w a j).getD (kY c j (iR w a j).length) 0).toNat,by omega,rfl,I7 5 _ hm⟩
theorem MW(w:aM 5 Int)(a:aM 6 Int)(c:List Int):∀ n,n≤6→∀ j,j<n→(jM w a c n).g j=rh w a c j
 |0,_=>fun j h=>absurd h (by omega)
 |n+1,hn=>fun j hj=>by
  simp only[jM]
  rw[nK _ _ _ _ (by omega)]
  split
  ·rename_i e;subst e;rfl
  ·exact MW w a c n (by omega) j (by omega)
theorem ahT{w:aM 5 Int}{a:aM 6 Int}(hw:gR w=true)(ha:dH a=true)(c:List Int):∀ j,j<6→qF (jM w a c 6) j:=fun j hj=>by
 obtain ⟨k,hk,e,_⟩:=ahS hw ha c hj
 exact ⟨k,hk,by rw[MW w a c 6 (Nat.le_refl _) j hj,e]⟩
def ku(c:List Int)(p q:Int)(x:aM 6 Int):Nat→aM 6 Int
 |0=>x
 |i+1=>gB (ku c p q x i) (bL c (i+p)%6).toNat (shl 1 (bL c (i+q)%5).toNat)
theorem sM(n:Int):0≤n%6∧n%6<6:=⟨Int.emod_nonneg _ (by decide),Int.emod_lt_of_pos _ (by decide)⟩
theorem Jc(n:Int):0≤n%5∧n%5<5:=⟨Int.emod_nonneg _ (by decide),Int.emod_lt_of_pos _ (by decide)⟩
theorem Ja(n:Int):0≤n%32∧n%32<32:=⟨Int.emod_nonneg _ (by decide),Int.emod_lt_of_pos _ (by decide)⟩
theorem Ca{c:List Int}{p q:Int}{x:aM 6 Int}(h:∀ j,j<6→qF x j):∀ n,∀ j,j<6→qF (ku c p q x n) j
 |0=>h
 |n+1=>fun j hj=>by
  have h6:=sM (bL c (n+p))
  have h5:=Jc (bL c (n+q))
  simp only[ku,qF]
  rw[nK _ _ _ _ (by omega)]
  split
  ·exact ⟨_,by omega,rfl⟩
  ·exact Ca h n j hj
theorem Px:∀ y z:Fin 32,0≤jO (y.1:Int) (z.1:Int)∧jO (y.1:Int) (z.1:Int)≤31∧((y.1:Int)≠0→jO (y.1:Int) (z.1:Int)≠0):=by decide +kernel
theorem Py{y z:Int}(hy:1≤y∧y≤31)(hz:0≤z∧z<32):1≤jO y z∧jO y z≤31:=by
 have:=Px ⟨y.toNat,by omega⟩ ⟨z.toNat,by omega⟩
 simp only[show ((y.toNat:Nat):Int)=y by omega,show ((z.toNat:Nat):Int)=z by omega] at this
 have:=this.2.2 (by omega)
 omega
def jC(c:List Int)(x:aM 6 Int):Nat→aM 6 Int
 |0=>x
 |i+1=>gB (jC c x i) (bL c (i+7)%6).toNat (jO ((jC c x i).g (bL c (i+7)%6).toNat) (bL c (i+3)%32))
theorem Jd{c:List Int}{x:aM 6 Int}(h:gQ x=true):∀ n,gQ (jC c x n)=true
 |0=>h
 |n+1=>JB fun j hj=>by
  have h6:=sM (bL c (n+7))
  have ih:=Jd (c:=c) h n
  simp only[jC]
  rw[nK _ _ _ _ (by omega)]
  split
  ·exact Py (JA ih (by omega)) (Ja _)
  ·exact JA ih hj
def qT(m:bX)(a:aM 6 Int)(c:List Int):aM 6 Int:=jC c (ku c 2 5 (jM m.eC a c 6) m.ew.toNat) (bL c 1%4).toNat
theorem ag3{m:bX}{a:aM 6 Int}(hw:gR m.eC=true)(ha:dH a=true)(c:List Int):gQ (qT m a c)=true :=
 Jd (afP (Ca (ahT hw ha c) _)) _
theorem Jv{m:bX}(h:ee m=true):gR m.eC=true∧0≤m.ew∧m.ew≤2:=by
 simp only[ee,Bool.and_eq_true,cm,decide_eq_true_eq] at h
 exact ⟨h.1,h.2.1.1,h.2.1.2⟩
theorem Io{m:bX}(h:ee m=true){k:Nat}(hk:k<m.given.length):dH (cU m k).mark=true:=by rw[←ja hk];exact Jy h _ (List.getElem_mem hk)
theorem U2(c:List Int)(i:Nat){n:Nat}(hn:0<n)(h5:n≤1000):bL c i%(n:Int)=((kY c i n:Nat):Int):=by
 unfold kY bL
 split
 ·rename_i h;subst h;simp
 ·rename_i h
  have hp:0<c.length:=List.length_pos_iff.2 h
  have e:((i:Int)%(c.length:Int)).toNat=i%c.length:=by omega
  rw[if_pos hp,e]
  generalize c.getD (i%c.length) 0=x
  obtain ⟨_,h2⟩:=ye x n (by omega) (by omega)
  rw[h2]
  have:=Int.emod_nonneg x (show (n:Int)≠0 by omega)
  omega
theorem Ol(w:aM 5 Int)(a:aM 6 Int)(cuts:List Int)(hl:cuts.length≤4611686018427387904):aB Tryz.prog 98 [enc w,enc a,enc cuts] (.tuple [enc (oD w a cuts).1,enc (oD w a cuts).2]):=by
 refine aB.bu Tryz.func98 Rg S0 UZ (Nat.le_of_ble_eq_true rfl) (fun hwf W0 D0 E1 =>?_)
 simp only[A9,LK,bp,Nat.zero_add,Nat.reduceAdd]
 refine .ak (by decide +kernel) fun K hK =>?_
 simp only[HU,J,simprocAttr]
 try simp only[dG,nG,J,simprocAttr]
 refine .done (hK _ ?_);clear hK K
 refine U.seq (U.seq ?_)
 refine .bj (by decide +kernel) fun K hK =>?_
 simp only[HV,J,simprocAttr]
 try simp only[cC,cT,J,simprocAttr]
 refine .flat _ (On w) rfl ?_
 try simp only[J,simprocAttr]
 refine .done (hK _ ?_);clear hK K;try simp only[ao]
 generalize hw:gR w=bw
 cases bw
 ·refine U.bD ?_
  simp only[ar,J,simprocAttr]
  refine ⟨fun h =>?_,fun h =>?_⟩
  ·refine .ak (by decide +kernel) fun K hK =>?_
   simp only[HY,J,simprocAttr]
   try simp only[dM,nG,pK,J,simprocAttr]
   refine .done (hK _ ?_);clear hK K
   refine U.ret ?_
   simp only[ao,J,simprocAttr]
   try simp only[cC,cT,J,simprocAttr]
   simp[oD,hw]
  ·simp at h
 refine U.bD ?_
 simp only[ar,J,simprocAttr]
 refine ⟨fun h =>?_,fun h =>?_⟩
 ·simp at h
 refine U.skip ?_;try simp only[ao,simprocAttr]
 refine U.seq (U.seq ?_)
 refine .bj (by decide +kernel) fun K hK =>?_
 simp only[HZ,J,simprocAttr]
 try simp only[cC,cT,J,simprocAttr]
 refine .flat _ (M5 a) rfl ?_
 try simp only[J,simprocAttr]
 refine .done (hK _ ?_);clear hK K;try simp only[ao]
 generalize ha:dH a=ba
 cases ba
 ·refine U.bD ?_
  simp only[ar,J,simprocAttr]
  refine ⟨fun h =>?_,fun h =>?_⟩
  ·refine .ak (by decide +kernel) fun K hK =>?_
   simp only[H0,J,simprocAttr]
   try simp only[dM,nG,pK,J,simprocAttr]
   refine .done (hK _ ?_);clear hK K
   refine U.ret ?_
   simp only[ao,J,simprocAttr]
   try simp only[cC,cT,J,simprocAttr]
   simp[oD,hw,ha]
  ·simp at h
 refine U.bD ?_
 simp only[ar,J,simprocAttr]
 refine ⟨fun h =>?_,fun h =>?_⟩
 ·simp at h
 refine U.skip ?_;try simp only[ao,simprocAttr]
 refine .ak (by decide +kernel) fun K hK =>?_
 simp only[H2,J,simprocAttr]
 try simp only[nG,simprocAttr]
 refine .done (hK _ ?_);clear hK K
 refine U.seq (U.seq ?_)
 refine .bj (by decide +kernel) fun K hK =>?_
 simp only[H3,J,simprocAttr]
 refine .done (hK _ ?_);clear hK K;try simp only[ao]
 refine U.block (U.loop (fun i:Nat=>au [(2,enc cuts),(3,.ptr 3 []),(4,.ptr 4 []),(6,.ptr 6 []),(8,.ptr 8 []),(9,.int .i64 i)] [(3,.box (enc w)),(4,.box (enc a)),(6,.box (enc kN)),(8,.box (enc (jM w a cuts i)))]) (fun i=>i≤6) (fun i=>6-i) 0 (by omega) ?_ (fun i hi =>?_))
 ·simp only[jM]
  refine aE.bP ?_ ?_ ?_ ?_ <;>simp[aT,bJ,bI,bd,al,aV,cw,I.only,ah.only,bt]
 refine U.seq (U.seq ?_)
 refine .bj (by decide +kernel) fun K hK =>?_
 simp only[H4,J,simprocAttr]
 refine .done (hK _ ?_);clear hK K;try simp only[ao]
 refine U.bD ?_
 simp only[ar,J,simprocAttr]
 refine ⟨fun h =>?_,fun h =>?_⟩
 ·have hi6:i<6:=by simp at h;omega
  have h1:=nc ha hi6
  have h2:=JC hw (show (a.g i).toNat<5 by omega)
  have k5:(a.g i).toNat<5:=by omega
  refine U.skip ?_;try simp only[ao,simprocAttr]
  refine U.seq (U.block ?_)
  refine .ak (by decide +kernel) fun K hK =>?_
  simp only[H5,J,simprocAttr]
  try simp only[bK,jb 1 a hi6 rfl,eF a hi6,J,simprocAttr]
  try simp only[bK,fP 1 w ⟨h1.1,h1.2⟩ rfl,eF w k5,J,simprocAttr]
  refine .lead _ (Nn (w.g (a.g i).toNat)) ?_
  try simp only[J,simprocAttr]
  refine .done (hK _ ?_);clear hK K
  have hL:iR w a i=gn (w.g (a.g i).toNat) 5:=rfl
  rw[←hL]
  have hL5:(iR w a i).length≤5:=wR _ 5
  have hL0:0<(iR w a i).length:=List.length_pos_of_mem (wS h2.2 5 (by omega))
  have hLi:∀ x∈iR w a i,0≤x∧x<(5:Nat):=wQ 5
  have hV:rh w a cuts i=shl 1 ((iR w a i).getD (kY cuts i (iR w a i).length) 0).toNat:=rfl
  have hcl:=BD cuts i hL0
  generalize hLL:iR w a i=aC at hL5 hL0 hLi hV hcl ⊢
  have hin:=hLi (aC.getD (kY cuts i aC.length) 0) (by rw[List.getD_eq_getElem?_getD,List.getElem?_eq_getElem hcl];exact List.getElem_mem hcl)
  refine .bj (by decide +kernel) fun K hK =>?_
  simp only[H6,J,simprocAttr]
  try simp only[cT,J,simprocAttr]
  refine .flat _ (lN cuts i hl) rfl ?_
  try simp only[bK,J,simprocAttr]
  refine .flat _ (gC (bL cuts i) aC.length (by omega) (by omega)) rfl ?_
  rw[U2 cuts i hL0 (by omega)]
  try simp only[wj hcl,J,simprocAttr]
  have hsh:IntKind.i64.wrap (1*2^min (aC.getD (kY cuts i aC.length) 0).toNat IntKind.i64.bits)=rh w a cuts i:=hV.symm
  rw[if_pos hin.1,hsh]
  try simp only[bK,jb 1 (jM w a cuts i) hi6 rfl,eF (jM w a cuts i) hi6,ox (jM w a cuts i) hi6,J,simprocAttr]
  refine .done (hK _ ?_);clear hK K;try simp only[ao,bH]
  refine .bj (by decide +kernel) fun K hK =>?_
  simp only[HW,J,simprocAttr]
  refine .done (hK _ ?_);clear hK K;try simp only[ao]
  refine ⟨i+1,by omega,by omega,?_⟩
  rw[cA _ (by omega) (by omega),jM]
  refine aE.bP ?_ ?_ ?_ ?_ <;>simp[aT,bJ,bI,bd,al,aV,cw,I.only,ah.only,bt]
 ·have h6:i=6:=by simp at h;omega
  subst h6
  refine U.exit ?_;try simp only[ao,bH,simprocAttr]
  refine .ak (by decide +kernel) fun K hK =>?_
  simp only[HX,J,simprocAttr]
  try simp only[cC,pK,J,simprocAttr]
  refine .done (hK _ ?_);clear hK K
  refine U.ret ?_
  simp only[J,simprocAttr]
  try simp only[cC,cT,J,simprocAttr]
  simp[oD,hw,ha]
theorem N5(m:bX)(a:aM 6 Int)(c:List Int)(hl:c.length≤4611686018427387904)(hw:gR m.eC=true)(ha:dH a=true)(h0:0≤m.ew)(h2:m.ew≤2):aB Tryz.prog 35 [enc m,enc a,enc c] (enc (qT m a c)):=by
 refine aB.bu Tryz.func35 QR SB UA (Nat.le_of_ble_eq_true rfl) (fun hwf W0 D0 E1 =>?_)
 simp only[AK,Ll,bp,Nat.zero_add,Nat.reduceAdd]
 obtain ⟨r0,hr0⟩:∃ r0,r0=jM m.eC a c 6:=⟨_,rfl⟩
 have hworn:oD m.eC a c=(r0,0):=by simp[oD,hw,ha,hr0]
 refine .ak (by decide +kernel) fun K hK =>?_
 simp only[GH,J,simprocAttr]
 try simp only[dG,nG,J,simprocAttr]
 refine .done (hK _ ?_);clear hK K
 refine .ak (by decide +kernel) fun K hK =>?_
 simp only[GI,J,simprocAttr]
 try simp only[cC,cT,J,simprocAttr]
 refine .lead _ (Ol m.eC a c hl) ?_
 try simp only[hworn,cC,nG,pK,J,simprocAttr]
 refine .done (hK _ ?_);clear hK K
 refine U.seq (U.seq ?_)
 refine .bj (by decide +kernel) fun K hK =>?_
 simp only[GL,J,simprocAttr]
 refine .done (hK _ ?_);clear hK K;try simp only[ao]
 refine U.block (U.loop (fun i:Nat=>au [(2,enc c),(3,.ptr 3 []),(6,.ptr 6 []),(7,.ptr 7 []),(9,.int .i64 i)] [(3,.box (enc m)),(6,.box (enc kN)),(7,.box (enc (ku c 2 5 r0 i)))]) (fun i=>i≤m.ew.toNat) (fun i=>m.ew.toNat-i) 0 (by omega) ?_ (fun i hi =>?_))
 ·simp only[ku]
  refine aE.bP ?_ ?_ ?_ ?_ <;>simp[aT,bJ,bI,bd,al,aV,cw,I.only,ah.only,bt]
 refine U.seq (U.seq ?_)
 refine .bj (by decide +kernel) fun K hK =>?_
 simp only[GM,J,simprocAttr]
 try simp only[cC,J,simprocAttr]
 refine .done (hK _ ?_);clear hK K;try simp only[ao]
 refine U.bD ?_
 simp only[ar,J,simprocAttr]
 refine ⟨fun h =>?_,fun h =>?_⟩
 ·have hlt:(i:Int)<m.ew:=by simpa using h
  have m6:=sM (bL c (i+2))
  have m5:=Jc (bL c (i+5))
  have k6:(bL c (i+2)%6).toNat<6:=by omega
  have hv:IntKind.i64.wrap (1*2^min (bL c (i+5)%5).toNat IntKind.i64.bits)=shl 1 (bL c (i+5)%5).toNat:=rfl
  refine U.skip ?_;try simp only[ao,simprocAttr]
  refine U.seq (U.block ?_)
  refine .bj (by decide +kernel) fun K hK =>?_
  simp only[GN,J,simprocAttr]
  try simp only[cT,J,simprocAttr]
  rw[cA _ (by omega) (by omega)]
  refine .flat _ (lN c (i+2) hl) rfl ?_
  try simp only[J,simprocAttr]
  refine .flat _ (gC (bL c (i+2)) 6 (by decide) (by decide)) rfl ?_
  try simp only[cT,J,simprocAttr]
  rw[cA _ (by omega) (by omega)]
  refine .flat _ (lN c (i+5) hl) rfl ?_
  try simp only[J,simprocAttr]
  refine .flat _ (gC (bL c (i+5)) 5 (by decide) (by decide)) rfl ?_
  try simp only[J,simprocAttr]
  rw[if_pos m5.1,hv]
  try simp only[bK,fP 1 (ku c 2 5 r0 i) ⟨m6.1,m6.2⟩ rfl,eF (ku c 2 5 r0 i) k6,ox (ku c 2 5 r0 i) k6,J,simprocAttr]
  refine .done (hK _ ?_);clear hK K;try simp only[ao,bH]
  refine .bj (by decide +kernel) fun K hK =>?_
  simp only[GO,J,simprocAttr]
  refine .done (hK _ ?_);clear hK K;try simp only[ao]
  refine ⟨i+1,by omega,by omega,?_⟩
  rw[cA _ (by omega) (by omega),ku]
  refine aE.bP ?_ ?_ ?_ ?_ <;>simp[aT,bJ,bI,bd,al,aV,cw,I.only,ah.only,bt]
 have hi2:i=m.ew.toNat:=by simp at h;omega
 subst hi2
 refine U.exit ?_;try simp only[ao,bH,simprocAttr]
 obtain ⟨r1,hr1⟩:∃ r1,r1=ku c 2 5 r0 m.ew.toNat:=⟨_,rfl⟩
 rw[←hr1]
 refine U.seq (U.seq ?_)
 refine .bj (by decide +kernel) fun K hK =>?_
 simp only[GP,J,simprocAttr]
 refine .done (hK _ ?_);clear hK K;try simp only[ao]
 have q4:0≤bL c 1%4∧bL c 1%4<4:=⟨Int.emod_nonneg _ (by decide),Int.emod_lt_of_pos _ (by decide)⟩
 refine U.block (U.loop (fun i:Nat=>au [(2,enc c),(3,.ptr 3 []),(6,.ptr 6 []),(7,.ptr 7 []),(10,.int .i64 i)] [(3,.box (enc m)),(6,.box (enc kN)),(7,.box (enc (jC c r1 i)))]) (fun i=>i≤(bL c 1%4).toNat) (fun i=>(bL c 1%4).toNat-i) 0 (by omega) ?_ (fun i hi =>?_))
 ·simp only[jC]
  refine aE.bP ?_ ?_ ?_ ?_ <;>simp[aT,bJ,bI,bd,al,aV,cw,I.only,ah.only,bt]
 refine U.seq (U.seq ?_)
 refine .bj (by decide +kernel) fun K hK =>?_
 simp only[GQ,J,simprocAttr]
 try simp only[cT,J,simprocAttr]
 refine .flat _ (lN c 1 hl) rfl ?_
 try simp only[J,simprocAttr]
 refine .flat _ (gC (bL c 1) 4 (by decide) (by decide)) rfl ?_
 try simp only[J,simprocAttr]
 refine .done (hK _ ?_);clear hK K;try simp only[ao]
 refine U.bD ?_
 simp only[ar,J,simprocAttr]
 refine ⟨fun h =>?_,fun h =>?_⟩
 ·have hlt:(i:Int)<bL c 1%4:=by simpa using h
  have m6:=sM (bL c (i+7))
  have m32:=Ja (bL c (i+3))
  have k6:(bL c (i+7)%6).toNat<6:=by omega
  refine U.skip ?_;try simp only[ao,simprocAttr]
  refine U.seq (U.block ?_)
  refine .ak (by decide +kernel) fun K hK =>?_
  simp only[GR,J,simprocAttr]
  try simp only[cT,J,simprocAttr]
  rw[cA _ (by omega) (by omega)]
  refine .flat _ (lN c (i+7) hl) rfl ?_
  try simp only[J,simprocAttr]
  refine .flat _ (gC (bL c (i+7)) 6 (by decide) (by decide)) rfl ?_
  try simp only[J,simprocAttr]
  refine .done (hK _ ?_);clear hK K
  refine .bj (by decide +kernel) fun K hK =>?_
  simp only[GS,J,simprocAttr]
  try simp only[bK,fP 1 (jC c r1 i) ⟨m6.1,m6.2⟩ rfl,eF (jC c r1 i) k6,cT,J,simprocAttr]
  rw[cA _ (by omega) (by omega)]
  refine .flat _ (lN c (i+3) hl) rfl ?_
  try simp only[J,simprocAttr]
  refine .flat _ (gC (bL c (i+3)) 32 (by decide) (by decide)) rfl ?_
  try simp only[bK,J,simprocAttr]
  try simp only[bK,fP 1 (jC c r1 i) ⟨m6.1,m6.2⟩ rfl,eF (jC c r1 i) k6,ox (jC c r1 i) k6,J,simprocAttr]
  refine .done (hK _ ?_);clear hK K;try simp only[ao,bH]
  refine .bj (by decide +kernel) fun K hK =>?_
  simp only[GJ,J,simprocAttr]
  refine .done (hK _ ?_);clear hK K;try simp only[ao]
  refine ⟨i+1,by omega,by omega,?_⟩
  rw[cA _ (by omega) (by omega),jC]
  refine aE.bP ?_ ?_ ?_ ?_ <;>simp[aT,bJ,bI,bd,al,aV,cw,I.only,ah.only,bt]
  all_goals first | rfl | simp[jO]
 have hi4:i=(bL c 1%4).toNat:=by simp at h;omega
 refine U.exit ?_;try simp only[ao,bH,simprocAttr]
 refine .ak (by decide +kernel) fun K hK =>?_
 simp only[GK,J,simprocAttr]
 try simp only[cC,pK,J,simprocAttr]
 refine .done (hK _ ?_);clear hK K
 refine U.ret ?_
 simp only[J,simprocAttr]
 try simp only[cC,cT,J,simprocAttr]
 rw[hi4,hr1,hr0];rfl
abbrev fx:=aM 9 Int
def z9:fx:=⟨List.replicate 9 0,rfl⟩
def kJ(l:List Int)(b:Int)(i:Nat):Int:=IntKind.i64.wrap (bL l (IntKind.i64.wrap ((i:Int)+b))+b)
def pH(l:List Int)(b:Int):List Int:=(List.range l.length).map (kJ l b)
theorem Oe(l:List Int)(b:Int)(hl:l.length*8≤140737488355328):aB Tryz.prog 83 [enc l,enc b] (enc (pH l b)):=by
 refine aB.bu Tryz.func83 Q5 SP UO (Nat.le_of_ble_eq_true rfl) (fun hwf W0 D0 E1 =>?_)
 simp only[AX,Lz,bp,Nat.zero_add]
 clear hwf
 have R:=And.intro @bK (And.intro @bg @J)
 repeat' ((first
  |(with_reducible refine .guard (fun hb =>?_) (fun hb =>?_) <;>try simp only[hb])
  |refine U.aW (by decide +kernel) rfl fun K hK =>?_
  |(refine .aO [0,1,4,5,6,10] hK ?_;clear hK K)
  |(with_reducible refine .done (hK _ ?_);clear hK K)
  |refine U.of rfl ?_
  |(with_reducible refine ar.aU (fun h =>?_) (fun h =>?_) <;>try simp only[h])) <;>try simp only[aX,R,reduceIte,Nat.reduceBEq])
 all_goals clear R
 refine U.loop (fun i:Nat=>au [(0,enc l),(1,.int .i64 b),(5,.own 905 ((List.range i).map (kJ l b)).length),(6,.int .i64 i)] [(905,.bS 3 1 (((List.range i).map (kJ l b)).map enc))]) (fun i=>i≤l.length) (fun i=>l.length-i) 0 (Nat.zero_le _) ?_ (fun i hi =>?_)
 ·refine aE.pT 5 905 3 1 1 rfl rfl ?_
  simp only[List.range_zero,List.map_nil,List.length_nil]
  refine aE.bP ?_ ?_ ?_ ?_ <;>simp[aT,bJ,bI,bd,al,aV,cw,I.only,I.bV,ah.only,bt]
 by_cases hlt:i<l.length
 ·have hc:=iI hlt
  have hw:=fG (i:=i) (by omega)
  have hsu:(List.range (i+1)).map (kJ l b)=(List.range i).map (kJ l b)++[kJ l b i]:=by rw[List.range_succ,List.map_append];rfl
  have hxl:((List.range i).map (kJ l b)).length=i:=by simp
  have hv:kJ l b i=IntKind.i64.wrap (bL l (IntKind.i64.wrap ((i:Int)+b))+b):=rfl
  rw[hv] at hsu
  generalize (List.range i).map (kJ l b)=xs at hsu hxl ⊢
  have happ:=fun (A:ab) d rest=>nA (α:=Int) (A:=A) (d:=d) 3 1 8 905 (l:=xs.length) (es:=xs) (ys:=[IntKind.i64.wrap (bL l (IntKind.i64.wrap ((i:Int)+b))+b)]) (rest:=rest) rfl rfl (by simp) (by simp[maxLen];omega) (by simp;omega)
  have R:=And.intro @hc (And.intro @hw (And.intro @happ (And.intro @zi (And.intro @bK (And.intro @bg @J)))))
  repeat' ((first
   |(with_reducible refine .guard (fun hb =>?_) (fun hb =>?_) <;>try simp only[hb])
   |refine U.aW (by decide +kernel) rfl fun K hK =>?_
   |refine .flat _ (lN l _ (by omega)) rfl ?_
   |(refine .aO [0,1,4,5,6,10] hK ?_;clear hK K)
   |(with_reducible refine .done (hK _ ?_);clear hK K)
   |refine U.of rfl ?_
   |(with_reducible refine ar.aU (fun h =>?_) (fun h =>?_) <;>try simp only[h])) <;>try simp only[aX,R,Nat.reduceEqDiff,reduceIte,Nat.reduceBEq])
  all_goals clear R
  refine ⟨i+1,by omega,by omega,?_⟩
  simp only[hsu]
  refine aE.bP ?_ ?_ ?_ ?_ <;>simp[aT,bJ,bI,bd,al,aV,cw,I.only,I.bV,ah.only,eh,gw,bt,iZ]
 ·have hc:=jx hlt
  have hge:i=l.length:=by omega
  subst hge
  have hfo:=mQ (k:=((List.range l.length).map (kJ l b)).length) (T:=3) (es:=(List.range l.length).map (kJ l b)) 1 rfl rfl
  have R:=And.intro @hc (And.intro @hfo (And.intro @bK (And.intro @bg @J)))
  repeat' ((first
   |(with_reducible refine .guard (fun hb =>?_) (fun hb =>?_) <;>try simp only[hb])
   |refine U.aW (by decide +kernel) rfl fun K hK =>?_
   |(refine .aO [0,1,4,5,6,10] hK ?_;clear hK K)
   |(with_reducible refine .done (hK _ ?_);clear hK K)
   |refine U.of rfl ?_
   |(with_reducible refine ar.aU (fun h =>?_) (fun h =>?_) <;>try simp only[h])) <;>try simp only[aX,R,Nat.reduceEqDiff,reduceIte,Nat.reduceBEq])
  all_goals clear R
  all_goals rfl
def xX:aM 6 Int:=⟨List.replicate 6 31,rfl⟩
def tv(m:bX)(picks:List Int)(i:Nat)(n:fx):aM 6 Int:=if 0<m.given.length then qT m (cU m (n.g 8%(m.given.length:Int)).toNat).mark (pH picks i) else xX
def j5(m:bX)(picks:List Int)(h Jj i:Nat)(n:fx):ay where
 bL:=⟨h,Jj⟩
 kind:=n.g 1%7
 day:=if n.g 1%7=0 then 0 else n.g 2%30
 known:=n.g 3%40
 dY:=1+n.g 4%6
 eP:=if n.g 7%7=1+n.g 4%6 then 0 else n.g 7%7
 dp:=1+n.g 5%2
 bN:=1+n.g 6%12
 cg:=if n.g 1%7=4 then tv m picks i n else nu
 jE:=if n.g 1%7=0 then ⟨h,n.g 4%(Jj:Int)⟩ else ⟨0,0⟩
def qX(m:bX)(ls:List fx)(picks:List Int)(h:Nat)(o:List ay)(i:Nat):List ay :=
 if (ls.getD i z9).g 0%3=(h:Int)∧¬ ((ls.getD i z9).g 1%7=0∧o.length=0) then o++[jt (j5 m picks h o.length i (ls.getD i z9))] else o
def fM(m:bX)(ls:List fx)(picks:List Int)(h:Nat):Nat→List ay
 |0=>[]
 |i+1=>qX m ls picks h (fM m ls picks h i) i
def gV(ls:List fx):Nat:=min ls.length 20
def gM(m:bX)(ls:List fx)(picks:List Int):Nat→List ay
 |0=>[]
 |h+1=>gM m ls picks h++fM m ls picks h (gV ls)
def pf(m:bX)(ls:List fx)(picks:List Int):List ay:=gM m ls picks 3
theorem sE(m:bX)(ls:List fx)(picks:List Int)(h:Nat):∀ i,(fM m ls picks h i).length≤i
 |0=>Nat.le_refl _
 |i+1=>by
  have:=sE m ls picks h i
  simp only[fM,qX]
  split <;>simp <;>omega
theorem wK(ls:List fx):gV ls≤ls.length∧gV ls≤20:=by simp only[gV];omega
theorem wH(m:bX)(ls:List fx)(picks:List Int):∀ h,(gM m ls picks h).length≤20*h
 |0=>Nat.le_refl _
 |h+1=>by
  have h1:=wH m ls picks h
  have h2:=sE m ls picks h (gV ls)
  have h3:=wK ls
  simp only[gM,List.length_append];omega
def gP(N:Nat→Nat)(h c:Nat):aM 3 Int:=⟨(List.range 3).map fun k=>if k<h then (N k:Int) else if k=h then (c:Int) else 0,by simp⟩
theorem aeO{N:Nat→Nat}{h c:Nat}(hh:h<3):(gP N h c).g h=(c:Int):=by
 simp[gP,aM.g,List.getD_eq_getElem?_getD,hh]
theorem yn{n:Nat}{x y:aM n Int}(h:x.l=y.l):x=y:=by cases x;cases y;simp_all
theorem aeQ{N:Nat→Nat}{h c:Nat}(c':Nat)(hh:h<3):gB (gP N h c) h (c':Int)=gP N h c':=by
 refine yn (List.ext_getElem (by simp[gB,gP]) fun k h1 h2 =>?_)
 simp only[gB,gP,List.getElem_set,List.getElem_map,List.getElem_range]
 by_cases e:h=k
 ·subst e;simp
 ·have:¬ k=h:=fun e'=>e e'.symm
  simp[e,this]
theorem aeP{N:Nat→Nat}{h:Nat} : gP N h (N h)=gP N (h+1) 0:=by
 refine yn (List.ext_getElem (by simp[gP]) fun k h1 h2 =>?_)
 simp only[gP,List.getElem_map,List.getElem_range]
 rcases Nat.lt_trichotomy k h with e | e | e
 ·rw[if_pos e,if_pos (by omega)]
 ·subst e;rw[if_neg (by omega),if_pos rfl,if_pos (by omega)]
 ·rw[if_neg (by omega),if_neg (by omega),if_neg (by omega)];split <;>rfl
theorem Wl(N:Nat→Nat):I.agg [.int .i64 0,.int .i64 0,.int .i64 0]=enc (gP N 0 0):=rfl
theorem qa:(∀ a b:Nat,I.agg [.int .i64 (a:Int),.int .i64 (b:Int)]=enc (⟨a,b⟩:Item))∧(∀ (a:Nat) (b c:Int),I.agg [.int .i64 (a:Int),.int .i64 (b%c)]=enc (⟨a,b%c⟩:Item)):=⟨fun _ _=>rfl,fun _ _ _=>rfl⟩
theorem BT:I.agg [.int .i64 31,.int .i64 31,.int .i64 31,.int .i64 31,.int .i64 31,.int .i64 31]=enc xX:=rfl
theorem zh(a b c d e f:Int):dM [.int .i64 0,.int .i64 0,.int .i64 0,.int .i64 0,.int .i64 0,.int .i64 0] [(0,.int .i64 a),(1,.int .i64 b),(2,.int .i64 c),(3,.int .i64 d),(4,.int .i64 e),(5,.int .i64 f)]=some [.int .i64 a,.int .i64 b,.int .i64 c,.int .i64 d,.int .i64 e,.int .i64 f]:=by simp[dM,I.b9,I.size]
theorem pY(a b:Int):dM [.int .i64 0,.int .i64 0] [(0,.int .i64 a),(1,.int .i64 b)]=some [.int .i64 a,.int .i64 b]:=by simp[dM,I.b9,I.size]
theorem pX(a:Item)(k d kn b s o dm:Int):(dM [.agg [.int .i64 0,.int .i64 0],.int .i64 0,.int .i64 0,.int .i64 0,.int .i64 0,.int .i64 0,.int .i64 0,.int .i64 0,.agg [.int .i64 0,.int .i64 0,.int .i64 0,.int .i64 0,.int .i64 0,.int .i64 0],.agg [.int .i64 0,.int .i64 0]] [(0,enc a),(1,.int .i64 k),(2,.int .i64 d),(3,.int .i64 kn),(4,.int .i64 b),(6,.int .i64 s),(7,.int .i64 o),(5,.int .i64 dm)]).map .agg=some (enc (⟨a,k,d,kn,b,dm,s,o,nu,⟨0,0⟩⟩:ay)):=by
 simp[dM,I.b9,I.size,I.sizes,fX,qb];rfl
theorem oR:I.agg [.int .i64 0,.int .i64 0,.int .i64 0,.int .i64 0,.int .i64 0,.int .i64 0,.int .i64 0,.int .i64 0,.int .i64 0]=enc z9:=rfl
theorem pL{A:ab}{n:Nat}{w:I}{x y:fx}{rest:List av} : dS A (some 9) n [] w (enc x) rest (some (enc y))=az rest (A.aL n (.box (enc x))):=by
 rw[ep (s:=some 9) (dG _) (by rw[fJ];rfl) ((eH x).trans (eH y).symm),gf]
theorem pz(x:fx):bU (some 9) (enc x)=true:=by rw[fJ];rfl
theorem agy(n:fx) :
  (∀ y,fq (0:Int) 9 (fp 9 1 (n.l.map enc) y)=y)∧fO 0 [] (some (n.l.map (enc (α:=Int))))=some (.int .i64 (n.g 0))∧((0:Int).toNat=0)∧(∀ y,fq (1:Int) 9 (fp 9 1 (n.l.map enc) y)=y)∧fO 1 [] (some (n.l.map (enc (α:=Int))))=some (.int .i64 (n.g 1))∧((1:Int).toNat=1)∧(∀ y,fq (2:Int) 9 (fp 9 1 (n.l.map enc) y)=y)∧fO 2 [] (some (n.l.map (enc (α:=Int))))=some (.int .i64 (n.g 2))∧((2:Int).toNat=2)∧(∀ y,fq (3:Int) 9 (fp 9 1 (n.l.map enc) y)=y)∧fO 3 [] (some (n.l.map (enc (α:=Int))))=some (.int .i64 (n.g 3))∧((3:Int).toNat=3)∧(∀ y,fq (4:Int) 9 (fp 9 1 (n.l.map enc) y)=y)∧fO 4 [] (some (n.l.map (enc (α:=Int))))=some (.int .i64 (n.g 4))∧((4:Int).toNat=4)∧(∀ y,fq (5:Int) 9 (fp 9 1 (n.l.map enc) y)=y)∧fO 5 [] (some (n.l.map (enc (α:=Int))))=some (.int .i64 (n.g 5))∧((5:Int).toNat=5)∧(∀ y,fq (6:Int) 9 (fp 9 1 (n.l.map enc) y)=y)∧fO 6 [] (some (n.l.map (enc (α:=Int))))=some (.int .i64 (n.g 6))∧((6:Int).toNat=6)∧(∀ y,fq (7:Int) 9 (fp 9 1 (n.l.map enc) y)=y)∧fO 7 [] (some (n.l.map (enc (α:=Int))))=some (.int .i64 (n.g 7))∧((7:Int).toNat=7)∧(∀ y,fq (8:Int) 9 (fp 9 1 (n.l.map enc) y)=y)∧fO 8 [] (some (n.l.map (enc (α:=Int))))=some (.int .i64 (n.g 8))∧((8:Int).toNat=8) :=
 ⟨fun _=>fP 1 n (by decide) rfl,(eF n (by decide)).trans (hE _),rfl,fun _=>fP 1 n (by decide) rfl,(eF n (by decide)).trans (hE _),rfl,fun _=>fP 1 n (by decide) rfl,(eF n (by decide)).trans (hE _),rfl,fun _=>fP 1 n (by decide) rfl,(eF n (by decide)).trans (hE _),rfl,fun _=>fP 1 n (by decide) rfl,(eF n (by decide)).trans (hE _),rfl,fun _=>fP 1 n (by decide) rfl,(eF n (by decide)).trans (hE _),rfl,fun _=>fP 1 n (by decide) rfl,(eF n (by decide)).trans (hE _),rfl,fun _=>fP 1 n (by decide) rfl,(eF n (by decide)).trans (hE _),rfl,fun _=>fP 1 n (by decide) rfl,(eF n (by decide)).trans (hE _),rfl⟩
theorem yi(x d:Int)(h0:0<d)(h1:d≤1000):IntKind.i64.wrap (1+x%d)=1+x%d:=by
 have a1:=Int.emod_nonneg x (show d≠0 by omega)
 have a2:=Int.emod_lt_of_pos x h0
 exact cA _ (by omega) (by omega)
theorem N3(m:bX)(ls:List fx)(picks:List Int)(hm:ee m=true)(hl:picks.length*8≤140737488355328):aB Tryz.prog 23 [enc m,enc ls,enc picks] (enc (pf m ls picks)):=by
 refine aB.bu Tryz.func23 QJ Su Ut (Nat.le_of_ble_eq_true rfl) (fun hwf W0 D0 E1 =>?_)
 simp only[AD,Le,bp,Nat.zero_add,Nat.reduceAdd]
 have hlen:ls.length≤maxLen:=((kM ls).1 hwf.2.1).1
 simp only[maxLen] at hlen
 clear hwf
 obtain ⟨hw,hf0,hf2⟩:=Jv hm
 have hgl:=Jw hm
 obtain ⟨hn1,hn2⟩:=wK ls
 obtain ⟨N,hN⟩:∃ N:Nat→Nat,N=fun k=>(fM m ls picks k (gV ls)).length:=⟨_,rfl⟩
 have hz:=Wl N
 have R:=And.intro @hz (And.intro @gv (And.intro @bK (And.intro @bg @J)))
 repeat' ((first
  |(with_reducible refine .guard (fun hb =>?_) (fun hb =>?_) <;>try simp only[hb])
  |refine U.aW (by decide +kernel) rfl fun K hK =>?_
  |(refine .aO [0,1,2,3,6,7,8,9,10,11,12,14,24,35,70,74,78,91,97] hK ?_;clear hK K)
  |(with_reducible refine .done (hK _ ?_);clear hK K)
  |refine U.of rfl ?_
  |(with_reducible refine ar.aU (fun h =>?_) (fun h =>?_) <;>try simp only[h])) <;>try simp only[aX,R,Nat.reduceEqDiff,reduceIte,Nat.reduceBEq])
 all_goals clear R
 refine U.loop (fun h:Nat=>au [(1,enc ls),(2,enc picks),(3,.ptr 3 []),(7,.ptr 7 []),(8,.own 908 (gM m ls picks h).length),(9,.int .i64 h)] [(3,.box (enc m)),(7,.box (enc (gP N h 0))),(908,.bS 68 17 ((gM m ls picks h).map enc))]) (fun h=>h≤3) (fun h=>3-h) 0 (by omega) ?_ (fun h hh =>?_)
 ·refine aE.pT 8 908 68 17 17 rfl rfl ?_
  simp only[gM,List.map_nil,List.length_nil]
  refine aE.bP ?_ ?_ ?_ ?_ <;>simp[aT,bJ,bI,bd,al,aV,cw,I.only,I.bV,ah.only,bt]
 have hal:=wH m ls picks h
 by_cases hh3:h<3
 case neg =>
  have hc:decide ((h:Int)<3)=false:=by simp;omega
  have he:h=3:=by omega
  subst he
  have hfo:=mQ (k:=(gM m ls picks 3).length) (T:=68) (es:=gM m ls picks 3) 17 rfl rfl
  have R:=And.intro @hc (And.intro @hfo (And.intro @bK (And.intro @bg @J)))
  repeat' ((first
   |(with_reducible refine .guard (fun hb =>?_) (fun hb =>?_) <;>try simp only[hb])
   |refine U.aW (by decide +kernel) rfl fun K hK =>?_
   |(refine .aO [0,1,2,3,6,7,8,9,10,11,12,14,24,35,70,74,78,91,97] hK ?_;clear hK K)
   |(with_reducible refine .done (hK _ ?_);clear hK K)
   |refine U.of rfl ?_
   |(with_reducible refine ar.aU (fun h =>?_) (fun h =>?_) <;>try simp only[h])) <;>try simp only[aX,R,Nat.reduceEqDiff,reduceIte,Nat.reduceBEq])
  all_goals clear R
  all_goals rfl
 have hc:decide ((h:Int)<3)=true:=by simp;omega
 have hwh:=fG (i:=h) (by omega)
 have R:=And.intro @hc (And.intro @bK (And.intro @bg @J))
 repeat' ((first
  |(with_reducible refine .guard (fun hb =>?_) (fun hb =>?_) <;>try simp only[hb])
  |refine U.aW (by decide +kernel) rfl fun K hK =>?_
  |(refine .aO [0,1,2,3,6,7,8,9,10,11,12,14,24,35,70,74,78,91,97] hK ?_;clear hK K)
  |(with_reducible refine .done (hK _ ?_);clear hK K)
  |refine U.of rfl ?_
  |(with_reducible refine ar.aU (fun h =>?_) (fun h =>?_) <;>try simp only[h])) <;>try simp only[aX,R,Nat.reduceEqDiff,reduceIte,Nat.reduceBEq])
 all_goals clear R
 refine U.loop (fun i:Nat=>au [(1,enc ls),(2,enc picks),(3,.ptr 3 []),(7,.ptr 7 []),(8,.own 908 (gM m ls picks h++fM m ls picks h i).length),(9,.int .i64 h),(10,.int .i64 i)] [(3,.box (enc m)),(7,.box (enc (gP N h (fM m ls picks h i).length))),(908,.bS 68 17 ((gM m ls picks h++fM m ls picks h i).map enc))]) (fun i=>i≤gV ls) (fun i=>gV ls-i) 0 (Nat.zero_le _) ?_ (fun i hi =>?_)
 ·simp only[fM,List.append_nil,List.length_nil]
  refine aE.bP ?_ ?_ ?_ ?_ <;>simp[aT,bJ,bI,bd,al,aV,cw,I.only,ah.only,eh,bt]
 by_cases hlt:i<gV ls
 case neg =>
  have he:i=gV ls:=by omega
  subst he
  have hnx:gP N h (fM m ls picks h (gV ls)).length=gP N (h+1) 0:=by
   have:(fM m ls picks h (gV ls)).length=N h:=by rw[hN]
   rw[this,aeP]
  rw[hnx]
  by_cases hq:gV ls<ls.length
  ·have q1:=iI hq
   have q20:gV ls=20:=by simp only[gV] at hq ⊢;omega
   have q2:decide ((gV ls:Int)<20)=false:=by rw[q20];rfl
   have R:=And.intro @q1 (And.intro @q2 (And.intro @hwh (And.intro @bK (And.intro @bg @J))))
   repeat' ((first
    |(with_reducible refine .guard (fun hb =>?_) (fun hb =>?_) <;>try simp only[hb])
    |refine U.aW (by decide +kernel) rfl fun K hK =>?_
    |(refine .aO [0,1,2,3,6,7,8,9,10,11,12,14,24,35,70,74,78,91,97] hK ?_;clear hK K)
    |(with_reducible refine .done (hK _ ?_);clear hK K)
    |refine U.of rfl ?_
    |(with_reducible refine ar.aU (fun h =>?_) (fun h =>?_) <;>try simp only[h])) <;>try simp only[aX,R,Nat.reduceEqDiff,reduceIte,Nat.reduceBEq])
   all_goals clear R
   refine ⟨h+1,by omega,by omega,?_⟩
   simp only[gM]
   refine aE.bP ?_ ?_ ?_ ?_ <;>simp[aT,bJ,bI,bd,al,aV,cw,I.only,ah.only,eh,gw,bt]
  ·have q1:=jx hq
   have R:=And.intro @q1 (And.intro @hwh (And.intro @bK (And.intro @bg @J)))
   repeat' ((first
    |(with_reducible refine .guard (fun hb =>?_) (fun hb =>?_) <;>try simp only[hb])
    |refine U.aW (by decide +kernel) rfl fun K hK =>?_
    |(refine .aO [0,1,2,3,6,7,8,9,10,11,12,14,24,35,70,74,78,91,97] hK ?_;clear hK K)
    |(with_reducible refine .done (hK _ ?_);clear hK K)
    |refine U.of rfl ?_
    |(with_reducible refine ar.aU (fun h =>?_) (fun h =>?_) <;>try simp only[h])) <;>try simp only[aX,R,Nat.reduceEqDiff,reduceIte,Nat.reduceBEq])
   all_goals clear R
   refine ⟨h+1,by omega,by omega,?_⟩
   simp only[gM]
   refine aE.bP ?_ ?_ ?_ ?_ <;>simp[aT,bJ,bI,bd,al,aV,cw,I.only,ah.only,eh,gw,bt]
 have q1:decide ((i:Int)<(ls.length:Int))=true:=iI (by omega)
 have q2:decide ((i:Int)<20)=true:=by simp;omega
 have hwi:=fG (i:=i) (by omega)
 have hil:i<ls.length:=by omega
 have he:=fun A=>fL (A:=A) 9 hil rfl
 have hn:ls.getD i z9=ls[i]:=by rw[List.getD_eq_getElem?_getD,List.getElem?_eq_getElem hil];rfl
 have hsu:fM m ls picks h (i+1)=qX m ls picks h (fM m ls picks h i) i:=rfl
 have hhl:=sE m ls picks h i
 simp only[qX,hn] at hsu
 generalize ls[i]=n at he hsu
 generalize fM m ls picks h i=o at hsu hhl ⊢
 generalize gM m ls picks h=pre at hal ⊢
 have hin:=fun c y=>fP (n:=3) 1 (k:=(h:Int)) (gP N h c) (y:=y) ⟨by omega,by omega⟩ rfl
 have hag:=fun c=>(eF (p:=[]) (gP N h c) hh3).trans (hE _)
 have hng:=fun c=>aeO (N:=N) (c:=c) hh3
 have hst:=fun (A:ab) c v u rest=>ox (A:=A) (n:=7) (gP N h c) hh3 (v:=v) (u:=u) (rest:=rest)
 have hup:=fun c c'=>aeQ (N:=N) (c:=c) c' hh3
 have hto:((h:Int)).toNat=h:=Int.toNat_natCast h
 have hwo:=fG (i:=o.length) (by omega)
 have happ:=fun (A:ab) d rest (y:ay)=>nA (α:=ay) (A:=A) (d:=d) 68 17 136 908 (l:=(pre++o).length) (es:=pre++o) (ys:=[y]) (rest:=rest) rfl rfl (by simp) (by simp[maxLen];omega) (by simp;omega)
 have hbs:=fun y:ay=>p5 17 y rfl
 have hR:=agy n
 have w6:=yi (n.g 4) 6 (by omega) (by omega)
 have w2:=yi (n.g 5) 2 (by omega) (by omega)
 have w12:=yi (n.g 6) 12 (by omega) (by omega)
 rcases c1:(n.g 0%3 != (h:Int))
 case true =>
  have c1':¬ n.g 0%3=(h:Int):=by simpa using c1
  rw[if_neg (fun hx=>c1' hx.1)] at hsu
  have R:=And.intro @q1 (And.intro @q2 (And.intro @hwi (And.intro @he (And.intro @hR (And.intro @c1 (And.intro @oR (And.intro @pL (And.intro @pz (And.intro @bK (And.intro @bg @J))))))))))
  repeat' ((first
   |(with_reducible refine .guard (fun hb =>?_) (fun hb =>?_) <;>try simp only[hb])
   |refine U.aW (by decide +kernel) rfl fun K hK =>?_
   |refine .flat _ (gC _ _ (by first | decide | omega) (by first | decide | omega)) rfl ?_
   |(refine .aO [0,1,2,3,6,7,8,9,10,11,12,14,24,35,70,74,78,91,97] hK ?_;clear hK K)
   |(with_reducible refine .done (hK _ ?_);clear hK K)
   |refine U.of rfl ?_
   |(with_reducible refine ar.aU (fun h =>?_) (fun h =>?_) <;>try simp only[h])) <;>try simp only[aX,R,Nat.reduceEqDiff,reduceIte,Nat.reduceBEq])
  all_goals clear R
  refine ⟨i+1,by omega,by omega,?_⟩
  simp only[hsu]
  refine aE.bP ?_ ?_ ?_ ?_ <;>simp[aT,bJ,bI,bd,al,aV,cw,I.only,ah.only,eh,gw,bt]
 have c1':n.g 0%3=(h:Int):=by simpa using c1
 have hS:∀ hg:0<m.given.length,aB Tryz.prog 35 [enc m,enc (cU m (n.g 8%(m.given.length:Int)).toNat).mark,enc (pH picks i)] (enc (qT m (cU m (n.g 8%(m.given.length:Int)).toNat).mark (pH picks i))):=fun hg=>by
  have a1:=Int.emod_nonneg (n.g 8) (show (m.given.length:Int)≠0 by omega)
  have a2:=Int.emod_lt_of_pos (n.g 8) (show (0:Int)<(m.given.length:Int) by omega)
  exact N5 m _ _ (by simp[pH];omega) hw (Io hm (by omega)) hf0 hf2
 have hSh:=Oe picks i hl
 by_cases k0:n.g 1%7=0
 ·have k1:(n.g 1%7==0)=true:=by simp[k0]
  have k4:(n.g 1%7==4)=false:=by simp[k0]
  by_cases o0:o.length=0
  ·have z0:((o.length:Int)==0)=true:=by simp[o0]
   rw[if_neg (fun hx=>hx.2 ⟨k0,o0⟩)] at hsu
   rcases cd:(n.g 7%7==1+n.g 4%6)
   all_goals
    have R:=And.intro @q1 (And.intro @q2 (And.intro @hwi (And.intro @he (And.intro @hR (And.intro @c1 (And.intro @cd (And.intro @k1 (And.intro @z0 (And.intro @hin (And.intro @hag (And.intro @hng (And.intro @hto (And.intro @w6 (And.intro @w2 (And.intro @w12 (And.intro @oR (And.intro @pL (And.intro @pz (And.intro @pY (And.intro @qa (And.intro @pX (And.intro @bK (And.intro @bg @J)))))))))))))))))))))))
    repeat' ((first
     |(with_reducible refine .guard (fun hb =>?_) (fun hb =>?_) <;>try simp only[hb])
     |refine U.aW (by decide +kernel) rfl fun K hK =>?_
     |refine .flat _ (gC _ _ (by first | decide | omega) (by first | decide | omega)) rfl ?_
     |(refine .aO [0,1,2,3,6,7,8,9,10,11,12,14,24,35,70,74,78,91,97] hK ?_;clear hK K)
     |(with_reducible refine .done (hK _ ?_);clear hK K)
     |refine U.of rfl ?_
     |(with_reducible refine ar.aU (fun h =>?_) (fun h =>?_) <;>try simp only[h])) <;>try simp only[aX,R,Nat.reduceEqDiff,reduceIte,Nat.reduceBEq])
    all_goals clear R
    refine ⟨i+1,by omega,by omega,?_⟩
    simp only[hsu]
    refine aE.bP ?_ ?_ ?_ ?_ <;>simp[aT,bJ,bI,bd,al,aV,cw,I.only,ah.only,eh,gw,bt]
  ·have z0:((o.length:Int)==0)=false:=beq_eq_false_iff_ne.2 (by omega)
   rw[if_pos ⟨c1',fun hx=>o0 hx.2⟩] at hsu
   rcases cd:(n.g 7%7==1+n.g 4%6)
   all_goals
    have hraw:j5 m picks h o.length i n=⟨⟨h,o.length⟩,n.g 1%7,0,n.g 3%40,1+n.g 4%6,if n.g 7%7=1+n.g 4%6 then 0 else n.g 7%7,1+n.g 5%2,1+n.g 6%12,nu,⟨h,n.g 4%(o.length:Int)⟩⟩:=by simp[j5,k0]
    have cd':=cd
    simp only[beq_iff_eq,beq_eq_false_iff_ne,ne_eq] at cd'
    simp only[cd',if_true,if_false] at hraw
    rw[hraw] at hsu
    have R:=And.intro @q1 (And.intro @q2 (And.intro @hwi (And.intro @hwo (And.intro @he (And.intro @hR (And.intro @c1 (And.intro @cd (And.intro @k1 (And.intro @k4 (And.intro @z0 (And.intro @hin (And.intro @hag (And.intro @hng (And.intro @hst (And.intro @hup (And.intro @hto (And.intro @w6 (And.intro @w2 (And.intro @w12 (And.intro @happ (And.intro @hbs (And.intro @oR (And.intro @pL (And.intro @pz (And.intro @pY (And.intro @qa (And.intro @pX (And.intro @bK (And.intro @bg @J)))))))))))))))))))))))))))))
    repeat' ((first
     |(with_reducible refine .guard (fun hb =>?_) (fun hb =>?_) <;>try simp only[hb])
     |refine U.aW (by decide +kernel) rfl fun K hK =>?_
     |refine .flat _ (gC _ _ (by first | decide | omega) (by first | decide | omega)) rfl ?_
     |refine .lead _ (ru _) ?_
     |(refine .aO [0,1,2,3,6,7,8,9,10,11,12,14,24,35,70,74,78,91,97] hK ?_;clear hK K)
     |(with_reducible refine .done (hK _ ?_);clear hK K)
     |refine U.of rfl ?_
     |(with_reducible refine ar.aU (fun h =>?_) (fun h =>?_) <;>try simp only[h])) <;>try simp only[aX,R,Nat.reduceEqDiff,reduceIte,Nat.reduceBEq])
    all_goals clear R
    refine ⟨i+1,by omega,by omega,?_⟩
    rw[hsu,←List.append_assoc]
    refine aE.bP ?_ ?_ ?_ ?_ <;>simp[aT,bJ,bI,bd,al,aV,cw,I.only,I.bV,ah.only,eh,gw,bt]
 have k1:(n.g 1%7==0)=false:=by simp[k0]
 rw[if_pos ⟨c1',fun hx=>k0 hx.1⟩] at hsu
 by_cases k4':n.g 1%7=4
 ·have k4:(n.g 1%7==4)=true:=by simp[k4']
  by_cases fj:0<m.given.length
  ·have g1:decide ((0:Int)<(m.given.length:Int))=true:=decide_eq_true (by omega)
   have hS1:=hS fj
   have hgi:∀ A,ic A 7 (n.g 8%(m.given.length:Int)) (enc m.given)=some (.ref (enc (cU m (n.g 8%(m.given.length:Int)).toNat))):=fun A=>by
    have a1:=Int.emod_nonneg (n.g 8) (show (m.given.length:Int)≠0 by omega)
    have a2:=Int.emod_lt_of_pos (n.g 8) (show (0:Int)<(m.given.length:Int) by omega)
    have a3:n.g 8%(m.given.length:Int)=((n.g 8%(m.given.length:Int)).toNat:Int):=(Int.toNat_of_nonneg a1).symm
    have:=wm (A:=A) (m:=m) (i:=(n.g 8%(m.given.length:Int)).toNat) (by rw[a3] at a2;exact Int.ofNat_lt.1 a2)
    rwa [←a3] at this
   rcases cd:(n.g 7%7==1+n.g 4%6)
   all_goals
    have hraw:j5 m picks h o.length i n=⟨⟨h,o.length⟩,n.g 1%7,n.g 2%30,n.g 3%40,1+n.g 4%6,if n.g 7%7=1+n.g 4%6 then 0 else n.g 7%7,1+n.g 5%2,1+n.g 6%12,qT m (cU m (n.g 8%(m.given.length:Int)).toNat).mark (pH picks i),⟨0,0⟩⟩:=by simp[j5,k4',tv,fj]
    have cd':=cd
    simp only[beq_iff_eq,beq_eq_false_iff_ne,ne_eq] at cd'
    simp only[cd',if_true,if_false] at hraw
    rw[hraw] at hsu
    have R:=And.intro @q1 (And.intro @q2 (And.intro @hwi (And.intro @hwo (And.intro @he (And.intro @hR (And.intro @c1 (And.intro @cd (And.intro @k1 (And.intro @k4 (And.intro @g1 (And.intro @hgi (And.intro @hin (And.intro @hag (And.intro @hng (And.intro @hst (And.intro @hup (And.intro @hto (And.intro @w6 (And.intro @w2 (And.intro @w12 (And.intro @happ (And.intro @hbs (And.intro @oR (And.intro @pL (And.intro @pz (And.intro @gv (And.intro @pY (And.intro @qa (And.intro @zh (And.intro @BT (And.intro @pX (And.intro @cC (And.intro @bK (And.intro @bg @J))))))))))))))))))))))))))))))))))
    repeat' ((first
     |(with_reducible refine .guard (fun hb =>?_) (fun hb =>?_) <;>try simp only[hb])
     |refine U.aW (by decide +kernel) rfl fun K hK =>?_
     |refine .flat _ (gC _ _ (by first | decide | omega) (by first | decide | omega)) rfl ?_
     |refine .lead _ (ru _) ?_
     |refine .lead _ (hSh) ?_
     |refine .lead _ (hS1) ?_
     |(refine .aO [0,1,2,3,6,7,8,9,10,11,12,14,24,35,70,74,78,91,97] hK ?_;clear hK K)
     |(with_reducible refine .done (hK _ ?_);clear hK K)
     |refine U.of rfl ?_
     |(with_reducible refine ar.aU (fun h =>?_) (fun h =>?_) <;>try simp only[h])) <;>try simp only[aX,R,Nat.reduceEqDiff,reduceIte,Nat.reduceBEq])
    all_goals clear R
    refine ⟨i+1,by omega,by omega,?_⟩
    rw[hsu,←List.append_assoc]
    refine aE.bP ?_ ?_ ?_ ?_ <;>simp[aT,bJ,bI,bd,al,aV,cw,I.only,I.bV,ah.only,eh,gw,bt]
  ·have g1:decide ((0:Int)<(m.given.length:Int))=false:=decide_eq_false (by omega)
   rcases cd:(n.g 7%7==1+n.g 4%6)
   all_goals
    have hraw:j5 m picks h o.length i n=⟨⟨h,o.length⟩,n.g 1%7,n.g 2%30,n.g 3%40,1+n.g 4%6,if n.g 7%7=1+n.g 4%6 then 0 else n.g 7%7,1+n.g 5%2,1+n.g 6%12,xX,⟨0,0⟩⟩:=by simp[j5,k4',tv,fj]
    have cd':=cd
    simp only[beq_iff_eq,beq_eq_false_iff_ne,ne_eq] at cd'
    simp only[cd',if_true,if_false] at hraw
    rw[hraw] at hsu
    have R:=And.intro @q1 (And.intro @q2 (And.intro @hwi (And.intro @hwo (And.intro @he (And.intro @hR (And.intro @c1 (And.intro @cd (And.intro @k1 (And.intro @k4 (And.intro @g1 (And.intro @hin (And.intro @hag (And.intro @hng (And.intro @hst (And.intro @hup (And.intro @hto (And.intro @w6 (And.intro @w2 (And.intro @w12 (And.intro @happ (And.intro @hbs (And.intro @oR (And.intro @pL (And.intro @pz (And.intro @gv (And.intro @pY (And.intro @qa (And.intro @zh (And.intro @BT (And.intro @pX (And.intro @cC (And.intro @bK (And.intro @bg @J)))))))))))))))))))))))))))))))))
    repeat' ((first
     |(with_reducible refine .guard (fun hb =>?_) (fun hb =>?_) <;>try simp only[hb])
     |refine U.aW (by decide +kernel) rfl fun K hK =>?_
     |refine .flat _ (gC _ _ (by first | decide | omega) (by first | decide | omega)) rfl ?_
     |refine .lead _ (ru _) ?_
     |(refine .aO [0,1,2,3,6,7,8,9,10,11,12,14,24,35,70,74,78,91,97] hK ?_;clear hK K)
     |(with_reducible refine .done (hK _ ?_);clear hK K)
     |refine U.of rfl ?_
     |(with_reducible refine ar.aU (fun h =>?_) (fun h =>?_) <;>try simp only[h])) <;>try simp only[aX,R,Nat.reduceEqDiff,reduceIte,Nat.reduceBEq])
    all_goals clear R
    refine ⟨i+1,by omega,by omega,?_⟩
    rw[hsu,←List.append_assoc]
    refine aE.bP ?_ ?_ ?_ ?_ <;>simp[aT,bJ,bI,bd,al,aV,cw,I.only,I.bV,ah.only,eh,gw,bt]
 ·have k4:(n.g 1%7==4)=false:=by simp[k4']
  rcases cd:(n.g 7%7==1+n.g 4%6)
  all_goals
   have hraw:j5 m picks h o.length i n=⟨⟨h,o.length⟩,n.g 1%7,n.g 2%30,n.g 3%40,1+n.g 4%6,if n.g 7%7=1+n.g 4%6 then 0 else n.g 7%7,1+n.g 5%2,1+n.g 6%12,nu,⟨0,0⟩⟩:=by simp[j5,k0,k4']
   have cd':=cd
   simp only[beq_iff_eq,beq_eq_false_iff_ne,ne_eq] at cd'
   simp only[cd',if_true,if_false] at hraw
   rw[hraw] at hsu
   have R:=And.intro @q1 (And.intro @q2 (And.intro @hwi (And.intro @hwo (And.intro @he (And.intro @hR (And.intro @c1 (And.intro @cd (And.intro @k1 (And.intro @k4 (And.intro @hin (And.intro @hag (And.intro @hng (And.intro @hst (And.intro @hup (And.intro @hto (And.intro @w6 (And.intro @w2 (And.intro @w12 (And.intro @happ (And.intro @hbs (And.intro @oR (And.intro @pL (And.intro @pz (And.intro @pY (And.intro @qa (And.intro @pX (And.intro @bK (And.intro @bg @J))))))))))))))))))))))))))))
   repeat' ((first
    |(with_reducible refine .guard (fun hb =>?_) (fun hb =>?_) <;>try simp only[hb])
    |refine U.aW (by decide +kernel) rfl fun K hK =>?_
    |refine .flat _ (gC _ _ (by first | decide | omega) (by first | decide | omega)) rfl ?_
    |refine .lead _ (ru _) ?_
    |(refine .aO [0,1,2,3,6,7,8,9,10,11,12,14,24,35,70,74,78,91,97] hK ?_;clear hK K)
    |(with_reducible refine .done (hK _ ?_);clear hK K)
    |refine U.of rfl ?_
    |(with_reducible refine ar.aU (fun h =>?_) (fun h =>?_) <;>try simp only[h])) <;>try simp only[aX,R,Nat.reduceEqDiff,reduceIte,Nat.reduceBEq])
   all_goals clear R
   refine ⟨i+1,by omega,by omega,?_⟩
   rw[hsu,←List.append_assoc]
   refine aE.bP ?_ ?_ ?_ ?_ <;>simp[aT,bJ,bI,bd,al,aV,cw,I.only,I.bV,ah.only,eh,gw,bt]
abbrev Ov(l:List ay):Prop:=l.Pairwise fun a b=>before a.bL b.bL=true
theorem afC(h c:Nat)(k d kn b s o dm f:Int)(r:aM 6 Int)(hh:h≤5)(hc:c≤9999)(h1:0≤k∧k≤6)(h2:0≤d∧d≤100)(h3:0≤kn∧kn≤100)(h4:1≤b∧b≤6)(h5:1≤s∧s≤2)(h6:1≤o∧o≤12)(h7:0≤dm∧dm≤6∧dm≠b)(h8:k=0→0≤f∧f<c)(h9:k=4→gQ r=true) :
  ij (jt ⟨⟨h,c⟩,k,if k=0 then 0 else d,kn,b,dm,s,o,if k=4 then r else nu,if k=0 then ⟨h,f⟩ else ⟨0,0⟩⟩)=true:=by
 obtain hk | hk | hk | hk | hk | hk | hk:k=0∨k=1∨k=2∨k=3∨k=4∨k=5∨k=6:=by omega
 all_goals
  subst hk
  simp[ij,oW,jt,o7,cm]
 all_goals first
  |omega
  |(have:=h8 rfl;omega)
  |(refine ⟨?_,?_⟩ <;>first | exact ⟨by omega,h9 rfl⟩ | exact h9 rfl | omega)
  |(have:=h9 rfl;simp[this];omega)
theorem afD{m:bX}(hm:ee m=true)(picks:List Int)(h c i:Nat)(n:fx)(hh:h≤5)(hc:c≤9999)(h0:n.g 1%7=0→0<c):ij (jt (j5 m picks h c i n))=true:=by
 obtain ⟨hw,-,-⟩:=Jv hm
 refine afC h c _ _ _ _ _ _ _ _ _ hh hc ?_ ?_ ?_ ?_ ?_ ?_ ?_ ?_ ?_
 iterate 6 omega
 ·refine ⟨?_,?_,?_⟩ <;>split <;>omega
 ·intro hk
  have:=h0 hk
  exact ⟨Int.emod_nonneg _ (by omega),Int.emod_lt_of_pos _ (by omega)⟩
 ·intro _
  simp only[tv]
  split
  ·rename_i hg
   have a1:=Int.emod_nonneg (n.g 8) (show (m.given.length:Int)≠0 by omega)
   have a2:=Int.emod_lt_of_pos (n.g 8) (show (0:Int)<(m.given.length:Int) by omega)
   exact ag3 hw (Io hm (by omega)) _
  ·decide
def lz(e:ay):Prop:=0≤e.bN∧e.bN≤12∧(e.kind=1∨e.kind=2→1≤e.dp∧e.dp≤2∧1≤e.dY∧e.dY≤6)
theorem aep{x:ay}(h1:1≤x.bN∧x.bN≤12)(h2:1≤x.dp∧x.dp≤2)(h3:1≤x.dY∧x.dY≤6):lz (jt x):=by
 refine ⟨?_,?_,fun hk =>?_⟩
 ·show 0≤(if x.kind=1∨x.kind=3∨x.kind=5 then x.bN else 0)
  split <;>omega
 ·show (if x.kind=1∨x.kind=3∨x.kind=5 then x.bN else 0)≤12
  split <;>omega
 ·have hk:x.kind=1∨x.kind=2:=hk
  show 1≤(if x.kind=1∨x.kind=2 then x.dp else 0)∧(if x.kind=1∨x.kind=2 then x.dp else 0)≤2∧1≤(if x.kind=0 then 0 else x.dY)∧(if x.kind=0 then 0 else x.dY)≤6
  rw[if_pos hk,if_neg (by omega)];omega
theorem aer(m:bX)(picks:List Int)(h c i:Nat)(n:fx):lz (jt (j5 m picks h c i n)) :=
 aep (by show 1≤1+n.g 6%12∧1+n.g 6%12≤12;omega) (by show 1≤1+n.g 5%2∧1+n.g 5%2≤2;omega) (by show 1≤1+n.g 4%6∧1+n.g 4%6≤6;omega)
theorem wJ{m:bX}(hm:ee m=true)(ls:List fx)(picks:List Int)(h:Nat)(hh:h≤5):∀ i,i≤9999→(∀ x∈fM m ls picks h i,ij x=true∧lz x)∧∀ k (hk:k<(fM m ls picks h i).length),((fM m ls picks h i)[k]).bL=⟨h,k⟩
 |0,_=>⟨by simp[fM],by simp[fM]⟩
 |i+1,hi=>by
  obtain ⟨h1,h2⟩:=wJ hm ls picks h hh i (by omega)
  have hl:=sE m ls picks h i
  simp only[fM,qX]
  split
  ·rename_i hc
   refine ⟨fun x hx =>?_,fun k hk =>?_⟩
   ·rcases List.mem_append.1 hx with hx | hx
    ·exact h1 x hx
    ·simp only[List.mem_singleton] at hx
     subst hx
     exact ⟨afD hm picks h _ i _ hh (by omega) (fun hk=>Nat.pos_of_ne_zero fun e=>hc.2 ⟨hk,e⟩),aer ..⟩
   ·rw[List.getElem_append]
    split
    ·exact h2 k _
    ·rename_i hk2
     simp only[List.length_append,List.length_singleton] at hk
     have e:k=(fM m ls picks h i).length:=by omega
     subst e
     simp[jt,j5]
  ·exact ⟨h1,h2⟩
theorem I1{m:bX}(hm:ee m=true)(ls:List fx)(picks:List Int){h i:Nat}(hh:h≤5)(hi:i≤9999){x:ay}(hx:x∈fM m ls picks h i):x.bL.eT=(h:Int):=by
 obtain ⟨k,hk,rfl⟩:=List.getElem_of_mem hx
 rw[(wJ hm ls picks h hh i hi).2 k hk]
theorem wI{m:bX}(hm:ee m=true)(ls:List fx)(picks:List Int):∀ h,h≤5→(∀ x∈gM m ls picks h,ij x=true∧lz x∧x.bL.eT<(h:Int))∧Ov (gM m ls picks h)
 |0,_=>⟨by simp[gM],.nil⟩
 |h+1,hh=>by
  obtain ⟨h1,h2⟩:=wI hm ls picks h (by omega)
  have hn:=(wK ls).2
  obtain ⟨h3,h4⟩:=wJ hm ls picks h (by omega) (gV ls) (by omega)
  simp only[gM]
  refine ⟨fun x hx =>?_,List.pairwise_append.2 ⟨h2,List.pairwise_iff_getElem.2 fun i j hi hj hij =>?_,fun a ha b hb =>?_⟩⟩
  ·rcases List.mem_append.1 hx with hx | hx
   ·obtain ⟨a,b,c⟩:=h1 x hx
    exact ⟨a,b,by omega⟩
   ·obtain ⟨a,b⟩:=h3 x hx
    exact ⟨a,b,by rw[I1 hm ls picks (by omega) (by omega) hx];omega⟩
  ·rw[h4 i hi,h4 j hj];simp[before];omega
  ·have e1:=(h1 a ha).2.2
   have e2:=I1 hm ls picks (by omega) (by omega) hb
   simp[before,e2];omega
theorem afK{m:bX}(hm:ee m=true)(ls:List fx)(picks:List Int):dW (pf m ls picks)=true:=by
 obtain ⟨h1,h2⟩:=wI hm ls picks 3 (by omega)
 exact xk.2 ⟨wH m ls picks 3,fun x hx=>(h1 x hx).1,h2⟩
theorem aeq{m:bX}(hm:ee m=true)(ls:List fx)(picks:List Int)(i:Nat):lz (ae (pf m ls picks) i):=by
 by_cases h:i<(pf m ls picks).length
 ·rw[←lX h];exact ((wI hm ls picks 3 (by omega)).1 _ (List.getElem_mem h)).2.1
 ·have:ae (pf m ls picks) i=default:=by simp[ae,List.getD_eq_getElem?_getD,List.getElem?_eq_none (Nat.le_of_not_lt h)]
  rw[this]
  exact ⟨by decide,by decide,by decide⟩
def ly(b:aQ):Prop:=0≤b.bN∧b.bN≤12∧1≤b.dp∧b.dp≤2∧1≤b.no∧b.no≤9999
theorem aeo{b b':aQ}{x:ay}(hb:ly b)(hx:lz x)(h:ka b x=some b'):ly b':=by
 simp only[ka] at h
 obtain ⟨x1,x2,x3⟩:=hx
 obtain ⟨b1,b2,b3,b4,b5,b6⟩:=hb
 repeat' split at h
 all_goals first
  |(cases h;done)
  |(simp only[Option.some.injEq] at h;subst h;exact ⟨by simp only;omega,by simp only;omega,b3,b4,b5,b6⟩)
theorem aen{bs bs':List aQ}{x:ay}(hb:∀ b∈bs,ly b)(hx:lz x)(h:eE e8 bs x=some bs'):∀ b∈bs',ly b:=by
 simp only[eE] at h
 split at h
 ·rename_i hk
  split at h
  ·simp only[Option.some.injEq] at h
   subst h
   intro b hm
   simp only[e8,List.mem_append,List.mem_singleton] at hm
   rcases hm with hm | rfl
   ·exact hb b hm
   ·obtain ⟨x1,x2,x3⟩:=hx
    have:=x3 hk
    exact ⟨x1,x2,this.1,this.2.1,this.2.2.1,by simp only[fE];omega⟩
  ·cases h
 ·split at h
  ·cases h
  ·rename_i b0 hb0
   simp only[Option.map_eq_some_iff] at h
   obtain ⟨b',hb',rfl⟩:=h
   intro b hm
   simp only[lI,List.mem_map] at hm
   obtain ⟨a,ha,rfl⟩:=hm
   split
   ·exact aeo (hb b0 (Ig hb0).1) hx hb'
   ·exact hb a ha
theorem I5(l:List ay)(hl:∀ i,lz (ae l i)):∀ (o:List Nat) (s:List aQ×List Nat),(∀ b∈s.1,ly b)→∀ b∈(o.foldl (mF e8 l) s).1,ly b
 | [],_,h=>h
 |i::o,s,h=>by
  refine I5 l hl o _ ?_
  simp only[mF]
  split
  ·rename_i bs hbs;exact aen h (hl i) hbs
  ·exact h
theorem I6{l:List ay}(hl:∀ i,lz (ae l i))(day known:Int):∀ b∈cL l day known,ly b:=I5 l hl _ _ (by simp)
def nF(bs:List aQ)(o s:Int):Nat:=(bs.filter fun b => !decide (0≤b.dJ)&&(b.bN==o&&b.dp==s)).length
def lK(bs:List aQ)(o:Nat):Nat→Nat
 |0=>0
 |s+1=>lK bs o s+nF bs ((o+1:Nat):Int) ((s+1:Nat):Int)
def jo(bs:List aQ):Nat→Nat
 |0=>0
 |o+1=>jo bs o+lK bs o 2
def nY(bs:List aQ)(n:Nat):Nat:=(bs.filter fun b => !decide (0≤b.dJ)&&(decide (1≤b.bN)&&decide (b.bN≤(n:Int)))).length
theorem Th(b:aQ)(bs:List aQ)(o s:Int):nF (b::bs) o s=nF bs o s+if (!decide (0≤b.dJ)&&(b.bN==o&&b.dp==s))=true then 1 else 0:=by
 simp only[nF,List.filter_cons]
 split <;>simp
theorem ahz{bs:List aQ}(hb:∀ b∈bs,ly b)(o:Nat):nY bs (o+1)=nY bs o+lK bs o 2:=by
 induction bs with
 |nil=>rfl
 |cons b bs ih =>
  have ih:=ih fun x hx=>hb x (by simp[hx])
  obtain ⟨b1,b2,b3,b4,-,-⟩:=hb b (by simp)
  have hs:b.dp=1∨b.dp=2:=by omega
  simp only[lK,Th] at ih ⊢
  simp only[nY,List.filter_cons] at ih ⊢
  by_cases hd:0≤b.dJ
  ·simp only[hd,decide_true,Bool.not_true,Bool.false_and,Bool.false_eq_true,if_false]
   omega
  ·simp only[hd,decide_false,Bool.not_false,Bool.true_and]
   by_cases h1:b.bN=((o+1:Nat):Int)
   ·have e1:(decide (1≤b.bN)&&decide (b.bN≤((o+1:Nat):Int)))=true:=by simp;omega
    have e2:(decide (1≤b.bN)&&decide (b.bN≤(o:Int)))=false:=by simp;omega
    rw[e1,e2,if_pos rfl,if_neg (by decide),List.length_cons]
    rcases hs with hs | hs
    ·have f1:(b.bN==((o+1:Nat):Int)&&b.dp==((0+1:Nat):Int))=true:=by simp[h1,hs]
     have f2:(b.bN==((o+1:Nat):Int)&&b.dp==((0+1+1:Nat):Int))=false:=by simp[h1,hs]
     rw[if_pos f1,if_neg (by rw[f2];decide)]
     omega
    ·have f1:(b.bN==((o+1:Nat):Int)&&b.dp==((0+1:Nat):Int))=false:=by simp[h1,hs]
     have f2:(b.bN==((o+1:Nat):Int)&&b.dp==((0+1+1:Nat):Int))=true:=by simp[h1,hs]
     rw[if_pos f2,if_neg (by rw[f1];decide)]
     omega
   ·have f:∀ s:Int,(b.bN==((o+1:Nat):Int)&&b.dp==s)=false:=fun s=>by
     have:(b.bN==((o+1:Nat):Int))=false:=beq_eq_false_iff_ne.2 h1
     rw[this];rfl
    have e:(decide (1≤b.bN)&&decide (b.bN≤((o+1:Nat):Int)))=(decide (1≤b.bN)&&decide (b.bN≤(o:Int))):=by
     rw[Bool.eq_iff_iff];simp;omega
    simp only[f,Bool.false_eq_true,if_false,e]
    split <;>(try simp only[List.length_cons]) <;>omega
theorem MF{bs:List aQ}(hb:∀ b∈bs,ly b):∀ o,jo bs o=nY bs o
 |0=>by
  have:(bs.filter fun b => !decide (0≤b.dJ)&&(decide (1≤b.bN)&&decide (b.bN≤((0:Nat):Int))))=[]:=by
   rw[List.filter_eq_nil_iff]
   intro b _
   simp;omega
  simp only[jo,nY,this,List.length_nil]
 |o+1=>by rw[jo,MF hb o,ahz hb o]
def nJ(l:List ay)(day known no:Int):Int:=(mT l no day known).1
theorem Ir{l:List ay}{day known:Int}(hok:dW l=true)(hd:cm 0 100000 day=true)(hk:cm 0 100000 known=true){b:aQ}(hb:b∈cL l day known)(hm:ly b)(ha:¬ 0≤b.dJ):mT l b.no day known=(b.bN,0):=by
 have hg:dw (cL l day known) b.no=some b:=acX (ql hok day known).1 hb
 have hno:cm 1 9999 b.no=true:=by
  obtain ⟨-,-,-,-,h5,h6⟩:=hm
  simp[cm];omega
 have hc:fy l [eI b.no 9999] [day,known]=0:=by
  have e1:(eI b.no 9999).g 0=b.no:=rfl
  have e2:(eI b.no 9999).g 1=9999:=rfl
  simp only[fy,hok,if_true,List.all_cons,List.all_nil,e1,e2,hno,Bool.and_true,List.any_cons,List.any_nil,hd,hk,Bool.not_true,Bool.or_false,Bool.false_eq_true,if_false]
 simp only[mT,hc,if_true,hg,if_neg ha]
theorem age{l:List ay}{day known:Int}(hok:dW l=true)(hl:∀ i,lz (ae l i))(hd:cm 0 100000 day=true)(hk:cm 0 100000 known=true) :
  ((dC (((cL l day known).filter fun b => !decide (0≤b.dJ)).map (·.no))).filter fun no=>nJ l day known no != 0).length=nY (cL l day known) 12:=by
 have hb:=I6 hl day known
 rw[((tx _).filter _).length_eq,List.filter_map,List.length_map,List.filter_filter,nY]
 congr 1
 refine List.filter_congr fun b hm =>?_
 obtain ⟨m1,m2,-,-,-,-⟩:=hb b hm
 simp only[Function.comp]
 by_cases ha:0≤b.dJ
 ·simp[ha]
 ·have:=Ir hok hd hk hm (hb b hm) ha
  simp only[nJ,this,ha,decide_false,Bool.not_false,Bool.and_true,Bool.true_and]
  rw[Bool.eq_iff_iff]
  simp;omega
def lB(l:List ay)(day known:Int)(nos:List Int)(i:Nat):Nat:=((nos.take i).filter fun no=>nJ l day known no != 0).length
theorem agd(l:List ay)(day known:Int){nos:List Int}{i:Nat}(h:i<nos.length):lB l day known nos (i+1)=lB l day known nos i+if nJ l day known nos[i] != 0 then 1 else 0:=by
 simp only[lB]
 rw[List.take_succ_eq_append_getElem h,List.filter_append,List.length_append,List.filter_cons,List.filter_nil]
 split <;>simp_all
theorem agc(l:List ay)(day known:Int)(nos:List Int)(i:Nat):lB l day known nos i≤nos.length :=
 Nat.le_trans (List.length_filter_le _ _) (by rw[List.length_take];omega)
theorem Bx(bs:List aQ)(o s:Int):nF bs o s≤bs.length:=List.length_filter_le _ _
theorem ya(bs:List aQ)(o:Nat):∀ s,lK bs o s≤s*bs.length
 |0=>Nat.zero_le _
 |s+1=>by
  have h1:=ya bs o s
  have h2:=Bx bs ((o+1:Nat):Int) ((s+1:Nat):Int)
  rw[lK,Nat.succ_mul];omega
theorem ME(bs:List aQ):∀ o,jo bs o≤o*(2*bs.length)
 |0=>Nat.zero_le _
 |o+1=>by
  have h1:=ME bs o
  have h2:=ya bs o 2
  rw[jo,Nat.succ_mul];omega
theorem ahX{a b:Nat}(h:a+b<9223372036854775807):IntKind.i64.wrap ((a:Int)+(b:Int))=((a+b:Nat):Int):=kb a b h
theorem N6(c:List Int)(ls:List fx)(n:iW)(hc:c.length*8≤140737488355328):aB Tryz.prog 4 [enc c,enc ls,enc n] (enc true):=by
 obtain ⟨m,hm⟩:∃ m,m=m8 c:=⟨_,rfl⟩
 have hokm:ee m=true:=by rw[hm];exact afN c
 have h24:=N4 c (by omega)
 rw[←hm] at h24
 have h23:=N3 m ls c hokm hc
 have hok:=afK hokm ls c
 have hev:=aeq hokm ls c
 generalize pf m ls c=l at h23 hok hev
 obtain ⟨D,hD⟩:∃ D,D=n.g 0%32:=⟨_,rfl⟩
 obtain ⟨eg,hKn⟩:∃ eg,eg=n.g 1%45:=⟨_,rfl⟩
 have hDb:0≤D∧D<32:=by rw[hD];exact ⟨Int.emod_nonneg _ (by decide),Int.emod_lt_of_pos _ (by decide)⟩
 have hKb:0≤eg∧eg<45:=by rw[hKn];exact ⟨Int.emod_nonneg _ (by decide),Int.emod_lt_of_pos _ (by decide)⟩
 have hd:cm 0 100000 D=true:=by simp[cm];omega
 have hk:cm 0 100000 eg=true:=by simp[cm];omega
 have hb:=I6 hev D eg
 have hbl:=(ql hok D eg).2.1
 have hck:∀ ns,(ns.all fun q:iW=>cm 1 (q.g 1) (q.g 0))=true→fy l ns [D,eg]=0:=fun ns h=>by
  simp only[fy,hok,if_true,h,List.any_cons,List.any_nil,hd,hk,Bool.not_true,Bool.or_false,Bool.false_eq_true,if_false]
 have h26:=yJ l D eg
 have hA:nx l D eg=(dC (((cL l D eg).filter fun b => !decide (0≤b.dJ)).map (·.no)),0):=by simp only[nx,hck [] rfl,if_true]
 rw[hA] at h26
 have hall:=age hok hev hd hk
 have hsum:=MF hb 12
 have hmem:∀ no∈dC (((cL l D eg).filter fun b => !decide (0≤b.dJ)).map (·.no)),mT l no D eg=(nJ l D eg no,0):=fun no hno=>by
  rw[(tx _).mem_iff,List.mem_map] at hno
  obtain ⟨b,hbm,rfl⟩:=hno
  obtain ⟨m1,m2⟩:=List.mem_filter.1 hbm
  have:=Ir hok hd hk m1 (hb b m1) (by simpa using m2)
  simp only[nJ,this]
 have hnl:(dC (((cL l D eg).filter fun b => !decide (0≤b.dJ)).map (·.no))).length≤60:=by
  rw[(tx _).length_eq,List.length_map]
  exact Nat.le_trans (List.length_filter_le _ _) hbl
 generalize dC (((cL l D eg).filter fun b => !decide (0≤b.dJ)).map (·.no))=nos at h26 hall hmem hnl
 have hC:∀ o s:Nat,1≤o→o≤12→1≤s→s≤2→oP l o s D eg=((nF (cL l D eg) o s:Int),0):=fun o s h1 h2 h3 h4=>by
  have h0:=hck [eI o 99,eI s 9] (by
   have e1:(eI (o:Int) 99).g 0=o:=rfl
   have e2:(eI (o:Int) 99).g 1=99:=rfl
   have e3:(eI (s:Int) 9).g 0=s:=rfl
   have e4:(eI (s:Int) 9).g 1=9:=rfl
   simp only[List.all_cons,List.all_nil,e1,e2,e3,e4,cm]
   simp;omega)
  simp only[oP,h0,if_true];rfl
 have hSl:=ME (cL l D eg)
 have hSs:=ya (cL l D eg)
 have hcl:=Bx (cL l D eg)
 obtain ⟨bs,hbs⟩:∃ bs,bs=cL l D eg:=⟨_,rfl⟩
 rw[←hbs] at hall hsum hC hSl hSs hcl hbl
 refine aB.bu Tryz.func4 QT SD UC (Nat.le_of_ble_eq_true rfl) (fun hwf W0 D0 E1 =>?_)
 simp only[iz,Ln,bp,Nat.zero_add,Nat.reduceAdd]
 clear hwf
 have R:=And.intro @wC (And.intro @eJ (And.intro @bK (And.intro @bg @J)))
 repeat' ((first
  |(with_reducible refine .guard (fun hb =>?_) (fun hb =>?_) <;>try simp only[hb])
  |refine U.aW (by decide +kernel) rfl fun K hK =>?_
  |refine .lead _ (h24) ?_
  |refine .lead _ (h23) ?_
  |refine .flat _ (gC _ _ (by decide) (by decide)) rfl ?_
  |refine .lead _ (h26) ?_
  |(refine .aO [0,1,2,5,6,7,8,9,10,11,12,13,14,15,16,17,18,19,20,40,44,59,61,65,69,82] hK ?_;clear hK K)
  |(with_reducible refine .done (hK _ ?_);clear hK K)
  |refine U.of rfl ?_
  |(with_reducible refine ar.aU (fun h =>?_) (fun h =>?_) <;>try simp only[h])) <;>try simp only[aX,R,←hD,←hKn,Nat.reduceEqDiff,reduceIte,Int.reduceBNe,Nat.reduceBEq])
 all_goals clear R
 refine U.loop (fun i:Nat=>au [(7,enc l),(8,.int .i64 D),(9,.int .i64 eg),(10,enc nos),(12,.int .i64 (lB l D eg nos i)),(13,.int .i64 i)] []) (fun i=>i≤nos.length) (fun i=>nos.length-i) 0 (Nat.zero_le _) ?_ (fun i hi =>?_)
 ·have e:lB l D eg nos 0=0:=by simp[lB]
  rw[e]
  refine aE.bP ?_ ?_ ?_ ?_ <;>simp[aT,bJ,bI,bd,aV,I.only,bt]
 have hol:=agc l D eg nos i
 by_cases hlt:i<nos.length
 ·have hc1:=iI hlt
  have he:=fun A=>fL (A:=A) 1 hlt rfl
  have hw:=fG (i:=i) (by omega)
  have hwo:=fG (i:=lB l D eg nos i) (by omega)
  have hsu:=agd l D eg hlt
  have hF:=yK l nos[i] D eg
  rw[hmem _ (List.getElem_mem hlt)] at hF
  rcases q:(nJ l D eg nos[i] != 0)
  all_goals
   rw[q] at hsu
   simp only[if_true,Bool.false_eq_true,if_false,Nat.add_zero] at hsu
   have R:=And.intro @hc1 (And.intro @he (And.intro @hw (And.intro @hwo (And.intro @q (And.intro @bK (And.intro @bg @J))))))
   repeat' ((first
    |(with_reducible refine .guard (fun hb =>?_) (fun hb =>?_) <;>try simp only[hb])
    |refine U.aW (by decide +kernel) rfl fun K hK =>?_
    |refine .flat _ (hF) rfl ?_
    |(refine .aO [0,1,2,5,6,7,8,9,10,11,12,13,14,15,16,17,18,19,20,40,44,59,61,65,69,82] hK ?_;clear hK K)
    |(with_reducible refine .done (hK _ ?_);clear hK K)
    |refine U.of rfl ?_
    |(with_reducible refine ar.aU (fun h =>?_) (fun h =>?_) <;>try simp only[h])) <;>try simp only[aX,R,Nat.reduceEqDiff,reduceIte,Int.reduceBNe,Nat.reduceBEq])
   all_goals clear R
   refine ⟨i+1,by omega,by omega,?_⟩
   rw[hsu]
   refine aE.bP ?_ ?_ ?_ ?_ <;>simp[aT,bJ,bI,bd,aV,I.only,bt]
 have hc1:=jx hlt
 have hge:i=nos.length:=by omega
 subst hge
 have hfin:lB l D eg nos nos.length=jo bs 12:=by
  rw[hsum,←hall,lB,List.take_length]
 rw[hfin]
 have R:=And.intro @hc1 (And.intro @bK (And.intro @bg @J))
 repeat' ((first
  |(with_reducible refine .guard (fun hb =>?_) (fun hb =>?_) <;>try simp only[hb])
  |refine U.aW (by decide +kernel) rfl fun K hK =>?_
  |(refine .aO [0,1,2,5,6,7,8,9,10,11,12,13,14,15,16,17,18,19,20,40,44,59,61,65,69,82] hK ?_;clear hK K)
  |(with_reducible refine .done (hK _ ?_);clear hK K)
  |refine U.of rfl ?_
  |(with_reducible refine ar.aU (fun h =>?_) (fun h =>?_) <;>try simp only[h])) <;>try simp only[aX,R,Nat.reduceEqDiff,reduceIte,Nat.reduceBEq])
 all_goals clear R
 refine U.loop (fun o:Nat=>au [(7,enc l),(8,.int .i64 D),(9,.int .i64 eg),(12,.int .i64 (jo bs 12:Nat)),(16,.int .i64 (jo bs o:Nat)),(17,.int .i64 ((o+1:Nat):Int))] []) (fun o=>o≤12) (fun o=>12-o) 0 (Nat.zero_le _) ?_ (fun o ho =>?_)
 ·simp only[jo]
  refine aE.bP ?_ ?_ ?_ ?_ <;>simp[aT,bJ,bI,bd,aV,I.only,bt]
 have h1:=hSl o
 have h2:o*(2*bs.length)≤12*(2*bs.length):=Nat.mul_le_mul_right _ ho
 by_cases ho12:o<12
 case neg =>
  have e:o=12:=by omega
  subst e
  have q1:decide (((12+1:Nat):Int)≤12)=false:=rfl
  have q2:∀ x:Int,(x==x)=true:=fun x=>by simp
  have R:=And.intro @q1 (And.intro @q2 (And.intro @bK (And.intro @bg @J)))
  repeat' ((first
   |(with_reducible refine .guard (fun hb =>?_) (fun hb =>?_) <;>try simp only[hb])
   |refine U.aW (by decide +kernel) rfl fun K hK =>?_
   |refine .flat _ (N2) rfl ?_
   |(refine .aO [0,1,2,5,6,7,8,9,10,11,12,13,14,15,16,17,18,19,20,40,44,59,61,65,69,82] hK ?_;clear hK K)
   |(with_reducible refine .done (hK _ ?_);clear hK K)
   |refine U.of rfl ?_
   |(with_reducible refine ar.aU (fun h =>?_) (fun h =>?_) <;>try simp only[h])) <;>try simp only[aX,R,Nat.reduceEqDiff,reduceIte,Nat.reduceBEq])
  all_goals clear R
 have q1:decide (((o+1:Nat):Int)≤12)=true:=decide_eq_true (by omega)
 have hwo:=fG (i:=o+1) (by omega)
 have R:=And.intro @q1 (And.intro @bK (And.intro @bg @J))
 repeat' ((first
  |(with_reducible refine .guard (fun hb =>?_) (fun hb =>?_) <;>try simp only[hb])
  |refine U.aW (by decide +kernel) rfl fun K hK =>?_
  |(refine .aO [0,1,2,5,6,7,8,9,10,11,12,13,14,15,16,17,18,19,20,40,44,59,61,65,69,82] hK ?_;clear hK K)
  |(with_reducible refine .done (hK _ ?_);clear hK K)
  |refine U.of rfl ?_
  |(with_reducible refine ar.aU (fun h =>?_) (fun h =>?_) <;>try simp only[h])) <;>try simp only[aX,R,Nat.reduceEqDiff,reduceIte,Nat.reduceBEq])
 all_goals clear R
 refine U.loop (fun s:Nat=>au [(7,enc l),(8,.int .i64 D),(9,.int .i64 eg),(12,.int .i64 (jo bs 12:Nat)),(16,.int .i64 ((jo bs o+lK bs o s:Nat):Int)),(17,.int .i64 ((o+1:Nat):Int)),(18,.int .i64 ((s+1:Nat):Int))] []) (fun s=>s≤2) (fun s=>2-s) 0 (Nat.zero_le _) ?_ (fun s hs =>?_)
 ·simp only[lK,Nat.add_zero]
  refine aE.bP ?_ ?_ ?_ ?_ <;>simp[aT,bJ,bI,bd,aV,I.only,bt]
 by_cases hs2:s<2
 case neg =>
  have e:s=2:=by omega
  subst e
  have q3:decide (((2+1:Nat):Int)≤2)=false:=rfl
  have R:=And.intro @q3 (And.intro @hwo (And.intro @bK (And.intro @bg @J)))
  repeat' ((first
   |(with_reducible refine .guard (fun hb =>?_) (fun hb =>?_) <;>try simp only[hb])
   |refine U.aW (by decide +kernel) rfl fun K hK =>?_
   |(refine .aO [0,1,2,5,6,7,8,9,10,11,12,13,14,15,16,17,18,19,20,40,44,59,61,65,69,82] hK ?_;clear hK K)
   |(with_reducible refine .done (hK _ ?_);clear hK K)
   |refine U.of rfl ?_
   |(with_reducible refine ar.aU (fun h =>?_) (fun h =>?_) <;>try simp only[h])) <;>try simp only[aX,R,Nat.reduceEqDiff,reduceIte,Nat.reduceBEq])
  all_goals clear R
  refine ⟨o+1,by omega,by omega,?_⟩
  simp only[jo]
  refine aE.bP ?_ ?_ ?_ ?_ <;>simp[aT,bJ,bI,bd,aV,I.only,bt]
 have q3:decide (((s+1:Nat):Int)≤2)=true:=decide_eq_true (by omega)
 have hws:=fG (i:=s+1) (by omega)
 have h3:=hSs o s
 have h4:s*bs.length≤2*bs.length:=Nat.mul_le_mul_right _ hs
 have h5:=hcl ((o+1:Nat):Int) ((s+1:Nat):Int)
 have hwa:=ahX (a:=jo bs o+lK bs o s) (b:=nF bs ((o+1:Nat):Int) ((s+1:Nat):Int)) (by omega)
 have hF:=yL l ((o+1:Nat):Int) ((s+1:Nat):Int) D eg
 rw[hC (o+1) (s+1) (by omega) (by omega) (by omega) (by omega)] at hF
 have R:=And.intro @q3 (And.intro @hws (And.intro @hwa (And.intro @bK (And.intro @bg @J))))
 repeat' ((first
  |(with_reducible refine .guard (fun hb =>?_) (fun hb =>?_) <;>try simp only[hb])
  |refine U.aW (by decide +kernel) rfl fun K hK =>?_
  |refine .flat _ (hF) rfl ?_
  |(refine .aO [0,1,2,5,6,7,8,9,10,11,12,13,14,15,16,17,18,19,20,40,44,59,61,65,69,82] hK ?_;clear hK K)
  |(with_reducible refine .done (hK _ ?_);clear hK K)
  |refine U.of rfl ?_
  |(with_reducible refine ar.aU (fun h =>?_) (fun h =>?_) <;>try simp only[h])) <;>try simp only[aX,R,Nat.reduceEqDiff,reduceIte,Int.reduceBNe,Nat.reduceBEq])
 all_goals clear R
 refine ⟨s+1,by omega,by omega,?_⟩
 simp only[lK,←Nat.add_assoc]
 refine aE.bP ?_ ?_ ?_ ?_ <;>simp[aT,bJ,bI,bd,aV,I.only,bt]
end Go.Proofs.YtcldiigclhgafaaGreat
