/-
  A part of the proof that the law HerdSums returns true for every input; conditions: none beyond the statement's own. (part 4 of 6)
-/
import Derived.Shelf.Sort.Plain
import Derived.Shelf.Slices.In.SortNone
import Derived.Test.YtcldiigclhgafaaGreatNdc
set_option linter.unusedSimpArgs false
set_option linter.unusedVariables false
set_option maxHeartbeats 16000000
set_option maxRecDepth 100000
namespace Go.Proofs.YtcldiigclhgafaaGreat
open Go Go.Abs
open Go.Abs.Enc (enc)
def mM(w:aM 5 Int)(a:aM 6 Int)(r:aM 6 Int)(i:Nat):Bool:=nB (w.g (a.g i).toNat) (r.g i)==0
def kW(w:aM 5 Int)(a r:aM 6 Int):Int:=(ev (mM w a r) 6:Int)
theorem ah4(w:aM 5 Int)(a b:aM 6 Int)(ha:dH a=true):aB Tryz.prog 102 [enc w,enc a,enc b] (enc (kW w a b)):=by
 refine aB.bu Tryz.func102 PE Rn Tk (Nat.le_of_ble_eq_true rfl) (fun hwf W0 D0 E1 =>?_)
 simp only[zm,J7,bp,Nat.zero_add,Nat.reduceAdd]
 refine .ak (by decide +kernel) fun K hK =>?_
 simp only[Cz,J,simprocAttr]
 refine .done (hK _ ?_);clear hK K
 refine .ak (by decide +kernel) fun K hK =>?_
 simp only[CA,J,simprocAttr]
 refine .done (hK _ ?_);clear hK K
 refine U.seq (U.seq ?_)
 refine .bj (by decide +kernel) fun K hK =>?_
 simp only[CB,J,simprocAttr]
 refine .done (hK _ ?_);clear hK K;try simp only[ao]
 refine U.block (U.loop (fun i:Nat=>au [(3,.ptr 3 []),(4,.ptr 4 []),(5,.ptr 5 []),(7,.int .i64 (ev (mM w a b) i)),(8,.int .i64 i)] [(3,.box (enc w)),(4,.box (enc a)),(5,.box (enc b))]) (fun i=>i≤6) (fun i=>6-i) 0 (by omega) ?_ (fun i hi =>?_))
 ·simp only[ev]
  refine aE.bP ?_ ?_ ?_ ?_ <;>simp[aT,bJ,bI,bd,al,aV,cw,I.only,ah.only,bt]
 ·have hc:=uD (mM w a b) i
  refine U.seq (U.seq ?_)
  refine .bj (by decide +kernel) fun K hK =>?_
  simp only[CC,J,simprocAttr]
  refine .done (hK _ ?_);clear hK K;try simp only[ao]
  refine U.bD ?_
  simp only[ar,J,simprocAttr]
  refine ⟨fun h =>?_,fun h =>?_⟩
  ·have hlt:i<6:=by simp at h;omega
   have h1:=nc ha hlt
   refine U.skip ?_;try simp only[ao,simprocAttr]
   refine U.seq (U.block ?_)
   refine .ak (by decide +kernel) fun K hK =>?_
   simp only[CD,J,simprocAttr]
   have k1:(a.g i).toNat<5:=by omega
   try simp only[bK,jb 1 a hlt rfl,eF a hlt,J,simprocAttr]
   try simp only[bK,fP 1 w h1 rfl,eF w k1,J,simprocAttr]
   try simp only[bK,jb 1 b hlt rfl,eF b hlt,J,simprocAttr]
   refine .done (hK _ ?_);clear hK K
   refine U.bD ?_
   simp only[ar,J,simprocAttr]
   refine ⟨fun h =>?_,fun h =>?_⟩
   ·have hap:mM w a b i=true:=h
    refine .bj (by decide +kernel) fun K hK =>?_
    simp only[CE,J,simprocAttr]
    refine .done (hK _ ?_);clear hK K;try simp only[ao,bH]
    refine .bj (by decide +kernel) fun K hK =>?_
    simp only[u3,J,simprocAttr]
    refine .done (hK _ ?_);clear hK K;try simp only[ao]
    refine ⟨i+1,by omega,by omega,?_⟩
    rw[cA _ (by omega) (by omega),cA _ (by omega) (by omega)]
    simp only[ev,hap,if_true]
    refine aE.bP ?_ ?_ ?_ ?_ <;>simp[aT,bJ,bI,bd,al,aV,cw,I.only,ah.only,bt]
   ·have hap:mM w a b i=false:=h
    refine U.skip ?_;try simp only[ao,bH,simprocAttr]
    refine .bj (by decide +kernel) fun K hK =>?_
    simp only[u3,J,simprocAttr]
    refine .done (hK _ ?_);clear hK K;try simp only[ao]
    refine ⟨i+1,by omega,by omega,?_⟩
    rw[cA _ (by omega) (by omega)]
    simp only[ev,hap,Bool.false_eq_true,if_false]
    refine aE.bP ?_ ?_ ?_ ?_ <;>simp[aT,bJ,bI,bd,al,aV,cw,I.only,ah.only,bt]
  ·have hge:i=6:=by simp at h;omega
   subst hge
   refine U.exit ?_;try simp only[ao,bH,simprocAttr]
   refine .ak (by decide +kernel) fun K hK =>?_
   simp only[CF,J,simprocAttr]
   refine .done (hK _ ?_);clear hK K
   refine U.ret ?_
   simp only[J,simprocAttr]
   rfl
structure xh (m:bX):Prop where
 len:m.given.length≤1099511627776
 mark:∀ g∈m.given,dH g.mark=true
theorem Oh(m:bX)(k:aM 6 Int)(hm:xh m)(hk:dH k=true):aB Tryz.prog 87 [enc m,enc k] (enc (m.given.any fun g=>decide ((ev (iy m.eC g.mark k) 6:Int)≤IntKind.i64.wrap (2*m.ew)))):=by
 refine aB.bu Tryz.func87 Q9 SU US (Nat.le_of_ble_eq_true rfl) (fun hwf W0 D0 E1 =>?_)
 simp only[A2,LD,bp,Nat.zero_add]
 have hlen:=hm.len
 refine .ak (by decide +kernel) fun K hK =>?_
 simp only[HD,J,simprocAttr]
 refine .done (hK _ ?_);clear hK K
 refine U.seq ?_
 refine .ak (by decide +kernel) fun K hK =>?_
 simp only[HE,J,simprocAttr]
 refine .done (hK _ ?_);clear hK K
 refine U.block (U.loop (fun i:Nat=>au [(2,.ptr 2 []),(3,.ptr 3 []),(5,.int .i64 i)] [(2,.box (enc m)),(3,.box (enc k))]) (fun i=>i≤m.given.length∧∀ j (h:j<m.given.length),j<i→(decide ((ev (iy m.eC m.given[j].mark k) 6:Int)≤IntKind.i64.wrap (2*m.ew)))=false) (fun i=>m.given.length-i) 0 ⟨by omega,fun k _ h=>by omega⟩ ?_ (fun i hi =>?_))
 ·refine aE.bP ?_ ?_ ?_ ?_ <;>simp[aT,bJ,bI,bd,al,aV,cw,I.only,ah.only,bt]
 ·refine U.seq (U.seq ?_)
  refine .bj (by decide +kernel) fun K hK =>?_
  simp only[HF,J,simprocAttr]
  try simp only[cC,bK,J,simprocAttr]
  refine .done (hK _ ?_);clear hK K;try simp only[ao]
  refine U.bD ?_
  simp only[ar,J,simprocAttr]
  refine ⟨fun h =>?_,fun h =>?_⟩
  ·have hlt:i<m.given.length:=by simpa using h
   refine U.skip ?_;try simp only[ao,simprocAttr]
   refine U.seq (U.block ?_)
   refine .ak (by decide +kernel) fun K hK =>?_
   simp only[HG,J,simprocAttr]
   try simp only[cC,fL 7 hlt rfl,cT,J,simprocAttr]
   refine .flat _ (Nf m.eC m.given[i].mark k (hm.mark _ (List.getElem_mem _)) hk) rfl ?_
   try simp only[cC,J,simprocAttr]
   refine .done (hK _ ?_);clear hK K
   refine U.bD ?_
   simp only[ar,J,simprocAttr]
   refine ⟨fun h =>?_,fun h =>?_⟩
   ·refine .ak (by decide +kernel) fun K hK =>?_
    simp only[HI,J,simprocAttr]
    refine .done (hK _ ?_);clear hK K
    refine U.ret ?_
    simp only[bH,ao,J,simprocAttr]
    have:(m.given.any fun g=>decide ((ev (iy m.eC g.mark k) 6:Int)≤IntKind.i64.wrap (2*m.ew)))=true:=List.any_eq_true.2 ⟨_,List.getElem_mem hlt,h⟩
    rw[this]
   ·refine U.skip ?_;try simp only[ao,bH,simprocAttr]
    refine .bj (by decide +kernel) fun K hK =>?_
    simp only[HJ,J,simprocAttr]
    refine .done (hK _ ?_);clear hK K;try simp only[ao]
    refine ⟨i+1,⟨by omega,fun j hj hji =>?_⟩,by omega,?_⟩
    ·by_cases hj':j=i
     ·subst hj';exact h
     ·exact hi.2 j hj (by omega)
    ·rw[cA _ (by omega) (by omega)]
     refine aE.bP ?_ ?_ ?_ ?_ <;>simp[aT,bJ,bI,bd,al,aV,cw,I.only,ah.only,bt]
  ·have hge:i=m.given.length:=by simp at h;omega
   refine U.exit ?_;try simp only[ao,bH,simprocAttr]
   refine .ak (by decide +kernel) fun K hK =>?_
   simp only[HK,J,simprocAttr]
   refine .done (hK _ ?_);clear hK K
   refine U.ret ?_
   simp only[J,simprocAttr]
   have:(m.given.any fun g=>decide ((ev (iy m.eC g.mark k) 6:Int)≤IntKind.i64.wrap (2*m.ew)))=false:=by
    rw[List.any_eq_false]
    intro x hx
    obtain ⟨j,hj,rfl⟩:=List.getElem_of_mem hx
    simpa using hi.2 j hj (by omega)
   rw[this]
theorem afM{m:bX}(h:ee m=true):xh m:=by
 simp only[ee,Bool.and_eq_true,decide_eq_true_eq,List.all_eq_true,List.mem_range] at h
 refine ⟨by omega,fun g hg =>?_⟩
 obtain ⟨i,hi,rfl⟩:=List.getElem_of_mem hg
 rw[ja hi]
 exact xg (h.2.2.2 i hi)
def gQ(r:aM 6 Int):Bool:=(List.range 6).all fun i=>cm 1 31 (r.g i)
theorem wY:I.slice 1 []=enc ([]:List Int):=rfl
def kN:aM 6 Int:=⟨List.replicate 6 0,rfl⟩
theorem nG:I.agg [.int .i64 0,.int .i64 0,.int .i64 0,.int .i64 0,.int .i64 0,.int .i64 0]=enc kN:=rfl
instance:nw b7:=⟨fun g=>by
 show (I.agg [.int .i64 g.bN,enc g.mark]).cV=true
 simp only[I.cV,I.iH,BS,Bool.and_self]⟩
def fj:b7:=⟨0,kN⟩
theorem uM:I.agg [.int .i64 0,.agg [.int .i64 0,.int .i64 0,.int .i64 0,.int .i64 0,.int .i64 0,.int .i64 0]]=enc fj:=rfl
theorem l9(p:Nat→Bool)(l:List b7):(I.agg (l.map enc)).only p=true:=by simp only[I.only];exact eh p l
theorem aem(l:List b7):(I.agg (l.map enc)).cV=true:=by simp only[I.cV];exact wB l
def iq(k:Nat)(l:List b7)(m:Nat):List (Nat×ah):=[(k,.box (.agg ((l++List.replicate m fj).map enc)))]
def uA(l:List b7):cS:=fun r os'=>(l=[]∧(r=.nils 7∨r=.c0 7)∧os'=[])∨(l≠[]∧∃ m,r=.view 7 [] 7 0 l.length∧os'=iq 7 l m)
theorem yC(l:List b7)(hl:l.length≤1000):cD Tryz.prog 167 [enc l] [] (uA l):=by
 refine cD.bu Tryz.func167 Qj R2 T0 (Nat.le_of_ble_eq_true rfl) (Nat.le_of_ble_eq_true rfl) (fun m hm=>by simp[al,aj] at hm) (fun hwf W0 D0 E1 =>?_)
 simp only[Aa,KN,bp]
 refine .ak (by decide +kernel) fun K hK =>?_
 simp only[EI,J,simprocAttr]
 refine .done (hK _ ?_);clear hK K
 refine U.seq (U.seq ?_)
 by_cases hn:l=[]
 ·subst hn
  refine .bj (by decide +kernel) fun K hK =>?_
  simp only[vt,J,simprocAttr]
  simp only[tF,List.isEmpty_nil,pt]
  refine .any rfl fun b _ =>?_
  try simp only[J,simprocAttr]
  generalize (b==0)=t
  cases t
  ·refine .done (hK _ ?_);clear hK K;try simp only[ao]
   refine U.bD ?_
   simp only[ar,J,simprocAttr]
   refine ⟨fun h =>?_,fun h =>?_⟩
   ·cases h
   refine U.skip ?_;try simp only[ao,simprocAttr]
   refine .ak (by decide +kernel) fun K hK =>?_
   simp only[vu,J,simprocAttr]
   try simp only[eB,uM,J,simprocAttr]
   refine .done (hK _ ?_);clear hK K
   refine U.ret ?_
   simp only[fF]
   exact ⟨[],[.c0 7],qj,⟨⟨.c0 7,rfl,.inl ⟨rfl,rfl,rfl⟩⟩,trivial⟩,.inl ⟨rfl,.inr rfl,rfl⟩⟩
  ·refine .done (hK _ ?_);clear hK K
   refine U.bD ?_
   simp only[ar,J,simprocAttr]
   refine ⟨fun h =>?_,fun h =>?_⟩
   ·refine .ak (by decide +kernel) fun K hK =>?_
    simp only[EJ,J,simprocAttr]
    refine .done (hK _ ?_);clear hK K
    refine U.ret ?_
    simp only[ao,fF]
    exact ⟨[],[.nils 7],qj,⟨⟨.nils 7,rfl,.inl ⟨rfl,rfl,rfl⟩⟩,trivial⟩,.inl ⟨rfl,.inl rfl,rfl⟩⟩
   ·cases h
 ·have hu:jL (enc l)=false:=by rw[tF];simpa using hn
  refine .bj (by decide +kernel) fun K hK =>?_
  simp only[vt,J,simprocAttr]
  try simp only[hu,Jg _ l hn,J,simprocAttr]
  refine .done (hK _ ?_);clear hK K;try simp only[ao]
  refine U.bD ?_
  simp only[ar,J,simprocAttr]
  refine ⟨fun h =>?_,fun h =>?_⟩
  ·cases h
  refine U.skip ?_;try simp only[ao,simprocAttr]
  refine .ak (by decide +kernel) fun K hK =>?_
  simp only[vu,J,simprocAttr]
  try simp only[eB,uM,J,simprocAttr]
  refine a7.y0 fj rfl hn rfl (by omega) (by simp only[maxLen];omega) fun m =>?_
  try simp only[J,simprocAttr]
  refine .done (hK _ ?_);clear hK K
  refine U.ret ?_
  simp only[fF]
  exact ⟨iq 7 l m,[.view 7 [] 7 0 l.length],mS rfl (fun p=>l9 p _),⟨⟨_,rfl,.inl ⟨rfl,rfl,rfl⟩⟩,trivial⟩,.inr ⟨hn,m,rfl,rfl⟩⟩
def gB{n:Nat}(x:aM n Int)(k:Nat)(v:Int):aM n Int:=⟨x.l.set k v,by simp[x.h]⟩
theorem nK{n:Nat}(x:aM n Int)(k j:Nat)(v:Int)(h:k<n):(gB x k v).g j=if k=j then v else x.g j:=by
 simp only[aM.g,gB,List.getD_eq_getElem?_getD,List.getElem?_set]
 by_cases hkj:k=j
 ·subst hkj;simp[x.lt h]
 ·simp[hkj]
theorem ag4{n k:Nat}(x:aM n Int)(h:k<n)(v:Int):(enc x:I).dx [k] (.int .i64 v)=enc (gB x k v):=by
 have h1:(enc x:I).dj=some (x.l.map enc):=rfl
 rw[Mg,h1]
 simp only[qU,qi x h,tw,gf]
 change I.agg _=I.agg ((x.l.set k v).map enc)
 rw[List.map_set];rfl
theorem ox{A:ab}{n m k:Nat}(x:aM m Int)(h:k<m){v u:Int}{rest:List av} : dS A none n [k] (enc x) (.int .i64 v) rest (some (.int .i64 u))=az rest (A.aL n (.box (enc (gB x k v)))):=by
 rw[ep (s:=none) (v:=.int .i64 v) (old:=.int .i64 u) rfl rfl rfl,ag4 x h]
def gO(n:Int):Nat→Int
 |0=>n
 |k+1=>(gO n k).tdiv 5
def jP(n:Int):Nat→aM 6 Int
 |0=>kN
 |k+1=>gB (jP n k) (5-k) ((gO n k).tmod 5)
theorem Jf(n:Int)(h:-9223372036854775808≤n∧n≤9223372036854775807):∀ k,-9223372036854775808≤gO n k∧gO n k≤9223372036854775807
 |0=>h
 |k+1=>by
  have:=Jf n h k
  simp only[gO]
  rcases Int.le_total 0 (gO n k) with h0 | h0
  ·rw[Int.tdiv_eq_ediv_of_nonneg h0];omega
  ·have:(gO n k).tdiv 5=-((-(gO n k)) / 5):=by
    rw[←Int.tdiv_eq_ediv_of_nonneg (by omega),Int.neg_tdiv,Int.neg_neg]
   omega
theorem Og(n:Int):aB Tryz.prog 86 [enc n] (enc (jP n 6)):=by
 refine aB.bu Tryz.func86 Q8 SS UR (Nat.le_of_ble_eq_true rfl) (fun hwf W0 D0 E1 =>?_)
 simp only[A1,LC,bp]
 have hin:=Jf n ((ahQ n).1 hwf.1)
 have h5:¬ (5:Int)=0:=by decide
 refine .ak (by decide +kernel) fun K hK =>?_
 simp only[Hv,J,simprocAttr]
 refine .done (hK _ ?_);clear hK K
 refine .ak (by decide +kernel) fun K hK =>?_
 simp only[Hw,J,simprocAttr]
 simp only[nG]
 refine .done (hK _ ?_);clear hK K
 refine U.seq (U.seq ?_)
 refine .bj (by decide +kernel) fun K hK =>?_
 simp only[Hx,J,simprocAttr]
 refine .done (hK _ ?_);clear hK K;try simp only[ao]
 refine U.block (U.loop (fun k:Nat=>au [(0,.int .i64 (gO n k)),(2,.ptr 2 []),(3,.ptr 3 []),(4,.int .i64 (5-k))] [(2,.box (enc kN)),(3,.box (enc (jP n k)))]) (fun k=>k≤6) (fun k=>6-k) 0 (by omega) ?_ (fun k hk =>?_))
 ·refine aE.bP ?_ ?_ ?_ ?_ <;>simp[aT,bJ,bI,bd,al,aV,cw,I.only,ah.only,bt]
  all_goals rfl
 refine U.seq (U.seq ?_)
 refine .bj (by decide +kernel) fun K hK =>?_
 simp only[Hy,J,simprocAttr]
 refine .done (hK _ ?_);clear hK K;try simp only[ao]
 refine U.bD ?_
 simp only[ar,J,simprocAttr]
 refine ⟨fun h =>?_,fun h =>?_⟩
 ·have hlt:k<6:=by simp at h;omega
  have hd:=hin k
  have e1:((5:Int)-k).toNat=5-k:=by omega
  have hlt':5-k<6:=by omega
  refine U.skip ?_;try simp only[ao,simprocAttr]
  refine U.seq (U.block ?_)
  refine .ak (by decide +kernel) fun K hK =>?_
  simp only[Hz,J,simprocAttr]
  try simp only[bK,fP 1 (jP n k) (show (0:Int)≤5-k∧(5:Int)-k<(6:Nat) by omega) rfl,e1,eF (jP n k) hlt',ox (jP n k) hlt',J,simprocAttr]
  refine .done (hK _ ?_);clear hK K
  refine .bj (by decide +kernel) fun K hK =>?_
  simp only[HA,J,simprocAttr]
  try simp only[h5,J,simprocAttr]
  refine .done (hK _ ?_);clear hK K;try simp only[ao,bH]
  refine .bj (by decide +kernel) fun K hK =>?_
  simp only[HB,J,simprocAttr]
  refine .done (hK _ ?_);clear hK K;try simp only[ao]
  refine ⟨k+1,by omega,by omega,?_⟩
  have hq:=hin (k+1)
  simp only[gO] at hq
  rw[cA _ (by omega) (by omega),cA _ hq.1 hq.2]
  have e2:(5:Int)-k-1=5-((k+1:Nat):Int):=by omega
  rw[e2]
  simp only[gO,jP]
  refine aE.bP ?_ ?_ ?_ ?_ <;>simp[aT,bJ,bI,bd,al,aV,cw,I.only,ah.only,bt]
 ·have hge:k=6:=by simp at h;omega
  subst hge
  refine U.exit ?_;try simp only[ao,bH,simprocAttr]
  refine .ak (by decide +kernel) fun K hK =>?_
  simp only[HC,J,simprocAttr]
  try simp only[cC,J,simprocAttr]
  rw[ep (dG _) (by rw[fJ];rfl) ((eH _).trans (eH _).symm)]
  try simp only[J,simprocAttr]
  refine .done (hK _ ?_);clear hK K
  refine U.ret ?_
  simp only[J,simprocAttr]
  try simp only[cC,cT,J,simprocAttr]
theorem wj{A:ab}{l:List Int}{i:Nat}(h:i<l.length):ic A 1 (i:Int) (enc l)=some (.ref (.int .i64 (l.getD i 0))):=by
 rw[fL 1 h rfl]
 simp[List.getD_eq_getElem?_getD,h,iZ]
theorem wS{w:Int}{k:Nat}(h:gF w k=true):∀ n,k<n→(k:Int)∈gn w n
 |0,h=>absurd h (by omega)
 |n+1,hk=>by
  simp only[gn,List.mem_append]
  rcases Nat.lt_or_ge k n with h1 | h1
  ·exact .inl (wS h n h1)
  ·have:k=n:=by omega
   subst this
   right;simp[h]
theorem wQ{w:Int} : ∀ n,∀ x∈gn w n,0≤x∧x<n
 |0=>by simp[gn]
 |n+1=>by
  intro x hx
  simp only[gn,List.mem_append] at hx
  rcases hx with hx | hx
  ·have:=wQ n x hx;omega
  ·split at hx
   ·simp only[List.mem_singleton] at hx;omega
   ·cases hx
theorem JC{w:aM 5 Int}(h:gR w=true){k:Nat}(hk:k<5):(0≤w.g k∧w.g k≤31)∧gF (w.g k) k=true:=by
 simp only[gR,List.all_eq_true,List.mem_range,Bool.and_eq_true] at h
 have:=h k hk
 simp only[cm,Bool.and_eq_true,decide_eq_true_eq] at this
 exact this
def kY(cuts:List Int)(i n:Nat):Nat:=if 0<cuts.length then (((cuts.getD (i%cuts.length) 0).tmod n+n).tmod n).toNat else 0
def iR(w:aM 5 Int)(a:aM 6 Int)(i:Nat):List Int:=gn (w.g (a.g i).toNat) 5
def rh(w:aM 5 Int)(a:aM 6 Int)(cuts:List Int)(i:Nat):Int:=shl 1 ((iR w a i).getD (kY cuts i (iR w a i).length) 0).toNat
def jM(w:aM 5 Int)(a:aM 6 Int)(cuts:List Int):Nat→aM 6 Int
 |0=>kN
 |i+1=>gB (jM w a cuts i) i (rh w a cuts i)
def oD(w:aM 5 Int)(a:aM 6 Int)(cuts:List Int):aM 6 Int×Int:=if gR w then (if dH a then (jM w a cuts 6,0) else (kN,10)) else (kN,11)
theorem BD(cuts:List Int)(i:Nat){n:Nat}(hn:0<n):kY cuts i n<n:=by
 unfold kY
 split
 ·have h1:-(n:Int)<(cuts.getD (i%cuts.length) 0).tmod n:=by
   have:=Int.tmod_lt_of_pos (-(cuts.getD (i%cuts.length) 0)) (show (0:Int)<n by omega)
   rw[Int.neg_tmod] at this;omega
  have h2:=Int.tmod_lt_of_pos ((cuts.getD (i%cuts.length) 0).tmod n+n) (show (0:Int)<n by omega)
  have h3:0≤((cuts.getD (i%cuts.length) 0).tmod n+n).tmod n:=Int.tmod_nonneg _ (by omega)
  omega
 ·exact hn
structure Item where
 eT:Int
 no:Int
 deriving DecidableEq
instance:Enc Item where
 enc x:=.agg [.int .i64 x.eT,.int .i64 x.no]
 sz:=2
 aJ:=.dZ [.one,.one]
 fQ:=true
 done _:=rfl
 size _:=by simp[I.size,I.sizes]
 j8 _:=by simp[I.aJ,I.cQ]
 agg _:=rfl
structure ay where
 bL:Item
 kind:Int
 day:Int
 known:Int
 dY:Int
 eP:Int
 dp:Int
 bN:Int
 cg:aM 6 Int
 jE:Item
instance:Enc ay where
 enc e:=.agg [enc e.bL,.int .i64 e.kind,.int .i64 e.day,.int .i64 e.known,.int .i64 e.dY,.int .i64 e.eP,.int .i64 e.dp,.int .i64 e.bN,enc e.cg,enc e.jE]
 sz:=17
 aJ:=.dZ [.dZ [.one,.one],.one,.one,.one,.one,.one,.one,.one,.dZ (List.replicate 6 .one),.dZ [.one,.one]]
 fQ:=true
 done e:=by simp only[I.done,I.eR,Enc.done,Bool.and_self]
 size e:=by simp only[I.size,I.sizes,fX,kq,kr];rfl
 j8 e:=by simp only[I.aJ,I.cQ,eH,rU,rV];rfl
 agg _:=rfl
structure aQ where
 no:Int
 dp:Int
 eP:Int
 bN:Int
 ju:Int
 born:Int
 dJ:Int
 found:Bool
 cg:List (aM 6 Int)
instance:Enc aQ where
 enc b:=.agg [.int .i64 b.no,.int .i64 b.dp,.int .i64 b.eP,.int .i64 b.bN,.int .i64 b.ju,.int .i64 b.born,.int .i64 b.dJ,.bool b.found,enc b.cg]
 sz:=9
 aJ:=.dZ [.one,.one,.one,.one,.one,.one,.one,.one,.one]
 fQ:=true
 done e:=by simp only[I.done,I.eR,Enc.done,Bool.and_self]
 size e:=by simp only[I.size,I.sizes,fX,uO]
 j8 e:=by simp only[I.aJ,I.cQ,eH,BU]
 agg _:=rfl
theorem qb:Enc.sz Item=2:=rfl
theorem Wm:Enc.sz ay=17:=rfl
theorem BV:Enc.sz aQ=9:=rfl
theorem Wk:Enc.fQ Item=true:=rfl
theorem Wj:Enc.fQ ay=true:=rfl
theorem Wi:Enc.fQ aQ=true:=rfl
theorem adN(fs:List I)(x:I):(x::fs)[0]?=some x:=rfl
theorem adX(fs:List I)(x:I)(n:Nat):(x::fs)[n+1]?=fs[n]?:=rfl
theorem adO(fs:List I)(x:I):(x::fs)[1]?=fs[0]?:=rfl
theorem adP(fs:List I)(x:I):(x::fs)[2]?=fs[1]?:=rfl
theorem adQ(fs:List I)(x:I):(x::fs)[3]?=fs[2]?:=rfl
theorem adR(fs:List I)(x:I):(x::fs)[4]?=fs[3]?:=rfl
theorem adS(fs:List I)(x:I):(x::fs)[5]?=fs[4]?:=rfl
theorem adT(fs:List I)(x:I):(x::fs)[6]?=fs[5]?:=rfl
theorem adU(fs:List I)(x:I):(x::fs)[7]?=fs[6]?:=rfl
theorem adV(fs:List I)(x:I):(x::fs)[8]?=fs[7]?:=rfl
theorem adW(fs:List I)(x:I):(x::fs)[9]?=fs[8]?:=rfl
theorem afB(x:I)(fs:List I)(v:I):dQ (x::fs) 0 0 v=some v:=lA (by simp) (by simp[I.sizes])
theorem Jp(a b:Item)(n1 n2 n3 n4 n5 n6 n7:Int)(s:aM 6 Int)(v:I) :
  (dQ [enc a,.int .i64 n1,.int .i64 n2,.int .i64 n3,.int .i64 n4,.int .i64 n5,.int .i64 n6,.int .i64 n7,enc s,enc b] 1 2 v=some v) ∧
  (dQ [enc a,.int .i64 n1,.int .i64 n2,.int .i64 n3,.int .i64 n4,.int .i64 n5,.int .i64 n6,.int .i64 n7,enc s,enc b] 2 3 v=some v) ∧
  (dQ [enc a,.int .i64 n1,.int .i64 n2,.int .i64 n3,.int .i64 n4,.int .i64 n5,.int .i64 n6,.int .i64 n7,enc s,enc b] 3 4 v=some v) ∧
  (dQ [enc a,.int .i64 n1,.int .i64 n2,.int .i64 n3,.int .i64 n4,.int .i64 n5,.int .i64 n6,.int .i64 n7,enc s,enc b] 4 5 v=some v) ∧
  (dQ [enc a,.int .i64 n1,.int .i64 n2,.int .i64 n3,.int .i64 n4,.int .i64 n5,.int .i64 n6,.int .i64 n7,enc s,enc b] 5 6 v=some v) ∧
  (dQ [enc a,.int .i64 n1,.int .i64 n2,.int .i64 n3,.int .i64 n4,.int .i64 n5,.int .i64 n6,.int .i64 n7,enc s,enc b] 6 7 v=some v) ∧
  (dQ [enc a,.int .i64 n1,.int .i64 n2,.int .i64 n3,.int .i64 n4,.int .i64 n5,.int .i64 n6,.int .i64 n7,enc s,enc b] 7 8 v=some v) ∧
  (dQ [enc a,.int .i64 n1,.int .i64 n2,.int .i64 n3,.int .i64 n4,.int .i64 n5,.int .i64 n6,.int .i64 n7,enc s,enc b] 8 9 v=some v) ∧
  (dQ [enc a,.int .i64 n1,.int .i64 n2,.int .i64 n3,.int .i64 n4,.int .i64 n5,.int .i64 n6,.int .i64 n7,enc s,enc b] 9 15 v=some v):=by
 refine ⟨?_,?_,?_,?_,?_,?_,?_,?_,?_⟩ <;>refine lA (Nat.le_of_ble_eq_true rfl) ?_ <;>simp[I.sizes,I.size,fX,qb,kq,kr]
theorem afA(n1 n2:Int)(v:I):dQ [.int .i64 n1,.int .i64 n2] 1 1 v=some v:=lA (Nat.le_of_ble_eq_true rfl) (by simp[I.sizes,I.size])
theorem Jo(n0 n1 n2 n3 n4 n5 n6:Int)(f:Bool)(x:I)(v:I) :
  (dQ [.int .i64 n0,.int .i64 n1,.int .i64 n2,.int .i64 n3,.int .i64 n4,.int .i64 n5,.int .i64 n6,.bool f,x] 1 1 v=some v) ∧
  (dQ [.int .i64 n0,.int .i64 n1,.int .i64 n2,.int .i64 n3,.int .i64 n4,.int .i64 n5,.int .i64 n6,.bool f,x] 2 2 v=some v) ∧
  (dQ [.int .i64 n0,.int .i64 n1,.int .i64 n2,.int .i64 n3,.int .i64 n4,.int .i64 n5,.int .i64 n6,.bool f,x] 3 3 v=some v) ∧
  (dQ [.int .i64 n0,.int .i64 n1,.int .i64 n2,.int .i64 n3,.int .i64 n4,.int .i64 n5,.int .i64 n6,.bool f,x] 4 4 v=some v) ∧
  (dQ [.int .i64 n0,.int .i64 n1,.int .i64 n2,.int .i64 n3,.int .i64 n4,.int .i64 n5,.int .i64 n6,.bool f,x] 5 5 v=some v) ∧
  (dQ [.int .i64 n0,.int .i64 n1,.int .i64 n2,.int .i64 n3,.int .i64 n4,.int .i64 n5,.int .i64 n6,.bool f,x] 6 6 v=some v) ∧
  (dQ [.int .i64 n0,.int .i64 n1,.int .i64 n2,.int .i64 n3,.int .i64 n4,.int .i64 n5,.int .i64 n6,.bool f,x] 7 7 v=some v) ∧
  (dQ [.int .i64 n0,.int .i64 n1,.int .i64 n2,.int .i64 n3,.int .i64 n4,.int .i64 n5,.int .i64 n6,.bool f,x] 8 8 v=some v):=by
 refine ⟨?_,?_,?_,?_,?_,?_,?_,?_⟩ <;>refine lA (Nat.le_of_ble_eq_true rfl) ?_ <;>simp[I.sizes,I.size]
theorem WD(x:Item):(enc x).dj=some [.int .i64 x.eT,.int .i64 x.no]:=rfl
theorem WC(e:ay):(enc e).dj=some [enc e.bL,.int .i64 e.kind,.int .i64 e.day,.int .i64 e.known,.int .i64 e.dY,.int .i64 e.eP,.int .i64 e.dp,.int .i64 e.bN,enc e.cg,enc e.jE]:=rfl
theorem WB(b:aQ):(enc b).dj=some [.int .i64 b.no,.int .i64 b.dp,.int .i64 b.eP,.int .i64 b.bN,.int .i64 b.ju,.int .i64 b.born,.int .i64 b.dJ,.bool b.found,enc b.cg]:=rfl
theorem JF(x:Item):bU (some 2) (enc x)=true:=by simp[fJ,Wk,qb]
theorem JE(x:ay):bU (some 17) (enc x)=true:=by simp[fJ,Wj,Wm]
theorem afS(x:aQ):bU (some 9) (enc x)=true:=by simp[fJ,Wi,BV]
theorem JD(x:aM 6 Int):bU (some 6) (enc x)=true:=by simp[fJ,uN,kq,kr]
theorem afT(x:List ay):bU none (enc x)=true:=by simp[lW,mP]
theorem afU(x:List Int):bU none (enc x)=true:=by simp[lW,mP]
theorem afW(x:List (aM 6 Int)):bU none (enc x)=true:=by simp[lW,mP]
theorem afV(x:List Item):bU none (enc x)=true:=by simp[lW,mP]
theorem pO :
  (∀ x:Item,(enc x).dj=some [.int .i64 x.eT,.int .i64 x.no])∧(∀ e:ay,(enc e).dj=some [enc e.bL,.int .i64 e.kind,.int .i64 e.day,.int .i64 e.known,.int .i64 e.dY,.int .i64 e.eP,.int .i64 e.dp,.int .i64 e.bN,enc e.cg,enc e.jE]) ∧
  (∀ b:aQ,(enc b).dj=some [.int .i64 b.no,.int .i64 b.dp,.int .i64 b.eP,.int .i64 b.bN,.int .i64 b.ju,.int .i64 b.born,.int .i64 b.dJ,.bool b.found,enc b.cg]) ∧
  (∀ (x:I) fs v,dQ (x::fs) 0 0 v=some v)∧(∀ n1 n2 v,dQ [.int .i64 n1,.int .i64 n2] 1 1 v=some v) ∧
  (∀ x:Item,bU (some 2) (enc x)=true)∧(∀ x:ay,bU (some 17) (enc x)=true)∧(∀ x:aQ,bU (some 9) (enc x)=true)∧(∀ x:aM 6 Int,bU (some 6) (enc x)=true)∧(∀ x:List ay,bU none (enc x)=true)∧(∀ x:List Int,bU none (enc x)=true) ∧
  (∀ x:List (aM 6 Int),bU none (enc x)=true)∧(∀ x:List Item,bU none (enc x)=true) ∧
  (∀ (fs:List I) x,(x::fs)[0]?=some x)∧(∀ (fs:List I) x n,(x::fs)[n+1]?=fs[n]?)∧(∀ (fs:List I) x,(x::fs)[1]?=fs[0]?)∧(∀ (fs:List I) x,(x::fs)[2]?=fs[1]?)∧(∀ (fs:List I) x,(x::fs)[3]?=fs[2]?)∧(∀ (fs:List I) x,(x::fs)[4]?=fs[3]?) ∧
  (∀ (fs:List I) x,(x::fs)[5]?=fs[4]?)∧(∀ (fs:List I) x,(x::fs)[6]?=fs[5]?)∧(∀ (fs:List I) x,(x::fs)[7]?=fs[6]?)∧(∀ (fs:List I) x,(x::fs)[8]?=fs[7]?)∧(∀ (fs:List I) x,(x::fs)[9]?=fs[8]?) :=
 ⟨WD,WC,WB,fun x fs v=>afB x fs v,afA,JF,JE,afS,JD,afT,afU,afW,afV,adN,adX,adO,adP,adQ,adR,adS,adT,adU,adV,adW⟩
theorem Item.WA(a b:Item):a=b↔a.eT=b.eT∧a.no=b.no:=by cases a;cases b;simp
theorem qc(x y:Item):cn (.br [.i .i64,.i .i64]) (enc x) (enc y)=some (decide (x=y)):=by
 show cn (.br [.i .i64,.i .i64]) (.agg [.int .i64 x.eT,.int .i64 x.no]) (.agg [.int .i64 y.eT,.int .i64 y.no])=_
 simp[cn,iC,gZ,Item.WA];rfl
theorem yD(x:Int):aB Tryz.prog 194 [enc x] (enc false):=by
 refine aB.bu Tryz.func194 Qu Se Ue (Nat.le_of_ble_eq_true rfl) (fun hwf W0 D0 E1 =>?_)
 simp only[Am,KZ,bp]
 refine .ak (by decide +kernel) fun K hK =>?_
 simp only[E8,J,simprocAttr]
 refine .done (hK _ ?_);clear hK K
 refine .ak (by decide +kernel) fun K hK =>?_
 simp only[E9,J,simprocAttr]
 refine .done (hK _ ?_);clear hK K
 refine U.ret ?_
 simp only[J,simprocAttr]
 simp
def jv(x y:Int):Int:=if x<y then -1 else if y<x then 1 else 0
theorem yA(x y:Int):aB Tryz.prog 159 [enc x,enc y] (enc (jv x y)):=by
 refine aB.bu Tryz.func159 Qa RT TR (Nat.le_of_ble_eq_true rfl) (fun hwf W0 D0 E1 =>?_)
 simp only[zV,KE,bp,Nat.zero_add]
 refine .ak (by decide +kernel) fun K hK =>?_
 simp only[Ea,J,simprocAttr]
 refine .done (hK _ ?_);clear hK K
 refine .ak (by decide +kernel) fun K hK =>?_
 simp only[Eb,J,simprocAttr]
 refine .flat _ (yD x) rfl ?_
 try simp only[J,simprocAttr]
 refine .done (hK _ ?_);clear hK K
 refine .ak (by decide +kernel) fun K hK =>?_
 simp only[Eg,J,simprocAttr]
 refine .flat _ (yD y) rfl ?_
 try simp only[J,simprocAttr]
 refine .done (hK _ ?_);clear hK K
 refine U.seq ?_
 refine .ak (by decide +kernel) fun K hK =>?_
 simp only[Ei,J,simprocAttr]
 refine .done (hK _ ?_);clear hK K
 refine U.bD ?_
 simp only[ar,J,simprocAttr]
 refine ⟨fun h =>?_,fun h =>?_⟩
 ·cases h
 refine U.skip ?_;try simp only[ao,simprocAttr]
 refine U.seq ?_
 refine .ak (by decide +kernel) fun K hK =>?_
 simp only[Ej,J,simprocAttr]
 refine .done (hK _ ?_);clear hK K
 refine U.bD ?_
 simp only[ar,J,simprocAttr]
 refine ⟨fun h =>?_,fun h =>?_⟩
 ·cases h
 refine U.skip ?_;try simp only[ao,simprocAttr]
 refine U.seq ?_
 refine .ak (by decide +kernel) fun K hK =>?_
 simp only[Ek,J,simprocAttr]
 refine .done (hK _ ?_);clear hK K
 refine U.bD ?_
 simp only[ar,J,simprocAttr]
 refine ⟨fun h =>?_,fun h =>?_⟩
 ·refine .ak (by decide +kernel) fun K hK =>?_
  simp only[Ec,J,simprocAttr]
  refine .done (hK _ ?_);clear hK K
  refine U.ret ?_
  simp only[ao,J,simprocAttr]
  have:x<y:=by simpa using h
  simp[jv,this]
 have h1:¬ x<y:=by simpa using h
 refine U.skip ?_;try simp only[ao,simprocAttr]
 refine U.seq ?_
 refine .ak (by decide +kernel) fun K hK =>?_
 simp only[Ed,J,simprocAttr]
 refine .done (hK _ ?_);clear hK K
 refine U.bD ?_
 simp only[ar,J,simprocAttr]
 refine ⟨fun h =>?_,fun h =>?_⟩
 ·refine .ak (by decide +kernel) fun K hK =>?_
  simp only[Ee,J,simprocAttr]
  refine .done (hK _ ?_);clear hK K
  refine U.ret ?_
  simp only[ao,J,simprocAttr]
  have:y<x:=by simpa using h
  simp[jv,this,h1]
 have h2:¬ y<x:=by simpa using h
 refine U.skip ?_;try simp only[ao,simprocAttr]
 refine .ak (by decide +kernel) fun K hK =>?_
 simp only[Ef,J,simprocAttr]
 refine .done (hK _ ?_);clear hK K
 refine U.ret ?_
 simp only[J,simprocAttr]
 simp[jv,h1,h2]
theorem zg(a b:Int):dM [.int .i64 0,.int .i64 0] [(0,.int .i64 a),(1,.int .i64 b)]=some [.int .i64 a,.int .i64 b]:=by simp[dM,I.b9,I.size]
theorem lM(n lo hi:Int):aB Tryz.prog 114 [enc n,enc lo,enc hi] (enc (cm lo hi n)):=by
 refine aB.bu Tryz.func114 PG Rp Tm (Nat.le_of_ble_eq_true rfl) (fun hwf W0 D0 E1 =>?_)
 simp only[zo,J9,bp,Nat.zero_add,Nat.reduceAdd]
 refine .ak (by decide +kernel) fun K hK =>?_
 simp only[CK,J,simprocAttr]
 refine .done (hK _ ?_);clear hK K
 refine .ak (by decide +kernel) fun K hK =>?_
 simp only[CL,J,simprocAttr]
 refine .guard (fun h =>?_) (fun h =>?_)
 ·simp only[J,simprocAttr,h]
  refine .done (hK _ ?_);clear hK K
  refine U.ret ?_
  simp only[J,simprocAttr]
  simp_all[cm]
 ·simp only[J,simprocAttr,h]
  refine .done (hK _ ?_);clear hK K
  refine U.ret ?_
  simp only[J,simprocAttr]
  simp at h
  simp[cm];omega
def o7(x:Item):Bool:=cm 0 5 x.eT&&cm 0 9999 x.no
theorem tP(n:Int):aB Tryz.prog 127 [enc n] (enc (cm 0 100000 n)):=by
 refine aB.bu Tryz.func127 PS RA Ty (Nat.le_of_ble_eq_true rfl) (fun hwf W0 D0 E1 =>?_)
 simp only[zC,Kk,bp]
 refine .ak (by decide +kernel) fun K hK =>?_
 simp only[Db,J,simprocAttr]
 refine .done (hK _ ?_);clear hK K
 refine .ak (by decide +kernel) fun K hK =>?_
 simp only[Dc,J,simprocAttr]
 refine .flat _ (lM n 0 100000) rfl ?_
 try simp only[J,simprocAttr]
 refine .done (hK _ ?_);clear hK K
 refine U.ret ?_
 simp only[J,simprocAttr]
theorem Nr(n:Int):aB Tryz.prog 154 [enc n] (enc (cm 1 9999 n)):=by
 refine aB.bu Tryz.func154 P5 RO TM (Nat.le_of_ble_eq_true rfl) (fun hwf W0 D0 E1 =>?_)
 simp only[zQ,Kz,bp]
 refine .ak (by decide +kernel) fun K hK =>?_
 simp only[DN,J,simprocAttr]
 refine .done (hK _ ?_);clear hK K
 refine .ak (by decide +kernel) fun K hK =>?_
 simp only[DO,J,simprocAttr]
 refine .flat _ (lM n 1 9999) rfl ?_
 try simp only[J,simprocAttr]
 refine .done (hK _ ?_);clear hK K
 refine U.ret ?_
 simp only[J,simprocAttr]
theorem Ns(n:Int):aB Tryz.prog 155 [enc n] (enc (cm 1 9 n)):=by
 refine aB.bu Tryz.func155 P6 RP TN (Nat.le_of_ble_eq_true rfl) (fun hwf W0 D0 E1 =>?_)
 simp only[zR,KA,bp]
 refine .ak (by decide +kernel) fun K hK =>?_
 simp only[DP,J,simprocAttr]
 refine .done (hK _ ?_);clear hK K
 refine .ak (by decide +kernel) fun K hK =>?_
 simp only[DQ,J,simprocAttr]
 refine .flat _ (lM n 1 9) rfl ?_
 try simp only[J,simprocAttr]
 refine .done (hK _ ?_);clear hK K
 refine U.ret ?_
 simp only[J,simprocAttr]
theorem Nt(n:Int):aB Tryz.prog 156 [enc n] (enc (cm 1 99 n)):=by
 refine aB.bu Tryz.func156 P7 RQ TO (Nat.le_of_ble_eq_true rfl) (fun hwf W0 D0 E1 =>?_)
 simp only[zS,KB,bp]
 refine .ak (by decide +kernel) fun K hK =>?_
 simp only[DR,J,simprocAttr]
 refine .done (hK _ ?_);clear hK K
 refine .ak (by decide +kernel) fun K hK =>?_
 simp only[DS,J,simprocAttr]
 refine .flat _ (lM n 1 99) rfl ?_
 try simp only[J,simprocAttr]
 refine .done (hK _ ?_);clear hK K
 refine U.ret ?_
 simp only[J,simprocAttr]
theorem yp(x:Item):aB Tryz.prog 115 [enc x] (enc (o7 x)):=by
 refine aB.bu Tryz.func115 PH Rq Tn (Nat.le_of_ble_eq_true rfl) (fun hwf W0 D0 E1 =>?_)
 simp only[zp,Ka,bp]
 refine .ak (by decide +kernel) fun K hK =>?_
 simp only[CM,J,simprocAttr]
 try simp only[dG,J,simprocAttr]
 refine .done (hK _ ?_);clear hK K
 refine .ak (by decide +kernel) fun K hK =>?_
 simp only[CN,J,simprocAttr]
 try simp only[pO,J,simprocAttr]
 refine .flat _ (lM x.eT 0 5) rfl ?_
 try simp only[J,simprocAttr]
 cases h1:cm 0 5 x.eT with
 |false =>
  try simp only[J,simprocAttr]
  refine .done (hK _ ?_);clear hK K
  refine U.ret ?_
  simp only[J,simprocAttr]
  simp[o7,h1]
 |true =>
  try simp only[pO,J,simprocAttr]
  refine .flat _ (lM x.no 0 9999) rfl ?_
  try simp only[J,simprocAttr]
  refine .done (hK _ ?_);clear hK K
  refine U.ret ?_
  simp only[J,simprocAttr]
  simp[o7,h1]
def before(a b:Item):Bool:=decide (a.eT<b.eT)||(decide (a.eT=b.eT)&&decide (a.no<b.no))
def mg:List Int→Int
 | []=>0
 |x::l=>if x≠0 then x else mg l
theorem JS{l:List Int}{i:Nat}(hi:i≤l.length)(h:∀ k,k<i→l.getD k 0=0):mg (l.drop i)=mg l:=by
 induction i with
 |zero=>simp
 |succ i ih =>
  have hlt:i<l.length:=by omega
  rw[←ih (by omega) (fun k hk=>h k (by omega)),List.drop_eq_getElem_cons hlt]
  have:=h i (by omega)
  rw[List.getD_eq_getElem?_getD,List.getElem?_eq_getElem hlt] at this
  simp at this
  simp[mg,this]
theorem Nu(l:List Int):aB Tryz.prog 158 [enc l] (enc (mg l)):=by
 refine aB.bu Tryz.func158 P9 RS TQ (Nat.le_of_ble_eq_true rfl) (fun hwf W0 D0 E1 =>?_)
 simp only[zU,KD,bp]
 have hlen:l.length≤maxLen:=((kM l).1 hwf.1).1
 simp only[maxLen] at hlen
 refine .ak (by decide +kernel) fun K hK =>?_
 simp only[DX,J,simprocAttr]
 refine .done (hK _ ?_);clear hK K
 refine .ak (by decide +kernel) fun K hK =>?_
 simp only[DY,J,simprocAttr]
 refine .done (hK _ ?_);clear hK K
 refine U.seq (U.seq ?_)
 refine .bj (by decide +kernel) fun K hK =>?_
 simp only[DZ,J,simprocAttr]
 try simp only[bK,J,simprocAttr]
 refine .done (hK _ ?_);clear hK K;try simp only[ao]
 refine U.block (U.loop (fun i:Nat=>au [(3,.int .i64 0),(6,enc l),(7,.int .i64 l.length),(8,.int .i64 i)] []) (fun i=>i≤l.length∧∀ k,k<i→l.getD k 0=0) (fun i=>l.length-i) 0 ⟨Nat.zero_le _,by intro k hk;omega⟩ ?_ (fun i hi =>?_))
 ·refine aE.bP ?_ ?_ ?_ ?_ <;>simp[aT,bJ,bI,bd,aV,I.only,bt]
 refine .ak (by decide +kernel) fun K hK =>?_
 simp only[D4,J,simprocAttr]
 refine .done (hK _ ?_);clear hK K
 refine U.seq ?_
 refine U.bD ?_
 simp only[ar,J,simprocAttr]
 refine ⟨fun h =>?_,fun h =>?_⟩
 ·have hlt:i<l.length:=by simpa using h
  refine U.skip ?_;try simp only[ao,simprocAttr]
  refine U.seq (U.block ?_)
  refine .ak (by decide +kernel) fun K hK =>?_
  simp only[D5,J,simprocAttr]
  try simp only[fL 1 hlt rfl,J,simprocAttr]
  refine .done (hK _ ?_);clear hK K
  refine U.seq ?_
  refine .bj (by decide +kernel) fun K hK =>?_
  simp only[D6,J,simprocAttr]
  refine .done (hK _ ?_);clear hK K;try simp only[ao]
  refine U.bD ?_
  simp only[ar,J,simprocAttr]
  refine ⟨fun h =>?_,fun h =>?_⟩
  ·refine .ak (by decide +kernel) fun K hK =>?_
   simp only[D7,J,simprocAttr]
   refine .done (hK _ ?_);clear hK K
   refine U.ret ?_
   simp only[bH,ao,J,simprocAttr]
   rw[←JS hi.1 hi.2,List.drop_eq_getElem_cons hlt]
   simp at h
   simp[mg,h]
  ·refine U.skip ?_;try simp only[ao,bH,simprocAttr]
   refine .bj (by decide +kernel) fun K hK =>?_
   simp only[D8,J,simprocAttr]
   refine .done (hK _ ?_);clear hK K;try simp only[ao]
   refine ⟨i+1,⟨by omega,fun k hk =>?_⟩,by omega,?_⟩
   ·by_cases e:k=i
    ·subst e
     simp at h
     simp[List.getD_eq_getElem?_getD,hlt,h]
    ·exact hi.2 k (by omega)
   ·rw[cA _ (by omega) (by omega)]
    refine aE.bP ?_ ?_ ?_ ?_ <;>simp[aT,bJ,bI,bd,aV,I.only,bt]
 have hie:i=l.length:=by simp at h;omega
 refine U.exit ?_;try simp only[ao,bH,simprocAttr]
 refine .ak (by decide +kernel) fun K hK =>?_
 simp only[D9,J,simprocAttr]
 refine .done (hK _ ?_);clear hK K
 refine U.ret ?_
 simp only[J,simprocAttr]
 rw[←JS hi.1 hi.2,hie]
 simp[mg]
def nE(a b:Item):Int:=mg [jv a.eT b.eT,jv a.no b.no]
theorem yr(a b:Item):aB Tryz.prog 118 [enc a,enc b] (enc (nE a b)):=by
 refine aB.bu Tryz.func118 PJ Rs Tq (Nat.le_of_ble_eq_true rfl) (fun hwf W0 D0 E1 =>?_)
 simp only[zr,Kc,bp,Nat.zero_add]
 refine .ak (by decide +kernel) fun K hK =>?_
 simp only[CR,J,simprocAttr]
 try simp only[dG,J,simprocAttr]
 refine .done (hK _ ?_);clear hK K
 refine .ak (by decide +kernel) fun K hK =>?_
 simp only[CS,J,simprocAttr]
 try simp only[pO,J,simprocAttr]
 refine .flat _ (yA a.eT b.eT) rfl ?_
 try simp only[pO,J,simprocAttr]
 refine .flat _ (yA a.no b.no) rfl ?_
 try simp only[J,simprocAttr]
 have hb:hP 1 (some [.int .i64 (jv a.eT b.eT),.int .i64 (jv a.no b.no)])=some (enc [jv a.eT b.eT,jv a.no b.no]):=mJ (ys:=[jv a.eT b.eT,jv a.no b.no]) 1 rfl
 try simp only[hb,cT,J,simprocAttr]
 refine .flat _ (Nu _) rfl ?_
 try simp only[J,simprocAttr]
 refine .done (hK _ ?_);clear hK K
 refine U.ret ?_
 simp only[J,simprocAttr]
 rfl
deriving instance DecidableEq for aM
deriving instance DecidableEq for ay
deriving instance DecidableEq for aQ
def nu:aM 6 Int:=⟨List.replicate 6 0,rfl⟩
instance:Inhabited ay:=⟨⟨⟨0,0⟩,0,0,0,0,0,0,0,nu,⟨0,0⟩⟩⟩
instance:Inhabited aQ:=⟨⟨0,0,0,0,0,0,0,false,[]⟩⟩
def jt(x:ay):ay where
 bL:=x.bL
 kind:=x.kind
 day:=x.day
 known:=x.known
 dY:=if x.kind=0 then 0 else x.dY
 eP:=if x.kind=1 then x.eP else 0
 dp:=if x.kind=1∨x.kind=2 then x.dp else 0
 bN:=if x.kind=1∨x.kind=3∨x.kind=5 then x.bN else 0
 cg:=if x.kind=4 then x.cg else nu
 jE:=if x.kind=0 then x.jE else ⟨0,0⟩
def oW(x:ay):Bool :=
 if x.kind=0 then (x.day==0)&&(o7 x.jE&&((x.jE.eT==x.bL.eT)&&decide (x.jE.no<x.bL.no)))
 else cm 1 9999 x.dY&&(
  if x.kind=1 then cm 1 9 x.dp&&(cm 1 99 x.bN&&(cm 0 9999 x.eP&&(x.eP != x.dY)))
  else if x.kind=2 then cm 1 9 x.dp
  else if x.kind=3∨x.kind=5 then cm 1 99 x.bN
  else if x.kind=4 then gQ x.cg
  else decide (x.kind=6))
def ij(x:ay):Bool:=oW x&&(decide (x=jt x)&&(o7 x.bL&&(cm 0 100000 x.day&&cm 0 100000 x.known)))
def ae(l:List ay)(i:Nat):ay:=l.getD i default
def jZ(l:List ay)(i:Nat):Bool:=ij (ae l i)&&(decide (i=0)||before (ae l (i-1)).bL (ae l i).bL)
def dW(l:List ay):Bool:=decide (l.length≤60)&&(List.range l.length).all (jZ l)
def jn(known:Int):List ay→List Bool×List Item
 | []=>([],[])
 |x::l =>
  let b:=decide (x.known≤known) && !(jn known l).2.contains x.bL
  (b::(jn known l).1,if b&&decide (x.kind=0) then x.jE::(jn known l).2 else (jn known l).2)
def kK(l:List ay)(known:Int):List Bool:=(jn known l).1
def gT(l:List ay)(known:Int):List Nat:=(List.range l.length).filter fun i=>(kK l known).getD i false
def jW(key:Nat→Int)(i:Nat)(l:List Nat):List Nat:=(l.takeWhile fun k=>decide (key k≤key i))++i::l.dropWhile fun k=>decide (key k≤key i)
def af7(key:Nat→Int)(l:List Nat):List Nat:=l.foldl (fun o i=>jW key i o) []
def jQ(l:List ay)(day known:Int):List Nat:=(gT l known).filter fun i=>decide ((ae l i).kind≠0)&&decide ((ae l i).day≤day)
def jG(l:List ay)(day known:Int):List Nat:=af7 (fun i=>(ae l i).day) (jQ l day known)
def dw(bs:List aQ)(no:Int):Option aQ:=bs.find? fun b=>decide (b.no=no)
def lI(bs:List aQ)(x:aQ):List aQ:=bs.map fun b=>if b.no=x.no then x else b
def fE(x:ay):aQ:=⟨x.dY,x.dp,x.eP,x.bN,x.bN,x.day,-1,false,[]⟩
def hT(bs:List aQ)(x:ay):Bool:=decide (x.eP≤0)||match dw bs x.eP with
 |some d=>decide (d.dp=x.dp) && !(decide (0≤d.dJ)&&decide (d.dJ<x.day))
 |none=>false
def ka(b:aQ)(x:ay):Option aQ :=
 if x.kind=3 then (if b.dJ≥0∨b.bN=0∨b.bN=x.bN then none else some { b with bN:=x.bN })
 else if x.kind=4 then some { b with cg:=b.cg++[x.cg] }
 else if x.kind=5 then some { b with bN:=x.bN,found:=true }
 else (if b.dJ≥0 then none else some { b with dJ:=x.day })
def eE(add:List aQ→aQ→List aQ)(bs:List aQ)(x:ay):Option (List aQ) :=
 if x.kind=1∨x.kind=2 then (if dw bs x.dY=none∧hT bs x=true then some (add bs (fE x)) else none)
 else match dw bs x.dY with
  |none=>none
  |some b=>(ka b x).map (lI bs)
def e8(bs:List aQ)(b:aQ):List aQ:=bs++[b]
def mF(add:List aQ→aQ→List aQ)(l:List ay)(s:List aQ×List Nat)(i:Nat):List aQ×List Nat:=match eE add s.1 (ae l i) with
 |some bs=>(bs,s.2)
 |none=>(s.1,s.2++[i])
def qJ(add:List aQ→aQ→List aQ)(l:List ay)(order:List Nat):List aQ×List Nat:=order.foldl (mF add l) ([],[])
theorem ag6(bs:List aQ)(x:aQ):(lI bs x).map (·.no)=bs.map (·.no):=by
 simp only[lI,List.map_map]
 refine List.map_congr_left fun b _ =>?_
 simp only[Function.comp]
 split
 ·rename_i h;exact h.symm
 ·rfl
theorem Ig{bs:List aQ}{no:Int}{b:aQ}(h:dw bs no=some b):b∈bs∧b.no=no:=⟨List.mem_of_find?_eq_some h,by simpa using List.find?_some h⟩
theorem If{bs:List aQ}{no:Int} : dw bs no=none↔no∉bs.map (·.no):=by
 simp[dw]
theorem acX{bs:List aQ}(hd:(bs.map (·.no)).Nodup){b:aQ}(h:b∈bs):dw bs b.no=some b:=by
 induction bs with
 |nil=>cases h
 |cons a bs ih =>
  simp only[dw,List.find?_cons]
  simp only[List.map_cons,List.nodup_cons] at hd
  by_cases e:a.no=b.no
  ·rcases List.mem_cons.1 h with rfl | h
   ·simp
   ·exact absurd (List.mem_map.2 ⟨b,h,e.symm⟩) hd.1
  ·rcases List.mem_cons.1 h with rfl | h
   ·exact absurd rfl e
   ·simp only[decide_eq_false e];exact ih hd.2 h
def ym(add:List aQ→aQ→List aQ):Prop:=∀ bs b,(add bs b).Perm (b::bs)
theorem OD:ym e8:=fun bs b=>List.perm_append_comm
theorem OV{add:List aQ→aQ→List aQ}(ha:ym add){bs bs':List aQ}{x:ay}(hd:(bs.map (·.no)).Nodup)(h:eE add bs x=some bs'):(bs'.map (·.no)).Nodup:=by
 simp only[eE] at h
 split at h
 ·split at h
  ·rename_i h2
   simp only[Option.some.injEq] at h
   subst h
   rw[((ha bs (fE x)).map _).nodup_iff]
   simp only[List.map_cons,List.nodup_cons]
   exact ⟨If.1 h2.1,hd⟩
  ·cases h
 ·split at h
  ·cases h
  ·simp only[Option.map_eq_some_iff] at h
   obtain ⟨b',_,rfl⟩:=h
   rw[ag6];exact hd
theorem ahf{n:Nat}{p:List Nat}{sz k total i j:Nat}(h:i≤j)(hj:j≤k)(hk:k≤total):gS n p sz 0 k total (some (.int .i64 i)) (some (.int .i64 j)) (some (.int .i64 k))=some .c8:=by
 simp only[gS,hJ]
 rw[if_pos ⟨by omega,by omega,by omega,by omega⟩]
theorem Mm{n:Nat}{p:List Nat}{sz k total i j:Nat}(h:i≤j)(hk:j≤total)(h0:i<total):gS n p sz 0 k total (some (.int .i64 i)) (some (.int .i64 j)) none=some (.view n p sz i (j-i)):=by
 simp only[gS,hJ]
 rw[if_pos ⟨by omega,by omega,by omega⟩,if_neg (by omega)]
 simp
theorem OS{α:Type}[Enc α]{A:ab}{rest:List av}{esz bytes:Nat}{d:Option Nat}{e:Nat}(z x:I){n l:Nat}{xs ys:List α}(hx:en A esz x=some (ys.map enc))(hy:ys≠[])(ho:A.o n=some (.box (.agg (xs.map enc))))(hr:l+ys.length≤xs.length) :
  jN A d e esz bytes z x rest (.view n [] esz 0 l)=az rest ((A.aL n (.box (.agg ((xs.take l++(ys++xs.drop (l+ys.length))).map enc)))).aI d (.view n [] esz 0 (l+ys.length))):=by
 have h1:=tz (A:=A) (esz:=esz) (lo:=0) (k:=l) ho (by omega)
 have h2:(I.agg (xs.map (enc (α:=α)))).at []=some (.agg (xs.map enc)):=rfl
 have h3:I.cQ (ys.map (enc (α:=α)))=I.cQ (((xs.map (enc (α:=α))).drop l).take ys.length):=by
  rw[←List.map_drop,←List.map_take]
  exact ag8 (by rw[List.length_take,List.length_drop];omega)
 simp only[jN,h1,hx,fm]
 rw[if_neg (by simpa using hy)]
 simp only[ho,h2,List.length_map,Nat.zero_add]
 rw[if_pos hr,if_pos ⟨rfl,by rw[List.length_map,Nat.zero_add];exact h3⟩]
 simp only[iQ,gf,List.length_map,List.map_append,List.map_take,List.map_drop]
theorem OR{α:Type}[Enc α]{A:ab}{rest:List av}{esz bytes:Nat}{d:Option Nat}{e:Nat}(z x:I){n l:Nat}{xs:List α}(hx:en A esz x=some [])(ho:A.o n=some (.box (.agg (xs.map enc))))(hr:l≤xs.length) :
  jN A d e esz bytes z x rest (.view n [] esz 0 l)=az rest (A.aI d (.view n [] esz 0 l)):=by
 have h1:=tz (A:=A) (esz:=esz) (lo:=0) (k:=l) ho (by omega)
 simp only[jN,h1,hx,fm,if_true]
theorem Wo(a b:Int):cn (.i .i64) (enc a) (enc b)=some (a==b):=by simp[iZ,cn]
theorem Co:∀ (x y:List Int),x.length=y.length→((x.map (enc (α:=Int))).zip (y.map (enc (α:=Int)))).foldr (fun p acc=>gZ (cn (.i .i64) p.1 p.2) acc) (some true)=some (decide (x=y))
 | [],[],_=>by simp
 |a::x,b::y,h=>by
  have ih:=Co x y (by simpa using h)
  rw[List.map_cons,List.map_cons,List.zip_cons_cons,List.foldr_cons,ih,Wo]
  by_cases hab:a=b <;>by_cases hxy:x=y <;>simp[gZ,hab,hxy]
theorem rW{n:Nat}(x y:aM n Int):cn (.ke n (.i .i64)) (enc x) (enc y)=some (decide (x.l=y.l)):=by
 change cn (.ke n (.i .i64)) (.agg (x.l.map enc)) (.agg (y.l.map enc))=_
 rw[cn,if_pos ⟨by simp[x.h],by simp[y.h]⟩]
 exact Co x.l y.l (by rw[x.h,y.h])
theorem Nx(n:Int):aB Tryz.prog 162 [enc n] (enc (!cm 0 4 n)):=by
 refine aB.bu Tryz.func162 Qe RX TV (Nat.le_of_ble_eq_true rfl) (fun hwf W0 D0 E1 =>?_)
 simp only[zZ,KI,bp]
 refine .ak (by decide +kernel) fun K hK =>?_
 simp only[Ep,J,simprocAttr]
 refine .done (hK _ ?_);clear hK K
 refine .ak (by decide +kernel) fun K hK =>?_
 simp only[Er,J,simprocAttr]
 refine .flat _ (rm n 0 4) rfl ?_
 try simp only[J,simprocAttr]
 refine .done (hK _ ?_);clear hK K
 refine U.ret ?_
 simp only[J,simprocAttr]
theorem NZ(n:Int):aB Tryz.prog 211 [enc n] (enc (!cm 1 31 n)):=by
 refine aB.bu Tryz.func211 QE Sp Uo (Nat.le_of_ble_eq_true rfl) (fun hwf W0 D0 E1 =>?_)
 simp only[Ax,K9,bp]
 refine .ak (by decide +kernel) fun K hK =>?_
 simp only[Gc,J,simprocAttr]
 refine .done (hK _ ?_);clear hK K
 refine .ak (by decide +kernel) fun K hK =>?_
 simp only[Gd,J,simprocAttr]
 generalize hz:(n==0)=z
 cases z
 ·try simp only[J,simprocAttr]
  refine .flat _ (yB n) rfl ?_
  try simp only[J,simprocAttr]
  refine .done (hK _ ?_);clear hK K
  refine U.ret ?_
  simp only[J,simprocAttr]
  simp at hz
  have e:(0≤n)↔(1≤n):=by omega
  simp[cm,e]
 ·try simp only[J,simprocAttr]
  refine .done (hK _ ?_);clear hK K
  refine U.ret ?_
  simp only[J,simprocAttr]
  simp at hz
  simp[cm,hz]
def mY(p:Int→Bool)(l:List Int):Int:=match l.findIdx? p with
 |some i=>i
 |none=>-1
theorem uZ{α:Type}{p:α→Bool}{l:List α}(h:∀ x∈l,p x=false):l.findIdx? p=none:=by
 rw[List.findIdx?_eq_none_iff];exact h
theorem u0{α:Type}{p:α→Bool}{l:List α}{i:Nat}(hi:i<l.length)(h:∀ x∈l.take i,p x=false)(hp:p l[i]=true):l.findIdx? p=some i:=by
 rw[List.findIdx?_eq_some_iff_getElem]
 refine ⟨hi,hp,fun j hj =>?_⟩
 have:l[j]∈l.take i:=by
  rw[List.mem_take_iff_getElem]
  exact ⟨j,by omega,rfl⟩
 simp[h _ this]
theorem NB(l:List Int)(f:FuncId)(caps:List I)(hcaps:I.eR caps=true)(p:Int→Bool)(hf:∀ x∈l,aB Tryz.prog f (enc x::caps) (enc (p x))):aB Tryz.prog 166 [enc l,.func f caps] (enc (mY p l)):=by
 refine aB.bu Tryz.func166 Qi R1 TZ (Nat.le_of_ble_eq_true rfl) (fun hwf W0 D0 E1 =>?_)
 simp only[z8,KM,bp,Nat.zero_add]
 have hlen:l.length≤maxLen:=((kM l).1 hwf.1).1
 simp only[maxLen] at hlen
 have hcl:I.bT caps=true:=kp caps hcaps
 have hfc:∀ aw A,bY aw A caps=some caps:=fun aw A=>kv aw A caps hcaps
 have hon:∀ q,I.bV q caps=true:=fun q=>j0 q caps hcl
 refine .ak (by decide +kernel) fun K hK =>?_
 simp only[EA,J,simprocAttr]
 refine .done (hK _ ?_);clear hK K
 refine U.seq ?_
 refine U.seq (U.bj (by decide +kernel) fun K hK =>?_)
 try simp only[EB,bK,J,simprocAttr]
 refine .done (hK _ ?_);clear hK K
 refine U.block (U.loop (fun i:Nat=>au [(0,enc l),(1,.func f caps),(7,.int .i64 l.length),(8,.int .i64 i)] []) (fun i=>i≤l.length∧∀ x∈l.take i,p x=false) (fun i=>l.length-i) 0 ⟨Nat.zero_le _,by simp⟩ ?_ (fun i hi =>?_))
 ·refine aE.bP ?_ ?_ ?_ ?_ <;>simp[aT,bJ,bI,bd,aV,I.only,bt,hon]
 ·refine .ak (by decide +kernel) fun K hK =>?_
  simp only[EC,J,simprocAttr]
  refine .done (hK _ ?_);clear hK K
  refine U.seq ?_
  refine U.bD ?_
  simp only[ar,J,simprocAttr]
  refine ⟨fun h =>?_,fun h =>?_⟩
  ·have hlt:i<l.length:=by simpa using h
   refine U.skip ?_;try simp only[ao,simprocAttr]
   refine U.seq (U.block ?_)
   refine .ak (by decide +kernel) fun K hK =>?_
   simp only[ED,J,simprocAttr]
   refine .done (hK _ ?_);clear hK K
   refine .ak (by decide +kernel) fun K hK =>?_
   simp only[EE,J,simprocAttr]
   try simp only[fL 1 hlt rfl,List.cons_append,hfc,J,simprocAttr]
   refine .flat _ (hf _ (List.getElem_mem hlt)) rfl ?_
   try simp only[J,simprocAttr]
   refine .done (hK _ ?_);clear hK K
   refine U.bD ?_
   simp only[ar,J,simprocAttr]
   refine ⟨fun h =>?_,fun h =>?_⟩
   ·refine .ak (by decide +kernel) fun K hK =>?_
    simp only[EF,J,simprocAttr]
    refine .done (hK _ ?_);clear hK K
    refine U.ret ?_
    simp only[bH,ao,J,simprocAttr]
    simp[mY,u0 hlt hi.2 h]
   ·refine U.skip ?_;try simp only[ao,bH,simprocAttr]
    refine .bj (by decide +kernel) fun K hK =>?_
    simp only[EG,J,simprocAttr]
    refine .done (hK _ ?_);clear hK K;try simp only[ao]
    refine ⟨i+1,⟨by omega,fun x hm =>?_⟩,by omega,?_⟩
    ·rw[List.take_succ_eq_append_getElem hlt] at hm
     rcases List.mem_append.1 hm with hm | hm
     ·exact hi.2 x hm
     ·simp at hm;rw[hm];exact h
    ·rw[cA _ (by omega) (by omega)]
     refine aE.bP ?_ ?_ ?_ ?_ <;>simp[aT,bJ,bI,bd,aV,I.only,bt,hon]
  ·have hge:i=l.length:=by simp at h;omega
   refine U.exit ?_;try simp only[ao,bH,simprocAttr]
   refine .ak (by decide +kernel) fun K hK =>?_
   simp only[EH,J,simprocAttr]
   refine .done (hK _ ?_);clear hK K
   refine U.ret ?_
   simp only[J,simprocAttr]
   simp[hge] at hi
   simp[mY,uZ hi]
theorem It(p:Int→Bool)(l:List Int):decide (0≤mY p l)=l.any p:=by
 unfold mY
 cases h:l.findIdx? p with
 |none =>
  rw[List.findIdx?_eq_none_iff] at h
  have:l.any p=false:=by rw[List.any_eq_false];intro x hx;simp[h x hx]
  simp[this]
 |some i =>
  rw[List.findIdx?_eq_some_iff_getElem] at h
  obtain ⟨h1,h2,_⟩:=h
  have:l.any p=true:=by rw[List.any_eq_true];exact ⟨_,List.getElem_mem h1,h2⟩
  rw[this]
  exact decide_eq_true (Int.natCast_nonneg i)
theorem tO(l:List Int)(f:FuncId)(caps:List I)(hcaps:I.eR caps=true)(p:Int→Bool)(hf:∀ x∈l,aB Tryz.prog f (enc x::caps) (enc (p x))):aB Tryz.prog 125 [enc l,.func f caps] (enc (l.any p)):=by
 refine aB.bu Tryz.func125 PQ Ry Tw (Nat.le_of_ble_eq_true rfl) (fun hwf W0 D0 E1 =>?_)
 simp only[zA,Ki,bp,Nat.zero_add]
 have hcl:I.bT caps=true:=kp caps hcaps
 have hfc:∀ aw A,bY aw A caps=some caps:=fun aw A=>kv aw A caps hcaps
 refine .ak (by decide +kernel) fun K hK =>?_
 simp only[C9,J,simprocAttr]
 refine .done (hK _ ?_);clear hK K
 refine .ak (by decide +kernel) fun K hK =>?_
 simp only[Da,J,simprocAttr]
 try simp only[cT,hfc,J,simprocAttr]
 refine .flat _ (NB l f caps hcaps p hf) rfl ?_
 try simp only[J,simprocAttr]
 refine .done (hK _ ?_);clear hK K
 refine U.ret ?_
 simp only[J,simprocAttr]
 rw[It]
theorem Cd{α:Type}[Enc α]{n sz:Nat}(x:aM n α)(hs:Enc.sz α=sz):l4 sz 0 n (some (x.l.map enc))=some (enc x.l):=by
 have h:((x.l.map (enc (α:=α))).drop 0).take n=x.l.map enc:=by
  rw[List.drop_zero,List.take_of_length_le];simp[x.h]
 simp only[l4,h]
 rw[if_pos (kj x.l),fW,hs]
theorem MQ{α:Type}[Enc α]{n sz:Nat}(x:aM n α)(hs:Enc.sz α=sz)(h1:n≤maxLen)(h0:n≠0)(y:I):oB n sz (x.l.map enc) y=some y:=by
 simp only[oB];rw[if_pos ⟨uS n sz x.l x.h hs,h1,h0⟩]
theorem yW(p:Int→Bool)(x:aM 6 Int):x.l.any (fun v => !p v) = !(List.range 6).all (fun i=>p (x.g i)):=by
 have h:(List.range 6).all (fun i=>p (x.g i))=x.l.all p:=by
  rw[Bool.eq_iff_iff]
  simp only[List.all_eq_true,List.mem_range]
  constructor
  ·intro h v hv
   obtain ⟨i,hi,rfl⟩:=List.getElem_of_mem hv
   have:=h i (by rw[x.h] at hi;exact hi)
   rwa [←x.sf (by rw[x.h] at hi;exact hi)] at this
  ·intro h i hi
   rw[←x.sf hi]
   exact h _ (List.getElem_mem _)
 rw[h,List.not_all_eq_any_not]
theorem Nb(m:aM 6 Int):aB Tryz.prog 123 [enc m] (enc (dH m)):=by
 refine aB.bu Tryz.func123 PN Rw Tu (Nat.le_of_ble_eq_true rfl) (fun hwf W0 D0 E1 =>?_)
 simp only[zx,Kg,bp]
 refine .ak (by decide +kernel) fun K hK =>?_
 simp only[C5,J,simprocAttr]
 refine .done (hK _ ?_);clear hK K
 refine .ak (by decide +kernel) fun K hK =>?_
 simp only[C6,J,simprocAttr]
 try simp only[bK,MQ (sz:=1) m rfl (Nat.le_of_ble_eq_true rfl) (Nat.succ_ne_zero 5),Cd (sz:=1) m rfl,J,simprocAttr]
 refine .flat _ (tO m.l 162 [] rfl (fun n => !cm 0 4 n) (fun x _=>Nx x)) rfl ?_
 try simp only[J,simprocAttr]
 refine .done (hK _ ?_);clear hK K
 refine U.ret ?_
 simp only[J,simprocAttr]
 rw[yW (cm 0 4)];simp[dH]
theorem NO(m:aM 6 Int):aB Tryz.prog 193 [enc m] (enc (gQ m)):=by
 refine aB.bu Tryz.func193 Qt Sd Ud (Nat.le_of_ble_eq_true rfl) (fun hwf W0 D0 E1 =>?_)
 simp only[Al,KY,bp]
 refine .ak (by decide +kernel) fun K hK =>?_
 simp only[E6,J,simprocAttr]
 refine .done (hK _ ?_);clear hK K
 refine .ak (by decide +kernel) fun K hK =>?_
 simp only[E7,J,simprocAttr]
 try simp only[bK,MQ (sz:=1) m rfl (Nat.le_of_ble_eq_true rfl) (Nat.succ_ne_zero 5),Cd (sz:=1) m rfl,J,simprocAttr]
 refine .flat _ (tO m.l 211 [] rfl (fun n => !cm 1 31 n) (fun x _=>NZ x)) rfl ?_
 try simp only[J,simprocAttr]
 refine .done (hK _ ?_);clear hK K
 refine U.ret ?_
 simp only[J,simprocAttr]
 rw[yW (cm 1 31)];simp[gQ]
theorem Na(n:Int):aB Tryz.prog 122 [enc n] (enc (cm 1 99 n)):=by
 refine aB.bu Tryz.func122 PM Rv Tt (Nat.le_of_ble_eq_true rfl) (fun hwf W0 D0 E1 =>?_)
 simp only[zw,Kf,bp]
 refine .ak (by decide +kernel) fun K hK =>?_
 simp only[C3,J,simprocAttr]
 refine .done (hK _ ?_);clear hK K
 refine .ak (by decide +kernel) fun K hK =>?_
 simp only[C4,J,simprocAttr]
 refine .flat _ (rm n 1 99) rfl ?_
 try simp only[J,simprocAttr]
 refine .done (hK _ ?_);clear hK K
 refine U.ret ?_
 simp only[J,simprocAttr]
theorem yz(m:aM 6 Int):aB Tryz.prog 157 [enc m] (enc (if gQ m then (0:Int) else 12)):=by
 refine aB.bu Tryz.func157 P8 RR TP (Nat.le_of_ble_eq_true rfl) (fun hwf W0 D0 E1 =>?_)
 simp only[zT,KC,bp]
 refine .ak (by decide +kernel) fun K hK =>?_
 simp only[DT,J,simprocAttr]
 refine .done (hK _ ?_);clear hK K
 refine U.seq (U.seq ?_)
 refine .bj (by decide +kernel) fun K hK =>?_
 simp only[DU,J,simprocAttr]
 try simp only[cC,cT,J,simprocAttr]
 refine .flat _ (NO m) rfl ?_
 generalize hm:gQ m=b
 cases b
 ·try simp only[J,simprocAttr]
  refine .done (hK _ ?_);clear hK K;try simp only[ao]
  refine U.bD ?_
  simp only[ar,J,simprocAttr]
  refine ⟨fun h =>?_,fun h =>?_⟩
  ·refine .ak (by decide +kernel) fun K hK =>?_
   simp only[DV,J,simprocAttr]
   refine .done (hK _ ?_);clear hK K
   refine U.ret ?_
   simp only[ao,J,simprocAttr]
   simp[hm]
  ·cases h
 ·try simp only[J,simprocAttr]
  refine .done (hK _ ?_);clear hK K
  refine U.bD ?_
  simp only[ar,J,simprocAttr]
  refine ⟨fun h =>?_,fun h =>?_⟩
  ·cases h
  ·refine U.skip ?_;try simp only[ao,simprocAttr]
   refine .ak (by decide +kernel) fun K hK =>?_
   simp only[DW,J,simprocAttr]
   refine .done (hK _ ?_);clear hK K
   refine U.ret ?_
   simp only[J,simprocAttr]
   simp[hm]
def v7(s:Int)(k:Nat):Bool:=nB (s.fdiv (2^min k IntKind.i64.bits)) 1==1
theorem Nw(s:Int)(k:Nat):aB Tryz.prog 161 [enc s,enc (k:Int)] (enc (v7 s k)):=by
 refine aB.bu Tryz.func161 Qd RW TU (Nat.le_of_ble_eq_true rfl) (fun hwf W0 D0 E1 =>?_)
 simp only[zY,KH,bp,Nat.zero_add]
 refine .ak (by decide +kernel) fun K hK =>?_
 simp only[En,J,simprocAttr]
 refine .done (hK _ ?_);clear hK K
 refine .ak (by decide +kernel) fun K hK =>?_
 simp only[Eo,J,simprocAttr]
 refine .done (hK _ ?_);clear hK K
 refine U.ret ?_
 simp only[J,simprocAttr]
 rfl
theorem ads(s:Int)(h0:0≤s)(h1:s≤31)(k:Nat)(hk:k<5):v7 s k=gF s k:=by
 have key:∀ s:Fin 32,∀ k:Fin 5,v7 (s.1:Int) k.1=gF (s.1:Int) k.1:=by decide +kernel
 have:=key ⟨s.toNat,by omega⟩ ⟨k,hk⟩
 simpa[Int.toNat_of_nonneg h0] using this
theorem M9(m:aM 5 Int):aB Tryz.prog 120 [enc m] (enc (gR m)):=by
 refine aB.bu Tryz.func120 PK Rt Tr (Nat.le_of_ble_eq_true rfl) (fun hwf W0 D0 E1 =>?_)
 simp only[zt,Kd,bp]
 refine .ak (by decide +kernel) fun K hK =>?_
 simp only[CT,J,simprocAttr]
 refine .done (hK _ ?_);clear hK K
 refine U.seq ?_
 refine U.seq (U.bj (by decide +kernel) fun K hK =>?_)
 try simp only[CU,cC,J,simprocAttr]
 refine .done (hK _ ?_);clear hK K
 refine U.block (U.loop (fun i:Nat=>au [(2,.bool false),(6,enc m),(7,.int .i64 i)] []) (fun j=>j≤5∧∀ i,i<j→(cm 0 31 (m.g i)&&gF (m.g i) i)=true) (fun i=>5-i) 0 ⟨by omega,fun k h=>by omega⟩ ?_ (fun i hi =>?_))
 ·refine aE.bP ?_ ?_ ?_ ?_ <;>simp[aT,bJ,bI,bd,aV,I.only,bt]
 ·refine .ak (by decide +kernel) fun K hK =>?_
  simp only[CV,J,simprocAttr]
  refine .done (hK _ ?_);clear hK K
  refine U.seq ?_
  refine U.bD ?_
  simp only[ar,J,simprocAttr]
  refine ⟨fun h =>?_,fun h =>?_⟩
  ·have hlt:i<5:=by simp at h;omega
   refine U.skip ?_;try simp only[ao,simprocAttr]
   refine U.seq (U.block ?_)
   refine .ak (by decide +kernel) fun K hK =>?_
   simp only[CW,J,simprocAttr]
   try simp only[qu,bK,jb 1 m hlt rfl,qi m hlt,J,simprocAttr]
   refine .done (hK _ ?_);clear hK K
   refine .ak (by decide +kernel) fun K hK =>?_
   simp only[CX,J,simprocAttr]
   refine .done (hK _ ?_);clear hK K
   refine .ak (by decide +kernel) fun K hK =>?_
   simp only[CY,J,simprocAttr]
   refine .flat _ (yB _) rfl ?_
   generalize hb:cm 0 31 (m.g i)=b
   cases b
   ·try simp only[J,simprocAttr]
    refine .done (hK _ ?_);clear hK K
    refine U.bD ?_
    simp only[ar,J,simprocAttr]
    refine ⟨fun h =>?_,fun h =>?_⟩
    ·refine .ak (by decide +kernel) fun K hK =>?_
     simp only[u6,J,simprocAttr]
     refine .done (hK _ ?_);clear hK K
     refine U.ret ?_
     simp only[bH,ao,J,simprocAttr]
     rw[gR,ny i hlt]
     simp[hb]
    ·cases h
   ·have hr:0≤m.g i∧m.g i≤31:=by simpa[cm] using hb
    try simp only[J,simprocAttr]
    refine .flat _ (Nw (m.g i) i) rfl ?_
    rw[ads _ hr.1 hr.2 i hlt]
    try simp only[J,simprocAttr]
    refine .done (hK _ ?_);clear hK K
    refine U.bD ?_
    simp only[ar,J,simprocAttr]
    refine ⟨fun h =>?_,fun h =>?_⟩
    ·refine .ak (by decide +kernel) fun K hK =>?_
     simp only[u6,J,simprocAttr]
     refine .done (hK _ ?_);clear hK K
     refine U.ret ?_
     simp only[bH,ao,J,simprocAttr]
     rw[gR,ny i hlt]
     simp at h
     simp[h]
    ·refine U.skip ?_;try simp only[ao,bH,simprocAttr]
     refine .bj (by decide +kernel) fun K hK =>?_
     simp only[CZ,J,simprocAttr]
     refine .done (hK _ ?_);clear hK K;try simp only[ao]
     refine ⟨i+1,⟨by omega,fun k hk =>?_⟩,by omega,?_⟩
     ·by_cases hk':k=i
      ·subst hk'
       simp at h
       simp[hb,h]
      ·exact hi.2 k (by omega)
     ·rw[cA _ (by omega) (by omega)]
      refine aE.bP ?_ ?_ ?_ ?_ <;>simp[aT,bJ,bI,bd,aV,I.only,bt]
  ·have hge:i=5:=by simp at h;omega
   subst hge
   refine U.exit ?_;try simp only[ao,bH,simprocAttr]
   refine .ak (by decide +kernel) fun K hK =>?_
   simp only[C0,J,simprocAttr]
   refine .done (hK _ ?_);clear hK K
   refine U.ret ?_
   simp only[J,simprocAttr]
   rw[gR,pU hi.2]
theorem yF(f:FuncId)(caps:List I)(hcaps:I.eR caps=true)(p:Nat→Bool)(hf:∀ i:Nat,i<6→aB Tryz.prog f (enc (i:Int)::caps) (enc (p i))):aB Tryz.prog 197 [.func f caps] (enc (ev (fun i => !p i) 6:Int)):=by
 refine aB.bu Tryz.func197 Qx Sh Uh (Nat.le_of_ble_eq_true rfl) (fun hwf W0 D0 E1 =>?_)
 simp only[Ap,K2,bp]
 have hcl:I.bT caps=true:=kp caps hcaps
 have hfc:∀ aw A,bY aw A caps=some caps:=fun aw A=>kv aw A caps hcaps
 have hon:∀ q,I.bV q caps=true:=fun q=>j0 q caps hcl
 refine .ak (by decide +kernel) fun K hK =>?_
 simp only[Fl,J,simprocAttr]
 refine .done (hK _ ?_);clear hK K
 refine .ak (by decide +kernel) fun K hK =>?_
 simp only[Fm,J,simprocAttr]
 refine .done (hK _ ?_);clear hK K
 refine U.seq ?_
 refine .ak (by decide +kernel) fun K hK =>?_
 simp only[Fo,J,simprocAttr]
 refine .done (hK _ ?_);clear hK K
 refine U.block (U.loop (fun i:Nat=>au [(0,.func f caps),(3,.int .i64 (ev (fun i => !p i) i:Int)),(5,.int .i64 i)] []) (fun i=>i≤6∧ev (fun i => !p i) i≤i) (fun i=>6-i) 0 ⟨by omega,by simp[ev]⟩ ?_ (fun i hi =>?_))
 ·refine aE.bP ?_ ?_ ?_ ?_ <;>simp[aT,bJ,bI,bd,aV,I.only,hon,ev]
 ·refine .ak (by decide +kernel) fun K hK =>?_
  simp only[Fp,J,simprocAttr]
  refine .done (hK _ ?_);clear hK K
  refine U.seq ?_
  refine U.bD ?_
  simp only[ar,J,simprocAttr]
  refine ⟨fun h =>?_,fun h =>?_⟩
  ·have hlt:i<6:=by simp at h;omega
   refine U.skip ?_;try simp only[ao,simprocAttr]
   refine U.seq (U.block ?_)
   refine .ak (by decide +kernel) fun K hK =>?_
   simp only[Fq,J,simprocAttr]
   refine .done (hK _ ?_);clear hK K
   refine .ak (by decide +kernel) fun K hK =>?_
   simp only[Fs,J,simprocAttr]
   try simp only[List.cons_append,hfc,J,simprocAttr]
   refine .flat _ (hf i hlt) rfl ?_
   try simp only[J,simprocAttr]
   refine .done (hK _ ?_);clear hK K
   refine U.bD ?_
   simp only[ar,J,simprocAttr]
   refine ⟨fun h =>?_,fun h =>?_⟩
   ·simp at h
    refine .bj (by decide +kernel) fun K hK =>?_
    simp only[Ft,J,simprocAttr]
    refine .done (hK _ ?_);clear hK K;try simp only[ao,bH]
    refine .bj (by decide +kernel) fun K hK =>?_
    simp only[vz,J,simprocAttr]
    refine .done (hK _ ?_);clear hK K;try simp only[ao]
    refine ⟨i+1,⟨by omega,?_⟩,by omega,?_⟩
    ·simp only[ev];split <;>omega
    ·rw[cA _ (by omega) (by omega),cA _ (by omega) (by omega)]
     refine aE.bP ?_ ?_ ?_ ?_ <;>simp[aT,bJ,bI,bd,aV,I.only,hon,ev,h]
   ·simp at h
    refine U.skip ?_;try simp only[ao,bH,simprocAttr]
    refine .bj (by decide +kernel) fun K hK =>?_
    simp only[vz,J,simprocAttr]
    refine .done (hK _ ?_);clear hK K;try simp only[ao]
    refine ⟨i+1,⟨by omega,?_⟩,by omega,?_⟩
    ·simp only[ev];split <;>omega
    ·rw[cA _ (by omega) (by omega)]
     refine aE.bP ?_ ?_ ?_ ?_ <;>simp[aT,bJ,bI,bd,aV,I.only,hon,ev,h]
  ·have hge:i=6:=by simp at h;omega
   subst hge
   refine U.exit ?_;try simp only[ao,bH,simprocAttr]
   refine .ak (by decide +kernel) fun K hK =>?_
   simp only[Fu,J,simprocAttr]
   refine .done (hK _ ?_);clear hK K
   refine U.ret ?_
   simp only[J,simprocAttr]
theorem N0(w:aM 5 Int)(m r:aM 6 Int)(hm:dH m=true)(i:Nat)(hi:i<6):aB Tryz.prog 212 (enc (i:Int)::[.ref (.func 196 []),.ref (enc w),.ref (enc m),.ref (enc r)]) (enc (!mM w m r i)):=by
 obtain ⟨h0,h5⟩:=nc hm hi
 refine aB.bu Tryz.func212 QF Sq Up (Nat.le_of_ble_eq_true rfl) (fun hwf W0 D0 E1 =>?_)
 simp only[Ay,La,bp,Nat.zero_add,Nat.reduceAdd]
 refine .ak (by decide +kernel) fun K hK =>?_
 simp only[Ge,J,simprocAttr]
 refine .done (hK _ ?_);clear hK K
 refine .ak (by decide +kernel) fun K hK =>?_
 simp only[Gf,J,simprocAttr]
 try simp only[cC,cT,J,simprocAttr]
 refine .flat _ (tS w m i hi h0 h5) rfl ?_
 try simp only[bK,jb 1 r hi rfl,qo,qi r hi,List.append_nil,J,simprocAttr]
 refine .flat _ (yE _ _) rfl ?_
 try simp only[J,simprocAttr]
 refine .done (hK _ ?_);clear hK K
 refine U.ret ?_
 simp only[J,simprocAttr]
 simp[mM,bne]
theorem NP(w:aM 5 Int)(a b:aM 6 Int)(ha:dH a=true)(hb:dH b=true)(i:Nat)(hi:i<6):aB Tryz.prog 198 (enc (i:Int)::[.ref (.func 196 []),.ref (enc w),.ref (enc a),.ref (enc b)]) (enc (!iy w a b i)):=by
 obtain ⟨h0,h5⟩:=nc ha hi
 obtain ⟨k0,k5⟩:=nc hb hi
 refine aB.bu Tryz.func198 Qy Si Ui (Nat.le_of_ble_eq_true rfl) (fun hwf W0 D0 E1 =>?_)
 simp only[Aq,K3,bp,Nat.zero_add,Nat.reduceAdd]
 refine .ak (by decide +kernel) fun K hK =>?_
 simp only[Fv,J,simprocAttr]
 refine .done (hK _ ?_);clear hK K
 refine .ak (by decide +kernel) fun K hK =>?_
 simp only[Fw,J,simprocAttr]
 try simp only[cC,cT,J,simprocAttr]
 refine .flat _ (tS w a i hi h0 h5) rfl ?_
 try simp only[cC,cT,J,simprocAttr]
 refine .flat _ (tS w b i hi k0 k5) rfl ?_
 try simp only[List.append_nil,J,simprocAttr]
 refine .flat _ (yE _ _) rfl ?_
 try simp only[J,simprocAttr]
 refine .done (hK _ ?_);clear hK K
 refine U.ret ?_
 simp only[J,simprocAttr]
 simp[iy,bne]
theorem Mx{A:ab}{n:Nat}{b:I}{f:FuncId}{caps:List I}{rest:List av} : dS A none n [] b (.func f caps) rest (some .da)=az rest (A.aL n (.box (b.dx [] (.func f caps)))):=ep rfl rfl (by simp[I.aJ])
theorem NT(w:aM 5 Int)(m r:aM 6 Int)(hm:dH m=true):aB Tryz.prog 202 [enc w,enc m,enc r] (enc (kW w m r)):=by
 refine aB.bu Tryz.func202 QC Sm Um (Nat.le_of_ble_eq_true rfl) (fun hwf W0 D0 E1 =>?_)
 simp only[Av,K7,bp,Nat.zero_add,Nat.reduceAdd]
 refine .ak (by decide +kernel) fun K hK =>?_
 simp only[FJ,J,simprocAttr]
 try simp only[dG,J,simprocAttr]
 refine .done (hK _ ?_);clear hK K
 refine .ak (by decide +kernel) fun K hK =>?_
 simp only[FK,J,simprocAttr]
 try simp only[Mx,J,simprocAttr]
 refine .done (hK _ ?_);clear hK K
 refine .ak (by decide +kernel) fun K hK =>?_
 simp only[FL,J,simprocAttr]
 try simp only[List.all_cons,List.all_nil,I.b9,Bool.and_self,dT,J,simprocAttr]
 refine .flat _ (yF 212 [.ref (.func 196 []),.ref (enc w),.ref (enc m),.ref (enc r)] ?_ (fun i => !mM w m r i) (fun i hi=>N0 w m r hm i hi)) rfl ?_
 ·simp only[I.eR,I.done,I.bl,I.bT,dT,Bool.and_self]
 try simp only[J,simprocAttr]
 refine .done (hK _ ?_);clear hK K
 refine U.ret ?_
 simp only[J,simprocAttr]
 simp only[kW,Bool.not_not]
theorem NA(w:aM 5 Int)(a b:aM 6 Int)(ha:dH a=true)(hb:dH b=true):aB Tryz.prog 165 [enc w,enc a,enc b] (enc (ev (iy w a b) 6:Int)):=by
 refine aB.bu Tryz.func165 Qh R0 TY (Nat.le_of_ble_eq_true rfl) (fun hwf W0 D0 E1 =>?_)
 simp only[z7,KL,bp,Nat.zero_add,Nat.reduceAdd]
 refine .ak (by decide +kernel) fun K hK =>?_
 simp only[Ew,J,simprocAttr]
 try simp only[dG,J,simprocAttr]
 refine .done (hK _ ?_);clear hK K
 refine .ak (by decide +kernel) fun K hK =>?_
 simp only[Ey,J,simprocAttr]
 try simp only[Mx,J,simprocAttr]
 refine .done (hK _ ?_);clear hK K
 refine .ak (by decide +kernel) fun K hK =>?_
 simp only[Ez,J,simprocAttr]
 try simp only[List.all_cons,List.all_nil,I.b9,Bool.and_self,dT,J,simprocAttr]
 refine .flat _ (yF 198 [.ref (.func 196 []),.ref (enc w),.ref (enc a),.ref (enc b)] ?_ (fun i => !iy w a b i) (fun i hi=>NP w a b ha hb i hi)) rfl ?_
 ·simp only[I.eR,I.done,I.bl,I.bT,dT,Bool.and_self]
 try simp only[J,simprocAttr]
 refine .done (hK _ ?_);clear hK K
 refine U.ret ?_
 simp only[J,simprocAttr]
 simp only[Bool.not_not]
theorem Nz(m:bX)(g:b7)(k:aM 6 Int)(hg:dH g.mark=true)(hk:dH k=true):aB Tryz.prog 164 (enc g::[.ref (enc m),.ref (enc k)]) (enc (jK m g.mark k)):=by
 refine aB.bu Tryz.func164 Qg RZ TX (Nat.le_of_ble_eq_true rfl) (fun hwf W0 D0 E1 =>?_)
 simp only[z6,KK,bp,Nat.zero_add,Nat.reduceAdd]
 refine .ak (by decide +kernel) fun K hK =>?_
 simp only[Eu,J,simprocAttr]
 try simp only[dG,J,simprocAttr]
 refine .done (hK _ ?_);clear hK K
 refine .ak (by decide +kernel) fun K hK =>?_
 simp only[Ev,J,simprocAttr]
 try simp only[cC,cT,J,simprocAttr]
 refine .flat _ (NA m.eC g.mark k hg hk) rfl ?_
 try simp only[cC,J,simprocAttr]
 refine .done (hK _ ?_);clear hK K
 refine U.ret ?_
 simp only[J,simprocAttr]
 rfl
theorem tR(l:List b7)(f:FuncId)(caps:List I)(hcaps:I.eR caps=true)(p:b7→Bool)(hf:∀ x∈l,aB Tryz.prog f (enc x::caps) (enc (p x))):aB Tryz.prog 195 [enc l,.func f caps] (enc (match l.findIdx? p with | some i=>(i:Int) | none=>-1)):=by
 refine aB.bu Tryz.func195 Qv Sf Uf (Nat.le_of_ble_eq_true rfl) (fun hwf W0 D0 E1 =>?_)
 simp only[An,K0,bp,Nat.zero_add]
 have hlen:l.length≤maxLen:=((kM l).1 hwf.1).1
 simp only[maxLen] at hlen
 have hcl:I.bT caps=true:=kp caps hcaps
 have hfc:∀ aw A,bY aw A caps=some caps:=fun aw A=>kv aw A caps hcaps
 have hon:∀ q,I.bV q caps=true:=fun q=>j0 q caps hcl
 refine .ak (by decide +kernel) fun K hK =>?_
 simp only[Fa,J,simprocAttr]
 refine .done (hK _ ?_);clear hK K
 refine U.seq ?_
 refine U.seq (U.bj (by decide +kernel) fun K hK =>?_)
 try simp only[Fb,bK,J,simprocAttr]
 refine .done (hK _ ?_);clear hK K
 refine U.block (U.loop (fun i:Nat=>au [(0,enc l),(1,.func f caps),(7,.int .i64 l.length),(8,.int .i64 i)] []) (fun i=>i≤l.length∧∀ x∈l.take i,p x=false) (fun i=>l.length-i) 0 ⟨Nat.zero_le _,by simp⟩ ?_ (fun i hi =>?_))
 ·refine aE.bP ?_ ?_ ?_ ?_ <;>simp[aT,bJ,bI,bd,aV,I.only,bt,hon]
 ·refine .ak (by decide +kernel) fun K hK =>?_
  simp only[Fc,J,simprocAttr]
  refine .done (hK _ ?_);clear hK K
  refine U.seq ?_
  refine U.bD ?_
  simp only[ar,J,simprocAttr]
  refine ⟨fun h =>?_,fun h =>?_⟩
  ·have hlt:i<l.length:=by simpa using h
   refine U.skip ?_;try simp only[ao,simprocAttr]
   refine U.seq (U.block ?_)
   refine .ak (by decide +kernel) fun K hK =>?_
   simp only[Fe,J,simprocAttr]
   refine .done (hK _ ?_);clear hK K
   refine .ak (by decide +kernel) fun K hK =>?_
   simp only[Ff,J,simprocAttr]
   try simp only[fL 7 hlt rfl,cC,List.cons_append,hfc,cT,J,simprocAttr]
   refine .flat _ (hf _ (List.getElem_mem hlt)) rfl ?_
   try simp only[J,simprocAttr]
   refine .done (hK _ ?_);clear hK K
   refine U.bD ?_
   simp only[ar,J,simprocAttr]
   refine ⟨fun h =>?_,fun h =>?_⟩
   ·refine .ak (by decide +kernel) fun K hK =>?_
    simp only[Fg,J,simprocAttr]
    refine .done (hK _ ?_);clear hK K
    refine U.ret ?_
    simp only[bH,ao,J,simprocAttr]
    simp[u0 hlt hi.2 h]
   ·refine U.skip ?_;try simp only[ao,bH,simprocAttr]
    refine .bj (by decide +kernel) fun K hK =>?_
    simp only[Fh,J,simprocAttr]
    refine .done (hK _ ?_);clear hK K;try simp only[ao]
    refine ⟨i+1,⟨by omega,fun x hm =>?_⟩,by omega,?_⟩
    ·rw[List.take_succ_eq_append_getElem hlt] at hm
     rcases List.mem_append.1 hm with hm | hm
     ·exact hi.2 x hm
     ·simp at hm;rw[hm];exact h
    ·rw[cA _ (by omega) (by omega)]
     refine aE.bP ?_ ?_ ?_ ?_ <;>simp[aT,bJ,bI,bd,aV,I.only,bt,hon]
  ·have hge:i=l.length:=by simp at h;omega
   refine U.exit ?_;try simp only[ao,bH,simprocAttr]
   refine .ak (by decide +kernel) fun K hK =>?_
   simp only[Fi,J,simprocAttr]
   refine .done (hK _ ?_);clear hK K
   refine U.ret ?_
   simp only[J,simprocAttr]
   simp[hge] at hi
   simp[uZ hi]
theorem WW{α:Type}(p:α→Bool)(l:List α):decide (0≤(match l.findIdx? p with | some i=>(i:Int) | none=>-1))=l.any p:=by
 cases h:l.findIdx? p with
 |none =>
  rw[List.findIdx?_eq_none_iff] at h
  have:l.any p=false:=by rw[List.any_eq_false];intro x hx;simp[h x hx]
  simp[this]
 |some i =>
  rw[List.findIdx?_eq_some_iff_getElem] at h
  obtain ⟨h1,h2,_⟩:=h
  have:l.any p=true:=by rw[List.any_eq_true];exact ⟨_,List.getElem_mem h1,h2⟩
  rw[this]
  exact decide_eq_true (Int.natCast_nonneg i)
theorem Ny(l:List b7)(f:FuncId)(caps:List I)(hcaps:I.eR caps=true)(p:b7→Bool)(hf:∀ x∈l,aB Tryz.prog f (enc x::caps) (enc (p x))):aB Tryz.prog 163 [enc l,.func f caps] (enc (l.any p)):=by
 refine aB.bu Tryz.func163 Qf RY TW (Nat.le_of_ble_eq_true rfl) (fun hwf W0 D0 E1 =>?_)
 simp only[z1,KJ,bp,Nat.zero_add]
 have hcl:I.bT caps=true:=kp caps hcaps
 have hfc:∀ aw A,bY aw A caps=some caps:=fun aw A=>kv aw A caps hcaps
 refine .ak (by decide +kernel) fun K hK =>?_
 simp only[Es,J,simprocAttr]
 refine .done (hK _ ?_);clear hK K
 refine .ak (by decide +kernel) fun K hK =>?_
 simp only[Et,J,simprocAttr]
 try simp only[cT,hfc,J,simprocAttr]
 refine .flat _ (tR l f caps hcaps p hf) rfl ?_
 try simp only[J,simprocAttr]
 refine .done (hK _ ?_);clear hK K
 refine U.ret ?_
 simp only[J,simprocAttr]
 rw[WW]
theorem yu(m:bX)(l:List b7)(k:aM 6 Int)(hl:∀ g∈l,dH g.mark=true)(hk:dH k=true):aB Tryz.prog 124 [enc m,enc l,enc k] (enc (!l.any fun g=>jK m g.mark k)):=by
 refine aB.bu Tryz.func124 PO Rx Tv (Nat.le_of_ble_eq_true rfl) (fun hwf W0 D0 E1 =>?_)
 simp only[zy,Kh,bp,Nat.zero_add,Nat.reduceAdd]
 refine .ak (by decide +kernel) fun K hK =>?_
 simp only[C7,J,simprocAttr]
 try simp only[dG,J,simprocAttr]
 refine .done (hK _ ?_);clear hK K
 refine .ak (by decide +kernel) fun K hK =>?_
 simp only[C8,J,simprocAttr]
 try simp only[List.all_cons,List.all_nil,I.b9,Bool.and_self,dT,cT,J,simprocAttr]
 refine .flat _ (Ny l 164 [.ref (enc m),.ref (enc k)] ?_ (fun g=>jK m g.mark k) (fun g hg=>Nz m g k (hl g hg) hk)) rfl ?_
 ·simp only[I.eR,I.done,dT,Bool.and_self]
 try simp only[J,simprocAttr]
 refine .done (hK _ ?_);clear hK K
 refine U.ret ?_
 simp only[J,simprocAttr]
theorem Ml{α:Type}[Enc α]{A:ab}(esz:Nat){l:List α}{i:Nat}(h:i≤l.length)(hs:Enc.sz α=esz):ot A esz none (some (.int .i64 i)) none (enc l)=some (enc (l.take i)):=by
 simp only[ot,fW,hs,if_true,jH,hJ,List.length_map]
 rw[if_pos ⟨by omega,by omega,by omega,by omega⟩]
 simp
theorem yY(m:bX)(k:aM 6 Int){i:Nat}(h:i≤m.given.length):(!(m.given.take i).any fun g=>jK m g.mark k)=(List.range i).all (fun j => !jK m (cU m j).mark k):=by
 rw[Bool.eq_iff_iff]
 simp only[Bool.not_eq_true',List.any_eq_false,List.all_eq_true,List.mem_range]
 constructor
 ·intro h1 j hj
  have hjl:j<m.given.length:=by omega
  have:=h1 m.given[j] (by rw[List.mem_take_iff_getElem];exact ⟨j,by omega,rfl⟩)
  rw[ja hjl] at this
  simpa using this
 ·intro h1 g hg
  rw[List.mem_take_iff_getElem] at hg
  obtain ⟨j,hj,rfl⟩:=hg
  have hjl:j<m.given.length:=by omega
  rw[ja hjl]
  simpa using h1 j (by omega)
theorem tU(m:bX):aB Tryz.prog 66 [enc m] (enc (if ee m then (0:Int) else 13)):=by
 refine aB.bu Tryz.func66 QV SF UE (Nat.le_of_ble_eq_true rfl) (fun hwf W0 D0 E1 =>?_)
 simp only[AN,Lp,bp]
 refine .ak (by decide +kernel) fun K hK =>?_
 simp only[G4,J,simprocAttr]
 try simp only[dG,J,simprocAttr]
 refine .done (hK _ ?_);clear hK K
 refine U.seq (U.seq ?_)
 refine .bj (by decide +kernel) fun K hK =>?_
 simp only[G5,J,simprocAttr]
 try simp only[cC,cT,J,simprocAttr]
 refine .flat _ (M9 m.eC) rfl ?_
 generalize hw:gR m.eC=bw
 cases bw
 ·try simp only[J,simprocAttr]
  refine .done (hK _ ?_);clear hK K;try simp only[ao]
  refine U.bD ?_
  simp only[ar,J,simprocAttr]
  refine ⟨fun h =>?_,fun h =>?_⟩
  ·refine .ak (by decide +kernel) fun K hK =>?_
   simp only[sa,J,simprocAttr]
   refine .done (hK _ ?_);clear hK K
   refine U.ret ?_
   simp only[ao,J,simprocAttr]
   simp[ee,hw]
  ·cases h
 try simp only[cC,J,simprocAttr]
 refine .flat _ (rm m.ew 0 2) rfl ?_
 generalize hf:cm 0 2 m.ew=bf
 cases bf
 ·try simp only[J,simprocAttr]
  refine .done (hK _ ?_);clear hK K
  refine U.bD ?_
  simp only[ar,J,simprocAttr]
  refine ⟨fun h =>?_,fun h =>?_⟩
  ·refine .ak (by decide +kernel) fun K hK =>?_
   simp only[sa,J,simprocAttr]
   refine .done (hK _ ?_);clear hK K
   refine U.ret ?_
   simp only[ao,J,simprocAttr]
   simp[ee,hw,hf]
  ·cases h
 try simp only[cC,bK,J,simprocAttr]
 refine .done (hK _ ?_);clear hK K
 refine U.bD ?_
 simp only[ar,J,simprocAttr]
 refine ⟨fun h =>?_,fun h =>?_⟩
 ·refine .ak (by decide +kernel) fun K hK =>?_
  simp only[sa,J,simprocAttr]
  refine .done (hK _ ?_);clear hK K
  refine U.ret ?_
  simp only[ao,J,simprocAttr]
  have:¬ m.given.length≤40:=by simp at h;omega
  simp[ee,hw,hf,this]
 have hlen:m.given.length≤40:=by simp at h;omega
 refine U.skip ?_;try simp only[ao,simprocAttr]
 refine U.seq (U.seq ?_)
 refine U.bj (by decide +kernel) fun K hK =>?_
 try simp only[G6,cC,bK,J,simprocAttr]
 refine .done (hK _ ?_);clear hK K
 refine U.block (U.loop (fun i:Nat=>au [(1,.ptr 1 []),(22,enc m.given),(23,.int .i64 m.given.length),(24,.int .i64 i)] [(1,.box (enc m))]) (fun i=>i≤m.given.length∧∀ j,j<i→gq m j=true) (fun i=>m.given.length-i) 0 ⟨by omega,fun k h=>by omega⟩ ?_ (fun i hi =>?_))
 ·refine aE.bP ?_ ?_ ?_ ?_ <;>simp[aT,bJ,bI,bd,al,aV,cw,I.only,ah.only,bt]
 refine .ak (by decide +kernel) fun K hK =>?_
 simp only[G7,J,simprocAttr]
 refine .done (hK _ ?_);clear hK K
 refine U.seq ?_
 refine U.bD ?_
 simp only[ar,J,simprocAttr]
 refine ⟨fun h =>?_,fun h =>?_⟩
 case refine_2.refine_2 =>
  have hge:i=m.given.length:=by simp at h;omega
  subst hge
  refine U.exit ?_;try simp only[ao,bH,simprocAttr]
  refine .ak (by decide +kernel) fun K hK =>?_
  simp only[Ha,J,simprocAttr]
  refine .done (hK _ ?_);clear hK K
  refine U.ret ?_
  simp only[J,simprocAttr]
  have:(List.range m.given.length).all (gq m)=true:=pU hi.2
  simp[ee,hw,hf,this,hlen]
 have hlt:i<m.given.length:=by simpa using h
 refine U.skip ?_;try simp only[ao,simprocAttr]
 refine U.seq (U.block ?_)
 refine .ak (by decide +kernel) fun K hK =>?_
 simp only[G8,J,simprocAttr]
 try simp only[cC,wm hlt,J,simprocAttr]
 rw[ep (dG _) (by rw[fJ];rfl) ((eH _).trans rfl)]
 try simp only[J,simprocAttr]
 refine .done (hK _ ?_);clear hK K
 have bad:∀ b,gq m i=b→b=false→(if ee m then (0:Int) else 13)=13:=fun b h1 h2=>by
  have:(List.range m.given.length).all (gq m)=false:=ny i hlt (by rw[h1,h2])
  simp[ee,this]
 have htake:∀ g∈m.given.take i,dH g.mark=true:=fun g hg=>by
  rw[List.mem_take_iff_getElem] at hg
  obtain ⟨j,hj,rfl⟩:=hg
  have hjl:j<m.given.length:=by omega
  rw[ja hjl]
  exact xg (hi.2 j (by omega))
 refine .ak (by decide +kernel) fun K hK =>?_
 simp only[G9,J,simprocAttr]
 try simp only[cC,J,simprocAttr]
 refine .flat _ (Na (cU m i).bN) rfl ?_
 generalize ho:cm 1 99 (cU m i).bN=bo
 cases bo
 ·try simp only[J,simprocAttr]
  refine .done (hK _ ?_);clear hK K
  refine U.bD ?_
  simp only[ar,J,simprocAttr]
  refine ⟨fun h =>?_,fun h =>?_⟩
  ·refine .ak (by decide +kernel) fun K hK =>?_
   simp only[oY,J,simprocAttr]
   refine .done (hK _ ?_);clear hK K
   refine U.ret ?_
   simp only[bH,ao,J,simprocAttr]
   rw[bad _ rfl (by simp[gq,ho])]
  ·cases h
 try simp only[cC,cT,J,simprocAttr]
 refine .flat _ (Nb (cU m i).mark) rfl ?_
 generalize hk:dH (cU m i).mark=bk
 cases bk
 ·try simp only[J,simprocAttr]
  refine .done (hK _ ?_);clear hK K
  refine U.bD ?_
  simp only[ar,J,simprocAttr]
  refine ⟨fun h =>?_,fun h =>?_⟩
  ·refine .ak (by decide +kernel) fun K hK =>?_
   simp only[oY,J,simprocAttr]
   refine .done (hK _ ?_);clear hK K
   refine U.ret ?_
   simp only[bH,ao,J,simprocAttr]
   rw[bad _ rfl (by simp[gq,ho,hk])]
  ·cases h
 try simp only[J,simprocAttr]
 generalize hz:decide (0<(i:Int))=bz
 cases bz
 ·have hprev:(i==0||decide ((cU m (i-1)).bN<(cU m i).bN))=true:=by simp at hz;simp[hz]
  try simp only[cC,J,simprocAttr]
  try simp only[cC,cT,Ml 7 (Nat.le_of_lt hlt) rfl,Option.map_none,J,simprocAttr]
  refine .flat _ (yu m (m.given.take i) (cU m i).mark htake hk) rfl ?_
  rw[yY m (cU m i).mark (Nat.le_of_lt hlt)]
  generalize hap:(List.range i).all (fun j => !jK m (cU m j).mark (cU m i).mark)=ba
  cases ba
  ·try simp only[J,simprocAttr]
   refine .done (hK _ ?_);clear hK K
   refine U.bD ?_
   simp only[ar,J,simprocAttr]
   refine ⟨fun h =>?_,fun h =>?_⟩
   ·refine .ak (by decide +kernel) fun K hK =>?_
    simp only[oY,J,simprocAttr]
    refine .done (hK _ ?_);clear hK K
    refine U.ret ?_
    simp only[bH,ao,J,simprocAttr]
    rw[bad _ rfl (by simp only[gq,hap,Bool.and_false])]
   ·cases h
  ·try simp only[J,simprocAttr]
   refine .done (hK _ ?_);clear hK K
   refine U.bD ?_
   simp only[ar,J,simprocAttr]
   refine ⟨fun h =>?_,fun h =>?_⟩
   ·cases h
   refine U.skip ?_;try simp only[ao,bH,simprocAttr]
   refine .bj (by decide +kernel) fun K hK =>?_
   simp only[vH,J,simprocAttr]
   refine .done (hK _ ?_);clear hK K;try simp only[ao]
   refine ⟨i+1,⟨by omega,fun k hk' =>?_⟩,by omega,?_⟩
   ·by_cases hki:k=i
    ·rw[hki]
     simp only[gq,ho,hk,hprev,hap,Bool.and_self]
    ·exact hi.2 k (by omega)
   ·rw[cA _ (by omega) (by omega)]
    refine aE.bP ?_ ?_ ?_ ?_ <;>simp[aT,bJ,bI,bd,al,aV,cw,I.only,ah.only,bt]
 ·have hpos:0<i:=by simpa using hz
  have hpl:i-1<m.given.length:=by omega
  have hpred:IntKind.i64.wrap ((i:Int)-1)=((i-1:Nat):Int):=by rw[cA _ (by omega) (by omega)];omega
  try simp only[cC,hpred,wm hpl,J,simprocAttr]
  generalize hq:decide ((cU m i).bN≤(cU m (i-1)).bN)=bq
  cases bq
  ·have hprev:(i==0||decide ((cU m (i-1)).bN<(cU m i).bN))=true:=by simp at hq;simp;omega
   try simp only[cC,J,simprocAttr]
   try simp only[cC,cT,Ml 7 (Nat.le_of_lt hlt) rfl,Option.map_none,J,simprocAttr]
   refine .flat _ (yu m (m.given.take i) (cU m i).mark htake hk) rfl ?_
   rw[yY m (cU m i).mark (Nat.le_of_lt hlt)]
   generalize hap:(List.range i).all (fun j => !jK m (cU m j).mark (cU m i).mark)=ba
   cases ba
   ·try simp only[J,simprocAttr]
    refine .done (hK _ ?_);clear hK K;try simp only[ao,bH]
    refine U.bD ?_
    simp only[ar,J,simprocAttr]
    refine ⟨fun h =>?_,fun h =>?_⟩
    ·refine .ak (by decide +kernel) fun K hK =>?_
     simp only[oY,J,simprocAttr]
     refine .done (hK _ ?_);clear hK K
     refine U.ret ?_
     simp only[bH,ao,J,simprocAttr]
     rw[bad _ rfl (by simp only[gq,hap,Bool.and_false])]
    ·cases h
   ·try simp only[J,simprocAttr]
    refine .done (hK _ ?_);clear hK K
    refine U.bD ?_
    simp only[ar,J,simprocAttr]
    refine ⟨fun h =>?_,fun h =>?_⟩
    ·cases h
    refine U.skip ?_;try simp only[ao,bH,simprocAttr]
    refine .bj (by decide +kernel) fun K hK =>?_
    simp only[vH,J,simprocAttr]
    refine .done (hK _ ?_);clear hK K;try simp only[ao]
    refine ⟨i+1,⟨by omega,fun k hk' =>?_⟩,by omega,?_⟩
    ·by_cases hki:k=i
     ·rw[hki]
      simp only[gq,ho,hk,hprev,hap,Bool.and_self]
     ·exact hi.2 k (by omega)
    ·rw[cA _ (by omega) (by omega)]
     refine aE.bP ?_ ?_ ?_ ?_ <;>simp[aT,bJ,bI,bd,al,aV,cw,I.only,ah.only,bt]
  ·try simp only[J,simprocAttr]
   refine .done (hK _ ?_);clear hK K;try simp only[ao,bH]
   refine U.bD ?_
   simp only[ar,J,simprocAttr]
   refine ⟨fun h =>?_,fun h =>?_⟩
   ·refine .ak (by decide +kernel) fun K hK =>?_
    simp only[oY,J,simprocAttr]
    refine .done (hK _ ?_);clear hK K
    refine U.ret ?_
    simp only[bH,ao,J,simprocAttr]
    have:(i==0||decide ((cU m (i-1)).bN<(cU m i).bN))=false:=by simp at hq;simp;omega
    rw[bad _ rfl (by simp only[gq,this,Bool.and_false,Bool.false_and])]
   ·cases h
theorem NR(f:FuncId)(caps:List I)(hcaps:I.eR caps=true):aB Tryz.prog 200 [enc ([]:List b7),.func f caps] (enc ([]:List b7)):=by
 refine aB.bu Tryz.func200 Bg Bn BA (Nat.le_of_ble_eq_true rfl) (fun hwf W0 D0 E1 =>?_)
 simp only[uk,xE,bp,Nat.zero_add]
 have hcl:I.bT caps=true:=kp caps hcaps
 have hfc:∀ aw A,bY aw A caps=some caps:=fun aw A=>kv aw A caps hcaps
 refine .ak (by decide +kernel) fun K hK =>?_
 simp only[vA,J,simprocAttr]
 refine .done (hK _ ?_);clear hK K
 refine .ak (by decide +kernel) fun K hK =>?_
 simp only[vB,J,simprocAttr]
 try simp only[cT,hfc,J,simprocAttr]
 refine .flat _ (tR [] f caps hcaps (fun _=>false) (fun x hx=>by cases hx)) rfl ?_
 try simp only[List.findIdx?_nil,J,simprocAttr]
 refine .done (hK _ ?_);clear hK K
 refine U.seq (U.seq ?_)
 refine .bj (by decide +kernel) fun K hK =>?_
 simp only[r7,J,simprocAttr]
 refine .done (hK _ ?_);clear hK K;try simp only[ao]
 refine U.bD ?_
 simp only[ar,J,simprocAttr]
 refine ⟨fun h =>?_,fun h =>?_⟩
 ·refine .ak (by decide +kernel) fun K hK =>?_
  simp only[vD,J,simprocAttr]
  refine .done (hK _ ?_);clear hK K
  refine U.ret ?_
  simp only[ao,J,simprocAttr]
  try simp only[cT,J,simprocAttr]
 ·cases h
def fB(p:b7→Bool)(l:List b7):List b7:=l.filter fun x => !p x
def BG(k:Nat)(l:List b7):cS:=fun r os'=>∃ m,r=.view k [] 7 0 l.length∧os'=iq k l m
theorem xt(p:Nat→Bool)(m:Nat)(x:b7):I.bV p (List.replicate m (enc x))=true:=by
 have:List.replicate m (enc x)=(List.replicate m x).map (enc (α:=b7)):=by simp
 rw[this];exact eh p _
theorem af2(p:Nat→Bool)(xs:List b7)(i:Nat)(v:b7):I.bV p ((xs.map enc).set i (enc v))=true:=by
 rw[←List.map_set];exact eh p _
theorem xN{xs:List b7}{m j:Nat}(h:j<xs.length):((xs++List.replicate m fj).map (enc (α:=b7)))[0+j]?=some (enc xs[j]):=by
 rw[Nat.zero_add,List.getElem?_map,List.getElem?_append_left h,List.getElem?_eq_getElem h];rfl
theorem agX{xs:List b7}{m i:Nat}(h:i<xs.length)(v:b7):((xs++List.replicate m fj).map (enc (α:=b7))).set (0+i) (enc v)=(xs.set i v++List.replicate m fj).map enc:=by
 rw[Nat.zero_add,←List.map_set,List.set_append_left _ _ h]
theorem yd(l:List b7)(m:Nat):(l++List.replicate m fj).take l.length=l:=List.take_left
theorem uV(p:b7→Bool)(l:List b7){j:Nat}(h:j<l.length):fB p (l.take (j+1))=fB p (l.take j)++(if p l[j] then [] else [l[j]]):=by
 rw[List.take_succ_eq_append_getElem h]
 simp only[fB,List.filter_append,List.filter_cons,List.filter_nil]
 cases p l[j] <;>simp
theorem NQ(l:List b7)(f:FuncId)(caps:List I)(hcaps:I.eR caps=true)(p:b7→Bool)(hf:∀ x∈l,aB Tryz.prog f (enc x::caps) (enc (p x)))(hlen:l.length≤1000)(m:Nat) :
  cD Tryz.prog 200 [.view 1000000 [] 7 0 l.length,.func f caps] (iq 1000000 l m) (BG 1000000 (fB p l)):=by
 refine cD.bu Tryz.func200 Bg Bn BA (Nat.le_of_ble_eq_true rfl) (Nat.le_of_ble_eq_true rfl) (fun m hm=>by rw[df.1 hm];exact Nat.le_refl _) (fun hwf W0 D0 E1 =>?_)
 simp only[uk,xE,bp,Nat.zero_add]
 have hcl:I.bT caps=true:=kp caps hcaps
 have hfc:∀ aw A,bY aw A caps=some caps:=fun aw A=>kv aw A caps hcaps
 have hon:∀ q,I.bV q caps=true:=fun q=>j0 q caps hcl
 simp only[iq]
 refine .ak (by decide +kernel) fun K hK =>?_
 simp only[vA,J,simprocAttr]
 refine .done (hK _ ?_);clear hK K
 refine .ak (by decide +kernel) fun K hK =>?_
 simp only[vB,J,simprocAttr]
 try simp only[hfc,rZ (α:=b7) (sz:=7) rfl,yd,J,simprocAttr]
 refine .flat _ (tR l f caps hcaps p hf) rfl ?_
 try simp only[J,simprocAttr]
 refine .done (hK _ ?_);clear hK K
 generalize hfi:l.findIdx? p=fi
 cases fi with
 |none =>
  rw[List.findIdx?_eq_none_iff] at hfi
  have hk:fB p l=l:=by
   simp only[fB,List.filter_eq_self];intro x hx;simp[hfi x hx]
  refine U.seq (U.seq ?_)
  refine .bj (by decide +kernel) fun K hK =>?_
  simp only[r7,J,simprocAttr]
  refine .done (hK _ ?_);clear hK K;try simp only[ao]
  refine U.bD ?_
  simp only[ar,J,simprocAttr]
  refine ⟨fun h =>?_,fun h =>?_⟩
  ·refine .ak (by decide +kernel) fun K hK =>?_
   simp only[vD,J,simprocAttr]
   refine .done (hK _ ?_);clear hK K
   refine U.ret ?_
   simp only[ao,fF]
   rw[hk]
   exact ⟨iq 1000000 l m,[.view 1000000 [] 7 0 l.length],mS rfl (fun p=>l9 p _),⟨⟨_,rfl,.inl ⟨rfl,rfl,rfl⟩⟩,trivial⟩,m,rfl,rfl⟩
  ·cases h
 |some i0 =>
  obtain ⟨q1,q2,q3⟩:=List.findIdx?_eq_some_iff_getElem.1 hfi
  have hstart:l.take i0=fB p (l.take (i0+1)):=by
   rw[uV p l q1,q2]
   simp only[if_true,List.append_nil,fB]
   symm
   rw[List.filter_eq_self]
   intro x hx
   rw[List.mem_take_iff_getElem] at hx
   obtain ⟨j,hj,rfl⟩:=hx
   have:=q3 j (by omega)
   simpa using this
  refine U.seq (U.seq ?_)
  refine .bj (by decide +kernel) fun K hK =>?_
  simp only[r7,J,simprocAttr]
  refine .done (hK _ ?_);clear hK K;try simp only[ao]
  refine U.bD ?_
  simp only[ar,J,simprocAttr]
  refine ⟨fun h =>?_,fun h =>?_⟩
  ·simp at h
  refine U.skip ?_;try simp only[ao,simprocAttr]
  refine U.seq (U.seq ?_)
  refine .bj (by decide +kernel) fun K hK =>?_
  simp only[FB,J,simprocAttr]
  refine .done (hK _ ?_);clear hK K;try simp only[ao]
  refine U.block (U.loop (fun s:List b7×Nat×Nat=>au [(0,.view 1000000 [] 7 0 l.length),(1,.func f caps),(5,.int .i64 s.2.1),(6,.int .i64 s.2.2)] [(1000000,.box (.agg ((s.1++List.replicate m fj).map enc)))])
   (fun s=>s.1.length=l.length∧s.2.1<s.2.2∧s.2.2≤l.length∧s.1.take s.2.1=fB p (l.take s.2.2)∧s.1.drop s.2.2=l.drop s.2.2) (fun s=>l.length-s.2.2) (l,i0,i0+1) ⟨rfl,by simp only;omega,by simp only;omega,hstart,rfl⟩ ?_ ?_)
  ·rw[cA _ (by omega) (by omega)]
   refine aE.bP ?_ ?_ ?_ ?_ <;>simp[aT,bJ,bI,bd,al,aV,cw,I.only,ah.only,eh,gw,hon,xt]
  ·rintro ⟨xs,i,j⟩ ⟨c1,c2,c3,iz,kS⟩
   simp only at c1 c2 c3 iz kS ⊢
   refine U.seq (U.seq ?_)
   refine .bj (by decide +kernel) fun K hK =>?_
   simp only[FC,J,simprocAttr]
   try simp only[eB,J,simprocAttr]
   refine .done (hK _ ?_);clear hK K;try simp only[ao]
   refine U.bD ?_
   simp only[ar,J,simprocAttr]
   refine ⟨fun h =>?_,fun h =>?_⟩
   ·have hj:j<l.length:=by simpa using h
    have hjx:j<xs.length:=by omega
    have hix:i<xs.length:=by omega
    have hxj:xs[j]=l[j]:=by
     have h1:(xs.drop j)[0]?=(l.drop j)[0]?:=by rw[kS]
     simpa[hj,hjx] using h1
    refine U.skip ?_;try simp only[ao,simprocAttr]
    refine U.seq (U.block ?_)
    refine .ak (by decide +kernel) fun K hK =>?_
    simp only[FD,J,simprocAttr]
    try simp only[eB,wu (sz:=7) hj,List.nil_append,J,simprocAttr]
    try simp only[xN hjx,hxj,cC,J,simprocAttr]
    rw[ep (dG _) (by rw[fJ];rfl) ((eH _).trans rfl)]
    try simp only[J,simprocAttr]
    refine .done (hK _ ?_);clear hK K
    refine .ak (by decide +kernel) fun K hK =>?_
    simp only[FE,J,simprocAttr]
    try simp only[cC,cT,hfc,List.cons_append,List.nil_append,J,simprocAttr]
    refine .flat _ (hf _ (List.getElem_mem hj)) rfl ?_
    try simp only[J,simprocAttr]
    refine .done (hK _ ?_);clear hK K
    refine U.bD ?_
    simp only[ar,J,simprocAttr]
    refine ⟨fun h =>?_,fun h =>?_⟩
    ·have hpj:p l[j]=false:=by simpa using h
     refine .ak (by decide +kernel) fun K hK =>?_
     simp only[FF,J,simprocAttr]
     try simp only[cC,eB,wu (sz:=7) (show i<l.length by omega),List.nil_append,J,simprocAttr]
     try simp only[xN hix,J,simprocAttr]
     rw[ep (dG _) (by rw[fJ];rfl) ((eH _).trans (eH _).symm)]
     try simp only[xN hix,agX hix,J,simprocAttr]
     refine .done (hK _ ?_);clear hK K
     refine .bj (by decide +kernel) fun K hK =>?_
     simp only[FG,J,simprocAttr]
     refine .done (hK _ ?_);clear hK K;try simp only[ao,bH]
     refine .bj (by decide +kernel) fun K hK =>?_
     simp only[vC,J,simprocAttr]
     refine .done (hK _ ?_);clear hK K;try simp only[ao]
     refine ⟨(xs.set i l[j],i+1,j+1),⟨by simp[c1],by simp only;omega,by simp only;omega,?_,?_⟩,by simp only;omega,?_⟩
     ·simp only
      rw[uV p l hj,hpj,←iz]
      simp only[Bool.false_eq_true,if_false]
      rw[List.take_succ_eq_append_getElem (by simpa using hix),List.take_set_of_le (Nat.le_refl _)]
      simp
     ·simp only
      rw[List.drop_set_of_lt (by omega)]
      have:(xs.drop j).drop 1=(l.drop j).drop 1:=by rw[kS]
      simpa[List.drop_drop] using this
     ·simp only
      rw[cA _ (by omega) (by omega),cA _ (by omega) (by omega)]
      refine aE.bP ?_ ?_ ?_ ?_ <;>simp[aT,bJ,bI,bd,al,aV,cw,I.only,ah.only,gw,hon,xt,af2]
    ·have hpj:p l[j]=true:=by simpa using h
     refine U.skip ?_;try simp only[ao,bH,simprocAttr]
     refine .bj (by decide +kernel) fun K hK =>?_
     simp only[vC,J,simprocAttr]
     refine .done (hK _ ?_);clear hK K;try simp only[ao]
     refine ⟨(xs,i,j+1),⟨c1,by simp only;omega,by simp only;omega,?_,?_⟩,by simp only;omega,?_⟩
     ·simp only
      rw[uV p l hj,hpj,←iz]
      simp
     ·simp only
      have:(xs.drop j).drop 1=(l.drop j).drop 1:=by rw[kS]
      simpa[List.drop_drop] using this
     ·simp only
      rw[cA _ (by omega) (by omega)]
      refine aE.bP ?_ ?_ ?_ ?_ <;>simp[aT,bJ,bI,bd,al,aV,cw,I.only,ah.only,eh,gw,hon,xt]
   ·have hj:j=l.length:=by simp at h;omega
    subst hj
    rw[List.take_length] at iz
    have hlk:(fB p l).length=i:=by rw[←iz,List.length_take];omega
    have htot:((xs++List.replicate m fj).map (enc (α:=b7))).length=l.length+m:=by simp[c1]
    refine U.exit ?_;try simp only[ao,bH,simprocAttr]
    refine .ak (by decide +kernel) fun K hK =>?_
    simp only[Fz,J,simprocAttr]
    try simp only[eB,htot,Option.map_none,x4 (show i≤l.length by omega) (show l.length≤l.length+m by omega) (show i<l.length+m by omega),uM,J,simprocAttr]
    rw[uB fj rfl (by simp[c1];omega)]
    have hcont:(xs++List.replicate m fj).take i++(List.replicate (l.length-i) fj++(xs++List.replicate m fj).drop (i+(l.length-i)))=fB p l++List.replicate (l.length-i+m) fj:=by
     rw[List.take_append_of_le_length (by omega),iz]
     have e1:i+(l.length-i)=xs.length:=by omega
     rw[e1,List.drop_left,List.replicate_append_replicate]
    rw[hcont]
    try simp only[J,simprocAttr]
    refine .done (hK _ ?_);clear hK K
    have htot2:((fB p l++List.replicate (l.length-i+m) fj).map (enc (α:=b7))).length=l.length+m:=by simp[hlk];omega
    refine .ak (by decide +kernel) fun K hK =>?_
    simp only[FA,J,simprocAttr]
    try simp only[eB,htot2,Option.map_none,x0 (show i≤l.length+m by omega) (show 0<l.length+m by omega),J,simprocAttr]
    refine .done (hK _ ?_);clear hK K
    refine U.ret ?_
    simp only[fF]
    exact ⟨iq 1000000 (fB p l) (l.length-i+m),[.view 1000000 [] 7 0 i],mS rfl (fun p=>l9 p _),⟨⟨_,rfl,.inl ⟨rfl,rfl,rfl⟩⟩,trivial⟩,l.length-i+m,by rw[hlk];rfl,rfl⟩
def ph(a:Item)(k d kn b:Int):ay:=⟨a,k,d,kn,b,0,0,0,nu,⟨0,0⟩⟩
theorem BO:I.agg [.agg [.int .i64 0,.int .i64 0],.int .i64 0,.int .i64 0,.int .i64 0,.int .i64 0,.int .i64 0,.int .i64 0,.int .i64 0,.agg [.int .i64 0,.int .i64 0,.int .i64 0,.int .i64 0,.int .i64 0,.int .i64 0],.agg [.int .i64 0,.int .i64 0]]=enc (ph ⟨0,0⟩ 0 0 0 0):=rfl
theorem zf(a:Item)(k d kn b:Int):(dM [.agg [.int .i64 0,.int .i64 0],.int .i64 0,.int .i64 0,.int .i64 0,.int .i64 0,.int .i64 0,.int .i64 0,.int .i64 0,.agg [.int .i64 0,.int .i64 0,.int .i64 0,.int .i64 0,.int .i64 0,.int .i64 0],.agg [.int .i64 0,.int .i64 0]] [(0,enc a),(1,.int .i64 k),(2,.int .i64 d),(3,.int .i64 kn),(4,.int .i64 b)]).map .agg=some (enc (ph a k d kn b)):=by
 simp[dM,I.b9,I.size,I.sizes,fX,qb];rfl
theorem ze(a:Item)(k d kn:Int):(dM [.agg [.int .i64 0,.int .i64 0],.int .i64 0,.int .i64 0,.int .i64 0,.int .i64 0,.int .i64 0,.int .i64 0,.int .i64 0,.agg [.int .i64 0,.int .i64 0,.int .i64 0,.int .i64 0,.int .i64 0,.int .i64 0],.agg [.int .i64 0,.int .i64 0]] [(0,enc a),(1,.int .i64 k),(2,.int .i64 d),(3,.int .i64 kn)]).map .agg=some (enc (ph a k d kn 0)):=by
 simp[dM,I.b9,I.size,I.sizes,fX,qb];rfl
theorem Mt(A:ab)(n:Nat)(b:I)(x y:ay)(rest:List av):dS A (some 17) n [] b (enc x) rest (some (enc y))=az rest (A.aL n (.box (enc x))):=ep (dG _) (JE x) ((eH x).trans (eH y).symm)
theorem ov(A:ab)(n:Nat)(p:List Nat)(b:I)(k:IntKind)(x y:Int)(rest:List av):dS A none n p b (.int k x) rest (some (.int k y))=az rest (A.aL n (.box (b.dx p (.int k x)))):=ep rfl rfl rfl
theorem ahm(A:ab)(n:Nat)(p:List Nat)(b:I)(x y:aM 6 Int)(rest:List av):dS A (some 6) n p b (enc x) rest (some (enc y))=az rest (A.aL n (.box (b.dx p (enc x)))):=ep (dG _) (JD x) ((eH x).trans (eH y).symm)
theorem Mz(A:ab)(n:Nat)(p:List Nat)(b:I)(x y:Item)(rest:List av):dS A (some 2) n p b (enc x) rest (some (enc y))=az rest (A.aL n (.box (b.dx p (enc x)))):=ep (dG _) (JF x) ((eH x).trans (eH y).symm)
theorem Mi :
  (∀ (A:ab) (n:Nat) (rest:List av) (e:ay) v y,dS A (some 2) n [0] (enc e) (enc (v:Item)) rest (some (enc (y:Item)))=az rest (A.aL n (.box (enc { e with bL:=v })))) ∧
  (∀ (A:ab) (n:Nat) (rest:List av) (e:ay) v y,dS A none n [1] (enc e) (.int .i64 v) rest (some (.int .i64 y))=az rest (A.aL n (.box (enc { e with kind:=v })))) ∧
  (∀ (A:ab) (n:Nat) (rest:List av) (e:ay) v y,dS A none n [2] (enc e) (.int .i64 v) rest (some (.int .i64 y))=az rest (A.aL n (.box (enc { e with day:=v })))) ∧
  (∀ (A:ab) (n:Nat) (rest:List av) (e:ay) v y,dS A none n [3] (enc e) (.int .i64 v) rest (some (.int .i64 y))=az rest (A.aL n (.box (enc { e with known:=v })))) ∧
  (∀ (A:ab) (n:Nat) (rest:List av) (e:ay) v y,dS A none n [4] (enc e) (.int .i64 v) rest (some (.int .i64 y))=az rest (A.aL n (.box (enc { e with dY:=v })))) ∧
  (∀ (A:ab) (n:Nat) (rest:List av) (e:ay) v y,dS A none n [5] (enc e) (.int .i64 v) rest (some (.int .i64 y))=az rest (A.aL n (.box (enc { e with eP:=v })))) ∧
  (∀ (A:ab) (n:Nat) (rest:List av) (e:ay) v y,dS A none n [6] (enc e) (.int .i64 v) rest (some (.int .i64 y))=az rest (A.aL n (.box (enc { e with dp:=v })))) ∧
  (∀ (A:ab) (n:Nat) (rest:List av) (e:ay) v y,dS A none n [7] (enc e) (.int .i64 v) rest (some (.int .i64 y))=az rest (A.aL n (.box (enc { e with bN:=v })))) ∧
  (∀ (A:ab) (n:Nat) (rest:List av) (e:ay) v y,dS A (some 6) n [8] (enc e) (enc (v:aM 6 Int)) rest (some (enc (y:aM 6 Int)))=az rest (A.aL n (.box (enc { e with cg:=v })))) ∧
  (∀ (A:ab) (n:Nat) (rest:List av) (e:ay) v y,dS A (some 2) n [9] (enc e) (enc (v:Item)) rest (some (enc (y:Item)))=az rest (A.aL n (.box (enc { e with jE:=v })))) :=
 ⟨fun _ _ _ _ _ _=>by rw[Mz];rfl,fun _ _ _ _ _ _=>by rw[ov];rfl,fun _ _ _ _ _ _=>by rw[ov];rfl,fun _ _ _ _ _ _=>by rw[ov];rfl,fun _ _ _ _ _ _=>by rw[ov];rfl,fun _ _ _ _ _ _=>by rw[ov];rfl,fun _ _ _ _ _ _=>by rw[ov];rfl,fun _ _ _ _ _ _=>by rw[ov];rfl,fun _ _ _ _ _ _=>by rw[ahm];rfl,fun _ _ _ _ _ _=>by rw[Mz];rfl⟩
theorem M3(x y:aM 6 Int):x=y↔x.l=y.l:=by cases x;cases y;simp
theorem ah6(p q:Prop)[Decidable p][Decidable q]:gZ (some (decide p)) (some (decide q))=some (decide (p∧q)):=by simp[gZ]
theorem BY(a b:Int):cn (.i .i64) (.int .i64 a) (.int .i64 b)=some (decide (a=b)):=by simp[cn];rfl
theorem BX(x y:ay):cn (.br [(.br [(.i .i64),(.i .i64)]),(.i .i64),(.i .i64),(.i .i64),(.i .i64),(.i .i64),(.i .i64),(.i .i64),(.ke 6 (.i .i64)),(.br [(.i .i64),(.i .i64)])]) (enc x) (enc y)=some (decide (x=y)):=by
 obtain ⟨a1,k1,d1,n1,b1,m1,s1,o1,r1,f1⟩:=x
 obtain ⟨a2,k2,d2,n2,b2,m2,s2,o2,dR,f2⟩:=y
 show cn _ (.agg [enc a1,.int .i64 k1,.int .i64 d1,.int .i64 n1,.int .i64 b1,.int .i64 m1,.int .i64 s1,.int .i64 o1,enc r1,enc f1]) (.agg [enc a2,.int .i64 k2,.int .i64 d2,.int .i64 n2,.int .i64 b2,.int .i64 m2,.int .i64 s2,.int .i64 o2,enc dR,enc f2])=_
 have hr:cn (.ke 6 (.i .i64)) (enc r1) (enc dR)=some (decide (r1=dR)):=by
  rw[rW]
  congr 1
  exact decide_eq_decide.2 (M3 r1 dR).symm
 rw[cn]
 simp only[iC,qc,BY,hr,ay.mk.injEq]
 simp[gZ]
theorem bg:(type_of% @pO)∧(type_of% @Jp)∧(type_of% @kB)∧(∀ {α:Type} [Enc α] (aw:Bool) (A:ab) (x:α),a6 aw A (enc x)=some (enc x))∧(∀ {α:Type} [Enc α] (x:α),(enc x).b9=true)∧(type_of% @BO)∧(type_of% @zf)∧(type_of% @ze)∧(type_of% @Mt) ∧
  (type_of% @Mi)∧(type_of% @BX)∧(type_of% @qc)∧(∀ (a:Nat) l m,(a::l)++m=a::(l++m))∧(∀ b:Bool,((if b=true then (0:Int) else 12)==0)=b)∧(∀ b:Bool,((if b=true then (0:Int) else 12) != 0) = !b) :=
 ⟨pO,Jp,kB,@cT,@dG,BO,zf,ze,Mt,Mi,BX,qc,fun _ _ _=>rfl,fun b=>by cases b <;>rfl,fun b=>by cases b <;>rfl⟩
theorem ru(x:ay):aB Tryz.prog 84 [enc x] (enc (jt x)):=by
 refine aB.bu Tryz.func84 Q6 SQ UP (Nat.le_of_ble_eq_true rfl) (fun hwf W0 D0 E1 =>?_)
 simp only[AY,LA,bp]
 have R:=And.intro @bg @J
 repeat' ((first
  |(with_reducible refine .guard (fun hb =>?_) (fun hb =>?_) <;>try simp only[hb])
  |refine U.aW (by decide +kernel) rfl fun K hK =>?_
  |(refine .aO [0,1,2,3,15,24,25,36,41,47] hK ?_;clear hK K)
  |(with_reducible refine .done (hK _ ?_);clear hK K)
  |refine U.of rfl ?_
  |(with_reducible refine ar.aU (fun h =>?_) (fun h =>?_) <;>try simp only[h])) <;>try simp only[aX,R,simprocAttr])
 all_goals clear R
 all_goals (congr 1;simp_all[jt,ph])
theorem yq(x:ay):aB Tryz.prog 117 [enc x] (enc (ij x)):=by
 refine aB.bu Tryz.func117 PI Rr Tp (Nat.le_of_ble_eq_true rfl) (fun hwf W0 D0 E1 =>?_)
 simp only[zq,Kb,bp]
 refine .ak (by decide +kernel) fun K hK =>?_
 simp only[CO,J,simprocAttr]
 try simp only[bg,J,simprocAttr]
 refine .done (hK _ ?_);clear hK K
 refine .ak (by decide +kernel) fun K hK =>?_
 simp only[CP,J,simprocAttr]
 try simp only[bg,J,simprocAttr]
 refine .done (hK _ ?_);clear hK K
 refine .ak (by decide +kernel) fun K hK =>?_
 simp only[CQ,J,simprocAttr]
 try simp only[bg,J,simprocAttr]
 refine .flat _ (Nr _) rfl ?_
 try simp only[J,simprocAttr]
 refine .done (hK _ ?_);clear hK K
 refine U.fB [1,2,3,4] ?_
 simp only[wy,reduceIte,Nat.reduceBEq]
 by_cases hk:0≤x.kind∧x.kind≤6
 ·refine U.seq (U.yh (au [(1,.ptr 1 []),(3,.ptr 3 []),(4,.bool (oW x))] [(1,.box (enc x)),(3,.box (enc (jt x)))]) ?_ fun B hB=>U.sub hB ?_)
  ·clear hwf
   obtain hk | hk | hk | hk | hk | hk | hk:x.kind=0∨x.kind=1∨x.kind=2∨x.kind=3∨x.kind=4∨x.kind=5∨x.kind=6:=by omega
   all_goals
    have R:=And.intro @hk (And.intro @bg @J)
    repeat' ((first
     |(with_reducible refine .guard (fun hb =>?_) (fun hb =>?_) <;>try simp only[hb])
     |refine U.aW (by decide +kernel) rfl fun K hK =>?_
     |refine .flat _ (yp _) rfl ?_
     |refine .flat _ (Ns _) rfl ?_
     |refine .flat _ (Nt _) rfl ?_
     |refine .flat _ (lM _ _ _) rfl ?_
     |refine .flat _ (yz _) rfl ?_
     |refine .flat _ (tP _) rfl ?_
     |(refine U.tk (gs:=u4) [] [(1,[1]),(3,[3]),(23,[1]),(25,[3]),(26,[3])] [0,1,2,3,4,5] (by decide +kernel) (eZ.of (by simp[o6,aV,IZ,I.only])) fun K hK =>?_;simp only[pC,u4,List.getD_cons_zero,List.getD_cons_succ,R,simprocAttr])
     |(refine U.tk (gs:=u5) [] [(1,[1]),(3,[3]),(55,[1]),(57,[1]),(59,[1]),(61,[3]),(62,[3]),(63,[3])] [0,1,2,3,4,5,6,7,8,9,10,11] (by decide +kernel) (eZ.of (by simp[o6,aV,IZ,I.only])) fun K hK =>?_;simp only[pC,u5,List.getD_cons_zero,List.getD_cons_succ,R,simprocAttr])
     |(refine .aO [0,1,2,3,4,20,21,53,87,98,110,122] hK ?_;clear hK K)
     |(with_reducible refine .done (hK _ ?_);clear hK K)
     |refine U.of rfl ?_
     |(with_reducible refine ar.aU (fun h =>?_) (fun h =>?_) <;>try simp only[h])) <;>try simp only[aX,R,simprocAttr])
    all_goals clear R
   all_goals
    refine aE.bP ?_ ?_ ?_ ?_ <;>simp[*,aT,bJ,bI,bd,al,aV,cw,I.only,ah.only,bt,oW,jt,ph]
  ·have R:=And.intro @bg @J
   repeat' ((first
    |(with_reducible refine .guard (fun hb =>?_) (fun hb =>?_) <;>try simp only[hb])
    |refine U.aW (by decide +kernel) rfl fun K hK =>?_
    |refine .flat _ (yp _) rfl ?_
    |refine .flat _ (tP _) rfl ?_
    |(refine .aO [0,1,2,3,4,20,21,53,87,98,110,122] hK ?_;clear hK K)
    |(with_reducible refine .done (hK _ ?_);clear hK K)
    |refine U.of rfl ?_
    |(with_reducible refine ar.aU (fun h =>?_) (fun h =>?_) <;>try simp only[h])) <;>try simp only[aX,R,simprocAttr])
   all_goals clear R
   all_goals simp[ij, *]
 ·have h0:(x.kind==0)=false:=by simp;omega
  have h1:(x.kind==1)=false:=by simp;omega
  have h2:(x.kind==2)=false:=by simp;omega
  have h3:(x.kind==3)=false:=by simp;omega
  have h4:(x.kind==4)=false:=by simp;omega
  have h5:(x.kind==5)=false:=by simp;omega
  have h6:(x.kind==6)=false:=by simp;omega
  have R:=And.intro @h0 (And.intro @h1 (And.intro @h2 (And.intro @h3 (And.intro @h4 (And.intro @h5 (And.intro @h6 (And.intro @bg @J)))))))
  repeat' ((first
   |(with_reducible refine .guard (fun hb =>?_) (fun hb =>?_) <;>try simp only[hb])
   |refine U.aW (by decide +kernel) rfl fun K hK =>?_
   |(refine .aO [0,1,2,3,4,20,21,53,87,98,110,122] hK ?_;clear hK K)
   |(with_reducible refine .done (hK _ ?_);clear hK K)
   |refine U.of rfl ?_
   |(with_reducible refine ar.aU (fun h =>?_) (fun h =>?_) <;>try simp only[h])) <;>try simp only[aX,R,simprocAttr])
  all_goals clear R
  simp at h0 h1 h2 h3 h4 h5 h6
  simp[ij,oW, *]
def gJ:ay:=ph ⟨0,0⟩ 0 0 0 0
theorem rT:I.agg [.agg [.int .i64 0,.int .i64 0],.int .i64 0,.int .i64 0,.int .i64 0,.int .i64 0,.int .i64 0,.int .i64 0,.int .i64 0,.agg [.int .i64 0,.int .i64 0,.int .i64 0,.int .i64 0,.int .i64 0,.int .i64 0],.agg [.int .i64 0,.int .i64 0]]=enc gJ:=rfl
theorem wO(p:Nat→Bool)(l:List ay):(I.agg (l.map enc)).only p=true:=by simp only[I.only];exact eh p l
def kG(k:Nat)(l:List ay)(m:Nat):List (Nat×ah):=[(k,.box (.agg ((l++List.replicate m gJ).map enc)))]
def Bv(l:List ay):cS:=fun r os'=>(l=[]∧(r=.nils 17∨r=.c0 17)∧os'=[])∨(l≠[]∧∃ m,r=.view 7 [] 17 0 l.length∧os'=kG 7 l m)
theorem Nj(l:List ay)(hl:l.length≤1000):cD Tryz.prog 136 [enc l] [] (Bv l):=by
 refine cD.bu Tryz.func136 PZ RH TF (Nat.le_of_ble_eq_true rfl) (Nat.le_of_ble_eq_true rfl) (fun m hm=>by simp[al,aj] at hm) (fun hwf W0 D0 E1 =>?_)
 simp only[zJ,Kr,bp]
 refine .ak (by decide +kernel) fun K hK =>?_
 simp only[Dw,J]
 refine .done (hK _ ?_);clear hK K
 refine U.seq (U.seq ?_)
 by_cases hn:l=[]
 ·subst hn
  refine .bj (by decide +kernel) fun K hK =>?_
  simp only[vm,J,Nat.reduceEqDiff,reduceIte]
  simp only[tF,List.isEmpty_nil,pt]
  refine .any rfl fun b _ =>?_
  try simp only[J]
  generalize (b==0)=t
  cases t
  ·refine .done (hK _ ?_);clear hK K;try simp only[ao]
   refine U.bD ?_
   simp only[ar,J,Nat.reduceEqDiff,reduceIte]
   refine ⟨fun h =>?_,fun h =>?_⟩
   ·cases h
   refine U.skip ?_;try simp only[ao]
   refine .ak (by decide +kernel) fun K hK =>?_
   simp only[vn,J]
   try simp only[eB,rT,J,Nat.reduceEqDiff,reduceIte]
   refine .done (hK _ ?_);clear hK K
   refine U.ret ?_
   simp only[fF]
   exact ⟨[],[.c0 17],qj,⟨⟨.c0 17,rfl,.inl ⟨rfl,rfl,rfl⟩⟩,trivial⟩,.inl ⟨rfl,.inr rfl,rfl⟩⟩
  ·refine .done (hK _ ?_);clear hK K
   refine U.bD ?_
   simp only[ar,J,Nat.reduceEqDiff,reduceIte]
   refine ⟨fun h =>?_,fun h =>?_⟩
   ·refine .ak (by decide +kernel) fun K hK =>?_
    simp only[Dy,J]
    refine .done (hK _ ?_);clear hK K
    refine U.ret ?_
    simp only[ao,fF]
    exact ⟨[],[.nils 17],qj,⟨⟨.nils 17,rfl,.inl ⟨rfl,rfl,rfl⟩⟩,trivial⟩,.inl ⟨rfl,.inl rfl,rfl⟩⟩
   ·cases h
 ·have hu:jL (enc l)=false:=by rw[tF];simpa using hn
  refine .bj (by decide +kernel) fun K hK =>?_
  simp only[vm,J,Nat.reduceEqDiff,reduceIte]
  try simp only[hu,Jg _ l hn,J]
  refine .done (hK _ ?_);clear hK K;try simp only[ao]
  refine U.bD ?_
  simp only[ar,J,Nat.reduceEqDiff,reduceIte]
  refine ⟨fun h =>?_,fun h =>?_⟩
  ·cases h
  refine U.skip ?_;try simp only[ao]
  refine .ak (by decide +kernel) fun K hK =>?_
  simp only[vn,J]
  try simp only[eB,rT,J,Nat.reduceEqDiff,reduceIte]
  refine a7.y0 gJ rfl hn rfl (by omega) (by simp only[maxLen];omega) fun m =>?_
  try simp only[J,Nat.reduceEqDiff,reduceIte]
  refine .done (hK _ ?_);clear hK K
  refine U.ret ?_
  simp only[fF]
  exact ⟨kG 7 l m,[.view 7 [] 17 0 l.length],mS rfl (fun p=>wO p _),⟨⟨_,rfl,.inl ⟨rfl,rfl,rfl⟩⟩,trivial⟩,.inr ⟨hn,m,rfl,rfl⟩⟩
def Iz(l:List ay)(i:Nat)(g:ay):List ay:=l.take i++g::l.drop i
theorem aia(l:List ay)(i k:Nat)(g:ay)(h:i<l.length)(hk:1≤k)(xs:List ay)(hx:xs=l++List.replicate k gJ)(ys:List ay)(hy:ys=xs.take (i+1)++(((xs.drop i).take (l.length+1-i)).take (l.length-i)++xs.drop (i+1+(l.length-i)))) :
  ys.take i++([g].take 1++ys.drop (i+1))=Iz l i g++List.replicate (k-1) gJ:=by
 have e1:((xs.drop i).take (l.length+1-i)).take (l.length-i)=l.drop i:=by
  rw[List.take_take,Nat.min_eq_left (by omega),hx,List.drop_append_of_le_length (by omega),List.take_append_of_le_length (by rw[List.length_drop];omega),List.take_of_length_le (by rw[List.length_drop];omega)]
 have e2:xs.drop (i+1+(l.length-i))=List.replicate (k-1) gJ:=by
  rw[hx,List.drop_append,List.drop_eq_nil_of_le (by omega),List.nil_append,List.drop_replicate]
  congr 1;omega
 have hl:(xs.take (i+1)).length=i+1:=by rw[List.length_take,hx,List.length_append];omega
 have e3:ys.take i=l.take i:=by
  rw[hy,List.take_append_of_le_length (by omega),List.take_take,Nat.min_eq_left (by omega),hx,List.take_append_of_le_length (by omega)]
 have e4:ys.drop (i+1)=l.drop i++List.replicate (k-1) gJ:=by
  rw[hy,e1,e2]
  exact List.drop_left' hl
 rw[e3,e4]
 simp[Iz]
def eQ(l:List ay)(i:Nat):List ay:=l.take i++l.drop (i+1)
theorem BH{l:List ay}{i:Nat}(h:i<l.length):(eQ l i).length=l.length-1:=by
 simp only[eQ,List.length_append,List.length_take,List.length_drop];omega
def BF(l:List ay)(i:Nat):cS:=fun r os'=>∃ q,r=.view 1000000 [] 17 0 (l.length-1)∧os'=kG 1000000 (eQ l i) q
theorem aea(l:List ay)(i k:Nat)(h:i+1<l.length)(xs:List ay)(hx:xs=l++List.replicate k gJ)(a:List ay)(ha:a=xs.take i++(l.drop (i+1)++xs.drop (i+(l.drop (i+1)).length))) :
  a.take (l.length-1)++(List.replicate 1 gJ++a.drop (l.length-1+1))=eQ l i++List.replicate (k+1) gJ:=by
 have e1:xs.take i=l.take i:=by rw[hx,List.take_append_of_le_length (by omega)]
 have e0:i+(l.drop (i+1)).length=l.length-1:=by rw[List.length_drop];omega
 have e2:a=eQ l i++xs.drop (l.length-1):=by rw[ha,e1,e0,eQ,List.append_assoc]
 have hl:=BH (l:=l) (i:=i) (by omega)
 have e3:a.take (l.length-1)=eQ l i:=by rw[e2,←hl,List.take_left]
 have e4:a.drop (l.length-1+1)=List.replicate k gJ:=by
  rw[e2,List.drop_append,hl,List.drop_eq_nil_of_le (by omega),List.nil_append,List.drop_drop]
  have:l.length-1+(l.length-1+1-(l.length-1))=l.length:=by omega
  rw[this,hx,List.drop_left]
 rw[e3,e4,List.replicate_append_replicate,Nat.add_comm 1 k]
theorem aeb(l:List ay)(k:Nat)(i:Nat)(h:i+1=l.length)(xs:List ay)(hx:xs=l++List.replicate k gJ):xs.take (l.length-1)++(List.replicate 1 gJ++xs.drop (l.length-1+1))=eQ l i++List.replicate (k+1) gJ:=by
 have e1:l.length-1=i:=by omega
 have e2:xs.drop (l.length-1+1)=List.replicate k gJ:=by rw[show l.length-1+1=l.length by omega,hx,List.drop_left]
 have e3:xs.take (l.length-1)=eQ l i:=by
  rw[e1,hx,List.take_append_of_le_length (by omega),eQ,List.drop_eq_nil_of_le (by omega),List.append_nil]
 rw[e2,e3,List.replicate_append_replicate,Nat.add_comm 1 k]
theorem Ni(l:List ay)(i:Nat)(k:Nat)(hi:i<l.length)(hlen:l.length≤1000) :
  cD Tryz.prog 135 [.view 1000000 [] 17 0 l.length,enc (i:Int),enc ((i+1:Nat):Int)] (kG 1000000 l k) (BF l i):=by
 refine cD.bu Tryz.func135 PY RG TE (Nat.le_of_ble_eq_true rfl) (Nat.le_of_ble_eq_true rfl) (fun m hm=>by rw[df.1 hm];exact Nat.le_refl _) (fun hwf W0 D0 E1 =>?_)
 simp only[zI,Kq,bp,Nat.zero_add,Nat.reduceAdd]
 simp only[kG]
 obtain ⟨xs,hxs⟩:∃ xs,xs=l++List.replicate k gJ:=⟨_,rfl⟩
 have hxl:xs.length=l.length+k:=by rw[hxs];simp
 have htot:(xs.map (enc (α:=ay))).length=l.length+k:=by rw[List.length_map];exact hxl
 rw[←hxs]
 have hA:∀ ts,(au ts [(1000000,.box (.agg (xs.map (enc (α:=ay)))))]).o 1000000=some (.box (.agg (xs.map enc))):=fun _=>rfl
 refine .ak (by decide +kernel) fun K hK =>?_
 simp only[Ds,J]
 refine .done (hK _ ?_);clear hK K
 refine .ak (by decide +kernel) fun K hK =>?_
 simp only[Dt,J,Nat.reduceEqDiff,reduceIte]
 try simp only[eB,htot,Option.map_some,ahf (show i≤i+1 by omega) (show i+1≤l.length by omega) (show l.length≤l.length+k by omega),J,Nat.reduceEqDiff,reduceIte]
 refine .done (hK _ ?_);clear hK K
 refine U.seq (U.seq ?_)
 refine .bj (by decide +kernel) fun K hK =>?_
 simp only[Du,J,Nat.reduceEqDiff,reduceIte]
 try simp only[cC,bK,kB,cT,J,Nat.reduceEqDiff,reduceIte,Int.reduceBNe,Int.reduceBEq]
 refine .done (hK _ ?_);clear hK K;try simp only[ao]
 refine U.bD ?_
 simp only[ar,J,Nat.reduceEqDiff,reduceIte]
 refine ⟨fun h =>?_,fun h =>?_⟩
 ·exfalso
  have:(i:Int)=((i+1:Nat):Int):=by simpa using h
  omega
 refine U.skip ?_;try simp only[ao]
 refine .ak (by decide +kernel) fun K hK =>?_
 simp only[Dv,J,Nat.reduceEqDiff,reduceIte]
 try simp only[eB,J,Nat.reduceEqDiff,reduceIte]
 refine .done (hK _ ?_);clear hK K
 by_cases hl1:i+1<l.length
 ·have hd:(xs.drop (i+1)).take (l.length-(i+1))=l.drop (i+1):=by
   rw[hxs,List.drop_append_of_le_length (by omega),List.take_append_of_le_length (by rw[List.length_drop];omega),List.take_of_length_le (by rw[List.length_drop];omega)]
  have hdl:i+(l.drop (i+1)).length=l.length-1:=by rw[List.length_drop];omega
  obtain ⟨b,hb⟩:∃ b,b=xs.take i++(l.drop (i+1)++xs.drop (i+(l.drop (i+1)).length)):=⟨_,rfl⟩
  have hbl:b.length=l.length+k:=by rw[hb];simp;omega
  have hcont:=aea l i k hl1 xs hxs b hb
  refine .ak (by decide +kernel) fun K hK =>?_
  simp only[vj,J,Nat.reduceEqDiff,reduceIte]
  try simp only[eB,htot,Option.map_none,Option.map_some,x0 (show i≤l.length+k by omega) (show 0<l.length+k by omega),x4 (show i+1≤l.length by omega) (show l.length≤l.length+k by omega) (show i+1<l.length+k by omega),J,Nat.reduceEqDiff,reduceIte]
  rw[OS (esz:=17) (xs:=xs) (ys:=l.drop (i+1)) _ _ (by rw[tz (xs:=xs) (hA _) (by omega),hd]) (by simp;omega) (hA _) (by rw[List.length_drop];omega)]
  rw[←hb,hdl]
  try simp only[J,Nat.reduceEqDiff,reduceIte]
  refine .done (hK _ ?_);clear hK K
  have htb:(b.map (enc (α:=ay))).length=l.length+k:=by rw[List.length_map];exact hbl
  have hB:∀ ts os,(au ts ((1000000,.box (.agg (b.map (enc (α:=ay)))))::os)).o 1000000=some (.box (.agg (b.map enc))):=fun _ _=>rfl
  refine .ak (by decide +kernel) fun K hK =>?_
  simp only[vk,J,Nat.reduceEqDiff,reduceIte]
  try simp only[eB,htb,Option.map_none,Option.map_some,rT,J,Nat.reduceEqDiff,reduceIte]
  rw[Mm (show l.length-1≤l.length by omega) (show l.length≤l.length+k by omega) (by omega)]
  try simp only[eB,J,Nat.reduceEqDiff,reduceIte]
  rw[uB (xs:=b) gJ (hB _ _) (by omega)]
  have hone:l.length-(l.length-1)=1:=by omega
  try simp only[hone,hcont,J]
  refine .done (hK _ ?_);clear hK K
  refine .ak (by decide +kernel) fun K hK =>?_
  simp only[vl,J,Nat.reduceEqDiff,reduceIte]
  refine .done (hK _ ?_);clear hK K
  refine U.ret ?_
  simp only[fF]
  exact ⟨kG 1000000 (eQ l i) (k+1),[.view 1000000 [] 17 0 (l.length-1)],mS rfl (fun p=>wO p _),⟨⟨_,rfl,.inl ⟨rfl,rfl,rfl⟩⟩,trivial⟩,k+1,rfl,rfl⟩
 ·have hie:i+1=l.length:=by omega
  obtain ⟨b,hb⟩:∃ b,b=xs:=⟨_,rfl⟩
  have hbl:b.length=l.length+k:=by rw[hb];exact hxl
  have hcont:=aeb l k i hie xs hxs
  rw[←hb] at hcont
  have hi1:i=l.length-1:=by omega
  obtain ⟨y,hy⟩:=ahe (n:=1000000) (p:=[]) (sz:=17) (show i+1≤l.length by omega) (show l.length≤l.length+k by omega)
  have hye:∀ ts,en (au ts [(1000000,.box (.agg (xs.map (enc (α:=ay)))))]) 17 y=some []:=fun ts=>by
   by_cases hk:k=0
   ·have:gS 1000000 [] 17 0 l.length (l.length+k) (some (.int .i64 ((i+1:Nat):Int))) none none=some (.c0 17):=by
     simp only[gS,hJ]
     rw[if_pos ⟨by omega,by omega,by omega⟩,if_pos (by omega)]
    rw[this] at hy;cases hy;rfl
   ·rw[x4 (show i+1≤l.length by omega) (show l.length≤l.length+k by omega) (by omega)] at hy
    cases hy
    rw[tz (xs:=xs) (hA _) (by omega),hie]
    simp
  refine .ak (by decide +kernel) fun K hK =>?_
  simp only[vj,J,Nat.reduceEqDiff,reduceIte]
  try simp only[eB,htot,Option.map_none,Option.map_some,x0 (show i≤l.length+k by omega) (show 0<l.length+k by omega),hy,J,Nat.reduceEqDiff,reduceIte]
  rw[OR (esz:=17) (xs:=xs) _ _ (hye _) (hA _) (by omega)]
  rw[hi1,←hb]
  try simp only[J,Nat.reduceEqDiff,reduceIte]
  refine .done (hK _ ?_);clear hK K
  have htb:(b.map (enc (α:=ay))).length=l.length+k:=by rw[List.length_map];exact hbl
  have hB:∀ ts os,(au ts ((1000000,.box (.agg (b.map (enc (α:=ay)))))::os)).o 1000000=some (.box (.agg (b.map enc))):=fun _ _=>rfl
  refine .ak (by decide +kernel) fun K hK =>?_
  simp only[vk,J,Nat.reduceEqDiff,reduceIte]
  try simp only[eB,htb,Option.map_none,Option.map_some,rT,J,Nat.reduceEqDiff,reduceIte]
  rw[Mm (show l.length-1≤l.length by omega) (show l.length≤l.length+k by omega) (by omega)]
  try simp only[eB,J,Nat.reduceEqDiff,reduceIte]
  rw[uB (xs:=b) gJ (hB _ _) (by omega)]
  have hone:l.length-(l.length-1)=1:=by omega
  try simp only[hone,hcont,J]
  refine .done (hK _ ?_);clear hK K
  refine .ak (by decide +kernel) fun K hK =>?_
  simp only[vl,J,Nat.reduceEqDiff,reduceIte]
  refine .done (hK _ ?_);clear hK K
  refine U.ret ?_
  simp only[fF]
  exact ⟨kG 1000000 (eQ l i) (k+1),[.view 1000000 [] 17 0 (l.length-1)],mS rfl (fun p=>wO p _),⟨⟨_,rfl,.inl ⟨rfl,rfl,rfl⟩⟩,trivial⟩,k+1,rfl,rfl⟩
def ed(b:aQ)(s:I):I:=.agg [.agg [.int .i64 b.no,.int .i64 b.dp,.int .i64 b.eP,.int .i64 b.bN,.int .i64 b.ju,.int .i64 b.born,.int .i64 b.dJ,.bool b.found,s]]
structure eD where
 b:aQ
instance:Enc eD where
 enc x:=.agg [enc x.b]
 sz:=9
 aJ:=.dZ [.dZ [.one,.one,.one,.one,.one,.one,.one,.one,.one]]
 fQ:=true
 done e:=by simp only[I.done,I.eR,Enc.done,Bool.and_self]
 size e:=by simp only[I.size,I.sizes,fX,BV]
 j8 e:=by simp only[I.aJ,I.cQ,eH];rfl
 agg _:=rfl
def eM(B:Nat):Nat→List aQ→List (Nat×ah)
 |_,[]=>[]
 |i,b::bs=>(B+2+2*i,.box (ed b (.own (B+3+2*i) b.cg.length)))::(B+3+2*i,.bS 66 6 (b.cg.map enc))::eM B (i+1) bs
def ea(B n:Nat):List I:=(List.range n).map fun i=>.ptr (B+2+2*i) []
def dc(bs:List aQ):List I:=(bs.map (·.no)).map enc
def cq(B:Nat)(bs:List aQ):List (Nat×ah):=(B,.box (.agg [.mref (B+1)]))::(B+1,.cu (dc bs) (ea B bs.length))::eM B 0 bs
theorem sw(B:Nat):∀ (bs:List aQ) (i n:Nat),n<B+2+2*i→aj (eM B i bs) n=none
 | [],_,_,_=>rfl
 |b::bs,i,n,h=>by
  simp only[eM,aj]
  rw[if_neg (by omega),if_neg (by omega)]
  exact sw B bs (i+1) n (by omega)
theorem su(B:Nat):∀ (bs:List aQ) (i n:Nat),B+2+2*(i+bs.length)≤n→aj (eM B i bs) n=none
 | [],_,_,_=>rfl
 |b::bs,i,n,h=>by
  simp only[List.length_cons] at h
  simp only[eM,aj]
  rw[if_neg (by omega),if_neg (by omega)]
  exact su B bs (i+1) n (by omega)
theorem sv(B:Nat):∀ (bs:List aQ) (i k:Nat) (h:k<bs.length),aj (eM B i bs) (B+2+2*(i+k))=some (.box (ed bs[k] (.own (B+3+2*(i+k)) (bs[k]).cg.length)))
 | [],_,_,h=>by simp at h
 |b::bs,i,0,_=>by simp[eM,aj]
 |b::bs,i,k+1,h=>by
  simp only[eM,aj]
  rw[if_neg (by omega),if_neg (by omega)]
  have:=sv B bs (i+1) k (by simpa using h)
  rw[show i+1+k=i+(k+1) by omega] at this
  exact this
theorem sx(B:Nat):∀ (bs:List aQ) (i k:Nat) (h:k<bs.length),aj (eM B i bs) (B+3+2*(i+k))=some (.bS 66 6 ((bs[k]).cg.map enc))
 | [],_,_,h=>by simp at h
 |b::bs,i,0,_=>by
  simp only[eM,aj]
  rw[if_neg (by omega),if_pos (by omega)];rfl
 |b::bs,i,k+1,h=>by
  simp only[eM,aj]
  rw[if_neg (by omega),if_neg (by omega)]
  have:=sx B bs (i+1) k (by simpa using h)
  rw[show i+1+k=i+(k+1) by omega] at this
  exact this
theorem sN(B n m:Nat):n<B∨n=B∨n=B+1∨(∃ k,k<m∧n=B+2+2*k)∨(∃ k,k<m∧n=B+3+2*k)∨B+2+2*m≤n:=by
 by_cases h1:n<B
 ·exact .inl h1
 by_cases h2:n=B
 ·exact .inr (.inl h2)
 by_cases h3:n=B+1
 ·exact .inr (.inr (.inl h3))
 by_cases h4:B+2+2*m≤n
 ·exact .inr (.inr (.inr (.inr (.inr h4))))
 rcases Nat.mod_two_eq_zero_or_one (n-B) with h5 | h5
 ·exact .inr (.inr (.inr (.inl ⟨(n-B-2) / 2,by omega,by omega⟩)))
 ·exact .inr (.inr (.inr (.inr (.inl ⟨(n-B-3) / 2,by omega,by omega⟩))))
section
variable {B:Nat} {bs:List aQ}
theorem jV{n:Nat}(h:n<B):aj (cq B bs) n=none:=by
 simp only[cq,aj]
 rw[if_neg (by omega),if_neg (by omega)]
 exact sw B bs 0 n (by omega)
theorem sk{n:Nat}(h:B+2+2*bs.length≤n):aj (cq B bs) n=none:=by
 simp only[cq,aj]
 rw[if_neg (by omega),if_neg (by omega)]
 exact su B bs 0 n (by omega)
theorem jU:aj (cq B bs) B=some (.box (.agg [.mref (B+1)])):=by simp[cq,aj]
theorem ky:aj (cq B bs) (B+1)=some (.cu (dc bs) (ea B bs.length)):=by simp[cq,aj]
theorem l6{k:Nat}(h:k<bs.length):aj (cq B bs) (B+2+2*k)=some (.box (ed bs[k] (.own (B+3+2*k) (bs[k]).cg.length))):=by
 simp only[cq,aj]
 rw[if_neg (by omega),if_neg (by omega)]
 have:=sv B bs 0 k h
 rwa [Nat.zero_add] at this
theorem ln{k:Nat}(h:k<bs.length):aj (cq B bs) (B+3+2*k)=some (.bS 66 6 ((bs[k]).cg.map enc)):=by
 simp only[cq,aj]
 rw[if_neg (by omega),if_neg (by omega)]
 have:=sx B bs 0 k h
 rwa [Nat.zero_add] at this
theorem mX{n:Nat} : al (cq B bs) n=decide (B≤n∧n<B+2+2*bs.length):=by
 rcases sN B n bs.length with h | h | h | ⟨k,hk,h⟩ | ⟨k,hk,h⟩ | h
 ·simp only[al,jV h];simp;omega
 ·subst h;simp only[al,jU];simp;omega
 ·subst h;simp only[al,ky];simp;omega
 ·subst h;simp only[al,l6 hk];simp;omega
 ·subst h;simp only[al,ln hk];simp;omega
 ·simp only[al,sk h];simp;omega
theorem xr(p:Nat→Bool){n:Nat}(h:∀ i,i<n→p (B+2+2*i)=true):I.bV p (ea B n)=true:=by
 unfold ea
 induction n with
 |zero=>rfl
 |succ n ih =>
  rw[List.range_succ,List.map_append,gw,ih fun i hi=>h i (by omega)]
  simp[I.bV,I.only,h n (by omega)]
theorem ff{n:Nat}{x:ah}(h:aj (cq B bs) n=some x):x.only (al (cq B bs))=true∧x.eL=true:=by
 rcases sN B n bs.length with h2 | h2 | h2 | ⟨k,hk,h2⟩ | ⟨k,hk,h2⟩ | h2
 ·rw[jV h2] at h;cases h
 ·subst h2;rw[jU] at h;cases h
  simp[ah.only,I.only,I.bV,mX,ah.eL];omega
 ·subst h2;rw[ky] at h;cases h
  refine ⟨?_,rfl⟩
  simp only[ah.only,Bool.and_eq_true]
  exact ⟨eh _ _,xr _ fun i hi=>by rw[mX];simp;omega⟩
 ·subst h2;rw[l6 hk] at h;cases h
  simp[ah.only,I.only,I.bV,mX,ah.eL,ed];omega
 ·subst h2;rw[ln hk] at h;cases h
  exact ⟨eh _ _,rfl⟩
 ·rw[sk h2] at h;cases h
theorem Is{i:Nat}(hi:i<bs.length)(b:aQ)(hno:b.no=(bs[i]).no)(n:Nat):aj (cq B (bs.set i b)) n =
  if n=B+2+2*i then some (.box (ed b (.own (B+3+2*i) b.cg.length))) else if n=B+3+2*i then some (.bS 66 6 (b.cg.map enc)) else aj (cq B bs) n:=by
 have hl:(bs.set i b).length=bs.length:=List.length_set
 have hnos:dc (bs.set i b)=dc bs:=by
  simp only[dc,List.map_set,hno]
  congr 1
  exact List.ext_getElem (by simp) fun j h1 h2=>by
   simp only[List.getElem_set,List.getElem_map]
   split
   ·rename_i e;subst e;rfl
   ·rfl
 rcases sN B n bs.length with h2 | h2 | h2 | ⟨k,hk,h2⟩ | ⟨k,hk,h2⟩ | h2
 ·rw[jV h2,jV h2,if_neg (by omega),if_neg (by omega)]
 ·subst h2;rw[jU,jU,if_neg (by omega),if_neg (by omega)]
 ·subst h2;rw[ky,ky,hl,hnos,if_neg (by omega),if_neg (by omega)]
 ·subst h2
  rw[l6 (by omega),l6 hk]
  by_cases e:k=i
  ·subst e;simp
  ·rw[if_neg (by omega),if_neg (by omega)]
   simp[Ne.symm e]
 ·subst h2
  rw[ln (by omega),ln hk]
  by_cases e:k=i
  ·subst e
   rw[if_neg (by omega),if_pos rfl]
   simp
  ·rw[if_neg (by omega),if_neg (by omega)]
   simp[Ne.symm e]
 ·rw[sk (by omega),sk h2,if_neg (by omega),if_neg (by omega)]
end
theorem J3{B n i:Nat}(h:i<n):(ea B n)[i]?=some (.ptr (B+2+2*i) []):=by simp[ea,h]
theorem uR(a b:Int):cn (.i .i64) (enc a) (enc b)=some (decide (a=b)):=BY a b
theorem vS{bs:List aQ}{no:Int} : match (bs.map (·.no)).findIdx? fun x=>decide (no=x) with
  |some i=>∃ h:i<bs.length,dw bs no=some bs[i]∧(bs[i]).no=no
  |none=>dw bs no=none:=by
 cases h:(bs.map (·.no)).findIdx? fun x=>decide (no=x) with
 |none =>
  rw[List.findIdx?_eq_none_iff] at h
  simp only
  rw[If]
  intro hm
  have:=h no hm
  simp at this
 |some i =>
  obtain ⟨h1,h2,h3⟩:=List.findIdx?_eq_some_iff_getElem.1 h
  have hi:i<bs.length:=by simpa using h1
  have hno:(bs[i]).no=no:=by simpa using (of_decide_eq_true h2).symm
  refine ⟨hi,?_,hno⟩
  simp only[dw,List.find?_eq_some_iff_getElem]
  refine ⟨by simpa using hno,i,hi,rfl,fun j hj =>?_⟩
  have:=h3 j hj
  simp at this
  simpa using fun e=>this e.symm
theorem pb(B:Nat)(bs:List aQ)(no:Int):(dw bs no=none∧fY (.i .i64) .nilp (.int .i64 no) (dc bs) (ea B bs.length)=some (.nilp,false)) ∨
  ∃ i,∃ h:i<bs.length,dw bs no=some bs[i]∧(bs[i]).no=no∧fY (.i .i64) .nilp (.int .i64 no) (dc bs) (ea B bs.length)=some (.ptr (B+2+2*i) [],true):=by
 have h1:=vS (bs:=bs) (no:=no)
 have h2:=wD uR .nilp no (bs.map (·.no)) (ea B bs.length)
 rw[iZ] at h2
 unfold dc
 cases h:(bs.map (·.no)).findIdx? fun x=>decide (no=x) with
 |none=>rw[h] at h1 h2;exact .inl ⟨h1,h2⟩
 |some i =>
  rw[h] at h1 h2
  obtain ⟨hi,g1,g2⟩:=h1
  refine .inr ⟨i,hi,g1,g2,?_⟩
  rw[h2];simp only[J3 hi,Option.map_some]
theorem ag5{bs:List aQ}(hd:(bs.map (·.no)).Nodup){i:Nat}(hi:i<bs.length){b:aQ}(hno:b.no=(bs[i]).no):lI bs b=bs.set i b:=by
 refine List.ext_getElem (by simp[lI]) fun j h1 h2 =>?_
 simp only[lI,List.getElem_map,List.getElem_set]
 have hj:j<bs.length:=by simpa using h2
 by_cases e:i=j
 ·subst e;rw[if_pos hno.symm,if_pos rfl]
 ·rw[if_neg e,if_neg]
  intro he
  have he:=he.trans hno
  have:=(List.getElem_inj (h₀:=by simpa using hj) (h₁:=by simpa using hi) hd).1 (by simpa using he)
  exact e this.symm
theorem B8(x:eD):(enc x).dj=some [enc x.b]:=rfl
theorem B9(b:aQ)(s:I):(ed b s).dj=some [.agg [.int .i64 b.no,.int .i64 b.dp,.int .i64 b.eP,.int .i64 b.bN,.int .i64 b.ju,.int .i64 b.born,.int .i64 b.dJ,.bool b.found,s]]:=rfl
theorem Bu(b:aQ)(n k:Nat):(ed b (.own n k)).bl=false:=by simp[ed,I.bl,I.bT]
theorem lZ{A:ab}{m n:Nat}{b:aQ}(ho:A.o n=some (.bS 66 6 (b.cg.map enc))):dU A (m+3) (ed b (.own n b.cg.length))=some (enc (⟨b⟩:eD)):=by
 have h1:dU A (m+1) (.own n b.cg.length)=some (enc b.cg):=by
  simp only[dU,I.bl,Bool.false_eq_true,if_false,ho,List.length_map,kj,and_self,if_true];rfl
 have hi:∀ (k:IntKind) (v:Int),dU A (m+1) (.int k v)=some (.int k v):=fun _ _=>by simp[dU,I.bl]
 have hb:∀ v:Bool,dU A (m+1) (.bool v)=some (.bool v):=fun _=>by simp[dU,I.bl]
 have h2:dU A (m+2) (.agg [.int .i64 b.no,.int .i64 b.dp,.int .i64 b.eP,.int .i64 b.bN,.int .i64 b.ju,.int .i64 b.born,.int .i64 b.dJ,.bool b.found,.own n b.cg.length])=some (enc b):=by
  rw[dU]
  simp only[I.bl,I.bT,Bool.and_false,Bool.and_true,Bool.false_eq_true,if_false,fD,hi,hb,h1,Option.map_some]
  rfl
 rw[ed,dU]
 simp only[I.bl,I.bT,Bool.and_false,Bool.and_true,Bool.false_eq_true,if_false,fD,h2,Option.map_some]
 rfl
theorem Mv :
  (∀ (A:ab) n b s (v u:Int) rest,dS A none n [0,3] (ed b s) (.int .i64 v) rest (some (.int .i64 u))=az rest (A.aL n (.box (ed { b with bN:=v } s)))) ∧
  (∀ (A:ab) n b s (v u:Int) rest,dS A none n [0,6] (ed b s) (.int .i64 v) rest (some (.int .i64 u))=az rest (A.aL n (.box (ed { b with dJ:=v } s)))) ∧
  (∀ (A:ab) n b s (v u:Bool) rest,dS A none n [0,7] (ed b s) (.bool v) rest (some (.bool u))=az rest (A.aL n (.box (ed { b with found:=v } s)))) ∧
  (∀ (A:ab) n b s m k m' k' rest,dS A none n [0,8] (ed b s) (.own m k) rest (some (.own m' k'))=az rest (A.aL n (.box (ed b (.own m k))))) :=
 ⟨fun _ _ _ _ v u _=>by rw[ep (s:=none) (v:=.int .i64 v) (old:=.int .i64 u) rfl rfl rfl];rfl,fun _ _ _ _ v u _=>by rw[ep (s:=none) (v:=.int .i64 v) (old:=.int .i64 u) rfl rfl rfl];rfl,
  fun _ _ _ _ v u _=>by rw[ep (s:=none) (v:=.bool v) (old:=.bool u) rfl rfl rfl];rfl,fun _ _ _ _ m k m' k' _=>by rw[ep (s:=none) (v:=.own m k) (old:=.own m' k') rfl rfl rfl];rfl⟩
theorem gA:(type_of% @B8)∧(type_of% @B9)∧(type_of% @Bu)∧(type_of% @Mv)∧(type_of% @Jo)∧(∀ n:Nat,(n=n)=True)∧(∀ rs post A,nh rs post .ret A=kP rs post A):=⟨B8,B9,Bu,Mv,Jo,fun _=>eq_self _,fF⟩
theorem iV(b:aQ):aB Tryz.prog 90 [.ref (enc (⟨b⟩:eD))] (enc (decide (0≤b.dJ))):=by
 refine aB.bu Tryz.func90 Rc SX UW (Nat.le_of_ble_eq_true rfl) (fun hwf W0 D0 E1 =>?_)
 simp only[A6,LH,bp]
 have R:=And.intro @gA (And.intro @eA (And.intro @bg @J))
 repeat' ((first
  |(with_reducible refine .guard (fun hb =>?_) (fun hb =>?_) <;>try simp only[hb])
  |refine U.aW (by decide +kernel) rfl fun K hK =>?_
  |(refine .aO [0,2] hK ?_;clear hK K)
  |(with_reducible refine .done (hK _ ?_);clear hK K)
  |refine U.of rfl ?_
  |(with_reducible refine ar.aU (fun h =>?_) (fun h =>?_) <;>try simp only[h])) <;>try simp only[aX,R,simprocAttr])
 all_goals clear R
def iE(B d:Nat)(bs:List aQ)(x:ay):cS:=fun r os'=>match eE e8 bs x with
 |none=>r=.bool false∧os'=cq B bs
 |some bs'=>r=.bool true∧os'=if x.kind=1∨x.kind=2 then (B+1,.cu (dc bs') (ea B bs.length++[.ptr d []]))::(d,.box (ed (fE x) (.nils 6)))::cq B bs else cq B bs'
theorem kz{bs:List aQ} : ∀ m,al (cq 1000000 bs) m=true→1000000≤m:=fun m hm=>by rw[mX] at hm;simp at hm;omega
theorem fS{ts:List (Nat×I)}{os os':List (Nat×ah)}{b:Bool}{post:cS}(ht:Abs.cj ts 4=.bool b)(ho:∀ n,al os' n=true→aj os n=aj os' n)(hg:∀ n x,aj os' n=some x→x.only (al os')=true∧x.eL=true)(hp:post (.bool b) os'):kP [.tmp 4] post (au ts os):=by
 refine ⟨os',[.bool b],fun n x hx=>⟨?_,hg n x hx⟩,⟨⟨.bool b,?_,.inl ⟨rfl,rfl,rfl⟩⟩,trivial⟩,hp⟩
 ·show aj os n=some x
  rw[ho n (by simp[al,hx])];exact hx
 ·show some (Abs.cj ts 4)=some _
  rw[ht]
theorem lp{bs:List aQ}{z:ah} : ∀ n,al (cq 1000000 bs) n=true→aj ((3,z)::cq 1000000 bs) n=aj (cq 1000000 bs) n:=fun n h=>by
 have:=kz n h
 simp only[aj];rw[if_neg (by omega)]
theorem wb{bs:List aQ}{i:Nat}(hi:i<bs.length){b:aQ}(hno:b.no=(bs[i]).no)(hs:b.cg=(bs[i]).cg){z:ah}{nl nr:Nat}(hnl:nl=1000000+2+2*i)(hnr:nr=1000000+3+2*i) :
  ∀ n,al (cq 1000000 (bs.set i b)) n=true→aj ((nl,.box (ed b (.own nr (bs[i]).cg.length)))::(3,z)::cq 1000000 bs) n=aj (cq 1000000 (bs.set i b)) n:=fun n h=>by
 have:=kz n h
 rw[Is hi b hno]
 simp only[aj,hs]
 subst hnl hnr
 rw[if_neg (show ¬ n=3 by omega)]
 split
 ·rfl
 ·split
  ·rename_i e;subst e;exact ln hi
  ·rfl
theorem jy{B d:Nat}{bs:List aQ}{x:ay}(h:eE e8 bs x=none):iE B d bs x (.bool false) (cq B bs):=by simp[iE,h]
theorem sn{B d:Nat}{bs:List aQ}{x:ay}(hd:(bs.map (·.no)).Nodup)(hk:¬ (x.kind=1∨x.kind=2)){i:Nat}(hi:i<bs.length)(hg:dw bs x.dY=some bs[i]){b:aQ}(ht:ka bs[i] x=some b)(hno:b.no=(bs[i]).no) :
  iE B d bs x (.bool true) (cq B (bs.set i b)):=by
 have:eE e8 bs x=some (bs.set i b):=by
  simp only[eE,if_neg hk,hg,ht,Option.map_some,ag5 hd hi hno]
 simp only[iE,this,if_neg hk,and_self]
theorem rG{bs:List aQ}{x:ay}(hk:¬ (x.kind=1∨x.kind=2))(hg:dw bs x.dY=none):eE e8 bs x=none:=by
 simp only[eE,if_neg hk,hg]
theorem y6{bs:List aQ}{x:ay}(hk:¬ (x.kind=1∨x.kind=2)){b:aQ}(hg:dw bs x.dY=some b)(ht:ka b x=none):eE e8 bs x=none:=by
 simp only[eE,if_neg hk,hg,ht,Option.map_none]
theorem NI(bs:List aQ)(x:ay)(d:Nat)(hk:x.kind=3)(hd:(bs.map (·.no)).Nodup):cD Tryz.prog 174 [.ptr 1000000 [],enc x] (cq 1000000 bs) (iE 1000000 d bs x):=by
 refine cD.bu Tryz.func174 Qo R7 T7 (Nat.le_of_ble_eq_true rfl) (Nat.le_of_ble_eq_true rfl) kz (fun hwf W0 D0 E1 =>?_)
 simp only[Af,KS,bp,Nat.zero_add]
 clear hwf
 have hk12:¬ (x.kind=1∨x.kind=2):=by omega
 have n3:aj (cq 1000000 bs) 3=none:=jV (by omega)
 have h0:aj (cq 1000000 bs) 1000000=some (.box (.agg [.mref 1000001])):=jU
 have h1:aj (cq 1000000 bs) 1000001=some (.cu (dc bs) (ea 1000000 bs.length)):=ky
 rcases pb 1000000 bs x.dY with ⟨hg,hlk⟩ | ⟨i,hi,hg,hno,hlk⟩
 ·have R:=And.intro @n3 (And.intro @h0 (And.intro @h1 (And.intro @hlk (And.intro @eJ (And.intro @gA (And.intro @eA (And.intro @bg @J)))))))
  repeat' ((first
   |(with_reducible refine .guard (fun hb =>?_) (fun hb =>?_) <;>try simp only[hb])
   |refine U.aW (by decide +kernel) rfl fun K hK =>?_
   |refine .flat _ (iV _) rfl ?_
   |(refine .aO [0,1,3,4,5,36] hK ?_;clear hK K)
   |(with_reducible refine .done (hK _ ?_);clear hK K)
   |refine U.of rfl ?_
   |(with_reducible refine ar.aU (fun h =>?_) (fun h =>?_) <;>try simp only[h])) <;>try simp only[aX,R,simprocAttr])
  all_goals clear R
  exact fS rfl lp (fun n x h=>ff h) (jy (rG hk12 hg))
 ·have hl:=l6 (B:=1000000) hi
  have hr:=ln (B:=1000000) hi
  obtain ⟨nl,hnl⟩:∃ nl,nl=1000000+2+2*i:=⟨_,rfl⟩
  obtain ⟨nr,hnr⟩:∃ nr,nr=1000000+3+2*i:=⟨_,rfl⟩
  rw[←hnl] at hl hlk
  rw[←hnr] at hl hr
  have e1:(nl=3)=False:=by simp;omega
  have e2:(nr=3)=False:=by simp;omega
  have e3:(3=nl)=False:=by simp;omega
  have e4:(nr=nl)=False:=by simp;omega
  have e5:(nl=nr)=False:=by simp;omega
  have e6:(3=nr)=False:=by simp;omega
  have R:=And.intro @n3 (And.intro @h0 (And.intro @h1 (And.intro @hl (And.intro @hr (And.intro @e1 (And.intro @e2 (And.intro @e3 (And.intro @hlk (And.intro @lZ (And.intro @eJ (And.intro @gA (And.intro @eA (And.intro @bg @J)))))))))))))
  repeat' ((first
   |(with_reducible refine .guard (fun hb =>?_) (fun hb =>?_) <;>try simp only[hb])
   |refine U.aW (by decide +kernel) rfl fun K hK =>?_
   |refine .flat _ (iV _) rfl ?_
   |(refine .aO [0,1,3,4,5,36] hK ?_;clear hK K)
   |(with_reducible refine .done (hK _ ?_);clear hK K)
   |refine U.of rfl ?_
   |(with_reducible refine ar.aU (fun h =>?_) (fun h =>?_) <;>try simp only[h])) <;>try simp only[aX,R,simprocAttr])
  all_goals clear R
  all_goals first
   |exact fS rfl lp (fun n x h=>ff h) (jy (y6 hk12 hg (by simp_all[ka])))
   |exact fS rfl (wb hi (b := { bs[i] with bN:=x.bN }) rfl rfl hnl hnr) (fun n x h=>ff h) (sn hd hk12 hi hg (by simp_all[ka]) rfl)
theorem NK(bs:List aQ)(x:ay)(d:Nat)(hk:x.kind=5)(hd:(bs.map (·.no)).Nodup):cD Tryz.prog 176 [.ptr 1000000 [],enc x] (cq 1000000 bs) (iE 1000000 d bs x):=by
 refine cD.bu Tryz.func176 Qq R9 T9 (Nat.le_of_ble_eq_true rfl) (Nat.le_of_ble_eq_true rfl) kz (fun hwf W0 D0 E1 =>?_)
 simp only[Ah,KU,bp,Nat.zero_add]
 clear hwf
 have hk12:¬ (x.kind=1∨x.kind=2):=by omega
 have n3:aj (cq 1000000 bs) 3=none:=jV (by omega)
 have h0:aj (cq 1000000 bs) 1000000=some (.box (.agg [.mref 1000001])):=jU
 have h1:aj (cq 1000000 bs) 1000001=some (.cu (dc bs) (ea 1000000 bs.length)):=ky
 rcases pb 1000000 bs x.dY with ⟨hg,hlk⟩ | ⟨i,hi,hg,hno,hlk⟩
 ·have R:=And.intro @n3 (And.intro @h0 (And.intro @h1 (And.intro @hlk (And.intro @eJ (And.intro @gA (And.intro @eA (And.intro @bg @J)))))))
  repeat' ((first
   |(with_reducible refine .guard (fun hb =>?_) (fun hb =>?_) <;>try simp only[hb])
   |refine U.aW (by decide +kernel) rfl fun K hK =>?_
   |refine .flat _ (iV _) rfl ?_
   |(refine .aO [0,1,3,4,5,14] hK ?_;clear hK K)
   |(with_reducible refine .done (hK _ ?_);clear hK K)
   |refine U.of rfl ?_
   |(with_reducible refine ar.aU (fun h =>?_) (fun h =>?_) <;>try simp only[h])) <;>try simp only[aX,R,simprocAttr])
  all_goals clear R
  exact fS rfl lp (fun n x h=>ff h) (jy (rG hk12 hg))
 ·have hl:=l6 (B:=1000000) hi
  have hr:=ln (B:=1000000) hi
  obtain ⟨nl,hnl⟩:∃ nl,nl=1000000+2+2*i:=⟨_,rfl⟩
  obtain ⟨nr,hnr⟩:∃ nr,nr=1000000+3+2*i:=⟨_,rfl⟩
  rw[←hnl] at hl hlk
  rw[←hnr] at hl hr
  have e1:(nl=3)=False:=by simp;omega
  have e2:(nr=3)=False:=by simp;omega
  have e3:(3=nl)=False:=by simp;omega
  have e4:(nr=nl)=False:=by simp;omega
  have e5:(nl=nr)=False:=by simp;omega
  have e6:(3=nr)=False:=by simp;omega
  have R:=And.intro @n3 (And.intro @h0 (And.intro @h1 (And.intro @hl (And.intro @hr (And.intro @e1 (And.intro @e2 (And.intro @e3 (And.intro @hlk (And.intro @lZ (And.intro @eJ (And.intro @gA (And.intro @eA (And.intro @bg @J)))))))))))))
  repeat' ((first
   |(with_reducible refine .guard (fun hb =>?_) (fun hb =>?_) <;>try simp only[hb])
   |refine U.aW (by decide +kernel) rfl fun K hK =>?_
   |refine .flat _ (iV _) rfl ?_
   |(refine .aO [0,1,3,4,5,14] hK ?_;clear hK K)
   |(with_reducible refine .done (hK _ ?_);clear hK K)
   |refine U.of rfl ?_
   |(with_reducible refine ar.aU (fun h =>?_) (fun h =>?_) <;>try simp only[h])) <;>try simp only[aX,R,simprocAttr])
  all_goals clear R
  refine fS rfl (fun n h =>?_) (fun n x h=>ff h) (sn hd hk12 hi hg (b := { bs[i] with bN:=x.bN,found:=true }) (by simp[ka,hk]) rfl)
  rw[←wb hi (b := { bs[i] with bN:=x.bN,found:=true }) rfl rfl (z:=.box (enc x)) hnl hnr n h]
  simp only[aj]
  split <;>rfl
theorem NL(bs:List aQ)(x:ay)(d:Nat)(hk:x.kind=6)(hd:(bs.map (·.no)).Nodup):cD Tryz.prog 177 [.ptr 1000000 [],enc x] (cq 1000000 bs) (iE 1000000 d bs x):=by
 refine cD.bu Tryz.func177 Qr Sa Ua (Nat.le_of_ble_eq_true rfl) (Nat.le_of_ble_eq_true rfl) kz (fun hwf W0 D0 E1 =>?_)
 simp only[Ai,KV,bp,Nat.zero_add]
 clear hwf
 have hk12:¬ (x.kind=1∨x.kind=2):=by omega
 have n3:aj (cq 1000000 bs) 3=none:=jV (by omega)
 have h0:aj (cq 1000000 bs) 1000000=some (.box (.agg [.mref 1000001])):=jU
 have h1:aj (cq 1000000 bs) 1000001=some (.cu (dc bs) (ea 1000000 bs.length)):=ky
 rcases pb 1000000 bs x.dY with ⟨hg,hlk⟩ | ⟨i,hi,hg,hno,hlk⟩
 ·have R:=And.intro @n3 (And.intro @h0 (And.intro @h1 (And.intro @hlk (And.intro @eJ (And.intro @gA (And.intro @eA (And.intro @bg @J)))))))
  repeat' ((first
   |(with_reducible refine .guard (fun hb =>?_) (fun hb =>?_) <;>try simp only[hb])
   |refine U.aW (by decide +kernel) rfl fun K hK =>?_
   |refine .flat _ (iV _) rfl ?_
   |(refine .aO [0,1,3,4,5,18] hK ?_;clear hK K)
   |(with_reducible refine .done (hK _ ?_);clear hK K)
   |refine U.of rfl ?_
   |(with_reducible refine ar.aU (fun h =>?_) (fun h =>?_) <;>try simp only[h])) <;>try simp only[aX,R,simprocAttr])
  all_goals clear R
  exact fS rfl lp (fun n x h=>ff h) (jy (rG hk12 hg))
 ·have hl:=l6 (B:=1000000) hi
  have hr:=ln (B:=1000000) hi
  obtain ⟨nl,hnl⟩:∃ nl,nl=1000000+2+2*i:=⟨_,rfl⟩
  obtain ⟨nr,hnr⟩:∃ nr,nr=1000000+3+2*i:=⟨_,rfl⟩
  rw[←hnl] at hl hlk
  rw[←hnr] at hl hr
  have e1:(nl=3)=False:=by simp;omega
  have e2:(nr=3)=False:=by simp;omega
  have e3:(3=nl)=False:=by simp;omega
  have e4:(nr=nl)=False:=by simp;omega
  have e5:(nl=nr)=False:=by simp;omega
  have e6:(3=nr)=False:=by simp;omega
  have R:=And.intro @n3 (And.intro @h0 (And.intro @h1 (And.intro @hl (And.intro @hr (And.intro @e1 (And.intro @e2 (And.intro @e3 (And.intro @hlk (And.intro @lZ (And.intro @eJ (And.intro @gA (And.intro @eA (And.intro @bg @J)))))))))))))
  repeat' ((first
   |(with_reducible refine .guard (fun hb =>?_) (fun hb =>?_) <;>try simp only[hb])
   |refine U.aW (by decide +kernel) rfl fun K hK =>?_
   |refine .flat _ (iV _) rfl ?_
   |(refine .aO [0,1,3,4,5,18] hK ?_;clear hK K)
   |(with_reducible refine .done (hK _ ?_);clear hK K)
   |refine U.of rfl ?_
   |(with_reducible refine ar.aU (fun h =>?_) (fun h =>?_) <;>try simp only[h])) <;>try simp only[aX,R,simprocAttr])
  all_goals clear R
  all_goals first
   |exact fS rfl lp (fun n x h=>ff h) (jy (y6 hk12 hg (by simp_all[ka])))
   |exact fS rfl (wb hi (b := { bs[i] with dJ:=x.day }) rfl rfl hnl hnr) (fun n x h=>ff h) (sn hd hk12 hi hg (by simp_all[ka]) rfl)
theorem adx{bs:List aQ}{i:Nat}(hi:i<bs.length){b:aQ}(hno:b.no=(bs[i]).no){z:ah}{nl nr:Nat}(hnl:nl=1000000+2+2*i)(hnr:nr=1000000+3+2*i) :
  ∀ n,al (cq 1000000 (bs.set i b)) n=true→aj ((nl,.box (ed b (.own nr b.cg.length)))::(nr,.bS 66 6 (b.cg.map enc))::(3,z)::cq 1000000 bs) n=aj (cq 1000000 (bs.set i b)) n:=fun n h=>by
 have:=kz n h
 rw[Is hi b hno]
 simp only[aj]
 subst hnl hnr
 rw[if_neg (show ¬ n=3 by omega)]
theorem NJ(bs:List aQ)(x:ay)(d:Nat)(hk:x.kind=4)(hd:(bs.map (·.no)).Nodup)(hlen:∀ b∈bs,b.cg.length≤1000):cD Tryz.prog 175 [.ptr 1000000 [],enc x] (cq 1000000 bs) (iE 1000000 d bs x):=by
 refine cD.bu Tryz.func175 Qp R8 T8 (Nat.le_of_ble_eq_true rfl) (Nat.le_of_ble_eq_true rfl) kz (fun hwf W0 D0 E1 =>?_)
 simp only[Ag,KT,bp,Nat.zero_add]
 clear hwf
 have hk12:¬ (x.kind=1∨x.kind=2):=by omega
 have n3:aj (cq 1000000 bs) 3=none:=jV (by omega)
 have h0:aj (cq 1000000 bs) 1000000=some (.box (.agg [.mref 1000001])):=jU
 have h1:aj (cq 1000000 bs) 1000001=some (.cu (dc bs) (ea 1000000 bs.length)):=ky
 rcases pb 1000000 bs x.dY with ⟨hg,hlk⟩ | ⟨i,hi,hg,hno,hlk⟩
 ·have R:=And.intro @n3 (And.intro @h0 (And.intro @h1 (And.intro @hlk (And.intro @eJ (And.intro @gA (And.intro @eA (And.intro @bg @J)))))))
  repeat' ((first
   |(with_reducible refine .guard (fun hb =>?_) (fun hb =>?_) <;>try simp only[hb])
   |refine U.aW (by decide +kernel) rfl fun K hK =>?_
   |refine .flat _ (iV _) rfl ?_
   |(refine .aO [0,1,3,4,5,14] hK ?_;clear hK K)
   |(with_reducible refine .done (hK _ ?_);clear hK K)
   |refine U.of rfl ?_
   |(with_reducible refine ar.aU (fun h =>?_) (fun h =>?_) <;>try simp only[h])) <;>try simp only[aX,R,simprocAttr])
  all_goals clear R
  exact fS rfl lp (fun n x h=>ff h) (jy (rG hk12 hg))
 ·have hl:=l6 (B:=1000000) hi
  have hr:=ln (B:=1000000) hi
  obtain ⟨nl,hnl⟩:∃ nl,nl=1000000+2+2*i:=⟨_,rfl⟩
  obtain ⟨nr,hnr⟩:∃ nr,nr=1000000+3+2*i:=⟨_,rfl⟩
  rw[←hnl] at hl hlk
  rw[←hnr] at hl hr
  have e1:(nl=3)=False:=by simp;omega
  have e2:(nr=3)=False:=by simp;omega
  have e3:(3=nl)=False:=by simp;omega
  have e4:(nr=nl)=False:=by simp;omega
  have e5:(nl=nr)=False:=by simp;omega
  have e6:(3=nr)=False:=by simp;omega
  have hle:=hlen _ (List.getElem_mem hi)
  have happ:=fun (A:ab) d rest=>nA (α:=aM 6 Int) (A:=A) (d:=d) 66 6 48 nr (l:=(bs[i]).cg.length) (es:=(bs[i]).cg) (ys:=[x.cg]) (rest:=rest) rfl rfl (by simp) (by simp[maxLen];omega) (by simp;omega)
  have hbs:=p5 6 x.cg rfl
  have R:=And.intro @n3 (And.intro @h0 (And.intro @h1 (And.intro @hl (And.intro @hr (And.intro @e1 (And.intro @e2 (And.intro @e3 (And.intro @e4 (And.intro @e5 (And.intro @e6 (And.intro @hlk (And.intro @happ (And.intro @hbs (And.intro @lZ (And.intro @eJ (And.intro @gA (And.intro @eA (And.intro @bg @J))))))))))))))))))
  repeat' ((first
   |(with_reducible refine .guard (fun hb =>?_) (fun hb =>?_) <;>try simp only[hb])
   |refine U.aW (by decide +kernel) rfl fun K hK =>?_
   |(refine U.tk (gs:=vy) [] [] [0,1,2,3,4,5,6,7,8,9,10,11,12,13] (by decide +kernel) (eZ.of (by simp[o6])) fun K hK =>?_;simp only[pC,vy,List.getD_cons_zero,List.getD_cons_succ,R,simprocAttr])
   |(refine .aO [0,1,3,4,5,14] hK ?_;clear hK K)
   |(with_reducible refine .done (hK _ ?_);clear hK K)
   |refine U.of rfl ?_
   |(with_reducible refine ar.aU (fun h =>?_) (fun h =>?_) <;>try simp only[h])) <;>try simp only[aX,R,simprocAttr])
  all_goals clear R
  refine fS rfl (fun n h =>?_) (fun n x h=>ff h) (sn hd hk12 hi hg (b := { bs[i] with cg:=(bs[i]).cg++[x.cg] }) (by simp[ka,hk]) rfl)
  rw[←adx hi (b := { bs[i] with cg:=(bs[i]).cg++[x.cg] }) rfl (z:=.box (enc x)) hnl hnr n h]
  rfl
def gl(B d:Nat)(bs:List aQ)(b:aQ):List (Nat×ah):=(B+1,.cu (dc (bs++[b])) (ea B bs.length++[.ptr d []]))::(d,.box (ed b (.nils 6)))::cq B bs
theorem sm{B d:Nat}{bs:List aQ}{x:ay}(hk:x.kind=1∨x.kind=2)(hg:dw bs x.dY=none)(hdam:hT bs x=true):iE B d bs x (.bool true) (gl B d bs (fE x)):=by
 have:eE e8 bs x=some (bs++[fE x]):=by simp only[eE,if_pos hk,hg,hdam,e8,and_self,if_true]
 simp only[iE,this,if_pos hk,gl,and_self]
def Ip(B d:Nat)(bs:List aQ)(x:ay):cS:=fun r os' =>
 (dw bs x.dY≠none∧r=.bool false∧os'=cq B bs)∨(dw bs x.dY=none∧r=.bool true∧os'=gl B d bs (fE x))
theorem Pt(a b c d e f g:Int):(dM [.int .i64 0,.int .i64 0,.int .i64 0,.int .i64 0,.int .i64 0,.int .i64 0,.int .i64 0,.bool false,.nils 6] [(0,.int .i64 a),(1,.int .i64 b),(2,.int .i64 c),(3,.int .i64 d),(4,.int .i64 e),(5,.int .i64 f),(6,.int .i64 g)]).map I.agg=some (I.agg [.int .i64 a,.int .i64 b,.int .i64 c,.int .i64 d,.int .i64 e,.int .i64 f,.int .i64 g,.bool false,.nils 6]):=by
 simp[dM,I.b9,I.size]
theorem Pu(a b c d e f g:Int):(dM [.agg [.int .i64 0,.int .i64 0,.int .i64 0,.int .i64 0,.int .i64 0,.int .i64 0,.int .i64 0,.bool false,.nils 6]] [(0,.agg [.int .i64 a,.int .i64 b,.int .i64 c,.int .i64 d,.int .i64 e,.int .i64 f,.int .i64 g,.bool false,.nils 6])]).map I.agg=some (ed ⟨a,b,c,d,e,f,g,false,[]⟩ (.nils 6)):=by
 simp[dM,I.b9,I.size,I.sizes];rfl
theorem adH(b:aQ)(s:I):(ed b s).b9=true:=rfl
theorem aeG(B d:Nat)(bs:List aQ)(x:ay)(hg:dw bs x.dY=none):fR (.i .i64) (.int .i64 x.dY) (.ptr d []) (dc bs) (ea B bs.length)=some (dc (bs++[fE x]),ea B bs.length++[.ptr d []]):=by
 have h2:=Je uR x.dY (.ptr d []) rfl (bs.map (·.no)) (ea B bs.length)
 rw[iZ] at h2
 unfold dc
 rw[h2]
 have h1:=vS (bs:=bs) (no:=x.dY)
 cases h:(bs.map (·.no)).findIdx? fun y=>decide (x.dY=y) with
 |none=>simp only[List.map_append,List.map_cons,List.map_nil];rfl
 |some i=>rw[h] at h1;obtain ⟨hi,g,_⟩:=h1;rw[hg] at g;cases g
theorem mV{B d:Nat}{bs:List aQ}{b:aQ}{n:Nat} : al (gl B d bs b) n=(decide (n=d)||al (cq B bs) n):=by
 by_cases h1:n=B+1
 ·subst h1
  have:al (cq B bs) (B+1)=true:=by simp[al,ky]
  rw[this];simp[gl,al,aj]
 ·by_cases h2:n=d
  ·subst h2;simp[gl,al,aj,h1]
  ·simp[gl,al,aj,h1,h2]
theorem mW{B d:Nat}{bs:List aQ}{b:aQ}{n:Nat}{x:ah}(h:aj (gl B d bs b) n=some x):x.only (al (gl B d bs b))=true∧x.eL=true:=by
 have cG:∀ m,al (cq B bs) m=true→al (gl B d bs b) m=true:=fun m hm=>by rw[mV,hm,Bool.or_true]
 simp only[gl,aj] at h
 split at h
 ·cases h
  refine ⟨?_,rfl⟩
  simp only[ah.only,Bool.and_eq_true,gw]
  refine ⟨eh _ _,xr _ fun i hi=>cG _ (by rw[mX];simp;omega),?_⟩
  simp[I.bV,I.only,mV]
 ·split at h
  ·cases h
   exact ⟨by simp[ah.only,I.only,I.bV,ed],rfl⟩
  ·obtain ⟨k1,k2⟩:=ff h
   exact ⟨ah.iK cG _ k1,k2⟩
theorem rp(bs:List aQ)(x:ay):cD Tryz.prog 173 [.ptr 1000000 [],enc x] (cq 1000000 bs) (Ip 1000000 33 bs x):=by
 refine cD.bu Tryz.func173 Qn R6 T6 (Nat.le_of_ble_eq_true rfl) (Nat.le_of_ble_eq_true rfl) kz (fun hwf W0 D0 E1 =>?_)
 simp only[Ae,KR,bp,Nat.zero_add]
 clear hwf
 have n3:aj (cq 1000000 bs) 3=none:=jV (by omega)
 have n33:aj (cq 1000000 bs) 33=none:=jV (by omega)
 have h0:aj (cq 1000000 bs) 1000000=some (.box (.agg [.mref 1000001])):=jU
 have h1:aj (cq 1000000 bs) 1000001=some (.cu (dc bs) (ea 1000000 bs.length)):=ky
 rcases pb 1000000 bs x.dY with ⟨hg,hlk⟩ | ⟨i,hi,hg,hno,hlk⟩
 ·have hup:=aeG 1000000 33 bs x hg
  have R:=And.intro @n3 (And.intro @n33 (And.intro @h0 (And.intro @h1 (And.intro @hlk (And.intro @hup (And.intro @Pt (And.intro @Pu (And.intro @adH (And.intro @eJ (And.intro @gA (And.intro @eA (And.intro @bg @J))))))))))))
  repeat' ((first
   |(with_reducible refine .guard (fun hb =>?_) (fun hb =>?_) <;>try simp only[hb])
   |refine U.aW (by decide +kernel) rfl fun K hK =>?_
   |(refine .aO [0,1,3,4,12] hK ?_;clear hK K)
   |(with_reducible refine .done (hK _ ?_);clear hK K)
   |refine U.of rfl ?_
   |(with_reducible refine ar.aU (fun h =>?_) (fun h =>?_) <;>try simp only[h])) <;>try simp only[aX,R,simprocAttr])
  all_goals clear R
  refine fS (os':=gl 1000000 33 bs (fE x)) (b:=true) rfl (fun n h =>?_) (fun n x h=>mW h) (Or.inr ⟨hg,rfl,rfl⟩)
  rw[mV] at h
  simp only[gl,aj]
  by_cases e:n=33
  ·subst e;simp;rfl
  ·have:=kz n (by simpa[e] using h)
   rw[if_neg (show ¬ n=33 by omega),if_neg (show ¬ n=3 by omega),if_neg (show ¬ n=33 by omega)]
 ·have R:=And.intro @n3 (And.intro @h0 (And.intro @h1 (And.intro @hlk (And.intro @eJ (And.intro @gA (And.intro @eA (And.intro @bg @J)))))))
  repeat' ((first
   |(with_reducible refine .guard (fun hb =>?_) (fun hb =>?_) <;>try simp only[hb])
   |refine U.aW (by decide +kernel) rfl fun K hK =>?_
   |(refine .aO [0,1,3,4,12] hK ?_;clear hK K)
   |(with_reducible refine .done (hK _ ?_);clear hK K)
   |refine U.of rfl ?_
   |(with_reducible refine ar.aU (fun h =>?_) (fun h =>?_) <;>try simp only[h])) <;>try simp only[aX,R,simprocAttr])
  all_goals clear R
  exact fS (b:=false) rfl lp (fun n x h=>ff h) (Or.inl ⟨by rw[hg];simp,rfl,rfl⟩)
theorem a7.v8{K:ab→Prop}{f:FuncId}{x:ay}{avs:List I}{a1 a2:Option (List I)}{dst:Option Nat}{rest:List av}{ts:List (Nat×I)}{z:ah}{bs:List aQ}(hc:cD Tryz.prog f [.ptr 1000000 [],enc x] (cq 1000000 bs) (Ip 1000000 33 bs x))(hav:avs=[.ptr 1000000 [],enc x])
  (h1:dw bs x.dY≠none→a7 Tryz.prog ig false K (az rest ((au ts (cq 1000000 bs++((3,z)::cq 1000000 bs))).aI dst (.bool false))))
  (h2:dw bs x.dY=none→a7 Tryz.prog ig false K (az rest ((au ts (gl 1000000 33 bs (fE x)++((3,z)::cq 1000000 bs))).aI dst (.bool true)))) :
  a7 Tryz.prog ig false K (.call f avs a1 a2 dst rest (au ts ((3,z)::cq 1000000 bs))):=by
 subst hav
 refine .bR false [] (cq 1000000 bs) [.ptr 1000000 [],enc x] _ rfl hc ⟨fun m y hy =>?_,fun m m' _ _ h=>h⟩ ⟨.inl ⟨?_,?_,rfl⟩,.inl ⟨(jR _ _).symm,bt _ _,dG _⟩,trivial⟩ ?_ ?_
 ·have hm:=kz (bs:=bs) m (by simp[al,hy])
  rw[ah.lE (ρ:=bA []) (fun n=>rfl)]
  refine ⟨?_,ff hy⟩
  show aj ((3,z)::cq 1000000 bs) m=some y
  have h3:¬ m=3:=by omega
  simp only[aj,if_neg h3];exact hy
 ·simp only[I.aK,bA]
 ·simp only[I.only];simp[al,jU]
 ·rintro r os' (⟨_,rfl,rfl⟩ | ⟨_,rfl,rfl⟩)
  ·exact ⟨fun m y hy=>⟨(ff hy).1,(ff hy).2,fun h=>by cases h⟩,fun m m' _ _ h=>h,fun m hm=>hm,(fun m a b=>by rw[a] at b;cases b),rfl,(fun h=>by cases h)⟩
  ·refine ⟨fun m y hy=>⟨(mW hy).1,(mW hy).2,fun h=>by cases h⟩,fun m m' _ _ h=>h,fun m hm=>by rw[mV,hm,Bool.or_true],fun m a b =>?_,rfl,fun h=>by cases h⟩
   rw[mV,b,Bool.or_false,decide_eq_true_eq] at a
   subst a
   have h3:¬ (33:Nat)=3:=by omega
   refine ⟨?_,by simp[bA]⟩
   show aj ((3,z)::cq 1000000 bs) 33=none
   simp only[aj,if_neg h3];exact jV (by omega)
 ·rintro r os' (⟨hg,rfl,rfl⟩ | ⟨hg,rfl,rfl⟩)
  ·rw[tl];exact h1 hg
  ·rw[tl];exact h2 hg
theorem oI{os os0:List (Nat×ah)} : ∀ n,al os n=true→aj (os++os0) n=aj os n:=fun n h=>by
 rw[jX]
 cases hx:aj os n with
 |none=>simp[al,hx] at h
 |some y=>rfl
theorem NH(bs:List aQ)(x:ay)(hk:x.kind=1):cD Tryz.prog 172 [.ptr 1000000 [],enc x] (cq 1000000 bs) (iE 1000000 33 bs x):=by
 refine cD.bu Tryz.func172 Qm R5 T5 (Nat.le_of_ble_eq_true rfl) (Nat.le_of_ble_eq_true rfl) kz (fun hwf W0 D0 E1 =>?_)
 simp only[Ad,KQ,bp,Nat.zero_add]
 clear hwf
 have n3:aj (cq 1000000 bs) 3=none:=jV (by omega)
 have h0:aj (cq 1000000 bs) 1000000=some (.box (.agg [.mref 1000001])):=jU
 have h1:aj (cq 1000000 bs) 1000001=some (.cu (dc bs) (ea 1000000 bs.length)):=ky
 by_cases hd0:x.eP≤0
 ·have hc:decide (0<x.eP)=false:=by simp;omega
  have hdam:hT bs x=true:=by simp[hT,hd0]
  have R:=And.intro @n3 (And.intro @h0 (And.intro @h1 (And.intro @hc (And.intro @eJ (And.intro @gA (And.intro @eA (And.intro @bg @J)))))))
  repeat' ((first
   |(with_reducible refine .guard (fun hb =>?_) (fun hb =>?_) <;>try simp only[hb])
   |refine U.aW (by decide +kernel) rfl fun K hK =>?_
   |(refine .aO [0,1,3,4,5,8,41] hK ?_;clear hK K)
   |(with_reducible refine .done (hK _ ?_);clear hK K)
   |refine U.of rfl ?_
   |(with_reducible refine ar.aU (fun h =>?_) (fun h =>?_) <;>try simp only[h])) <;>try simp only[aX,R,simprocAttr])
  all_goals clear R
  refine a7.v8 (rp bs x) rfl (fun hg =>?_) (fun hg =>?_)
  ·try simp only[J,simprocAttr]
   refine .done (hK _ ?_);clear hK K
   refine U.ret ?_
   simp only[fF]
   exact fS (b:=false) rfl oI (fun n x h=>ff h) (jy (by simp[eE,hk,hg]))
  ·try simp only[J,simprocAttr]
   refine .done (hK _ ?_);clear hK K
   refine U.ret ?_
   simp only[fF]
   exact fS (b:=true) rfl oI (fun n x h=>mW h) (sm (.inl hk) hg hdam)
 have hc:decide (0<x.eP)=true:=by simp;omega
 rcases pb 1000000 bs x.eP with ⟨hg,hlk⟩ | ⟨i,hi,hg,hno,hlk⟩
 ·have hdam:hT bs x=false:=by simp[hT,hg];omega
  have R:=And.intro @n3 (And.intro @h0 (And.intro @h1 (And.intro @hc (And.intro @hlk (And.intro @eJ (And.intro @gA (And.intro @eA (And.intro @bg @J))))))))
  repeat' ((first
   |(with_reducible refine .guard (fun hb =>?_) (fun hb =>?_) <;>try simp only[hb])
   |refine U.aW (by decide +kernel) rfl fun K hK =>?_
   |(refine .aO [0,1,3,4,5,8,41] hK ?_;clear hK K)
   |(with_reducible refine .done (hK _ ?_);clear hK K)
   |refine U.of rfl ?_
   |(with_reducible refine ar.aU (fun h =>?_) (fun h =>?_) <;>try simp only[h])) <;>try simp only[aX,R,simprocAttr])
  all_goals clear R
  exact fS (b:=false) rfl lp (fun n x h=>ff h) (jy (by simp[eE,hk,hdam]))
 ·have hl:=l6 (B:=1000000) hi
  have hr:=ln (B:=1000000) hi
  obtain ⟨nl,hnl⟩:∃ nl,nl=1000000+2+2*i:=⟨_,rfl⟩
  obtain ⟨nr,hnr⟩:∃ nr,nr=1000000+3+2*i:=⟨_,rfl⟩
  rw[←hnl] at hl hlk
  rw[←hnr] at hl hr
  have e1:(nl=3)=False:=by simp;omega
  have e2:(nr=3)=False:=by simp;omega
  cases hs:(bs[i]).dp != x.dp with
  |true =>
   have hdam:hT bs x=false:=by simp at hs;simp[hT,hg,hs];omega
   have R:=And.intro @n3 (And.intro @h0 (And.intro @h1 (And.intro @hl (And.intro @hr (And.intro @e1 (And.intro @e2 (And.intro @hc (And.intro @hlk (And.intro @hs (And.intro @lZ (And.intro @eJ (And.intro @gA (And.intro @eA (And.intro @bg @J))))))))))))))
   repeat' ((first
    |(with_reducible refine .guard (fun hb =>?_) (fun hb =>?_) <;>try simp only[hb])
    |refine U.aW (by decide +kernel) rfl fun K hK =>?_
    |refine .flat _ (iV _) rfl ?_
    |(refine .aO [0,1,3,4,5,8,41] hK ?_;clear hK K)
    |(with_reducible refine .done (hK _ ?_);clear hK K)
    |refine U.of rfl ?_
    |(with_reducible refine ar.aU (fun h =>?_) (fun h =>?_) <;>try simp only[h])) <;>try simp only[aX,R,simprocAttr])
   all_goals clear R
   exact fS (b:=false) rfl lp (fun n x h=>ff h) (jy (by simp[eE,hk,hdam]))
  |false =>
   cases hdd:decide (0≤(bs[i]).dJ) with
   |false =>
    have hdam:hT bs x=true:=by simp at hs hdd;simp[hT,hg,hs];omega
    have R:=And.intro @n3 (And.intro @h0 (And.intro @h1 (And.intro @hl (And.intro @hr (And.intro @e1 (And.intro @e2 (And.intro @hc (And.intro @hlk (And.intro @hs (And.intro @hdd (And.intro @lZ (And.intro @eJ (And.intro @gA (And.intro @eA (And.intro @bg @J)))))))))))))))
    repeat' ((first
     |(with_reducible refine .guard (fun hb =>?_) (fun hb =>?_) <;>try simp only[hb])
     |refine U.aW (by decide +kernel) rfl fun K hK =>?_
     |refine .flat _ (iV _) rfl ?_
     |(refine .aO [0,1,3,4,5,8,41] hK ?_;clear hK K)
     |(with_reducible refine .done (hK _ ?_);clear hK K)
     |refine U.of rfl ?_
     |(with_reducible refine ar.aU (fun h =>?_) (fun h =>?_) <;>try simp only[h])) <;>try simp only[aX,R,simprocAttr])
    all_goals clear R
    refine a7.v8 (rp bs x) rfl (fun hg =>?_) (fun hg =>?_)
    ·try simp only[J,simprocAttr]
     refine .done (hK _ ?_);clear hK K
     refine U.ret ?_
     simp only[fF]
     exact fS (b:=false) rfl oI (fun n x h=>ff h) (jy (by simp[eE,hk,hg]))
    ·try simp only[J,simprocAttr]
     refine .done (hK _ ?_);clear hK K
     refine U.ret ?_
     simp only[fF]
     exact fS (b:=true) rfl oI (fun n x h=>mW h) (sm (.inl hk) hg hdam)
   |true =>
    cases hdy:decide ((bs[i]).dJ<x.day) with
    |true =>
     have hdam:hT bs x=false:=by simp at hs hdd hdy;simp[hT,hg,hs];omega
     have R:=And.intro @n3 (And.intro @h0 (And.intro @h1 (And.intro @hl (And.intro @hr (And.intro @e1 (And.intro @e2 (And.intro @hc (And.intro @hlk (And.intro @hs (And.intro @hdd (And.intro @hdy (And.intro @lZ (And.intro @eJ (And.intro @gA (And.intro @eA (And.intro @bg @J))))))))))))))))
     repeat' ((first
      |(with_reducible refine .guard (fun hb =>?_) (fun hb =>?_) <;>try simp only[hb])
      |refine U.aW (by decide +kernel) rfl fun K hK =>?_
      |refine .flat _ (iV _) rfl ?_
      |(refine .aO [0,1,3,4,5,8,41] hK ?_;clear hK K)
      |(with_reducible refine .done (hK _ ?_);clear hK K)
      |refine U.of rfl ?_
      |(with_reducible refine ar.aU (fun h =>?_) (fun h =>?_) <;>try simp only[h])) <;>try simp only[aX,R,simprocAttr])
     all_goals clear R
     exact fS (b:=false) rfl lp (fun n x h=>ff h) (jy (by simp[eE,hk,hdam]))
    |false =>
     have hdam:hT bs x=true:=by simp at hs hdd hdy;simp[hT,hg,hs];omega
     have R:=And.intro @n3 (And.intro @h0 (And.intro @h1 (And.intro @hl (And.intro @hr (And.intro @e1 (And.intro @e2 (And.intro @hc (And.intro @hlk (And.intro @hs (And.intro @hdd (And.intro @hdy (And.intro @lZ (And.intro @eJ (And.intro @gA (And.intro @eA (And.intro @bg @J))))))))))))))))
     repeat' ((first
      |(with_reducible refine .guard (fun hb =>?_) (fun hb =>?_) <;>try simp only[hb])
      |refine U.aW (by decide +kernel) rfl fun K hK =>?_
      |refine .flat _ (iV _) rfl ?_
      |(refine .aO [0,1,3,4,5,8,41] hK ?_;clear hK K)
      |(with_reducible refine .done (hK _ ?_);clear hK K)
      |refine U.of rfl ?_
      |(with_reducible refine ar.aU (fun h =>?_) (fun h =>?_) <;>try simp only[h])) <;>try simp only[aX,R,simprocAttr])
     all_goals clear R
     refine a7.v8 (rp bs x) rfl (fun hg =>?_) (fun hg =>?_)
     ·try simp only[J,simprocAttr]
      refine .done (hK _ ?_);clear hK K
      refine U.ret ?_
      simp only[fF]
      exact fS (b:=false) rfl oI (fun n x h=>ff h) (jy (by simp[eE,hk,hg]))
     ·try simp only[J,simprocAttr]
      refine .done (hK _ ?_);clear hK K
      refine U.ret ?_
      simp only[fF]
      exact fS (b:=true) rfl oI (fun n x h=>mW h) (sm (.inl hk) hg hdam)
def kl:I:=.cM [.int .i64 1,.int .i64 2,.int .i64 3,.int .i64 4,.int .i64 5,.int .i64 6] [.func 172 [],.func 173 [],.func 174 [],.func 175 [],.func 176 [],.func 177 []]
theorem aez:fR (.i .i64) (.int .i64 1) (.func 172 []) [] []=some ([.int .i64 1],[.func 172 []]):=by simp[fR,eS,cn,I.b9]
theorem aeA:fR (.i .i64) (.int .i64 2) (.func 173 []) [.int .i64 1] [.func 172 []]=some ([.int .i64 1,.int .i64 2],[.func 172 [],.func 173 []]):=by simp[fR,eS,cn,I.b9]
theorem aeB:fR (.i .i64) (.int .i64 3) (.func 174 []) [.int .i64 1,.int .i64 2] [.func 172 [],.func 173 []]=some ([.int .i64 1,.int .i64 2,.int .i64 3],[.func 172 [],.func 173 [],.func 174 []]):=by simp[fR,eS,cn,I.b9]
theorem aeC:fR (.i .i64) (.int .i64 4) (.func 175 []) [.int .i64 1,.int .i64 2,.int .i64 3] [.func 172 [],.func 173 [],.func 174 []]=some ([.int .i64 1,.int .i64 2,.int .i64 3,.int .i64 4],[.func 172 [],.func 173 [],.func 174 [],.func 175 []]):=by simp[fR,eS,cn,I.b9]
theorem aeD:fR (.i .i64) (.int .i64 5) (.func 176 []) [.int .i64 1,.int .i64 2,.int .i64 3,.int .i64 4] [.func 172 [],.func 173 [],.func 174 [],.func 175 []]=some ([.int .i64 1,.int .i64 2,.int .i64 3,.int .i64 4,.int .i64 5],[.func 172 [],.func 173 [],.func 174 [],.func 175 [],.func 176 []]):=by simp[fR,eS,cn,I.b9]
theorem aeE:fR (.i .i64) (.int .i64 6) (.func 177 []) [.int .i64 1,.int .i64 2,.int .i64 3,.int .i64 4,.int .i64 5] [.func 172 [],.func 173 [],.func 174 [],.func 175 [],.func 176 []]=some ([.int .i64 1,.int .i64 2,.int .i64 3,.int .i64 4,.int .i64 5,.int .i64 6],[.func 172 [],.func 173 [],.func 174 [],.func 175 [],.func 176 [],.func 177 []]):=by simp[fR,eS,cn,I.b9]
theorem yx:aB Tryz.prog 139 [] kl:=by
 refine aB.bu Tryz.func139 P1 RJ TH (Nat.le_of_ble_eq_true rfl) (fun hwf W0 D0 E1 =>?_)
 simp only[zL,Kt,bp]
 refine .ak (by decide +kernel) fun K hK =>?_
 simp only[DA,J,simprocAttr]
 refine .done (hK _ ?_);clear hK K
 refine .ak (by decide +kernel) fun K hK =>?_
 simp only[DB,J,simprocAttr]
 try simp only[eA,aez,aeA,aeB,aeC,aeD,aeE,J,simprocAttr]
 refine .done (hK _ ?_);clear hK K
 refine U.ret ?_
 simp only[J,simprocAttr]
 simp[kl,a6,au,cw,dU,fD,I.bT,I.bl,kV,ni];rfl
def dO(bs:List aQ):List (Nat×ah):=(43,.box (.agg [.mref 41]))::(41,.cu (dc bs) (ea 2000 bs.length))::eM 2000 0 bs
def mU(bs:List aQ)(b:aQ):List (Nat×ah):=(41,.cu (dc (bs++[b])) (ea 2000 bs.length++[.ptr (2002+2*bs.length) []]))::(2002+2*bs.length,.box (ed b (.nils 6)))::dO bs
def gb(n:Nat):List (Nat×Nat):=(33,2002+2*n)::(1000000,43)::(1000001,41)::(List.range' 0 200).map fun j=>(1000002+j,2002+j)
theorem L5(m:Nat):∀ k a,bA ((List.range' a k).map fun j=>(1000002+j,2002+j)) m=if 1000002+a≤m∧m<1000002+a+k then m-998000 else m
 |0,a=>by
  rw[if_neg (by omega)];rfl
 |k+1,a=>by
  rw[List.range'_succ,List.map_cons,bA,L5 m k (a+1)]
  by_cases h:m=1000002+a
  ·rw[if_pos h,if_pos (by omega)];omega
  ·rw[if_neg h]
   by_cases h2:1000002+(a+1)≤m∧m<1000002+(a+1)+k
   ·rw[if_pos h2,if_pos (by omega)]
   ·rw[if_neg h2,if_neg (by omega)]
theorem lG(n m:Nat):bA (gb n) m=if m=33 then 2002+2*n else if m=1000000 then 43 else if m=1000001 then 41 else if 1000002≤m∧m<1000202 then m-998000 else m:=by
 simp only[gb,bA,L5]
theorem L4{n i:Nat}(h:i≤80):bA (gb n) (1000000+2+2*i)=2000+2+2*i:=by
 rw[lG,if_neg (by omega),if_neg (by omega),if_neg (by omega),if_pos (by omega)];omega
theorem agT{n i:Nat}(h:i≤80):bA (gb n) (1000000+3+2*i)=2000+3+2*i:=by
 rw[lG,if_neg (by omega),if_neg (by omega),if_neg (by omega),if_pos (by omega)];omega
theorem L1(n:Nat):bA (gb n) 1000000=43:=by rw[lG];rfl
theorem L2(n:Nat):bA (gb n) 1000001=41:=by rw[lG];rfl
theorem L3(n:Nat):bA (gb n) 33=2002+2*n:=by rw[lG];rfl
theorem xI(ρ:List (Nat×Nat))(k:Nat)(v:ah)(os:List (Nat×ah)):dI ρ ((k,v)::os)=(bA ρ k,v.aK (bA ρ))::dI ρ os:=rfl
theorem LV(n:Nat):∀ (bs:List aQ) (i:Nat),i+bs.length≤80→dI (gb n) (eM 1000000 i bs)=eM 2000 i bs
 | [],_,_=>rfl
 |b::bs,i,h=>by
  simp only[List.length_cons] at h
  have ih:=LV n bs (i+1) (by omega)
  simp only[eM,xI,ih,L4 (n:=n) (i:=i) (by omega),agT (n:=n) (i:=i) (by omega),ah.aK,iO,ed,I.aK,I.cP]
theorem LX(n:Nat){k:Nat}(h:k≤80):I.cP (bA (gb n)) (ea 1000000 k)=ea 2000 k:=by
 simp only[ea,od,List.map_map]
 refine List.map_congr_left fun i hi =>?_
 have:=List.mem_range.1 hi
 simp only[Function.comp,I.aK,L4 (n:=n) (i:=i) (by omega)]
theorem LW(ρ:Nat→Nat)(bs:List aQ):I.cP ρ (dc bs)=dc bs:=by
 simp only[dc,iO]
theorem tm(n:Nat){bs:List aQ}(h:bs.length≤80):dI (gb n) (cq 1000000 bs)=dO bs:=by
 have h1:=LV n bs 0 (by omega)
 simp only[cq,dO,xI,h1,ah.aK,I.aK,I.cP,LW,LX n h,L1,L2,Nat.reduceAdd]
theorem agH(ρ:Nat→Nat)(xs ys:List I):I.cP ρ (xs++ys)=I.cP ρ xs++I.cP ρ ys:=by simp only[od,List.map_append]
theorem agF{bs:List aQ}{b:aQ}(h:bs.length≤80):dI (gb bs.length) (gl 1000000 33 bs b)=mU bs b:=by
 have h1:=tm bs.length h
 simp only[gl,mU,xI,h1,ah.aK,I.aK,I.cP,LW,agH,LX bs.length h,L2,L3,ed,Nat.reduceAdd]
def sP(n m:Nat):Prop:=m=33∨(1000000≤m∧m<1000002+2*n)
theorem tr{n k m m':Nat}(hk:k≤80)(hm:1000000≤m∧m<1000002+2*k)(hm':1000000≤m'∧m'<1000002+2*k)(h:bA (gb n) m=bA (gb n) m'):m=m':=by
 rw[lG,lG] at h
 rw[if_neg (by omega),if_neg (show ¬ m'=33 by omega)] at h
 (repeat' split at h) <;>omega
theorem agS{n m m':Nat}(hk:n≤80)(hm:sP n m)(hm':sP n m')(h:bA (gb n) m=bA (gb n) m'):m=m':=by
 simp only[sP] at hm hm'
 rw[lG,lG] at h
 (repeat' split at h) <;>omega
theorem aef{ρ:List (Nat×Nat)}{os:List (Nat×ah)}{m:Nat}{y:ah}(inj:∀ m',al os m'=true→bA ρ m'=bA ρ m→m'=m)(h:aj os m=some y):aj (dI ρ os) (bA ρ m)=some (y.aK (bA ρ)):=by
 have h1:=qz ρ os [] (bA ρ m)
 rw[List.append_nil] at h1
 rw[h1]
 cases hp:pre ρ os (bA ρ m) with
 |none=>exact absurd rfl (xy hp (by simp[al,h]))
 |some m' =>
  obtain ⟨k1,k2⟩:=lD hp
  have:=inj m' k1 k2
  subst this
  simp only[h,Option.map_some]
theorem wa{bs:List aQ}{n:Nat} : al (dO bs) n=decide (n=43∨n=41∨(2002≤n∧n<2002+2*bs.length)):=by
 have h2:al (eM 2000 0 bs) n=decide (2002≤n∧n<2002+2*bs.length):=by
  by_cases h1:n<2002
  ·simp only[al,sw 2000 bs 0 n (by omega)];simp;omega
  by_cases h3:2002+2*bs.length≤n
  ·simp only[al,su 2000 bs 0 n (by omega)];simp;omega
  ·rcases sN 2000 n bs.length with h | h | h | ⟨k,hk,h⟩ | ⟨k,hk,h⟩ | h
   ·omega
   ·omega
   ·omega
   ·have:=sv 2000 bs 0 k hk
    rw[Nat.zero_add] at this
    rw[h];simp only[al,this];simp;omega
   ·have:=sx 2000 bs 0 k hk
    rw[Nat.zero_add] at this
    rw[h];simp only[al,this];simp;omega
   ·omega
 simp only[al,dO,aj] at h2 ⊢
 by_cases h3:n=43
 ·simp[h3]
 by_cases h4:n=41
 ·simp[h4]
 simp only[h3,h4,if_false,h2,false_or]
theorem cD.post{P:Program}{f:FuncId}{args:List I}{os:List (Nat×ah)}{post post':cS}(h:cD P f args os post)(hp:∀ r os',post r os'→post' r os'):cD P f args os post' :=
 ⟨h.1,fun w D E vs hs hD ho hv=>(h.2 w D E vs hs hD ho hv).mono fun _ _ ⟨v,D',E',r,os',k1,k2,k⟩=>⟨v,D',E',r,os',k1,hp _ _ k2,k⟩⟩
def mN:List I:=[.int .i64 1,.int .i64 2,.int .i64 3,.int .i64 4,.int .i64 5,.int .i64 6]
def mO:List I:=[.func 172 [],.func 173 [],.func 174 [],.func 175 [],.func 176 [],.func 177 []]
theorem adL{x:ay}(h:ij x=true):0≤x.kind∧x.kind≤6∧(x.kind=2→x.eP=0):=by
 simp only[ij,Bool.and_eq_true,decide_eq_true_eq] at h
 obtain ⟨h1,h2,_⟩:=h
 have h3:x.kind=2→x.eP=0:=fun hk=>by rw[h2];simp[jt,hk]
 simp only[oW] at h1
 refine ⟨?_,?_,h3⟩
 all_goals
  split at h1
  ·omega
  ·simp only[Bool.and_eq_true] at h1
   obtain ⟨-,h1⟩:=h1
   repeat' split at h1
   all_goals first | omega | (simp only[decide_eq_true_eq] at h1;omega)
theorem uH{bs:List aQ}{x:ay}(hok:ij x=true)(hk0:x.kind≠0)(hd:(bs.map (·.no)).Nodup)(hlen:∀ b∈bs,b.cg.length≤1000) :
  ∃ f,fY (.i .i64) .da (.int .i64 x.kind) mN mO=some (.func f [],true)∧[172,173,174,175,176,177].contains f=true∧cD Tryz.prog f [.ptr 1000000 [],enc x] (cq 1000000 bs) (iE 1000000 33 bs x):=by
 obtain ⟨h1,h2,h3⟩:=adL hok
 have h4:x.kind=1∨x.kind=2∨x.kind=3∨x.kind=4∨x.kind=5∨x.kind=6:=by omega
 rcases h4 with h | h | h | h | h | h
 ·exact ⟨172,by rw[h];simp[fY,eS,cn,mN,mO],rfl,NH bs x h⟩
 ·refine ⟨173,by rw[h];simp[fY,eS,cn,mN,mO],rfl,cD.post (rp bs x) ?_⟩
  have hdam:hT bs x=true:=by simp[hT,h3 h]
  rintro r os' (⟨k1,rfl,rfl⟩ | ⟨k1,rfl,rfl⟩)
  ·exact jy (by simp[eE,h,k1])
  ·exact sm (.inr h) k1 hdam
 ·exact ⟨174,by rw[h];simp[fY,eS,cn,mN,mO],rfl,NI bs x 33 h hd⟩
 ·exact ⟨175,by rw[h];simp[fY,eS,cn,mN,mO],rfl,NJ bs x 33 h hd hlen⟩
 ·exact ⟨176,by rw[h];simp[fY,eS,cn,mN,mO],rfl,NK bs x 33 h hd⟩
 ·exact ⟨177,by rw[h];simp[fY,eS,cn,mN,mO],rfl,NL bs x 33 h hd⟩
theorem uc{bs bs':List aQ}{x:ay}(hk:¬ (x.kind=1∨x.kind=2))(h:eE e8 bs x=some bs'):bs'.length=bs.length:=by
 simp only[eE,if_neg hk] at h
 split at h
 ·cases h
 ·simp only[Option.map_eq_some_iff] at h
  obtain ⟨b',_,rfl⟩:=h
  simp[lI]
theorem cB.uH{hs:List FuncId}{K:ab→Prop}{f:FuncId}{x:ay}{avs:List I}{a1 a2:Option (List I)}{dst:Option Nat}{rest:List av}{ts:List (Nat×I)}{z y:ah}{bs:List aQ}(hlen:bs.length≤60)(hf:hs.contains f=true)
  (hc:cD Tryz.prog f [.ptr 1000000 [],enc x] (cq 1000000 bs) (iE 1000000 33 bs x)) (hav:avs=[.ptr 43 [],enc x])
  (h1:eE e8 bs x=none→cB Tryz.prog hs K (az rest ((au ts (dO bs++((900,z)::(dO bs++[(3,y)])))).aI dst (.bool false))))
  (h2:∀ bs',eE e8 bs x=some bs'→¬ (x.kind=1∨x.kind=2)→cB Tryz.prog hs K (az rest ((au ts (dO bs'++((900,z)::(dO bs++[(3,y)])))).aI dst (.bool true))))
  (h3:eE e8 bs x=some (bs++[fE x])→cB Tryz.prog hs K (az rest ((au ts (mU bs (fE x)++((900,z)::(dO bs++[(3,y)])))).aI dst (.bool true)))) :
  cB Tryz.prog hs K (.call f avs a1 a2 dst rest (au ts ((900,z)::(dO bs++[(3,y)])))):=by
 subst hav
 have nm:∀ {bs:List aQ} {m},al (cq 1000000 bs) m=true→1000000≤m∧m<1000002+2*bs.length:=fun {bs m} h=>by
  rw[mX] at h;simpa using h
 have hlow:∀ {bs':List aQ},bs'.length≤60→∀ {m y},aj (cq 1000000 bs') m=some y→aj (dO bs') (bA (gb bs.length) m)=some (y.aK (bA (gb bs.length))):=fun {bs'} hl {m y} hy=>by
  rw[←tm bs.length (bs:=bs') (by omega)]
  exact aef (fun m' hm' he=>tr (by omega) (nm hm') (nm (by simp[al,hy])) he) hy
 refine .xb false (gb bs.length) (cq 1000000 bs) [.ptr 1000000 [],enc x] _ hf hc ⟨fun m y' hy =>?_,fun m m' h h' e=>tr (n:=bs.length) (by omega) (nm h) (nm h') e⟩ ⟨.inl ⟨?_,?_,rfl⟩,.inl ⟨(jR _ _).symm,bt _ _,dG _⟩,trivial⟩ ?_ ?_
 ·have hm:=nm (bs:=bs) (m:=m) (by simp[al,hy])
  refine ⟨?_,ff hy⟩
  have h9:bA (gb bs.length) m≠900:=fun e=>by
   rw[lG] at e
   (repeat' split at e) <;>omega
  simp only[aj,if_neg h9,jX,hlow hlen hy]
 ·simp only[I.aK,L1]
 ·simp only[I.only];simp[al,jU]
 ·intro r os' hp
  simp only[iE] at hp
  split at hp
  ·obtain ⟨rfl,rfl⟩:=hp
   exact ⟨fun m y hy=>⟨(ff hy).1,(ff hy).2,fun h=>by cases h⟩,fun m m' h h' e=>tr (n:=bs.length) (k:=bs.length) (by omega) (nm h) (nm h') e,fun m hm=>hm,(fun m a b=>by rw[a] at b;cases b),rfl,(fun h=>by cases h)⟩
  ·rename_i bs' hb
   obtain ⟨rfl,rfl⟩:=hp
   split
   ·rename_i hk
    have hbs:bs'=bs++[fE x]:=by
     simp only[eE,if_pos hk] at hb
     split at hb
     ·simpa[e8] using hb.symm
     ·cases hb
    subst hbs
    have hN:∀ {m},al (gl 1000000 33 bs (fE x)) m=true→sP bs.length m:=fun {m} h=>by
     rw[mV] at h
     simp only[Bool.or_eq_true,decide_eq_true_eq] at h
     rcases h with h | h
     ·exact .inl h
     ·exact .inr (nm h)
    refine ⟨fun m y hy=>⟨(mW hy).1,(mW hy).2,fun h=>by cases h⟩,fun m m' h h' e=>agS (by omega) (hN h) (hN h') e,fun m hm =>?_,fun m a b =>?_,rfl,fun h=>by cases h⟩
    ·show al (gl 1000000 33 bs (fE x)) m=true
     rw[mV,hm,Bool.or_true]
    ·have a':al (gl 1000000 33 bs (fE x)) m=true:=a
     rw[mV,b,Bool.or_false,decide_eq_true_eq] at a'
     subst a'
     rw[L3]
     refine ⟨?_,by omega⟩
     have h9:¬ 2002+2*bs.length=900:=by omega
     have h3:¬ 2002+2*bs.length=3:=by omega
     have hno:aj (dO bs) (2002+2*bs.length)=none:=by
      have:=wa (bs:=bs) (n:=2002+2*bs.length)
      rw[decide_eq_false (by omega)] at this
      simpa[al] using this
     simp only[aj,if_neg h9,jX,hno,if_neg h3]
   ·rename_i hk
    have hl:=uc hk hb
    refine ⟨fun m y hy=>⟨(ff hy).1,(ff hy).2,fun h=>by cases h⟩,fun m m' h h' e=>tr (n:=bs.length) (k:=bs'.length) (by omega) (nm h) (nm h') e,fun m hm =>?_,fun m a b =>?_,rfl,fun h=>by cases h⟩
    ·rw[mX] at hm ⊢;rw[hl];exact hm
    ·rw[mX] at a b;rw[hl] at a;rw[a] at b;cases b
 ·intro r os' hp
  simp only[iE] at hp
  split at hp
  ·rename_i hb
   obtain ⟨rfl,rfl⟩:=hp
   rw[tm bs.length (by omega)]
   exact h1 hb
  ·rename_i bs' hb
   obtain ⟨rfl,rfl⟩:=hp
   split
   ·rename_i hk
    have hbs:bs'=bs++[fE x]:=by
     simp only[eE,if_pos hk] at hb
     split at hb
     ·simpa[e8] using hb.symm
     ·cases hb
    subst hbs
    have e:dI (gb bs.length) ((1000000+1,ah.cu (dc (bs++[fE x])) (ea 1000000 bs.length++[.ptr 33 []]))::(33,.box (ed (fE x) (.nils 6)))::cq 1000000 bs)=mU bs (fE x):=agF (by omega)
    rw[e]
    exact h3 hb
   ·rename_i hk
    have hl:=uc hk hb
    rw[tm bs.length (by omega)]
    exact h2 bs' hb hk
def tZ(a b c d e f:Int):aM 6 Int:=⟨[a,b,c,d,e,f],rfl⟩
def a5(a b c d e:Int):aM 5 Int:=⟨[a,b,c,d,e],rfl⟩
theorem BP(a b c d e:Int):I.agg [.int .i64 a,.int .i64 b,.int .i64 c,.int .i64 d,.int .i64 e]=enc (a5 a b c d e):=rfl
theorem BQ(a b c d e f:Int):I.agg [.int .i64 a,.int .i64 b,.int .i64 c,.int .i64 d,.int .i64 e,.int .i64 f]=enc (tZ a b c d e f):=rfl
theorem oj{zs:List I}{i:Nat}{v z:I}{rest:List (Nat×I)}(h:zs[i]?=some z)(h1:v.b9=true)(h2:v.size=z.size):dM zs ((i,v)::rest)=dM (zs.set i v) rest:=by
 simp only[dM,h];rw[if_pos ⟨h1,h2⟩]
theorem Pr(o:Int)(m:aM 6 Int):dM [.int .i64 0,enc (tZ 0 0 0 0 0 0)] [(0,.int .i64 o),(1,enc m)]=some [.int .i64 o,enc m]:=by
 have h2:((enc m:I).b9=true∧(enc m:I).size=(enc (tZ 0 0 0 0 0 0)).size):=⟨dG _,by rw[fX,fX]⟩
 have h1:((I.int .i64 o).b9=true∧(I.int .i64 o).size=(I.int .i64 0).size):=⟨rfl,rfl⟩
 rw[oj rfl h1.1 h1.2,oj rfl h2.1 h2.2];rfl
theorem Wh(o:Int)(m:aM 6 Int):I.agg [.int .i64 o,enc m]=enc (⟨o,m⟩:b7):=rfl
theorem p9(w:aM 5 Int)(n:Int)(l:List b7):I.agg [enc w,.int .i64 n,enc l]=enc (⟨w,n,l⟩:bX):=rfl
theorem Tg(a b:Item):decide (nE a b<0)=before a b:=by
 simp only[nE,mg,jv,before]
 repeat' split
 all_goals simp_all
 all_goals omega
theorem O3{a b c:Item}(h:before a b=true)(k:before b c=true):before a c=true:=by
 simp only[before,Bool.or_eq_true,decide_eq_true_eq,Bool.and_eq_true] at *
 omega
theorem Bw(a b:Item):decide (0≤nE a b) = !before a b:=by
 rw[←Tg]
 by_cases h:nE a b<0
 ·have:¬ 0≤nE a b:=by omega
  simp[h,this]
 ·have:0≤nE a b:=by omega
  simp[h,this]
theorem lX{l:List ay}{i:Nat}(h:i<l.length):l[i]=ae l i:=by simp[ae,h]
theorem m0{l:List ay}{i:Nat}(h:i<l.length)(A:ab):ic A 17 (i:Int) (enc l)=some (.ref (enc (ae l i))):=by
 rw[fL 17 h rfl,lX h]
theorem iI{i n:Nat}(h:i<n):decide ((i:Int)<(n:Int))=true:=by simp;omega
theorem jx{i n:Nat}(h:¬ i<n):decide ((i:Int)<(n:Int))=false:=by simp;omega
theorem tJ{n:Nat}(h:n≤9223372036854775807):IntKind.i64.wrap (n:Int)=(n:Int):=cA _ (by omega) (by omega)
theorem fG{i:Nat}(h:i<9223372036854775807):IntKind.i64.wrap ((i:Int)+1)=((i+1:Nat):Int):=by rw[cA _ (by omega) (by omega)];rfl
theorem ahY{i:Nat}(h:0<i)(h2:i<9223372036854775807):IntKind.i64.wrap ((i:Int)-1)=((i-1:Nat):Int):=by rw[cA _ (by omega) (by omega)];omega
theorem qE{l:List ay}(h:dW l=true):l.length≤60:=by simp[dW] at h;exact h.1
theorem xi{l:List ay}(h:dW l=true){i:Nat}(hi:i<l.length):jZ l i=true:=by
 simp only[dW,Bool.and_eq_true,List.all_eq_true,List.mem_range] at h
 exact h.2 i hi
theorem Jr{l:List ay}{i:Nat}(hi:i<l.length)(h:jZ l i=false):dW l=false:=by
 cases hk:dW l with
 |false=>rfl
 |true=>rw[xi hk hi] at h;cases h
theorem Js{l:List ay}(hl:l.length≤60)(h:∀ i,i<l.length→jZ l i=true):dW l=true:=by
 simp only[dW,Bool.and_eq_true,List.all_eq_true,List.mem_range,decide_eq_true_eq]
 exact ⟨hl,h⟩
theorem xj{l:List ay}(h:dW l=true){i:Nat}(hi:i<l.length):ij (ae l i)=true:=by
 have:=xi h hi
 simp only[jZ,Bool.and_eq_true] at this
 exact this.1
theorem Jt{l:List ay}(h:dW l=true):∀ {j i:Nat},i<j→j<l.length→before (ae l i).bL (ae l j).bL=true
 |0,i,hij,_=>by omega
 |j+1,i,hij,hj=>by
  have h1:=xi h hj
  simp only[jZ,Bool.and_eq_true,Bool.or_eq_true,decide_eq_true_eq,Nat.add_sub_cancel] at h1
  have h2:=h1.2.resolve_left (by omega)
  by_cases e:i=j
  ·rw[e];exact h2
  ·exact O3 (Jt h (j:=j) (by omega) (by omega)) h2
theorem I0{p:Nat→Prop}{i:Nat}(h:∀ j,j<i→p j)(hi:p i):∀ j,j<i+1→p j:=fun j hj=>by
 by_cases e:j=i
 ·exact e▸hi
 ·exact h j (by omega)
theorem N7(l:List ay):aB Tryz.prog 64 [enc l] (enc (if dW l then (0:Int) else 41)):=by
 refine aB.bu Tryz.func64 QU SE UD (Nat.le_of_ble_eq_true rfl) (fun hwf W0 D0 E1 =>?_)
 simp only[AM,Lo,bp]
 have hlen:l.length≤maxLen:=((kM l).1 hwf.1).1
 simp only[maxLen] at hlen
 clear hwf
 refine .ak (by decide +kernel) fun K hK =>?_
 simp only[G1,J,simprocAttr]
 refine .done (hK _ ?_);clear hK K
 refine U.seq (U.seq ?_)
 refine .bj (by decide +kernel) fun K hK =>?_
 simp only[G2,J,simprocAttr]
 try simp only[bK,J,simprocAttr]
 refine .done (hK _ ?_);clear hK K;try simp only[ao]
 refine U.bD ?_
 simp only[ar,J,simprocAttr]
 refine ⟨fun h =>?_,fun h =>?_⟩
 ·have R:=And.intro @bg @J
  repeat' ((first
   |(with_reducible refine .guard (fun hb =>?_) (fun hb =>?_) <;>try simp only[hb])
   |refine U.aW (by decide +kernel) rfl fun K hK =>?_
   |(refine .aO [0,2,3,4,7,8,9,10,11,33] hK ?_;clear hK K)
   |(with_reducible refine .done (hK _ ?_);clear hK K)
   |refine U.of rfl ?_
   |(with_reducible refine ar.aU (fun h =>?_) (fun h =>?_) <;>try simp only[h])) <;>try simp only[aX,R,simprocAttr])
  all_goals clear R
  have:¬ l.length≤60:=by simp at h;omega
  simp[dW,this]
 have hl6:l.length≤60:=by simp at h;omega
 refine U.skip ?_;try simp only[ao,simprocAttr]
 refine U.seq (U.seq ?_)
 refine .bj (by decide +kernel) fun K hK =>?_
 simp only[G3,J,simprocAttr]
 try simp only[bK,J,simprocAttr]
 refine .done (hK _ ?_);clear hK K;try simp only[ao]
 refine U.block (U.loop (fun i:Nat=>au [(0,enc l),(8,enc l),(9,.int .i64 l.length),(10,.int .i64 i)] []) (fun i=>i≤l.length∧∀ j,j<i→jZ l j=true) (fun i=>l.length-i) 0 ⟨by omega,fun k h=>by omega⟩ ?_ (fun i hi =>?_))
 ·refine aE.bP ?_ ?_ ?_ ?_ <;>simp[aT,bJ,bI,bd,aV,I.only,bt]
 by_cases hlt:i<l.length
 ·have he:=m0 hlt
  have hc:=iI hlt
  have hw:=fG (i:=i) (by omega)
  by_cases h0:i=0
  ·have hc0:decide ((0:Int)<(i:Int))=false:=by simp;omega
   have R:=And.intro @he (And.intro @hc (And.intro @hw (And.intro @hc0 (And.intro @Bw (And.intro @bg @J)))))
   repeat' ((first
    |(with_reducible refine .guard (fun hb =>?_) (fun hb =>?_) <;>try simp only[hb])
    |refine U.aW (by decide +kernel) rfl fun K hK =>?_
    |refine .flat _ (yq _) rfl ?_
    |refine .flat _ (yr _ _) rfl ?_
    |(refine .aO [0,2,3,4,7,8,9,10,11,33] hK ?_;clear hK K)
    |(with_reducible refine .done (hK _ ?_);clear hK K)
    |refine U.of rfl ?_
    |(with_reducible refine ar.aU (fun h =>?_) (fun h =>?_) <;>try simp only[h])) <;>try simp only[aX,R,simprocAttr])
   all_goals clear R
   all_goals first
    |(refine ⟨i+1,⟨by omega,I0 hi.2 (by simp_all[jZ])⟩,by omega,?_⟩;(refine aE.bP ?_ ?_ ?_ ?_ <;>simp[aT,bJ,bI,bd,aV,I.only,bt]))
    |(rw[Jr hlt (by simp_all[jZ])];rfl)
  ·have he2:=m0 (l:=l) (i:=i-1) (by omega)
   have hw2:=ahY (i:=i) (by omega) (by omega)
   have hc0:decide ((0:Int)<(i:Int))=true:=by simp;omega
   have R:=And.intro @he (And.intro @hc (And.intro @hw (And.intro @he2 (And.intro @hw2 (And.intro @hc0 (And.intro @Bw (And.intro @bg @J)))))))
   repeat' ((first
    |(with_reducible refine .guard (fun hb =>?_) (fun hb =>?_) <;>try simp only[hb])
    |refine U.aW (by decide +kernel) rfl fun K hK =>?_
    |refine .flat _ (yq _) rfl ?_
    |refine .flat _ (yr _ _) rfl ?_
    |(refine .aO [0,2,3,4,7,8,9,10,11,33] hK ?_;clear hK K)
    |(with_reducible refine .done (hK _ ?_);clear hK K)
    |refine U.of rfl ?_
    |(with_reducible refine ar.aU (fun h =>?_) (fun h =>?_) <;>try simp only[h])) <;>try simp only[aX,R,simprocAttr])
   all_goals clear R
   all_goals first
    |(refine ⟨i+1,⟨by omega,I0 hi.2 (by simp_all[jZ])⟩,by omega,?_⟩;(refine aE.bP ?_ ?_ ?_ ?_ <;>simp[aT,bJ,bI,bd,aV,I.only,bt]))
    |(rw[Jr hlt (by simp_all[jZ])];rfl)
 ·have hc:=jx hlt
  have R:=And.intro @hc (And.intro @bg @J)
  repeat' ((first
   |(with_reducible refine .guard (fun hb =>?_) (fun hb =>?_) <;>try simp only[hb])
   |refine U.aW (by decide +kernel) rfl fun K hK =>?_
   |(refine .aO [0,2,3,4,7,8,9,10,11,33] hK ?_;clear hK K)
   |(with_reducible refine .done (hK _ ?_);clear hK K)
   |refine U.of rfl ?_
   |(with_reducible refine ar.aU (fun h =>?_) (fun h =>?_) <;>try simp only[h])) <;>try simp only[aX,R,simprocAttr])
  all_goals clear R
  rw[Js hl6 fun j hj=>hi.2 j (by omega)];rfl
def cv(k:Nat)(ws:List Int):List (Nat×ah):=[(k,.box (.agg (ws.map enc)))]
theorem nS(p:Nat→Bool)(l:List Int):(I.agg (l.map enc)).only p=true:=by simp only[I.only];exact eh p l
theorem aeg(l:List Int):(I.agg (l.map enc)).cV=true:=by simp only[I.cV];exact wB l
theorem nj{ws:List Int} : ∀ m,al (cv 1000000 ws) m=true→1000000≤m:=fun m hm=>by rw[df.1 hm];exact Nat.le_refl _
def j9(ws:List Int)(i j:Nat):List Int:=(ws.set i (ws.getD j 0)).set j (ws.getD i 0)
theorem MJ{A B C:List Int}{x y:Int}{i j:Nat}(hi:A.length=i)(hj:A.length+1+B.length=j):j9 (A++x::B++y::C) i j=A++y::B++x::C:=by
 subst hi hj
 have e1:(A++x::B++y::C).getD A.length 0=x:=by simp[List.getD_eq_getElem?_getD,List.append_assoc]
 have e2:(A++x::B++y::C).getD (A.length+1+B.length) 0=y:=by
  rw[List.getD_eq_getElem?_getD,List.getElem?_append_right (by simp;omega)]
  simp[]
  have:A.length+1+B.length-(A.length+(B.length+1))=0:=by omega
  rw[this];rfl
 simp only[j9,e1,e2]
 rw[List.append_assoc,List.set_append_right _ _ (Nat.le_refl _),Nat.sub_self,List.cons_append,List.set_cons_zero]
 rw[List.set_append_right _ _ (by omega)]
 have:A.length+1+B.length-A.length=(B.length)+1:=by omega
 rw[this,List.set_cons_succ,List.set_append_right _ _ (Nat.le_refl _),Nat.sub_self,List.set_cons_zero]
 simp
theorem jd{n i:Nat}(h:i<n)(fs:List I):l7 1000000 [] 1 0 n 1 (i:Int) (some fs)=some (.ptr 1000000 [i]):=by
 have:=IH (m:=1000000) (sz:=1) (lo:=0) (l:=n) (i:=i) (fs:=fs) h
 rwa [Nat.zero_add] at this
theorem kb(x y:Nat)(h:x+y<9223372036854775807):IntKind.i64.wrap ((x:Int)+(y:Int))=((x+y:Nat):Int):=by rw[cA _ (by omega) (by omega)];omega
theorem iv{x y:Nat}(h:y≤x)(hx:x<9223372036854775807):IntKind.i64.wrap ((x:Int)-(y:Int))=((x-y:Nat):Int):=by rw[cA _ (by omega) (by omega)];omega
def jJ(p x y z q:List Int)(i:Nat):List Int:=p++(z.take i++x.drop i)++y++(x.take i++z.drop i)++q
theorem ahB{p x y z q:List Int}{i a b:Nat}(hx:i<x.length)(hz:z.length=x.length)(ha:p.length=a)(hb:a+x.length+y.length=b):j9 (jJ p x y z q i) (a+i) (b+i)=jJ p x y z q (i+1):=by
 have e1:jJ p x y z q i=(p++z.take i)++x[i]::(x.drop (i+1)++y++x.take i)++z[i]::(z.drop (i+1)++q):=by
  simp only[jJ]
  rw[List.drop_eq_getElem_cons hx,List.drop_eq_getElem_cons (l:=z) (by omega)]
  simp only[List.append_assoc,List.cons_append]
 have e2:jJ p x y z q (i+1)=(p++z.take i)++z[i]::(x.drop (i+1)++y++x.take i)++x[i]::(z.drop (i+1)++q):=by
  simp only[jJ]
  rw[List.take_succ_eq_append_getElem hx,List.take_succ_eq_append_getElem (l:=z) (by omega)]
  simp only[List.append_assoc,List.cons_append,List.nil_append]
 rw[e1,e2]
 refine MJ ?_ ?_
 ·simp;omega
 ·simp;omega
theorem ahA(p x y z q:List Int)(i:Nat)(hz:z.length=x.length)(hi:i≤x.length):(jJ p x y z q i).length=p.length+x.length+y.length+x.length+q.length:=by
 simp only[jJ,List.length_append,List.length_take,List.length_drop];omega
def xO(ws:List Int):cS:=fun r os'=>r=.tuple []∧os'=cv 1000000 ws
theorem ng{ts:List (Nat×I)}{ws ws':List Int}{os:List (Nat×ah)}{post:cS}(hl:aj os 1000000=some (.box (.agg (ws.map enc))))(he:ws=ws')(hp:post (.tuple []) (cv 1000000 ws')):kP [] post (au ts os):=by
 subst he
 exact ⟨cv 1000000 ws,[],mS hl (fun p=>nS p _),trivial,hp⟩
theorem tT(p x y z q:List Int)(a b n k:Nat)(f:I)(hz:z.length=x.length)(ha:p.length=a)(hb:a+x.length+y.length=b)(hk:x.length=k)(hn:b+k≤n)(hN:n≤1000) :
  cD Tryz.prog 216 [.view 1000000 [] 1 0 n,enc (a:Int),enc (b:Int),enc (k:Int),f] (cv 1000000 (p++x++y++z++q)) (xO (p++z++y++x++q)):=by
 refine cD.bu Tryz.func216 QH Ss Ur (Nat.le_of_ble_eq_true rfl) (Nat.le_of_ble_eq_true rfl) nj (fun hwf W0 D0 E1 =>?_)
 simp only[AA,Lc,bp,Nat.zero_add,Nat.reduceAdd]
 clear hwf
 refine .ak (by decide +kernel) fun K hK =>?_
 simp only[Gq,J,simprocAttr]
 refine .done (hK _ ?_);clear hK K
 refine U.block (U.loop (fun i:Nat=>au [(0,.view 1000000 [] 1 0 n),(1,.int .i64 a),(2,.int .i64 b),(3,.int .i64 k),(10,.int .i64 i)] (cv 1000000 (jJ p x y z q i))) (fun i=>i≤k) (fun i=>k-i) 0 (by omega) ?_ (fun i hi =>?_))
 ·have e:jJ p x y z q 0=p++x++y++z++q:=by simp[jJ]
  rw[e]
  simp only[cv]
  refine aE.bP ?_ ?_ ?_ ?_ <;>simp[aT,bJ,bI,bd,al,aV,cw,I.only,ah.only,eh,gw]
 by_cases hlt:i<k
 ·have hc:=iI hlt
  have hw:=fG (i:=i) (by omega)
  have w1:=kb a i (by omega)
  have w2:=kb b i (by omega)
  have hst:=ahB (p:=p) (q:=q) (i:=i) (by omega) hz ha hb
  have hl:=ahA p x y z q i hz (by omega)
  simp only[cv]
  generalize jJ p x y z q i=ws at hst hl
  have v1:=jd (n:=n) (i:=a+i) (by omega)
  have v2:=jd (n:=n) (i:=b+i) (by omega)
  have l1:=gE (xs:=ws) (i:=a+i) (by omega)
  have l2:=gE (xs:=ws) (i:=b+i) (by omega)
  have s1:=fun (A:ab) v u rest=>nt (A:=A) (n:=1000000) (xs:=ws) (i:=a+i) (by omega) v u rest
  obtain ⟨ws2,hws2⟩:∃ ws2,ws2=ws.set (a+i) (ws.getD (b+i) 0):=⟨_,rfl⟩
  have s2:=fun (A:ab) v u rest=>nt (A:=A) (n:=1000000) (xs:=ws2) (i:=b+i) (by rw[hws2];simp;omega) v u rest
  have l3:=gE (xs:=ws2) (i:=b+i) (by rw[hws2];simp;omega)
  have R:=And.intro @hc (And.intro @hw (And.intro @w1 (And.intro @w2 (And.intro @v1 (And.intro @v2 (And.intro @l1 (And.intro @l2 (And.intro @s1 (And.intro @s2 (And.intro @l3 (And.intro @eB (And.intro @bg @J))))))))))))
  repeat' ((first
   |(with_reducible refine .guard (fun hb =>?_) (fun hb =>?_) <;>try simp only[hb])
   |refine U.aW (by decide +kernel) rfl fun K hK =>?_
   |(refine .aO [0,1,2,3,10,13] hK ?_;clear hK K)
   |(with_reducible refine .done (hK _ ?_);clear hK K)
   |refine U.of rfl ?_
   |(with_reducible refine ar.aU (fun h =>?_) (fun h =>?_) <;>try simp only[h])) <;>try simp only[aX,R,←hws2,simprocAttr])
  all_goals clear R
  refine ⟨i+1,by omega,by omega,?_⟩
  rw[←hst]
  simp only[j9,←hws2]
  generalize ws2.set _ _=ws3
  refine aE.bP ?_ ?_ ?_ ?_ <;>simp[aT,bJ,bI,bd,al,aV,cw,I.only,ah.only,eh]
 ·have hc:=jx hlt
  have he:i=k:=by omega
  subst he
  have R:=And.intro @hc (And.intro @bg @J)
  repeat' ((first
   |(with_reducible refine .guard (fun hb =>?_) (fun hb =>?_) <;>try simp only[hb])
   |refine U.aW (by decide +kernel) rfl fun K hK =>?_
   |(refine .aO [0,1,2,3,10,13] hK ?_;clear hK K)
   |(with_reducible refine .done (hK _ ?_);clear hK K)
   |refine U.of rfl ?_
   |(with_reducible refine ar.aU (fun h =>?_) (fun h =>?_) <;>try simp only[h])) <;>try simp only[aX,R,simprocAttr])
  all_goals clear R
  rw[lF]
  refine ng rfl ?_ ⟨rfl,rfl⟩
  have h1:z.take i=z:=List.take_of_length_le (by omega)
  have h2:x.take i=x:=List.take_of_length_le (by omega)
  have h3:z.drop i=[]:=List.drop_eq_nil_of_le (by omega)
  have h4:x.drop i=[]:=List.drop_eq_nil_of_le (by omega)
  simp only[jJ,h1,h2,h3,h4,List.append_nil]
end Go.Proofs.YtcldiigclhgafaaGreat
namespace Go.Proofs.YtcldiigclhgafaaGreat
open Go Go.Abs Go.Shelf
open Go.Abs.Enc (enc)
def ad3:Go.Shelf.Ren:=⟨fun | 189=>107 | 125=>148 | 257=>147 | 128=>188 | 129=>189 | 294=>179 | 295=>180 | 296=>181 | 297=>182 | 298=>183 | 299=>184 | 216=>185 | 300=>186 | 301=>187 | 328=>205 | 329=>206 | 330=>207 | 331=>208 | 332=>209 | 215=>194 | 343=>214 | n=>n,fun | 28=>29 | 3=>3 | 46=>193 | 0=>0 | 51=>217 | 53=>219 | 4=>4 | 183=>210 | 182=>209 | 131=>150 | 5=>5 | 9=>9 | 218=>230 | 222=>234 | 228=>236 | 229=>237 | n=>n,fun | n=>n⟩
theorem IJ:Go.Proofs.Lays.n189 Tryz.prog ad3 := {
 mixed:=by kernel_rfl
 f125:=Tryz.func148.trans (congrArg some (by kernel_rfl))
 f128:=Tryz.func188.trans (congrArg some (by kernel_rfl))
 f129:=Tryz.func189.trans (congrArg some (by kernel_rfl))
 f189:=Tryz.func107.trans (congrArg some (by kernel_rfl))
 f215:=Tryz.func194.trans (congrArg some (by kernel_rfl))
 f216:=Tryz.func185.trans (congrArg some (by kernel_rfl))
 f257:=Tryz.func147.trans (congrArg some (by kernel_rfl))
 f294:=Tryz.func179.trans (congrArg some (by kernel_rfl))
 f295:=Tryz.func180.trans (congrArg some (by kernel_rfl))
 f296:=Tryz.func181.trans (congrArg some (by kernel_rfl))
 f297:=Tryz.func182.trans (congrArg some (by kernel_rfl))
 f298:=Tryz.func183.trans (congrArg some (by kernel_rfl))
 f299:=Tryz.func184.trans (congrArg some (by kernel_rfl))
 f300:=Tryz.func186.trans (congrArg some (by kernel_rfl))
 f301:=Tryz.func187.trans (congrArg some (by kernel_rfl))
 f328:=Tryz.func205.trans (congrArg some (by kernel_rfl))
 f329:=Tryz.func206.trans (congrArg some (by kernel_rfl))
 f330:=Tryz.func207.trans (congrArg some (by kernel_rfl))
 f331:=Tryz.func208.trans (congrArg some (by kernel_rfl))
 f332:=Tryz.func209.trans (congrArg some (by kernel_rfl))
 f343:=Tryz.func214.trans (congrArg some (by kernel_rfl))
 t0:=Tryz.underlying0
 a0:=Tryz.isAgg0
 z0:=Tryz.sizeOf0
 v0:=Tryz.zeroValue0
 t3:=Tryz.underlying3
 a3:=Tryz.isAgg3
 z3:=Tryz.sizeOf3
 v3:=Tryz.zeroValue3
 t4:=Tryz.underlying4
 a4:=Tryz.isAgg4
 z4:=Tryz.sizeOf4
 v4:=Tryz.zeroValue4
 t5:=Tryz.underlying5
 a5:=Tryz.isAgg5
 z5:=Tryz.sizeOf5
 v5:=Tryz.zeroValue5
 t9:=Tryz.underlying9
 a9:=Tryz.isAgg9
 z9:=Tryz.sizeOf9
 v9:=Tryz.zeroValue9
 t28:=Tryz.underlying29
 a28:=Tryz.isAgg29
 z28:=Tryz.sizeOf29
 v28:=Tryz.zeroValue29
 t46:=Tryz.underlying193
 a46:=Tryz.isAgg193
 z46:=Tryz.sizeOf193
 v46:=Tryz.zeroValue193
 t51:=Tryz.underlying217
 a51:=Tryz.isAgg217
 z51:=Tryz.sizeOf217
 v51:=Tryz.zeroValue217
 t53:=Tryz.underlying219
 a53:=Tryz.isAgg219
 z53:=Tryz.sizeOf219
 v53:=Tryz.zeroValue219
 t131:=Tryz.underlying150
 a131:=Tryz.isAgg150
 z131:=Tryz.sizeOf150
 v131:=Tryz.zeroValue150
 t182:=Tryz.underlying209
 a182:=Tryz.isAgg209
 z182:=Tryz.sizeOf209
 v182:=Tryz.zeroValue209
 t183:=Tryz.underlying210
 a183:=Tryz.isAgg210
 z183:=Tryz.sizeOf210
 v183:=Tryz.zeroValue210
 t218:=Tryz.underlying230
 a218:=Tryz.isAgg230
 z218:=Tryz.sizeOf230
 v218:=Tryz.zeroValue230
 t222:=Tryz.underlying234
 a222:=Tryz.isAgg234
 z222:=Tryz.sizeOf234
 v222:=Tryz.zeroValue234
 t228:=Tryz.underlying236
 a228:=Tryz.isAgg236
 z228:=Tryz.sizeOf236
 v228:=Tryz.zeroValue236
 t229:=Tryz.underlying237
 a229:=Tryz.isAgg237
 z229:=Tryz.sizeOf237
 v229:=Tryz.zeroValue237 }
def dC(xs:List Int):List Int:=xs.mergeSort fun x y=>decide (x≤y)
theorem LP{w:World}{D:aH}{E:aS} : ∀ {xs:List Int} {cs:List Value},aF w D E (xs.map enc) cs→cs=xs.map (Value.int .i64)∧∀ x∈xs,IntKind.i64.min≤x∧x≤IntKind.i64.max
 | [],cs,h=>by
  simp only[List.map_nil,aF] at h
  subst h;exact ⟨rfl,by simp⟩
 |x::xs,cs,h=>by
  simp only[List.map_cons,aF] at h
  obtain ⟨c1,c2,rfl,h1,h2⟩:=h
  obtain ⟨rfl,h3⟩:=LP h2
  have h1':c1=[.int .i64 x]∧IntKind.i64.min≤x∧x≤IntKind.i64.max:=h1
  obtain ⟨rfl,h4⟩:=h1'
  refine ⟨rfl,fun y hy =>?_⟩
  rcases List.mem_cons.1 hy with rfl | hy
  ·exact h4
  ·exact h3 y hy
theorem qM{w:World}{D:aH}{E:aS} : ∀ {xs:List Int},(∀ x∈xs,IntKind.i64.min≤x∧x≤IntKind.i64.max)→aF w D E (xs.map enc) (xs.map (Value.int .i64))
 | [],_=>rfl
 |x::xs,h=>⟨[.int .i64 x],xs.map (Value.int .i64),rfl,⟨rfl,h x (by simp)⟩,qM fun y hy=>h y (by simp[hy])⟩
theorem qV(xs:List Int):(I.agg (xs.map enc)).aJ=.dZ (List.replicate xs.length .one):=by
 show cI.dZ (I.cQ _)=_
 congr 1
 induction xs with
 |nil=>rfl
 |cons x xs ih=>simp only[List.map_cons,I.cQ,ih,List.length_cons,List.replicate_succ];rfl
theorem agw{xs ys q:List Int}(hl:ys.length=xs.length){cs:Array Value}(hc:cs.toList=(xs++q).map (Value.int .i64)):(Sort.putCells (Value.int .i64) 0 ys.toArray cs).toList=(ys++q).map (Value.int .i64):=by
 apply List.ext_getElem?
 intro k
 have h1:cs[k]?=((xs++q).map (Value.int .i64))[k]?:=by rw[←hc,Array.getElem?_toList]
 rw[Array.getElem?_toList,Sort.putCells,Array.getElem?_mapIdx,h1]
 simp only[List.getElem?_map,List.size_toArray,Nat.zero_le,true_and,Nat.zero_add,Nat.sub_zero]
 by_cases hk:k<ys.length
 ·simp only[hk,if_true]
  rw[List.getElem?_append_left (by omega),List.getElem?_append_left hk,List.getElem?_eq_getElem (by omega),List.getElem?_eq_getElem hk]
  simp[hk]
 ·simp only[hk,if_false]
  rw[List.getElem?_append_right (by omega),List.getElem?_append_right (by omega),hl]
  cases (q[k-xs.length]?) <;>rfl
open Go.Sort Go.RowKit in
theorem M7(xs q:List Int)(hn:xs.length≤60):cD Tryz.prog 107 [.view 1000000 [] 1 0 xs.length] (cv 1000000 (xs++q)) (xO (dC xs++q)):=by
 refine ⟨Bb,fun w D E vs _ hD hO hv =>?_⟩
 have ho:=hO.bR 1000000
 simp only[cv,aj,if_true] at ho
 obtain ⟨b,cs,T,aq,-,hb,hr,hnD⟩:=ho
 have hEn:∀ n,n≠1000000→E n=none:=fun n hn=>by
  have:=hO.bR n
  simpa only[cv,aj,if_neg hn,cZ] using this
 simp only[aD] at hv
 obtain ⟨v,rest,cs',rfl,hp,hr',rfl⟩:=hv
 obtain ⟨b',aJ,off,l,hE',hoff,hpart,rfl,hl1,hl2,hl3⟩:=hr'
 rw[aq] at hE'
 simp only[Option.some.injEq,bO.aw.injEq] at hE'
 obtain ⟨rfl,rfl⟩:=hE'
 have hoff':off=0:=by
  have:(some 0:Option Nat)=some off:=by rw[←hoff];rw[qV];rfl
  injection this with this;exact this.symm
 subst hoff'
 have hp':v=.slice (some ⟨b,0,none⟩) xs.length (l.length-0):=by
  have:[Value.slice (some ⟨b,0+0*1,none⟩) xs.length (l.length-0)]=[v]:=hp
  simpa using this.symm
 subst hp'
 obtain ⟨hcs,hrg⟩:=LP hr
 have hbs:b<w.heap.size:=(Array.getElem?_eq_some_iff.1 hb).1
 have hH:Holds (Value.int .i64) w b 0 xs.toArray:=fun j hj=>by
  simp only[List.size_toArray] at hj
  constructor
  ·simp only[World.cell?,hb,Option.isSome_none,Bool.false_eq_true,if_false,Nat.zero_add]
   rw[←Array.getElem?_toList,hcs]
   rw[List.map_append,List.getElem?_append_left (by simpa using hj)]
   simp[hj]
  ·simp[World.frozen?,hb]
 have hlen:(dC xs).length=xs.length:=by simp[dC]
 refine (Any.slices_Sort_int IJ b 0 (l.length-0) xs w hH hbs (by omega)).mono ?_
 rintro e w' ⟨rfl,n,os,rfl⟩
 have hb1:(putRow (Value.int .i64) (Sort.ahead w n) b 0 (dC xs).toArray).heap[b]?=some (.cells (putCells (Value.int .i64) 0 (dC xs).toArray cs) T (0,0)):=by
  simp[putRow,mapBlock,Sort.ahead,Array.getElem?_modify,hb,onCells]
 have hother:∀ k,k<w.heap.size→k≠b→(grow (putRow (Value.int .i64) (Sort.ahead w n) b 0 (dC xs).toArray) os).heap[k]?=w.heap[k]?:=fun k hk hkb=>by
  rw[heap_grow_old _ _ (by simpa[Sort.ahead] using hk)]
  simp[putRow,mapBlock,Sort.ahead,Array.getElem?_modify,Ne.symm hkb]
 have hb2:(grow (putRow (Value.int .i64) (Sort.ahead w n) b 0 (dC xs).toArray) os).heap[b]?=some (.cells (putCells (Value.int .i64) 0 (dC xs).toArray cs) T (0,0)):=by
  rw[heap_grow_old _ _ (by simpa[Sort.ahead] using hbs)];exact hb1
 have hsz:w.heap.size≤(grow (putRow (Value.int .i64) (Sort.ahead w n) b 0 (dC xs).toArray) os).heap.size:=by simp[Sort.ahead]
 have hshow:(grow (putRow (Value.int .i64) (Sort.ahead w n) b 0 (xs.mergeSort fun x y=>decide (x≤y)).toArray) os)=(grow (putRow (Value.int .i64) (Sort.ahead w n) b 0 (dC xs).toArray) os):=rfl
 rw[hshow]
 have hw1:(grow (putRow (Value.int .i64) (Sort.ahead w n) b 0 (dC xs).toArray) os).os=w.os:=rfl
 have hw2:(grow (putRow (Value.int .i64) (Sort.ahead w n) b 0 (dC xs).toArray) os).tape=w.tape:=rfl
 have hw3:(grow (putRow (Value.int .i64) (Sort.ahead w n) b 0 (dC xs).toArray) os).output=w.output:=rfl
 revert hother hb2 hsz hw1 hw2 hw3
 generalize grow (putRow (Value.int .i64) (Sort.ahead w n) b 0 (dC xs).toArray) os=w2
 intro hother hb2 hsz hw1 hw2 hw3
 have hmem:∀ x∈dC xs++q,IntKind.i64.min≤x∧x≤IntKind.i64.max:=fun x hx=>hrg x (by
  rcases List.mem_append.1 hx with h | h
  ·exact List.mem_append_left _ (by simpa[dC] using h)
  ·exact List.mem_append_right _ h)
 refine ⟨.tuple #[],D,E,.tuple [],cv 1000000 (dC xs++q),rfl,⟨rfl,rfl⟩,⟨[],rfl,rfl⟩,⟨fun m =>?_,hO.cN⟩,⟨hw1,hw2,hw3,hsz,fun k hk =>?_⟩,fun _ _ h=>h,fun b0 o h=>Nat.lt_of_lt_of_le (hD b0 o h) hsz,fun _ _ h _ _=>h,fun m e h _=>⟨e,h,bO.le.refl e⟩,⟨fun b0 o u hd hc =>?_,fun b0 es ck hd hc =>?_⟩⟩
 ·by_cases hm:m=1000000
  ·subst hm
   simp only[cv,aj,if_true]
   refine ⟨b,_,T,?_,.inr ⟨1000000,_,aq,rfl⟩,hb2,?_,hnD⟩
   ·rw[aq,qV,qV,List.length_append,List.length_append,hlen]
   ·show aF w2 D E _ _
    rw[agw hlen hcs]
    exact qM hmem
  ·simp only[cv,aj,if_neg hm,cZ]
   exact hEn m hm
 ·by_cases hk2:k<w.heap.size
  ·exact hother k hk2 fun e=>hk (.inr ⟨1000000,_,aq,by rw[e];rfl⟩)
  ·exact absurd (.inl (Nat.le_of_not_lt hk2)) hk
 ·have hne:b0≠b:=fun e=>hnD o (e▸hd)
  simp only[World.cell?,hother b0 (hD b0 o hd) hne] at hc ⊢
  exact hc
 ·have hne:b0≠b:=fun e=>hnD 0 (e▸hd)
  rw[hother b0 (hD b0 0 hd) hne];exact hc
theorem M8(v:I)(hv0:v=.nils 1∨v=enc ([]:List Int)):aB Tryz.prog 107 [v] (.tuple []):=by
 refine ⟨Bb,fun w D vs hD hv =>?_⟩
 simp only[aD] at hv
 obtain ⟨u,rest,cs',rfl,hp,hr',rfl⟩:=hv
 have hu:∃ a cap,u=.slice a 0 cap:=by
  rcases hv0 with rfl | rfl
  ·have h1:cs'=[.slice none 0 0]:=hr'
   have h2:cs'=[u]:=hp
   rw[h1] at h2
   exact ⟨none,0,by simpa using h2.symm⟩
  ·obtain ⟨a,cap,h1,_⟩:=hr'
   have h2:cs'=[u]:=hp
   rw[h1] at h2
   exact ⟨a,cap,by simpa using h2.symm⟩
 obtain ⟨a,cap,rfl⟩:=hu
 refine (Any.slices_Sort_int_none IJ a cap w).mono ?_
 rintro e w' ⟨rfl,rfl⟩
 exact ⟨.tuple #[],D,rfl,⟨[],rfl,rfl⟩,⟨rfl,rfl,rfl,Nat.le_refl _,fun _ _=>rfl⟩,hD,fun _ _ h _=>h⟩
end Go.Proofs.YtcldiigclhgafaaGreat
namespace Go.Proofs.YtcldiigclhgafaaGreat
open Go Go.Abs
open Go.Abs.Enc (enc)
theorem sj{os os2 ow:List (Nat×ah)}{ts:List (Nat×I)}(h:fh os os2)(how:∀ m,al ow m=true→m<1000000):∀ n x,aj os2 n=some x→(au ts (ow++os2)).o n=some x∧x.only (al os2)=true∧x.eL=true:=fun n x hx=>by
 have hn:al os2 n=true:=by simp[al,hx]
 have hg:=h.nL n (by rw[←h.same];exact hn)
 refine ⟨?_,h.ok n x hx⟩
 simp only[au,jX]
 cases hw:aj ow n with
 |none=>exact hx
 |some y=>have:=how n (by simp[al,hw]);omega
def yl:aM 5 Int:=⟨List.replicate 5 0,rfl⟩
theorem Wn:I.agg [.int .i64 0,.int .i64 0,.int .i64 0,.int .i64 0,.int .i64 0]=enc yl:=rfl
def jO(a b:Int):Int:=IntKind.i64.wrap ((BitVec.ofInt IntKind.i64.bits a ||| BitVec.ofInt IntKind.i64.bits b).toNat:Int)
def tI(c:List Int)(k:Nat)(x:aM 5 Int):aM 5 Int :=
 if bL c k%12<5 then gB (gB x k (shl 1 k)) k (jO ((gB x k (shl 1 k)).g k) (shl 1 (bL c k%12).toNat)) else gB x k (shl 1 k)
def fv(c:List Int):Nat→aM 5 Int
 |0=>yl
 |k+1=>tI c k (fv c k)
theorem Of(c:List Int)(hc:c.length≤4611686018427387904):aB Tryz.prog 85 [enc c] (enc (fv c 5)):=by
 refine aB.bu Tryz.func85 Q7 SR UQ (Nat.le_of_ble_eq_true rfl) (fun hwf W0 D0 E1 =>?_)
 simp only[AZ,LB,bp]
 refine .ak (by decide +kernel) fun K hK =>?_
 simp only[Hm,J,simprocAttr]
 refine .done (hK _ ?_);clear hK K
 refine .ak (by decide +kernel) fun K hK =>?_
 simp only[Hn,J,simprocAttr]
 simp only[Wn]
 refine .done (hK _ ?_);clear hK K
 refine U.seq (U.seq ?_)
 refine .bj (by decide +kernel) fun K hK =>?_
 simp only[Ho,J,simprocAttr]
 refine .done (hK _ ?_);clear hK K;try simp only[ao]
 refine U.block (U.loop (fun k:Nat=>au [(0,enc c),(2,.ptr 2 []),(3,.ptr 3 []),(4,.int .i64 k)] [(2,.box (enc yl)),(3,.box (enc (fv c k)))]) (fun k=>k≤5) (fun k=>5-k) 0 (by omega) ?_ (fun k hk =>?_))
 ·refine aE.bP ?_ ?_ ?_ ?_ <;>simp[aT,bJ,bI,bd,al,aV,cw,I.only,ah.only,bt]
  all_goals rfl
 refine U.seq (U.seq ?_)
 refine .bj (by decide +kernel) fun K hK =>?_
 simp only[Hp,J,simprocAttr]
 refine .done (hK _ ?_);clear hK K;try simp only[ao]
 refine U.bD ?_
 simp only[ar,J,simprocAttr]
 refine ⟨fun h =>?_,fun h =>?_⟩
 ·have hlt:k<5:=by simp at h;omega
  refine U.skip ?_;try simp only[ao,simprocAttr]
  refine U.seq (U.block ?_)
  refine .ak (by decide +kernel) fun K hK =>?_
  simp only[Hq,J,simprocAttr]
  try simp only[bK,jb 1 (fv c k) hlt rfl,eF (fv c k) hlt,ox (fv c k) hlt,J,simprocAttr]
  refine .done (hK _ ?_);clear hK K
  refine .ak (by decide +kernel) fun K hK =>?_
  simp only[Hr,J,simprocAttr]
  try simp only[cT,J,simprocAttr]
  refine .flat _ (lN c k hc) rfl ?_
  try simp only[J,simprocAttr]
  refine .flat _ (gC (bL c k) 12 (by omega) (by omega)) rfl ?_
  try simp only[J,simprocAttr]
  refine .done (hK _ ?_);clear hK K
  refine .ak (by decide +kernel) fun K hK =>?_
  simp only[Hs,J,simprocAttr]
  refine .done (hK _ ?_);clear hK K
  have h0:0≤bL c k%12:=Int.emod_nonneg _ (by omega)
  refine U.bD ?_
  simp only[ar,J,simprocAttr]
  refine ⟨fun h =>?_,fun h =>?_⟩
  ·have h5:bL c k%12<5:=by simpa using h
   have e1:IntKind.i64.wrap (1*2^min k IntKind.i64.bits)=shl 1 k:=rfl
   refine .bj (by decide +kernel) fun K hK =>?_
   simp only[Ht,J,simprocAttr]
   try simp only[e1,bK,jb 1 (gB (fv c k) k (shl 1 k)) hlt rfl,eF (gB (fv c k) k (shl 1 k)) hlt,h0,J,simprocAttr]
   try simp only[ox (gB (fv c k) k (shl 1 k)) hlt,J,simprocAttr]
   refine .done (hK _ ?_);clear hK K;try simp only[ao,bH]
   refine .bj (by decide +kernel) fun K hK =>?_
   simp only[vJ,J,simprocAttr]
   refine .done (hK _ ?_);clear hK K;try simp only[ao]
   refine ⟨k+1,by omega,by omega,?_⟩
   rw[cA _ (by omega) (by omega)]
   simp only[fv,tI,if_pos h5]
   refine aE.bP ?_ ?_ ?_ ?_ <;>simp[aT,bJ,bI,bd,al,aV,cw,I.only,ah.only,bt]
   all_goals simp[jO,shl]
  ·have h5:¬ bL c k%12<5:=by simpa using h
   refine U.skip ?_;try simp only[ao,bH,simprocAttr]
   refine .bj (by decide +kernel) fun K hK =>?_
   simp only[vJ,J,simprocAttr]
   refine .done (hK _ ?_);clear hK K;try simp only[ao]
   refine ⟨k+1,by omega,by omega,?_⟩
   rw[cA _ (by omega) (by omega)]
   simp only[fv,tI,if_neg h5]
   refine aE.bP ?_ ?_ ?_ ?_ <;>simp[aT,bJ,bI,bd,al,aV,cw,I.only,ah.only,bt]
   all_goals simp[shl]
 ·have hge:k=5:=by simp at h;omega
  subst hge
  refine U.exit ?_;try simp only[ao,bH,simprocAttr]
  refine .ak (by decide +kernel) fun K hK =>?_
  simp only[Hu,J,simprocAttr]
  try simp only[cC,J,simprocAttr]
  rw[ep (dG _) (by rw[fJ];rfl) ((eH _).trans (eH _).symm)]
  try simp only[J,simprocAttr]
  refine .done (hK _ ?_);clear hK K
  refine U.ret ?_
  simp only[J,simprocAttr]
  try simp only[cC,cT,J,simprocAttr]
def km(k:Nat):Nat→Int
 |0=>((k / 5 / 5 / 5 / 5 / 5%5:Nat):Int)
 |1=>((k / 5 / 5 / 5 / 5%5:Nat):Int)
 |2=>((k / 5 / 5 / 5%5:Nat):Int)
 |3=>((k / 5 / 5%5:Nat):Int)
 |4=>((k / 5%5:Nat):Int)
 |5=>((k%5:Nat):Int)
 |_=>0
def rQ(k:Nat):aM 6 Int:=⟨[km k 0,km k 1,km k 2,km k 3,km k 4,km k 5],rfl⟩
theorem VT(k i:Nat):0≤km k i∧km k i≤4:=by
 unfold km;split <;>omega
theorem OZ{n:Nat}{x y:aM n Int}(h:x.l=y.l):x=y:=by
 cases x;cases y;simp only at h;subst h;rfl
theorem afO(k:Nat):dH (rQ k)=true:=by
 simp only[dH,List.all_eq_true,List.mem_range]
 intro i hi
 have:(rQ k).g i=km k i:=by
  match i,hi with
  |0,_ | 1,_ | 2,_ | 3,_ | 4,_ | 5,_=>rfl
  |n+6,h=>exact absurd h (by omega)
 rw[this]
 have:=VT k i
 simp[cm,this.1,this.2]
theorem pK{A:ab}{n:Nat}{b:I}{v u:aM 6 Int}{rest:List av} : dS A (some 6) n [] b (enc v) rest (some (enc u))=az rest (A.aL n (.box (enc v))):=by
 rw[ep (dG _) (by rw[fJ];rfl) ((eH _).trans (eH _).symm),gf]
theorem ahs{A:ab}{n:Nat}{b:I}{v u:b7}{rest:List av} : dS A (some 7) n [] b (enc v) rest (some (enc u))=az rest (A.aL n (.box (enc v))):=by
 rw[ep (dG _) (by rw[fJ];rfl) ((eH _).trans (eH _).symm),gf]
theorem MT:∀ k j:Fin 5,(0≤shl 1 k.1∧shl 1 k.1≤31∧gF (shl 1 k.1) k.1=true)∧(0≤jO (shl 1 k.1) (shl 1 j.1)∧jO (shl 1 k.1) (shl 1 j.1)≤31∧gF (jO (shl 1 k.1) (shl 1 j.1)) k.1=true):=by decide +kernel
theorem MU(c:List Int):∀ n,n≤5→∀ j,j<n→0≤(fv c n).g j∧(fv c n).g j≤31∧gF ((fv c n).g j) j=true
 |0,_=>fun j h=>absurd h (by omega)
 |n+1,hn=>fun j hj=>by
  have ih:=MU c n (by omega)
  have hn5:n<5:=by omega
  simp only[fv,tI]
  have h0:0≤bL c n%12:=Int.emod_nonneg _ (by decide)
  split
  ·rename_i h12
   rw[nK _ _ _ _ hn5]
   split
   ·rename_i e
    subst e
    rw[nK _ _ _ _ hn5,if_pos rfl]
    exact (MT ⟨n,hn5⟩ ⟨(bL c n%12).toNat,by omega⟩).2
   ·rw[nK _ _ _ _ hn5,if_neg (by assumption)]
    exact ih j (by omega)
  ·rw[nK _ _ _ _ hn5]
   split
   ·rename_i e
    subst e
    exact (MT ⟨n,hn5⟩ ⟨0,by decide⟩).1
   ·exact ih j (by omega)
theorem afR(c:List Int):gR (fv c 5)=true:=by
 simp only[gR,List.all_eq_true,List.mem_range,Bool.and_eq_true]
 intro k hk
 obtain ⟨h1,h2,h3⟩:=MU c 5 (Nat.le_refl _) k hk
 simp[cm,h1,h2,h3]
theorem aeH(k:Nat):gO (k:Int) 1=((k / 5:Nat):Int)∧gO (k:Int) 2=((k / 5 / 5:Nat):Int)∧gO (k:Int) 3=((k / 5 / 5 / 5:Nat):Int)∧gO (k:Int) 4=((k / 5 / 5 / 5 / 5:Nat):Int)∧gO (k:Int) 5=((k / 5 / 5 / 5 / 5 / 5:Nat):Int):=by
 have h:∀ n:Nat,(n:Int).tdiv 5=((n / 5:Nat):Int):=fun n=>Int.ofNat_tdiv n 5
 simp only[gO,h,and_self]
theorem VU(k:Nat):jP (k:Int) 6=rQ k:=by
 obtain ⟨h1,h2,h3,h4,h5⟩:=aeH k
 have h:∀ n:Nat,(n:Int).tmod 5=((n%5:Nat):Int):=fun n=>Int.ofNat_tmod n 5
 have h0:gO (k:Int) 0=k:=rfl
 refine OZ ?_
 simp only[jP,gB,rQ,km,h0,h1,h2,h3,h4,h5,h]
 rfl
theorem Jz(n:Int):dH (jP (n%15625) 6)=true:=by
 have h0:0≤n%15625:=Int.emod_nonneg _ (by decide)
 have e:n%15625=(((n%15625).toNat:Nat):Int):=by omega
 rw[e,VU]
 exact afO _
theorem aha:∀ k:Fin 5,1≤shl 1 k.1∧shl 1 k.1≤31:=by decide +kernel
theorem Jq{m:bX}{i:Nat} : gq m i=true↔(1≤(cU m i).bN∧(cU m i).bN≤99)∧dH (cU m i).mark=true∧(i=0∨(cU m (i-1)).bN<(cU m i).bN)∧∀ j,j<i→jK m (cU m j).mark (cU m i).mark=false:=by
 simp only[gq,cm,Bool.and_eq_true,Bool.or_eq_true,decide_eq_true_eq,beq_iff_eq,List.all_eq_true,List.mem_range,Bool.not_eq_true']
theorem o5{w:aM 5 Int}{f:Int}{l:List b7}{g:b7}{i:Nat}(h:i<l.length):cU ⟨w,f,l++[g]⟩ i=cU ⟨w,f,l⟩ i:=by
 simp only[cU,List.getD_eq_getElem?_getD,List.getElem?_append_left h]
theorem Im{w:aM 5 Int}{f:Int}{l:List b7}{g:b7} : cU ⟨w,f,l++[g]⟩ l.length=g:=by
 simp[cU,List.getD_eq_getElem?_getD]
def lx(c:List Int)(i:Nat)(o:Int):b7:=⟨o,jP (IntKind.i64.wrap (IntKind.i64.wrap (c.getD i 0*7)+i*2503)%15625) 6⟩
def qA(c:List Int)(i:Nat)(p:Int×List b7):Int×List b7 :=
 (p.1+(1+c.getD i 0%4),if p.2.any (fun h=>jK ⟨fv c 5,bL c 5%2,p.2⟩ h.mark (lx c i 0).mark) then p.2 else p.2++[lx c i (p.1+(1+c.getD i 0%4))])
def cW(c:List Int):Nat→Int×List b7
 |0=>(0,[])
 |i+1=>if i<c.length∧(cW c i).2.length<9 then qA c i (cW c i) else cW c i
def jA(c:List Int)(n:Nat):bX:=⟨fv c 5,bL c 5%2,(cW c n).2⟩
def m8(c:List Int):bX:=jA c 12
theorem I2{c:List Int}{i:Nat}(h:¬ (i<c.length∧(cW c i).2.length<9)):∀ n,i≤n→cW c n=cW c i
 |0,hn=>by
   have:i=0:=by omega
   subst this;rfl
 |n+1,hn=>by
  by_cases e:i=n+1
  ·subst e;rfl
  ·have ih:=I2 h n (by omega)
   simp only[cW,ih]
   rw[if_neg]
   intro hh;exact h ⟨by omega,hh.2⟩
theorem Jb(n:Int):0≤n%4∧n%4<4:=⟨Int.emod_nonneg _ (by decide),Int.emod_lt_of_pos _ (by decide)⟩
theorem wL(c:List Int):∀ n,(0≤(cW c n).1∧(cW c n).1≤4*n)∧(cW c n).2.length≤9∧(cW c n).2.length≤n∧(∀ i,i<(cW c n).2.length→(cU (jA c n) i).bN≤(cW c n).1)∧(n≤12→∀ i,i<(cW c n).2.length→gq (jA c n) i=true)
 |0=>by simp[cW]
 |n+1=>by
  obtain ⟨h1,h2,h3,h4,h5⟩:=wL c n
  have m4:=Jb (c.getD n 0)
  by_cases hc:n<c.length∧(cW c n).2.length<9
  ·have hM:jA c n=⟨fv c 5,bL c 5%2,(cW c n).2⟩:=rfl
   have hM1:jA c (n+1)=⟨fv c 5,bL c 5%2,(cW c (n+1)).2⟩:=rfl
   have hU:cW c (n+1)=qA c n (cW c n):=by simp only[cW,if_pos hc]
   rw[hM1,hU]
   rw[hM] at h4 h5
   generalize cW c n=p at h1 h2 h3 h4 h5 hc
   obtain ⟨o,l⟩:=p
   simp only at h1 h2 h3 h4 h5 hc
   simp only[qA]
   split
   ·refine ⟨by omega,h2,by omega,fun i hi =>?_,fun hn i hi =>?_⟩
    ·have:=h4 i hi;omega
    ·exact h5 (by omega) i hi
   ·rename_i hany
    have hnear:∀ g∈l,jK ⟨fv c 5,bL c 5%2,l⟩ g.mark (lx c n 0).mark=false:=by
     intro g hg
     cases hh:jK ⟨fv c 5,bL c 5%2,l⟩ g.mark (lx c n 0).mark with
     |false=>rfl
     |true=>exact absurd (List.any_eq_true.2 ⟨g,hg,hh⟩) hany
    have ow:(lx c n (o+(1+c.getD n 0%4))).bN=o+(1+c.getD n 0%4):=rfl
    have mk:(lx c n (o+(1+c.getD n 0%4))).mark=(lx c n 0).mark:=rfl
    generalize hg:lx c n (o+(1+c.getD n 0%4))=g at ow mk
    have hmk:dH g.mark=true:=by rw[mk];exact Jz _
    refine ⟨by omega,by simp;omega,by simp;omega,fun i hi =>?_,fun hn i hi =>?_⟩
    ·simp only[List.length_append,List.length_singleton] at hi
     by_cases e:i=l.length
     ·subst e;rw[Im];omega
     ·rw[o5 (by omega)];have:=h4 i (by omega);omega
    ·simp only[List.length_append,List.length_singleton] at hi
     by_cases e:i=l.length
     ·subst e
      rw[Jq,Im]
      refine ⟨by omega,hmk,?_,fun j hj =>?_⟩
      ·by_cases e0:l.length=0
       ·exact .inl e0
       ·right
        rw[o5 (by omega),ow]
        have:=h4 (l.length-1) (by omega)
        omega
      ·rw[o5 hj,mk]
       have:=hnear (cU ⟨fv c 5,bL c 5%2,l⟩ j) (by rw[←ja hj];exact List.getElem_mem hj)
       exact this
     ·have hi':i<l.length:=by omega
      have:=h5 (by omega) i hi'
      rw[Jq] at this ⊢
      rw[o5 hi']
      refine ⟨this.1,this.2.1,?_,fun j hj =>?_⟩
      ·rcases this.2.2.1 with h | h
       ·exact .inl h
       ·right;rw[o5 (by omega)];exact h
      ·rw[o5 (by omega)];exact this.2.2.2 j hj
  ·have hU:cW c (n+1)=cW c n:=by simp only[cW,if_neg hc]
   have hM:jA c (n+1)=jA c n:=by simp only[jA,hU]
   rw[hU,hM]
   exact ⟨by omega,h2,by omega,h4,fun hn=>h5 (by omega)⟩
theorem Jx(c:List Int){n:Nat}(hn:n≤12):ee (jA c n)=true:=by
 obtain ⟨h1,h2,h3,h4,h5⟩:=wL c n
 have m2:0≤bL c 5%2∧bL c 5%2<2:=⟨Int.emod_nonneg _ (by decide),Int.emod_lt_of_pos _ (by decide)⟩
 have e1:cm 0 2 (bL c 5%2)=true:=by simp[cm,m2.1];omega
 have e2:decide ((cW c n).2.length≤40)=true:=by simp;omega
 have e3:(List.range (cW c n).2.length).all (gq (jA c n))=true:=by
  simp only[List.all_eq_true,List.mem_range];exact h5 hn
 simp only[jA] at e3
 simp only[ee,jA,afR,e1,e3,Bool.true_and,Bool.and_true]
 exact e2
theorem afN(c:List Int):ee (m8 c)=true:=Jx c (Nat.le_refl _)
theorem JG{α:Type}[Enc α](l:List α):bU none (enc l)=true:=by simp[lW,mP]
theorem pj:(∀ (x:I) xs (f:I→Bool),(x::xs).all f=(f x&&xs.all f))∧(∀ f:I→Bool,([]:List I).all f=true)∧(∀ n p,(I.ptr n p).b9=true)∧(∀ b,(true&&b)=b) :=
 ⟨fun _ _ _=>List.all_cons,fun _=>List.all_nil,fun _ _=>rfl,fun _=>rfl⟩
theorem pB:∀ m,al [] m=true→m<1000000:=fun m h=>by simp[al,aj] at h
theorem NM(l:List ay)(hl:l.length≤60):tX Tryz.prog 178 [.ref (enc l)] l.length (fun k=>[.int .i64 ((l.length-1-k:Nat):Int),enc (ae l (l.length-1-k))]):=by
 intro Y v ai Ix os hv hY hI hIx h0
 have hG:=hI 0 os h0
 refine kd.bu Tryz.func178 Bf Sb Ub (Nat.le_of_ble_eq_true rfl) (Nat.le_of_ble_eq_true rfl) hG.nL (fun hwf W0 D0 E1 =>?_)
 simp only[Aj,KW,bp,Nat.zero_add]
 refine .ak (by decide +kernel) fun K hK =>?_
 simp only[EZ,J,simprocAttr]
 try simp only[bK,bg,J,simprocAttr]
 rw[cA ((l.length:Int)-1) (by omega) (by omega)]
 refine .done (hK _ ?_);clear hK K
 refine U.block (U.loop (fun s:Nat×List (Nat×ah)=>au [(0,.raw v),(1,.ref (enc l)),(3,.int .i64 ((l.length:Int)-1-s.1))] s.2) (fun s=>s.1≤l.length∧ai s.1 s.2) (fun s=>l.length-s.1) (0,os) ⟨Nat.zero_le _,h0⟩ ?_ ?_)
 ·refine aE.c5 ?_ (fun n=>rfl)
  simp[aT,aV]
 rintro ⟨k,osk⟩ ⟨hk,hIk⟩
 simp only at hk hIk ⊢
 have gk:=hI k osk hIk
 refine U.seq (U.seq ?_)
 refine .bj (by decide +kernel) fun K hK =>?_
 simp only[E0,J,simprocAttr]
 refine .done (hK _ ?_);clear hK K;try simp only[ao]
 refine U.bD ?_
 simp only[ar,J,simprocAttr]
 refine ⟨fun h =>?_,fun h =>?_⟩
 ·have hlt:k<l.length:=by simp at h;omega
  have hix:((l.length:Int)-1-k)=((l.length-1-k:Nat):Int):=by omega
  rw[hix]
  refine U.skip ?_;try simp only[ao,simprocAttr]
  refine U.seq (U.block (U.seq ?_))
  refine .bj (by decide +kernel) fun K hK =>?_
  simp only[E4,J,simprocAttr]
  try simp only[bg,m0 (l:=l) (i:=l.length-1-k) (by omega),Bk,J,simprocAttr]
  refine a7.MY (ow:=[]) (In:=ai (k+1)) (Ix:=Ix) (hY k osk _ hlt hIk (fun r os2 h=>h)) gk (hI _) hIx (by simp[I.bT,dT,I.bl]) pB (fun os2 h2 =>?_) (fun os2 h2 =>?_)
  ·try simp only[List.nil_append,J,simprocAttr]
   refine .done (hK _ ?_);clear hK K;try simp only[ao]
   refine U.bD ?_
   simp only[ar,J,simprocAttr]
   refine ⟨fun h =>?_,fun h =>?_⟩
   ·cases h
   refine U.skip ?_;try simp only[ao,bH,simprocAttr]
   refine .bj (by decide +kernel) fun K hK =>?_
   simp only[E5,J,simprocAttr]
   refine .done (hK _ ?_);clear hK K;try simp only[ao]
   refine ⟨(k+1,os2),⟨by simp only;omega,h2⟩,by simp only;omega,?_⟩
   simp only
   rw[cA _ (by omega) (by omega)]
   have e:(((l.length-1-k:Nat):Int)-1)=((l.length:Int)-1-((k+1:Nat):Int)):=by omega
   rw[e]
   refine aE.c5 ?_ (fun n=>rfl)
   simp[aT,aV]
  ·try simp only[List.nil_append,J,simprocAttr]
   refine .done (hK _ ?_);clear hK K;try simp only[ao]
   refine U.bD ?_
   simp only[ar,J,simprocAttr]
   refine ⟨fun h =>?_,fun h =>?_⟩
   ·refine U.ret ?_
    simp only[ao,bH]
    rw[fF]
    exact ⟨os2,[],sj (ow:=[]) (hIx os2 h2) pB,trivial,rfl,.inr h2⟩
   ·cases h
 ·have he:k=l.length:=by simp at h;omega
  subst he
  refine U.exit ?_;try simp only[ao,bH,simprocAttr]
  rw[lF]
  exact ⟨osk,[],sj (ow:=[]) gk pB,trivial,rfl,.inl hIk⟩
def iU(p:Nat→Bool)(n:Nat):List Nat:=(List.range n).filter p
theorem MO(p:Nat→Bool)(n:Nat):iU p (n+1)=iU p n++(if p n then [n] else []):=by
 simp only[iU,List.range_succ,List.filter_append,List.filter_cons,List.filter_nil]
theorem ahK{p:Nat→Bool}{i n:Nat}(hp:p i=true)(hi:i<n):(iU p i).length<(iU p n).length∧(iU p n).getD (iU p i).length 0=i:=by
 induction n with
 |zero=>omega
 |succ n ih =>
  rw[MO]
  by_cases e:i=n
  ·subst e
   simp[hp]
  ·obtain ⟨h1,h2⟩:=ih (by omega)
   refine ⟨by rw[List.length_append];omega,?_⟩
   rw[List.getD_eq_getElem?_getD,List.getElem?_append_left h1,←List.getD_eq_getElem?_getD]
   exact h2
theorem Nq(l:List ay)(bs:List Bool)(hl:l.length≤60)(hb:bs.length=l.length) :
  tX Tryz.prog 146 [.ref (enc l),.ref (enc bs)] (iU (fun i=>bs.getD i false) l.length).length (fun k=>[.int .i64 (((iU (fun i=>bs.getD i false) l.length).getD k 0:Nat):Int)]):=by
 intro Y v ai Ix os hv hY hI hIx h0
 have hG:=hI 0 os h0
 refine kd.bu Tryz.func146 Bd RN TL (Nat.le_of_ble_eq_true rfl) (Nat.le_of_ble_eq_true rfl) hG.nL (fun hwf W0 D0 E1 =>?_)
 simp only[zP,Ky,bp,Nat.zero_add,Nat.reduceAdd]
 refine .ak (by decide +kernel) fun K hK =>?_
 simp only[DK,J,simprocAttr]
 try simp only[bK,bg,J,simprocAttr]
 refine .done (hK _ ?_);clear hK K
 refine U.block (U.loop (fun s:Nat×List (Nat×ah)=>au [(0,.raw v),(1,.ref (enc l)),(2,.ref (enc bs)),(6,.int .i64 l.length),(7,.int .i64 s.1)] s.2) (fun s=>s.1≤l.length∧ai (iU (fun i=>bs.getD i false) s.1).length s.2) (fun s=>l.length-s.1) (0,os) ⟨Nat.zero_le _,h0⟩ ?_ ?_)
 ·refine aE.c5 ?_ (fun n=>rfl)
  simp[aT,aV]
 rintro ⟨i,osk⟩ ⟨hi,hIk⟩
 simp only at hi hIk ⊢
 have gk:=hI _ osk hIk
 refine .ak (by decide +kernel) fun K hK =>?_
 simp only[DL,J,simprocAttr]
 refine .done (hK _ ?_);clear hK K
 refine U.seq ?_
 by_cases hlt:i<l.length
 ·have hc:=iI hlt
  have hbi:∀ A,ic A 1 (i:Int) (enc bs)=some (.ref (.bool (bs.getD i false))):=fun A=>by
   rw[fL 1 (by omega) rfl,List.getD_eq_getElem?_getD,List.getElem?_eq_getElem (by omega)];rfl
  simp only[hc]
  refine U.bD ?_
  simp only[ar,J,simprocAttr]
  refine ⟨fun h =>?_,fun h =>?_⟩
  case refine_2=>cases h
  refine U.skip ?_;try simp only[ao,simprocAttr]
  refine U.seq (U.block ?_)
  refine .ak (by decide +kernel) fun K hK =>?_
  simp only[DM,J,simprocAttr]
  refine .done (hK _ ?_);clear hK K
  refine U.seq ?_
  have hsu:=MO (fun i=>bs.getD i false) i
  cases hbv:bs.getD i false with
  |false =>
   rw[hbv] at hbi
   refine .bj (by decide +kernel) fun K hK =>?_
   simp only[vq,J,simprocAttr]
   try simp only[hbi,JG,J,simprocAttr]
   refine .done (hK _ ?_);clear hK K;try simp only[ao]
   refine U.bD ?_
   simp only[ar,J,simprocAttr]
   refine ⟨fun h =>?_,fun h =>?_⟩
   ·cases h
   refine U.skip ?_;try simp only[ao,bH,simprocAttr]
   refine .bj (by decide +kernel) fun K hK =>?_
   simp only[vr,J,simprocAttr]
   refine .done (hK _ ?_);clear hK K;try simp only[ao]
   refine ⟨(i+1,osk),⟨by simp only;omega,?_⟩,by simp only;omega,?_⟩
   ·simp only[hsu,hbv,Bool.false_eq_true,if_false,List.append_nil];exact hIk
   ·simp only
    rw[fG (by omega)]
    refine aE.c5 ?_ (fun n=>rfl)
    simp[aT,aV]
  |true =>
   rw[hbv] at hbi
   obtain ⟨g1,g2⟩:=ahK (p:=fun i=>bs.getD i false) hbv hlt
   have hsl:(iU (fun i=>bs.getD i false) (i+1)).length=(iU (fun i=>bs.getD i false) i).length+1:=by rw[hsu,hbv];simp
   have hy:=hY _ osk _ g1 hIk (fun r os2 h=>h)
   simp only at hy
   rw[g2] at hy
   refine .bj (by decide +kernel) fun K hK =>?_
   simp only[vq,J,simprocAttr]
   try simp only[hbi,JG,Bk,J,simprocAttr]
   refine a7.MY (ow:=[]) (In:=ai ((iU (fun i=>bs.getD i false) i).length+1)) (Ix:=Ix) hy gk (hI _) hIx rfl pB (fun os2 h2 =>?_) (fun os2 h2 =>?_)
   ·try simp only[List.nil_append,J,simprocAttr]
    refine .done (hK _ ?_);clear hK K;try simp only[ao]
    refine U.bD ?_
    simp only[ar,J,simprocAttr]
    refine ⟨fun h =>?_,fun h =>?_⟩
    ·cases h
    refine U.skip ?_;try simp only[ao,bH,simprocAttr]
    refine .bj (by decide +kernel) fun K hK =>?_
    simp only[vr,J,simprocAttr]
    refine .done (hK _ ?_);clear hK K;try simp only[ao]
    refine ⟨(i+1,os2),⟨by simp only;omega,?_⟩,by simp only;omega,?_⟩
    ·simp only[hsl];exact h2
    ·simp only
     rw[fG (by omega)]
     refine aE.c5 ?_ (fun n=>rfl)
     simp[aT,aV]
   ·try simp only[List.nil_append,J,simprocAttr]
    refine .done (hK _ ?_);clear hK K;try simp only[ao]
    refine U.bD ?_
    simp only[ar,J,simprocAttr]
    refine ⟨fun h =>?_,fun h =>?_⟩
    ·refine U.ret ?_
     simp only[ao,bH]
     rw[fF]
     exact ⟨os2,[],sj (ow:=[]) (hIx os2 h2) pB,trivial,rfl,.inr h2⟩
    ·cases h
 ·have hc:=jx hlt
  simp only[hc]
  refine U.bD ?_
  simp only[ar,J,simprocAttr]
  refine ⟨fun h =>?_,fun h =>?_⟩
  ·cases h
  have he:i=l.length:=by omega
  subst he
  refine U.exit ?_;try simp only[ao,bH,simprocAttr]
  rw[lF]
  exact ⟨osk,[],sj (ow:=[]) gk pB,trivial,rfl,.inl hIk⟩
theorem Np(l:List ay):aB Tryz.prog 145 [enc l] (.func 178 [.ref (enc l)]):=by
 refine aB.bu Tryz.func145 P4 RM TK (Nat.le_of_ble_eq_true rfl) (fun hwf W0 D0 E1 =>?_)
 simp only[zO,Kx,bp]
 have R:=And.intro @pj (And.intro @bg (And.intro @dT @J))
 repeat' ((first
  |(with_reducible refine .guard (fun hb =>?_) (fun hb =>?_) <;>try simp only[hb])
  |refine U.aW (by decide +kernel) rfl fun K hK =>?_
  |(refine .aO [0,1,2] hK ?_;clear hK K)
  |(with_reducible refine .done (hK _ ?_);clear hK K)
  |refine U.of rfl ?_
  |(with_reducible refine ar.aU (fun h =>?_) (fun h =>?_) <;>try simp only[h])) <;>try simp only[aX,R,simprocAttr])
 all_goals clear R
 all_goals rfl
def gW(l:List ay)(known:Int)(ks:List Item)(bs:List Bool):List (Nat×ah) :=
 [(1000002,.box (enc l)),(1000003,.box (.int .i64 known)),(1000005,.box (.mref 1000009)),(1000006,.box (.view 1000012 [] 1 0 l.length)),(1000009,.cu (ks.map enc) (List.replicate ks.length (.bool true))),(1000012,.box (.agg (bs.map enc)))]
theorem xu(p:Nat→Bool)(n:Nat)(b:Bool):I.bV p (List.replicate n (.bool b))=true:=by
 induction n with
 |zero=>rfl
 |succ n ih=>simp[List.replicate_succ,I.bV,I.only,ih]
theorem agI(ρ:Nat→Nat)(n:Nat)(b:Bool):I.cP ρ (List.replicate n (.bool b))=List.replicate n (.bool b):=by
 induction n with
 |zero=>rfl
 |succ n ih=>simp only[List.replicate_succ,I.cP,I.aK,ih]
theorem ahp(l:List ay)(known:Int)(ks:List Item)(bs:List Bool)(l':List ay)(known':Int)(ks':List Item)(bs':List Bool):fh (gW l known ks bs) (gW l' known' ks' bs'):=by
 refine ⟨fun n=>by simp only[gW,al,aj];(repeat' split) <;>rfl,fun n x h =>?_,fun n h =>?_⟩
 ·simp only[gW,aj] at h
  repeat' split at h
  all_goals first | (cases h;done) | (simp only[Option.some.injEq] at h;subst h;exact ⟨by simp[gW,al,aj,ah.only,bt,I.only,eh,xu],rfl⟩)
 ·simp only[gW,al,aj] at h
  repeat' split at h
  all_goals first | omega | (simp at h;done)
def tB(l:List ay)(known:Int)(k:Nat)(ks:List Item)(bs:List Bool):Prop :=
 bs=List.replicate (l.length-k) false++(jn known (l.drop (l.length-k))).1∧∀ a,a∈ks↔a∈(jn known (l.drop (l.length-k))).2
theorem x7:(∀ (A:ab) n b m rest,dS A none n [] b (.mref m) rest (some (.raw (.map none)))=az rest (A.aL n (.box (.mref m))))∧(∀ (A:ab) n b m p z lo k z2 rest,dS A none n [] b (.view m p z lo k) rest (some (.nils z2))=az rest (A.aL n (.box (.view m p z lo k)))) ∧
  (∀ (A:ab) n b m p z lo k m' p' z' lo' k' rest,dS A none n [] b (.view m p z lo k) rest (some (.view m' p' z' lo' k'))=az rest (A.aL n (.box (.view m p z lo k)))) :=
 ⟨fun _ _ _ _ _=>by rw[ep (s:=none) (v:=.mref _) (old:=.raw _) rfl rfl rfl,gf],fun _ _ _ _ _ _ _ _ _ _=>by rw[ep (s:=none) (v:=.view ..) (old:=.nils _) rfl rfl rfl,gf],fun _ _ _ m p z lo k m' p' z' lo' k' _=>by rw[ep (s:=none) (v:=.view m p z lo k) (old:=.view m' p' z' lo' k') rfl rfl rfl,gf]⟩
theorem x8(known:Int):∀ l:List ay,(jn known l).1.length=l.length
 | []=>rfl
 |x::l=>by simp only[jn,List.length_cons,x8 known l]
theorem Mu{l:List ay}{known:Int}{k:Nat}{ks:List Item}{bs:List Bool}(h:tB l known k ks bs)(hk:k≤l.length):bs.length=l.length:=by
 rw[h.1,List.length_append,List.length_replicate,x8,List.length_drop];omega
def qD(l:List ay)(known:Int)(i:Nat)(ks:List Item):Bool:=decide ((ae l i).known≤known) && !decide ((ae l i).bL∈ks)
theorem ahn{l:List ay}{known:Int}{k i:Nat}{ks:List Item}{bs:List Bool}(hk:k<l.length)(hi:i=l.length-1-k)(h:tB l known k ks bs) :
  tB l known (k+1) (if (qD l known i ks&&((ae l i).kind==0))=true then mH ks (ae l i).jE else ks) (bs.set i (qD l known i ks)):=by
 have hkd:((ae l i).kind==0)=decide ((ae l i).kind=0):=rfl
 rw[hkd]
 obtain ⟨h1,h2⟩:=h
 have e1:l.length-k=i+1:=by omega
 have e2:l.length-(k+1)=i:=by omega
 rw[e1] at h1 h2
 have hil:i<l.length:=by omega
 have hd:l.drop i=ae l i::l.drop (i+1):=by rw[List.drop_eq_getElem_cons hil,lX hil]
 have hb:qD l known i ks=(decide ((ae l i).known≤known) && !(jn known (l.drop (i+1))).2.contains (ae l i).bL):=by
  simp only[qD]
  congr 2
  rw[Bool.eq_iff_iff,decide_eq_true_eq,List.contains_iff_mem]
  exact h2 _
 refine ⟨?_,fun a =>?_⟩
 ·rw[e2,hd,h1]
  simp only[jn,←hb]
  rw[List.replicate_succ',List.append_assoc,List.set_append_right _ _ (by simp)]
  simp
 ·rw[e2,hd]
  simp only[jn,←hb]
  split
  ·rw[aes,List.mem_cons,h2]
  ·exact h2 a
theorem M6(l:List ay)(known:Int)(hl:l.length≤60):aB Tryz.prog 105 [enc l,enc known] (.func 146 [.ref (enc l),.ref (enc (kK l known))]):=by
 refine aB.bu Tryz.func105 PF Ro Tl (Nat.le_of_ble_eq_true rfl) (fun hwf W0 D0 E1 =>?_)
 simp only[zn,J8,bp,Nat.zero_add]
 clear hwf
 refine .ak (by decide +kernel) fun K hK =>?_
 simp only[CG,J,simprocAttr]
 try simp only[bg,J,simprocAttr]
 refine .done (hK _ ?_);clear hK K
 refine .ak (by decide +kernel) fun K hK =>?_
 simp only[CH,J,simprocAttr]
 try simp only[eA,x7,J,simprocAttr]
 refine .done (hK _ ?_);clear hK K
 refine .ak (by decide +kernel) fun K hK =>?_
 simp only[CI,J,simprocAttr]
 try simp only[eA,bK,bg,J,simprocAttr]
 rw[aey (by omega) (by simp[maxLen];omega)]
 try simp only[x7,J,simprocAttr]
 refine .done (hK _ ?_);clear hK K
 refine U.seq (U.seq ?_)
 refine .bj (by decide +kernel) fun K hK =>?_
 simp only[CJ,J,simprocAttr]
 try simp only[bg,J,simprocAttr]
 refine .lead _ (Np l) ?_
 try simp only[J,simprocAttr]
 refine .done (hK _ ?_);clear hK K;try simp only[ao]
 refine U.block (U.kF (osb0:=gW l known [] (List.replicate l.length false)) (tsR:=[(2,.ptr 1000002 []),(3,.ptr 1000003 []),(5,.ptr 1000005 []),(6,.ptr 1000006 [])]) (ρ:=[(1999999,999999),(1000002,2),(1000003,3),(1000005,5),(1000006,6),(1000009,9),(1000012,12)])
  (fun k os=>∃ ks bs,os=gW l known ks bs∧tB l known k ks bs)
  (fun _ _=>False)
  rfl (Nat.le_of_ble_eq_true rfl) (by simp only[J,simprocAttr]) (by simp[I.bT,I.bl,dT]) Bf (NM l hl) (fun _=>rfl) rfl rfl rfl (fun o=>⟨?_,?_⟩) ?_ ?_ ?_ ⟨[],_,rfl,?_⟩ ?_ ?_ ?_)
 ·intro n x hx
  simp only[dy,gW,aj] at hx
  repeat' split at hx
  all_goals first | (cases hx;done) | (subst_vars;simp only[Option.some.injEq] at hx;subst hx;simp[dy,gW,al,bA,aj,ah.aK,I.aK,I.cP,jR,ah.only,I.only,I.bV,bt,ah.eL,xu,agI,BR])
 ·intro a b ha hb
  simp only[dy,gW,al,aj] at ha hb
  repeat' split at ha
  all_goals first | (simp at ha;done) | skip
  all_goals (repeat' split at hb)
  all_goals first | (simp at hb;done) | (subst_vars;simp[bA])
 ·simp[mD,aV,I.aK,bA,I.only,gW,al,aj]
 ·rintro k os ⟨ks,bs,rfl,_⟩;exact ahp ..
 ·rintro e os h;exact h.elim
 ·exact ⟨by simp[jn],fun a=>by simp[jn]⟩
 ·rintro k osb hk ⟨ks,bs,rfl,hst⟩ W1 D1 E1 adY o1 o2
  have hbl:=Mu hst (Nat.le_of_lt hk)
  obtain ⟨i,hi⟩:∃ i,i=l.length-1-k:=⟨_,rfl⟩
  have hil:i<bs.length:=by omega
  have hil2:i<l.length:=by omega
  have hstep:=ahn hk hi hst
  have hv:∀ fs,l7 1000012 [] 1 0 l.length 1 (i:Int) (some fs)=some (.ptr 1000012 [i]):=fun fs=>by
   have:=IH (m:=1000012) (sz:=1) (lo:=0) (l:=l.length) (i:=i) (fs:=fs) hil2
   rwa [Nat.zero_add] at this
  have hat2:∀ b,fO i [] (some ((bs.set i b).map enc))=some (.bool b):=fun b=>by
   rw[za (by simpa using hil)]
   simp[List.getD_eq_getElem?_getD,hil]
  have hset:=fun (A:ab) v u rest=>aht (A:=A) (n:=1000012) hil v u rest
  have hat:=za hil
  have hlk:=aec qc (ae l i).bL ks
  simp only[qL,dy,gW,←hi]
  have R:=And.intro @bg @J
  repeat' ((first
   |(with_reducible refine .guard (fun hb =>?_) (fun hb =>?_) <;>try simp only[hb])
   |refine U.aW (by decide +kernel) rfl fun K hK =>?_
   |(refine .aO [0,1,2,3,4,5,6,7,8,14,15,16,39] hK ?_;clear hK K)
   |(with_reducible refine .done (hK _ ?_);clear hK K)
   |refine U.of rfl ?_
   |(with_reducible refine ar.aU (fun h =>?_) (fun h =>?_) <;>try simp only[h])) <;>try simp only[aX,R,simprocAttr])
  all_goals clear R
  refine ⟨by simp[],?_⟩
  rcases h1:decide ((ae l i).known≤known) <;>rcases h2:decide ((ae l i).bL∈ks) <;>rcases h3:(ae l i).kind==0
  all_goals
   simp only[qD,h1,h2,h3,Bool.not_true,Bool.not_false,Bool.and_true,Bool.and_false,Bool.false_eq_true,if_true,if_false] at hstep
   have hup:=aeF qc (ae l i).jE ks
   try simp only[J,simprocAttr]
   have R:=And.intro @h1 (And.intro @h2 (And.intro @h3 (And.intro @hv (And.intro @hset (And.intro @hat (And.intro @hat2 (And.intro @hlk (And.intro @hup (And.intro @eJ (And.intro @x7 (And.intro @eA (And.intro @eB (And.intro @bK (And.intro @bg @J))))))))))))))
   repeat' ((first
    |(with_reducible refine .guard (fun hb =>?_) (fun hb =>?_) <;>try simp only[hb])
    |refine U.aW (by decide +kernel) rfl fun K hK =>?_
    |(refine .aO [0,1,2,3,4,5,6,7,8,14,15,16,39] hK ?_;clear hK K)
    |(with_reducible refine .done (hK _ ?_);clear hK K)
    |refine U.of rfl ?_
    |(with_reducible refine ar.aU (fun h =>?_) (fun h =>?_) <;>try simp only[h])) <;>try simp only[aX,R,simprocAttr])
   all_goals clear R
   generalize bs.set i _=ah8 at hstep ⊢
   try generalize mH ks _=ks2 at hstep ⊢
   refine ⟨gW l known _ _,?_,_,_,rfl,hstep⟩
   intro n x hx
   simp only[dy,gW,aj] at hx
   (repeat' split at hx) <;>first
    |(cases hx;done)
    |(subst_vars;simp only[Option.some.injEq] at hx;subst hx;simp[gW,dy,al,au,aj,ah.only,I.only,bt,ah.eL,eh,xu])
 ·rintro os ⟨ks,bs,rfl,hst⟩
  have hbs:bs=kK l known:=by
   have:=hst.1
   simpa[kK] using this
  have hbl:=Mu hst (Nat.le_refl _)
  try simp only[gW,jj,jR,iO,List.cons_append,List.nil_append,ao,bH,simprocAttr]
  have R:=And.intro @pj (And.intro @bg @J)
  repeat' ((first
   |(with_reducible refine .guard (fun hb =>?_) (fun hb =>?_) <;>try simp only[hb])
   |refine U.aW (by decide +kernel) rfl fun K hK =>?_
   |(refine .aO [0,1,2,3,4,5,6,7,8,14,15,16,39] hK ?_;clear hK K)
   |(with_reducible refine .done (hK _ ?_);clear hK K)
   |refine U.of rfl ?_
   |(with_reducible refine ar.aU (fun h =>?_) (fun h =>?_) <;>try simp only[h])) <;>try simp only[aX,R,simprocAttr])
  all_goals clear R
  have hfd:=fun A (ho:A.o 12=some (.box (.agg (bs.map enc))))=>WH (A:=A) (m:=8) (n:=12) (sz:=1) ho rfl hbl.symm
  try simp only[ki,J,simprocAttr]
  rw[hfd _ rfl]
  try simp only[hbs,J,simprocAttr]
 ·rintro e os h;exact h.elim
def fV(l:List ay)(x:Int):Int:=(ae l x.toNat).day
def jc(l:List ay)(x:Int):Prop:=0≤x∧x<l.length
def lU(l:List ay):Prop:=∀ i,i<l.length→0≤(ae l i).day∧(ae l i).day≤100000
def dA(l:List ay)(x y:Int):Prop:=fV l x<fV l y∨(fV l x=fV l y∧x<y)
def db(l:List ay)(s:List Int):Prop:=s.Pairwise (dA l)
theorem wG{l:List ay}{x y z:Int}(h:dA l x y)(k:dA l y z):dA l x z:=by
 simp only[dA] at *;omega
theorem sD{l:List ay}{x y:Int}(h:y<x):dA l x y↔fV l x<fV l y:=by
 simp only[dA];omega
theorem sC{l:List ay}{x y:Int}(h:y<x)(k:¬ fV l x<fV l y):dA l y x:=by
 simp only[dA];omega
theorem rn(l:List ay)(hd:lU l)(hl:l.length≤60)(x y:Int)(hx:jc l x)(hy:jc l y):aB Tryz.prog 138 [.int .i64 x,.int .i64 y,.ref (enc l)] (.int .i64 (fV l x-fV l y)):=by
 refine aB.bu Tryz.func138 P0 RI TG (Nat.le_of_ble_eq_true rfl) (fun hwf W0 D0 E1 =>?_)
 simp only[zK,Ks,bp,Nat.zero_add,Nat.reduceAdd]
 clear hwf
 obtain ⟨i,rfl⟩:∃ i:Nat,x=i:=⟨x.toNat,by have:=hx.1;omega⟩
 obtain ⟨k,rfl⟩:∃ k:Nat,y=k:=⟨y.toNat,by have:=hy.1;omega⟩
 have hi:i<l.length:=by have:=hx.2;omega
 have hk:k<l.length:=by have:=hy.2;omega
 have v1:=m0 hi
 have v2:=m0 hk
 have d1:=hd i hi
 have d2:=hd k hk
 have hw:IntKind.i64.wrap ((ae l i).day-(ae l k).day)=(ae l i).day-(ae l k).day:=cA _ (by omega) (by omega)
 have R:=And.intro @v1 (And.intro @v2 (And.intro @hw (And.intro @bg @J)))
 repeat' ((first
  |(with_reducible refine .guard (fun hb =>?_) (fun hb =>?_) <;>try simp only[hb])
  |refine U.aW (by decide +kernel) rfl fun K hK =>?_
  |(refine .aO [0,1,2,5] hK ?_;clear hK K)
  |(with_reducible refine .done (hK _ ?_);clear hK K)
  |refine U.of rfl ?_
  |(with_reducible refine ar.aU (fun h =>?_) (fun h =>?_) <;>try simp only[h])) <;>try simp only[aX,R,simprocAttr])
 all_goals clear R
 simp only[fV,Int.toNat_natCast]
theorem ahC{A C:List Int}{x y:Int}{i j:Nat}(hj:A.length=j)(hi:j+1=i):j9 (A++y::x::C) i j=A++x::y::C:=by
 subst hj hi
 have e1:(A++y::x::C).getD A.length 0=y:=by simp[List.getD_eq_getElem?_getD]
 have e2:(A++y::x::C).getD (A.length+1) 0=x:=by
  rw[List.getD_eq_getElem?_getD,List.getElem?_append_right (by omega)]
  simp
 simp only[j9,e1,e2]
 rw[List.set_append_right _ _ (by omega)]
 have:A.length+1-A.length=1:=by omega
 rw[this,List.set_append_right _ _ (by omega),Nat.sub_self]
 simp
theorem ahE{A C:List Int}{x y:Int}{i j:Nat}(hi:A.length=i)(hj:i+1=j):j9 (A++x::y::C) i j=A++y::x::C:=by
 have:=MJ (A:=A) (B:=[]) (C:=C) (x:=x) (y:=y) (i:=i) (j:=j) hi (by simp;omega)
 simpa using this
def dV(p t rest:List Int)(x:Int)(c:Nat):List Int:=p++(t.take c++x::t.drop c)++rest
theorem wi{p t rest:List Int}{x:Int}{c:Nat}(hc:c≤t.length):(dV p t rest x c).length=p.length+t.length+1+rest.length:=by
 simp only[dV,List.length_append,List.length_take,List.length_cons,List.length_drop];omega
theorem adA{p t rest:List Int}{x:Int}{c a:Nat}(ha:p.length=a)(hc:c≤t.length):(dV p t rest x c).getD (a+c) 0=x:=by
 subst ha
 have hl:(t.take c).length=c:=by rw[List.length_take];omega
 simp only[dV]
 rw[List.getD_eq_getElem?_getD,List.append_assoc,List.getElem?_append_right (by omega)]
 have:p.length+c-p.length=c:=by omega
 rw[this,List.append_assoc,List.getElem?_append_right (by omega),hl,Nat.sub_self]
 rfl
theorem adB{p t rest:List Int}{x:Int}{c a:Nat}(ha:p.length=a)(hc:c<t.length):(dV p t rest x (c+1)).getD (a+c) 0=t[c]:=by
 subst ha
 simp only[dV]
 rw[List.getD_eq_getElem?_getD,List.append_assoc,List.getElem?_append_right (by omega)]
 have:p.length+c-p.length=c:=by omega
 rw[this,List.append_assoc,List.getElem?_append_left (by rw[List.length_take];omega),List.getElem?_take_of_lt (by omega),List.getElem?_eq_getElem hc]
 rfl
theorem Iy{p t rest:List Int}{x:Int}{c a:Nat}(ha:p.length=a)(hc:c<t.length):j9 (dV p t rest x (c+1)) (a+c+1) (a+c)=dV p t rest x c:=by
 have e1:dV p t rest x (c+1)=(p++t.take c)++t[c]::x::(t.drop (c+1)++rest):=by
  simp only[dV]
  rw[List.take_succ_eq_append_getElem hc]
  simp only[List.append_assoc,List.cons_append,List.nil_append]
 have e2:dV p t rest x c=(p++t.take c)++x::t[c]::(t.drop (c+1)++rest):=by
  simp only[dV]
  rw[List.drop_eq_getElem_cons hc]
  simp only[List.append_assoc,List.cons_append]
 rw[e1,e2]
 exact ahC (by rw[List.length_append,List.length_take];omega) rfl
theorem x6{l:List ay}{t:List Int}{x:Int}{c:Nat}(hs:db l t)(h1:∀ y∈t.take c,dA l y x)(h2:∀ y∈t.drop c,dA l x y):db l (t.take c++x::t.drop c):=by
 have h:=hs
 unfold db at *
 rw[←List.take_append_drop c t,List.pairwise_append] at h
 rw[List.pairwise_append]
 refine ⟨h.1,?_,fun y hy z hz =>?_⟩
 ·rw[List.pairwise_cons]
  exact ⟨h2,h.2.1⟩
 ·rcases List.mem_cons.1 hz with rfl | hz
  ·exact h1 y hy
  ·exact h.2.2 y hy z hz
theorem ahj{l:List ay}{t:List Int}{x:Int}{c:Nat}(hs:db l t)(hc:c<t.length)(h:dA l t[c] x):∀ y∈t.take (c+1),dA l y x:=by
 intro y hy
 rw[List.take_succ_eq_append_getElem hc,List.mem_append,List.mem_singleton] at hy
 rcases hy with hy | rfl
 ·refine wG ?_ h
  have h3:=hs
  unfold db at h3
  rw[←List.take_append_drop c t,List.pairwise_append] at h3
  exact h3.2.2 y hy _ (by rw[List.drop_eq_getElem_cons hc];exact List.mem_cons_self)
 ·exact h
def mE(l:List ay)(p s q:List Int):cS:=fun r os'=>r=.tuple []∧∃ s',s'.Perm s∧db l s'∧os'=cv 1000000 (p++s'++q)
structure tW where
 t:List Int
 k:Nat
theorem yH(l:List ay)(hd:lU l)(hl:l.length≤60)(p s q:List Int)(a b n:Nat)(ha:p.length=a)(hb:a+s.length=b)(hn:b≤n)(hnl:n≤(p++s++q).length)(hN:n≤1000)(hs:s.Pairwise (· < ·))(hS:∀ x∈s,jc l x) :
  cD Tryz.prog 203 [.view 1000000 [] 1 0 n,enc (a:Int),enc (b:Int),.func 138 [.ref (enc l)]] (cv 1000000 (p++s++q)) (mE l p s q):=by
 refine cD.bu Tryz.func203 Bh Bo BB (Nat.le_of_ble_eq_true rfl) (Nat.le_of_ble_eq_true rfl) nj (fun hwf W0 D0 E1 =>?_)
 simp only[um,xF,bp,Nat.zero_add,Nat.reduceAdd]
 clear hwf
 have w1:=fG (i:=a) (by omega)
 refine .ak (by decide +kernel) fun K hK =>?_
 simp only[vE,J,simprocAttr]
 try simp only[w1,simprocAttr]
 refine .done (hK _ ?_);clear hK K
 refine U.block (U.loop (fun g:tW=>au [(0,.view 1000000 [] 1 0 n),(1,.int .i64 a),(2,.int .i64 b),(3,.func 138 [.ref (enc l)]),(8,.int .i64 ((a+g.k:Nat):Int))] (cv 1000000 (p++g.t++s.drop g.k++q))) (fun g=>1≤g.k∧g.t.Perm (s.take g.k)∧db l g.t∧a+g.k≤b+1) (fun g=>s.length-g.k) ⟨s.take 1,1⟩ ⟨Nat.le_refl _,.refl _,?_,by simp only;omega⟩ ?_ ?_)
 ·show db l (s.take 1)
  cases s <;>simp[db]
 ·have e:p++s.take 1++s.drop 1++q=p++s++q:=by rw[List.append_assoc p,List.take_append_drop]
  simp only[e]
  refine aE.c5 ?_ (fun n=>rfl)
  simp[aT,aV]
 rintro ⟨t,k⟩ ⟨g1,g2,g3,g4⟩
 simp only at g1 g2 g3 g4 ⊢
 refine U.seq (U.seq ?_)
 refine .bj (by decide +kernel) fun K hK =>?_
 simp only[FM,J,simprocAttr]
 refine .done (hK _ ?_);clear hK K;try simp only[ao]
 refine U.bD ?_
 simp only[ar,J,simprocAttr]
 refine ⟨fun h =>?_,fun h =>?_⟩
 rotate_left
 ·have hk:s.length≤k:=by simp at h;omega
  refine U.exit ?_;try simp only[ao,bH,simprocAttr]
  rw[lF]
  refine ng rfl ?_ ⟨rfl,t,?_,g3,rfl⟩
  ·rw[List.drop_eq_nil_of_le hk,List.append_nil]
  ·rwa [List.take_of_length_le hk] at g2
 have hk:k<s.length:=by simp at h;omega
 have htl:t.length=k:=by rw[g2.length_eq,List.length_take];omega
 obtain ⟨x,hx⟩:∃ x,x=s[k]:=⟨_,rfl⟩
 have hxS:jc l x:=hS x (by rw[hx];exact List.getElem_mem _)
 have htS:∀ y∈t,jc l y∧y<x:=fun y hy=>by
  have hy2:=g2.mem_iff.1 hy
  refine ⟨hS y (List.mem_of_mem_take hy2),?_⟩
  obtain ⟨j,hj,rfl⟩:=List.getElem_of_mem hy2
  rw[List.length_take] at hj
  rw[List.getElem_take,hx]
  exact List.pairwise_iff_getElem.1 hs j k (by omega) hk (by omega)
 obtain ⟨rest,hrest⟩:∃ rest,rest=s.drop (k+1)++q:=⟨_,rfl⟩
 have e0:p++t++s.drop k++q=dV p t rest x k:=by
  rw[hrest,dV,List.take_of_length_le (l:=t) (by omega),show t.drop k=[] from List.drop_eq_nil_of_le (by omega),List.drop_eq_getElem_cons hk,←hx]
  simp only[List.append_assoc,List.cons_append,List.nil_append]
 have hnr:n≤p.length+t.length+1+rest.length:=by
  rw[hrest]
  simp only[List.length_append,List.length_drop] at hnl ⊢
  omega
 rw[e0]
 refine U.skip ?_;try simp only[ao,simprocAttr]
 refine U.seq (U.block ?_)
 refine .ak (by decide +kernel) fun K hK =>?_
 simp only[FN,J,simprocAttr]
 refine .done (hK _ ?_);clear hK K
 refine U.block (U.loop (fun c:Nat=>au [(0,.view 1000000 [] 1 0 n),(1,.int .i64 a),(2,.int .i64 b),(3,.func 138 [.ref (enc l)]),(8,.int .i64 ((a+k:Nat):Int)),(9,.int .i64 ((a+c:Nat):Int))] (cv 1000000 (dV p t rest x c))) (fun c=>c≤k∧∀ y∈t.drop c,dA l x y) (fun c=>c) k ⟨Nat.le_refl _,?_⟩ ?_ ?_)
 ·rw[List.drop_eq_nil_of_le (by omega)];intro y hy;cases hy
 ·refine aE.c5 ?_ (fun n=>rfl)
  simp[aT,aV]
 rintro c ⟨hc,hgt⟩
 have a6:∀ c,c≤k→(∀ y∈t.drop c,dA l x y)→(∀ y∈t.take c,dA l y x)→∃ s':tW,(1≤s'.k∧s'.t.Perm (s.take s'.k)∧db l s'.t∧a+s'.k≤b+1)∧s.length-s'.k<s.length-k∧s'.k=k+1∧dV p t rest x c=p++s'.t++s.drop s'.k++q:=fun c hck h2 h1=>by
  refine ⟨⟨t.take c++x::t.drop c,k+1⟩,⟨by simp only;omega,?_,x6 g3 h1 h2,by simp only;omega⟩,by simp only;omega,rfl,?_⟩
  ·simp only
   rw[List.take_succ_eq_append_getElem hk,←hx]
   refine List.perm_middle.trans ?_
   rw[List.take_append_drop]
   exact (g2.cons x).trans (List.perm_append_comm (l₁:=[x]))
  ·simp only[dV,hrest,List.append_assoc]
 have hexit:∀ ts,(∀ y∈t.take c,dA l y x)→Abs.cj ts 0=.view 1000000 [] 1 0 n→Abs.cj ts 1=.int .i64 a→Abs.cj ts 2=.int .i64 b→Abs.cj ts 3=.func 138 [.ref (enc l)]→Abs.cj ts 8=.int .i64 ((a+(k+1):Nat):Int)→∃ s':tW,(1≤s'.k∧s'.t.Perm (s.take s'.k)∧db l s'.t∧a+s'.k≤b+1)∧s.length-s'.k<s.length-k∧Abs.aE (au ts (cv 1000000 (dV p t rest x c))) (au [(0,.view 1000000 [] 1 0 n),(1,.int .i64 a),(2,.int .i64 b),(3,.func 138 [.ref (enc l)]),(8,.int .i64 ((a+s'.k:Nat):Int))] (cv 1000000 (p++s'.t++s.drop s'.k++q))):=fun ts h1 t0 t1 t2 t3 t8=>by
  obtain ⟨s',k1,k2,k3,k4⟩:=a6 c hc hgt h1
  refine ⟨s',k1,k2,?_⟩
  rw[k4,k3]
  refine aE.c5 ?_ (fun n=>rfl)
  simp only[aT,t0,t1,t2,t3,t8,and_self]
 have hw:=fG (i:=a+k) (by omega)
 have hws:(dV p t rest x c).length=p.length+t.length+1+rest.length:=wi (by omega)
 simp only[cv] at hexit ⊢
 cases c with
 |zero =>
  have hc0:decide ((a:Int)<((a+0:Nat):Int))=false:=by simp
  have R:=And.intro @hc0 (And.intro @hw (And.intro @bg @J))
  repeat' ((first
   |(with_reducible refine .guard (fun hb =>?_) (fun hb =>?_) <;>try simp only[hb])
   |refine U.aW (by decide +kernel) rfl fun K hK =>?_
   |(refine .aO [0,1,2,3,8,9,14,34] hK ?_;clear hK K)
   |(with_reducible refine .done (hK _ ?_);clear hK K)
   |refine U.of rfl ?_
   |(with_reducible refine ar.aU (fun h =>?_) (fun h =>?_) <;>try simp only[h])) <;>try simp only[aX,R,simprocAttr])
  all_goals clear R
  exact hexit _ (by simp) rfl rfl rfl rfl rfl
 |succ c =>
  have hct:c<t.length:=by omega
  have hc0:decide ((a:Int)<((a+(c+1):Nat):Int))=true:=by simp;omega
  have wd:IntKind.i64.wrap (((a+(c+1):Nat):Int)-1)=((a+c:Nat):Int):=by rw[cA _ (by omega) (by omega)];omega
  have gx:=adA (p:=p) (t:=t) (rest:=rest) (x:=x) (c:=c+1) ha (by omega)
  have gy:=adB (p:=p) (t:=t) (rest:=rest) (x:=x) (c:=c) ha hct
  have hstep:=Iy (p:=p) (t:=t) (rest:=rest) (x:=x) (c:=c) ha hct
  obtain ⟨hyS,hyx⟩:=htS t[c] (List.getElem_mem _)
  have hcmp:=rn l hd hl x t[c] hxS hyS
  generalize hws0:dV p t rest x (c+1)=ws at *
  have hi1:a+(c+1)<n:=by omega
  have hj1:a+c<n:=by omega
  obtain ⟨i1,hi1e⟩:∃ i1,i1=a+(c+1):=⟨_,rfl⟩
  obtain ⟨j1,hj1e⟩:∃ j1,j1=a+c:=⟨_,rfl⟩
  have hij:a+c+1=i1:=by omega
  rw[hij] at hstep
  rw[←hi1e] at hi1 gx hc0 wd ⊢
  rw[←hj1e] at hj1 gy wd hstep
  have v1:=jd (n:=n) (i:=i1) hi1
  have v2:=jd (n:=n) (i:=j1) hj1
  have l1:=gE (xs:=ws) (i:=i1) (by omega)
  have l2:=gE (xs:=ws) (i:=j1) (by omega)
  have s1:=fun (A:ab) v u rest=>nt (A:=A) (n:=1000000) (xs:=ws) (i:=i1) (by omega) v u rest
  obtain ⟨ws2,hws2⟩:∃ ws2,ws2=ws.set i1 (ws.getD j1 0):=⟨_,rfl⟩
  have hw2l:ws2.length=ws.length:=by rw[hws2];simp
  have s2:=fun (A:ab) v u rest=>nt (A:=A) (n:=1000000) (xs:=ws2) (i:=j1) (by omega) v u rest
  have l3:=gE (xs:=ws2) (i:=j1) (by omega)
  rw[gx] at l1
  rw[gy] at l2
  rw[gy] at hws2
  have hst2:ws2.set j1 x=dV p t rest x c:=by rw[←hstep];simp only[j9,gx,gy,←hws2]
  cases hlt:decide (fV l x-fV l t[c]<0) with
  |true =>
   have R:=And.intro @hc0 (And.intro @hw (And.intro @wd (And.intro @v1 (And.intro @v2 (And.intro @l1 (And.intro @l2 (And.intro @l3 (And.intro @s1 (And.intro @s2 (And.intro @hst2 (And.intro @hlt (And.intro @eB (And.intro @dT (And.intro @bg @J))))))))))))))
   repeat' ((first
    |(with_reducible refine .guard (fun hb =>?_) (fun hb =>?_) <;>try simp only[hb])
    |refine U.aW (by decide +kernel) rfl fun K hK =>?_
    |refine .flat _ (hcmp) rfl ?_
    |(refine .aO [0,1,2,3,8,9,14,34] hK ?_;clear hK K)
    |(with_reducible refine .done (hK _ ?_);clear hK K)
    |refine U.of rfl ?_
    |(with_reducible refine ar.aU (fun h =>?_) (fun h =>?_) <;>try simp only[h])) <;>try simp only[aX,R,←hws2,List.cons_append,simprocAttr])
   all_goals clear R
   refine ⟨c,⟨by omega,fun y hy =>?_⟩,by omega,?_⟩
   ·rw[List.drop_eq_getElem_cons hct] at hy
    rcases List.mem_cons.1 hy with rfl | hy
    ·rw[sD hyx];simp at hlt;omega
    ·exact hgt y hy
   ·rw[hj1e]
    refine aE.c5 ?_ (fun n =>?_)
    ·simp[aT,aV]
    ·simp only[aj];split <;>rfl
  |false =>
   have R:=And.intro @hc0 (And.intro @hw (And.intro @wd (And.intro @v1 (And.intro @v2 (And.intro @l1 (And.intro @l2 (And.intro @hlt (And.intro @eB (And.intro @dT (And.intro @bg @J))))))))))
   repeat' ((first
    |(with_reducible refine .guard (fun hb =>?_) (fun hb =>?_) <;>try simp only[hb])
    |refine U.aW (by decide +kernel) rfl fun K hK =>?_
    |refine .flat _ (hcmp) rfl ?_
    |(refine .aO [0,1,2,3,8,9,14,34] hK ?_;clear hK K)
    |(with_reducible refine .done (hK _ ?_);clear hK K)
    |refine U.of rfl ?_
    |(with_reducible refine ar.aU (fun h =>?_) (fun h =>?_) <;>try simp only[h])) <;>try simp only[aX,R,List.cons_append,simprocAttr])
   all_goals clear R
   exact hexit _ (ahj g3 hct (sC hyx (by simp at hlt;omega))) rfl rfl rfl rfl rfl
def m7(key:Nat→Int)(a b:Nat):Prop:=key a<key b∨(key a=key b∧a<b)
theorem wh(key:Nat→Int)(i:Nat)(o:List Nat):(jW key i o).Perm (i::o):=by
 have h:(o.takeWhile fun k=>decide (key k≤key i))++(o.dropWhile fun k=>decide (key k≤key i))=o:=List.takeWhile_append_dropWhile
 have:=(List.perm_middle (a:=i) (l₁:=o.takeWhile fun k=>decide (key k≤key i)) (l₂:=o.dropWhile fun k=>decide (key k≤key i)))
 rw[h] at this
 exact this
theorem Iw(key:Nat→Int)(i:Nat):∀ o:List Nat,o.Pairwise (m7 key)→(∀ x∈o,x<i)→(jW key i o).Pairwise (m7 key)
 | [],_,_=>by simp[jW]
 |a::o,hs,hi=>by
  obtain ⟨h1,h2⟩:=List.pairwise_cons.1 hs
  by_cases ha:key a≤key i
  ·have e:jW key i (a::o)=a::jW key i o:=by simp[jW,ha]
   rw[e]
   refine List.pairwise_cons.2 ⟨fun b hb =>?_,Iw key i o h2 fun x hx=>hi x (by simp[hx])⟩
   rcases List.mem_cons.1 ((wh key i o).mem_iff.1 hb) with rfl | hb
   ·have:=hi a (by simp)
    simp only[m7];omega
   ·exact h1 b hb
  ·have e:jW key i (a::o)=i::a::o:=by simp[jW,ha]
   rw[e]
   refine List.pairwise_cons.2 ⟨fun b hb =>?_,hs⟩
   rcases List.mem_cons.1 hb with rfl | hb
   ·simp only[m7];omega
   ·have:=h1 b hb
    simp only[m7] at *;omega
theorem sZ(key:Nat→Int):∀ (l o:List Nat),o.Pairwise (m7 key)→l.Pairwise (· < ·)→(∀ x∈o,∀ y∈l,x<y)→(l.foldl (fun o i=>jW key i o) o).Perm (o++l)∧(l.foldl (fun o i=>jW key i o) o).Pairwise (m7 key)
 | [],o,ho,_,_=>by simp[ho]
 |i::l,o,ho,hl,hx=>by
  obtain ⟨h1,h2⟩:=List.pairwise_cons.1 hl
  have:=sZ key l (jW key i o) (Iw key i o ho fun x h=>hx x h i (by simp)) h2 fun x h y hy=>by
   rcases List.mem_cons.1 ((wh key i o).mem_iff.1 h) with rfl | h
   ·exact h1 y hy
   ·exact hx x h y (by simp[hy])
  refine ⟨this.1.trans ?_,this.2⟩
  exact ((wh key i o).append_right l).trans List.perm_middle.symm
def dq(l:List Nat):List Int:=l.map fun n:Nat=>(n:Int)
def kZ(l:List ay)(day known:Int):List Int:=dq (jQ l day known)
def pA(l:List ay)(day known:Int):List Int:=dq (jG l day known)
theorem ahw(l:List ay)(known:Int):(gT l known).Pairwise (· < ·):=List.Pairwise.filter _ List.pairwise_lt_range
theorem MA{l:List ay}{known:Int}{i:Nat}(h:i∈gT l known):i<l.length:=by
 simp only[gT,List.mem_filter,List.mem_range] at h;exact h.1
theorem rS(l:List ay)(day known:Int):(jQ l day known).Pairwise (· < ·):=List.Pairwise.filter _ (ahw l known)
theorem BN{l:List ay}{day known:Int}{i:Nat}(h:i∈jQ l day known):i<l.length:=MA (List.mem_filter.1 h).1
theorem Wd(l:List ay)(day known:Int):(kZ l day known).Pairwise (· < ·):=by
 refine List.pairwise_map.2 ((rS l day known).imp fun {a b} h =>?_)
 show (a:Int)<(b:Int)
 omega
theorem Wc{l:List ay}{day known:Int} : ∀ x∈kZ l day known,jc l x:=fun x hx=>by
 obtain ⟨i,hi,rfl⟩:=List.mem_map.1 hx
 have:=BN hi
 exact ⟨by omega,by omega⟩
theorem uK(l:List ay)(day known:Int):(jQ l day known).length≤l.length:=by
 have h1:=List.length_filter_le (fun i=>decide ((ae l i).kind≠0)&&decide ((ae l i).day≤day)) (gT l known)
 have h2:=List.length_filter_le (fun i=>(kK l known).getD i false) (List.range l.length)
 rw[List.length_range] at h2
 exact Nat.le_trans h1 h2
theorem af6{l:List ay}{day known:Int}{s:List Int}(hp:s.Perm (kZ l day known))(hs:db l s):s=pA l day known:=by
 have h0:=sZ (fun i=>(ae l i).day) (jQ l day known) [] (by simp) (rS l day known) (by simp)
 have h1:(pA l day known).Perm (kZ l day known):=h0.1.map _
 have h2:db l (pA l day known):=by
  refine List.pairwise_map.2 (h0.2.imp fun {a b} h =>?_)
  simp only[m7] at h
  simp only[dA,fV,Int.toNat_natCast]
  omega
 refine List.Perm.eq_of_pairwise (fun a b _ _ h k =>?_) hs h2 (hp.trans h1.symm)
 simp only[dA] at h k;omega
theorem af8{l:List ay}{day known:Int}{i:Nat}(h:i∈jG l day known):i∈jQ l day known:=by
 have h0:=sZ (fun i=>(ae l i).day) (jQ l day known) [] (by simp) (rS l day known) (by simp)
 exact h0.1.mem_iff.1 h
theorem JT(l:List ay)(day known:Int):(jG l day known).length=(jQ l day known).length:=by
 have h0:=sZ (fun i=>(ae l i).day) (jQ l day known) [] (by simp) (rS l day known) (by simp)
 exact h0.1.length_eq
theorem afE{x:ay}(h:ij x=true):0≤x.day∧x.day≤100000:=by
 simp only[ij,cm,Bool.and_eq_true,decide_eq_true_eq] at h
 omega
theorem ahv(l:List ay)(known:Int):(kK l known).length=l.length:=x8 known l
theorem NU(el:List ay):aB Tryz.prog 203 [enc ([]:List Int),.int .i64 0,.int .i64 0,.func 138 [.ref (enc el)]] (.tuple []):=by
 refine aB.bu Tryz.func203 Bh Bo BB (Nat.le_of_ble_eq_true rfl) (fun hwf W0 D0 E1 =>?_)
 simp only[um,xF,bp,Nat.zero_add,Nat.reduceAdd]
 clear hwf
 have hc:decide ((1:Int)<0)=false:=by decide
 have hw:IntKind.i64.wrap 1=1:=by decide
 refine .ak (by decide +kernel) fun K hK =>?_
 simp only[vE,J,Nat.reduceEqDiff,reduceIte]
 refine .done (hK _ ?_);clear hK K
 refine U.block (U.loop (fun _:Unit=>au [(2,.int .i64 0),(8,.int .i64 1)] []) (fun _=>True) (fun _=>0) () trivial ?_ (fun _ _ =>?_))
 ·refine aE.bP ?_ ?_ ?_ ?_ <;>simp[*,aT,bJ,bI,bd,aV,I.only]
 have R:=And.intro @hc (And.intro @ki (And.intro @bK (And.intro @bg @J)))
 repeat' ((first
  |(with_reducible refine .guard (fun hb =>?_) (fun hb =>?_) <;>try simp only[hb])
  |refine U.aW (by decide +kernel) rfl fun K hK =>?_
  |(refine .aO [0,1,2,3,8,9,14,34] hK ?_;clear hK K)
  |(with_reducible refine .done (hK _ ?_);clear hK K)
  |refine U.of rfl ?_
  |(with_reducible refine ar.aU (fun h =>?_) (fun h =>?_) <;>try simp only[h])) <;>try simp only[aX,R,Nat.reduceEqDiff,reduceIte,Nat.reduceBEq])
 all_goals clear R
 rfl
theorem NG(el:List ay):aB Tryz.prog 171 [enc ([]:List Int),.int .i64 0,.func 138 [.ref (enc el)]] (.tuple []):=by
 refine aB.bu Tryz.func171 Be Bm Bz (Nat.le_of_ble_eq_true rfl) (fun hwf W0 D0 E1 =>?_)
 simp only[uj,xD,bp,Nat.zero_add,Nat.reduceAdd]
 clear hwf
 have hc:decide ((20:Int)≤0)=false:=by decide
 have hc2:decide ((20:Int)<0)=false:=by decide
 refine .ak (by decide +kernel) fun K hK =>?_
 simp only[vv,J]
 refine .done (hK _ ?_);clear hK K
 refine .ak (by decide +kernel) fun K hK =>?_
 simp only[vw,J,Nat.reduceEqDiff,reduceIte]
 refine .done (hK _ ?_);clear hK K
 refine U.seq (U.block (U.loop (fun _:Unit=>au [(0,enc ([]:List Int)),(1,.int .i64 0),(2,.func 138 [.ref (enc el)]),(6,.int .i64 20),(7,.int .i64 0),(8,.int .i64 20)] []) (fun _=>True) (fun _=>0) () trivial ?_ (fun _ _ =>?_)))
 ·refine aE.bP ?_ ?_ ?_ ?_ <;>simp[aT,bJ,bI,bd,aV,I.only,I.bV,bt]
 have R:=And.intro @hc (And.intro @ki (And.intro @bK (And.intro @bg @J)))
 repeat' ((first
  |(with_reducible refine .guard (fun hb =>?_) (fun hb =>?_) <;>try simp only[hb])
  |refine U.aW (by decide +kernel) rfl fun K hK =>?_
  |refine .lead _ (NU el) ?_
  |(refine .aO [0,1,2,6,7,8,9,13,30,35,54] hK ?_;clear hK K)
  |(with_reducible refine .done (hK _ ?_);clear hK K)
  |refine U.of rfl ?_
  |(with_reducible refine ar.aU (fun h =>?_) (fun h =>?_) <;>try simp only[h])) <;>try simp only[aX,R,Nat.reduceEqDiff,reduceIte,Nat.reduceBEq])
 all_goals clear R
 refine U.loop (fun _:Unit=>au [(0,enc ([]:List Int)),(1,.int .i64 0),(2,.func 138 [.ref (enc el)]),(6,.int .i64 20)] []) (fun _=>True) (fun _=>0) () trivial ?_ (fun _ _ =>?_)
 ·refine aE.bP ?_ ?_ ?_ ?_ <;>simp[aT,bJ,bI,bd,aV,I.only,I.bV,bt]
 have R:=And.intro @hc2 (And.intro @ki (And.intro @bK (And.intro @bg @J)))
 repeat' ((first
  |(with_reducible refine .guard (fun hb =>?_) (fun hb =>?_) <;>try simp only[hb])
  |refine U.aW (by decide +kernel) rfl fun K hK =>?_
  |(refine .aO [0,1,2,6,7,8,9,13,30,35,54] hK ?_;clear hK K)
  |(with_reducible refine .done (hK _ ?_);clear hK K)
  |refine U.of rfl ?_
  |(with_reducible refine ar.aU (fun h =>?_) (fun h =>?_) <;>try simp only[h])) <;>try simp only[aX,R,Nat.reduceEqDiff,reduceIte,Nat.reduceBEq])
 all_goals clear R
 rfl
theorem Nl(el:List ay):aB Tryz.prog 137 [enc ([]:List Int),.func 138 [.ref (enc el)]] (.tuple []):=by
 refine aB.bu Tryz.func137 Bc Bl By (Nat.le_of_ble_eq_true rfl) (fun hwf W0 D0 E1 =>?_)
 simp only[ui,xC,bp,Nat.zero_add]
 clear hwf
 have hz:(([]:List Int).length:Int)=0:=rfl
 have R:=And.intro @hz (And.intro @ki (And.intro @bK (And.intro @bg @J)))
 repeat' ((first
  |(with_reducible refine .guard (fun hb =>?_) (fun hb =>?_) <;>try simp only[hb])
  |refine U.aW (by decide +kernel) rfl fun K hK =>?_
  |refine .lead _ (NG el) ?_
  |(refine .aO [0,1] hK ?_;clear hK K)
  |(with_reducible refine .done (hK _ ?_);clear hK K)
  |refine U.of rfl ?_
  |(with_reducible refine ar.aU (fun h =>?_) (fun h =>?_) <;>try simp only[h])) <;>try simp only[R,Nat.reduceEqDiff,reduceIte])
 all_goals clear R
 rfl
def agU(l:List b7):Prop:=∀ (i j:Nat) (hi:i<l.length) (hj:j<l.length),i<j→l[i].bN<l[j].bN
theorem aib{m:bX}(h:ee m=true):agU m.given:=by
 simp only[ee,Bool.and_eq_true,List.all_eq_true,List.mem_range] at h
 have h1:∀ i,i+1<m.given.length→(cU m i).bN<(cU m (i+1)).bN:=fun i hi=>by
  have:=h.2.2.2 (i+1) hi
  simp only[gq,Bool.and_eq_true] at this
  simpa using this.2.2.1
 intro i j hi hj hij
 obtain ⟨d,rfl⟩:∃ d,j=i+1+d:=⟨j-(i+1),by omega⟩
 induction d with
 |zero=>rw[ja hi,ja hj];exact h1 i hj
 |succ d ih =>
  have hj':i+1+d<m.given.length:=by omega
  have:=ih hj' (by omega)
  rw[ja hi,ja hj'] at this
  rw[ja hi,ja hj]
  have h3:=h1 (i+1+d) hj
  have e:i+1+(d+1)=i+1+d+1:=by omega
  rw[e];omega
theorem Jw{m:bX}(h:ee m=true):m.given.length≤40:=by
 simp only[ee,Bool.and_eq_true,decide_eq_true_eq] at h
 exact h.2.2.1
theorem Jy{m:bX}(h:ee m=true):∀ g∈m.given,dH g.mark=true:=fun g hg=>by
 simp only[ee,Bool.and_eq_true,List.all_eq_true,List.mem_range] at h
 obtain ⟨i,hi,rfl⟩:=List.getElem_of_mem hg
 rw[ja hi]
 exact xg (h.2.2.2 i hi)
theorem NS(m:bX)(r:aM 6 Int)(g:b7)(hg:dH g.mark=true):aB Tryz.prog 201 (enc g::[.ref (enc m),.ref (enc r)]) (enc (decide (m.ew<kW m.eC g.mark r))):=by
 refine aB.bu Tryz.func201 QB Sl Ul (Nat.le_of_ble_eq_true rfl) (fun hwf W0 D0 E1 =>?_)
 simp only[Au,K6,bp,Nat.zero_add,Nat.reduceAdd]
 refine .ak (by decide +kernel) fun K hK =>?_
 simp only[FH,J,simprocAttr]
 try simp only[dG,J,simprocAttr]
 refine .done (hK _ ?_);clear hK K
 refine .ak (by decide +kernel) fun K hK =>?_
 simp only[FI,J,simprocAttr]
 try simp only[cC,cT,J,simprocAttr]
 refine .flat _ (NT m.eC g.mark r hg) rfl ?_
 try simp only[cC,J,simprocAttr]
 refine .done (hK _ ?_);clear hK K
 refine U.ret ?_
 simp only[J,simprocAttr]
def kE(m:bX)(r:aM 6 Int):List b7:=fB (fun g=>decide (m.ew<kW m.eC g.mark r)) m.given
def J2(d:Nat)(m:bX)(r:aM 6 Int):cS:=fun x os'=>(kE m r=[]∧x=enc ([]:List b7)∧os'=[])∨∃ k,x=.view d [] 7 0 (kE m r).length∧os'=iq d (kE m r) k
theorem NC(m:bX)(r:aM 6 Int)(hm:∀ g∈m.given,dH g.mark=true)(hlen:m.given.length≤1000):cD Tryz.prog 168 [enc m,enc r] [] (J2 7 m r):=by
 refine cD.bu Tryz.func168 Qk R3 T3 (Nat.le_of_ble_eq_true rfl) (Nat.le_of_ble_eq_true rfl) (fun m hm=>by simp[al,aj] at hm) (fun hwf W0 D0 E1 =>?_)
 simp only[Ab,KO,bp,Nat.zero_add]
 refine .ak (by decide +kernel) fun K hK =>?_
 simp only[EK,J,simprocAttr]
 try simp only[dG,J,simprocAttr]
 refine .done (hK _ ?_);clear hK K
 refine .ak (by decide +kernel) fun K hK =>?_
 simp only[EL,J,simprocAttr]
 try simp only[cC,cT,J,simprocAttr]
 refine .bR false [(7,7)] [] [enc m.given] (uA m.given) rfl (yC m.given hlen) fT.nil ⟨.inl ⟨(jR _ _).symm,bt _ _,dG _⟩,trivial⟩ ?_ ?_
 ·rintro x os' (⟨_,h | h,rfl⟩ | ⟨_,k,rfl,rfl⟩)
  ·subst h;exact er.nil (fun _=>rfl) (fun h=>by cases h)
  ·subst h;exact er.nil (fun _=>rfl) (fun h=>by cases h)
  ·exact er.sO (fun p=>l9 p _) (fun h=>by cases h) rfl (fun h=>by cases h) rfl (by decide)
 ·have hd:I.eR [.ref (enc m),.ref (enc r)]=true:=by simp only[I.eR,I.done,dT,Bool.and_self]
  rintro x os' (⟨hn,h,rfl⟩ | ⟨hn,k,rfl,rfl⟩)
  ·have hp:kE m r=[]:=by simp[kE,fB,hn]
   have key:∀ x,(x=.nils 7∨x=.c0 7)→a6 true (au [] []) x=some (enc ([]:List b7)):=by rintro x (rfl | rfl) <;>rfl
   have hren:∀ x:I,(x=.nils 7∨x=.c0 7)→x.aK (bA [(7,7)])=x∧x.b9=true:=by rintro x (rfl | rfl) <;>exact ⟨by simp only[I.aK],rfl⟩
   rw[(hren x h).1]
   try simp only[jj,List.nil_append,List.all_cons,List.all_nil,I.b9,Bool.and_self,J,simprocAttr]
   have hfx:∀ A,a6 true A x=some (enc ([]:List b7)):=fun A=>by rcases h with rfl | rfl <;>simp only[a6,fW,List.map_nil] <;>rfl
   refine .ib [2,3] (enc ([]:List b7)) rfl (NR 201 [.ref (enc m),.ref (enc r)] hd) ?_ ?_ ?_
   ·try simp only[hfx,iG,List.filter_cons,List.filter_nil,List.contains_cons,Nat.reduceBEq,Bool.or_true,Bool.true_or,BEq.rfl,dT,J,simprocAttr]
   ·simp[c4,bd]
   ·try simp only[gI,c4,List.filter_cons,List.filter_nil,List.contains_cons,Nat.reduceBEq,Bool.or_true,Bool.true_or,BEq.rfl,List.map_cons,List.map_nil,J,simprocAttr]
    refine .done (hK _ ?_);clear hK K
    refine U.ret ?_
    simp only[fF]
    exact ⟨[],[enc ([]:List b7)],qj,⟨⟨_,rfl,.inl ⟨rfl,rfl,rfl⟩⟩,trivial⟩,.inl ⟨hp,rfl,rfl⟩⟩
  ·try simp only[iq,jj,iO,List.cons_append,List.nil_append,List.all_cons,List.all_nil,I.b9,Bool.and_self,J,simprocAttr]
   refine .bR true [(1000000,7)] (iq 1000000 m.given k) [.view 1000000 [] 7 0 m.given.length,.func 201 [.ref (enc m),.ref (enc r)]] (BG 1000000 (kE m r)) rfl
    (NQ m.given 201 [.ref (enc m),.ref (enc r)] hd (fun g=>decide (m.ew<kW m.eC g.mark r)) (fun g hg=>NS m r g (hm g hg)) hlen k) ⟨?_,?_⟩ ⟨.inl ⟨?_,?_,rfl⟩,.inr ?_,trivial⟩ ?_ ?_
   ·intro n x h
    simp only[iq,aj] at h
    split at h
    ·rename_i hn'
     subst hn'
     simp only[Option.some.injEq] at h
     subst h
     exact ⟨by simp only[jj,iO,J,simprocAttr],l9 _ _,rfl⟩
    ·cases h
   ·intro a b ha hb _
    rw[df.1 ha,df.1 hb]
   ·try simp only[jj,simprocAttr]
   ·exact df.2 rfl
   ·try simp only[jD,iq,bA,c4,List.filter_cons,List.filter_nil,List.map_cons,List.map_nil,List.contains_cons,List.contains_nil,Nat.reduceBEq,Bool.or_false,BEq.rfl,dT,J,simprocAttr]
   ·rintro x os' ⟨k',rfl,rfl⟩
    exact er.one (fun p=>l9 p _) (fun _=>aem _) (df.2 rfl) (fun _=>rfl)
   ·rintro x os' ⟨k',rfl,rfl⟩
    try simp only[iq,jj,iO,List.cons_append,List.nil_append,J,simprocAttr]
    refine .done (hK _ ?_);clear hK K
    refine U.ret ?_
    simp only[fF]
    exact ⟨iq 7 (kE m r) k',[.view 7 [] 7 0 (kE m r).length],mS rfl (fun p=>l9 p _),⟨⟨_,rfl,.inl ⟨rfl,rfl,rfl⟩⟩,trivial⟩,.inr ⟨k',rfl,rfl⟩⟩
def kC(l:List b7)(i:Nat):List Int:=(l.take i).map (·.bN)
theorem agb(l:List b7):kC l 0=[]:=by simp[kC]
theorem aga{l:List b7}{i:Nat}(h:i<l.length):kC l (i+1)=kC l i++[l[i].bN]:=by
 simp only[kC];rw[List.take_succ_eq_append_getElem h,List.map_append];rfl
theorem JU{l:List b7}{i:Nat}(h:i≤l.length):(kC l i).length=i:=by simp[kC];omega
theorem af9(l:List b7):kC l l.length=l.map (·.bN):=by simp[kC]
theorem ND(l:List b7)(hlen:l.length≤1000):aB Tryz.prog 169 [enc l] (enc (l.map (·.bN))):=by
 refine aB.bu Tryz.func169 Ql R4 T4 (Nat.le_of_ble_eq_true rfl) (fun hwf W0 D0 E1 =>?_)
 simp only[Ac,KP,bp]
 refine .ak (by decide +kernel) fun K hK =>?_
 simp only[EM,J,simprocAttr]
 refine .done (hK _ ?_);clear hK K
 refine .ak (by decide +kernel) fun K hK =>?_
 simp only[EN,J,simprocAttr]
 refine .done (hK _ ?_);clear hK K
 refine U.seq ?_
 refine U.seq (U.bj (by decide +kernel) fun K hK =>?_)
 try simp only[EO,bK,J,simprocAttr]
 refine .done (hK _ ?_);clear hK K
 refine U.block (U.loop (fun i:Nat=>au [(3,.own 3 (kC l i).length),(6,enc l),(7,.int .i64 l.length),(8,.int .i64 i)] [(3,.bS 3 1 ((kC l i).map enc))]) (fun i=>i≤l.length) (fun i=>l.length-i) 0 (Nat.zero_le _) ?_ (fun i hi =>?_))
 ·refine aE.pT 3 3 3 1 1 ?_ ?_ ?_
  ·simp only[oG,Nat.reduceEqDiff,reduceIte]
  ·simp only[oG]
  ·simp only[agb,List.map_nil,List.length_nil]
   refine aE.bP ?_ ?_ ?_ ?_ <;>simp[aT,bJ,bI,bd,al,aV,cw,I.only,I.bV,ah.only,bt]
 ·refine .ak (by decide +kernel) fun K hK =>?_
  simp only[EP,J,simprocAttr]
  refine .done (hK _ ?_);clear hK K
  refine U.seq ?_
  refine U.bD ?_
  simp only[ar,J,simprocAttr]
  refine ⟨fun h =>?_,fun h =>?_⟩
  ·have hlt:i<l.length:=by simpa using h
   refine U.skip ?_;try simp only[ao,simprocAttr]
   refine U.seq (U.block ?_)
   refine .ak (by decide +kernel) fun K hK =>?_
   simp only[ER,J,simprocAttr]
   try simp only[fL 7 hlt rfl,cC,J,simprocAttr]
   rw[ep (dG _) (by rw[fJ];rfl) ((eH _).trans rfl)]
   try simp only[J,simprocAttr]
   refine .done (hK _ ?_);clear hK K
   refine .bj (by decide +kernel) fun K hK =>?_
   simp only[ES,J,simprocAttr]
   try simp only[cC,J,simprocAttr]
   rw[nA 3 1 8 3 rfl rfl (by simp) (by simp[maxLen,JU hi];omega) (by simp[JU hi];omega)]
   try simp only[J,simprocAttr]
   refine .done (hK _ ?_);clear hK K;try simp only[ao,bH]
   refine .bj (by decide +kernel) fun K hK =>?_
   simp only[ET,J,simprocAttr]
   refine .done (hK _ ?_);clear hK K;try simp only[ao]
   refine ⟨i+1,by omega,by omega,?_⟩
   rw[cA _ (by omega) (by omega),aga hlt]
   refine aE.bP ?_ ?_ ?_ ?_ <;>simp[aT,bJ,bI,bd,al,aV,cw,I.only,I.bV,ah.only,eh,gw,bt,iZ]
  ·have hge:i=l.length:=by simp at h;omega
   subst hge
   refine U.exit ?_;try simp only[ao,bH,simprocAttr]
   refine .ak (by decide +kernel) fun K hK =>?_
   simp only[EU,J,simprocAttr]
   refine .done (hK _ ?_);clear hK K
   refine U.ret ?_
   try simp only[af9,J,simprocAttr]
def eW(rs:List (aM 6 Int))(j:Nat):aM 6 Int:=rs.getD j kN
theorem adD{A:ab}{rs:List (aM 6 Int)}{i:Nat}(h:i<rs.length):ic A 6 (i:Int) (enc rs)=some (.ref (enc (eW rs i))):=by
 rw[fL 6 h rfl];simp[eW,List.getD_eq_getElem?_getD,h]
def BM(m:bX)(rs:List (aM 6 Int))(g:b7)(j:Nat):Bool:=decide (kW m.eC g.mark (eW rs j)≤m.ew)
def jh(m:bX)(rs:List (aM 6 Int))(n:Nat):List b7:=m.given.filter fun g=>(List.range n).all (BM m rs g)
theorem afy(m:bX)(rs:List (aM 6 Int)):jh m rs 0=m.given:=by simp[jh]
theorem Jl(m:bX)(rs:List (aM 6 Int))(n:Nat):jh m rs (n+1)=kE ⟨m.eC,m.ew,jh m rs n⟩ (eW rs n):=by
 simp only[jh,kE,fB,List.filter_filter]
 refine List.filter_congr fun g _ =>?_
 rw[List.range_succ,List.all_append]
 simp only[List.all_cons,List.all_nil,Bool.and_true,BM]
 by_cases h:kW m.eC g.mark (eW rs n)≤m.ew
 ·have h2:¬ m.ew<kW m.eC g.mark (eW rs n):=by omega
  simp[h,h2]
 ·have h2:m.ew<kW m.eC g.mark (eW rs n):=by omega
  simp[h,h2]
theorem afx{m:bX}{rs:List (aM 6 Int)}{n:Nat}{g:b7}(h:g∈jh m rs n):g∈m.given:=(List.mem_filter.1 h).1
theorem Jk(m:bX)(rs:List (aM 6 Int))(n:Nat):(jh m rs n).length≤m.given.length:=List.length_filter_le _ _
def xl(rs:List (aM 6 Int)):Bool:=(List.range rs.length).all fun i=>gQ (eW rs i)
def iJ(m:bX)(rs:List (aM 6 Int)):List Int×Int:=if ee m then (if rs.length≤60 then (if xl rs then ((jh m rs rs.length).map (·.bN),0) else ([],12)) else ([],2)) else ([],13)
theorem Pw(w:aM 5 Int)(n:Int)(l:List b7):dM [enc (a5 0 0 0 0 0),.int .i64 0,.nils 7] [(0,enc w),(1,.int .i64 n),(2,enc l)]=some [enc w,.int .i64 n,enc l]:=by
 have h1:((enc w:I).b9=true∧(enc w:I).size=(enc (a5 0 0 0 0 0)).size):=⟨dG _,by rw[fX,fX]⟩
 have h2:((enc l:I).b9=true∧(enc l:I).size=(I.nils 7).size):=⟨dG _,by rw[fX];rfl⟩
 rw[oj (z:=enc (a5 0 0 0 0 0)) rfl h1.1 h1.2,oj (v:=.int .i64 n) (z:=.int .i64 0) rfl rfl rfl,oj (z:=.nils 7) rfl h2.1 h2.2];rfl
theorem Nd(m:bX)(rs:List (aM 6 Int)):aB Tryz.prog 128 [enc m,enc rs] (.tuple [enc (iJ m rs).1,enc (iJ m rs).2]):=by
 refine aB.bu Tryz.func128 PT RB Tz (Nat.le_of_ble_eq_true rfl) (fun hwf W0 D0 E1 =>?_)
 simp only[zD,Kl,bp,Nat.zero_add]
 refine .ak (by decide +kernel) fun K hK =>?_
 simp only[Dd,J,simprocAttr]
 try simp only[dG,J,simprocAttr]
 refine .done (hK _ ?_);clear hK K
 refine U.seq ?_
 refine .ak (by decide +kernel) fun K hK =>?_
 simp only[De,J,simprocAttr]
 try simp only[cC,cT,J,simprocAttr]
 refine .flat _ (tU m) rfl ?_
 generalize hm:ee m=bm
 cases bm
 ·try simp only[J,simprocAttr]
  refine .done (hK _ ?_);clear hK K
  refine .ak (by decide +kernel) fun K hK =>?_
  simp only[ve,J,simprocAttr]
  refine .done (hK _ ?_);clear hK K
  refine U.bD ?_
  simp only[ar,J,simprocAttr]
  refine ⟨fun h =>?_,fun h =>?_⟩
  ·refine .ak (by decide +kernel) fun K hK =>?_
   simp only[Df,J,simprocAttr]
   refine .done (hK _ ?_);clear hK K
   refine U.ret ?_
   simp only[ao,J,simprocAttr]
   simp[iJ,hm,wY]
  ·cases h
 try simp only[J,simprocAttr]
 refine .done (hK _ ?_);clear hK K
 refine .ak (by decide +kernel) fun K hK =>?_
 simp only[ve,J,simprocAttr]
 refine .done (hK _ ?_);clear hK K
 refine U.bD ?_
 simp only[ar,J,simprocAttr]
 refine ⟨fun h =>?_,fun h =>?_⟩
 ·cases h
 refine U.skip ?_;try simp only[ao,simprocAttr]
 refine U.seq ?_
 refine .ak (by decide +kernel) fun K hK =>?_
 simp only[Dg,J,simprocAttr]
 try simp only[bK,J,simprocAttr]
 refine .done (hK _ ?_);clear hK K
 refine U.bD ?_
 simp only[ar,J,simprocAttr]
 refine ⟨fun h =>?_,fun h =>?_⟩
 ·refine .ak (by decide +kernel) fun K hK =>?_
  simp only[Di,J,simprocAttr]
  refine .done (hK _ ?_);clear hK K
  refine U.ret ?_
  simp only[ao,J,simprocAttr]
  have:¬ rs.length≤60:=by simp at h;omega
  simp[iJ,hm,this,wY]
 have hrl:rs.length≤60:=by simp at h;omega
 refine U.skip ?_;try simp only[ao,simprocAttr]
 have hlen:m.given.length≤1000:=by have:=Jw hm;omega
 -- from the clone on
 have key:∀ c:cK,c=⟨Tryz.prog,W0,D0,Tryz.f128.ntmps,di E1,E1,ig,none⟩→U c (.seq (.seq (.ca none vf) (.block 0 (.loop (.seq (.ca none vg) (.seq (.cond (.t 25) .skip (.exit 0)) (.seq (.block 1 (.seq (.ca none vh) (.seq (.seq (.ca none u7) (.seq (.ca none r5) (.cond (.t 31) (.seq (.ca none u9) .ret) .skip))) (.ca none vb)))) (.ca none r6))))))) (.seq (.ca none vc) .ret))
   (jl [.tmp 4,.tmp 5] (.tuple [enc (iJ m rs).1,enc (iJ m rs).2])) (au [(1,enc rs),(2,.ptr 2 []),(7,enc m.given)] [(2,.box (enc m))]):=by
  rintro c rfl
  refine U.seq ?_
  refine .ak (by decide +kernel) fun K hK =>?_
  simp only[vf,J,simprocAttr]
  try simp only[bK,J,simprocAttr]
  refine .done (hK _ ?_);clear hK K
  refine U.block (U.loop (fun i:Nat=>au [(1,enc rs),(2,.ptr 2 []),(7,enc (jh m rs i)),(22,enc rs),(23,.int .i64 rs.length),(24,.int .i64 i)] [(2,.box (enc m))]) (fun i=>i≤rs.length∧∀ j,j<i→gQ (eW rs j)=true) (fun i=>rs.length-i) 0 ⟨by omega,fun j h=>by omega⟩ ?_ (fun i hi =>?_))
  ·rw[afy]
   refine aE.bP ?_ ?_ ?_ ?_ <;>simp[aT,bJ,bI,bd,al,aV,cw,I.only,ah.only,bt]
  refine .ak (by decide +kernel) fun K hK =>?_
  simp only[vg,J,simprocAttr]
  refine .done (hK _ ?_);clear hK K
  refine U.seq ?_
  refine U.bD ?_
  simp only[ar,J,simprocAttr]
  refine ⟨fun h =>?_,fun h =>?_⟩
  case refine_2.refine_2 =>
   have hge:i=rs.length:=by simp at h;omega
   subst hge
   have hok:xl rs=true:=pU hi.2
   refine U.exit ?_;try simp only[ao,bH,simprocAttr]
   refine .ak (by decide +kernel) fun K hK =>?_
   simp only[vc,J,simprocAttr]
   try simp only[cT,J,simprocAttr]
   refine .lead _ (ND (jh m rs rs.length) (Nat.le_trans (Jk _ _ _) hlen)) ?_
   try simp only[J,simprocAttr]
   refine .done (hK _ ?_);clear hK K
   refine U.ret ?_
   simp only[J,simprocAttr]
   try simp only[cT,J,simprocAttr]
   simp[iJ,hm,hrl,hok]
  have hlt:i<rs.length:=by simp at h;omega
  refine U.skip ?_;try simp only[ao,simprocAttr]
  refine U.seq (U.block ?_)
  refine .ak (by decide +kernel) fun K hK =>?_
  simp only[vh,J,simprocAttr]
  try simp only[cC,adD hlt,BQ,pK,J,simprocAttr]
  refine .done (hK _ ?_);clear hK K
  refine U.seq ?_
  refine .ak (by decide +kernel) fun K hK =>?_
  simp only[u7,J,simprocAttr]
  try simp only[cC,cT,J,simprocAttr]
  refine .flat _ (yz (eW rs i)) rfl ?_
  generalize hr:gQ (eW rs i)=aU
  cases aU
  ·try simp only[J,simprocAttr]
   refine .done (hK _ ?_);clear hK K
   refine .ak (by decide +kernel) fun K hK =>?_
   simp only[r5,J,simprocAttr]
   refine .done (hK _ ?_);clear hK K
   refine U.bD ?_
   simp only[ar,J,simprocAttr]
   refine ⟨fun h =>?_,fun h =>?_⟩
   ·refine .ak (by decide +kernel) fun K hK =>?_
    simp only[u9,J,simprocAttr]
    refine .done (hK _ ?_);clear hK K
    refine U.ret ?_
    simp only[bH,ao,J,simprocAttr]
    have hok:xl rs=false:=ny i hlt hr
    simp[iJ,hm,hrl,hok,wY]
   ·cases h
  try simp only[J,simprocAttr]
  refine .done (hK _ ?_);clear hK K
  refine .ak (by decide +kernel) fun K hK =>?_
  simp only[r5,J,simprocAttr]
  refine .done (hK _ ?_);clear hK K
  refine U.bD ?_
  simp only[ar,J,simprocAttr]
  refine ⟨fun h =>?_,fun h =>?_⟩
  ·cases h
  refine U.skip ?_;try simp only[ao,simprocAttr]
  have hof:∀ j,j<i+1→gQ (eW rs j)=true:=fun j hj=>by
   rcases Nat.lt_or_ge j i with h1 | h1
   ·exact hi.2 j h1
   ·have:j=i:=by omega
    subst this;exact hr
  refine .bj (by decide +kernel) fun K hK =>?_
  simp only[vb,J,simprocAttr]
  try simp only[cC,cT,Pw,BP,p9,J,simprocAttr]
  refine .bR false [(7,40)] [] [enc (⟨m.eC,m.ew,jh m rs i⟩:bX),enc (eW rs i)] (J2 7 ⟨m.eC,m.ew,jh m rs i⟩ (eW rs i)) rfl (NC ⟨m.eC,m.ew,jh m rs i⟩ (eW rs i) (fun g hg=>Jy hm g (afx hg)) (Nat.le_trans (Jk m rs i) hlen)) fT.nil ⟨.inl ⟨(jR _ _).symm,bt _ _,dG _⟩,.inl ⟨(jR _ _).symm,bt _ _,dG _⟩,trivial⟩ ?_ ?_
  ·rintro x os' (⟨_,rfl,rfl⟩ | ⟨k,rfl,rfl⟩)
   ·exact er.nil (fun _=>rfl) (fun h=>by cases h)
   ·exact er.sO (fun p=>l9 p _) (fun h=>by cases h) rfl (fun h=>by cases h) rfl (by decide)
  ·rintro x os' (⟨hp,rfl,rfl⟩ | ⟨k,rfl,rfl⟩)
   ·try simp only[jR,jj,List.nil_append,J,simprocAttr]
    refine .done (hK _ ?_);clear hK K;try simp only[ao,bH]
    refine .bj (by decide +kernel) fun K hK =>?_
    simp only[r6,J,simprocAttr]
    refine .done (hK _ ?_);clear hK K;try simp only[ao]
    refine ⟨i+1,⟨by omega,hof⟩,by omega,?_⟩
    rw[cA _ (by omega) (by omega),Jl,hp]
    refine aE.bP ?_ ?_ ?_ ?_ <;>simp[aT,bJ,bI,bd,al,aV,cw,I.only,ah.only,bt]
   ·try simp only[iq,jj,iO,List.cons_append,List.nil_append,J,simprocAttr]
    refine .done (hK _ ?_);clear hK K;try simp only[ao,bH]
    refine .bj (by decide +kernel) fun K hK =>?_
    simp only[r6,J,simprocAttr]
    refine .done (hK _ ?_);clear hK K;try simp only[ao]
    refine ⟨i+1,⟨by omega,hof⟩,by omega,?_⟩
    rw[cA _ (by omega) (by omega),Jl]
    refine aE.qh (y:=enc (kE ⟨m.eC,m.ew,jh m rs i⟩ (eW rs i))) [40] 7 rfl ?_ ?_ ?_ ?_ ?_ ?_
    ·try simp only[iG,List.filter_cons,List.filter_nil,List.contains_cons,List.contains_nil,Nat.reduceBEq,Bool.or_false,BEq.rfl,rZ (α:=b7) (sz:=7) rfl,yd,J,simprocAttr]
    ·simp[c4,bd,ah.only,bt]
    ·simp[aT,gI,aV,I.only,bt]
    ·simp[bJ,c4,cw]
    ·simp[bI,al,cw,I.only,bt]
    ·simp[bd,ah.only,bt]
 refine .ak (by decide +kernel) fun K hK =>?_
 simp only[Dj,J,simprocAttr]
 try simp only[cC,cT,J,simprocAttr]
 refine .bR false [(7,21)] [] [enc m.given] (uA m.given) rfl (yC m.given hlen) fT.nil ⟨.inl ⟨(jR _ _).symm,bt _ _,dG _⟩,trivial⟩ ?_ ?_
 ·rintro x os' (⟨_,h | h,rfl⟩ | ⟨_,k,rfl,rfl⟩)
  ·subst h;exact er.nil (fun _=>rfl) (fun h=>by cases h)
  ·subst h;exact er.nil (fun _=>rfl) (fun h=>by cases h)
  ·exact er.sO (fun p=>l9 p _) (fun h=>by cases h) rfl (fun h=>by cases h) rfl (by decide)
 ·rintro x os' (⟨hn,h,rfl⟩ | ⟨hn,k,rfl,rfl⟩)
  ·have hren:∀ x:I,(x=.nils 7∨x=.c0 7)→x.aK (bA [(7,21)])=x:=by rintro x (rfl | rfl) <;>simp only[I.aK]
   rw[hren x h]
   try simp only[jj,List.nil_append,J,simprocAttr]
   refine .done (hK _ ?_);clear hK K
   refine U.sub (aE.qh (y:=enc m.given) [] 7 rfl ?_ ?_ ?_ ?_ ?_ ?_) (key _ rfl)
   ·rw[hn];rcases h with rfl | rfl <;>simp only[fW,List.map_nil] <;>rfl
   ·simp[c4,bd,ah.only,bt]
   ·simp[aT,gI,aV,I.only,bt]
   ·simp[bJ,c4,cw]
   ·simp[bI,al,cw,I.only,bt]
   ·simp[bd,ah.only,bt]
  ·try simp only[iq,jj,iO,List.cons_append,List.nil_append,J,simprocAttr]
   refine .done (hK _ ?_);clear hK K
   refine U.sub (aE.qh (y:=enc m.given) [21] 7 rfl ?_ ?_ ?_ ?_ ?_ ?_) (key _ rfl)
   ·try simp only[iG,List.filter_cons,List.filter_nil,List.contains_cons,List.contains_nil,Nat.reduceBEq,Bool.or_false,BEq.rfl,rZ (α:=b7) (sz:=7) rfl,yd,J,simprocAttr]
   ·simp[c4,bd,ah.only,bt]
   ·simp[aT,gI,aV,I.only,bt]
   ·simp[bJ,c4,cw]
   ·simp[bI,al,cw,I.only,bt]
   ·simp[bd,ah.only,bt]
theorem Cb(n:Nat)(ts:List (Nat×I)):∀ t,Abs.cj (gI [n] ts) t=if (Abs.cj ts t).only (fun j => ![n].contains j)=true then Abs.cj ts t else .c8:=by
 intro t
 simp only[gI]
 induction ts with
 |nil=>simp[Abs.cj]
 |cons q ts ih =>
  obtain ⟨k,v⟩:=q
  simp only[List.map_cons,Abs.cj]
  split
  ·rfl
  ·exact ih
theorem tM{p q:Nat→Bool}(h:∀ n,p n=true→q n=true){y:ah}(hy:y.only p=true):y.only q=true:=by
 cases y with
 |box x=>exact iK h _ hy
 |bS T sz es=>exact ik h _ hy
 |dB o=>rfl
 |cO T xs=>rfl
 |cu ks vs=>simp only[ah.only,Bool.and_eq_true] at hy ⊢;exact ⟨ik h _ hy.1,ik h _ hy.2⟩
 |it ks vs l c=>simp only[ah.only,Bool.and_eq_true] at hy ⊢;exact ⟨ik h _ hy.1,ik h _ hy.2⟩
theorem sW{n k:Nat} : ∀ {ts:List (Nat×I)},(∀ q∈ts,nd n k q.2)→∀ t,nd n k (Abs.cj ts t)
 | [],_,_=>.inr rfl
 |(a,v)::ts,h,t=>by
  simp only[Abs.cj]
  split
  ·exact h (a,v) (by simp)
  ·exact sW (fun q hq=>h q (by simp[hq])) t
theorem sX{p:Nat→Bool}{n k:Nat}(hp:p=fun j => ![n].contains j)(f:ah→ah)(hf:∀ y:ah,y.only p=true→f y=y):∀ {os:List (Nat×ah)},bd p (c4 [n] os)→bd p (c4 [n] (os.map fun q=>(q.1,f q.2)))
 | [],_=>trivial
 |(m,y)::os,h=>by
  simp only[List.map_cons,c4,List.filter_cons] at h ⊢
  split
  ·rename_i hm
   rw[if_pos hm] at h
   refine ⟨?_,sX (k:=k) hp f hf h.2⟩
   rw[hf y h.1];exact h.1
  ·rename_i hm
   rw[if_neg hm] at h
   exact sX (k:=k) hp f hf h
theorem Ce{ys q:List Int}{k:Nat}(hk:ys.length=k):l4 1 0 k (some ((ys++q).map enc))=some (enc ys):=by
 have h:(((ys++q).map (enc (α:=Int))).drop 0).take k=ys.map enc:=by
  rw[List.drop_zero,List.map_append,List.take_append_of_le_length (by simp[hk]),List.take_of_length_le (by simp[hk])]
 simp only[l4,h]
 rw[if_pos (kj ys),fW];rfl
theorem MI{n k:Nat} : ∀ y:ah,y.only (fun j => ![n].contains j)=true→iu (fu n k) y=y:=fun y hy=>by
 cases y <;>try rfl
 simp only[ah.only] at hy
 simp only[iu,qZ (iK (fun j hj=>by simpa using hj) _ hy)]
theorem MH{n:Nat} : ∀ y:ah,y.only (fun j => ![n].contains j)=true→iu (ft n) y=y:=fun y hy=>by
 cases y <;>try rfl
 simp only[ah.only] at hy
 simp only[iu,yc (iK (fun j hj=>by simpa using hj) _ hy)]
theorem MD{ts ts':List (Nat×I)}(h:∀ q∈ts',Abs.cj ts q.1=q.2):aT ts ts':=by
 induction ts' with
 |nil=>trivial
 |cons q ts' ih=>exact ⟨h q (by simp),ih fun q hq=>h q (by simp[hq])⟩
theorem U.Mp{W0:World}{D0:aH}{nn:Nat}{ow:Nat→Prop}{E1:aS}{Y:Value→List I→List (Nat×ah)→cS→Prop}{mu:Option Nat}{y:aP}{Q:Exit→ab→Prop}{ts:List (Nat×I)}{os:List (Nat×ah)}{a b d n:Nat}{xs:List Int}
  (hd:Abs.cj ts d=.own n xs.length) (hn:aj os n=some (.cO 3 xs)) (hlt:n<1000000) (hl:xs.length≤60) (ht:∀ t,nd n xs.length (Abs.cj ts t)) (ho:bd (fun j => ![n].contains j) (c4 [n] os))
  (ts':List (Nat×I)) (h1:∀ q∈ts',q.1≠a∧q.1≠b∧Abs.cj ts q.1=q.2∧q.2.only (fun j=>j != n)=true)
  (hda:d≠a) (hdb:d≠b)
  (h:U ⟨Tryz.prog,W0,D0,nn,ow,E1,Y,mu⟩ y Q (au ((d,enc (dC xs))::ts') (c4 [n] os))) :
  U ⟨Tryz.prog,W0,D0,nn,ow,E1,Y,mu⟩ (.seq (.ca none [⟨some a,.mv (.t d),none⟩,⟨some b,.call 107 [.t a],none⟩]) y) Q (au ts os):=by
 have hdrop:∀ m,aj (c4 [n] os) m=if m=n then none else aj os m:=fun m=>by
  have:=m3 [n] os m
  simpa using this
 have ho':∀ m y,aj os m=some y→m≠n→y.only (fun j=>j != n)=true:=fun m y hy hm=>by
  have:=xn ho m y (by rw[hdrop,if_neg hm];exact hy)
  exact tM (fun j hj=>by simpa using hj) this
 by_cases hx:xs=[]
 ·subst hx
  refine U.sub (aE.MN hn (aE.refl _)) ?_
  refine U.seq (U.ca (cl:=[]) (by rfl) fun K hK =>?_)
  have hd':Abs.cj (ts.map fun q=>(q.1,ft n q.2)) d=.nils 1:=by
   rw[pd _ rfl,hd];simp[ft]
  simp only[J,simprocAttr,hd']
  refine .flat _ (M8 _ (.inr rfl)) rfl ?_
  try simp only[J,simprocAttr]
  refine .done (hK _ ?_);clear hK K
  refine U.sub ((aE.ib [n] d (x:=.nils 1) (y:=enc ([]:List Int)) ?_ (by rfl) ?_).trans (aE.c5 ?_ fun m =>?_)) h
  ·simp only[Abs.cj,hda,hdb,if_false];exact hd'
  ·exact sX (k:=0) rfl (iu (ft n)) MH ho
  ·refine ⟨by simp[Abs.cj,dC],MD fun q hq =>?_⟩
   obtain ⟨k1,k2,k3,k4⟩:=h1 q hq
   have hqd:q.1≠d:=fun e=>by
    rw[e,hd] at k3
    rw[←k3] at k4
    simp[I.only] at k4
   have h5:Abs.cj (ts.map fun p=>(p.1,ft n p.2)) q.1=q.2:=by
    rw[pd _ rfl,k3,yc k4]
   simp only[Abs.cj,Cb,k1,k2,hqd,if_false,h5]
   rw[if_pos (iK (fun j hj=>by simpa using hj) _ k4)]
  ·rw[hdrop,m3,sB]
   by_cases hm:m=n
   ·simp[hm]
   ·cases h6:aj os m with
    |none=>simp[hm]
    |some y =>
     have h7:iu (ft n) y=y:=MH _ (tM (fun j hj=>by simpa using hj) (ho' _ _ h6 hm))
     simp[hm,h7]
 ·refine U.ML hn hx hlt ht (fun m y hy hm=>.inr (ho' m y hy hm)) fun q =>?_
  refine U.seq (U.ca (cl:=[]) (by rfl) fun K hK =>?_)
  have hd':Abs.cj (ts.map fun p=>(p.1,fu n xs.length p.2)) d=.view n [] 1 0 xs.length:=by
   rw[pd _ rfl,hd];simp[fu]
  simp only[J,simprocAttr,hd']
  refine .bR false [(1000000,n)] (cv 1000000 (xs++List.replicate q 0)) [.view 1000000 [] 1 0 xs.length] _ rfl (M7 xs _ hl) ?_ ?_ ?_ ?_
  ·refine ⟨fun m y hy =>?_,fun m m' h h' _=>by rw[df.1 h,df.1 h']⟩
   simp only[cv,aj] at hy
   split at hy
   ·rename_i hm
    cases hy
    subst hm
    exact ⟨by simp only[bA,if_true,aj,ah.aK,I.aK,iO],nS _ _,rfl⟩
   ·cases hy
  ·exact ⟨.inl ⟨by simp[I.aK,bA],df.2 rfl,rfl⟩,trivial⟩
  ·rintro eW os2 ⟨rfl,rfl⟩
   refine ⟨fun m y hy =>?_,fun m m' h h' _=>by rw[df.1 h,df.1 h'],fun m hm=>by rw[df.1 hm];exact df.2 rfl,fun m a b=>by rw[df.1 a] at b;simp[cv,al,aj] at b,rfl,fun _=>rfl⟩
   simp only[cv,aj] at hy
   split at hy
   ·cases hy;exact ⟨nS _ _,rfl,fun h=>by cases h⟩
   ·cases hy
  ·rintro eW os2 ⟨rfl,rfl⟩
   try simp only[cv,dI,List.map_cons,List.map_nil,ah.aK,I.aK,iO,bA,reduceIte,List.cons_append,List.nil_append,I.cP,J,simprocAttr]
   refine .done (hK _ ?_);clear hK K
   refine U.sub ((aE.ib [n] d (x:=.view n [] 1 0 xs.length) (y:=enc (dC xs)) ?_ ?_ ?_).trans (aE.c5 ?_ fun m =>?_)) h
   ·simp only[Abs.cj,hda,hdb,if_false];exact hd'
   ·have:aj (iG [n] ((n,ah.box (I.agg ((dC xs++List.replicate q 0).map enc)))::(n,ah.box (I.agg ((xs++List.replicate q 0).map enc)))::os.map fun p=>(p.1,iu (fu n xs.length) p.2))) n=some (.box (.agg ((dC xs++List.replicate q 0).map enc))):=by
     rw[nR];simp[aj]
    try simp only[this,J,simprocAttr]
    exact Ce (by simp[dC])
   ·have:=sX (k:=0) rfl (iu (fu n xs.length)) MI ho
    simpa[c4] using this
   ·refine ⟨by simp[Abs.cj],MD fun q hq =>?_⟩
    obtain ⟨k1,k2,k3,k4⟩:=h1 q hq
    have hqd:q.1≠d:=fun e=>by
     rw[e,hd] at k3
     rw[←k3] at k4
     simp[I.only] at k4
    have h5:Abs.cj (ts.map fun p=>(p.1,fu n xs.length p.2)) q.1=q.2:=by
     rw[pd _ rfl,k3,qZ k4]
    simp only[Abs.cj,Cb,k1,k2,hqd,if_false,h5]
    rw[if_pos (iK (fun j hj=>by simpa using hj) _ k4)]
   ·rw[hdrop,m3]
    by_cases hm:m=n
    ·simp[hm]
    ·simp only[aj,if_neg hm,sB]
     cases h6:aj os m with
     |none=>simp[hm]
     |some y =>
      have h7:iu (fu n xs.length) y=y:=MI _ (tM (fun j hj=>by simpa using hj) (ho' _ _ h6 hm))
      simp[hm,h7]
end Go.Proofs.YtcldiigclhgafaaGreat
