/-
  A part of the proof that the law HerdBearers returns true for every input; conditions: none beyond the statement's own. (part 5 of 7)
-/
import Derived.Shelf.Sort.Plain
import Derived.Shelf.Slices.In.SortNone
import Derived.Test.YtcldiigclhgafaaGreatNad
set_option linter.unusedSimpArgs false
set_option linter.unusedVariables false
set_option maxHeartbeats 16000000
set_option maxRecDepth 100000
namespace Go.Proofs.YtcldiigclhgafaaGreat
open Go Go.Abs
open Go.Abs.Enc (enc)
theorem UR(a b:Item):decide (og a b<0)=before a b:=by
 simp only[og,mJ,jJ,before]
 repeat' split
 all_goals simp_all
 all_goals omega
theorem Qe{a b c:Item}(h:before a b=true)(k:before b c=true):before a c=true:=by
 simp only[before,Bool.or_eq_true,decide_eq_true_eq,Bool.and_eq_true] at *
 omega
theorem CI(a b:Item):decide (0≤og a b) = !before a b:=by
 rw[←UR]
 by_cases h:og a b<0
 ·have:¬ 0≤og a b:=by omega
  simp[h,this]
 ·have:0≤og a b:=by omega
  simp[h,this]
theorem lD{l:List au}{i:Nat}(h:i<l.length):l[i]=ab l i:=by simp[ab,h]
theorem ic{l:List au}{i:Nat}(h:i<l.length)(A:ae):iW A 17 (i:Int) (enc l)=some (.ref (enc (ab l i))):=by
 rw[ew 17 h rfl,lD h]
theorem fX{i n:Nat}(h:i<n):decide ((i:Int)<(n:Int))=true:=by simp;omega
theorem gh{i n:Nat}(h:¬ i<n):decide ((i:Int)<(n:Int))=false:=by simp;omega
theorem uD{n:Nat}(h:n≤9223372036854775807):IntKind.i64.wrap (n:Int)=(n:Int):=cG _ (by omega) (by omega)
theorem fk{i:Nat}(h:i<9223372036854775807):IntKind.i64.wrap ((i:Int)+1)=((i+1:Nat):Int):=by rw[cG _ (by omega) (by omega)];rfl
theorem NS{i:Nat}(h:0<i)(h2:i<9223372036854775807):IntKind.i64.wrap ((i:Int)-1)=((i-1:Nat):Int):=by rw[cG _ (by omega) (by omega)];omega
theorem oE{l:List au}(h:dJ l=true):l.length≤60:=by simp[dJ] at h;exact h.1
theorem yb{l:List au}(h:dJ l=true){i:Nat}(hi:i<l.length):ig l i=true:=by
 simp only[dJ,Bool.and_eq_true,List.all_eq_true,List.mem_range] at h
 exact h.2 i hi
theorem tQ{l:List au}{i:Nat}(hi:i<l.length)(h:ig l i=false):dJ l=false:=by
 cases hk:dJ l with
 |false=>rfl
 |true=>rw[yb hk hi] at h;cases h
theorem yc{l:List au}(hl:l.length≤60)(h:∀ i,i<l.length→ig l i=true):dJ l=true:=by
 simp only[dJ,Bool.and_eq_true,List.all_eq_true,List.mem_range,decide_eq_true_eq]
 exact ⟨hl,h⟩
theorem qZ{l:List au}(h:dJ l=true){i:Nat}(hi:i<l.length):gA (ab l i)=true:=by
 have:=yb h hi
 simp only[ig,Bool.and_eq_true] at this
 exact this.1
theorem Kb{l:List au}(h:dJ l=true):∀ {j i:Nat},i<j→j<l.length→before (ab l i).da (ab l j).da=true
 |0,i,hij,_=>by omega
 |j+1,i,hij,hj=>by
  have h1:=yb h hj
  simp only[ig,Bool.and_eq_true,Bool.or_eq_true,decide_eq_true_eq,Nat.add_sub_cancel] at h1
  have h2:=h1.2.resolve_left (by omega)
  by_cases e:i=j
  ·rw[e];exact h2
  ·exact Qe (Kb h (j:=j) (by omega) (by omega)) h2
theorem tx{p:Nat→Prop}{i:Nat}(h:∀ j,j<i→p j)(hi:p i):∀ j,j<i+1→p j:=fun j hj=>by
 by_cases e:j=i
 ·exact e▸hi
 ·exact h j (by omega)
theorem Pe(l:List au):aw Tryz.prog 64 [enc l] (enc (if dJ l then (0:Int) else 41)):=by
 refine aw.bp Tryz.func64 Sa Ub Wi (Nat.le_of_ble_eq_true rfl) (fun hwf W0 D0 E1 =>?_)
 simp only[BU,L8,a6]
 have hlen:l.length≤maxLen:=((ku l).1 hwf.1).1
 simp only[maxLen] at hlen
 clear hwf
 refine .ao (by decide +kernel) fun K hK =>?_
 simp only[Im,U,simprocAttr]
 refine .done (hK _ ?_);clear hK K
 refine J.seq (J.seq ?_)
 refine .bD (by decide +kernel) fun K hK =>?_
 simp only[Io,U,simprocAttr]
 try simp only[bx,U,simprocAttr]
 refine .done (hK _ ?_);clear hK K;try simp only[al]
 refine J.bI ?_
 simp only[aj,U,simprocAttr]
 refine ⟨fun h =>?_,fun h =>?_⟩
 ·have R:=And.intro @aL @U
  repeat' ((first
   |(with_reducible refine .guard (fun hb =>?_) (fun hb =>?_) <;>try simp only[hb])
   |refine J.aI (by decide +kernel) rfl fun K hK =>?_
   |(refine .aD [0,2,3,4,7,8,9,10,11,33] hK ?_;clear hK K)
   |(with_reducible refine .done (hK _ ?_);clear hK K)
   |refine J.of rfl ?_
   |(with_reducible refine aj.aH (fun h =>?_) (fun h =>?_) <;>try simp only[h])) <;>try simp only[aJ,R,simprocAttr])
  all_goals clear R
  have:¬ l.length≤60:=by simp at h;omega
  simp[dJ,this]
 have hl6:l.length≤60:=by simp at h;omega
 refine J.skip ?_;try simp only[al,simprocAttr]
 refine J.seq (J.seq ?_)
 refine .bD (by decide +kernel) fun K hK =>?_
 simp only[Ip,U,simprocAttr]
 try simp only[bx,U,simprocAttr]
 refine .done (hK _ ?_);clear hK K;try simp only[al]
 refine J.block (J.loop (fun i:Nat=>ar [(0,enc l),(8,enc l),(9,.int .i64 l.length),(10,.int .i64 i)] []) (fun i=>i≤l.length∧∀ j,j<i→ig l j=true) (fun i=>l.length-i) 0 ⟨by omega,fun k h=>by omega⟩ ?_ (fun i hi =>?_))
 ·refine az.bR ?_ ?_ ?_ ?_ <;>simp[aT,bN,bM,bg,aU,I.only,br]
 by_cases hlt:i<l.length
 ·have he:=ic hlt
  have hc:=fX hlt
  have hw:=fk (i:=i) (by omega)
  by_cases h0:i=0
  ·have hc0:decide ((0:Int)<(i:Int))=false:=by simp;omega
   have R:=And.intro @he (And.intro @hc (And.intro @hw (And.intro @hc0 (And.intro @CI (And.intro @aL @U)))))
   repeat' ((first
    |(with_reducible refine .guard (fun hb =>?_) (fun hb =>?_) <;>try simp only[hb])
    |refine J.aI (by decide +kernel) rfl fun K hK =>?_
    |refine .flat _ (uI _) rfl ?_
    |refine .flat _ (zo _ _) rfl ?_
    |(refine .aD [0,2,3,4,7,8,9,10,11,33] hK ?_;clear hK K)
    |(with_reducible refine .done (hK _ ?_);clear hK K)
    |refine J.of rfl ?_
    |(with_reducible refine aj.aH (fun h =>?_) (fun h =>?_) <;>try simp only[h])) <;>try simp only[aJ,R,simprocAttr])
   all_goals clear R
   all_goals first
    |(refine ⟨i+1,⟨by omega,tx hi.2 (by simp_all[ig])⟩,by omega,?_⟩;(refine az.bR ?_ ?_ ?_ ?_ <;>simp[aT,bN,bM,bg,aU,I.only,br]))
    |(rw[tQ hlt (by simp_all[ig])];rfl)
  ·have he2:=ic (l:=l) (i:=i-1) (by omega)
   have hw2:=NS (i:=i) (by omega) (by omega)
   have hc0:decide ((0:Int)<(i:Int))=true:=by simp;omega
   have R:=And.intro @he (And.intro @hc (And.intro @hw (And.intro @he2 (And.intro @hw2 (And.intro @hc0 (And.intro @CI (And.intro @aL @U)))))))
   repeat' ((first
    |(with_reducible refine .guard (fun hb =>?_) (fun hb =>?_) <;>try simp only[hb])
    |refine J.aI (by decide +kernel) rfl fun K hK =>?_
    |refine .flat _ (uI _) rfl ?_
    |refine .flat _ (zo _ _) rfl ?_
    |(refine .aD [0,2,3,4,7,8,9,10,11,33] hK ?_;clear hK K)
    |(with_reducible refine .done (hK _ ?_);clear hK K)
    |refine J.of rfl ?_
    |(with_reducible refine aj.aH (fun h =>?_) (fun h =>?_) <;>try simp only[h])) <;>try simp only[aJ,R,simprocAttr])
   all_goals clear R
   all_goals first
    |(refine ⟨i+1,⟨by omega,tx hi.2 (by simp_all[ig])⟩,by omega,?_⟩;(refine az.bR ?_ ?_ ?_ ?_ <;>simp[aT,bN,bM,bg,aU,I.only,br]))
    |(rw[tQ hlt (by simp_all[ig])];rfl)
 ·have hc:=gh hlt
  have R:=And.intro @hc (And.intro @aL @U)
  repeat' ((first
   |(with_reducible refine .guard (fun hb =>?_) (fun hb =>?_) <;>try simp only[hb])
   |refine J.aI (by decide +kernel) rfl fun K hK =>?_
   |(refine .aD [0,2,3,4,7,8,9,10,11,33] hK ?_;clear hK K)
   |(with_reducible refine .done (hK _ ?_);clear hK K)
   |refine J.of rfl ?_
   |(with_reducible refine aj.aH (fun h =>?_) (fun h =>?_) <;>try simp only[h])) <;>try simp only[aJ,R,simprocAttr])
  all_goals clear R
  rw[yc hl6 fun j hj=>hi.2 j (by omega)];rfl
theorem zL(l:List au):aw Tryz.prog 65 [enc l] (enc (if dJ l then (0:Int) else 41)):=by
 refine aw.bp Tryz.func65 Sb Uc Wj (Nat.le_of_ble_eq_true rfl) (fun hwf W0 D0 E1 =>?_)
 simp only[BV,L9,a6]
 have hlen:l.length≤maxLen:=((ku l).1 hwf.1).1
 simp only[maxLen] at hlen
 clear hwf
 refine .ao (by decide +kernel) fun K hK =>?_
 simp only[Iq,U,simprocAttr]
 refine .done (hK _ ?_);clear hK K
 refine J.seq (J.seq ?_)
 refine .bD (by decide +kernel) fun K hK =>?_
 simp only[Ir,U,simprocAttr]
 try simp only[bx,U,simprocAttr]
 refine .done (hK _ ?_);clear hK K;try simp only[al]
 refine J.bI ?_
 simp only[aj,U,simprocAttr]
 refine ⟨fun h =>?_,fun h =>?_⟩
 ·have R:=And.intro @aL @U
  repeat' ((first
   |(with_reducible refine .guard (fun hb =>?_) (fun hb =>?_) <;>try simp only[hb])
   |refine J.aI (by decide +kernel) rfl fun K hK =>?_
   |(refine .aD [0,2,3,6,10,37] hK ?_;clear hK K)
   |(with_reducible refine .done (hK _ ?_);clear hK K)
   |refine J.of rfl ?_
   |(with_reducible refine aj.aH (fun h =>?_) (fun h =>?_) <;>try simp only[h])) <;>try simp only[aJ,R,simprocAttr])
  all_goals clear R
  have:¬ l.length≤60:=by simp at h;omega
  simp[dJ,this]
 have hl6:l.length≤60:=by simp at h;omega
 refine J.skip ?_;try simp only[al,simprocAttr]
 refine J.seq (J.seq ?_)
 refine .bD (by decide +kernel) fun K hK =>?_
 simp only[Is,U,simprocAttr]
 try simp only[c4,bx,lR,ea,U,simprocAttr]
 refine .done (hK _ ?_);clear hK K;try simp only[al]
 refine J.block (J.loop (fun i:Nat=>ar [(0,enc l),(3,.int .i64 i)] []) (fun i=>i≤l.length∧∀ j,j<i→ig l j=true) (fun i=>l.length-i) 0 ⟨by omega,fun k h=>by omega⟩ ?_ (fun i hi =>?_))
 ·refine az.bR ?_ ?_ ?_ ?_ <;>simp[aT,bN,bM,bg,aU,I.only,br]
 by_cases hlt:i<l.length
 ·have he:=ic hlt
  have hc:=fX hlt
  have hw:=fk (i:=i) (by omega)
  have hb0:∀ b:Bool,((if b=true then (0:Int) else 40) != 0) = !b:=fun b=>by cases b <;>rfl
  by_cases h0:i=0
  ·have hc0:decide ((0:Int)<(i:Int))=false:=by simp;omega
   have R:=And.intro @he (And.intro @hc (And.intro @hw (And.intro @hc0 (And.intro @hb0 (And.intro @bx (And.intro @aL @U))))))
   repeat' ((first
    |(with_reducible refine .guard (fun hb =>?_) (fun hb =>?_) <;>try simp only[hb])
    |refine J.aI (by decide +kernel) rfl fun K hK =>?_
    |refine .flat _ (zK _) rfl ?_
    |refine .flat _ (zp _ _) rfl ?_
    |(refine .aD [0,2,3,6,10,37] hK ?_;clear hK K)
    |(with_reducible refine .done (hK _ ?_);clear hK K)
    |refine J.of rfl ?_
    |(with_reducible refine aj.aH (fun h =>?_) (fun h =>?_) <;>try simp only[h])) <;>try simp only[aJ,R,simprocAttr])
   all_goals clear R
   all_goals first
    |(refine ⟨i+1,⟨by omega,tx hi.2 (by simp_all[ig])⟩,by omega,?_⟩;(refine az.bR ?_ ?_ ?_ ?_ <;>simp[aT,bN,bM,bg,aU,I.only,br]))
    |(rw[tQ hlt (by simp_all[ig])];rfl)
  ·have he2:=ic (l:=l) (i:=i-1) (by omega)
   have hw2:=NS (i:=i) (by omega) (by omega)
   have hc0:decide ((0:Int)<(i:Int))=true:=by simp;omega
   have R:=And.intro @he (And.intro @hc (And.intro @hw (And.intro @he2 (And.intro @hw2 (And.intro @hc0 (And.intro @hb0 (And.intro @bx (And.intro @aL @U))))))))
   repeat' ((first
    |(with_reducible refine .guard (fun hb =>?_) (fun hb =>?_) <;>try simp only[hb])
    |refine J.aI (by decide +kernel) rfl fun K hK =>?_
    |refine .flat _ (zK _) rfl ?_
    |refine .flat _ (zp _ _) rfl ?_
    |(refine .aD [0,2,3,6,10,37] hK ?_;clear hK K)
    |(with_reducible refine .done (hK _ ?_);clear hK K)
    |refine J.of rfl ?_
    |(with_reducible refine aj.aH (fun h =>?_) (fun h =>?_) <;>try simp only[h])) <;>try simp only[aJ,R,simprocAttr])
   all_goals clear R
   all_goals first
    |(refine ⟨i+1,⟨by omega,tx hi.2 (by simp_all[ig])⟩,by omega,?_⟩;(refine az.bR ?_ ?_ ?_ ?_ <;>simp[aT,bN,bM,bg,aU,I.only,br]))
    |(rw[tQ hlt (by simp_all[ig])];rfl)
 ·have hc:=gh hlt
  have R:=And.intro @hc (And.intro @bx (And.intro @aL @U))
  repeat' ((first
   |(with_reducible refine .guard (fun hb =>?_) (fun hb =>?_) <;>try simp only[hb])
   |refine J.aI (by decide +kernel) rfl fun K hK =>?_
   |(refine .aD [0,2,3,6,10,37] hK ?_;clear hK K)
   |(with_reducible refine .done (hK _ ?_);clear hK K)
   |refine J.of rfl ?_
   |(with_reducible refine aj.aH (fun h =>?_) (fun h =>?_) <;>try simp only[h])) <;>try simp only[aJ,R,simprocAttr])
  all_goals clear R
  rw[yc hl6 fun j hj=>hi.2 j (by omega)];rfl
def cz(k:Nat)(ws:List Int):List (Nat×ah):=[(k,.box (.agg (ws.map enc)))]
theorem oz(p:Nat→Bool)(l:List Int):(I.agg (l.map enc)).only p=true:=by simp only[I.only];exact ec p l
theorem aiI(l:List Int):(I.agg (l.map enc)).cY=true:=by simp only[I.cY];exact xQ l
theorem nR{ws:List Int} : ∀ m,aq (cz 1000000 ws) m=true→1000000≤m:=fun m hm=>by rw[dw.1 hm];exact Nat.le_refl _
def kr(ws:List Int)(i j:Nat):List Int:=(ws.set i (ws.getD j 0)).set j (ws.getD i 0)
theorem NH{A B C:List Int}{x y:Int}{i j:Nat}(hi:A.length=i)(hj:A.length+1+B.length=j):kr (A++x::B++y::C) i j=A++y::B++x::C:=by
 subst hi hj
 have e1:(A++x::B++y::C).getD A.length 0=x:=by simp[List.getD_eq_getElem?_getD,List.append_assoc]
 have e2:(A++x::B++y::C).getD (A.length+1+B.length) 0=y:=by
  rw[List.getD_eq_getElem?_getD,List.getElem?_append_right (by simp;omega)]
  simp[]
  have:A.length+1+B.length-(A.length+(B.length+1))=0:=by omega
  rw[this];rfl
 simp only[kr,e1,e2]
 rw[List.append_assoc,List.set_append_right _ _ (Nat.le_refl _),Nat.sub_self,List.cons_append,List.set_cons_zero]
 rw[List.set_append_right _ _ (by omega)]
 have:A.length+1+B.length-A.length=(B.length)+1:=by omega
 rw[this,List.set_cons_succ,List.set_append_right _ _ (Nat.le_refl _),Nat.sub_self,List.set_cons_zero]
 simp
theorem jv{n i:Nat}(h:i<n)(fs:List I):ju 1000000 [] 1 0 n 1 (i:Int) (some fs)=some (.ptr 1000000 [i]):=by
 have:=ov (m:=1000000) (sz:=1) (lo:=0) (l:=n) (i:=i) (fs:=fs) h
 rwa [Nat.zero_add] at this
theorem lb(x y:Nat)(h:x+y<9223372036854775807):IntKind.i64.wrap ((x:Int)+(y:Int))=((x+y:Nat):Int):=by rw[cG _ (by omega) (by omega)];omega
theorem iK{x y:Nat}(h:y≤x)(hx:x<9223372036854775807):IntKind.i64.wrap ((x:Int)-(y:Int))=((x-y:Nat):Int):=by rw[cG _ (by omega) (by omega)];omega
def j0(p x y z q:List Int)(i:Nat):List Int:=p++(z.take i++x.drop i)++y++(x.take i++z.drop i)++q
theorem alY{p x y z q:List Int}{i a b:Nat}(hx:i<x.length)(hz:z.length=x.length)(ha:p.length=a)(hb:a+x.length+y.length=b):kr (j0 p x y z q i) (a+i) (b+i)=j0 p x y z q (i+1):=by
 have e1:j0 p x y z q i=(p++z.take i)++x[i]::(x.drop (i+1)++y++x.take i)++z[i]::(z.drop (i+1)++q):=by
  simp only[j0]
  rw[List.drop_eq_getElem_cons hx,List.drop_eq_getElem_cons (l:=z) (by omega)]
  simp only[List.append_assoc,List.cons_append]
 have e2:j0 p x y z q (i+1)=(p++z.take i)++z[i]::(x.drop (i+1)++y++x.take i)++x[i]::(z.drop (i+1)++q):=by
  simp only[j0]
  rw[List.take_succ_eq_append_getElem hx,List.take_succ_eq_append_getElem (l:=z) (by omega)]
  simp only[List.append_assoc,List.cons_append,List.nil_append]
 rw[e1,e2]
 refine NH ?_ ?_
 ·simp;omega
 ·simp;omega
theorem alX(p x y z q:List Int)(i:Nat)(hz:z.length=x.length)(hi:i≤x.length):(j0 p x y z q i).length=p.length+x.length+y.length+x.length+q.length:=by
 simp only[j0,List.length_append,List.length_take,List.length_drop];omega
def yL(ws:List Int):cV:=fun r os'=>r=.tuple []∧os'=cz 1000000 ws
theorem nO{ts:List (Nat×I)}{ws ws':List Int}{os:List (Nat×ah)}{post:cV}(hl:ak os 1000000=some (.box (.agg (ws.map enc))))(he:ws=ws')(hp:post (.tuple []) (cz 1000000 ws')):lh [] post (ar ts os):=by
 subst he
 exact ⟨cz 1000000 ws,[],nu hl (fun p=>oz p _),trivial,hp⟩
theorem uN(p x y z q:List Int)(a b n k:Nat)(f:I)(hz:z.length=x.length)(ha:p.length=a)(hb:a+x.length+y.length=b)(hk:x.length=k)(hn:b+k≤n)(hN:n≤1000) :
  cH Tryz.prog 216 [.view 1000000 [] 1 0 n,enc (a:Int),enc (b:Int),enc (k:Int),f] (cz 1000000 (p++x++y++z++q)) (yL (p++z++y++x++q)):=by
 refine cH.bp Tryz.func216 R0 TZ V8 (Nat.le_of_ble_eq_true rfl) (Nat.le_of_ble_eq_true rfl) nR (fun hwf W0 D0 E1 =>?_)
 simp only[BL,LZ,a6,Nat.zero_add,Nat.reduceAdd]
 clear hwf
 refine .ao (by decide +kernel) fun K hK =>?_
 simp only[Ic,U,simprocAttr]
 refine .done (hK _ ?_);clear hK K
 refine J.block (J.loop (fun i:Nat=>ar [(0,.view 1000000 [] 1 0 n),(1,.int .i64 a),(2,.int .i64 b),(3,.int .i64 k),(10,.int .i64 i)] (cz 1000000 (j0 p x y z q i))) (fun i=>i≤k) (fun i=>k-i) 0 (by omega) ?_ (fun i hi =>?_))
 ·have e:j0 p x y z q 0=p++x++y++z++q:=by simp[j0]
  rw[e]
  simp only[cz]
  refine az.bR ?_ ?_ ?_ ?_ <;>simp[aT,bN,bM,bg,aq,aU,cw,I.only,ah.only,ec,iB]
 by_cases hlt:i<k
 ·have hc:=fX hlt
  have hw:=fk (i:=i) (by omega)
  have w1:=lb a i (by omega)
  have w2:=lb b i (by omega)
  have hst:=alY (p:=p) (q:=q) (i:=i) (by omega) hz ha hb
  have hl:=alX p x y z q i hz (by omega)
  simp only[cz]
  generalize j0 p x y z q i=ws at hst hl
  have v1:=jv (n:=n) (i:=a+i) (by omega)
  have v2:=jv (n:=n) (i:=b+i) (by omega)
  have l1:=gR (xs:=ws) (i:=a+i) (by omega)
  have l2:=gR (xs:=ws) (i:=b+i) (by omega)
  have s1:=fun (A:ae) v u rest=>nV (A:=A) (n:=1000000) (xs:=ws) (i:=a+i) (by omega) v u rest
  obtain ⟨ws2,hws2⟩:∃ ws2,ws2=ws.set (a+i) (ws.getD (b+i) 0):=⟨_,rfl⟩
  have s2:=fun (A:ae) v u rest=>nV (A:=A) (n:=1000000) (xs:=ws2) (i:=b+i) (by rw[hws2];simp;omega) v u rest
  have l3:=gR (xs:=ws2) (i:=b+i) (by rw[hws2];simp;omega)
  have R:=And.intro @hc (And.intro @hw (And.intro @w1 (And.intro @w2 (And.intro @v1 (And.intro @v2 (And.intro @l1 (And.intro @l2 (And.intro @s1 (And.intro @s2 (And.intro @l3 (And.intro @df (And.intro @aL @U))))))))))))
  repeat' ((first
   |(with_reducible refine .guard (fun hb =>?_) (fun hb =>?_) <;>try simp only[hb])
   |refine J.aI (by decide +kernel) rfl fun K hK =>?_
   |(refine .aD [0,1,2,3,10,13] hK ?_;clear hK K)
   |(with_reducible refine .done (hK _ ?_);clear hK K)
   |refine J.of rfl ?_
   |(with_reducible refine aj.aH (fun h =>?_) (fun h =>?_) <;>try simp only[h])) <;>try simp only[aJ,R,←hws2,simprocAttr])
  all_goals clear R
  refine ⟨i+1,by omega,by omega,?_⟩
  rw[←hst]
  simp only[kr,←hws2]
  generalize ws2.set _ _=ws3
  refine az.bR ?_ ?_ ?_ ?_ <;>simp[aT,bN,bM,bg,aq,aU,cw,I.only,ah.only,ec]
 ·have hc:=gh hlt
  have he:i=k:=by omega
  subst he
  have R:=And.intro @hc (And.intro @aL @U)
  repeat' ((first
   |(with_reducible refine .guard (fun hb =>?_) (fun hb =>?_) <;>try simp only[hb])
   |refine J.aI (by decide +kernel) rfl fun K hK =>?_
   |(refine .aD [0,1,2,3,10,13] hK ?_;clear hK K)
   |(with_reducible refine .done (hK _ ?_);clear hK K)
   |refine J.of rfl ?_
   |(with_reducible refine aj.aH (fun h =>?_) (fun h =>?_) <;>try simp only[h])) <;>try simp only[aJ,R,simprocAttr])
  all_goals clear R
  rw[lX]
  refine nO rfl ?_ ⟨rfl,rfl⟩
  have h1:z.take i=z:=List.take_of_length_le (by omega)
  have h2:x.take i=x:=List.take_of_length_le (by omega)
  have h3:z.drop i=[]:=List.drop_eq_nil_of_le (by omega)
  have h4:x.drop i=[]:=List.drop_eq_nil_of_le (by omega)
  simp only[j0,h1,h2,h3,h4,List.append_nil]
end Go.Proofs.YtcldiigclhgafaaGreat
namespace Go.Proofs.YtcldiigclhgafaaGreat
open Go Go.Abs Go.Shelf
open Go.Abs.Enc (enc)
def aix:Go.Shelf.Ren:=⟨fun | 189=>107 | 125=>148 | 257=>147 | 128=>188 | 129=>189 | 294=>179 | 295=>180 | 296=>181 | 297=>182 | 298=>183 | 299=>184 | 216=>185 | 300=>186 | 301=>187 | 328=>205 | 329=>206 | 330=>207 | 331=>208 | 332=>209 | 215=>194 | 343=>214 | n=>n,fun | 28=>29 | 3=>3 | 46=>193 | 0=>0 | 51=>217 | 53=>219 | 4=>4 | 183=>210 | 182=>209 | 131=>150 | 5=>5 | 9=>9 | 218=>230 | 222=>234 | 228=>236 | 229=>237 | n=>n,fun | n=>n⟩
theorem JG:Go.Proofs.Lays.n189 Tryz.prog aix := {
 mixed:=by kernel_rfl
 f125:=Tryz.func148.trans (congrArg some (by kernel_rfl))
 f128:=Tryz.func188.trans (congrArg some (by kernel_rfl))
 f129:=Tryz.func189.trans (congrArg some (by kernel_rfl))
 f189:=Tryz.func107.trans (congrArg some (by kernel_rfl))
 f215:=Tryz.func194.trans (congrArg some (by kernel_rfl))
 f216:=Tryz.func185.trans (congrArg some (by kernel_rfl))
 f257:=Tryz.func147.trans (congrArg some (by kernel_rfl))
 f294:=Tryz.func179.trans (congrArg some (by kernel_rfl))
 f295:=Tryz.func180.trans (congrArg some (by kernel_rfl))
 f296:=Tryz.func181.trans (congrArg some (by kernel_rfl))
 f297:=Tryz.func182.trans (congrArg some (by kernel_rfl))
 f298:=Tryz.func183.trans (congrArg some (by kernel_rfl))
 f299:=Tryz.func184.trans (congrArg some (by kernel_rfl))
 f300:=Tryz.func186.trans (congrArg some (by kernel_rfl))
 f301:=Tryz.func187.trans (congrArg some (by kernel_rfl))
 f328:=Tryz.func205.trans (congrArg some (by kernel_rfl))
 f329:=Tryz.func206.trans (congrArg some (by kernel_rfl))
 f330:=Tryz.func207.trans (congrArg some (by kernel_rfl))
 f331:=Tryz.func208.trans (congrArg some (by kernel_rfl))
 f332:=Tryz.func209.trans (congrArg some (by kernel_rfl))
 f343:=Tryz.func214.trans (congrArg some (by kernel_rfl))
 t0:=Tryz.underlying0
 a0:=Tryz.isAgg0
 z0:=Tryz.sizeOf0
 v0:=Tryz.zeroValue0
 t3:=Tryz.underlying3
 a3:=Tryz.isAgg3
 z3:=Tryz.sizeOf3
 v3:=Tryz.zeroValue3
 t4:=Tryz.underlying4
 a4:=Tryz.isAgg4
 z4:=Tryz.sizeOf4
 v4:=Tryz.zeroValue4
 t5:=Tryz.underlying5
 a5:=Tryz.isAgg5
 z5:=Tryz.sizeOf5
 v5:=Tryz.zeroValue5
 t9:=Tryz.underlying9
 a9:=Tryz.isAgg9
 z9:=Tryz.sizeOf9
 v9:=Tryz.zeroValue9
 t28:=Tryz.underlying29
 a28:=Tryz.isAgg29
 z28:=Tryz.sizeOf29
 v28:=Tryz.zeroValue29
 t46:=Tryz.underlying193
 a46:=Tryz.isAgg193
 z46:=Tryz.sizeOf193
 v46:=Tryz.zeroValue193
 t51:=Tryz.underlying217
 a51:=Tryz.isAgg217
 z51:=Tryz.sizeOf217
 v51:=Tryz.zeroValue217
 t53:=Tryz.underlying219
 a53:=Tryz.isAgg219
 z53:=Tryz.sizeOf219
 v53:=Tryz.zeroValue219
 t131:=Tryz.underlying150
 a131:=Tryz.isAgg150
 z131:=Tryz.sizeOf150
 v131:=Tryz.zeroValue150
 t182:=Tryz.underlying209
 a182:=Tryz.isAgg209
 z182:=Tryz.sizeOf209
 v182:=Tryz.zeroValue209
 t183:=Tryz.underlying210
 a183:=Tryz.isAgg210
 z183:=Tryz.sizeOf210
 v183:=Tryz.zeroValue210
 t218:=Tryz.underlying230
 a218:=Tryz.isAgg230
 z218:=Tryz.sizeOf230
 v218:=Tryz.zeroValue230
 t222:=Tryz.underlying234
 a222:=Tryz.isAgg234
 z222:=Tryz.sizeOf234
 v222:=Tryz.zeroValue234
 t228:=Tryz.underlying236
 a228:=Tryz.isAgg236
 z228:=Tryz.sizeOf236
 v228:=Tryz.zeroValue236
 t229:=Tryz.underlying237
 a229:=Tryz.isAgg237
 z229:=Tryz.sizeOf237
 v229:=Tryz.zeroValue237 }
def dX(xs:List Int):List Int:=xs.mergeSort fun x y=>decide (x≤y)
theorem MC{w:World}{D:aP}{E:aX} : ∀ {xs:List Int} {cs:List Value},aG w D E (xs.map enc) cs→cs=xs.map (Value.int .i64)∧∀ x∈xs,IntKind.i64.min≤x∧x≤IntKind.i64.max
 | [],cs,h=>by
  simp only[List.map_nil,aG] at h
  subst h;exact ⟨rfl,by simp⟩
 |x::xs,cs,h=>by
  simp only[List.map_cons,aG] at h
  obtain ⟨c1,c2,rfl,h1,h2⟩:=h
  obtain ⟨rfl,h3⟩:=MC h2
  have h1':c1=[.int .i64 x]∧IntKind.i64.min≤x∧x≤IntKind.i64.max:=h1
  obtain ⟨rfl,h4⟩:=h1'
  refine ⟨rfl,fun y hy =>?_⟩
  rcases List.mem_cons.1 hy with rfl | hy
  ·exact h4
  ·exact h3 y hy
theorem rn{w:World}{D:aP}{E:aX} : ∀ {xs:List Int},(∀ x∈xs,IntKind.i64.min≤x∧x≤IntKind.i64.max)→aG w D E (xs.map enc) (xs.map (Value.int .i64))
 | [],_=>rfl
 |x::xs,h=>⟨[.int .i64 x],xs.map (Value.int .i64),rfl,⟨rfl,h x (by simp)⟩,rn fun y hy=>h y (by simp[hy])⟩
theorem rB(xs:List Int):(I.agg (xs.map enc)).aQ=.eg (List.replicate xs.length .one):=by
 show cO.eg (I.cR _)=_
 congr 1
 induction xs with
 |nil=>rfl
 |cons x xs ih=>simp only[List.map_cons,I.cR,ih,List.length_cons,List.replicate_succ];rfl
theorem akT{xs ys q:List Int}(hl:ys.length=xs.length){cs:Array Value}(hc:cs.toList=(xs++q).map (Value.int .i64)):(Sort.putCells (Value.int .i64) 0 ys.toArray cs).toList=(ys++q).map (Value.int .i64):=by
 apply List.ext_getElem?
 intro k
 have h1:cs[k]?=((xs++q).map (Value.int .i64))[k]?:=by rw[←hc,Array.getElem?_toList]
 rw[Array.getElem?_toList,Sort.putCells,Array.getElem?_mapIdx,h1]
 simp only[List.getElem?_map,List.size_toArray,Nat.zero_le,true_and,Nat.zero_add,Nat.sub_zero]
 by_cases hk:k<ys.length
 ·simp only[hk,if_true]
  rw[List.getElem?_append_left (by omega),List.getElem?_append_left hk,List.getElem?_eq_getElem (by omega),List.getElem?_eq_getElem hk]
  simp[hk]
 ·simp only[hk,if_false]
  rw[List.getElem?_append_right (by omega),List.getElem?_append_right (by omega),hl]
  cases (q[k-xs.length]?) <;>rfl
open Go.Sort Go.RowKit in
theorem N6(xs q:List Int)(hn:xs.length≤60):cH Tryz.prog 107 [.view 1000000 [] 1 0 xs.length] (cz 1000000 (xs++q)) (yL (dX xs++q)):=by
 refine ⟨Co,fun w D E vs _ hD hO hv =>?_⟩
 have ho:=hO.bX 1000000
 simp only[cz,ak,if_true] at ho
 obtain ⟨b,cs,T,av,-,hb,hr,hnD⟩:=ho
 have hEn:∀ n,n≠1000000→E n=none:=fun n hn=>by
  have:=hO.bX n
  simpa only[cz,ak,if_neg hn,dc] using this
 simp only[aF] at hv
 obtain ⟨v,rest,cs',rfl,hp,hr',rfl⟩:=hv
 obtain ⟨b',aQ,off,l,hE',hoff,hpart,rfl,hl1,hl2,hl3⟩:=hr'
 rw[av] at hE'
 simp only[Option.some.injEq,bU.aC.injEq] at hE'
 obtain ⟨rfl,rfl⟩:=hE'
 have hoff':off=0:=by
  have:(some 0:Option Nat)=some off:=by rw[←hoff];rw[rB];rfl
  injection this with this;exact this.symm
 subst hoff'
 have hp':v=.slice (some ⟨b,0,none⟩) xs.length (l.length-0):=by
  have:[Value.slice (some ⟨b,0+0*1,none⟩) xs.length (l.length-0)]=[v]:=hp
  simpa using this.symm
 subst hp'
 obtain ⟨hcs,hrg⟩:=MC hr
 have hbs:b<w.heap.size:=(Array.getElem?_eq_some_iff.1 hb).1
 have hH:Holds (Value.int .i64) w b 0 xs.toArray:=fun j hj=>by
  simp only[List.size_toArray] at hj
  constructor
  ·simp only[World.cell?,hb,Option.isSome_none,Bool.false_eq_true,if_false,Nat.zero_add]
   rw[←Array.getElem?_toList,hcs]
   rw[List.map_append,List.getElem?_append_left (by simpa using hj)]
   simp[hj]
  ·simp[World.frozen?,hb]
 have hlen:(dX xs).length=xs.length:=by simp[dX]
 refine (Any.slices_Sort_int JG b 0 (l.length-0) xs w hH hbs (by omega)).mono ?_
 rintro e w' ⟨rfl,n,os,rfl⟩
 have hb1:(putRow (Value.int .i64) (Sort.ahead w n) b 0 (dX xs).toArray).heap[b]?=some (.cells (putCells (Value.int .i64) 0 (dX xs).toArray cs) T (0,0)):=by
  simp[putRow,mapBlock,Sort.ahead,Array.getElem?_modify,hb,onCells]
 have hother:∀ k,k<w.heap.size→k≠b→(grow (putRow (Value.int .i64) (Sort.ahead w n) b 0 (dX xs).toArray) os).heap[k]?=w.heap[k]?:=fun k hk hkb=>by
  rw[heap_grow_old _ _ (by simpa[Sort.ahead] using hk)]
  simp[putRow,mapBlock,Sort.ahead,Array.getElem?_modify,Ne.symm hkb]
 have hb2:(grow (putRow (Value.int .i64) (Sort.ahead w n) b 0 (dX xs).toArray) os).heap[b]?=some (.cells (putCells (Value.int .i64) 0 (dX xs).toArray cs) T (0,0)):=by
  rw[heap_grow_old _ _ (by simpa[Sort.ahead] using hbs)];exact hb1
 have hsz:w.heap.size≤(grow (putRow (Value.int .i64) (Sort.ahead w n) b 0 (dX xs).toArray) os).heap.size:=by simp[Sort.ahead]
 have hshow:(grow (putRow (Value.int .i64) (Sort.ahead w n) b 0 (xs.mergeSort fun x y=>decide (x≤y)).toArray) os)=(grow (putRow (Value.int .i64) (Sort.ahead w n) b 0 (dX xs).toArray) os):=rfl
 rw[hshow]
 have hw1:(grow (putRow (Value.int .i64) (Sort.ahead w n) b 0 (dX xs).toArray) os).os=w.os:=rfl
 have hw2:(grow (putRow (Value.int .i64) (Sort.ahead w n) b 0 (dX xs).toArray) os).tape=w.tape:=rfl
 have hw3:(grow (putRow (Value.int .i64) (Sort.ahead w n) b 0 (dX xs).toArray) os).output=w.output:=rfl
 revert hother hb2 hsz hw1 hw2 hw3
 generalize grow (putRow (Value.int .i64) (Sort.ahead w n) b 0 (dX xs).toArray) os=w2
 intro hother hb2 hsz hw1 hw2 hw3
 have hmem:∀ x∈dX xs++q,IntKind.i64.min≤x∧x≤IntKind.i64.max:=fun x hx=>hrg x (by
  rcases List.mem_append.1 hx with h | h
  ·exact List.mem_append_left _ (by simpa[dX] using h)
  ·exact List.mem_append_right _ h)
 refine ⟨.tuple #[],D,E,.tuple [],cz 1000000 (dX xs++q),rfl,⟨rfl,rfl⟩,⟨[],rfl,rfl⟩,⟨fun m =>?_,hO.cQ⟩,⟨hw1,hw2,hw3,hsz,fun k hk =>?_⟩,fun _ _ h=>h,fun b0 o h=>Nat.lt_of_lt_of_le (hD b0 o h) hsz,fun _ _ h _ _=>h,fun m e h _=>⟨e,h,bU.le.refl e⟩,⟨fun b0 o u hd hc =>?_,fun b0 es ck hd hc =>?_⟩⟩
 ·by_cases hm:m=1000000
  ·subst hm
   simp only[cz,ak,if_true]
   refine ⟨b,_,T,?_,.inr ⟨1000000,_,av,rfl⟩,hb2,?_,hnD⟩
   ·rw[av,rB,rB,List.length_append,List.length_append,hlen]
   ·show aG w2 D E _ _
    rw[akT hlen hcs]
    exact rn hmem
  ·simp only[cz,ak,if_neg hm,dc]
   exact hEn m hm
 ·by_cases hk2:k<w.heap.size
  ·exact hother k hk2 fun e=>hk (.inr ⟨1000000,_,av,by rw[e];rfl⟩)
  ·exact absurd (.inl (Nat.le_of_not_lt hk2)) hk
 ·have hne:b0≠b:=fun e=>hnD o (e▸hd)
  simp only[World.cell?,hother b0 (hD b0 o hd) hne] at hc ⊢
  exact hc
 ·have hne:b0≠b:=fun e=>hnD 0 (e▸hd)
  rw[hother b0 (hD b0 0 hd) hne];exact hc
theorem N7(v:I)(hv0:v=.nils 1∨v=enc ([]:List Int)):aw Tryz.prog 107 [v] (.tuple []):=by
 refine ⟨Co,fun w D vs hD hv =>?_⟩
 simp only[aF] at hv
 obtain ⟨u,rest,cs',rfl,hp,hr',rfl⟩:=hv
 have hu:∃ a cap,u=.slice a 0 cap:=by
  rcases hv0 with rfl | rfl
  ·have h1:cs'=[.slice none 0 0]:=hr'
   have h2:cs'=[u]:=hp
   rw[h1] at h2
   exact ⟨none,0,by simpa using h2.symm⟩
  ·obtain ⟨a,cap,h1,_⟩:=hr'
   have h2:cs'=[u]:=hp
   rw[h1] at h2
   exact ⟨a,cap,by simpa using h2.symm⟩
 obtain ⟨a,cap,rfl⟩:=hu
 refine (Any.slices_Sort_int_none JG a cap w).mono ?_
 rintro e w' ⟨rfl,rfl⟩
 exact ⟨.tuple #[],D,rfl,⟨[],rfl,rfl⟩,⟨rfl,rfl,rfl,Nat.le_refl _,fun _ _=>rfl⟩,hD,fun _ _ h _=>h⟩
end Go.Proofs.YtcldiigclhgafaaGreat
namespace Go.Proofs.YtcldiigclhgafaaGreat
open Go Go.Abs
open Go.Abs.Enc (enc)
theorem s9{os os2 ow:List (Nat×ah)}{ts:List (Nat×I)}(h:fB os os2)(how:∀ m,aq ow m=true→m<1000000):∀ n x,ak os2 n=some x→(ar ts (ow++os2)).o n=some x∧x.only (aq os2)=true∧x.eR=true:=fun n x hx=>by
 have hn:aq os2 n=true:=by simp[aq,hx]
 have hg:=h.oo n (by rw[←h.same];exact hn)
 refine ⟨?_,h.ok n x hx⟩
 simp only[ar,ki]
 cases hw:ak ow n with
 |none=>exact hx
 |some y=>have:=how n (by simp[aq,hw]);omega
theorem alO{A:ae}{n:Nat}{b:I}{v u:bA 6 Int}{rest:List aB} : dm A (some 6) n [] b (enc v) rest (some (enc u))=ay rest (A.aM n (.box (enc v))):=by
 rw[ej (dG _) (by rw[fS];rfl) ((eD _).trans (eD _).symm),gZ]
theorem Ki{α:Type}[Enc α](l:List α):b5 none (enc l)=true:=by simp[kI,nj]
theorem pP:(∀ (x:I) xs (f:I→Bool),(x::xs).all f=(f x&&xs.all f))∧(∀ f:I→Bool,([]:List I).all f=true)∧(∀ n p,(I.ptr n p).cq=true)∧(∀ b,(true&&b)=b) :=
 ⟨fun _ _ _=>List.all_cons,fun _=>List.all_nil,fun _ _=>rfl,fun _=>rfl⟩
theorem p5:∀ m,aq [] m=true→m<1000000:=fun m h=>by simp[aq,ak] at h
theorem OS(l:List au)(hl:l.length≤60):uT Tryz.prog 178 [.ref (enc l)] l.length (fun k=>[.int .i64 ((l.length-1-k:Nat):Int),enc (ab l (l.length-1-k))]):=by
 intro Y v ai Ix os hv hY hI hIx h0
 have hG:=hI 0 os h0
 refine kA.bp Tryz.func178 Cs TI VR (Nat.le_of_ble_eq_true rfl) (Nat.le_of_ble_eq_true rfl) hG.oo (fun hwf W0 D0 E1 =>?_)
 simp only[Bu,LH,a6,Nat.zero_add]
 refine .ao (by decide +kernel) fun K hK =>?_
 simp only[GQ,U,simprocAttr]
 try simp only[bx,aL,U,simprocAttr]
 rw[cG ((l.length:Int)-1) (by omega) (by omega)]
 refine .done (hK _ ?_);clear hK K
 refine J.block (J.loop (fun s:Nat×List (Nat×ah)=>ar [(0,.raw v),(1,.ref (enc l)),(3,.int .i64 ((l.length:Int)-1-s.1))] s.2) (fun s=>s.1≤l.length∧ai s.1 s.2) (fun s=>l.length-s.1) (0,os) ⟨Nat.zero_le _,h0⟩ ?_ ?_)
 ·refine az.cJ ?_ (fun n=>rfl)
  simp[aT,aU]
 rintro ⟨k,osk⟩ ⟨hk,hIk⟩
 simp only at hk hIk ⊢
 have gk:=hI k osk hIk
 refine J.seq (J.seq ?_)
 refine .bD (by decide +kernel) fun K hK =>?_
 simp only[GR,U,simprocAttr]
 refine .done (hK _ ?_);clear hK K;try simp only[al]
 refine J.bI ?_
 simp only[aj,U,simprocAttr]
 refine ⟨fun h =>?_,fun h =>?_⟩
 ·have hlt:k<l.length:=by simp at h;omega
  have hix:((l.length:Int)-1-k)=((l.length-1-k:Nat):Int):=by omega
  rw[hix]
  refine J.skip ?_;try simp only[al,simprocAttr]
  refine J.seq (J.block (J.seq ?_))
  refine .bD (by decide +kernel) fun K hK =>?_
  simp only[GS,U,simprocAttr]
  try simp only[aL,ic (l:=l) (i:=l.length-1-k) (by omega),Cx,U,simprocAttr]
  refine bj.NU (ow:=[]) (In:=ai (k+1)) (Ix:=Ix) (hY k osk _ hlt hIk (fun r os2 h=>h)) gk (hI _) hIx (by simp[I.bY,dV,I.bt]) p5 (fun os2 h2 =>?_) (fun os2 h2 =>?_)
  ·try simp only[List.nil_append,U,simprocAttr]
   refine .done (hK _ ?_);clear hK K;try simp only[al]
   refine J.bI ?_
   simp only[aj,U,simprocAttr]
   refine ⟨fun h =>?_,fun h =>?_⟩
   ·cases h
   refine J.skip ?_;try simp only[al,bP,simprocAttr]
   refine .bD (by decide +kernel) fun K hK =>?_
   simp only[GU,U,simprocAttr]
   refine .done (hK _ ?_);clear hK K;try simp only[al]
   refine ⟨(k+1,os2),⟨by simp only;omega,h2⟩,by simp only;omega,?_⟩
   simp only
   rw[cG _ (by omega) (by omega)]
   have e:(((l.length-1-k:Nat):Int)-1)=((l.length:Int)-1-((k+1:Nat):Int)):=by omega
   rw[e]
   refine az.cJ ?_ (fun n=>rfl)
   simp[aT,aU]
  ·try simp only[List.nil_append,U,simprocAttr]
   refine .done (hK _ ?_);clear hK K;try simp only[al]
   refine J.bI ?_
   simp only[aj,U,simprocAttr]
   refine ⟨fun h =>?_,fun h =>?_⟩
   ·refine J.ret ?_
    simp only[al,bP]
    rw[fP]
    exact ⟨os2,[],s9 (ow:=[]) (hIx os2 h2) p5,trivial,rfl,.inr h2⟩
   ·cases h
 ·have he:k=l.length:=by simp at h;omega
  subst he
  refine J.exit ?_;try simp only[al,bP,simprocAttr]
  rw[lX]
  exact ⟨osk,[],s9 (ow:=[]) gk p5,trivial,rfl,.inl hIk⟩
def jm(p:Nat→Bool)(n:Nat):List Nat:=(List.range n).filter p
theorem NM(p:Nat→Bool)(n:Nat):jm p (n+1)=jm p n++(if p n then [n] else []):=by
 simp only[jm,List.range_succ,List.filter_append,List.filter_cons,List.filter_nil]
theorem al8{p:Nat→Bool}{i n:Nat}(hp:p i=true)(hi:i<n):(jm p i).length<(jm p n).length∧(jm p n).getD (jm p i).length 0=i:=by
 induction n with
 |zero=>omega
 |succ n ih =>
  rw[NM]
  by_cases e:i=n
  ·subst e
   simp[hp]
  ·obtain ⟨h1,h2⟩:=ih (by omega)
   refine ⟨by rw[List.length_append];omega,?_⟩
   rw[List.getD_eq_getElem?_getD,List.getElem?_append_left h1,←List.getD_eq_getElem?_getD]
   exact h2
theorem Ow(l:List au)(bs:List Bool)(hl:l.length≤60)(hb:bs.length=l.length) :
  uT Tryz.prog 146 [.ref (enc l),.ref (enc bs)] (jm (fun i=>bs.getD i false) l.length).length (fun k=>[.int .i64 (((jm (fun i=>bs.getD i false) l.length).getD k 0:Nat):Int)]):=by
 intro Y v ai Ix os hv hY hI hIx h0
 have hG:=hI 0 os h0
 refine kA.bp Tryz.func146 Cq Tg Vq (Nat.le_of_ble_eq_true rfl) (Nat.le_of_ble_eq_true rfl) hG.oo (fun hwf W0 D0 E1 =>?_)
 simp only[AY,Lf,a6,Nat.zero_add,Nat.reduceAdd]
 refine .ao (by decide +kernel) fun K hK =>?_
 simp only[FG,U,simprocAttr]
 try simp only[bx,aL,U,simprocAttr]
 refine .done (hK _ ?_);clear hK K
 refine J.block (J.loop (fun s:Nat×List (Nat×ah)=>ar [(0,.raw v),(1,.ref (enc l)),(2,.ref (enc bs)),(6,.int .i64 l.length),(7,.int .i64 s.1)] s.2) (fun s=>s.1≤l.length∧ai (jm (fun i=>bs.getD i false) s.1).length s.2) (fun s=>l.length-s.1) (0,os) ⟨Nat.zero_le _,h0⟩ ?_ ?_)
 ·refine az.cJ ?_ (fun n=>rfl)
  simp[aT,aU]
 rintro ⟨i,osk⟩ ⟨hi,hIk⟩
 simp only at hi hIk ⊢
 have gk:=hI _ osk hIk
 refine .ao (by decide +kernel) fun K hK =>?_
 simp only[FH,U,simprocAttr]
 refine .done (hK _ ?_);clear hK K
 refine J.seq ?_
 by_cases hlt:i<l.length
 ·have hc:=fX hlt
  have hbi:∀ A,iW A 1 (i:Int) (enc bs)=some (.ref (.bool (bs.getD i false))):=fun A=>by
   rw[ew 1 (by omega) rfl,List.getD_eq_getElem?_getD,List.getElem?_eq_getElem (by omega)];rfl
  simp only[hc]
  refine J.bI ?_
  simp only[aj,U,simprocAttr]
  refine ⟨fun h =>?_,fun h =>?_⟩
  case refine_2=>cases h
  refine J.skip ?_;try simp only[al,simprocAttr]
  refine J.seq (J.block ?_)
  refine .ao (by decide +kernel) fun K hK =>?_
  simp only[FI,U,simprocAttr]
  refine .done (hK _ ?_);clear hK K
  refine J.seq ?_
  have hsu:=NM (fun i=>bs.getD i false) i
  cases hbv:bs.getD i false with
  |false =>
   rw[hbv] at hbi
   refine .bD (by decide +kernel) fun K hK =>?_
   simp only[wI,U,simprocAttr]
   try simp only[hbi,Ki,U,simprocAttr]
   refine .done (hK _ ?_);clear hK K;try simp only[al]
   refine J.bI ?_
   simp only[aj,U,simprocAttr]
   refine ⟨fun h =>?_,fun h =>?_⟩
   ·cases h
   refine J.skip ?_;try simp only[al,bP,simprocAttr]
   refine .bD (by decide +kernel) fun K hK =>?_
   simp only[wJ,U,simprocAttr]
   refine .done (hK _ ?_);clear hK K;try simp only[al]
   refine ⟨(i+1,osk),⟨by simp only;omega,?_⟩,by simp only;omega,?_⟩
   ·simp only[hsu,hbv,Bool.false_eq_true,if_false,List.append_nil];exact hIk
   ·simp only
    rw[fk (by omega)]
    refine az.cJ ?_ (fun n=>rfl)
    simp[aT,aU]
  |true =>
   rw[hbv] at hbi
   obtain ⟨g1,g2⟩:=al8 (p:=fun i=>bs.getD i false) hbv hlt
   have hsl:(jm (fun i=>bs.getD i false) (i+1)).length=(jm (fun i=>bs.getD i false) i).length+1:=by rw[hsu,hbv];simp
   have hy:=hY _ osk _ g1 hIk (fun r os2 h=>h)
   simp only at hy
   rw[g2] at hy
   refine .bD (by decide +kernel) fun K hK =>?_
   simp only[wI,U,simprocAttr]
   try simp only[hbi,Ki,Cx,U,simprocAttr]
   refine bj.NU (ow:=[]) (In:=ai ((jm (fun i=>bs.getD i false) i).length+1)) (Ix:=Ix) hy gk (hI _) hIx rfl p5 (fun os2 h2 =>?_) (fun os2 h2 =>?_)
   ·try simp only[List.nil_append,U,simprocAttr]
    refine .done (hK _ ?_);clear hK K;try simp only[al]
    refine J.bI ?_
    simp only[aj,U,simprocAttr]
    refine ⟨fun h =>?_,fun h =>?_⟩
    ·cases h
    refine J.skip ?_;try simp only[al,bP,simprocAttr]
    refine .bD (by decide +kernel) fun K hK =>?_
    simp only[wJ,U,simprocAttr]
    refine .done (hK _ ?_);clear hK K;try simp only[al]
    refine ⟨(i+1,os2),⟨by simp only;omega,?_⟩,by simp only;omega,?_⟩
    ·simp only[hsl];exact h2
    ·simp only
     rw[fk (by omega)]
     refine az.cJ ?_ (fun n=>rfl)
     simp[aT,aU]
   ·try simp only[List.nil_append,U,simprocAttr]
    refine .done (hK _ ?_);clear hK K;try simp only[al]
    refine J.bI ?_
    simp only[aj,U,simprocAttr]
    refine ⟨fun h =>?_,fun h =>?_⟩
    ·refine J.ret ?_
     simp only[al,bP]
     rw[fP]
     exact ⟨os2,[],s9 (ow:=[]) (hIx os2 h2) p5,trivial,rfl,.inr h2⟩
    ·cases h
 ·have hc:=gh hlt
  simp only[hc]
  refine J.bI ?_
  simp only[aj,U,simprocAttr]
  refine ⟨fun h =>?_,fun h =>?_⟩
  ·cases h
  have he:i=l.length:=by omega
  subst he
  refine J.exit ?_;try simp only[al,bP,simprocAttr]
  rw[lX]
  exact ⟨osk,[],s9 (ow:=[]) gk p5,trivial,rfl,.inl hIk⟩
theorem Ov(l:List au):aw Tryz.prog 145 [enc l] (.func 178 [.ref (enc l)]):=by
 refine aw.bp Tryz.func145 Rj Tf Vp (Nat.le_of_ble_eq_true rfl) (fun hwf W0 D0 E1 =>?_)
 simp only[AX,Le,a6]
 have R:=And.intro @pP (And.intro @aL (And.intro @dV @U))
 repeat' ((first
  |(with_reducible refine .guard (fun hb =>?_) (fun hb =>?_) <;>try simp only[hb])
  |refine J.aI (by decide +kernel) rfl fun K hK =>?_
  |(refine .aD [0,1,2] hK ?_;clear hK K)
  |(with_reducible refine .done (hK _ ?_);clear hK K)
  |refine J.of rfl ?_
  |(with_reducible refine aj.aH (fun h =>?_) (fun h =>?_) <;>try simp only[h])) <;>try simp only[aJ,R,simprocAttr])
 all_goals clear R
 all_goals rfl
def ik(l:List au)(known:Int)(ks:List Item)(bs:List Bool):List (Nat×ah) :=
 [(1000002,.box (enc l)),(1000003,.box (.int .i64 known)),(1000005,.box (.mref 1000009)),(1000006,.box (.view 1000012 [] 1 0 l.length)),(1000009,.cu (ks.map enc) (List.replicate ks.length (.bool true))),(1000012,.box (.agg (bs.map enc)))]
theorem tT(p:Nat→Bool)(n:Nat)(b:Bool):I.bV p (List.replicate n (.bool b))=true:=by
 induction n with
 |zero=>rfl
 |succ n ih=>simp[List.replicate_succ,I.bV,I.only,ih]
theorem ak5(ρ:Nat→Nat)(n:Nat)(b:Bool):I.cW ρ (List.replicate n (.bool b))=List.replicate n (.bool b):=by
 induction n with
 |zero=>rfl
 |succ n ih=>simp only[List.replicate_succ,I.cW,I.aR,ih]
theorem alL(l:List au)(known:Int)(ks:List Item)(bs:List Bool)(l':List au)(known':Int)(ks':List Item)(bs':List Bool):fB (ik l known ks bs) (ik l' known' ks' bs'):=by
 refine ⟨fun n=>by simp only[ik,aq,ak];(repeat' split) <;>rfl,fun n x h =>?_,fun n h =>?_⟩
 ·simp only[ik,ak] at h
  repeat' split at h
  all_goals first | (cases h;done) | (simp only[Option.some.injEq] at h;subst h;exact ⟨by simp[ik,aq,ak,ah.only,br,I.only,ec,tT],rfl⟩)
 ·simp only[ik,aq,ak] at h
  repeat' split at h
  all_goals first | omega | (simp at h;done)
def uu(l:List au)(known:Int)(k:Nat)(ks:List Item)(bs:List Bool):Prop :=
 bs=List.replicate (l.length-k) false++(eJ known (l.drop (l.length-k))).1∧∀ a,a∈ks↔a∈(eJ known (l.drop (l.length-k))).2
theorem y9:(∀ (A:ae) n b m rest,dm A none n [] b (.mref m) rest (some (.raw (.map none)))=ay rest (A.aM n (.box (.mref m))))∧(∀ (A:ae) n b m p z lo k z2 rest,dm A none n [] b (.view m p z lo k) rest (some (.nils z2))=ay rest (A.aM n (.box (.view m p z lo k)))) ∧
  (∀ (A:ae) n b m p z lo k m' p' z' lo' k' rest,dm A none n [] b (.view m p z lo k) rest (some (.view m' p' z' lo' k'))=ay rest (A.aM n (.box (.view m p z lo k)))) :=
 ⟨fun _ _ _ _ _=>by rw[ej (s:=none) (v:=.mref _) (old:=.raw _) rfl rfl rfl,gZ],fun _ _ _ _ _ _ _ _ _ _=>by rw[ej (s:=none) (v:=.view ..) (old:=.nils _) rfl rfl rfl,gZ],fun _ _ _ m p z lo k m' p' z' lo' k' _=>by rw[ej (s:=none) (v:=.view m p z lo k) (old:=.view m' p' z' lo' k') rfl rfl rfl,gZ]⟩
theorem rF(known:Int):∀ l:List au,(eJ known l).1.length=l.length
 | []=>rfl
 |x::l=>by simp only[eJ,List.length_cons,rF known l]
theorem Nr{l:List au}{known:Int}{k:Nat}{ks:List Item}{bs:List Bool}(h:uu l known k ks bs)(hk:k≤l.length):bs.length=l.length:=by
 rw[h.1,List.length_append,List.length_replicate,rF,List.length_drop];omega
def qW(l:List au)(known:Int)(i:Nat)(ks:List Item):Bool:=decide ((ab l i).known≤known) && !decide ((ab l i).da∈ks)
theorem alG{l:List au}{known:Int}{k i:Nat}{ks:List Item}{bs:List Bool}(hk:k<l.length)(hi:i=l.length-1-k)(h:uu l known k ks bs) :
  uu l known (k+1) (if (qW l known i ks&&((ab l i).kind==0))=true then m0 ks (ab l i).gY else ks) (bs.set i (qW l known i ks)):=by
 have hkd:((ab l i).kind==0)=decide ((ab l i).kind=0):=rfl
 rw[hkd]
 obtain ⟨h1,h2⟩:=h
 have e1:l.length-k=i+1:=by omega
 have e2:l.length-(k+1)=i:=by omega
 rw[e1] at h1 h2
 have hil:i<l.length:=by omega
 have hd:l.drop i=ab l i::l.drop (i+1):=by rw[List.drop_eq_getElem_cons hil,lD hil]
 have hb:qW l known i ks=(decide ((ab l i).known≤known) && !(eJ known (l.drop (i+1))).2.contains (ab l i).da):=by
  simp only[qW]
  congr 2
  rw[Bool.eq_iff_iff,decide_eq_true_eq,List.contains_iff_mem]
  exact h2 _
 refine ⟨?_,fun a =>?_⟩
 ·rw[e2,hd,h1]
  simp only[eJ,←hb]
  rw[List.replicate_succ',List.append_assoc,List.set_append_right _ _ (by simp)]
  simp
 ·rw[e2,hd]
  simp only[eJ,←hb]
  split
  ·rw[aiP,List.mem_cons,h2]
  ·exact h2 a
theorem N4(l:List au)(known:Int)(hl:l.length≤60):aw Tryz.prog 105 [enc l,enc known] (.func 146 [.ref (enc l),.ref (enc (gC l known))]):=by
 refine aw.bp Tryz.func105 QO SL UW (Nat.le_of_ble_eq_true rfl) (fun hwf W0 D0 E1 =>?_)
 simp only[As,KL,a6,Nat.zero_add]
 clear hwf
 refine .ao (by decide +kernel) fun K hK =>?_
 simp only[D5,U,simprocAttr]
 try simp only[aL,U,simprocAttr]
 refine .done (hK _ ?_);clear hK K
 refine .ao (by decide +kernel) fun K hK =>?_
 simp only[D6,U,simprocAttr]
 try simp only[ez,y9,U,simprocAttr]
 refine .done (hK _ ?_);clear hK K
 refine .ao (by decide +kernel) fun K hK =>?_
 simp only[D7,U,simprocAttr]
 try simp only[ez,bx,aL,U,simprocAttr]
 rw[JZ (by omega) (by simp[maxLen];omega)]
 try simp only[y9,U,simprocAttr]
 refine .done (hK _ ?_);clear hK K
 refine J.seq (J.seq ?_)
 refine .bD (by decide +kernel) fun K hK =>?_
 simp only[D8,U,simprocAttr]
 try simp only[aL,U,simprocAttr]
 refine .lead _ (Ov l) ?_
 try simp only[U,simprocAttr]
 refine .done (hK _ ?_);clear hK K;try simp only[al]
 refine J.block (J.kU (osb0:=ik l known [] (List.replicate l.length false)) (tsR:=[(2,.ptr 1000002 []),(3,.ptr 1000003 []),(5,.ptr 1000005 []),(6,.ptr 1000006 [])]) (ρ:=[(1999999,999999),(1000002,2),(1000003,3),(1000005,5),(1000006,6),(1000009,9),(1000012,12)])
  (fun k os=>∃ ks bs,os=ik l known ks bs∧uu l known k ks bs)
  (fun _ _=>False)
  rfl (Nat.le_of_ble_eq_true rfl) (by simp only[U,simprocAttr]) (by simp[I.bY,I.bt,dV]) Cs (OS l hl) (fun _=>rfl) rfl rfl rfl (fun o=>⟨?_,?_⟩) ?_ ?_ ?_ ⟨[],_,rfl,?_⟩ ?_ ?_ ?_)
 ·intro n x hx
  simp only[dE,ik,ak] at hx
  repeat' split at hx
  all_goals first | (cases hx;done) | (subst_vars;simp only[Option.some.injEq] at hx;subst hx;simp[dE,ik,aq,bJ,ak,ah.aR,I.aR,I.cW,kb,ah.only,I.only,I.bV,br,ah.eR,tT,ak5,vH])
 ·intro a b ha hb
  simp only[dE,ik,aq,ak] at ha hb
  repeat' split at ha
  all_goals first | (simp at ha;done) | skip
  all_goals (repeat' split at hb)
  all_goals first | (simp at hb;done) | (subst_vars;simp[bJ])
 ·simp[mX,aU,I.aR,bJ,I.only,ik,aq,ak]
 ·rintro k os ⟨ks,bs,rfl,_⟩;exact alL ..
 ·rintro e os h;exact h.elim
 ·exact ⟨by simp[eJ],fun a=>by simp[eJ]⟩
 ·rintro k osb hk ⟨ks,bs,rfl,hst⟩ W1 D1 E1 tj o1 o2
  have hbl:=Nr hst (Nat.le_of_lt hk)
  obtain ⟨i,hi⟩:∃ i,i=l.length-1-k:=⟨_,rfl⟩
  have hil:i<bs.length:=by omega
  have hil2:i<l.length:=by omega
  have hstep:=alG hk hi hst
  have hv:∀ fs,ju 1000012 [] 1 0 l.length 1 (i:Int) (some fs)=some (.ptr 1000012 [i]):=fun fs=>by
   have:=ov (m:=1000012) (sz:=1) (lo:=0) (l:=l.length) (i:=i) (fs:=fs) hil2
   rwa [Nat.zero_add] at this
  have hat2:∀ b,jr i [] (some ((bs.set i b).map enc))=some (.bool b):=fun b=>by
   rw[sg (by simpa using hil)]
   simp[List.getD_eq_getElem?_getD,hil]
  have hset:=fun (A:ae) v u rest=>Nw (A:=A) (n:=1000012) hil v u rest
  have hat:=sg hil
  have hlk:=aiE qz (ab l i).da ks
  simp only[rm,dE,ik,←hi]
  have R:=And.intro @aL @U
  repeat' ((first
   |(with_reducible refine .guard (fun hb =>?_) (fun hb =>?_) <;>try simp only[hb])
   |refine J.aI (by decide +kernel) rfl fun K hK =>?_
   |(refine .aD [0,1,2,3,4,5,6,7,8,14,15,16,39] hK ?_;clear hK K)
   |(with_reducible refine .done (hK _ ?_);clear hK K)
   |refine J.of rfl ?_
   |(with_reducible refine aj.aH (fun h =>?_) (fun h =>?_) <;>try simp only[h])) <;>try simp only[aJ,R,simprocAttr])
  all_goals clear R
  refine ⟨by simp[],?_⟩
  rcases h1:decide ((ab l i).known≤known) <;>rcases h2:decide ((ab l i).da∈ks) <;>rcases h3:(ab l i).kind==0
  all_goals
   simp only[qW,h1,h2,h3,Bool.not_true,Bool.not_false,Bool.and_true,Bool.and_false,Bool.false_eq_true,if_true,if_false] at hstep
   have hup:=ai0 qz (ab l i).gY ks
   try simp only[U,simprocAttr]
   have R:=And.intro @h1 (And.intro @h2 (And.intro @h3 (And.intro @hv (And.intro @hset (And.intro @hat (And.intro @hat2 (And.intro @hlk (And.intro @hup (And.intro @cD (And.intro @y9 (And.intro @ez (And.intro @df (And.intro @bx (And.intro @aL @U))))))))))))))
   repeat' ((first
    |(with_reducible refine .guard (fun hb =>?_) (fun hb =>?_) <;>try simp only[hb])
    |refine J.aI (by decide +kernel) rfl fun K hK =>?_
    |(refine .aD [0,1,2,3,4,5,6,7,8,14,15,16,39] hK ?_;clear hK K)
    |(with_reducible refine .done (hK _ ?_);clear hK K)
    |refine J.of rfl ?_
    |(with_reducible refine aj.aH (fun h =>?_) (fun h =>?_) <;>try simp only[h])) <;>try simp only[aJ,R,simprocAttr])
   all_goals clear R
   generalize bs.set i _=amt at hstep ⊢
   try generalize m0 ks _=ks2 at hstep ⊢
   refine ⟨ik l known _ _,?_,_,_,rfl,hstep⟩
   intro n x hx
   simp only[dE,ik,ak] at hx
   (repeat' split at hx) <;>first
    |(cases hx;done)
    |(subst_vars;simp only[Option.some.injEq] at hx;subst hx;simp[ik,dE,aq,ar,ak,ah.only,I.only,br,ah.eR,ec,tT])
 ·rintro os ⟨ks,bs,rfl,hst⟩
  have hbs:bs=gC l known:=by
   have:=hst.1
   simpa[gC] using this
  have hbl:=Nr hst (Nat.le_refl _)
  try simp only[ik,jz,kb,jg,List.cons_append,List.nil_append,al,bP,simprocAttr]
  have R:=And.intro @pP (And.intro @aL @U)
  repeat' ((first
   |(with_reducible refine .guard (fun hb =>?_) (fun hb =>?_) <;>try simp only[hb])
   |refine J.aI (by decide +kernel) rfl fun K hK =>?_
   |(refine .aD [0,1,2,3,4,5,6,7,8,14,15,16,39] hK ?_;clear hK K)
   |(with_reducible refine .done (hK _ ?_);clear hK K)
   |refine J.of rfl ?_
   |(with_reducible refine aj.aH (fun h =>?_) (fun h =>?_) <;>try simp only[h])) <;>try simp only[aJ,R,simprocAttr])
  all_goals clear R
  have hfd:=fun A (ho:A.o 12=some (.box (.agg (bs.map enc))))=>YD (A:=A) (m:=8) (n:=12) (sz:=1) ho rfl hbl.symm
  try simp only[kE,U,simprocAttr]
  rw[hfd _ rfl]
  try simp only[hbs,U,simprocAttr]
 ·rintro e os h;exact h.elim
def gu(l:List au)(x:Int):Int:=(ab l x.toNat).day
def jt(l:List au)(x:Int):Prop:=0≤x∧x<l.length
def mg(l:List au):Prop:=∀ i,i<l.length→0≤(ab l i).day∧(ab l i).day≤100000
def dH(l:List au)(x y:Int):Prop:=gu l x<gu l y∨(gu l x=gu l y∧x<y)
def dn(l:List au)(s:List Int):Prop:=s.Pairwise (dH l)
theorem xU{l:List au}{x y z:Int}(h:dH l x y)(k:dH l y z):dH l x z:=by
 simp only[dH] at *;omega
theorem tw{l:List au}{x y:Int}(h:y<x):dH l x y↔gu l x<gu l y:=by
 simp only[dH];omega
theorem tv{l:List au}{x y:Int}(h:y<x)(k:¬ gu l x<gu l y):dH l y x:=by
 simp only[dH];omega
theorem rR(l:List au)(hd:mg l)(hl:l.length≤60)(x y:Int)(hx:jt l x)(hy:jt l y):aw Tryz.prog 138 [.int .i64 x,.int .i64 y,.ref (enc l)] (.int .i64 (gu l x-gu l y)):=by
 refine aw.bp Tryz.func138 Re Ta Vk (Nat.le_of_ble_eq_true rfl) (fun hwf W0 D0 E1 =>?_)
 simp only[AS,K9,a6,Nat.zero_add,Nat.reduceAdd]
 clear hwf
 obtain ⟨i,rfl⟩:∃ i:Nat,x=i:=⟨x.toNat,by have:=hx.1;omega⟩
 obtain ⟨k,rfl⟩:∃ k:Nat,y=k:=⟨y.toNat,by have:=hy.1;omega⟩
 have hi:i<l.length:=by have:=hx.2;omega
 have hk:k<l.length:=by have:=hy.2;omega
 have v1:=ic hi
 have v2:=ic hk
 have d1:=hd i hi
 have d2:=hd k hk
 have hw:IntKind.i64.wrap ((ab l i).day-(ab l k).day)=(ab l i).day-(ab l k).day:=cG _ (by omega) (by omega)
 have R:=And.intro @v1 (And.intro @v2 (And.intro @hw (And.intro @aL @U)))
 repeat' ((first
  |(with_reducible refine .guard (fun hb =>?_) (fun hb =>?_) <;>try simp only[hb])
  |refine J.aI (by decide +kernel) rfl fun K hK =>?_
  |(refine .aD [0,1,2,5] hK ?_;clear hK K)
  |(with_reducible refine .done (hK _ ?_);clear hK K)
  |refine J.of rfl ?_
  |(with_reducible refine aj.aH (fun h =>?_) (fun h =>?_) <;>try simp only[h])) <;>try simp only[aJ,R,simprocAttr])
 all_goals clear R
 simp only[gu,Int.toNat_natCast]
theorem alZ{A C:List Int}{x y:Int}{i j:Nat}(hj:A.length=j)(hi:j+1=i):kr (A++y::x::C) i j=A++x::y::C:=by
 subst hj hi
 have e1:(A++y::x::C).getD A.length 0=y:=by simp[List.getD_eq_getElem?_getD]
 have e2:(A++y::x::C).getD (A.length+1) 0=x:=by
  rw[List.getD_eq_getElem?_getD,List.getElem?_append_right (by omega)]
  simp
 simp only[kr,e1,e2]
 rw[List.set_append_right _ _ (by omega)]
 have:A.length+1-A.length=1:=by omega
 rw[this,List.set_append_right _ _ (by omega),Nat.sub_self]
 simp
theorem al1{A C:List Int}{x y:Int}{i j:Nat}(hi:A.length=i)(hj:i+1=j):kr (A++x::y::C) i j=A++y::x::C:=by
 have:=NH (A:=A) (B:=[]) (C:=C) (x:=x) (y:=y) (i:=i) (j:=j) hi (by simp;omega)
 simpa using this
def dW(p t rest:List Int)(x:Int)(c:Nat):List Int:=p++(t.take c++x::t.drop c)++rest
theorem xH{p t rest:List Int}{x:Int}{c:Nat}(hc:c≤t.length):(dW p t rest x c).length=p.length+t.length+1+rest.length:=by
 simp only[dW,List.length_append,List.length_take,List.length_cons,List.length_drop];omega
theorem ah5{p t rest:List Int}{x:Int}{c a:Nat}(ha:p.length=a)(hc:c≤t.length):(dW p t rest x c).getD (a+c) 0=x:=by
 subst ha
 have hl:(t.take c).length=c:=by rw[List.length_take];omega
 simp only[dW]
 rw[List.getD_eq_getElem?_getD,List.append_assoc,List.getElem?_append_right (by omega)]
 have:p.length+c-p.length=c:=by omega
 rw[this,List.append_assoc,List.getElem?_append_right (by omega),hl,Nat.sub_self]
 rfl
theorem ah6{p t rest:List Int}{x:Int}{c a:Nat}(ha:p.length=a)(hc:c<t.length):(dW p t rest x (c+1)).getD (a+c) 0=t[c]:=by
 subst ha
 simp only[dW]
 rw[List.getD_eq_getElem?_getD,List.append_assoc,List.getElem?_append_right (by omega)]
 have:p.length+c-p.length=c:=by omega
 rw[this,List.append_assoc,List.getElem?_append_left (by rw[List.length_take];omega),List.getElem?_take_of_lt (by omega),List.getElem?_eq_getElem hc]
 rfl
theorem Ju{p t rest:List Int}{x:Int}{c a:Nat}(ha:p.length=a)(hc:c<t.length):kr (dW p t rest x (c+1)) (a+c+1) (a+c)=dW p t rest x c:=by
 have e1:dW p t rest x (c+1)=(p++t.take c)++t[c]::x::(t.drop (c+1)++rest):=by
  simp only[dW]
  rw[List.take_succ_eq_append_getElem hc]
  simp only[List.append_assoc,List.cons_append,List.nil_append]
 have e2:dW p t rest x c=(p++t.take c)++x::t[c]::(t.drop (c+1)++rest):=by
  simp only[dW]
  rw[List.drop_eq_getElem_cons hc]
  simp only[List.append_assoc,List.cons_append]
 rw[e1,e2]
 exact alZ (by rw[List.length_append,List.length_take];omega) rfl
theorem y8{l:List au}{t:List Int}{x:Int}{c:Nat}(hs:dn l t)(h1:∀ y∈t.take c,dH l y x)(h2:∀ y∈t.drop c,dH l x y):dn l (t.take c++x::t.drop c):=by
 have h:=hs
 unfold dn at *
 rw[←List.take_append_drop c t,List.pairwise_append] at h
 rw[List.pairwise_append]
 refine ⟨h.1,?_,fun y hy z hz =>?_⟩
 ·rw[List.pairwise_cons]
  exact ⟨h2,h.2.1⟩
 ·rcases List.mem_cons.1 hz with rfl | hz
  ·exact h1 y hy
  ·exact h.2.2 y hy z hz
theorem alD{l:List au}{t:List Int}{x:Int}{c:Nat}(hs:dn l t)(hc:c<t.length)(h:dH l t[c] x):∀ y∈t.take (c+1),dH l y x:=by
 intro y hy
 rw[List.take_succ_eq_append_getElem hc,List.mem_append,List.mem_singleton] at hy
 rcases hy with hy | rfl
 ·refine xU ?_ h
  have h3:=hs
  unfold dn at h3
  rw[←List.take_append_drop c t,List.pairwise_append] at h3
  exact h3.2.2 y hy _ (by rw[List.drop_eq_getElem_cons hc];exact List.mem_cons_self)
 ·exact h
def mY(l:List au)(p s q:List Int):cV:=fun r os'=>r=.tuple []∧∃ s',s'.Perm s∧dn l s'∧os'=cz 1000000 (p++s'++q)
structure uS where
 t:List Int
 k:Nat
theorem zH(l:List au)(hd:mg l)(hl:l.length≤60)(p s q:List Int)(a b n:Nat)(ha:p.length=a)(hb:a+s.length=b)(hn:b≤n)(hnl:n≤(p++s++q).length)(hN:n≤1000)(hs:s.Pairwise (· < ·))(hS:∀ x∈s,jt l x) :
  cH Tryz.prog 203 [.view 1000000 [] 1 0 n,enc (a:Int),enc (b:Int),.func 138 [.ref (enc l)]] (cz 1000000 (p++s++q)) (mY l p s q):=by
 refine cH.bp Tryz.func203 Cu CB CP (Nat.le_of_ble_eq_true rfl) (Nat.le_of_ble_eq_true rfl) nR (fun hwf W0 D0 E1 =>?_)
 simp only[vk,yB,a6,Nat.zero_add,Nat.reduceAdd]
 clear hwf
 have w1:=fk (i:=a) (by omega)
 refine .ao (by decide +kernel) fun K hK =>?_
 simp only[wV,U,simprocAttr]
 try simp only[w1,simprocAttr]
 refine .done (hK _ ?_);clear hK K
 refine J.block (J.loop (fun g:uS=>ar [(0,.view 1000000 [] 1 0 n),(1,.int .i64 a),(2,.int .i64 b),(3,.func 138 [.ref (enc l)]),(8,.int .i64 ((a+g.k:Nat):Int))] (cz 1000000 (p++g.t++s.drop g.k++q))) (fun g=>1≤g.k∧g.t.Perm (s.take g.k)∧dn l g.t∧a+g.k≤b+1) (fun g=>s.length-g.k) ⟨s.take 1,1⟩ ⟨Nat.le_refl _,.refl _,?_,by simp only;omega⟩ ?_ ?_)
 ·show dn l (s.take 1)
  cases s <;>simp[dn]
 ·have e:p++s.take 1++s.drop 1++q=p++s++q:=by rw[List.append_assoc p,List.take_append_drop]
  simp only[e]
  refine az.cJ ?_ (fun n=>rfl)
  simp[aT,aU]
 rintro ⟨t,k⟩ ⟨g1,g2,g3,g4⟩
 simp only at g1 g2 g3 g4 ⊢
 refine J.seq (J.seq ?_)
 refine .bD (by decide +kernel) fun K hK =>?_
 simp only[Hy,U,simprocAttr]
 refine .done (hK _ ?_);clear hK K;try simp only[al]
 refine J.bI ?_
 simp only[aj,U,simprocAttr]
 refine ⟨fun h =>?_,fun h =>?_⟩
 rotate_left
 ·have hk:s.length≤k:=by simp at h;omega
  refine J.exit ?_;try simp only[al,bP,simprocAttr]
  rw[lX]
  refine nO rfl ?_ ⟨rfl,t,?_,g3,rfl⟩
  ·rw[List.drop_eq_nil_of_le hk,List.append_nil]
  ·rwa [List.take_of_length_le hk] at g2
 have hk:k<s.length:=by simp at h;omega
 have htl:t.length=k:=by rw[g2.length_eq,List.length_take];omega
 obtain ⟨x,hx⟩:∃ x,x=s[k]:=⟨_,rfl⟩
 have hxS:jt l x:=hS x (by rw[hx];exact List.getElem_mem _)
 have htS:∀ y∈t,jt l y∧y<x:=fun y hy=>by
  have hy2:=g2.mem_iff.1 hy
  refine ⟨hS y (List.mem_of_mem_take hy2),?_⟩
  obtain ⟨j,hj,rfl⟩:=List.getElem_of_mem hy2
  rw[List.length_take] at hj
  rw[List.getElem_take,hx]
  exact List.pairwise_iff_getElem.1 hs j k (by omega) hk (by omega)
 obtain ⟨rest,hrest⟩:∃ rest,rest=s.drop (k+1)++q:=⟨_,rfl⟩
 have e0:p++t++s.drop k++q=dW p t rest x k:=by
  rw[hrest,dW,List.take_of_length_le (l:=t) (by omega),show t.drop k=[] from List.drop_eq_nil_of_le (by omega),List.drop_eq_getElem_cons hk,←hx]
  simp only[List.append_assoc,List.cons_append,List.nil_append]
 have hnr:n≤p.length+t.length+1+rest.length:=by
  rw[hrest]
  simp only[List.length_append,List.length_drop] at hnl ⊢
  omega
 rw[e0]
 refine J.skip ?_;try simp only[al,simprocAttr]
 refine J.seq (J.block ?_)
 refine .ao (by decide +kernel) fun K hK =>?_
 simp only[Hz,U,simprocAttr]
 refine .done (hK _ ?_);clear hK K
 refine J.block (J.loop (fun c:Nat=>ar [(0,.view 1000000 [] 1 0 n),(1,.int .i64 a),(2,.int .i64 b),(3,.func 138 [.ref (enc l)]),(8,.int .i64 ((a+k:Nat):Int)),(9,.int .i64 ((a+c:Nat):Int))] (cz 1000000 (dW p t rest x c))) (fun c=>c≤k∧∀ y∈t.drop c,dH l x y) (fun c=>c) k ⟨Nat.le_refl _,?_⟩ ?_ ?_)
 ·rw[List.drop_eq_nil_of_le (by omega)];intro y hy;cases hy
 ·refine az.cJ ?_ (fun n=>rfl)
  simp[aT,aU]
 rintro c ⟨hc,hgt⟩
 have bd:∀ c,c≤k→(∀ y∈t.drop c,dH l x y)→(∀ y∈t.take c,dH l y x)→∃ s':uS,(1≤s'.k∧s'.t.Perm (s.take s'.k)∧dn l s'.t∧a+s'.k≤b+1)∧s.length-s'.k<s.length-k∧s'.k=k+1∧dW p t rest x c=p++s'.t++s.drop s'.k++q:=fun c hck h2 h1=>by
  refine ⟨⟨t.take c++x::t.drop c,k+1⟩,⟨by simp only;omega,?_,y8 g3 h1 h2,by simp only;omega⟩,by simp only;omega,rfl,?_⟩
  ·simp only
   rw[List.take_succ_eq_append_getElem hk,←hx]
   refine List.perm_middle.trans ?_
   rw[List.take_append_drop]
   exact (g2.cons x).trans (List.perm_append_comm (l₁:=[x]))
  ·simp only[dW,hrest,List.append_assoc]
 have hexit:∀ ts,(∀ y∈t.take c,dH l y x)→Abs.bO ts 0=.view 1000000 [] 1 0 n→Abs.bO ts 1=.int .i64 a→Abs.bO ts 2=.int .i64 b→Abs.bO ts 3=.func 138 [.ref (enc l)]→Abs.bO ts 8=.int .i64 ((a+(k+1):Nat):Int)→∃ s':uS,(1≤s'.k∧s'.t.Perm (s.take s'.k)∧dn l s'.t∧a+s'.k≤b+1)∧s.length-s'.k<s.length-k∧Abs.az (ar ts (cz 1000000 (dW p t rest x c))) (ar [(0,.view 1000000 [] 1 0 n),(1,.int .i64 a),(2,.int .i64 b),(3,.func 138 [.ref (enc l)]),(8,.int .i64 ((a+s'.k:Nat):Int))] (cz 1000000 (p++s'.t++s.drop s'.k++q))):=fun ts h1 t0 t1 t2 t3 t8=>by
  obtain ⟨s',k1,k2,k3,k4⟩:=bd c hc hgt h1
  refine ⟨s',k1,k2,?_⟩
  rw[k4,k3]
  refine az.cJ ?_ (fun n=>rfl)
  simp only[aT,t0,t1,t2,t3,t8,and_self]
 have hw:=fk (i:=a+k) (by omega)
 have hws:(dW p t rest x c).length=p.length+t.length+1+rest.length:=xH (by omega)
 simp only[cz] at hexit ⊢
 cases c with
 |zero =>
  have hc0:decide ((a:Int)<((a+0:Nat):Int))=false:=by simp
  have R:=And.intro @hc0 (And.intro @hw (And.intro @aL @U))
  repeat' ((first
   |(with_reducible refine .guard (fun hb =>?_) (fun hb =>?_) <;>try simp only[hb])
   |refine J.aI (by decide +kernel) rfl fun K hK =>?_
   |(refine .aD [0,1,2,3,8,9,14,34] hK ?_;clear hK K)
   |(with_reducible refine .done (hK _ ?_);clear hK K)
   |refine J.of rfl ?_
   |(with_reducible refine aj.aH (fun h =>?_) (fun h =>?_) <;>try simp only[h])) <;>try simp only[aJ,R,simprocAttr])
  all_goals clear R
  exact hexit _ (by simp) rfl rfl rfl rfl rfl
 |succ c =>
  have hct:c<t.length:=by omega
  have hc0:decide ((a:Int)<((a+(c+1):Nat):Int))=true:=by simp;omega
  have wd:IntKind.i64.wrap (((a+(c+1):Nat):Int)-1)=((a+c:Nat):Int):=by rw[cG _ (by omega) (by omega)];omega
  have gx:=ah5 (p:=p) (t:=t) (rest:=rest) (x:=x) (c:=c+1) ha (by omega)
  have gy:=ah6 (p:=p) (t:=t) (rest:=rest) (x:=x) (c:=c) ha hct
  have hstep:=Ju (p:=p) (t:=t) (rest:=rest) (x:=x) (c:=c) ha hct
  obtain ⟨hyS,hyx⟩:=htS t[c] (List.getElem_mem _)
  have hcmp:=rR l hd hl x t[c] hxS hyS
  generalize hws0:dW p t rest x (c+1)=ws at *
  have hi1:a+(c+1)<n:=by omega
  have hj1:a+c<n:=by omega
  obtain ⟨i1,hi1e⟩:∃ i1,i1=a+(c+1):=⟨_,rfl⟩
  obtain ⟨j1,hj1e⟩:∃ j1,j1=a+c:=⟨_,rfl⟩
  have hij:a+c+1=i1:=by omega
  rw[hij] at hstep
  rw[←hi1e] at hi1 gx hc0 wd ⊢
  rw[←hj1e] at hj1 gy wd hstep
  have v1:=jv (n:=n) (i:=i1) hi1
  have v2:=jv (n:=n) (i:=j1) hj1
  have l1:=gR (xs:=ws) (i:=i1) (by omega)
  have l2:=gR (xs:=ws) (i:=j1) (by omega)
  have s1:=fun (A:ae) v u rest=>nV (A:=A) (n:=1000000) (xs:=ws) (i:=i1) (by omega) v u rest
  obtain ⟨ws2,hws2⟩:∃ ws2,ws2=ws.set i1 (ws.getD j1 0):=⟨_,rfl⟩
  have hw2l:ws2.length=ws.length:=by rw[hws2];simp
  have s2:=fun (A:ae) v u rest=>nV (A:=A) (n:=1000000) (xs:=ws2) (i:=j1) (by omega) v u rest
  have l3:=gR (xs:=ws2) (i:=j1) (by omega)
  rw[gx] at l1
  rw[gy] at l2
  rw[gy] at hws2
  have hst2:ws2.set j1 x=dW p t rest x c:=by rw[←hstep];simp only[kr,gx,gy,←hws2]
  cases hlt:decide (gu l x-gu l t[c]<0) with
  |true =>
   have R:=And.intro @hc0 (And.intro @hw (And.intro @wd (And.intro @v1 (And.intro @v2 (And.intro @l1 (And.intro @l2 (And.intro @l3 (And.intro @s1 (And.intro @s2 (And.intro @hst2 (And.intro @hlt (And.intro @df (And.intro @dV (And.intro @aL @U))))))))))))))
   repeat' ((first
    |(with_reducible refine .guard (fun hb =>?_) (fun hb =>?_) <;>try simp only[hb])
    |refine J.aI (by decide +kernel) rfl fun K hK =>?_
    |refine .flat _ (hcmp) rfl ?_
    |(refine .aD [0,1,2,3,8,9,14,34] hK ?_;clear hK K)
    |(with_reducible refine .done (hK _ ?_);clear hK K)
    |refine J.of rfl ?_
    |(with_reducible refine aj.aH (fun h =>?_) (fun h =>?_) <;>try simp only[h])) <;>try simp only[aJ,R,←hws2,List.cons_append,simprocAttr])
   all_goals clear R
   refine ⟨c,⟨by omega,fun y hy =>?_⟩,by omega,?_⟩
   ·rw[List.drop_eq_getElem_cons hct] at hy
    rcases List.mem_cons.1 hy with rfl | hy
    ·rw[tw hyx];simp at hlt;omega
    ·exact hgt y hy
   ·rw[hj1e]
    refine az.cJ ?_ (fun n =>?_)
    ·simp[aT,aU]
    ·simp only[ak];split <;>rfl
  |false =>
   have R:=And.intro @hc0 (And.intro @hw (And.intro @wd (And.intro @v1 (And.intro @v2 (And.intro @l1 (And.intro @l2 (And.intro @hlt (And.intro @df (And.intro @dV (And.intro @aL @U))))))))))
   repeat' ((first
    |(with_reducible refine .guard (fun hb =>?_) (fun hb =>?_) <;>try simp only[hb])
    |refine J.aI (by decide +kernel) rfl fun K hK =>?_
    |refine .flat _ (hcmp) rfl ?_
    |(refine .aD [0,1,2,3,8,9,14,34] hK ?_;clear hK K)
    |(with_reducible refine .done (hK _ ?_);clear hK K)
    |refine J.of rfl ?_
    |(with_reducible refine aj.aH (fun h =>?_) (fun h =>?_) <;>try simp only[h])) <;>try simp only[aJ,R,List.cons_append,simprocAttr])
   all_goals clear R
   exact hexit _ (alD g3 hct (tv hyx (by simp at hlt;omega))) rfl rfl rfl rfl rfl
def kO(key:Nat→Int)(a b:Nat):Prop:=key a<key b∨(key a=key b∧a<b)
theorem xG(key:Nat→Int)(i:Nat)(o:List Nat):(gi key i o).Perm (i::o):=by
 have h:(o.takeWhile fun k=>decide (key k≤key i))++(o.dropWhile fun k=>decide (key k≤key i))=o:=List.takeWhile_append_dropWhile
 have:=(List.perm_middle (a:=i) (l₁:=o.takeWhile fun k=>decide (key k≤key i)) (l₂:=o.dropWhile fun k=>decide (key k≤key i)))
 rw[h] at this
 exact this
theorem Jt(key:Nat→Int)(i:Nat):∀ o:List Nat,o.Pairwise (kO key)→(∀ x∈o,x<i)→(gi key i o).Pairwise (kO key)
 | [],_,_=>by simp[gi]
 |a::o,hs,hi=>by
  obtain ⟨h1,h2⟩:=List.pairwise_cons.1 hs
  by_cases ha:key a≤key i
  ·have e:gi key i (a::o)=a::gi key i o:=by simp[gi,ha]
   rw[e]
   refine List.pairwise_cons.2 ⟨fun b hb =>?_,Jt key i o h2 fun x hx=>hi x (by simp[hx])⟩
   rcases List.mem_cons.1 ((xG key i o).mem_iff.1 hb) with rfl | hb
   ·have:=hi a (by simp)
    simp only[kO];omega
   ·exact h1 b hb
  ·have e:gi key i (a::o)=i::a::o:=by simp[gi,ha]
   rw[e]
   refine List.pairwise_cons.2 ⟨fun b hb =>?_,hs⟩
   rcases List.mem_cons.1 hb with rfl | hb
   ·simp only[kO];omega
   ·have:=h1 b hb
    simp only[kO] at *;omega
theorem rh(key:Nat→Int):∀ (l o:List Nat),o.Pairwise (kO key)→l.Pairwise (· < ·)→(∀ x∈o,∀ y∈l,x<y)→(l.foldl (fun o i=>gi key i o) o).Perm (o++l)∧(l.foldl (fun o i=>gi key i o) o).Pairwise (kO key)
 | [],o,ho,_,_=>by simp[ho]
 |i::l,o,ho,hl,hx=>by
  obtain ⟨h1,h2⟩:=List.pairwise_cons.1 hl
  have:=rh key l (gi key i o) (Jt key i o ho fun x h=>hx x h i (by simp)) h2 fun x h y hy=>by
   rcases List.mem_cons.1 ((xG key i o).mem_iff.1 h) with rfl | h
   ·exact h1 y hy
   ·exact hx x h y (by simp[hy])
  refine ⟨this.1.trans ?_,this.2⟩
  exact ((xG key i o).append_right l).trans List.perm_middle.symm
def cm(l:List Nat):List Int:=l.map fun n:Nat=>(n:Int)
def lB(l:List au)(day known:Int):List Int:=cm (jL l day known)
def pZ(l:List au)(day known:Int):List Int:=cm (fw l day known)
theorem alR(l:List au)(known:Int):(gO l known).Pairwise (· < ·):=List.Pairwise.filter _ List.pairwise_lt_range
theorem Nz{l:List au}{known:Int}{i:Nat}(h:i∈gO l known):i<l.length:=by
 simp only[gO,List.mem_filter,List.mem_range] at h;exact h.1
theorem sA(l:List au)(day known:Int):(jL l day known).Pairwise (· < ·):=List.Pairwise.filter _ (alR l known)
theorem sy{l:List au}{day known:Int}{i:Nat}(h:i∈jL l day known):i<l.length:=Nz (List.mem_filter.1 h).1
theorem X5(l:List au)(day known:Int):(lB l day known).Pairwise (· < ·):=by
 refine List.pairwise_map.2 ((sA l day known).imp fun {a b} h =>?_)
 show (a:Int)<(b:Int)
 omega
theorem X4{l:List au}{day known:Int} : ∀ x∈lB l day known,jt l x:=fun x hx=>by
 obtain ⟨i,hi,rfl⟩:=List.mem_map.1 hx
 have:=sy hi
 exact ⟨by omega,by omega⟩
theorem sx(l:List au)(day known:Int):(jL l day known).length≤l.length:=by
 have h1:=List.length_filter_le (fun i=>decide ((ab l i).kind≠0)&&decide ((ab l i).day≤day)) (gO l known)
 have h2:=List.length_filter_le (fun i=>(gC l known).getD i false) (List.range l.length)
 rw[List.length_range] at h2
 exact Nat.le_trans h1 h2
theorem akm{l:List au}{day known:Int}{s:List Int}(hp:s.Perm (lB l day known))(hs:dn l s):s=pZ l day known:=by
 have h0:=rh (fun i=>(ab l i).day) (jL l day known) [] (by simp) (sA l day known) (by simp)
 have h1:(pZ l day known).Perm (lB l day known):=h0.1.map _
 have h2:dn l (pZ l day known):=by
  refine List.pairwise_map.2 (h0.2.imp fun {a b} h =>?_)
  simp only[kO] at h
  simp only[dH,gu,Int.toNat_natCast]
  omega
 refine List.Perm.eq_of_pairwise (fun a b _ _ h k =>?_) hs h2 (hp.trans h1.symm)
 simp only[dH] at h k;omega
theorem yk{l:List au}{day known:Int}{i:Nat}(h:i∈fw l day known):i∈jL l day known:=by
 have h0:=rh (fun i=>(ab l i).day) (jL l day known) [] (by simp) (sA l day known) (by simp)
 exact h0.1.mem_iff.1 h
theorem yj(l:List au)(day known:Int):(fw l day known).length=(jL l day known).length:=by
 have h0:=rh (fun i=>(ab l i).day) (jL l day known) [] (by simp) (sA l day known) (by simp)
 exact h0.1.length_eq
theorem ajZ{x:au}(h:gA x=true):0≤x.day∧x.day≤100000:=by
 simp only[gA,b7,Bool.and_eq_true,decide_eq_true_eq] at h
 omega
theorem Ny(l:List au)(known:Int):(gC l known).length=l.length:=rF known l
theorem O0(el:List au):aw Tryz.prog 203 [enc ([]:List Int),.int .i64 0,.int .i64 0,.func 138 [.ref (enc el)]] (.tuple []):=by
 refine aw.bp Tryz.func203 Cu CB CP (Nat.le_of_ble_eq_true rfl) (fun hwf W0 D0 E1 =>?_)
 simp only[vk,yB,a6,Nat.zero_add,Nat.reduceAdd]
 clear hwf
 have hc:decide ((1:Int)<0)=false:=by decide
 have hw:IntKind.i64.wrap 1=1:=by decide
 refine .ao (by decide +kernel) fun K hK =>?_
 simp only[wV,U,Nat.reduceEqDiff,reduceIte]
 refine .done (hK _ ?_);clear hK K
 refine J.block (J.loop (fun _:Unit=>ar [(2,.int .i64 0),(8,.int .i64 1)] []) (fun _=>True) (fun _=>0) () trivial ?_ (fun _ _ =>?_))
 ·refine az.bR ?_ ?_ ?_ ?_ <;>simp[*,aT,bN,bM,bg,aU,I.only]
 have R:=And.intro @hc (And.intro @kE (And.intro @bx (And.intro @aL @U)))
 repeat' ((first
  |(with_reducible refine .guard (fun hb =>?_) (fun hb =>?_) <;>try simp only[hb])
  |refine J.aI (by decide +kernel) rfl fun K hK =>?_
  |(refine .aD [0,1,2,3,8,9,14,34] hK ?_;clear hK K)
  |(with_reducible refine .done (hK _ ?_);clear hK K)
  |refine J.of rfl ?_
  |(with_reducible refine aj.aH (fun h =>?_) (fun h =>?_) <;>try simp only[h])) <;>try simp only[aJ,R,Nat.reduceEqDiff,reduceIte,Nat.reduceBEq])
 all_goals clear R
 rfl
theorem OM(el:List au):aw Tryz.prog 171 [enc ([]:List Int),.int .i64 0,.func 138 [.ref (enc el)]] (.tuple []):=by
 refine aw.bp Tryz.func171 Cr Cz CN (Nat.le_of_ble_eq_true rfl) (fun hwf W0 D0 E1 =>?_)
 simp only[vi,yz,a6,Nat.zero_add,Nat.reduceAdd]
 clear hwf
 have hc:decide ((20:Int)≤0)=false:=by decide
 have hc2:decide ((20:Int)<0)=false:=by decide
 refine .ao (by decide +kernel) fun K hK =>?_
 simp only[wM,U]
 refine .done (hK _ ?_);clear hK K
 refine .ao (by decide +kernel) fun K hK =>?_
 simp only[wN,U,Nat.reduceEqDiff,reduceIte]
 refine .done (hK _ ?_);clear hK K
 refine J.seq (J.block (J.loop (fun _:Unit=>ar [(0,enc ([]:List Int)),(1,.int .i64 0),(2,.func 138 [.ref (enc el)]),(6,.int .i64 20),(7,.int .i64 0),(8,.int .i64 20)] []) (fun _=>True) (fun _=>0) () trivial ?_ (fun _ _ =>?_)))
 ·refine az.bR ?_ ?_ ?_ ?_ <;>simp[aT,bN,bM,bg,aU,I.only,I.bV,br]
 have R:=And.intro @hc (And.intro @kE (And.intro @bx (And.intro @aL @U)))
 repeat' ((first
  |(with_reducible refine .guard (fun hb =>?_) (fun hb =>?_) <;>try simp only[hb])
  |refine J.aI (by decide +kernel) rfl fun K hK =>?_
  |refine .lead _ (O0 el) ?_
  |(refine .aD [0,1,2,6,7,8,9,13,30,35,54] hK ?_;clear hK K)
  |(with_reducible refine .done (hK _ ?_);clear hK K)
  |refine J.of rfl ?_
  |(with_reducible refine aj.aH (fun h =>?_) (fun h =>?_) <;>try simp only[h])) <;>try simp only[aJ,R,Nat.reduceEqDiff,reduceIte,Nat.reduceBEq])
 all_goals clear R
 refine J.loop (fun _:Unit=>ar [(0,enc ([]:List Int)),(1,.int .i64 0),(2,.func 138 [.ref (enc el)]),(6,.int .i64 20)] []) (fun _=>True) (fun _=>0) () trivial ?_ (fun _ _ =>?_)
 ·refine az.bR ?_ ?_ ?_ ?_ <;>simp[aT,bN,bM,bg,aU,I.only,I.bV,br]
 have R:=And.intro @hc2 (And.intro @kE (And.intro @bx (And.intro @aL @U)))
 repeat' ((first
  |(with_reducible refine .guard (fun hb =>?_) (fun hb =>?_) <;>try simp only[hb])
  |refine J.aI (by decide +kernel) rfl fun K hK =>?_
  |(refine .aD [0,1,2,6,7,8,9,13,30,35,54] hK ?_;clear hK K)
  |(with_reducible refine .done (hK _ ?_);clear hK K)
  |refine J.of rfl ?_
  |(with_reducible refine aj.aH (fun h =>?_) (fun h =>?_) <;>try simp only[h])) <;>try simp only[aJ,R,Nat.reduceEqDiff,reduceIte,Nat.reduceBEq])
 all_goals clear R
 rfl
theorem Ot(el:List au):aw Tryz.prog 137 [enc ([]:List Int),.func 138 [.ref (enc el)]] (.tuple []):=by
 refine aw.bp Tryz.func137 Cp Cy CM (Nat.le_of_ble_eq_true rfl) (fun hwf W0 D0 E1 =>?_)
 simp only[vh,yx,a6,Nat.zero_add]
 clear hwf
 have hz:(([]:List Int).length:Int)=0:=rfl
 have R:=And.intro @hz (And.intro @kE (And.intro @bx (And.intro @aL @U)))
 repeat' ((first
  |(with_reducible refine .guard (fun hb =>?_) (fun hb =>?_) <;>try simp only[hb])
  |refine J.aI (by decide +kernel) rfl fun K hK =>?_
  |refine .lead _ (OM el) ?_
  |(refine .aD [0,1] hK ?_;clear hK K)
  |(with_reducible refine .done (hK _ ?_);clear hK K)
  |refine J.of rfl ?_
  |(with_reducible refine aj.aH (fun h =>?_) (fun h =>?_) <;>try simp only[h])) <;>try simp only[R,Nat.reduceEqDiff,reduceIte])
 all_goals clear R
 rfl
def alf(l:List cA):Prop:=∀ (i j:Nat) (hi:i<l.length) (hj:j<l.length),i<j→l[i].bQ<l[j].bQ
theorem amw{m:cn}(h:eI m=true):alf m.given:=by
 simp only[eI,Bool.and_eq_true,List.all_eq_true,List.mem_range] at h
 have h1:∀ i,i+1<m.given.length→(cd m i).bQ<(cd m (i+1)).bQ:=fun i hi=>by
  have:=h.2.2.2 (i+1) hi
  simp only[fu,Bool.and_eq_true] at this
  simpa using this.2.2.1
 intro i j hi hj hij
 obtain ⟨d,rfl⟩:∃ d,j=i+1+d:=⟨j-(i+1),by omega⟩
 induction d with
 |zero=>rw[jN hi,jN hj];exact h1 i hj
 |succ d ih =>
  have hj':i+1+d<m.given.length:=by omega
  have:=ih hj' (by omega)
  rw[jN hi,jN hj'] at this
  rw[jN hi,jN hj]
  have h3:=h1 (i+1+d) hj
  have e:i+1+(d+1)=i+1+d+1:=by omega
  rw[e];omega
theorem Kd{m:cn}(h:eI m=true):m.given.length≤40:=by
 simp only[eI,Bool.and_eq_true,decide_eq_true_eq] at h
 exact h.2.2.1
theorem Ke{m:cn}(h:eI m=true):∀ g∈m.given,fv g.mark=true:=fun g hg=>by
 simp only[eI,Bool.and_eq_true,List.all_eq_true,List.mem_range] at h
 obtain ⟨i,hi,rfl⟩:=List.getElem_of_mem hg
 rw[jN hi]
 exact tP (h.2.2.2 i hi)
theorem OY(m:cn)(r:bA 6 Int)(g:cA)(hg:fv g.mark=true):aw Tryz.prog 201 (enc g::[.ref (enc m),.ref (enc r)]) (enc (decide (m.gb<kF m.fA g.mark r))):=by
 refine aw.bp Tryz.func201 RU TT V2 (Nat.le_of_ble_eq_true rfl) (fun hwf W0 D0 E1 =>?_)
 simp only[BF,LS,a6,Nat.zero_add,Nat.reduceAdd]
 refine .ao (by decide +kernel) fun K hK =>?_
 simp only[Ht,U,simprocAttr]
 try simp only[dG,U,simprocAttr]
 refine .done (hK _ ?_);clear hK K
 refine .ao (by decide +kernel) fun K hK =>?_
 simp only[Hu,U,simprocAttr]
 try simp only[c4,ea,U,simprocAttr]
 refine .flat _ (OZ m.fA g.mark r hg) rfl ?_
 try simp only[c4,U,simprocAttr]
 refine .done (hK _ ?_);clear hK K
 refine J.ret ?_
 simp only[U,simprocAttr]
def kT(m:cn)(r:bA 6 Int):List cA:=fM (fun g=>decide (m.gb<kF m.fA g.mark r)) m.given
def KE(d:Nat)(m:cn)(r:bA 6 Int):cV:=fun x os'=>(kT m r=[]∧x=enc ([]:List cA)∧os'=[])∨∃ k,x=.view d [] 7 0 (kT m r).length∧os'=iG d (kT m r) k
theorem OH(m:cn)(r:bA 6 Int)(hm:∀ g∈m.given,fv g.mark=true)(hlen:m.given.length≤1000):cH Tryz.prog 168 [enc m,enc r] [] (KE 7 m r):=by
 refine cH.bp Tryz.func168 RA Ty VH (Nat.le_of_ble_eq_true rfl) (Nat.le_of_ble_eq_true rfl) (fun m hm=>by simp[aq,ak] at hm) (fun hwf W0 D0 E1 =>?_)
 simp only[Bj,Lw,a6,Nat.zero_add]
 refine .ao (by decide +kernel) fun K hK =>?_
 simp only[GB,U,simprocAttr]
 try simp only[dG,U,simprocAttr]
 refine .done (hK _ ?_);clear hK K
 refine .ao (by decide +kernel) fun K hK =>?_
 simp only[GC,U,simprocAttr]
 try simp only[c4,ea,U,simprocAttr]
 refine .bX false [(7,7)] [] [enc m.given] (vw m.given) rfl (zC m.given hlen) gm.nil ⟨.inl ⟨(kb _ _).symm,br _ _,dG _⟩,trivial⟩ ?_ ?_
 ·rintro x os' (⟨_,h | h,rfl⟩ | ⟨_,k,rfl,rfl⟩)
  ·subst h;exact eC.nil (fun _=>rfl) (fun h=>by cases h)
  ·subst h;exact eC.nil (fun _=>rfl) (fun h=>by cases h)
  ·exact eC.tI (fun p=>mA p _) (fun h=>by cases h) rfl (fun h=>by cases h) rfl (by decide)
 ·have hd:I.eQ [.ref (enc m),.ref (enc r)]=true:=by simp only[I.eQ,I.done,dV,Bool.and_self]
  rintro x os' (⟨hn,h,rfl⟩ | ⟨hn,k,rfl,rfl⟩)
  ·have hp:kT m r=[]:=by simp[kT,fM,hn]
   have key:∀ x,(x=.nils 7∨x=.c0 7)→bd true (ar [] []) x=some (enc ([]:List cA)):=by rintro x (rfl | rfl) <;>rfl
   have hren:∀ x:I,(x=.nils 7∨x=.c0 7)→x.aR (bJ [(7,7)])=x∧x.cq=true:=by rintro x (rfl | rfl) <;>exact ⟨by simp only[I.aR],rfl⟩
   rw[(hren x h).1]
   try simp only[jz,List.nil_append,List.all_cons,List.all_nil,I.cq,Bool.and_self,U,simprocAttr]
   have hfx:∀ A,bd true A x=some (enc ([]:List cA)):=fun A=>by rcases h with rfl | rfl <;>simp only[bd,ga,List.map_nil] <;>rfl
   refine .gU [2,3] (enc ([]:List cA)) rfl (OX 201 [.ref (enc m),.ref (enc r)] hd) ?_ ?_ ?_
   ·try simp only[hfx,fW,List.filter_cons,List.filter_nil,List.contains_cons,Nat.reduceBEq,Bool.or_true,Bool.true_or,BEq.rfl,dV,U,simprocAttr]
   ·simp[cE,bg]
   ·try simp only[fG,cE,List.filter_cons,List.filter_nil,List.contains_cons,Nat.reduceBEq,Bool.or_true,Bool.true_or,BEq.rfl,List.map_cons,List.map_nil,U,simprocAttr]
    refine .done (hK _ ?_);clear hK K
    refine J.ret ?_
    simp only[fP]
    exact ⟨[],[enc ([]:List cA)],qG,⟨⟨_,rfl,.inl ⟨rfl,rfl,rfl⟩⟩,trivial⟩,.inl ⟨hp,rfl,rfl⟩⟩
  ·try simp only[iG,jz,jg,List.cons_append,List.nil_append,List.all_cons,List.all_nil,I.cq,Bool.and_self,U,simprocAttr]
   refine .bX true [(1000000,7)] (iG 1000000 m.given k) [.view 1000000 [] 7 0 m.given.length,.func 201 [.ref (enc m),.ref (enc r)]] (CU 1000000 (kT m r)) rfl
    (OW m.given 201 [.ref (enc m),.ref (enc r)] hd (fun g=>decide (m.gb<kF m.fA g.mark r)) (fun g hg=>OY m r g (hm g hg)) hlen k) ⟨?_,?_⟩ ⟨.inl ⟨?_,?_,rfl⟩,.inr ?_,trivial⟩ ?_ ?_
   ·intro n x h
    simp only[iG,ak] at h
    split at h
    ·rename_i hn'
     subst hn'
     simp only[Option.some.injEq] at h
     subst h
     exact ⟨by simp only[jz,jg,U,simprocAttr],mA _ _,rfl⟩
    ·cases h
   ·intro a b ha hb _
    rw[dw.1 ha,dw.1 hb]
   ·try simp only[jz,simprocAttr]
   ·exact dw.2 rfl
   ·try simp only[jR,iG,bJ,cE,List.filter_cons,List.filter_nil,List.map_cons,List.map_nil,List.contains_cons,List.contains_nil,Nat.reduceBEq,Bool.or_false,BEq.rfl,dV,U,simprocAttr]
   ·rintro x os' ⟨k',rfl,rfl⟩
    exact eC.one (fun p=>mA p _) (fun _=>aiO _) (dw.2 rfl) (fun _=>rfl)
   ·rintro x os' ⟨k',rfl,rfl⟩
    try simp only[iG,jz,jg,List.cons_append,List.nil_append,U,simprocAttr]
    refine .done (hK _ ?_);clear hK K
    refine J.ret ?_
    simp only[fP]
    exact ⟨iG 7 (kT m r) k',[.view 7 [] 7 0 (kT m r).length],nu rfl (fun p=>mA p _),⟨⟨_,rfl,.inl ⟨rfl,rfl,rfl⟩⟩,trivial⟩,.inr ⟨k',rfl,rfl⟩⟩
def kR(l:List cA)(i:Nat):List Int:=(l.take i).map (·.bQ)
theorem aks(l:List cA):kR l 0=[]:=by simp[kR]
theorem akr{l:List cA}{i:Nat}(h:i<l.length):kR l (i+1)=kR l i++[l[i].bQ]:=by
 simp only[kR];rw[List.take_succ_eq_append_getElem h,List.map_append];rfl
theorem Kv{l:List cA}{i:Nat}(h:i≤l.length):(kR l i).length=i:=by simp[kR];omega
theorem akq(l:List cA):kR l l.length=l.map (·.bQ):=by simp[kR]
theorem OI(l:List cA)(hlen:l.length≤1000):aw Tryz.prog 169 [enc l] (enc (l.map (·.bQ))):=by
 refine aw.bp Tryz.func169 RB Tz VI (Nat.le_of_ble_eq_true rfl) (fun hwf W0 D0 E1 =>?_)
 simp only[Bk,Lx,a6]
 refine .ao (by decide +kernel) fun K hK =>?_
 simp only[GD,U,simprocAttr]
 refine .done (hK _ ?_);clear hK K
 refine .ao (by decide +kernel) fun K hK =>?_
 simp only[GF,U,simprocAttr]
 refine .done (hK _ ?_);clear hK K
 refine J.seq ?_
 refine J.seq (J.bD (by decide +kernel) fun K hK =>?_)
 try simp only[GG,bx,U,simprocAttr]
 refine .done (hK _ ?_);clear hK K
 refine J.block (J.loop (fun i:Nat=>ar [(3,.own 3 (kR l i).length),(6,enc l),(7,.int .i64 l.length),(8,.int .i64 i)] [(3,.bW 3 1 ((kR l i).map enc))]) (fun i=>i≤l.length) (fun i=>l.length-i) 0 (Nat.zero_le _) ?_ (fun i hi =>?_))
 ·refine az.ln 3 3 3 1 1 ?_ ?_ ?_
  ·simp only[o8,Nat.reduceEqDiff,reduceIte]
  ·simp only[o8]
  ·simp only[aks,List.map_nil,List.length_nil]
   refine az.bR ?_ ?_ ?_ ?_ <;>simp[aT,bN,bM,bg,aq,aU,cw,I.only,I.bV,ah.only,br]
 ·refine .ao (by decide +kernel) fun K hK =>?_
  simp only[GH,U,simprocAttr]
  refine .done (hK _ ?_);clear hK K
  refine J.seq ?_
  refine J.bI ?_
  simp only[aj,U,simprocAttr]
  refine ⟨fun h =>?_,fun h =>?_⟩
  ·have hlt:i<l.length:=by simpa using h
   refine J.skip ?_;try simp only[al,simprocAttr]
   refine J.seq (J.block ?_)
   refine .ao (by decide +kernel) fun K hK =>?_
   simp only[GI,U,simprocAttr]
   try simp only[ew 7 hlt rfl,c4,U,simprocAttr]
   rw[ej (dG _) (by rw[fS];rfl) ((eD _).trans rfl)]
   try simp only[U,simprocAttr]
   refine .done (hK _ ?_);clear hK K
   refine .bD (by decide +kernel) fun K hK =>?_
   simp only[GJ,U,simprocAttr]
   try simp only[c4,U,simprocAttr]
   rw[jF 3 1 8 3 rfl rfl (by simp) (by simp[maxLen,Kv hi];omega) (by simp[Kv hi];omega)]
   try simp only[U,simprocAttr]
   refine .done (hK _ ?_);clear hK K;try simp only[al,bP]
   refine .bD (by decide +kernel) fun K hK =>?_
   simp only[GK,U,simprocAttr]
   refine .done (hK _ ?_);clear hK K;try simp only[al]
   refine ⟨i+1,by omega,by omega,?_⟩
   rw[cG _ (by omega) (by omega),akr hlt]
   refine az.bR ?_ ?_ ?_ ?_ <;>simp[aT,bN,bM,bg,aq,aU,cw,I.only,I.bV,ah.only,ec,iB,br,iw]
  ·have hge:i=l.length:=by simp at h;omega
   subst hge
   refine J.exit ?_;try simp only[al,bP,simprocAttr]
   refine .ao (by decide +kernel) fun K hK =>?_
   simp only[GL,U,simprocAttr]
   refine .done (hK _ ?_);clear hK K
   refine J.ret ?_
   try simp only[akq,U,simprocAttr]
def eA(rs:List (bA 6 Int))(j:Nat):bA 6 Int:=rs.getD j NX
theorem xI{A:ae}{rs:List (bA 6 Int)}{i:Nat}(h:i<rs.length):iW A 6 (i:Int) (enc rs)=some (.ref (enc (eA rs i))):=by
 rw[ew 6 h rfl];simp[eA,List.getD_eq_getElem?_getD,h]
def ni(m:cn)(rs:List (bA 6 Int))(g:cA)(j:Nat):Bool:=decide (kF m.fA g.mark (eA rs j)≤m.gb)
def jb(m:cn)(rs:List (bA 6 Int))(n:Nat):List cA:=m.given.filter fun g=>(List.range n).all (ni m rs g)
theorem ajU(m:cn)(rs:List (bA 6 Int)):jb m rs 0=m.given:=by simp[jb]
theorem J5(m:cn)(rs:List (bA 6 Int))(n:Nat):jb m rs (n+1)=kT ⟨m.fA,m.gb,jb m rs n⟩ (eA rs n):=by
 simp only[jb,kT,fM,List.filter_filter]
 refine List.filter_congr fun g _ =>?_
 rw[List.range_succ,List.all_append]
 simp only[List.all_cons,List.all_nil,Bool.and_true,ni]
 by_cases h:kF m.fA g.mark (eA rs n)≤m.gb
 ·have h2:¬ m.gb<kF m.fA g.mark (eA rs n):=by omega
  simp[h,h2]
 ·have h2:m.gb<kF m.fA g.mark (eA rs n):=by omega
  simp[h,h2]
theorem ajT{m:cn}{rs:List (bA 6 Int)}{n:Nat}{g:cA}(h:g∈jb m rs n):g∈m.given:=(List.mem_filter.1 h).1
theorem J4(m:cn)(rs:List (bA 6 Int))(n:Nat):(jb m rs n).length≤m.given.length:=List.length_filter_le _ _
def q0(rs:List (bA 6 Int)):Bool:=(List.range rs.length).all fun i=>kj (eA rs i)
def ft(m:cn)(rs:List (bA 6 Int)):List Int×Int:=if eI m then (if rs.length≤60 then (if q0 rs then ((jb m rs rs.length).map (·.bQ),0) else ([],12)) else ([],2)) else ([],13)
theorem QG(w:bA 5 Int)(n:Int)(l:List cA):eB [enc (a5 0 0 0 0 0),.int .i64 0,.nils 7] [(0,enc w),(1,.int .i64 n),(2,enc l)]=some [enc w,.int .i64 n,enc l]:=by
 have h1:((enc w:I).cq=true∧(enc w:I).size=(enc (a5 0 0 0 0 0)).size):=⟨dG _,by rw[iQ,iQ]⟩
 have h2:((enc l:I).cq=true∧(enc l:I).size=(I.nils 7).size):=⟨dG _,by rw[iQ];rfl⟩
 rw[yY (z:=enc (a5 0 0 0 0 0)) rfl h1.1 h1.2,yY (v:=.int .i64 n) (z:=.int .i64 0) rfl rfl rfl,yY (z:=.nils 7) rfl h2.1 h2.2];rfl
theorem Oc(m:cn)(rs:List (bA 6 Int)):aw Tryz.prog 128 [enc m,enc rs] (.tuple [enc (ft m rs).1,enc (ft m rs).2]):=by
 refine aw.bp Tryz.func128 Q5 S2 Vc (Nat.le_of_ble_eq_true rfl) (fun hwf W0 D0 E1 =>?_)
 simp only[AK,K1,a6,Nat.zero_add]
 refine .ao (by decide +kernel) fun K hK =>?_
 simp only[EM,U,simprocAttr]
 try simp only[dG,U,simprocAttr]
 refine .done (hK _ ?_);clear hK K
 refine J.seq ?_
 refine .ao (by decide +kernel) fun K hK =>?_
 simp only[EN,U,simprocAttr]
 try simp only[c4,ea,U,simprocAttr]
 refine .flat _ (uO m) rfl ?_
 generalize hm:eI m=bm
 cases bm
 ·try simp only[U,simprocAttr]
  refine .done (hK _ ?_);clear hK K
  refine .ao (by decide +kernel) fun K hK =>?_
  simp only[wo,U,simprocAttr]
  refine .done (hK _ ?_);clear hK K
  refine J.bI ?_
  simp only[aj,U,simprocAttr]
  refine ⟨fun h =>?_,fun h =>?_⟩
  ·refine .ao (by decide +kernel) fun K hK =>?_
   simp only[EO,U,simprocAttr]
   refine .done (hK _ ?_);clear hK K
   refine J.ret ?_
   simp only[al,U,simprocAttr]
   simp[ft,hm,pS]
  ·cases h
 try simp only[U,simprocAttr]
 refine .done (hK _ ?_);clear hK K
 refine .ao (by decide +kernel) fun K hK =>?_
 simp only[wo,U,simprocAttr]
 refine .done (hK _ ?_);clear hK K
 refine J.bI ?_
 simp only[aj,U,simprocAttr]
 refine ⟨fun h =>?_,fun h =>?_⟩
 ·cases h
 refine J.skip ?_;try simp only[al,simprocAttr]
 refine J.seq ?_
 refine .ao (by decide +kernel) fun K hK =>?_
 simp only[EP,U,simprocAttr]
 try simp only[bx,U,simprocAttr]
 refine .done (hK _ ?_);clear hK K
 refine J.bI ?_
 simp only[aj,U,simprocAttr]
 refine ⟨fun h =>?_,fun h =>?_⟩
 ·refine .ao (by decide +kernel) fun K hK =>?_
  simp only[ER,U,simprocAttr]
  refine .done (hK _ ?_);clear hK K
  refine J.ret ?_
  simp only[al,U,simprocAttr]
  have:¬ rs.length≤60:=by simp at h;omega
  simp[ft,hm,this,pS]
 have hrl:rs.length≤60:=by simp at h;omega
 refine J.skip ?_;try simp only[al,simprocAttr]
 have hlen:m.given.length≤1000:=by have:=Kd hm;omega
 -- from the clone on
 have key:∀ c:cM,c=⟨Tryz.prog,W0,D0,Tryz.f128.ntmps,dy E1,E1,iA,none⟩→J c (.seq (.seq (.bT none wq) (.block 0 (.loop (.seq (.bT none wu) (.seq (.cond (.t 25) .skip (.exit 0)) (.seq (.block 1 (.seq (.bT none wv) (.seq (.seq (.bT none wh) (.seq (.bT none sN) (.cond (.t 31) (.seq (.bT none wi) .ret) .skip))) (.bT none wj)))) (.bT none sO))))))) (.seq (.bT none wm) .ret))
   (jA [.tmp 4,.tmp 5] (.tuple [enc (ft m rs).1,enc (ft m rs).2])) (ar [(1,enc rs),(2,.ptr 2 []),(7,enc m.given)] [(2,.box (enc m))]):=by
  rintro c rfl
  refine J.seq ?_
  refine .ao (by decide +kernel) fun K hK =>?_
  simp only[wq,U,simprocAttr]
  try simp only[bx,U,simprocAttr]
  refine .done (hK _ ?_);clear hK K
  refine J.block (J.loop (fun i:Nat=>ar [(1,enc rs),(2,.ptr 2 []),(7,enc (jb m rs i)),(22,enc rs),(23,.int .i64 rs.length),(24,.int .i64 i)] [(2,.box (enc m))]) (fun i=>i≤rs.length∧∀ j,j<i→kj (eA rs j)=true) (fun i=>rs.length-i) 0 ⟨by omega,fun j h=>by omega⟩ ?_ (fun i hi =>?_))
  ·rw[ajU]
   refine az.bR ?_ ?_ ?_ ?_ <;>simp[aT,bN,bM,bg,aq,aU,cw,I.only,ah.only,br]
  refine .ao (by decide +kernel) fun K hK =>?_
  simp only[wu,U,simprocAttr]
  refine .done (hK _ ?_);clear hK K
  refine J.seq ?_
  refine J.bI ?_
  simp only[aj,U,simprocAttr]
  refine ⟨fun h =>?_,fun h =>?_⟩
  case refine_2.refine_2 =>
   have hge:i=rs.length:=by simp at h;omega
   subst hge
   have hok:q0 rs=true:=lq hi.2
   refine J.exit ?_;try simp only[al,bP,simprocAttr]
   refine .ao (by decide +kernel) fun K hK =>?_
   simp only[wm,U,simprocAttr]
   try simp only[ea,U,simprocAttr]
   refine .lead _ (OI (jb m rs rs.length) (Nat.le_trans (J4 _ _ _) hlen)) ?_
   try simp only[U,simprocAttr]
   refine .done (hK _ ?_);clear hK K
   refine J.ret ?_
   simp only[U,simprocAttr]
   try simp only[ea,U,simprocAttr]
   simp[ft,hm,hrl,hok]
  have hlt:i<rs.length:=by simp at h;omega
  refine J.skip ?_;try simp only[al,simprocAttr]
  refine J.seq (J.block ?_)
  refine .ao (by decide +kernel) fun K hK =>?_
  simp only[wv,U,simprocAttr]
  try simp only[c4,xI hlt,Yb,alO,U,simprocAttr]
  refine .done (hK _ ?_);clear hK K
  refine J.seq ?_
  refine .ao (by decide +kernel) fun K hK =>?_
  simp only[wh,U,simprocAttr]
  try simp only[c4,ea,U,simprocAttr]
  refine .flat _ (zx (eA rs i)) rfl ?_
  generalize hr:kj (eA rs i)=aH
  cases aH
  ·try simp only[U,simprocAttr]
   refine .done (hK _ ?_);clear hK K
   refine .ao (by decide +kernel) fun K hK =>?_
   simp only[sN,U,simprocAttr]
   refine .done (hK _ ?_);clear hK K
   refine J.bI ?_
   simp only[aj,U,simprocAttr]
   refine ⟨fun h =>?_,fun h =>?_⟩
   ·refine .ao (by decide +kernel) fun K hK =>?_
    simp only[wi,U,simprocAttr]
    refine .done (hK _ ?_);clear hK K
    refine J.ret ?_
    simp only[bP,al,U,simprocAttr]
    have hok:q0 rs=false:=j6 i hlt hr
    simp[ft,hm,hrl,hok,pS]
   ·cases h
  try simp only[U,simprocAttr]
  refine .done (hK _ ?_);clear hK K
  refine .ao (by decide +kernel) fun K hK =>?_
  simp only[sN,U,simprocAttr]
  refine .done (hK _ ?_);clear hK K
  refine J.bI ?_
  simp only[aj,U,simprocAttr]
  refine ⟨fun h =>?_,fun h =>?_⟩
  ·cases h
  refine J.skip ?_;try simp only[al,simprocAttr]
  have hof:∀ j,j<i+1→kj (eA rs j)=true:=fun j hj=>by
   rcases Nat.lt_or_ge j i with h1 | h1
   ·exact hi.2 j h1
   ·have:j=i:=by omega
    subst this;exact hr
  refine .bD (by decide +kernel) fun K hK =>?_
  simp only[wj,U,simprocAttr]
  try simp only[c4,ea,QG,Ya,X9,U,simprocAttr]
  refine .bX false [(7,40)] [] [enc (⟨m.fA,m.gb,jb m rs i⟩:cn),enc (eA rs i)] (KE 7 ⟨m.fA,m.gb,jb m rs i⟩ (eA rs i)) rfl (OH ⟨m.fA,m.gb,jb m rs i⟩ (eA rs i) (fun g hg=>Ke hm g (ajT hg)) (Nat.le_trans (J4 m rs i) hlen)) gm.nil ⟨.inl ⟨(kb _ _).symm,br _ _,dG _⟩,.inl ⟨(kb _ _).symm,br _ _,dG _⟩,trivial⟩ ?_ ?_
  ·rintro x os' (⟨_,rfl,rfl⟩ | ⟨k,rfl,rfl⟩)
   ·exact eC.nil (fun _=>rfl) (fun h=>by cases h)
   ·exact eC.tI (fun p=>mA p _) (fun h=>by cases h) rfl (fun h=>by cases h) rfl (by decide)
  ·rintro x os' (⟨hp,rfl,rfl⟩ | ⟨k,rfl,rfl⟩)
   ·try simp only[kb,jz,List.nil_append,U,simprocAttr]
    refine .done (hK _ ?_);clear hK K;try simp only[al,bP]
    refine .bD (by decide +kernel) fun K hK =>?_
    simp only[sO,U,simprocAttr]
    refine .done (hK _ ?_);clear hK K;try simp only[al]
    refine ⟨i+1,⟨by omega,hof⟩,by omega,?_⟩
    rw[cG _ (by omega) (by omega),J5,hp]
    refine az.bR ?_ ?_ ?_ ?_ <;>simp[aT,bN,bM,bg,aq,aU,cw,I.only,ah.only,br]
   ·try simp only[iG,jz,jg,List.cons_append,List.nil_append,U,simprocAttr]
    refine .done (hK _ ?_);clear hK K;try simp only[al,bP]
    refine .bD (by decide +kernel) fun K hK =>?_
    simp only[sO,U,simprocAttr]
    refine .done (hK _ ?_);clear hK K;try simp only[al]
    refine ⟨i+1,⟨by omega,hof⟩,by omega,?_⟩
    rw[cG _ (by omega) (by omega),J5]
    refine az.oj (y:=enc (kT ⟨m.fA,m.gb,jb m rs i⟩ (eA rs i))) [40] 7 rfl ?_ ?_ ?_ ?_ ?_ ?_
    ·try simp only[fW,List.filter_cons,List.filter_nil,List.contains_cons,List.contains_nil,Nat.reduceBEq,Bool.or_false,BEq.rfl,sH (α:=cA) (sz:=7) rfl,zg,U,simprocAttr]
    ·simp[cE,bg,ah.only,br]
    ·simp[aT,fG,aU,I.only,br]
    ·simp[bN,cE,cw]
    ·simp[bM,aq,cw,I.only,br]
    ·simp[bg,ah.only,br]
 refine .ao (by decide +kernel) fun K hK =>?_
 simp only[ES,U,simprocAttr]
 try simp only[c4,ea,U,simprocAttr]
 refine .bX false [(7,21)] [] [enc m.given] (vw m.given) rfl (zC m.given hlen) gm.nil ⟨.inl ⟨(kb _ _).symm,br _ _,dG _⟩,trivial⟩ ?_ ?_
 ·rintro x os' (⟨_,h | h,rfl⟩ | ⟨_,k,rfl,rfl⟩)
  ·subst h;exact eC.nil (fun _=>rfl) (fun h=>by cases h)
  ·subst h;exact eC.nil (fun _=>rfl) (fun h=>by cases h)
  ·exact eC.tI (fun p=>mA p _) (fun h=>by cases h) rfl (fun h=>by cases h) rfl (by decide)
 ·rintro x os' (⟨hn,h,rfl⟩ | ⟨hn,k,rfl,rfl⟩)
  ·have hren:∀ x:I,(x=.nils 7∨x=.c0 7)→x.aR (bJ [(7,21)])=x:=by rintro x (rfl | rfl) <;>simp only[I.aR]
   rw[hren x h]
   try simp only[jz,List.nil_append,U,simprocAttr]
   refine .done (hK _ ?_);clear hK K
   refine J.sub (az.oj (y:=enc m.given) [] 7 rfl ?_ ?_ ?_ ?_ ?_ ?_) (key _ rfl)
   ·rw[hn];rcases h with rfl | rfl <;>simp only[ga,List.map_nil] <;>rfl
   ·simp[cE,bg,ah.only,br]
   ·simp[aT,fG,aU,I.only,br]
   ·simp[bN,cE,cw]
   ·simp[bM,aq,cw,I.only,br]
   ·simp[bg,ah.only,br]
  ·try simp only[iG,jz,jg,List.cons_append,List.nil_append,U,simprocAttr]
   refine .done (hK _ ?_);clear hK K
   refine J.sub (az.oj (y:=enc m.given) [21] 7 rfl ?_ ?_ ?_ ?_ ?_ ?_) (key _ rfl)
   ·try simp only[fW,List.filter_cons,List.filter_nil,List.contains_cons,List.contains_nil,Nat.reduceBEq,Bool.or_false,BEq.rfl,sH (α:=cA) (sz:=7) rfl,zg,U,simprocAttr]
   ·simp[cE,bg,ah.only,br]
   ·simp[aT,fG,aU,I.only,br]
   ·simp[bN,cE,cw]
   ·simp[bM,aq,cw,I.only,br]
   ·simp[bg,ah.only,br]
theorem Di(n:Nat)(ts:List (Nat×I)):∀ t,Abs.bO (fG [n] ts) t=if (Abs.bO ts t).only (fun j => ![n].contains j)=true then Abs.bO ts t else .c9:=by
 intro t
 simp only[fG]
 induction ts with
 |nil=>simp[Abs.bO]
 |cons q ts ih =>
  obtain ⟨k,v⟩:=q
  simp only[List.map_cons,Abs.bO]
  split
  ·rfl
  ·exact ih
theorem Dj(ns:List Nat)(ts:List (Nat×I)):∀ t,Abs.bO (fG ns ts) t=if (Abs.bO ts t).only (fun j => !ns.contains j)=true then Abs.bO ts t else .c9:=by
 intro t
 simp only[fG]
 induction ts with
 |nil=>simp[Abs.bO]
 |cons q ts ih =>
  obtain ⟨k,v⟩:=q
  simp only[List.map_cons,Abs.bO]
  split
  ·rfl
  ·exact ih
theorem uG{p q:Nat→Bool}(h:∀ n,p n=true→q n=true){y:ah}(hy:y.only p=true):y.only q=true:=by
 cases y with
 |box x=>exact jc h _ hy
 |bW T sz es=>exact iC h _ hy
 |dK o=>rfl
 |cU T xs=>rfl
 |cu ks vs=>simp only[ah.only,Bool.and_eq_true] at hy ⊢;exact ⟨iC h _ hy.1,iC h _ hy.2⟩
 |it ks vs l c=>simp only[ah.only,Bool.and_eq_true] at hy ⊢;exact ⟨iC h _ hy.1,iC h _ hy.2⟩
theorem tR{n k:Nat} : ∀ {ts:List (Nat×I)},(∀ q∈ts,nK n k q.2)→∀ t,nK n k (Abs.bO ts t)
 | [],_,_=>.inr rfl
 |(a,v)::ts,h,t=>by
  simp only[Abs.bO]
  split
  ·exact h (a,v) (by simp)
  ·exact tR (fun q hq=>h q (by simp[hq])) t
theorem tS{p:Nat→Bool}{n k:Nat}(hp:p=fun j => ![n].contains j)(f:ah→ah)(hf:∀ y:ah,y.only p=true→f y=y):∀ {os:List (Nat×ah)},bg p (cE [n] os)→bg p (cE [n] (os.map fun q=>(q.1,f q.2)))
 | [],_=>trivial
 |(m,y)::os,h=>by
  simp only[List.map_cons,cE,List.filter_cons] at h ⊢
  split
  ·rename_i hm
   rw[if_pos hm] at h
   refine ⟨?_,tS (k:=k) hp f hf h.2⟩
   rw[hf y h.1];exact h.1
  ·rename_i hm
   rw[if_neg hm] at h
   exact tS (k:=k) hp f hf h
theorem vW{ys q:List Int}{k:Nat}(hk:ys.length=k):kc 1 0 k (some ((ys++q).map enc))=some (enc ys):=by
 have h:(((ys++q).map (enc (α:=Int))).drop 0).take k=ys.map enc:=by
  rw[List.drop_zero,List.map_append,List.take_append_of_le_length (by simp[hk]),List.take_of_length_le (by simp[hk])]
 simp only[kc,h]
 rw[if_pos (jI ys),ga];rfl
theorem NG{n k:Nat} : ∀ y:ah,y.only (fun j => ![n].contains j)=true→iJ (fJ n k) y=y:=fun y hy=>by
 cases y <;>try rfl
 simp only[ah.only] at hy
 simp only[iJ,rI (jc (fun j hj=>by simpa using hj) _ hy)]
theorem NF{n:Nat} : ∀ y:ah,y.only (fun j => ![n].contains j)=true→iJ (fI n) y=y:=fun y hy=>by
 cases y <;>try rfl
 simp only[ah.only] at hy
 simp only[iJ,ze (jc (fun j hj=>by simpa using hj) _ hy)]
theorem NC{ts ts':List (Nat×I)}(h:∀ q∈ts',Abs.bO ts q.1=q.2):aT ts ts':=by
 induction ts' with
 |nil=>trivial
 |cons q ts' ih=>exact ⟨h q (by simp),ih fun q hq=>h q (by simp[hq])⟩
theorem J.jZ{W0:World}{D0:aP}{nn:Nat}{ow:Nat→Prop}{E1:aX}{Y:Value→List I→List (Nat×ah)→cV→Prop}{mP:Option Nat}{y:aN}{Q:Exit→ae→Prop}{ts:List (Nat×I)}{os:List (Nat×ah)}{a b d n:Nat}{xs:List Int}
  (hd:Abs.bO ts d=.own n xs.length) (hn:ak os n=some (.cU 3 xs)) (hlt:n<1000000) (hl:xs.length≤60) (ht:∀ t,nK n xs.length (Abs.bO ts t)) (ho:bg (fun j => ![n].contains j) (cE [n] os))
  (ts':List (Nat×I)) (h1:∀ q∈ts',q.1≠a∧q.1≠b∧Abs.bO ts q.1=q.2∧q.2.only (fun j=>j != n)=true)
  (hda:d≠a) (hdb:d≠b)
  (h:J ⟨Tryz.prog,W0,D0,nn,ow,E1,Y,mP⟩ y Q (ar ((d,enc (dX xs))::ts') (cE [n] os))) :
  J ⟨Tryz.prog,W0,D0,nn,ow,E1,Y,mP⟩ (.seq (.bT none [⟨some a,.mv (.t d),none⟩,⟨some b,.call 107 [.t a],none⟩]) y) Q (ar ts os):=by
 have hdrop:∀ m,ak (cE [n] os) m=if m=n then none else ak os m:=fun m=>by
  have:=mz [n] os m
  simpa using this
 have ho':∀ m y,ak os m=some y→m≠n→y.only (fun j=>j != n)=true:=fun m y hy hm=>by
  have:=ye ho m y (by rw[hdrop,if_neg hm];exact hy)
  exact uG (fun j hj=>by simpa using hj) this
 by_cases hx:xs=[]
 ·subst hx
  refine J.sub (az.NL hn (az.refl _)) ?_
  refine J.seq (J.bT (cl:=[]) (by rfl) fun K hK =>?_)
  have hd':Abs.bO (ts.map fun q=>(q.1,fI n q.2)) d=.nils 1:=by
   rw[pM _ rfl,hd];simp[fI]
  simp only[U,simprocAttr,hd']
  refine .flat _ (N7 _ (.inr rfl)) rfl ?_
  try simp only[U,simprocAttr]
  refine .done (hK _ ?_);clear hK K
  refine J.sub ((az.gU [n] d (x:=.nils 1) (y:=enc ([]:List Int)) ?_ (by rfl) ?_).trans (az.cJ ?_ fun m =>?_)) h
  ·simp only[Abs.bO,hda,hdb,if_false];exact hd'
  ·exact tS (k:=0) rfl (iJ (fI n)) NF ho
  ·refine ⟨by simp[Abs.bO,dX],NC fun q hq =>?_⟩
   obtain ⟨k1,k2,k3,k4⟩:=h1 q hq
   have hqd:q.1≠d:=fun e=>by
    rw[e,hd] at k3
    rw[←k3] at k4
    simp[I.only] at k4
   have h5:Abs.bO (ts.map fun p=>(p.1,fI n p.2)) q.1=q.2:=by
    rw[pM _ rfl,k3,ze k4]
   simp only[Abs.bO,Di,k1,k2,hqd,if_false,h5]
   rw[if_pos (jc (fun j hj=>by simpa using hj) _ k4)]
  ·rw[hdrop,mz,tt]
   by_cases hm:m=n
   ·simp[hm]
   ·cases h6:ak os m with
    |none=>simp[hm]
    |some y =>
     have h7:iJ (fI n) y=y:=NF _ (uG (fun j hj=>by simpa using hj) (ho' _ _ h6 hm))
     simp[hm,h7]
 ·refine J.NK hn hx hlt ht (fun m y hy hm=>.inr (ho' m y hy hm)) fun q =>?_
  refine J.seq (J.bT (cl:=[]) (by rfl) fun K hK =>?_)
  have hd':Abs.bO (ts.map fun p=>(p.1,fJ n xs.length p.2)) d=.view n [] 1 0 xs.length:=by
   rw[pM _ rfl,hd];simp[fJ]
  simp only[U,simprocAttr,hd']
  refine .bX false [(1000000,n)] (cz 1000000 (xs++List.replicate q 0)) [.view 1000000 [] 1 0 xs.length] _ rfl (N6 xs _ hl) ?_ ?_ ?_ ?_
  ·refine ⟨fun m y hy =>?_,fun m m' h h' _=>by rw[dw.1 h,dw.1 h']⟩
   simp only[cz,ak] at hy
   split at hy
   ·rename_i hm
    cases hy
    subst hm
    exact ⟨by simp only[bJ,if_true,ak,ah.aR,I.aR,jg],oz _ _,rfl⟩
   ·cases hy
  ·exact ⟨.inl ⟨by simp[I.aR,bJ],dw.2 rfl,rfl⟩,trivial⟩
  ·rintro eA os2 ⟨rfl,rfl⟩
   refine ⟨fun m y hy =>?_,fun m m' h h' _=>by rw[dw.1 h,dw.1 h'],fun m hm=>by rw[dw.1 hm];exact dw.2 rfl,fun m a b=>by rw[dw.1 a] at b;simp[cz,aq,ak] at b,rfl,fun _=>rfl⟩
   simp only[cz,ak] at hy
   split at hy
   ·cases hy;exact ⟨oz _ _,rfl,fun h=>by cases h⟩
   ·cases hy
  ·rintro eA os2 ⟨rfl,rfl⟩
   try simp only[cz,dN,List.map_cons,List.map_nil,ah.aR,I.aR,jg,bJ,reduceIte,List.cons_append,List.nil_append,I.cW,U,simprocAttr]
   refine .done (hK _ ?_);clear hK K
   refine J.sub ((az.gU [n] d (x:=.view n [] 1 0 xs.length) (y:=enc (dX xs)) ?_ ?_ ?_).trans (az.cJ ?_ fun m =>?_)) h
   ·simp only[Abs.bO,hda,hdb,if_false];exact hd'
   ·have:ak (fW [n] ((n,ah.box (I.agg ((dX xs++List.replicate q 0).map enc)))::(n,ah.box (I.agg ((xs++List.replicate q 0).map enc)))::os.map fun p=>(p.1,iJ (fJ n xs.length) p.2))) n=some (.box (.agg ((dX xs++List.replicate q 0).map enc))):=by
     rw[lP];simp[ak]
    try simp only[this,U,simprocAttr]
    exact vW (by simp[dX])
   ·have:=tS (k:=0) rfl (iJ (fJ n xs.length)) NG ho
    simpa[cE] using this
   ·refine ⟨by simp[Abs.bO],NC fun q hq =>?_⟩
    obtain ⟨k1,k2,k3,k4⟩:=h1 q hq
    have hqd:q.1≠d:=fun e=>by
     rw[e,hd] at k3
     rw[←k3] at k4
     simp[I.only] at k4
    have h5:Abs.bO (ts.map fun p=>(p.1,fJ n xs.length p.2)) q.1=q.2:=by
     rw[pM _ rfl,k3,rI k4]
    simp only[Abs.bO,Di,k1,k2,hqd,if_false,h5]
    rw[if_pos (jc (fun j hj=>by simpa using hj) _ k4)]
   ·rw[hdrop,mz]
    by_cases hm:m=n
    ·simp[hm]
    ·simp only[ak,if_neg hm,tt]
     cases h6:ak os m with
     |none=>simp[hm]
     |some y =>
      have h7:iJ (fJ n xs.length) y=y:=NG _ (uG (fun j hj=>by simpa using hj) (ho' _ _ h6 hm))
      simp[hm,h7]
def eZ(l:List au)(o:List Nat)(i:Nat):List aA×List Nat:=(o.take i).foldl (gP fo l) ([],[])
theorem yn{l:List au}{o:List Nat}{i:Nat}(h:i<o.length):eZ l o (i+1)=gP fo l (eZ l o i) (o.getD i 0):=by
 have e:o.getD i 0=o[i]:=by rw[List.getD_eq_getElem?_getD,List.getElem?_eq_getElem h];rfl
 simp only[eZ]
 rw[List.take_succ_eq_append_getElem h,List.foldl_append,e];rfl
theorem ym(l:List au)(o:List Nat):eZ l o o.length=iE fo l o:=by simp only[eZ,List.take_length];rfl
theorem P6{bs bs':List aA}{x:au}{n:Nat}(hs:∀ b∈bs,b.bu.length≤n)(h:c8 fo bs x=some bs'):bs'.length≤bs.length+1∧∀ b∈bs',b.bu.length≤n+1:=by
 simp only[c8] at h
 split at h
 ·split at h
  ·simp only[Option.some.injEq] at h
   subst h
   refine ⟨by simp[fo],fun b hb =>?_⟩
   simp only[fo,List.mem_append,List.mem_singleton] at hb
   rcases hb with hb | rfl
   ·exact Nat.le_succ_of_le (hs b hb)
   ·simp[fj]
  ·cases h
 ·split at h
  ·cases h
  ·rename_i b0 hb0
   simp only[Option.map_eq_some_iff] at h
   obtain ⟨b',hb',rfl⟩:=h
   refine ⟨by simp[l4],fun b hb =>?_⟩
   simp only[l4,List.mem_map] at hb
   obtain ⟨c,hc,rfl⟩:=hb
   split
   ·have h0:=hs b0 (xq hb0).1
    simp only[fy] at hb'
    repeat' split at hb'
    all_goals first
     |(cases hb';done)
     |(simp only[Option.some.injEq] at hb';subst hb';simp only[List.length_append,List.length_singleton];omega)
     |(simp only[Option.some.injEq] at hb';subst hb';simp only;omega)
   ·exact Nat.le_succ_of_le (hs c hc)
theorem tX(l:List au)(o:List Nat):∀ i,i≤o.length→((eZ l o i).1.map (·.no)).Nodup∧(eZ l o i).1.length≤i∧(∀ b∈(eZ l o i).1,b.bu.length≤i)∧(eZ l o i).2.length≤i
 |0,_=>⟨by simp[eZ],by simp[eZ],by simp[eZ],by simp[eZ]⟩
 |i+1,h=>by
  obtain ⟨h1,h2,h3,h4⟩:=tX l o i (by omega)
  rw[yn (by omega)]
  simp only[gP]
  split
  ·rename_i bs hb
   have:=P6 h3 hb
   exact ⟨Aa r6 h1 hb,by simp only;omega,this.2,by simp only;omega⟩
  ·exact ⟨h1,by simp only;omega,fun b hb=>Nat.le_succ_of_le (h3 b hb),by simp;omega⟩
theorem JO(B:Nat)(b:aA):∀ (bs:List aA) (i:Nat),eT B i (bs++[b])=eT B i bs++eT B (i+bs.length) [b]
 | [],i=>rfl
 |a::bs,i=>by
  simp only[List.cons_append,eT,JO B b bs (i+1),List.length_cons]
  rw[show i+1+bs.length=i+(bs.length+1) by omega]
theorem akI(B n:Nat):ed B (n+1)=ed B n++[.ptr (B+2+2*n) []]:=by
 simp only[ed,List.range_succ,List.map_append,List.map_cons,List.map_nil]
theorem qH{bs:List aA}{n:Nat}(h:¬ (n=43∨n=41∨(2002≤n∧n<2002+2*bs.length))):ak (dS bs) n=none:=by
 have:=xC (bs:=bs) (n:=n)
 rw[decide_eq_false h] at this
 simpa[aq] using this
theorem ahZ{bs:List aA}{n:Nat}(h:n=43∨n=41∨(2002≤n∧n<2002+2*bs.length)):∃ y,ak (dS bs) n=some y:=by
 have:=xC (bs:=bs) (n:=n)
 rw[decide_eq_true h] at this
 exact Option.isSome_iff_exists.1 this
theorem xT{bs bs':List aA}{z y:ah}(h:bs.length≤bs'.length)(n:Nat):ak (dS bs'++((900,z)::(dS bs++[(3,y)]))) n=ak ((900,z)::(dS bs'++[(3,y)])) n:=by
 simp only[ki,ak]
 by_cases h1:n=43∨n=41∨(2002≤n∧n<2002+2*bs'.length)
 ·obtain ⟨u,hu⟩:=ahZ h1
  have:n≠900:=by omega
  simp only[hu,this,if_false]
 ·have h2:ak (dS bs) n=none:=qH (by omega)
  simp only[qH h1,h2]
theorem aiG{bs:List aA}{z z' y:ah}(n:Nat):ak ((900,z')::(dS bs++((900,z)::(dS bs++[(3,y)])))) n=ak ((900,z')::(dS bs++[(3,y)])) n:=by
 have h:=xT (bs:=bs) (bs':=bs) (z:=z) (y:=y) (Nat.le_refl _) n
 by_cases hn:n=900
 ·simp only[ak,hn,if_true]
 ·simp only[ak,if_neg hn] at h ⊢
  rw[h]
theorem aiF{bs:List aA}{b:aA}{z y:ah}(hk:bs.length≤60)(hb:b.bu=[])(n:Nat) :
  ak ((2002+2*bs.length,.box (ef b (.own (2003+2*bs.length) 0)))::(2003+2*bs.length,.bW 66 6 [])::(nv bs b++((900,z)::(dS bs++[(3,y)])))) n=ak ((900,z)::(dS (bs++[b])++[(3,y)])) n:=by
 have hC:ak (dS (bs++[b])) n=if n=43 then some (.box (.agg [.mref 41])) else if n=41 then some (.cu (dp (bs++[b])) (ed 2000 bs.length++[.ptr (2002+2*bs.length) []])) else
   match ak (eT 2000 0 bs) n with
   |some u=>some u
   |none=>if n=2002+2*bs.length then some (.box (ef b (.own (2003+2*bs.length) 0))) else if n=2003+2*bs.length then some (.bW 66 6 []) else none:=by
  simp only[dS,ak,JO,ki,eT,hb,List.map_nil,List.length_nil,List.length_append,List.length_singleton,akI,Nat.zero_add]
  rfl
 have hL:ak (dS bs) n=if n=43 then some (.box (.agg [.mref 41])) else if n=41 then some (.cu (dp bs) (ed 2000 bs.length)) else ak (eT 2000 0 bs) n:=rfl
 have hlow:n<2002→ak (eT 2000 0 bs) n=none:=fun h=>tn 2000 bs 0 n (by omega)
 have hhigh:2002+2*bs.length≤n→ak (eT 2000 0 bs) n=none:=fun h=>tl 2000 bs 0 n (by omega)
 simp only[ak,ki,nv,List.cons_append,hC,hL]
 by_cases c1:n=2002+2*bs.length
 ·have d1:¬ n=900:=by omega
  have d2:¬ n=43:=by omega
  have d3:¬ n=41:=by omega
  rw[if_pos c1,if_neg d1,if_neg d2,if_neg d3,hhigh (by omega)]
  simp only[c1,if_true]
 by_cases c2:n=2003+2*bs.length
 ·have d1:¬ n=900:=by omega
  have d2:¬ n=43:=by omega
  have d3:¬ n=41:=by omega
  rw[if_neg c1,if_pos c2,if_neg d1,if_neg d2,if_neg d3,hhigh (by omega)]
  simp only[c2,if_true]
  rw[if_neg (by omega)]
 rw[if_neg c1,if_neg c2]
 by_cases c3:n=41
 ·have d1:¬ n=900:=by omega
  have d2:¬ n=43:=by omega
  rw[if_pos c3,if_neg d1,if_neg d2,if_pos c3]
 rw[if_neg c3,if_neg c1]
 by_cases j8:n=43
 ·have d1:¬ n=900:=by omega
  simp only[j8,if_true]
  simp
 rw[if_neg j8,if_neg j8]
 by_cases lv:n=900
 ·have:=hlow (by omega)
  subst lv
  simp[this]
 ·cases hq:ak (eT 2000 0 bs) n with
  |some u=>simp only[lv,c3,if_false]
  |none=>simp only[lv,c3,c1,c2,if_false]
theorem yf{p:Nat→Bool}{ns:List Nat} : ∀ {os:List (Nat×ah)},bg p os→bg p (cE ns os)
 | [],_=>trivial
 |(m,y)::os,h=>by
  simp only[cE,List.filter_cons]
  split
  ·exact ⟨h.1,yf h.2⟩
  ·exact yf h.2
theorem Kk{p:Nat→Bool} : ∀ {os os':List (Nat×ah)},bg p os→bg p os'→bg p (os++os')
 | [],_,_,h=>h
 |_::_,_,h,k=>⟨h.1,Kk h.2 k⟩
theorem JP{p:Nat→Bool}{B:Nat}(hp:∀ j,B≤j→p j=true):∀ (bs:List aA) (i:Nat),bg p (eT B i bs)
 | [],_=>trivial
 |b::bs,i=>⟨by simp[ah.only,ef,I.only,I.bV,hp _ (show B≤B+3+2*i by omega)],ec _ _,JP hp bs (i+1)⟩
theorem ahY{p:Nat→Bool}(hp:∀ j,2000≤j→p j=true)(h41:p 41=true)(bs:List aA):bg p (dS bs) :=
 ⟨by simp[ah.only,I.only,I.bV,h41],by simp only[ah.only,Bool.and_eq_true];exact ⟨ec _ _,yh _ fun i _=>hp _ (by omega)⟩,JP hp bs 0⟩
def gJ(bs:List aA):I:=.ref (.agg [.cT (dp bs) (bs.map fun b=>.ref (enc (⟨b⟩:eF)))])
theorem JU{f:I→Option I} : ∀ {xs ys:List I},xs.length=ys.length→(∀ (i:Nat) (x y:I),xs[i]?=some x→ys[i]?=some y→f x=some y)→fH f xs=some ys
 | [],[],_,_=>rfl
 |x::xs,y::ys,hl,h=>by
  have h1:=h 0 x y rfl rfl
  have h2:=JU (f:=f) (xs:=xs) (ys:=ys) (by simpa using hl) fun i a b ha hb=>h (i+1) a b ha hb
  simp only[fH,h1,h2]
theorem YE{A:ae}{bs:List aA}(hA:∀ m y,ak (dS bs) m=some y→A.o m=some y):bd true A (.ptr 43 [])=some (gJ bs):=by
 have h43:A.o 43=some (.box (.agg [.mref 41])):=hA _ _ rfl
 have h41:A.o 41=some (.cu (dp bs) (ed 2000 bs.length)):=hA _ _ rfl
 have hl:∀ k,k<bs.length→2002+2*k≠43∧2002+2*k≠41∧2003+2*k≠43∧2003+2*k≠41:=fun k hk=>by omega
 have hm:fH (dv A 7) (ed 2000 bs.length)=some (bs.map fun b=>.ref (enc (⟨b⟩:eF))):=by
  refine JU (by simp[ed]) fun i x y hx hy =>?_
  have hi:i<bs.length:=by
   have:=(List.getElem?_eq_some_iff.1 hx).1
   simpa[ed] using this
  rw[KF hi] at hx
  simp only[List.getElem?_map,List.getElem?_eq_getElem hi,Option.map_some,Option.some.injEq] at hx hy
  subst hx hy
  obtain ⟨q1,q2,q3,q4⟩:=hl i hi
  have h1:A.o (2000+2+2*i)=some (.box (ef bs[i] (.own (2000+3+2*i) (bs[i]).bu.length))):=hA _ _ (by
   simp only[dS,ak];rw[if_neg (by omega),if_neg (by omega)]
   have:=tm 2000 bs 0 i hi
   rwa [Nat.zero_add] at this)
  have h2:A.o (2000+3+2*i)=some (.bW 66 6 ((bs[i]).bu.map enc)):=hA _ _ (by
   simp only[dS,ak];rw[if_neg (by omega),if_neg (by omega)]
   have:=tp 2000 bs 0 i hi
   rwa [Nat.zero_add] at this)
  have h3:=mq (m:=3) h2
  have h4:cv A (.ptr (2000+2+2*i) [])=some (ef bs[i] (.own (2000+3+2*i) (bs[i]).bu.length)):=by
   simp only[cv,h1];exact m4 _
  rw[dv]
  simp only[I.bt,Bool.false_eq_true,if_false,h4]
  rw[h3];rfl
 have h5:dv A 8 (.mref 41)=some (.cT (dp bs) (bs.map fun b=>.ref (enc (⟨b⟩:eF)))):=by
  rw[dv]
  simp only[I.bt,Bool.false_eq_true,if_false,h41]
  rw[if_pos (show I.bY (dp bs)=true from jI _),hm];rfl
 have h6:dv A 9 (.agg [.mref 41])=some (.agg [.cT (dp bs) (bs.map fun b=>.ref (enc (⟨b⟩:eF)))]):=by
  rw[dv]
  simp only[I.bt,I.bY,Bool.and_true,Bool.false_eq_true,if_false,fH,h5,Option.map_some]
 simp only[bd,cv,h43,if_true,m4,I.bt,I.bY,Bool.and_true,Bool.false_eq_true,if_false,h6]
 rfl
def rj(l:List au)(day known:Int):I:=.tuple [gJ (iE fo l (fw l day known)).1,enc (dX (cm (iE fo l (fw l day known)).2))]
def PA(l:List au)(ord:List Int):ae:=ar [(3,.ptr 3 []),(9,.nils 1),(11,.ptr 43 []),(12,kG),(45,enc ord),(46,.int .i64 ord.length),(47,.int .i64 0)] [(43,.box (.agg [.mref 41])),(41,.cu [] []),(3,.box (enc l))]
def zS(l:List au)(o:List Nat)(i:Nat):ae:=ar [(3,.ptr 3 []),(9,.own 900 (cm (eZ l o i).2).length),(11,.ptr 43 []),(12,kG),(45,enc (cm o)),(46,.int .i64 (cm o).length),(47,.int .i64 i)] ((900,.cU 3 (cm (eZ l o i).2))::(dS (eZ l o i).1++[(3,.box (enc l))]))
theorem aia{xs:List Int}{i:Nat}(h:i<xs.length)(A:ae):iW A 1 (i:Int) (enc xs)=some (.ref (.int .i64 (xs.getD i 0))):=by
 rw[ew 1 (by omega) rfl,List.getD_eq_getElem?_getD,List.getElem?_eq_getElem h];rfl
noncomputable abbrev CQ (W0:World) (D0:aP) (E1:aX):cM := { P:=Tryz.prog,fc:=W0,D0:=D0,n:=Tryz.f88.ntmps,own:=dy E1,du:=E1,Y:=iA,mP:=none }
def NT:aN:=((aN.bT none sV).seq ((aN.cond (aK.t 48) aN.skip (aN.exit 2)).seq ((aN.block 3 ((aN.bT none xe).seq ((aN.bT CS sW).seq (aN.cond (aK.t 64) (aN.bT none IZ) aN.skip)))).seq (aN.bT none I0))))
def aml:aN:=(aN.bT none I1).seq ((aN.bT none I2).seq aN.ret)
theorem zM(l:List au)(day known:Int)(hok:dJ l=true){W0:World}{D0:aP}{E1:aX} : J (CQ W0 D0 E1) (.block 2 (.loop NT)) (al (fun B=>J (CQ W0 D0 E1) aml (jA [.tmp 6,.tmp 7] (rj l day known)) B) (jA [.tmp 6,.tmp 7] (rj l day known))) (PA l (pZ l day known)):=by
 have hl:=oE hok
 have hmem:∀ i∈fw l day known,i<l.length∧(ab l i).kind≠0:=fun i hi=>by
  have h1:=yk hi
  refine ⟨sy h1,?_⟩
  have:=(List.mem_filter.1 h1).2
  simp only[Bool.and_eq_true,decide_eq_true_eq] at this
  exact this.1
 have hol:(fw l day known).length≤60:=by rw[yj];exact Nat.le_trans (sx l day known) hl
 have hall:=ym l (fw l day known)
 simp only[rj,pZ,←hall]
 clear hall
 generalize fw l day known=o at hmem hol ⊢
 have htl:(cm o).length=o.length:=by simp[cm]
 refine J.block (J.loop (fun i:Nat=>zS l o i) (fun i=>i≤o.length) (fun i=>o.length-i) 0 (Nat.zero_le _) ?_ (fun i hi =>?_))
 ·refine az.zV 9 900 3 1 rfl rfl ?_
  refine az.cJ ?_ (fun n =>?_)
  ·simp[aT,aU,eZ,cm]
  ·simp only[eZ,cm,List.take_zero,List.foldl_nil,List.map_nil,dS,eT,ed,dp,List.length_nil,List.range_zero,List.cons_append,List.nil_append]
 obtain ⟨hnd,hbl,hsl,hvl⟩:=tX l o i hi
 simp only[zS,NT]
 have n3:ak ((900,.cU 3 (cm (eZ l o i).2))::(dS (eZ l o i).1++[(3,.box (enc l))])) 3=some (.box (enc l)):=by
  simp only[ak,ki]
  rw[qH (by omega)];rfl
 by_cases hlt:i<o.length
 ·have hc:decide ((i:Int)<((cm o).length:Int))=true:=by rw[htl];exact fX hlt
  have hw:=fk (i:=i) (by omega)
  have hst:=yn (l:=l) hlt
  generalize eZ l o i=s at *
  obtain ⟨bs,vd⟩:=s
  simp only at hnd hbl hsl hvl n3 hst ⊢
  obtain ⟨j,hj⟩:∃ j,j=o.getD i 0:=⟨_,rfl⟩
  have hjm:j∈o:=by
   rw[hj,List.getD_eq_getElem?_getD,List.getElem?_eq_getElem hlt];exact List.getElem_mem hlt
  obtain ⟨hjl,hjk⟩:=hmem j hjm
  rw[←hj] at hst
  have he:=ic hjl
  have hi2:∀ A,iW A 1 (i:Int) (enc (cm o))=some (.ref (.int .i64 (j:Int))):=fun A=>by
   rw[aia (by omega),hj]
   congr 3
   simp[cm,List.getD_eq_getElem?_getD,List.getElem?_eq_getElem hlt]
  obtain ⟨f,hf1,hf2,hf3⟩:=vD (bs:=bs) (qZ hok hjl) hjk hnd (fun b hb=>by have:=hsl b hb;omega)
  have hmo:∀ A,gw A kG=some (ng,nh):=fun A=>rfl
  refine .ao (by decide +kernel) fun K hK =>?_
  simp only[sV,U,simprocAttr]
  simp only[hc]
  refine .done (hK _ ?_);clear hK K
  refine J.seq ?_
  refine J.bI ?_
  simp only[aj,U,simprocAttr]
  refine ⟨fun h =>?_,fun h =>?_⟩
  case refine_2=>cases h
  refine J.skip ?_;try simp only[al,simprocAttr]
  refine J.seq (J.block ?_)
  refine .ao (by decide +kernel) fun K hK =>?_
  simp only[xe,U,simprocAttr]
  try simp only[hi2,U,simprocAttr]
  refine .done (hK _ ?_);clear hK K
  refine J.seq (J.rq (gs:=sW) [172,173,174,175,176,177] [] [0,1,2,3,4,5,6,7,8,9,10,11,12,13] (by decide +kernel) (en.of trivial) fun K hK =>?_)
  try simp only[lT,sW,List.getD_cons_zero,List.getD_cons_succ,n3,he,hmo,hf1,cD,ez,aL,U,simprocAttr]
  have hlo:∀ bs',bs.length≤bs'.length→ak (dS bs'++((900,.cU 3 (cm vd))::(dS bs++[(3,.box (enc l))]))) 900=some (.cU 3 (cm vd)):=fun bs' h=>by
   rw[xT h];rfl
  have htv:(cm vd).length=vd.length:=by simp[cm]
  have hap:=fun (A:ae) d rest=>u4 (A:=A) (d:=d) (e:=3) (bytes:=8) (n:=900) (l:=(cm vd).length) (xs:=cm vd) (y:=(j:Int)) (rest:=rest) rfl (by simp[cm,maxLen];omega) (by simp[cm];omega)
  refine b9.vD (by omega) hf2 hf3 rfl (fun hb =>?_) (fun bs' hb hk =>?_) (fun hb =>?_)
  ·have hs2:eZ l o (i+1)=(bs,vd++[j]):=by rw[hst];simp only[gP,hb]
   have h900:=hlo bs (Nat.le_refl _)
   try simp only[U,simprocAttr]
   have R:=And.intro @h900 (And.intro @hap (And.intro @cD (And.intro @bx (And.intro @aL @U))))
   repeat' ((first
    |(with_reducible refine .guard (fun hb =>?_) (fun hb =>?_) <;>try simp only[hb])
    |refine J.aI (by decide +kernel) rfl fun K hK =>?_
    |(refine .aD [0,1,2,3,4,6,7,8,9,10,11,12,14,17,18,33,45,46,47,48,64] hK ?_;clear hK K)
    |(with_reducible refine .done (hK _ ?_);clear hK K)
    |refine J.of rfl ?_
    |(with_reducible refine aj.aH (fun h =>?_) (fun h =>?_) <;>try simp only[h])) <;>try simp only[aJ,R,simprocAttr])
   all_goals clear R
   refine ⟨i+1,by omega,by omega,?_⟩
   rw[hs2,hw]
   have e:cm (vd++[j])=cm vd++[(j:Int)]:=by simp[cm]
   simp only[e]
   refine az.cJ ?_ (fun n=>aiG n)
   simp[aT,aU]
  ·have hs2:eZ l o (i+1)=(bs',vd):=by rw[hst];simp only[gP,hb]
   try simp only[U,simprocAttr]
   have R:=And.intro @cD (And.intro @bx (And.intro @aL @U))
   repeat' ((first
    |(with_reducible refine .guard (fun hb =>?_) (fun hb =>?_) <;>try simp only[hb])
    |refine J.aI (by decide +kernel) rfl fun K hK =>?_
    |(refine .aD [0,1,2,3,4,6,7,8,9,10,11,12,14,17,18,33,45,46,47,48,64] hK ?_;clear hK K)
    |(with_reducible refine .done (hK _ ?_);clear hK K)
    |refine J.of rfl ?_
    |(with_reducible refine aj.aH (fun h =>?_) (fun h =>?_) <;>try simp only[h])) <;>try simp only[aJ,R,simprocAttr])
   all_goals clear R
   refine ⟨i+1,by omega,by omega,?_⟩
   rw[hs2,hw]
   refine az.cJ ?_ (fun n=>xT (Nat.le_of_eq (u6 hk hb).symm) n)
   simp[aT,aU]
  ·have hs2:eZ l o (i+1)=(bs++[fj (ab l j)],vd):=by rw[hst];simp only[gP,hb]
   try simp only[U,simprocAttr]
   have R:=And.intro @cD (And.intro @bx (And.intro @aL @U))
   repeat' ((first
    |(with_reducible refine .guard (fun hb =>?_) (fun hb =>?_) <;>try simp only[hb])
    |refine J.aI (by decide +kernel) rfl fun K hK =>?_
    |(refine .aD [0,1,2,3,4,6,7,8,9,10,11,12,14,17,18,33,45,46,47,48,64] hK ?_;clear hK K)
    |(with_reducible refine .done (hK _ ?_);clear hK K)
    |refine J.of rfl ?_
    |(with_reducible refine aj.aH (fun h =>?_) (fun h =>?_) <;>try simp only[h])) <;>try simp only[aJ,R,simprocAttr])
   all_goals clear R
   refine ⟨i+1,by omega,by omega,?_⟩
   rw[hs2,hw]
   refine az.PL (2002+2*bs.length) (2003+2*bs.length) 66 6 6 [0,8] (ef (fj (ab l j)) (.nils 6)) ?_ rfl ?_ ?_ (by omega)
   ·have:¬ 2002+2*bs.length=41:=by omega
    simp[nv,ak,this]
   ·have h1:¬ 2003+2*bs.length=41:=by omega
    have h2:¬ 2003+2*bs.length=2002+2*bs.length:=by omega
    have h3:¬ 2003+2*bs.length=900:=by omega
    have h4:¬ 2003+2*bs.length=3:=by omega
    have h5:ak (dS bs) (2003+2*bs.length)=none:=qH (by omega)
    simp only[nv,List.cons_append,ak,ki,h1,h2,h3,h4,h5,if_false]
   ·refine az.cJ ?_ (fun n=>aiF (by omega) rfl n)
    simp[aT,aU]
 ·have hio:i=o.length:=by omega
  subst hio
  have hc:decide ((o.length:Int)<((cm o).length:Int))=false:=by simp[htl]
  refine .ao (by decide +kernel) fun K hK =>?_
  simp only[sV,U,simprocAttr]
  try simp only[hc,simprocAttr]
  refine .done (hK _ ?_);clear hK K
  refine J.seq ?_
  refine J.bI ?_
  simp only[aj,U,simprocAttr]
  refine ⟨fun h =>?_,fun h =>?_⟩
  case refine_1=>cases h
  refine J.exit ?_;try simp only[al,bP,simprocAttr]
  generalize eZ l o o.length=s at *
  obtain ⟨bs,vd⟩:=s
  simp only at hnd hbl hsl hvl ⊢
  have htv:(cm vd).length=vd.length:=by simp[cm]
  have hw2:∀ t,nK 900 (cm vd).length (Abs.bO [(48,I.bool false),(3,.ptr 3 []),(9,.own 900 (cm vd).length),(11,.ptr 43 []),(12,kG),(45,enc (cm o)),(46,.int .i64 ((cm o).length:Int)),(47,.int .i64 (o.length:Int))] t):=tR (by simp[nK,I.only,br,kG,I.bV])
  refine J.jZ (a:=70) (b:=71) (d:=9) (n:=900) (xs:=cm vd) rfl rfl (by decide) (by omega) hw2 ?_ [(11,.ptr 43 [])] ?_ (by decide) (by decide) ?_
  ·refine yf ⟨rfl,Kk (ahY (fun j hj=>by simp;omega) (by decide) bs) ⟨br _ _,trivial⟩⟩
  ·simp[Abs.bO,I.only]
  ·have hfin:=fun (ts:List (Nat×I))=>YE (A:=ar ts (cE [900] ((900,.cU 3 (cm vd))::(dS bs++[(3,.box (enc l))])))) (bs:=bs) (fun m y hy=>by
    have:m≠900:=fun e=>by
     rw[e,qH (by omega)] at hy;cases hy
    simp only[ar,mz]
    simp[ak,this,ki,hy])
   have R:=And.intro @hfin (And.intro @bx (And.intro @aL @U))
   repeat' ((first
    |(with_reducible refine .guard (fun hb =>?_) (fun hb =>?_) <;>try simp only[hb])
    |refine J.aI (by decide +kernel) rfl fun K hK =>?_
    |(refine .aD [0,1,2,3,4,6,7,8,9,10,11,12,14,17,18,33,45,46,47,48,64] hK ?_;clear hK K)
    |(with_reducible refine .done (hK _ ?_);clear hK K)
    |refine J.of rfl ?_
    |(with_reducible refine aj.aH (fun h =>?_) (fun h =>?_) <;>try simp only[h])) <;>try simp only[aJ,R,simprocAttr])
   all_goals clear R
theorem alB{xs ys:List Int}(h:xs.Perm ys):dX xs=dX ys:=by
 unfold dX
 have hx:=List.pairwise_mergeSort (le:=fun x y:Int=>decide (x≤y)) (by intro a b c;simp;omega) (by intro a b;simp;omega) xs
 have hy:=List.pairwise_mergeSort (le:=fun x y:Int=>decide (x≤y)) (by intro a b c;simp;omega) (by intro a b;simp;omega) ys
 refine List.Perm.eq_of_pairwise (fun a b _ _ h k =>?_) hx hy ((List.mergeSort_perm _ _).trans (h.trans (List.mergeSort_perm _ _).symm))
 simp only[decide_eq_true_eq] at h k;omega
theorem ai8{A:ae}{d:Option Nat}{n:Nat}{rest:List aB}{ks vs:List I}{cur:Option Nat} : pV A d n rest (some (.it ks vs [] cur))=ay rest (A.aO d (.tuple [.bool false])):=by
 simp only[pV,if_true]
theorem bj.jx{P:Program}{Y:Value→List I→List (Nat×ah)→cV→Prop}{K:ae→Prop}{A:ae}{d:Option Nat}{n:Nat}{rest:List aB}{ks vs:List I}{left:List Nat}{cur:Option Nat}(hl:left≠[])
  (h:∀ i,i∈left→∃ kk x,ks[i]?=some kk∧vs[i]?=some x∧bj P Y false K (ay rest ((A.aM n (.it ks vs (left.filter (· != i)) (some i))).aO d (.tuple [.bool true,kk,x])))) :
  bj P Y false K (pV A d n rest (some (.it ks vs left cur))):=by
 simp only[pV,if_neg hl]
 refine .any rfl fun i hi =>?_
 obtain ⟨kk,x,h1,h2,h3⟩:=h i hi
 simp only[h1,h2]
 exact h3
def jd(bs:List aA)(p:aA→Bool)(aD:List Nat):List Int:=((aD.map fun i=>bs.getD i default).filter p).map (·.no)
theorem akA(bs:List aA)(p:aA→Bool)(aD:List Nat)(i:Nat):jd bs p (aD++[i])=jd bs p aD++if p (bs.getD i default) then [(bs.getD i default).no] else []:=by
 simp only[jd,List.map_append,List.filter_append,List.map_cons,List.map_nil,List.filter_cons,List.filter_nil]
 congr 1
 split <;>rfl
theorem Kz(bs:List aA)(p:aA→Bool)(aD:List Nat):(jd bs p aD).length≤aD.length:=by
 simp only[jd,List.length_map]
 exact Nat.le_trans (List.length_filter_le _ _) (by simp)
theorem akz{bs:List aA}{p:aA→Bool}{aD:List Nat}(h:aD.Perm (List.range bs.length)):(jd bs p aD).Perm ((bs.filter p).map (·.no)):=by
 have e:(List.range bs.length).map (fun i=>bs.getD i default)=bs:=by
  refine List.ext_getElem (by simp) fun i h1 h2 =>?_
  simp[List.getD_eq_getElem?_getD,h2]
 simp only[jd]
 refine List.Perm.map _ ?_
 have:=(h.map fun i=>bs.getD i default).filter p
 rwa [e] at this
theorem akg(p:Nat→Bool)(bs:List aA):I.bV p (bs.map fun b=>.ref (enc (⟨b⟩:eF)))=true:=by
 induction bs with
 |nil=>rfl
 |cons b bs ih=>simp only[List.map_cons,I.bV,I.only,br,ih,Bool.and_self]
def zR(bs:List aA)(p:aA→Bool)(f:FuncId)(caps:List I)(s:List Nat×List Nat×Option Nat):ae :=
 ar [(1,.func f caps),(5,.own 905 (jd bs p s.1).length),(12,.dx 12)] [(12,.it (dp bs) (bs.map fun b=>.ref (enc (⟨b⟩:eF))) s.2.1 s.2.2),(905,.cU 3 (jd bs p s.1))]
theorem uQ(bs:List aA)(hn:bs.length≤60)(f:FuncId)(caps:List I)(hcaps:I.eQ caps=true)(p:aA→Bool)(hf:∀ b∈bs,aw Tryz.prog f (.ref (enc (⟨b⟩:eF))::caps) (enc (p b))) :
  aw Tryz.prog 72 [gJ bs,.func f caps] (enc (dX ((bs.filter p).map (·.no)))):=by
 refine aw.bp Tryz.func72 Si Uj Wq (Nat.le_of_ble_eq_true rfl) (fun hwf W0 D0 E1 =>?_)
 simp only[B4,Mg,a6,Nat.zero_add]
 clear hwf
 have hcl:I.bY caps=true:=kH caps hcaps
 have hfc:∀ aC A,bZ aC A caps=some caps:=fun aC A=>kJ aC A caps hcaps
 have hon:∀ q,I.bV q caps=true:=fun q=>kl q caps hcl
 refine .ao (by decide +kernel) fun K hK =>?_
 simp only[II,U,simprocAttr]
 refine .done (hK _ ?_);clear hK K
 refine .ao (by decide +kernel) fun K hK =>?_
 simp only[IJ,U,simprocAttr]
 refine .done (hK _ ?_);clear hK K
 refine J.seq (J.seq ?_)
 refine .bD (by decide +kernel) fun K hK =>?_
 simp only[IK,U,simprocAttr]
 try simp only[gJ,cD,ez,aL,U,simprocAttr]
 refine .done (hK _ ?_);clear hK K;try simp only[al]
 refine J.block (J.loop (zR bs p f caps) (fun s=>(s.1++s.2.1).Perm (List.range bs.length)) (fun s=>s.2.1.length) ([],List.range bs.length,none) (by simp) ?_ ?_)
 ·refine az.zV 5 905 3 1 rfl rfl ?_
  refine az.cJ ?_ (fun n =>?_)
  ·simp[aT,aU,jd]
  ·simp only[jd,List.map_nil,List.filter_nil,cw,tr,dp,List.length_map]
   (repeat' split) <;>simp_all
 rintro ⟨aD,left,cur⟩ hC
 simp only at hC
 have hlen:aD.length+left.length=bs.length:=by simpa using hC.length_eq
 have hpl:=Kz bs p aD
 simp only[zR]
 by_cases hl:left=[]
 ·subst hl
  refine .ao (by decide +kernel) fun K hK =>?_
  simp only[xd,U,simprocAttr]
  try simp only[ez,ai8,U,simprocAttr]
  refine .done (hK _ ?_);clear hK K
  refine J.seq ?_
  refine J.bI ?_
  simp only[aj,U,simprocAttr]
  refine ⟨fun h =>?_,fun h =>?_⟩
  case refine_1=>cases h
  refine J.exit ?_;try simp only[al,bP,simprocAttr]
  have hdn:(jd bs p aD).Perm ((bs.filter p).map (·.no)):=akz (by simpa using hC)
  rw[←alB hdn]
  generalize jd bs p aD=xs at hpl
  refine J.jZ (a:=25) (b:=26) (d:=5) (n:=905) (xs:=xs) rfl rfl (by decide) (by omega) (tR (by simp[nK,I.only,I.bV,hon])) (by simp only[cE,dp,List.filter_cons,List.filter_nil,List.contains_cons];simp[bg,ah.only,ec,akg,-List.map_map]) [] (by simp) (by decide) (by decide) ?_
  have R:=And.intro @aL @U
  repeat' ((first
   |(with_reducible refine .guard (fun hb =>?_) (fun hb =>?_) <;>try simp only[hb])
   |refine J.aI (by decide +kernel) rfl fun K hK =>?_
   |(refine .aD [0,1,4,5,6,7,12,14,20] hK ?_;clear hK K)
   |(with_reducible refine .done (hK _ ?_);clear hK K)
   |refine J.of rfl ?_
   |(with_reducible refine aj.aH (fun h =>?_) (fun h =>?_) <;>try simp only[h])) <;>try simp only[aJ,R,simprocAttr])
  all_goals clear R
 ·refine .ao (by decide +kernel) fun K hK =>?_
  simp only[xd,U,simprocAttr]
  try simp only[ez,U,simprocAttr]
  refine bj.jx hl fun i hi =>?_
  have hib:i<bs.length:=List.mem_range.1 (hC.mem_iff.1 (by simp[hi]))
  refine ⟨enc (bs[i]).no,.ref (enc (⟨bs[i]⟩:eF)),by simp[dp,hib],by simp[hib],?_⟩
  have hx:bs.getD i default=bs[i]:=by simp[List.getD_eq_getElem?_getD,hib]
  try simp only[U,simprocAttr]
  refine .done (hK _ ?_);clear hK K
  refine J.seq ?_
  refine J.bI ?_
  simp only[aj,U,simprocAttr]
  refine ⟨fun h =>?_,fun h =>?_⟩
  case refine_2=>cases h
  refine J.skip ?_;try simp only[al,simprocAttr]
  refine J.block ?_
  have hent:py (dp bs) (bs.map fun b=>.ref (enc (⟨b⟩:eF))) (some i)=some (.tuple [.int .i64 (bs[i]).no,.ref (enc (⟨bs[i]⟩:eF))]):=by
   simp[py,dp,hib,iw]
  have hsn:=akA bs p aD i
  have hps:=Kz bs p (aD++[i])
  have hpl2:(left.filter (· != i)).length<left.length:=by
   rcases Nat.lt_or_ge (left.filter (· != i)).length left.length with h | h
   ·exact h
   ·have:=List.filter_eq_self.1 (List.Sublist.eq_of_length_le List.filter_sublist h) i hi
    simp at this
  have hnd:left.Nodup:=(List.nodup_append.1 (hC.nodup_iff.2 List.nodup_range)).2.1
  have hC2:((aD++[i])++left.filter (· != i)).Perm (List.range bs.length):=by
   have h1:left.Perm (i::left.filter (· != i)):=by
    have h2:(left.filter (· == i)).length=1:=by
     have:=List.nodup_iff_count.1 hnd i
     have h3:=List.count_pos_iff.2 hi
     have h4:left.count i=(left.filter (· == i)).length:=by rw[List.count,List.countP_eq_length_filter]
     omega
    have h5:left.filter (· == i)=[i]:=by
     obtain ⟨a,ha⟩:=List.length_eq_one_iff.1 h2
     have:a∈left.filter (· == i):=by rw[ha];simp
     have:=(List.mem_filter.1 this).2
     simp at this
     rw[ha,this]
    have h6:=(List.filter_append_perm (· == i) left).symm
    rw[h5] at h6
    exact h6
   refine List.Perm.trans ?_ hC
   rw[List.append_assoc]
   exact (h1.symm).append_left aD
  refine .ao (by decide +kernel) fun K hK =>?_
  simp only[IL,U,simprocAttr]
  try simp only[hent,ez,aL,U,simprocAttr]
  refine .done (hK _ ?_);clear hK K
  refine .ao (by decide +kernel) fun K hK =>?_
  simp only[IM,U,simprocAttr]
  try simp only[List.cons_append,List.nil_append,hfc,kE,U,simprocAttr]
  refine .flat _ (hf _ (List.getElem_mem hib)) rfl ?_
  try simp only[U,simprocAttr]
  refine .done (hK _ ?_);clear hK K
  have hap:=fun (A:ae) d rest=>u4 (A:=A) (d:=d) (e:=3) (bytes:=8) (n:=905) (l:=(jd bs p aD).length) (xs:=jd bs p aD) (y:=(bs[i]).no) (rest:=rest) rfl (by simp[maxLen];omega) (by omega)
  rw[hx] at hsn
  rcases hpb:p bs[i]
  ·rw[hpb,if_neg (by decide),List.append_nil] at hsn
   have R:=And.intro @hpb (And.intro @aL @U)
   repeat' ((first
    |(with_reducible refine .guard (fun hb =>?_) (fun hb =>?_) <;>try simp only[hb])
    |refine J.aI (by decide +kernel) rfl fun K hK =>?_
    |(refine .aD [0,1,4,5,6,7,12,14,20] hK ?_;clear hK K)
    |(with_reducible refine .done (hK _ ?_);clear hK K)
    |refine J.of rfl ?_
    |(with_reducible refine aj.aH (fun h =>?_) (fun h =>?_) <;>try simp only[h])) <;>try simp only[aJ,R,simprocAttr])
   all_goals clear R
   refine ⟨(aD++[i],left.filter (· != i),some i),hC2,hpl2,?_⟩
   simp only[hsn]
   refine az.cJ ?_ (fun n =>?_)
   ·simp[aT,aU]
   ·simp only[cw,tr];(repeat' split) <;>simp_all
  ·rw[hpb,if_pos rfl] at hsn
   have R:=And.intro @hpb (And.intro @hap (And.intro @aL @U))
   repeat' ((first
    |(with_reducible refine .guard (fun hb =>?_) (fun hb =>?_) <;>try simp only[hb])
    |refine J.aI (by decide +kernel) rfl fun K hK =>?_
    |(refine .aD [0,1,4,5,6,7,12,14,20] hK ?_;clear hK K)
    |(with_reducible refine .done (hK _ ?_);clear hK K)
    |refine J.of rfl ?_
    |(with_reducible refine aj.aH (fun h =>?_) (fun h =>?_) <;>try simp only[h])) <;>try simp only[aJ,R,simprocAttr])
   all_goals clear R
   refine ⟨(aD++[i],left.filter (· != i),some i),hC2,hpl2,?_⟩
   simp only[hsn]
   refine az.cJ ?_ (fun n =>?_)
   ·simp[aT,aU]
   ·simp only[cw,tr];(repeat' split) <;>simp_all
theorem Ad{aC:Bool}{A0:ae}{os:List (Nat×ah)} : ∀ xs:List I,(∀ x∈xs,x.only (aq os)=true∧x.cq=true)→jq aC A0 [] os xs xs
 | [],_=>trivial
 |x::xs,h=>⟨.inl ⟨(lW (ρ:=bJ []) (fun _=>rfl) x).symm,(h x (by simp)).1,(h x (by simp)).2⟩,Ad xs fun y hy=>h y (by simp[hy])⟩
theorem alm(ts:List (Nat×I))(k:Nat)(a b:List Int):ar ts (cz k a++cz k b)=ar ts (cz k a):=by
 simp only[ar];congr 1;funext n
 simp only[cz,List.cons_append,List.nil_append,ak]
 split <;>rfl
theorem bj.kW{K:ae→Prop}{f:FuncId}{avs:List I}{a1 a2:Option (List I)}{dst:Option Nat}{rest:List aB}{ts:List (Nat×I)}{ws:List Int}{post:cV}(hc:cH Tryz.prog f avs (cz 1000000 ws) post)(hav:∀ x∈avs,x.only (aq (cz 1000000 ws))=true∧x.cq=true)
  (h:∀ r os',post r os'→∃ ws',os'=cz 1000000 ws'∧r=.tuple []∧bj Tryz.prog iA false K (ay rest ((ar ts (cz 1000000 ws')).aO dst (.tuple [])))):bj Tryz.prog iA false K (.call f avs a1 a2 dst rest (ar ts (cz 1000000 ws))):=by
 refine .bX false [] (cz 1000000 ws) avs post rfl hc ⟨fun m y hy =>?_,fun m m' _ _ h=>h⟩ (Ad avs hav) ?_ ?_
 ·rw[ah.lW (ρ:=bJ []) (fun n=>rfl)]
  refine ⟨hy,?_⟩
  simp only[cz,ak] at hy
  split at hy
  ·cases hy;exact ⟨oz _ _,rfl⟩
  ·cases hy
 ·intro r os' hp
  obtain ⟨ws',rfl,rfl,_⟩:=h r os' hp
  refine ⟨fun m y hy =>?_,fun m m' _ _ h=>h,fun m hm=>by rw[dw.1 hm];exact dw.2 rfl,fun m a b=>by rw[dw.1 a] at b;simp[cz,aq,ak] at b,rfl,fun h=>by cases h⟩
  simp only[cz,ak] at hy
  split at hy
  ·cases hy;exact ⟨oz _ _,rfl,fun h=>by cases h⟩
  ·cases hy
 ·intro r os' hp
  obtain ⟨ws',rfl,rfl,hw⟩:=h r os' hp
  rw[uh,alm]
  exact hw
theorem kB(ws:List Int)(n:Nat)(f:FuncId)(caps:List I)(hcl:I.bY caps=true)(L:List Int):∀ x∈.view 1000000 [] 1 0 n::(L.map enc++[.func f caps]),x.only (aq (cz 1000000 ws))=true∧x.cq=true:=by
 intro x hx
 simp only[List.mem_cons,List.mem_append,List.mem_map,List.not_mem_nil,or_false] at hx
 rcases hx with rfl | ⟨y,_,rfl⟩ | rfl
 ·exact ⟨dw.2 rfl,rfl⟩
 ·exact ⟨br _ _,dG _⟩
 ·exact ⟨jS _ _ (by simpa[I.bt] using hcl),rfl⟩
structure Pw where
 p:List Int
 u:List Int
 v:List Int
 q:List Int
theorem O6(p u v q:List Int)(a m b n:Nat)(f:FuncId)(caps:List I)(hcl:I.bY caps=true)(ha:p.length=a)(hm:a+u.length=m)(hb:m+v.length=b)(hu:0<u.length)(hv:0<v.length)(hn:b≤n)(hN:n≤1000) :
  cH Tryz.prog 213 [.view 1000000 [] 1 0 n,enc (a:Int),enc (m:Int),enc (b:Int),.func f caps] (cz 1000000 (p++u++v++q)) (yL (p++v++u++q)):=by
 refine cH.bp Tryz.func213 RZ TY V7 (Nat.le_of_ble_eq_true rfl) (Nat.le_of_ble_eq_true rfl) nR (fun hwf W0 D0 E1 =>?_)
 simp only[BK,LY,a6,Nat.zero_add,Nat.reduceAdd]
 clear hwf
 have w1:=iK (x:=m) (y:=a) (by omega) (by omega)
 have w2:=iK (x:=b) (y:=m) (by omega) (by omega)
 refine .ao (by decide +kernel) fun K hK =>?_
 simp only[H3,U,simprocAttr]
 try simp only[w1,simprocAttr]
 refine .done (hK _ ?_);clear hK K
 refine .ao (by decide +kernel) fun K hK =>?_
 simp only[H4,U,simprocAttr]
 try simp only[w2,simprocAttr]
 refine .done (hK _ ?_);clear hK K
 refine J.seq (J.block (J.loop (fun s:Pw=>ar [(0,.view 1000000 [] 1 0 n),(2,.int .i64 m),(4,.func f caps),(10,.int .i64 s.u.length),(11,.int .i64 s.v.length)] (cz 1000000 (s.p++s.u++s.v++s.q))) (fun s=>0<s.u.length∧0<s.v.length∧s.p.length+s.u.length=m∧m+s.v.length≤b∧s.p++s.v++s.u++s.q=p++v++u++q) (fun s=>s.u.length+s.v.length) ⟨p,u,v,q⟩ ⟨hu,hv,by simp only;omega,by simp only;omega,rfl⟩ ?_ ?_))
 ·have e1:m-a=u.length:=by omega
  have e2:b-m=v.length:=by omega
  simp only[e1,e2]
  refine az.cJ ?_ (fun n=>rfl)
  simp[aT,aU]
 rintro ⟨p1,u1,v1,q1⟩ ⟨g1,g2,g3,g4,g5⟩
 simp only at g1 g2 g3 g4 g5 ⊢
 refine J.seq (J.seq ?_)
 refine .bD (by decide +kernel) fun K hK =>?_
 simp only[H5,U,simprocAttr]
 refine .done (hK _ ?_);clear hK K;try simp only[al]
 refine J.bI ?_
 simp only[aj,U,simprocAttr]
 refine ⟨fun h =>?_,fun h =>?_⟩
 ·have hne:u1.length≠v1.length:=fun e=>by rw[e] at h;simp at h
  refine J.skip ?_;try simp only[al,simprocAttr]
  refine J.block (J.seq ?_)
  refine .bD (by decide +kernel) fun K hK =>?_
  simp only[H6,U,simprocAttr]
  refine .done (hK _ ?_);clear hK K;try simp only[al]
  refine J.bI ?_
  simp only[aj,U,simprocAttr]
  refine ⟨fun h =>?_,fun h =>?_⟩
  ·have hgt:v1.length<u1.length:=by simp at h;omega
   have w3:=iK (x:=m) (y:=u1.length) (by omega) (by omega)
   have w4:=iK (x:=u1.length) (y:=v1.length) (by omega) (by omega)
   have hs:u1=u1.take v1.length++u1.drop v1.length:=(List.take_append_drop _ _).symm
   have ht:(u1.take v1.length).length=v1.length:=by rw[List.length_take];omega
   have hd:(u1.drop v1.length).length=u1.length-v1.length:=by rw[List.length_drop]
   have hc:=uN p1 (u1.take v1.length) (u1.drop v1.length) v1 q1 (m-u1.length) m n v1.length (.func f caps) (by omega) (by omega) (by omega) (by omega) (by omega) hN
   rw[List.append_assoc p1,←hs] at hc
   refine .ao (by decide +kernel) fun K hK =>?_
   simp only[H7,U,simprocAttr]
   try simp only[w3,simprocAttr]
   refine bj.kW hc (kB _ n f caps hcl [_,_,_]) ?_
   rintro r os' ⟨rfl,rfl⟩
   refine ⟨_,rfl,rfl,?_⟩
   try simp only[U,simprocAttr]
   refine .done (hK _ ?_);clear hK K
   refine .bD (by decide +kernel) fun K hK =>?_
   simp only[H8,U,simprocAttr]
   try simp only[w4,simprocAttr]
   refine .done (hK _ ?_);clear hK K;try simp only[al,bP]
   refine ⟨⟨p1++v1,u1.drop v1.length,u1.take v1.length,q1⟩,⟨by simp only;omega,by simp only;omega,by simp only[List.length_append];omega,by simp only;omega,?_⟩,by simp only;omega,?_⟩
   ·simp only
    rw[←g5]
    conv=>rhs;rw[hs]
    simp only[List.append_assoc]
   ·simp only[hd,ht]
    refine az.cJ ?_ (fun n=>rfl)
    simp[aT,aU]
  ·have hlt:u1.length<v1.length:=by simp at h;omega
   have w3:=iK (x:=m) (y:=u1.length) (by omega) (by omega)
   have w4:=iK (x:=v1.length) (y:=u1.length) (by omega) (by omega)
   have w5:=lb m v1.length (by omega)
   have w6:=iK (x:=m+v1.length) (y:=u1.length) (by omega) (by omega)
   have hs:v1=v1.take (v1.length-u1.length)++v1.drop (v1.length-u1.length):=(List.take_append_drop _ _).symm
   have ht:(v1.take (v1.length-u1.length)).length=v1.length-u1.length:=by rw[List.length_take];omega
   have hd:(v1.drop (v1.length-u1.length)).length=u1.length:=by rw[List.length_drop];omega
   have hc:=uN p1 u1 (v1.take (v1.length-u1.length)) (v1.drop (v1.length-u1.length)) q1 (m-u1.length) (m+v1.length-u1.length) n u1.length (.func f caps) (by omega) (by omega) (by omega) (by omega) (by omega) hN
   rw[List.append_assoc (p1++u1),←hs] at hc
   refine .ao (by decide +kernel) fun K hK =>?_
   simp only[H9,U,simprocAttr]
   try simp only[w3,w5,w6,simprocAttr]
   refine bj.kW hc (kB _ n f caps hcl [_,_,_]) ?_
   rintro r os' ⟨rfl,rfl⟩
   refine ⟨_,rfl,rfl,?_⟩
   try simp only[U,simprocAttr]
   refine .done (hK _ ?_);clear hK K
   refine .bD (by decide +kernel) fun K hK =>?_
   simp only[Ia,U,simprocAttr]
   try simp only[w4,simprocAttr]
   refine .done (hK _ ?_);clear hK K;try simp only[al,bP]
   refine ⟨⟨p1,v1.drop (v1.length-u1.length),v1.take (v1.length-u1.length),u1++q1⟩,⟨by simp only;omega,by simp only;omega,by simp only;omega,by simp only;omega,?_⟩,by simp only;omega,?_⟩
   ·simp only
    rw[←g5]
    conv=>rhs;rw[hs]
    simp only[List.append_assoc]
   ·simp only[hd,ht]
    rw[←List.append_assoc _ u1 q1]
    refine az.cJ ?_ (fun n=>rfl)
    simp[aT,aU]
 ·have he:u1.length=v1.length:=by simp at h;omega
  refine J.exit ?_;try simp only[al,bP,simprocAttr]
  have w3:=iK (x:=m) (y:=u1.length) (by omega) (by omega)
  have hc:=uN p1 u1 [] v1 q1 (m-u1.length) m n u1.length (.func f caps) (by omega) (by omega) (by simp;omega) rfl (by omega) hN
  simp only[List.append_nil] at hc
  refine .bD (by decide +kernel) fun K hK =>?_
  simp only[Ib,U,simprocAttr]
  try simp only[w3,simprocAttr]
  refine bj.kW hc (kB _ n f caps hcl [_,_,_]) ?_
  rintro r os' ⟨rfl,rfl⟩
  refine ⟨_,rfl,rfl,?_⟩
  try simp only[U,simprocAttr]
  refine .done (hK _ ?_)
  clear hK K
  rw[lX]
  exact nO rfl g5 ⟨rfl,rfl⟩
theorem ur{el:List au}{s:List Int}(h:dn el s){i j:Nat}(hij:i<j)(hj:j<s.length):dH el (s.getD i 0) (s.getD j 0):=by
 rw[List.getD_eq_getElem?_getD,List.getD_eq_getElem?_getD,List.getElem?_eq_getElem (by omega),List.getElem?_eq_getElem hj]
 exact List.pairwise_iff_getElem.1 h i j (by omega) hj hij
theorem qe{el:List au}{s:List Int}(h:dn el s){i j:Nat}(hij:i≤j)(hj:j<s.length){x:Int}(hx:dH el (s.getD j 0) x):dH el (s.getD i 0) x:=by
 rcases Nat.lt_or_ge i j with h1 | h1
 ·exact xU (ur h h1 hj) hx
 ·have:i=j:=by omega
  rw[this];exact hx
theorem qd{el:List au}{s:List Int}(h:dn el s){i j:Nat}(hij:i≤j)(hj:j<s.length){x:Int}(hx:dH el x (s.getD i 0)):dH el x (s.getD j 0):=by
 rcases Nat.lt_or_ge i j with h1 | h1
 ·exact xU hx (ur h h1 hj)
 ·have:i=j:=by omega
  rw[←this];exact hx
theorem tA{s:List Int}{k:Nat}{x:Int}(h:x∈s.take k):∃ i,i<k∧i<s.length∧s.getD i 0=x:=by
 obtain ⟨i,hi,rfl⟩:=List.getElem_of_mem h
 rw[List.length_take] at hi
 exact ⟨i,by omega,by omega,by rw[List.getD_eq_getElem?_getD,List.getElem?_eq_getElem (by omega),List.getElem_take];rfl⟩
theorem pN{s:List Int}{k:Nat}{x:Int}(h:x∈s.drop k):∃ i,k≤i∧i<s.length∧s.getD i 0=x:=by
 obtain ⟨i,hi,rfl⟩:=List.getElem_of_mem h
 rw[List.length_drop] at hi
 exact ⟨k+i,by omega,by omega,by rw[List.getD_eq_getElem?_getD,List.getElem?_eq_getElem (by omega),List.getElem_drop];rfl⟩
def rO(el:List au)(l r:List Int)(k i:Nat):Prop:=∀ x∈l.take i++r.take (k-i),∀ y∈l.drop i++r.drop (k-i),dH el x y
theorem WL{el:List au}{l r:List Int}{k i lo hi:Nat}(hl:dn el l)(hr:dn el r)(h1:lo≤i)(h2:i≤hi)(hlo:lo=0∨lo+r.length=k)(hhi:hi=l.length∨hi=k)(hil:hi≤l.length)(hik:hi≤k)(hlr:k≤lo+r.length)
  (g1:∀ j,lo≤j→j<i→dH el (l.getD j 0) (r.getD (k-1-j) 0)) (g2:∀ j,i≤j→j<hi→dH el (r.getD (k-1-j) 0) (l.getD j 0)):rO el l r k i:=by
 intro x hx y hy
 rcases List.mem_append.1 hx with hx | hx
 ·obtain ⟨a,ha1,ha2,rfl⟩:=tA hx
  rcases List.mem_append.1 hy with hy | hy
  ·obtain ⟨b,hb1,hb2,rfl⟩:=pN hy
   exact ur hl (by omega) hb2
  ·obtain ⟨b,hb1,hb2,rfl⟩:=pN hy
   by_cases hli:lo<i
   ·have:=g1 (i-1) (by omega) (by omega)
    have e:k-1-(i-1)=k-i:=by omega
    rw[e] at this
    refine qe hl (j:=i-1) (by omega) (by omega) ?_
    exact qd hr (i:=k-i) (by omega) hb2 this
   ·omega
 ·obtain ⟨a,ha1,ha2,rfl⟩:=tA hx
  rcases List.mem_append.1 hy with hy | hy
  ·obtain ⟨b,hb1,hb2,rfl⟩:=pN hy
   by_cases hih:i<hi
   ·have:=g2 i (Nat.le_refl _) hih
    refine qe hr (j:=k-1-i) (by omega) (by omega) ?_
    exact qd hl (i:=i) (by omega) hb2 this
   ·omega
  ·obtain ⟨b,hb1,hb2,rfl⟩:=pN hy
   exact ur hr (by omega) hb2
theorem alC{el:List au}{l r s1 s2:List Int}{k i:Nat}(hc:rO el l r k i)(h1:s1.Perm (l.take i++r.take (k-i)))(h2:s2.Perm (l.drop i++r.drop (k-i)))(k1:dn el s1)(k2:dn el s2):(s1++s2).Perm (l++r)∧dn el (s1++s2):=by
 refine ⟨(h1.append h2).trans ?_,List.pairwise_append.2 ⟨k1,k2,fun x hx y hy=>hc x (h1.mem_iff.1 hx) y (h2.mem_iff.1 hy)⟩⟩
 have e:l.take i++r.take (k-i)++(l.drop i++r.drop (k-i))=l.take i++(r.take (k-i)++l.drop i)++r.drop (k-i):=by simp only[List.append_assoc]
 rw[e]
 refine (((List.perm_append_comm (l₁:=r.take (k-i)) (l₂:=l.drop i)).append_left _).append_right _).trans ?_
 have e2:l.take i++(l.drop i++r.take (k-i))++r.drop (k-i)=(l.take i++l.drop i)++(r.take (k-i)++r.drop (k-i)):=by simp only[List.append_assoc]
 rw[e2,List.take_append_drop,List.take_append_drop]
theorem Nn{el:List au}{s:List Int}(h:dn el s)(k:Nat):dn el (s.take k):=h.sublist (List.take_sublist _ _)
theorem Nl{el:List au}{s:List Int}(h:dn el s)(k:Nat):dn el (s.drop k):=h.sublist (List.drop_sublist _ _)
theorem xr{p l r q:List Int}{a i:Nat}(ha:p.length=a)(hi:i<l.length):(p++l++r++q).getD (a+i) 0=l.getD i 0:=by
 subst ha
 rw[List.getD_eq_getElem?_getD,List.getD_eq_getElem?_getD,List.append_assoc,List.append_assoc,List.getElem?_append_right (by omega),Nat.add_sub_cancel_left,List.getElem?_append_left hi]
theorem xt{p l r q:List Int}{m i:Nat}(hm:p.length+l.length=m)(hi:i<r.length):(p++l++r++q).getD (m+i) 0=r.getD i 0:=by
 subst hm
 rw[List.getD_eq_getElem?_getD,List.getD_eq_getElem?_getD,List.append_assoc (p++l),List.getElem?_append_right (by rw[List.length_append];omega),List.length_append,Nat.add_sub_cancel_left,List.getElem?_append_left hi]
theorem oB(x:Nat):Int.fdiv (x:Int) (2^min (Int.toNat 1) IntKind.u64.bits)=((x / 2:Nat):Int):=by
 have:min (Int.toNat 1) IntKind.u64.bits=1:=rfl
 rw[this]
 show Int.fdiv (x:Int) 2=_
 rw[Int.fdiv_eq_ediv_of_nonneg _ (by decide)];rfl
theorem nI{x:Nat}(h:x<9223372036854775807):IntKind.u64.wrap (x:Int)=(x:Int):=by
 simp only[IntKind.wrap,IntKind.bits,IntKind.signed]
 simp
 omega
theorem oA:((0:Int)≤1)=True:=by simp
theorem J.amc{c:cM}{Q:Exit→ae→Prop}{A:ae}{x:aN}{σ:Type}(T:σ→ae)(C:σ→Prop)(h1:J c x (al (fun B=>∃ s,C s∧Abs.az B (T s)) fun _ _=>False) A)(h2:∀ s B,C s→Abs.az B (T s)→Q .normal B):J c x Q A :=
 h1.mono fun e B hq=>by
  cases e <;>simp only[al] at hq <;>first
   |(obtain ⟨s,k1,k2⟩:=hq;exact h2 s B k1 k2)
   |exact hq.elim
theorem al0{p r q:List Int}{x:Int}{a j:Nat}(ha:p.length=a)(hj:j<r.length):kr (dW p r q x j) (a+j) (a+j+1)=dW p r q x (j+1):=by
 have e1:dW p r q x (j+1)=(p++r.take j)++r[j]::x::(r.drop (j+1)++q):=by
  simp only[dW]
  rw[List.take_succ_eq_append_getElem hj]
  simp only[List.append_assoc,List.cons_append,List.nil_append]
 have e2:dW p r q x j=(p++r.take j)++x::r[j]::(r.drop (j+1)++q):=by
  simp only[dW]
  rw[List.drop_eq_getElem_cons hj]
  simp only[List.append_assoc,List.cons_append]
 rw[e1,e2]
 exact al1 (by rw[List.length_append,List.length_take];omega) rfl
theorem ah4(p r q:List Int)(x:Int):dW p r q x 0=p++[x]++r++q:=by simp[dW]
theorem ah7(p r q:List Int)(x:Int):dW p r q x r.length=p++r++[x]++q:=by simp[dW]
theorem O1(el:List au)(hd:mg el)(hel:el.length≤60)(p l r q:List Int)(a m b n:Nat)(hl0:0<l.length)(hr0:0<r.length)(ha:p.length=a)(hm:a+l.length=m)(hb:m+r.length=b)(hn:b≤n)(hnl:n≤(p++l++r++q).length)(hn1:n≤1000)(hsl:dn el l)(hsr:dn el r)(hlr:∀ x∈l,∀ y∈r,x<y)(hin:∀ x∈l++r,jt el x)(hl1:l.length=1) :
  cH Tryz.prog 204 [.view 1000000 [] 1 0 n,enc (a:Int),enc (m:Int),enc (b:Int),.func 138 [.ref (enc el)]] (cz 1000000 (p++l++r++q)) (mY el p (l++r) q):=by
 have hlen:(p++l++r++q).length=p.length+l.length+r.length+q.length:=by simp only[List.length_append]
 have nt:=fun i (hi:i<l.length)=>xr (p:=p) (l:=l) (r:=r) (q:=q) (i:=i) ha hi
 have gr:=fun i (hi:i<r.length)=>xt (p:=p) (l:=l) (r:=r) (q:=q) (m:=m) (i:=i) (by omega) hi
 have ml:=fun i (hi:i<l.length)=>(show l.getD i 0∈l by rw[List.getD_eq_getElem?_getD,List.getElem?_eq_getElem hi];exact List.getElem_mem _)
 have mr:=fun i (hi:i<r.length)=>(show r.getD i 0∈r by rw[List.getD_eq_getElem?_getD,List.getElem?_eq_getElem hi];exact List.getElem_mem _)
 refine cH.bp Tryz.func204 vn vq vB (Nat.le_of_ble_eq_true rfl) (Nat.le_of_ble_eq_true rfl) nR (fun hwf W0 D0 E1 =>?_)
 simp only[sm,tZ,a6,Nat.zero_add,Nat.reduceAdd]
 clear hwf
 have fc:=iK (x:=m) (y:=a) (by omega) (by omega)
 refine J.seq (J.seq ?_)
 obtain ⟨x,rfl⟩:=List.length_eq_one_iff.1 hl1
 obtain ⟨ws,hws⟩:∃ ws,ws=p++[x]++r++q:=⟨_,rfl⟩
 rw[←hws] at hnl hlen gr nt ⊢
 have gx:ws.getD a 0=x:=by have:=nt 0 hl0;simpa using this
 have hxr:=hlr x (by simp)
 have hxS:=hin x (by simp)
 have hrS:=fun y (hy:y∈r)=>hin y (by simp[hy])
 have h1:((m-a:Nat):Int)=1:=by omega
 refine .bD (by decide +kernel) fun K hK =>?_
 simp only[sQ,U,Nat.reduceEqDiff,reduceIte]
 try simp only[fc,h1,Int.reduceBEq]
 refine .done (hK _ ?_);clear hK K;try simp only[al]
 refine J.bI ?_
 try simp only[aj,U,Nat.reduceEqDiff,reduceIte]
 refine ⟨fun _ =>?_,fun h =>?_⟩
 rotate_left
 ·simp at h
 refine .ao (by decide +kernel) fun K hK =>?_
 simp only[HA,U,Nat.reduceEqDiff,reduceIte]
 refine .done (hK _ ?_);clear hK K
 refine .ao (by decide +kernel) fun K hK =>?_
 simp only[HE,U,Nat.reduceEqDiff,reduceIte]
 refine .done (hK _ ?_);clear hK K
 refine J.seq (J.block (J.loop (fun s:Nat×Nat=>ar [(0,.view 1000000 [] 1 0 n),(1,.int .i64 a),(2,.int .i64 m),(3,.int .i64 b),(4,.func 138 [.ref (enc el)]),(10,.int .i64 ((m+s.1:Nat):Int)),(11,.int .i64 ((m+s.2:Nat):Int))] (cz 1000000 ws))
  (fun s=>s.1≤s.2∧s.2≤r.length∧(∀ j,j<s.1→dH el (r.getD j 0) x)∧∀ j,s.2≤j→j<r.length→dH el x (r.getD j 0)) (fun s=>s.2-s.1) (0,r.length) ⟨Nat.zero_le _,Nat.le_refl _,fun j hj=>by omega,fun j h1 h2=>by simp only at h1;omega⟩ ?_ ?_))
 ·have e1:m+0=m:=rfl
  simp only[e1,hb]
  refine az.cJ ?_ (fun n=>rfl)
  simp[aT,aU]
 rintro ⟨i,j⟩ ⟨g1,g2,g3,g4⟩
 simp only at g1 g2 g3 g4 ⊢
 by_cases hij:i<j
 ·have hc:decide (((m+i:Nat):Int)<((m+j:Nat):Int))=true:=by simp;omega
  have w1:=lb (m+i) (m+j) (by omega)
  have w2:=nI (x:=m+i+(m+j)) (by omega)
  obtain ⟨c,hcd⟩:∃ c,c=(i+j) / 2:=⟨_,rfl⟩
  have hci:i≤c∧c<j:=by omega
  have w3:(m+i+(m+j)) / 2=m+c:=by omega
  have w4:=nI (x:=m+c) (by omega)
  have w5:=uD (n:=m+c) (by omega)
  have w6:=fk (i:=m+c) (by omega)
  have v1:=jv (n:=n) (i:=m+c) (by omega)
  have v2:=jv (n:=n) (i:=a) (by omega)
  have l1:=gR (xs:=ws) (i:=m+c) (by omega)
  have l2:=gR (xs:=ws) (i:=a) (by omega)
  rw[gr c (by omega)] at l1
  rw[gx] at l2
  have hrc:=mr c (by omega)
  have hcmp:=rR el hd hel (r.getD c 0) x (hrS _ hrc) hxS
  have hlt:=tw (l:=el) (hxr _ hrc)
  simp only[cz]
  cases hdc:decide (gu el (r.getD c 0)-gu el x<0) with
  |true =>
   have hd1:dH el (r.getD c 0) x:=hlt.2 (by have:=of_decide_eq_true hdc;omega)
   have R:=And.intro @hc (And.intro @w1 (And.intro @w2 (And.intro @w3 (And.intro @w4 (And.intro @w5 (And.intro @w6 (And.intro @oB (And.intro @oA (And.intro @v1 (And.intro @v2 (And.intro @l1 (And.intro @l2 (And.intro @hdc (And.intro @df (And.intro @dV (And.intro @aL @U))))))))))))))))
   repeat' ((first
    |(with_reducible refine .guard (fun hb =>?_) (fun hb =>?_) <;>try simp only[hb])
    |refine J.aI (by decide +kernel) rfl fun K hK =>?_
    |refine .flat _ (hcmp) rfl ?_
    |(refine .aD [0,1,2,3,4,10,11,12,13,14,15,16,17,18,19,20,21,22,23,24,28,33,50,58,80,85,103,110,140,151,171,185,199,213] hK ?_;clear hK K)
    |(with_reducible refine .done (hK _ ?_);clear hK K)
    |refine J.of rfl ?_
    |(with_reducible refine aj.aH (fun h =>?_) (fun h =>?_) <;>try simp only[h])) <;>try simp only[aJ,R,List.cons_append,Nat.reduceEqDiff,reduceIte,Nat.reduceBEq])
   all_goals clear R
   refine ⟨(c+1,j),⟨by simp only;omega,g2,fun k hk =>?_,g4⟩,by simp only;omega,?_⟩
   ·simp only at hk
    exact qe hsr (j:=c) (by omega) (by omega) hd1
   ·refine az.cJ ?_ (fun n=>rfl)
    simp[aT,aU];omega
  |false =>
   have hd1:dH el x (r.getD c 0):=tv (hxr _ hrc) (by have:=of_decide_eq_false hdc;omega)
   have R:=And.intro @hc (And.intro @w1 (And.intro @w2 (And.intro @w3 (And.intro @w4 (And.intro @w5 (And.intro @w6 (And.intro @oB (And.intro @oA (And.intro @v1 (And.intro @v2 (And.intro @l1 (And.intro @l2 (And.intro @hdc (And.intro @df (And.intro @dV (And.intro @aL @U))))))))))))))))
   repeat' ((first
    |(with_reducible refine .guard (fun hb =>?_) (fun hb =>?_) <;>try simp only[hb])
    |refine J.aI (by decide +kernel) rfl fun K hK =>?_
    |refine .flat _ (hcmp) rfl ?_
    |(refine .aD [0,1,2,3,4,10,11,12,13,14,15,16,17,18,19,20,21,22,23,24,28,33,50,58,80,85,103,110,140,151,171,185,199,213] hK ?_;clear hK K)
    |(with_reducible refine .done (hK _ ?_);clear hK K)
    |refine J.of rfl ?_
    |(with_reducible refine aj.aH (fun h =>?_) (fun h =>?_) <;>try simp only[h])) <;>try simp only[aJ,R,List.cons_append,Nat.reduceEqDiff,reduceIte,Nat.reduceBEq])
   all_goals clear R
   refine ⟨(i,c),⟨by simp only;omega,by simp only;omega,g3,fun k hk hk2 =>?_⟩,by simp only;omega,?_⟩
   ·simp only at hk
    exact qd hsr (i:=c) (by omega) hk2 hd1
   ·refine az.cJ ?_ (fun n=>rfl)
    simp[aT,aU]
 ·have hc:decide (((m+i:Nat):Int)<((m+j:Nat):Int))=false:=by simp;omega
  have he:j=i:=by omega
  subst he
  refine J.seq (J.seq ?_)
  refine .bD (by decide +kernel) fun K hK =>?_
  simp only[HK,U,Nat.reduceEqDiff,reduceIte]
  try simp only[hc]
  refine .done (hK _ ?_);clear hK K;try simp only[al]
  refine J.bI ?_
  simp only[aj,U,Nat.reduceEqDiff,reduceIte]
  refine ⟨fun h =>?_,fun h =>?_⟩
  ·cases h
  refine J.exit ?_;try simp only[al,bP,reduceIte]
  refine J.seq (J.seq ?_)
  refine .bD (by decide +kernel) fun K hK =>?_
  simp only[HO,U,Nat.reduceEqDiff,reduceIte]
  refine .done (hK _ ?_);clear hK K;try simp only[al]
  have hi0:=ah4 p r q x
  rw[hws,←hi0]
  refine J.block (J.loop (fun k:Nat=>ar [(0,.view 1000000 [] 1 0 n),(10,.int .i64 ((m+j:Nat):Int)),(13,.int .i64 ((a+k:Nat):Int))] (cz 1000000 (dW p r q x k))) (fun k=>k≤j) (fun k=>j-k) 0 (Nat.zero_le _) ?_ (fun k hk =>?_))
  ·refine az.cJ ?_ (fun n=>rfl)
   simp[aT,aU]
  have ww:IntKind.i64.wrap (((m+j:Nat):Int)-1)=((a+j:Nat):Int):=by rw[cG _ (by omega) (by omega)];simp at hm;omega
  have hil:(dW p r q x k).length=p.length+r.length+1+q.length:=xH (by omega)
  by_cases hkj:k<j
  ·have hc2:decide (((a+k:Nat):Int)<((a+j:Nat):Int))=true:=by simp;omega
   have hstep:=al0 (p:=p) (r:=r) (q:=q) (x:=x) (j:=k) ha (by omega)
   generalize dW p r q x k=ws at hil hstep ⊢
   obtain ⟨i1,hi1e⟩:∃ i1,i1=a+k:=⟨_,rfl⟩
   obtain ⟨j1,hj1e⟩:∃ j1,j1=a+k+1:=⟨_,rfl⟩
   rw[←hj1e,←hi1e] at hstep
   have wk:IntKind.i64.wrap ((i1:Int)+1)=(j1:Int):=by rw[cG _ (by omega) (by omega)];omega
   rw[←hi1e] at hc2 ⊢
   have hi1:i1<n:=by simp at hm;omega
   have hj1:j1<n:=by simp at hm;omega
   simp only[cz]
   have v1:=jv (n:=n) (i:=i1) hi1
   have v2:=jv (n:=n) (i:=j1) hj1
   have l1:=gR (xs:=ws) (i:=i1) (by omega)
   have l2:=gR (xs:=ws) (i:=j1) (by omega)
   have s1:=fun (A:ae) v u rest=>nV (A:=A) (n:=1000000) (xs:=ws) (i:=i1) (by omega) v u rest
   obtain ⟨ws2,hws2⟩:∃ ws2,ws2=ws.set i1 (ws.getD j1 0):=⟨_,rfl⟩
   have hw2l:ws2.length=ws.length:=by rw[hws2];simp
   have s2:=fun (A:ae) v u rest=>nV (A:=A) (n:=1000000) (xs:=ws2) (i:=j1) (by omega) v u rest
   have l3:=gR (xs:=ws2) (i:=j1) (by omega)
   have R:=And.intro @ww (And.intro @hc2 (And.intro @wk (And.intro @v1 (And.intro @v2 (And.intro @l1 (And.intro @l2 (And.intro @l3 (And.intro @s1 (And.intro @s2 (And.intro @df (And.intro @aL @U)))))))))))
   repeat' ((first
    |(with_reducible refine .guard (fun hb =>?_) (fun hb =>?_) <;>try simp only[hb])
    |refine J.aI (by decide +kernel) rfl fun K hK =>?_
    |(refine .aD [0,1,2,3,4,10,11,12,13,14,15,16,17,18,19,20,21,22,23,24,28,33,50,58,80,85,103,110,140,151,171,185,199,213] hK ?_;clear hK K)
    |(with_reducible refine .done (hK _ ?_);clear hK K)
    |refine J.of rfl ?_
    |(with_reducible refine aj.aH (fun h =>?_) (fun h =>?_) <;>try simp only[h])) <;>try simp only[aJ,R,←hws2,Nat.reduceEqDiff,reduceIte,Nat.reduceBEq])
   all_goals clear R
   refine ⟨k+1,by omega,by omega,?_⟩
   rw[←hstep]
   simp only[kr,←hws2]
   have e:a+(k+1)=j1:=by omega
   rw[e]
   refine az.cJ ?_ (fun n =>?_)
   ·simp[aT,aU]
   ·simp only[ak];split <;>rfl
  ·have hc2:decide (((a+k:Nat):Int)<((a+j:Nat):Int))=false:=by simp;omega
   have hk2:k=j:=by omega
   subst hk2
   have R:=And.intro @ww (And.intro @hc2 (And.intro @aL (And.intro @fP @U)))
   repeat' ((first
    |(with_reducible refine .guard (fun hb =>?_) (fun hb =>?_) <;>try simp only[hb])
    |refine J.aI (by decide +kernel) rfl fun K hK =>?_
    |(refine .aD [0,1,2,3,4,10,11,12,13,14,15,16,17,18,19,20,21,22,23,24,28,33,50,58,80,85,103,110,140,151,171,185,199,213] hK ?_;clear hK K)
    |(with_reducible refine .done (hK _ ?_);clear hK K)
    |refine J.of rfl ?_
    |(with_reducible refine aj.aH (fun h =>?_) (fun h =>?_) <;>try simp only[h])) <;>try simp only[aJ,R,Nat.reduceEqDiff,reduceIte,Nat.reduceBEq])
   all_goals clear R
   refine nO rfl rfl ⟨rfl,r.take k++x::r.drop k,?_,?_,?_⟩
   ·refine List.perm_middle.trans ?_
    rw[List.take_append_drop];exact .refl _
   ·refine y8 hsr (fun y hy =>?_) (fun y hy =>?_)
    ·obtain ⟨i,h1,h2,rfl⟩:=tA hy;exact g3 i h1
    ·obtain ⟨i,h1,h2,rfl⟩:=pN hy;exact g4 i h1 h2
   ·rfl
theorem O2(el:List au)(hd:mg el)(hel:el.length≤60)(p l r q:List Int)(a m b n:Nat)(hl0:0<l.length)(hr0:0<r.length)(ha:p.length=a)(hm:a+l.length=m)(hb:m+r.length=b)(hn:b≤n)(hnl:n≤(p++l++r++q).length)(hn1:n≤1000)(hsl:dn el l)(hsr:dn el r)(hlr:∀ x∈l,∀ y∈r,x<y)(hin:∀ x∈l++r,jt el x)(hl1:¬ l.length=1)(hr1:r.length=1) :
  cH Tryz.prog 204 [.view 1000000 [] 1 0 n,enc (a:Int),enc (m:Int),enc (b:Int),.func 138 [.ref (enc el)]] (cz 1000000 (p++l++r++q)) (mY el p (l++r) q):=by
 have hlen:(p++l++r++q).length=p.length+l.length+r.length+q.length:=by simp only[List.length_append]
 have nt:=fun i (hi:i<l.length)=>xr (p:=p) (l:=l) (r:=r) (q:=q) (i:=i) ha hi
 have gr:=fun i (hi:i<r.length)=>xt (p:=p) (l:=l) (r:=r) (q:=q) (m:=m) (i:=i) (by omega) hi
 have ml:=fun i (hi:i<l.length)=>(show l.getD i 0∈l by rw[List.getD_eq_getElem?_getD,List.getElem?_eq_getElem hi];exact List.getElem_mem _)
 have mr:=fun i (hi:i<r.length)=>(show r.getD i 0∈r by rw[List.getD_eq_getElem?_getD,List.getElem?_eq_getElem hi];exact List.getElem_mem _)
 refine cH.bp Tryz.func204 vn vq vB (Nat.le_of_ble_eq_true rfl) (Nat.le_of_ble_eq_true rfl) nR (fun hwf W0 D0 E1 =>?_)
 simp only[sm,tZ,a6,Nat.zero_add,Nat.reduceAdd]
 clear hwf
 have fc:=iK (x:=m) (y:=a) (by omega) (by omega)
 refine J.seq (J.seq ?_)
 have h1:(((m-a:Nat):Int)==1)=false:=by simp;omega
 obtain ⟨ws,hws⟩:∃ ws,ws=p++l++r++q:=⟨_,rfl⟩
 rw[←hws] at hnl hlen gr nt ⊢
 have w0b:=iK (x:=b) (y:=m) (by omega) (by omega)
 refine .bD (by decide +kernel) fun K hK =>?_
 simp only[sQ,U,Nat.reduceEqDiff,reduceIte]
 try simp only[fc,h1]
 refine .done (hK _ ?_);clear hK K;try simp only[al]
 refine J.bI ?_
 try simp only[aj,U,Nat.reduceEqDiff,reduceIte]
 refine ⟨fun h =>?_,fun _ =>?_⟩
 ·simp at h
 refine J.skip ?_;try simp only[al]
 refine J.seq (J.seq ?_)
 obtain ⟨x,rfl⟩:=List.length_eq_one_iff.1 hr1
 have gx:ws.getD m 0=x:=by have:=gr 0 hr0;simpa using this
 have hlx:∀ y∈l,y<x:=fun y hy=>hlr y hy x (by simp)
 have hxS:=hin x (by simp)
 have hlS:=fun y (hy:y∈l)=>hin y (by simp[hy])
 have h2:((b-m:Nat):Int)=1:=by omega
 refine .bD (by decide +kernel) fun K hK =>?_
 simp only[wW,U,Nat.reduceEqDiff,reduceIte]
 try simp only[w0b,h2,Int.reduceBEq]
 refine .done (hK _ ?_);clear hK K;try simp only[al]
 refine J.bI ?_
 try simp only[aj,U,Nat.reduceEqDiff,reduceIte]
 refine ⟨fun _ =>?_,fun h =>?_⟩
 rotate_left
 ·simp at h
 refine .ao (by decide +kernel) fun K hK =>?_
 simp only[HB,U,Nat.reduceEqDiff,reduceIte]
 refine .done (hK _ ?_);clear hK K
 refine .ao (by decide +kernel) fun K hK =>?_
 simp only[HC,U,Nat.reduceEqDiff,reduceIte]
 refine .done (hK _ ?_);clear hK K
 refine J.seq (J.block (J.loop (fun s:Nat×Nat=>ar [(0,.view 1000000 [] 1 0 n),(1,.int .i64 a),(2,.int .i64 m),(3,.int .i64 b),(4,.func 138 [.ref (enc el)]),(14,.int .i64 ((a+s.1:Nat):Int)),(15,.int .i64 ((a+s.2:Nat):Int))] (cz 1000000 ws))
  (fun s=>s.1≤s.2∧s.2≤l.length∧(∀ j,j<s.1→dH el (l.getD j 0) x)∧∀ j,s.2≤j→j<l.length→dH el x (l.getD j 0)) (fun s=>s.2-s.1) (0,l.length) ⟨Nat.zero_le _,Nat.le_refl _,fun j hj=>by omega,fun j h1 h2=>by simp only at h1;omega⟩ ?_ ?_))
 ·have e1:a+0=a:=rfl
  simp only[e1,hm]
  refine az.cJ ?_ (fun n=>rfl)
  simp[aT,aU]
 rintro ⟨i,j⟩ ⟨g1,g2,g3,g4⟩
 simp only at g1 g2 g3 g4 ⊢
 by_cases hij:i<j
 ·have hc:decide (((a+i:Nat):Int)<((a+j:Nat):Int))=true:=by simp;omega
  have w1:=lb (a+i) (a+j) (by omega)
  have w2:=nI (x:=a+i+(a+j)) (by omega)
  obtain ⟨c,hcd⟩:∃ c,c=(i+j) / 2:=⟨_,rfl⟩
  have hci:i≤c∧c<j:=by omega
  have w3:(a+i+(a+j)) / 2=a+c:=by omega
  have w4:=nI (x:=a+c) (by omega)
  have w5:=uD (n:=a+c) (by omega)
  have w6:=fk (i:=a+c) (by omega)
  have v1:=jv (n:=n) (i:=a+c) (by omega)
  have v2:=jv (n:=n) (i:=m) (by omega)
  have l1:=gR (xs:=ws) (i:=a+c) (by omega)
  have l2:=gR (xs:=ws) (i:=m) (by omega)
  rw[nt c (by omega)] at l1
  rw[gx] at l2
  have hrc:=ml c (by omega)
  have hcmp:=rR el hd hel x (l.getD c 0) hxS (hlS _ hrc)
  have hlt:=tw (l:=el) (hlx _ hrc)
  simp only[cz]
  cases hdc:decide (gu el x-gu el (l.getD c 0)<0) with
  |true =>
   have hd1:dH el x (l.getD c 0):=hlt.2 (by have:=of_decide_eq_true hdc;omega)
   have R:=And.intro @hc (And.intro @w1 (And.intro @w2 (And.intro @w3 (And.intro @w4 (And.intro @w5 (And.intro @w6 (And.intro @oB (And.intro @oA (And.intro @v1 (And.intro @v2 (And.intro @l1 (And.intro @l2 (And.intro @hdc (And.intro @df (And.intro @dV (And.intro @aL @U))))))))))))))))
   repeat' ((first
    |(with_reducible refine .guard (fun hb =>?_) (fun hb =>?_) <;>try simp only[hb])
    |refine J.aI (by decide +kernel) rfl fun K hK =>?_
    |refine .flat _ (hcmp) rfl ?_
    |(refine .aD [0,1,2,3,4,10,11,12,13,14,15,16,17,18,19,20,21,22,23,24,28,33,50,58,80,85,103,110,140,151,171,185,199,213] hK ?_;clear hK K)
    |(with_reducible refine .done (hK _ ?_);clear hK K)
    |refine J.of rfl ?_
    |(with_reducible refine aj.aH (fun h =>?_) (fun h =>?_) <;>try simp only[h])) <;>try simp only[aJ,R,List.cons_append,Nat.reduceEqDiff,reduceIte,Nat.reduceBEq])
   all_goals clear R
   refine ⟨(i,c),⟨by simp only;omega,by simp only;omega,g3,fun k hk hk2 =>?_⟩,by simp only;omega,?_⟩
   ·simp only at hk
    exact qd hsl (i:=c) (by omega) hk2 hd1
   ·refine az.cJ ?_ (fun n=>rfl)
    simp[aT,aU]
  |false =>
   have hd1:dH el (l.getD c 0) x:=tv (hlx _ hrc) (by have:=of_decide_eq_false hdc;omega)
   have R:=And.intro @hc (And.intro @w1 (And.intro @w2 (And.intro @w3 (And.intro @w4 (And.intro @w5 (And.intro @w6 (And.intro @oB (And.intro @oA (And.intro @v1 (And.intro @v2 (And.intro @l1 (And.intro @l2 (And.intro @hdc (And.intro @df (And.intro @dV (And.intro @aL @U))))))))))))))))
   repeat' ((first
    |(with_reducible refine .guard (fun hb =>?_) (fun hb =>?_) <;>try simp only[hb])
    |refine J.aI (by decide +kernel) rfl fun K hK =>?_
    |refine .flat _ (hcmp) rfl ?_
    |(refine .aD [0,1,2,3,4,10,11,12,13,14,15,16,17,18,19,20,21,22,23,24,28,33,50,58,80,85,103,110,140,151,171,185,199,213] hK ?_;clear hK K)
    |(with_reducible refine .done (hK _ ?_);clear hK K)
    |refine J.of rfl ?_
    |(with_reducible refine aj.aH (fun h =>?_) (fun h =>?_) <;>try simp only[h])) <;>try simp only[aJ,R,List.cons_append,Nat.reduceEqDiff,reduceIte,Nat.reduceBEq])
   all_goals clear R
   refine ⟨(c+1,j),⟨by simp only;omega,g2,fun k hk =>?_,g4⟩,by simp only;omega,?_⟩
   ·simp only at hk
    exact qe hsl (j:=c) (by omega) (by omega) hd1
   ·refine az.cJ ?_ (fun n=>rfl)
    simp[aT,aU];omega
 ·have hc:decide (((a+i:Nat):Int)<((a+j:Nat):Int))=false:=by simp;omega
  have he:j=i:=by omega
  subst he
  refine J.seq (J.seq ?_)
  refine .bD (by decide +kernel) fun K hK =>?_
  simp only[HD,U,Nat.reduceEqDiff,reduceIte]
  try simp only[hc]
  refine .done (hK _ ?_);clear hK K;try simp only[al]
  refine J.bI ?_
  simp only[aj,U,Nat.reduceEqDiff,reduceIte]
  refine ⟨fun h =>?_,fun h =>?_⟩
  ·cases h
  refine J.exit ?_;try simp only[al,bP,reduceIte]
  refine J.seq (J.seq ?_)
  refine .bD (by decide +kernel) fun K hK =>?_
  simp only[HF,U,Nat.reduceEqDiff,reduceIte]
  refine .done (hK _ ?_);clear hK K;try simp only[al]
  have hi0:=ah7 p l q x
  rw[hws,←hi0]
  refine J.block (J.loop (fun k:Nat=>ar [(0,.view 1000000 [] 1 0 n),(14,.int .i64 ((a+j:Nat):Int)),(17,.int .i64 ((a+k:Nat):Int))] (cz 1000000 (dW p l q x k))) (fun k=>j≤k∧k≤l.length) (fun k=>k-j) l.length ⟨g2,Nat.le_refl _⟩ ?_ (fun k hk =>?_))
  ·rw[hm]
   refine az.cJ ?_ (fun n=>rfl)
   simp[aT,aU]
  have hil:(dW p l q x k).length=p.length+l.length+1+q.length:=xH (by omega)
  by_cases hkj:j<k
  ·have hc2:decide (((a+j:Nat):Int)<((a+k:Nat):Int))=true:=by simp;omega
   obtain ⟨k',rfl⟩:∃ k',k=k'+1:=⟨k-1,by omega⟩
   have hstep:=Ju (p:=p) (t:=l) (rest:=q) (x:=x) (c:=k') ha (by omega)
   generalize dW p l q x (k'+1)=ws at hil hstep ⊢
   obtain ⟨i1,hi1e⟩:∃ i1,i1=a+(k'+1):=⟨_,rfl⟩
   obtain ⟨j1,hj1e⟩:∃ j1,j1=a+k':=⟨_,rfl⟩
   have hij:a+k'+1=i1:=by omega
   rw[hij,←hj1e] at hstep
   have wk:IntKind.i64.wrap ((i1:Int)-1)=(j1:Int):=by rw[cG _ (by omega) (by omega)];omega
   rw[←hi1e] at hc2 ⊢
   have hi1:i1<n:=by omega
   have hj1:j1<n:=by omega
   simp only[cz]
   have v1:=jv (n:=n) (i:=i1) hi1
   have v2:=jv (n:=n) (i:=j1) hj1
   have l1:=gR (xs:=ws) (i:=i1) (by omega)
   have l2:=gR (xs:=ws) (i:=j1) (by omega)
   have s1:=fun (A:ae) v u rest=>nV (A:=A) (n:=1000000) (xs:=ws) (i:=i1) (by omega) v u rest
   obtain ⟨ws2,hws2⟩:∃ ws2,ws2=ws.set i1 (ws.getD j1 0):=⟨_,rfl⟩
   have hw2l:ws2.length=ws.length:=by rw[hws2];simp
   have s2:=fun (A:ae) v u rest=>nV (A:=A) (n:=1000000) (xs:=ws2) (i:=j1) (by omega) v u rest
   have l3:=gR (xs:=ws2) (i:=j1) (by omega)
   have R:=And.intro @hc2 (And.intro @wk (And.intro @v1 (And.intro @v2 (And.intro @l1 (And.intro @l2 (And.intro @l3 (And.intro @s1 (And.intro @s2 (And.intro @df (And.intro @aL @U))))))))))
   repeat' ((first
    |(with_reducible refine .guard (fun hb =>?_) (fun hb =>?_) <;>try simp only[hb])
    |refine J.aI (by decide +kernel) rfl fun K hK =>?_
    |(refine .aD [0,1,2,3,4,10,11,12,13,14,15,16,17,18,19,20,21,22,23,24,28,33,50,58,80,85,103,110,140,151,171,185,199,213] hK ?_;clear hK K)
    |(with_reducible refine .done (hK _ ?_);clear hK K)
    |refine J.of rfl ?_
    |(with_reducible refine aj.aH (fun h =>?_) (fun h =>?_) <;>try simp only[h])) <;>try simp only[aJ,R,←hws2,Nat.reduceEqDiff,reduceIte,Nat.reduceBEq])
   all_goals clear R
   refine ⟨k',by omega,by omega,?_⟩
   rw[←hstep]
   simp only[kr,←hws2,←hj1e]
   refine az.cJ ?_ (fun n =>?_)
   ·simp[aT,aU]
   ·simp only[ak];split <;>rfl
  ·have hc2:decide (((a+j:Nat):Int)<((a+k:Nat):Int))=false:=by simp;omega
   have hk2:k=j:=by omega
   subst hk2
   have R:=And.intro @hc2 (And.intro @aL (And.intro @fP @U))
   repeat' ((first
    |(with_reducible refine .guard (fun hb =>?_) (fun hb =>?_) <;>try simp only[hb])
    |refine J.aI (by decide +kernel) rfl fun K hK =>?_
    |(refine .aD [0,1,2,3,4,10,11,12,13,14,15,16,17,18,19,20,21,22,23,24,28,33,50,58,80,85,103,110,140,151,171,185,199,213] hK ?_;clear hK K)
    |(with_reducible refine .done (hK _ ?_);clear hK K)
    |refine J.of rfl ?_
    |(with_reducible refine aj.aH (fun h =>?_) (fun h =>?_) <;>try simp only[h])) <;>try simp only[aJ,R,Nat.reduceEqDiff,reduceIte,Nat.reduceBEq])
   all_goals clear R
   refine nO rfl rfl ⟨rfl,l.take k++x::l.drop k,?_,?_,?_⟩
   ·refine List.perm_middle.trans ?_
    rw[List.take_append_drop];exact List.perm_append_comm (l₁:=[x])
   ·refine y8 hsl (fun y hy =>?_) (fun y hy =>?_)
    ·obtain ⟨i,h1,h2,rfl⟩:=tA hy;exact g3 i h1
    ·obtain ⟨i,h1,h2,rfl⟩:=pN hy;exact g4 i h1 h2
   ·rfl
theorem O3(el:List au)(hd:mg el)(hel:el.length≤60)(N:Nat)(ih:∀ (p l r q:List Int) (a m b n:Nat),l.length+r.length≤N→0<l.length→0<r.length→p.length=a→a+l.length=m→m+r.length=b→b≤n→n≤(p++l++r++q).length→n≤1000→dn el l→dn el r→(∀ x∈l,∀ y∈r,x<y)→(∀ x∈l++r,jt el x) →
  cH Tryz.prog 204 [.view 1000000 [] 1 0 n,enc (a:Int),enc (m:Int),enc (b:Int),.func 138 [.ref (enc el)]] (cz 1000000 (p++l++r++q)) (mY el p (l++r) q)) (p l r q:List Int) (a m b n:Nat) (hl0:0<l.length) (hr0:0<r.length) (ha:p.length=a) (hm:a+l.length=m) (hb:m+r.length=b) (hn:b≤n) (hnl:n≤(p++l++r++q).length) (hn1:n≤1000) (hsl:dn el l) (hsr:dn el r) (hlr:∀ x∈l,∀ y∈r,x<y) (hin:∀ x∈l++r,jt el x) (hN:l.length+r.length≤N+1) (hl1:¬ l.length=1) (hr1:¬ r.length=1) :
  cH Tryz.prog 204 [.view 1000000 [] 1 0 n,enc (a:Int),enc (m:Int),enc (b:Int),.func 138 [.ref (enc el)]] (cz 1000000 (p++l++r++q)) (mY el p (l++r) q):=by
 have hlen:(p++l++r++q).length=p.length+l.length+r.length+q.length:=by simp only[List.length_append]
 have nt:=fun i (hi:i<l.length)=>xr (p:=p) (l:=l) (r:=r) (q:=q) (i:=i) ha hi
 have gr:=fun i (hi:i<r.length)=>xt (p:=p) (l:=l) (r:=r) (q:=q) (m:=m) (i:=i) (by omega) hi
 have ml:=fun i (hi:i<l.length)=>(show l.getD i 0∈l by rw[List.getD_eq_getElem?_getD,List.getElem?_eq_getElem hi];exact List.getElem_mem _)
 have mr:=fun i (hi:i<r.length)=>(show r.getD i 0∈r by rw[List.getD_eq_getElem?_getD,List.getElem?_eq_getElem hi];exact List.getElem_mem _)
 refine cH.bp Tryz.func204 vn vq vB (Nat.le_of_ble_eq_true rfl) (Nat.le_of_ble_eq_true rfl) nR (fun hwf W0 D0 E1 =>?_)
 simp only[sm,tZ,a6,Nat.zero_add,Nat.reduceAdd]
 clear hwf
 have fc:=iK (x:=m) (y:=a) (by omega) (by omega)
 refine J.seq (J.seq ?_)
 have h1:(((m-a:Nat):Int)==1)=false:=by simp;omega
 obtain ⟨ws,hws⟩:∃ ws,ws=p++l++r++q:=⟨_,rfl⟩
 rw[←hws] at hnl hlen gr nt ⊢
 have w0b:=iK (x:=b) (y:=m) (by omega) (by omega)
 refine .bD (by decide +kernel) fun K hK =>?_
 simp only[sQ,U,Nat.reduceEqDiff,reduceIte]
 try simp only[fc,h1]
 refine .done (hK _ ?_);clear hK K;try simp only[al]
 refine J.bI ?_
 try simp only[aj,U,Nat.reduceEqDiff,reduceIte]
 refine ⟨fun h =>?_,fun _ =>?_⟩
 ·simp at h
 refine J.skip ?_;try simp only[al]
 refine J.seq (J.seq ?_)
 have h2:(((b-m:Nat):Int)==1)=false:=by simp;omega
 refine .bD (by decide +kernel) fun K hK =>?_
 simp only[wW,U,Nat.reduceEqDiff,reduceIte]
 try simp only[w0b,h2]
 refine .done (hK _ ?_);clear hK K;try simp only[al]
 refine J.bI ?_
 try simp only[aj,U,Nat.reduceEqDiff,reduceIte]
 refine ⟨fun h =>?_,fun _ =>?_⟩
 ·simp at h
 refine J.skip ?_;try simp only[al]
 obtain ⟨k,hk⟩:∃ k,k=(l.length+r.length) / 2:=⟨_,rfl⟩
 have w1:=lb a b (by omega)
 have w2:=nI (x:=a+b) (by omega)
 have w3:(a+b) / 2=a+k:=by omega
 have w4:=nI (x:=a+k) (by omega)
 have w5:=uD (n:=a+k) (by omega)
 have w6:=lb (a+k) m (by omega)
 refine .ao (by decide +kernel) fun K hK =>?_
 simp only[HG,U,Nat.reduceEqDiff,reduceIte]
 try simp only[w1,w2,w3,w5,oB,oA,U,Nat.reduceEqDiff,reduceIte]
 refine .done (hK _ ?_);clear hK K
 refine .ao (by decide +kernel) fun K hK =>?_
 simp only[HI,U,Nat.reduceEqDiff,reduceIte]
 try simp only[w6]
 refine .done (hK _ ?_);clear hK K
 refine .ao (by decide +kernel) fun K hK =>?_
 simp only[HJ,U]
 refine .done (hK _ ?_);clear hK K
 obtain ⟨lo,hi,q1,q2,q3,q4,q5,q6,q7⟩:∃ lo hi,(if a+k<m then lo+r.length=k∧hi=k else lo=0∧hi=l.length)∧lo≤hi∧hi≤l.length∧hi≤k∧k≤lo+r.length∧(lo=0∨lo+r.length=k)∧(hi=l.length∨hi=k):=by
  by_cases h:a+k<m
  ·exact ⟨k-r.length,k,by rw[if_pos h];omega,by omega,by omega,by omega,by omega,by omega,by omega⟩
  ·exact ⟨0,l.length,by rw[if_neg h];omega,by omega,by omega,by omega,by omega,by omega,by omega⟩
 refine J.seq (J.nX (ar [(0,.view 1000000 [] 1 0 n),(1,.int .i64 a),(2,.int .i64 m),(3,.int .i64 b),(4,.func 138 [.ref (enc el)]),(18,.int .i64 ((a+k:Nat):Int)),(19,.int .i64 ((a+k+m:Nat):Int)),(20,.int .i64 ((a+lo:Nat):Int)),(21,.int .i64 ((a+hi:Nat):Int))] (cz 1000000 ws)) ?_ fun B hB=>J.sub hB ?_)
 ·by_cases h:a+k<m
  ·rw[if_pos h] at q1
   have hc:decide (((a+k:Nat):Int)<(m:Int))=true:=by simp;omega
   have w7:=iK (x:=a+k+m) (y:=b) (by omega) (by omega)
   have e1:a+k+m-b=a+lo:=by omega
   have R:=And.intro @hc (And.intro @w7 (And.intro @e1 (And.intro @aL @U)))
   repeat' ((first
    |(with_reducible refine .guard (fun hb =>?_) (fun hb =>?_) <;>try simp only[hb])
    |refine J.aI (by decide +kernel) rfl fun K hK =>?_
    |(refine .aD [0,1,2,3,4,10,11,12,13,14,15,16,17,18,19,20,21,22,23,24,28,33,50,58,80,85,103,110,140,151,171,185,199,213] hK ?_;clear hK K)
    |(with_reducible refine .done (hK _ ?_);clear hK K)
    |refine J.of rfl ?_
    |(with_reducible refine aj.aH (fun h =>?_) (fun h =>?_) <;>try simp only[h])) <;>try simp only[aJ,R,Nat.reduceEqDiff,reduceIte,Nat.reduceBEq])
   all_goals clear R
   rw[q1.2]
   refine az.cJ ?_ (fun n=>rfl)
   simp[aT,aU]
  ·rw[if_neg h] at q1
   have hc:decide (((a+k:Nat):Int)<(m:Int))=false:=by simp;omega
   have R:=And.intro @hc (And.intro @aL @U)
   repeat' ((first
    |(with_reducible refine .guard (fun hb =>?_) (fun hb =>?_) <;>try simp only[hb])
    |refine J.aI (by decide +kernel) rfl fun K hK =>?_
    |(refine .aD [0,1,2,3,4,10,11,12,13,14,15,16,17,18,19,20,21,22,23,24,28,33,50,58,80,85,103,110,140,151,171,185,199,213] hK ?_;clear hK K)
    |(with_reducible refine .done (hK _ ?_);clear hK K)
    |refine J.of rfl ?_
    |(with_reducible refine aj.aH (fun h =>?_) (fun h =>?_) <;>try simp only[h])) <;>try simp only[aJ,R,Nat.reduceEqDiff,reduceIte,Nat.reduceBEq])
   all_goals clear R
   rw[q1.2,q1.1,hm]
   refine az.cJ ?_ (fun n=>rfl)
   simp[aT,aU]
 clear q1 w1 w2 w3 w4 w5 w6 hl1 hr1 fc w0b
 have hcrF:∀ i,lo≤i→i≤hi→(∀ j,lo≤j→j<i→dH el (l.getD j 0) (r.getD (k-1-j) 0))→(∀ j,i≤j→j<hi→dH el (r.getD (k-1-j) 0) (l.getD j 0))→rO el l r k i:=fun i a1 a2 a3 a4=>WL hsl hsr a1 a2 q6 q7 q3 q4 q5 a3 a4
 have hk2:2*k≤l.length+r.length:=by omega
 have hk3:1≤k:=by omega
 clear q6 q7 hk
 have w8:IntKind.i64.wrap (((a+k+m:Nat):Int)-1)=((a+k+m-1:Nat):Int):=by rw[cG _ (by omega) (by omega)];omega
 refine .ao (by decide +kernel) fun K hK =>?_
 simp only[HL,U,Nat.reduceEqDiff,reduceIte]
 try simp only[w8]
 refine .done (hK _ ?_);clear hK K
 refine J.seq (J.block (J.loop (fun s:Nat×Nat=>ar [(0,.view 1000000 [] 1 0 n),(1,.int .i64 a),(2,.int .i64 m),(3,.int .i64 b),(4,.func 138 [.ref (enc el)]),(18,.int .i64 ((a+k:Nat):Int)),(19,.int .i64 ((a+k+m:Nat):Int)),(22,.int .i64 ((a+k+m-1:Nat):Int)),(20,.int .i64 ((a+s.1:Nat):Int)),(21,.int .i64 ((a+s.2:Nat):Int))] (cz 1000000 ws))
  (fun s=>lo≤s.1∧s.1≤s.2∧s.2≤hi∧(∀ j,lo≤j→j<s.1→dH el (l.getD j 0) (r.getD (k-1-j) 0))∧∀ j,s.2≤j→j<hi→dH el (r.getD (k-1-j) 0) (l.getD j 0)) (fun s=>s.2-s.1) (lo,hi) ⟨Nat.le_refl _,q2,Nat.le_refl _,fun j h1 h2=>by simp only at h2;omega,fun j h1 h2=>by simp only at h1;omega⟩ ?_ ?_))
 ·refine az.cJ ?_ (fun n=>rfl)
  simp[aT,aU]
 rintro ⟨i,j⟩ ⟨gf,g1,g2,g3,g4⟩
 simp only at gf g1 g2 g3 g4 ⊢
 by_cases hij:i<j
 ·have hc:decide (((a+i:Nat):Int)<((a+j:Nat):Int))=true:=by simp;omega
  have w1:=lb (a+i) (a+j) (by omega)
  have w2:=nI (x:=a+i+(a+j)) (by omega)
  obtain ⟨c,hcd⟩:∃ c,c=(i+j) / 2:=⟨_,rfl⟩
  have hci:i≤c∧c<j:=by omega
  have w3:(a+i+(a+j)) / 2=a+c:=by omega
  have w4:=nI (x:=a+c) (by omega)
  have w5:=uD (n:=a+c) (by omega)
  have w6:=fk (i:=a+c) (by omega)
  have w9:=iK (x:=a+k+m-1) (y:=a+c) (by omega) (by omega)
  have e1:a+k+m-1-(a+c)=m+(k-1-c):=by omega
  have v1:=jv (n:=n) (i:=a+c) (by omega)
  have v2:=jv (n:=n) (i:=m+(k-1-c)) (by omega)
  have l1:=gR (xs:=ws) (i:=a+c) (by omega)
  have l2:=gR (xs:=ws) (i:=m+(k-1-c)) (by omega)
  rw[nt c (by omega)] at l1
  rw[gr (k-1-c) (by omega)] at l2
  have hlc:=ml c (by omega)
  have hrc:=mr (k-1-c) (by omega)
  have hcmp:=rR el hd hel (r.getD (k-1-c) 0) (l.getD c 0) (hin _ (by simp only[List.mem_append];exact .inr hrc)) (hin _ (by simp only[List.mem_append];exact .inl hlc))
  have hlt:=tw (l:=el) (hlr _ hlc _ hrc)
  simp only[cz]
  cases hdc:decide (gu el (r.getD (k-1-c) 0)-gu el (l.getD c 0)<0) with
  |true =>
   have hd1:dH el (r.getD (k-1-c) 0) (l.getD c 0):=hlt.2 (by have:=of_decide_eq_true hdc;omega)
   have R:=And.intro @hc (And.intro @w1 (And.intro @w2 (And.intro @w3 (And.intro @w4 (And.intro @w5 (And.intro @w6 (And.intro @w9 (And.intro @e1 (And.intro @oB (And.intro @oA (And.intro @v1 (And.intro @v2 (And.intro @l1 (And.intro @l2 (And.intro @hdc (And.intro @df (And.intro @dV (And.intro @aL @U))))))))))))))))))
   repeat' ((first
    |(with_reducible refine .guard (fun hb =>?_) (fun hb =>?_) <;>try simp only[hb])
    |refine J.aI (by decide +kernel) rfl fun K hK =>?_
    |refine .flat _ (hcmp) rfl ?_
    |(refine .aD [0,1,2,3,4,10,11,12,13,14,15,16,17,18,19,20,21,22,23,24,28,33,50,58,80,85,103,110,140,151,171,185,199,213] hK ?_;clear hK K)
    |(with_reducible refine .done (hK _ ?_);clear hK K)
    |refine J.of rfl ?_
    |(with_reducible refine aj.aH (fun h =>?_) (fun h =>?_) <;>try simp only[h])) <;>try simp only[aJ,R,List.cons_append,Nat.reduceEqDiff,reduceIte,Nat.reduceBEq])
   all_goals clear R
   refine ⟨(i,c),⟨gf,by simp only;omega,by simp only;omega,g3,fun t ht ht2 =>?_⟩,by simp only;omega,?_⟩
   ·simp only at ht
    exact qe hsr (j:=k-1-c) (by omega) (by omega) (qd hsl (i:=c) (by omega) (by omega) hd1)
   ·refine az.cJ ?_ (fun n=>rfl)
    simp[aT,aU]
  |false =>
   have hd1:dH el (l.getD c 0) (r.getD (k-1-c) 0):=tv (hlr _ hlc _ hrc) (by have:=of_decide_eq_false hdc;omega)
   have R:=And.intro @hc (And.intro @w1 (And.intro @w2 (And.intro @w3 (And.intro @w4 (And.intro @w5 (And.intro @w6 (And.intro @w9 (And.intro @e1 (And.intro @oB (And.intro @oA (And.intro @v1 (And.intro @v2 (And.intro @l1 (And.intro @l2 (And.intro @hdc (And.intro @df (And.intro @dV (And.intro @aL @U))))))))))))))))))
   repeat' ((first
    |(with_reducible refine .guard (fun hb =>?_) (fun hb =>?_) <;>try simp only[hb])
    |refine J.aI (by decide +kernel) rfl fun K hK =>?_
    |refine .flat _ (hcmp) rfl ?_
    |(refine .aD [0,1,2,3,4,10,11,12,13,14,15,16,17,18,19,20,21,22,23,24,28,33,50,58,80,85,103,110,140,151,171,185,199,213] hK ?_;clear hK K)
    |(with_reducible refine .done (hK _ ?_);clear hK K)
    |refine J.of rfl ?_
    |(with_reducible refine aj.aH (fun h =>?_) (fun h =>?_) <;>try simp only[h])) <;>try simp only[aJ,R,List.cons_append,Nat.reduceEqDiff,reduceIte,Nat.reduceBEq])
   all_goals clear R
   refine ⟨(c+1,j),⟨by simp only;omega,by simp only;omega,g2,fun t ht ht2 =>?_,g4⟩,by simp only;omega,?_⟩
   ·simp only at ht2
    exact qe hsl (j:=c) (by omega) (by omega) (qd hsr (i:=k-1-c) (by omega) (by omega) hd1)
   ·refine az.cJ ?_ (fun n=>rfl)
    simp[aT,aU];omega
 have hc:decide (((a+i:Nat):Int)<((a+j:Nat):Int))=false:=by simp;omega
 have he:j=i:=by omega
 subst he
 have hcr:rO el l r k j:=hcrF _ gf g2 g3 g4
 refine J.seq (J.seq ?_)
 refine .bD (by decide +kernel) fun K hK =>?_
 simp only[HM,U,Nat.reduceEqDiff,reduceIte]
 try simp only[hc]
 refine .done (hK _ ?_);clear hK K;try simp only[al]
 refine J.bI ?_
 simp only[aj,U,Nat.reduceEqDiff,reduceIte]
 refine ⟨fun h =>?_,fun h =>?_⟩
 ·cases h
 refine J.exit ?_;try simp only[al,bP,reduceIte]
 have w10:=iK (x:=a+k+m) (y:=a+j) (by omega) (by omega)
 have e2:a+k+m-(a+j)=m+(k-j):=by omega
 refine .ao (by decide +kernel) fun K hK =>?_
 simp only[HN,U,Nat.reduceEqDiff,reduceIte]
 try simp only[w10,e2]
 refine .done (hK _ ?_);clear hK K
 -- the four parts
 have hl12:l.take j++l.drop j=l:=List.take_append_drop _ _
 have hr12:r.take (k-j)++r.drop (k-j)=r:=List.take_append_drop _ _
 obtain ⟨l1,hl1e⟩:∃ l1,l1=l.take j:=⟨_,rfl⟩
 obtain ⟨l2,hl2e⟩:∃ l2,l2=l.drop j:=⟨_,rfl⟩
 obtain ⟨r1,hr1e⟩:∃ r1,r1=r.take (k-j):=⟨_,rfl⟩
 obtain ⟨dT,hr2e⟩:∃ dT,dT=r.drop (k-j):=⟨_,rfl⟩
 have ll1:l1.length=j:=by rw[hl1e,List.length_take];omega
 have ll2:l2.length=l.length-j:=by rw[hl2e,List.length_drop]
 have lr1:r1.length=k-j:=by rw[hr1e,List.length_take];omega
 have lr2:dT.length=r.length-(k-j):=by rw[hr2e,List.length_drop]
 have sl1:dn el l1:=hl1e▸Nn hsl _
 have sl2:dn el l2:=hl2e▸Nl hsl _
 have sr1:dn el r1:=hr1e▸Nn hsr _
 have sr2:dn el dT:=hr2e▸Nl hsr _
 have ml1:∀ x∈l1,x∈l:=fun x hx=>List.mem_of_mem_take (hl1e▸hx)
 have ml2:∀ x∈l2,x∈l:=fun x hx=>List.mem_of_mem_drop (hl2e▸hx)
 have mr1:∀ x∈r1,x∈r:=fun x hx=>List.mem_of_mem_take (hr1e▸hx)
 have mr2:∀ x∈dT,x∈r:=fun x hx=>List.mem_of_mem_drop (hr2e▸hx)
 rw[←hl1e,←hl2e] at hl12
 rw[←hr1e,←hr2e] at hr12
 have hws4:ws=(p++l1)++l2++r1++(dT++q):=by rw[hws,←hl12,←hr12];simp only[List.append_assoc]
 have e3:((a+j:Nat):Int)<m↔j<l.length:=by omega
 -- the parts change places
 refine J.seq (J.nX (ar [(0,.view 1000000 [] 1 0 n),(1,.int .i64 a),(3,.int .i64 b),(4,.func 138 [.ref (enc el)]),(18,.int .i64 ((a+k:Nat):Int)),(20,.int .i64 ((a+j:Nat):Int)),(24,.int .i64 ((m+(k-j):Nat):Int))] (cz 1000000 (p++l1++r1++(l2++dT++q)))) ?_ fun B hB=>J.sub hB ?_)
 ·by_cases h1:j<l.length
  ·have hc1:decide (((a+j:Nat):Int)<(m:Int))=true:=by simp;omega
   by_cases h2:j<k
   ·have hc2:decide ((m:Int)<((m+(k-j):Nat):Int))=true:=by simp;omega
    have hrot:=O6 (p++l1) l2 r1 (dT++q) (a+j) m (m+(k-j)) n 138 [.ref (enc el)] (by simp[I.bY,I.bt,dV]) (by rw[List.length_append];omega) (by omega) (by omega) (by omega) (by omega) (by omega) hn1
    rw[←hws4] at hrot
    have R:=And.intro @hc1 (And.intro @hc2 (And.intro @aL @U))
    repeat' ((first
     |(with_reducible refine .guard (fun hb =>?_) (fun hb =>?_) <;>try simp only[hb])
     |refine J.aI (by decide +kernel) rfl fun K hK =>?_
     |(refine .aD [0,1,2,3,4,10,11,12,13,14,15,16,17,18,19,20,21,22,23,24,28,33,50,58,80,85,103,110,140,151,171,185,199,213] hK ?_;clear hK K)
     |(with_reducible refine .done (hK _ ?_);clear hK K)
     |refine J.of rfl ?_
     |(with_reducible refine aj.aH (fun h =>?_) (fun h =>?_) <;>try simp only[h])) <;>try simp only[aJ,R,Nat.reduceEqDiff,reduceIte,Nat.reduceBEq])
    all_goals clear R
    refine bj.kW hrot (kB _ n 138 [.ref (enc el)] (by simp[I.bY,I.bt,dV]) [_,_,_]) ?_
    rintro eA os' ⟨rfl,rfl⟩
    refine ⟨_,rfl,rfl,?_⟩
    try simp only[U]
    refine .done (hK _ ?_);clear hK K
    have e5:p++l1++r1++l2++(dT++q)=p++l1++r1++(l2++dT++q):=by simp only[List.append_assoc]
    rw[e5]
    refine az.cJ ?_ (fun n=>rfl)
    simp[aT,aU]
   ·have hc2:decide ((m:Int)<((m+(k-j):Nat):Int))=false:=by simp;omega
    have hn0:r1=[]:=List.length_eq_zero_iff.1 (by omega)
    have e5:ws=p++l1++r1++(l2++dT++q):=by rw[hws4,hn0];simp only[List.append_assoc,List.append_nil]
    rw[e5]
    have R:=And.intro @hc1 (And.intro @hc2 (And.intro @aL @U))
    repeat' ((first
     |(with_reducible refine .guard (fun hb =>?_) (fun hb =>?_) <;>try simp only[hb])
     |refine J.aI (by decide +kernel) rfl fun K hK =>?_
     |(refine .aD [0,1,2,3,4,10,11,12,13,14,15,16,17,18,19,20,21,22,23,24,28,33,50,58,80,85,103,110,140,151,171,185,199,213] hK ?_;clear hK K)
     |(with_reducible refine .done (hK _ ?_);clear hK K)
     |refine J.of rfl ?_
     |(with_reducible refine aj.aH (fun h =>?_) (fun h =>?_) <;>try simp only[h])) <;>try simp only[aJ,R,Nat.reduceEqDiff,reduceIte,Nat.reduceBEq])
    all_goals clear R
    refine az.cJ ?_ (fun n=>rfl)
    simp[aT,aU]
  ·have hc1:decide (((a+j:Nat):Int)<(m:Int))=false:=by simp;omega
   have hn0:l2=[]:=List.length_eq_zero_iff.1 (by omega)
   have e5:ws=p++l1++r1++(l2++dT++q):=by rw[hws4,hn0];simp only[List.append_assoc,List.append_nil,List.nil_append]
   rw[e5]
   have R:=And.intro @hc1 (And.intro @aL @U)
   repeat' ((first
    |(with_reducible refine .guard (fun hb =>?_) (fun hb =>?_) <;>try simp only[hb])
    |refine J.aI (by decide +kernel) rfl fun K hK =>?_
    |(refine .aD [0,1,2,3,4,10,11,12,13,14,15,16,17,18,19,20,21,22,23,24,28,33,50,58,80,85,103,110,140,151,171,185,199,213] hK ?_;clear hK K)
    |(with_reducible refine .done (hK _ ?_);clear hK K)
    |refine J.of rfl ?_
    |(with_reducible refine aj.aH (fun h =>?_) (fun h =>?_) <;>try simp only[h])) <;>try simp only[aJ,R,Nat.reduceEqDiff,reduceIte,Nat.reduceBEq])
   all_goals clear R
   refine az.cJ ?_ (fun n=>rfl)
   simp[aT,aU]
 -- the lower half
 refine J.seq (J.amc (fun s1:List Int=>ar [(0,.view 1000000 [] 1 0 n),(3,.int .i64 b),(4,.func 138 [.ref (enc el)]),(18,.int .i64 ((a+k:Nat):Int)),(24,.int .i64 ((m+(k-j):Nat):Int))] (cz 1000000 (p++s1++l2++dT++q))) (fun s1=>s1.Perm (l1++r1)∧dn el s1) ?_ fun s1 B hC hB=>J.sub hB ?_)
 ·by_cases h1:0<j
  ·have hc1:decide ((a:Int)<((a+j:Nat):Int))=true:=by simp;omega
   by_cases h2:j<k
   ·have hc2:decide (((a+j:Nat):Int)<((a+k:Nat):Int))=true:=by simp;omega
    have hrec:=ih p l1 r1 (l2++dT++q) a (a+j) (a+k) n (by omega) (by omega) (by omega) ha (by omega) (by omega) (by omega) (by simp only[List.length_append];omega) hn1 sl1 sr1 (fun x hx y hy=>hlr x (ml1 x hx) y (mr1 y hy)) (fun x hx=>hin x (by
     rcases List.mem_append.1 hx with h | h
     ·exact List.mem_append.2 (.inl (ml1 x h))
     ·exact List.mem_append.2 (.inr (mr1 x h))))
    have R:=And.intro @hc1 (And.intro @hc2 (And.intro @aL @U))
    repeat' ((first
     |(with_reducible refine .guard (fun hb =>?_) (fun hb =>?_) <;>try simp only[hb])
     |refine J.aI (by decide +kernel) rfl fun K hK =>?_
     |(refine .aD [0,1,2,3,4,10,11,12,13,14,15,16,17,18,19,20,21,22,23,24,28,33,50,58,80,85,103,110,140,151,171,185,199,213] hK ?_;clear hK K)
     |(with_reducible refine .done (hK _ ?_);clear hK K)
     |refine J.of rfl ?_
     |(with_reducible refine aj.aH (fun h =>?_) (fun h =>?_) <;>try simp only[h])) <;>try simp only[aJ,R,Nat.reduceEqDiff,reduceIte,Nat.reduceBEq])
    all_goals clear R
    refine bj.kW hrec (kB _ n 138 [.ref (enc el)] (by simp[I.bY,I.bt,dV]) [_,_,_]) ?_
    rintro eA os' ⟨rfl,s1,k1,k2,rfl⟩
    refine ⟨_,rfl,rfl,?_⟩
    try simp only[U]
    refine .done (hK _ ?_);clear hK K
    refine ⟨s1,⟨k1,k2⟩,?_⟩
    have e5:p++s1++(l2++dT++q)=p++s1++l2++dT++q:=by simp only[List.append_assoc]
    rw[e5]
    refine az.cJ ?_ (fun n=>rfl)
    simp[aT,aU]
   ·have hc2:decide (((a+j:Nat):Int)<((a+k:Nat):Int))=false:=by simp;omega
    have hn0:r1=[]:=List.length_eq_zero_iff.1 (by omega)
    have R:=And.intro @hc1 (And.intro @hc2 (And.intro @aL @U))
    repeat' ((first
     |(with_reducible refine .guard (fun hb =>?_) (fun hb =>?_) <;>try simp only[hb])
     |refine J.aI (by decide +kernel) rfl fun K hK =>?_
     |(refine .aD [0,1,2,3,4,10,11,12,13,14,15,16,17,18,19,20,21,22,23,24,28,33,50,58,80,85,103,110,140,151,171,185,199,213] hK ?_;clear hK K)
     |(with_reducible refine .done (hK _ ?_);clear hK K)
     |refine J.of rfl ?_
     |(with_reducible refine aj.aH (fun h =>?_) (fun h =>?_) <;>try simp only[h])) <;>try simp only[aJ,R,Nat.reduceEqDiff,reduceIte,Nat.reduceBEq])
    all_goals clear R
    refine ⟨l1++r1,⟨.refl _,by rw[hn0,List.append_nil];exact sl1⟩,?_⟩
    have e5:p++l1++r1++(l2++dT++q)=p++(l1++r1)++l2++dT++q:=by simp only[List.append_assoc]
    rw[e5]
    refine az.cJ ?_ (fun n=>rfl)
    simp[aT,aU]
  ·have hc1:decide ((a:Int)<((a+j:Nat):Int))=false:=by simp;omega
   have hn0:l1=[]:=List.length_eq_zero_iff.1 (by omega)
   have R:=And.intro @hc1 (And.intro @aL @U)
   repeat' ((first
    |(with_reducible refine .guard (fun hb =>?_) (fun hb =>?_) <;>try simp only[hb])
    |refine J.aI (by decide +kernel) rfl fun K hK =>?_
    |(refine .aD [0,1,2,3,4,10,11,12,13,14,15,16,17,18,19,20,21,22,23,24,28,33,50,58,80,85,103,110,140,151,171,185,199,213] hK ?_;clear hK K)
    |(with_reducible refine .done (hK _ ?_);clear hK K)
    |refine J.of rfl ?_
    |(with_reducible refine aj.aH (fun h =>?_) (fun h =>?_) <;>try simp only[h])) <;>try simp only[aJ,R,Nat.reduceEqDiff,reduceIte,Nat.reduceBEq])
   all_goals clear R
   refine ⟨l1++r1,⟨.refl _,by rw[hn0,List.nil_append];exact sr1⟩,?_⟩
   have e5:p++l1++r1++(l2++dT++q)=p++(l1++r1)++l2++dT++q:=by simp only[List.append_assoc]
   rw[e5]
   refine az.cJ ?_ (fun n=>rfl)
   simp[aT,aU]
 -- the upper half
 obtain ⟨k1,k2⟩:=hC
 have ls1:s1.length=k:=by rw[k1.length_eq,List.length_append];omega
 have done:∀ s2,s2.Perm (l2++dT)→dn el s2→∀ ts ws',ws'=p++s1++s2++q→lh [] (mY el p (l++r) q) (ar ts (cz 1000000 ws')):=fun s2 k3 k4 ts ws' he=>by
  obtain ⟨j1,j2⟩:=alC hcr (hl1e▸hr1e▸k1) (hl2e▸hr2e▸k3) k2 k4
  exact nO rfl (he.trans (by simp only[List.append_assoc])) ⟨rfl,s1++s2,j1,j2,rfl⟩
 by_cases h1:j<l.length
 ·have hc1:decide (((a+k:Nat):Int)<((m+(k-j):Nat):Int))=true:=by simp;omega
  by_cases h2:k-j<r.length
  ·have hc2:decide (((m+(k-j):Nat):Int)<(b:Int))=true:=by simp;omega
   have hrec:=ih (p++s1) l2 dT q (a+k) (m+(k-j)) b n (by omega) (by omega) (by omega) (by rw[List.length_append];omega) (by omega) (by omega) hn (by simp only[List.length_append];omega) hn1 sl2 sr2 (fun x hx y hy=>hlr x (ml2 x hx) y (mr2 y hy)) (fun x hx=>hin x (by
    rcases List.mem_append.1 hx with h | h
    ·exact List.mem_append.2 (.inl (ml2 x h))
    ·exact List.mem_append.2 (.inr (mr2 x h))))
   have R:=And.intro @hc1 (And.intro @hc2 (And.intro @aL @U))
   repeat' ((first
    |(with_reducible refine .guard (fun hb =>?_) (fun hb =>?_) <;>try simp only[hb])
    |refine J.aI (by decide +kernel) rfl fun K hK =>?_
    |(refine .aD [0,1,2,3,4,10,11,12,13,14,15,16,17,18,19,20,21,22,23,24,28,33,50,58,80,85,103,110,140,151,171,185,199,213] hK ?_;clear hK K)
    |(with_reducible refine .done (hK _ ?_);clear hK K)
    |refine J.of rfl ?_
    |(with_reducible refine aj.aH (fun h =>?_) (fun h =>?_) <;>try simp only[h])) <;>try simp only[aJ,R,Nat.reduceEqDiff,reduceIte,Nat.reduceBEq])
   all_goals clear R
   refine bj.kW hrec (kB _ n 138 [.ref (enc el)] (by simp[I.bY,I.bt,dV]) [_,_,_]) ?_
   rintro eA os' ⟨rfl,s2,k3,k4,rfl⟩
   refine ⟨_,rfl,rfl,?_⟩
   try simp only[U]
   refine .done (hK _ ?_)
   clear hK K
   rw[lX]
   exact done s2 k3 k4 _ _ rfl
  ·have hc2:decide (((m+(k-j):Nat):Int)<(b:Int))=false:=by simp;omega
   have hn0:dT=[]:=List.length_eq_zero_iff.1 (by omega)
   have R:=And.intro @hc1 (And.intro @hc2 (And.intro @aL @U))
   repeat' ((first
    |(with_reducible refine .guard (fun hb =>?_) (fun hb =>?_) <;>try simp only[hb])
    |refine J.aI (by decide +kernel) rfl fun K hK =>?_
    |(refine .aD [0,1,2,3,4,10,11,12,13,14,15,16,17,18,19,20,21,22,23,24,28,33,50,58,80,85,103,110,140,151,171,185,199,213] hK ?_;clear hK K)
    |(with_reducible refine .done (hK _ ?_);clear hK K)
    |refine J.of rfl ?_
    |(with_reducible refine aj.aH (fun h =>?_) (fun h =>?_) <;>try simp only[h])) <;>try simp only[aJ,R,Nat.reduceEqDiff,reduceIte,Nat.reduceBEq])
   all_goals clear R
   rw[lX]
   exact done (l2++dT) (.refl _) (by rw[hn0,List.append_nil];exact sl2) _ (p++s1++l2++dT++q) (by simp only[List.append_assoc])
 ·have hc1:decide (((a+k:Nat):Int)<((m+(k-j):Nat):Int))=false:=by simp;omega
  have hn0:l2=[]:=List.length_eq_zero_iff.1 (by omega)
  have R:=And.intro @hc1 (And.intro @aL @U)
  repeat' ((first
   |(with_reducible refine .guard (fun hb =>?_) (fun hb =>?_) <;>try simp only[hb])
   |refine J.aI (by decide +kernel) rfl fun K hK =>?_
   |(refine .aD [0,1,2,3,4,10,11,12,13,14,15,16,17,18,19,20,21,22,23,24,28,33,50,58,80,85,103,110,140,151,171,185,199,213] hK ?_;clear hK K)
   |(with_reducible refine .done (hK _ ?_);clear hK K)
   |refine J.of rfl ?_
   |(with_reducible refine aj.aH (fun h =>?_) (fun h =>?_) <;>try simp only[h])) <;>try simp only[aJ,R,Nat.reduceEqDiff,reduceIte,Nat.reduceBEq])
  all_goals clear R
  rw[lX]
  exact done (l2++dT) (.refl _) (by rw[hn0,List.nil_append];exact sr2) _ (p++s1++l2++dT++q) (by simp only[List.append_assoc])
theorem zI(el:List au)(hd:mg el)(hel:el.length≤60):∀ (N:Nat) (p l r q:List Int) (a m b n:Nat),l.length+r.length≤N→0<l.length→0<r.length→p.length=a→a+l.length=m→m+r.length=b→b≤n→n≤(p++l++r++q).length→n≤1000→dn el l→dn el r→(∀ x∈l,∀ y∈r,x<y)→(∀ x∈l++r,jt el x) →
  cH Tryz.prog 204 [.view 1000000 [] 1 0 n,enc (a:Int),enc (m:Int),enc (b:Int),.func 138 [.ref (enc el)]] (cz 1000000 (p++l++r++q)) (mY el p (l++r) q):=by
 intro N
 induction N with
 |zero=>intro p l r q a m b n h1 h2;omega
 |succ N ih =>
  intro p l r q a m b n hN hl0 hr0 ha hm hb hn hnl hn1 hsl hsr hlr hin
  by_cases hl1:l.length=1
  ·exact O1 el hd hel p l r q a m b n hl0 hr0 ha hm hb hn hnl hn1 hsl hsr hlr hin hl1
  by_cases hr1:r.length=1
  ·exact O2 el hd hel p l r q a m b n hl0 hr0 ha hm hb hn hnl hn1 hsl hsr hlr hin hl1 hr1
  ·exact O3 el hd hel N ih p l r q a m b n hl0 hr0 ha hm hb hn hnl hn1 hsl hsr hlr hin hN hl1 hr1
def dD(ws:List Int)(bs t:Nat):List Int:=(ws.drop (t*bs)).take bs
theorem CE(ws:List Int)(bs u:Nat):dD ws (2*bs) u=dD ws bs (2*u)++dD ws bs (2*u+1):=by
 simp only[dD]
 rw[show 2*bs=bs+bs by omega,List.take_add,List.drop_drop]
 have e1:u*(bs+bs)=2*u*bs:=by rw[Nat.mul_add,show 2*u=u+u by omega,Nat.add_mul]
 have e2:2*u*bs+bs=(2*u+1)*bs:=by rw[Nat.add_mul];omega
 rw[e1,e2]
def ma(el:List au)(bs:Nat)(o d:List Int):Prop:=o.length=d.length∧∀ t,(dD d bs t).Perm (dD o bs t)∧dn el (dD d bs t)
theorem zT(el:List au)(bs:Nat):ma el bs [] []:=⟨rfl,fun t=>by simp[dD,dn]⟩
theorem CD{o b:List Int}{bs t t':Nat}(ho:o.length=t*bs)(hb:b.length≤bs):dD (o++b) bs t'=if t'<t then dD o bs t' else if t'=t then b else []:=by
 simp only[dD]
 by_cases h1:t'<t
 ·rw[if_pos h1]
  have h2:(t'+1)*bs≤t*bs:=Nat.mul_le_mul_right _ h1
  rw[Nat.add_mul,Nat.one_mul] at h2
  rw[List.drop_append_of_le_length (by omega),List.take_append_of_le_length (by rw[List.length_drop];omega)]
 ·rw[if_neg h1]
  by_cases h2:t'=t
  ·subst h2
   rw[if_pos rfl,←ho,List.drop_left,List.take_of_length_le hb]
  ·rw[if_neg h2]
   have h3:(t+1)*bs≤t'*bs:=Nat.mul_le_mul_right _ (by omega)
   rw[Nat.add_mul,Nat.one_mul] at h3
   rw[List.drop_eq_nil_of_le (by rw[List.length_append];omega)]
   exact List.take_nil
theorem r4{el:List au}{bs t:Nat}{o d b b':List Int}(h:ma el bs o d)(ho:o.length=t*bs)(hp:b'.Perm b)(hs:dn el b')(hl:b.length≤bs):ma el bs (o++b) (d++b'):=by
 refine ⟨by rw[List.length_append,List.length_append,h.1,hp.length_eq],fun t' =>?_⟩
 rw[CD (by rw[←h.1];exact ho) (by rw[hp.length_eq];exact hl),CD ho hl]
 split
 ·exact h.2 t'
 ·split
  ·exact ⟨hp,hs⟩
  ·exact ⟨.refl _,List.Pairwise.nil⟩
theorem Py{el:List au}{bs:Nat}{o d:List Int}(h:ma el bs o d)(hn:o.length≤bs):d.Perm o∧dn el d:=by
 have:=h.2 0
 simp only[dD,Nat.zero_mul,List.drop_zero] at this
 rw[List.take_of_length_le (by rw[←h.1];exact hn),List.take_of_length_le hn] at this
 exact this
theorem UE{xs:List Int}(hx:xs.Pairwise (· < ·))(bs u:Nat):∀ x∈dD xs bs (2*u),∀ y∈dD xs bs (2*u+1),x<y:=by
 have h:(dD xs (2*bs) u).Pairwise (· < ·):=(hx.sublist (List.drop_sublist _ _)).sublist (List.take_sublist _ _)
 rw[CE,List.pairwise_append] at h
 exact h.2.2
theorem vv{xs:List Int}{bs t:Nat}{x:Int}(h:x∈dD xs bs t):x∈xs:=List.mem_of_mem_drop (List.mem_of_mem_take h)
theorem NI(xs:List Int)(bs t:Nat):xs.take ((t+1)*bs)=xs.take (t*bs)++dD xs bs t:=by
 rw[Nat.add_mul,Nat.one_mul,List.take_add];rfl
theorem qw(xs:List Int)(bs t:Nat):xs.drop (t*bs)=dD xs bs t++xs.drop ((t+1)*bs):=by
 simp only[dD]
 rw[Nat.add_mul,Nat.one_mul,←List.drop_drop,List.take_append_drop]
theorem qv{xs:List Int}{bs t:Nat}(h:(t+1)*bs≤xs.length):(dD xs bs t).length=bs:=by
 rw[Nat.add_mul,Nat.one_mul] at h
 simp only[dD,List.length_take,List.length_drop];omega
theorem ami{x:Nat}(h:x<1000000):IntKind.i64.wrap (2*(x:Int))=((2*x:Nat):Int):=by rw[cG _ (by omega) (by omega)];omega
theorem amj{x:Nat}(h:x<1000000):IntKind.i64.wrap ((x:Int)*2)=((2*x:Nat):Int):=by rw[cG _ (by omega) (by omega)];omega
theorem JH{i n:Nat}(h:i≤n):decide ((i:Int)≤(n:Int))=true:=by simp;omega
theorem J2{i n:Nat}(h:¬ i≤n):decide ((i:Int)≤(n:Int))=false:=by simp;omega
structure Pz where
 bs:Nat
 d:List Int
theorem OL(el:List au)(hd:mg el)(hel:el.length≤60)(xs q:List Int)(hx:xs.Pairwise (· < ·))(hS:∀ x∈xs,jt el x)(hn:xs.length≤60) :
  cH Tryz.prog 171 [.view 1000000 [] 1 0 xs.length,enc (xs.length:Int),.func 138 [.ref (enc el)]] (cz 1000000 (xs++q)) (mY el [] xs q):=by
 refine cH.bp Tryz.func171 Cr Cz CN (Nat.le_of_ble_eq_true rfl) (Nat.le_of_ble_eq_true rfl) nR (fun hwf W0 D0 E1 =>?_)
 simp only[vi,yz,a6,Nat.zero_add,Nat.reduceAdd]
 clear hwf
 have hcl:I.bY [.ref (enc el)]=true:=by simp[I.bY,I.bt,dV]
 refine .ao (by decide +kernel) fun K hK =>?_
 simp only[wM,U,simprocAttr]
 refine .done (hK _ ?_);clear hK K
 refine .ao (by decide +kernel) fun K hK =>?_
 simp only[wN,U,simprocAttr]
 refine .done (hK _ ?_);clear hK K
 -- blocks of twenty
 refine J.seq (J.block (J.loop (fun s:Nat×List Int=>ar [(0,.view 1000000 [] 1 0 xs.length),(1,.int .i64 xs.length),(2,.func 138 [.ref (enc el)]),(6,.int .i64 20),(7,.int .i64 ((s.1*20:Nat):Int)),(8,.int .i64 (((s.1+1)*20:Nat):Int))] (cz 1000000 (s.2++xs.drop (s.1*20)++q)))
  (fun s=>s.1*20≤xs.length∧ma el 20 (xs.take (s.1*20)) s.2) (fun s=>xs.length-s.1*20) (0,[]) ⟨Nat.zero_le _,zT el 20⟩ ?_ ?_))
 ·refine az.cJ ?_ (fun n=>rfl)
  simp[aT,aU]
 rintro ⟨t,d⟩ ⟨g1,g2⟩
 simp only at g1 g2 ⊢
 have ht:(xs.take (t*20)).length=t*20:=by rw[List.length_take];omega
 have hdl:d.length=t*20:=by rw[←g2.1,ht]
 by_cases hb:(t+1)*20≤xs.length
 ·have hc:=JH hb
  have w1:IntKind.i64.wrap ((((t+1)*20:Nat):Int)+20)=(((t+1+1)*20:Nat):Int):=by rw[cG _ (by omega) (by omega)];omega
  have hcl2:=qv hb
  have hins:=zH el hd hel d (dD xs 20 t) (xs.drop ((t+1)*20)++q) (t*20) ((t+1)*20) xs.length hdl (by omega) hb (by simp only[List.length_append,List.length_drop];omega) (by omega) ((hx.sublist (List.drop_sublist _ _)).sublist (List.take_sublist _ _)) (fun x hx=>hS x (vv hx))
  have e1:d++dD xs 20 t++(xs.drop ((t+1)*20)++q)=d++xs.drop (t*20)++q:=by rw[qw xs 20 t];simp only[List.append_assoc]
  rw[e1] at hins
  have R:=And.intro @hc (And.intro @aL @U)
  repeat' ((first
   |(with_reducible refine .guard (fun hb =>?_) (fun hb =>?_) <;>try simp only[hb])
   |refine J.aI (by decide +kernel) rfl fun K hK =>?_
   |(refine .aD [0,1,2,6,7,8,9,13,30,35,54] hK ?_;clear hK K)
   |(with_reducible refine .done (hK _ ?_);clear hK K)
   |refine J.of rfl ?_
   |(with_reducible refine aj.aH (fun h =>?_) (fun h =>?_) <;>try simp only[h])) <;>try simp only[aJ,R,simprocAttr])
  all_goals clear R
  refine bj.kW hins (kB _ xs.length 138 [.ref (enc el)] hcl [_,_]) ?_
  rintro eA os' ⟨rfl,s',k1,k2,rfl⟩
  refine ⟨_,rfl,rfl,?_⟩
  try simp only[U,simprocAttr]
  refine .done (hK _ ?_);clear hK K
  have R:=And.intro @w1 (And.intro @aL @U)
  repeat' ((first
   |(with_reducible refine .guard (fun hb =>?_) (fun hb =>?_) <;>try simp only[hb])
   |refine J.aI (by decide +kernel) rfl fun K hK =>?_
   |(refine .aD [0,1,2,6,7,8,9,13,30,35,54] hK ?_;clear hK K)
   |(with_reducible refine .done (hK _ ?_);clear hK K)
   |refine J.of rfl ?_
   |(with_reducible refine aj.aH (fun h =>?_) (fun h =>?_) <;>try simp only[h])) <;>try simp only[aJ,R,simprocAttr])
  all_goals clear R
  refine ⟨(t+1,d++s'),⟨hb,?_⟩,by simp only;omega,?_⟩
  ·simp only
   rw[NI]
   exact r4 g2 ht k1 k2 (by omega)
  ·simp only[←List.append_assoc]
   refine az.cJ ?_ (fun n=>rfl)
   simp[aT,aU]
 have hc:=J2 hb
 refine J.seq (J.seq ?_)
 refine .bD (by decide +kernel) fun K hK =>?_
 simp only[GM,U,simprocAttr]
 try simp only[hc,simprocAttr]
 refine .done (hK _ ?_);clear hK K;try simp only[al]
 refine J.bI ?_
 simp only[aj,U,simprocAttr]
 refine ⟨fun h =>?_,fun h =>?_⟩
 ·cases h
 refine J.exit ?_;try simp only[al,bP,simprocAttr]
 -- what is left
 have hins:=zH el hd hel d (xs.drop (t*20)) q (t*20) xs.length xs.length hdl (by rw[List.length_drop];omega) (Nat.le_refl _) (by simp only[List.length_append,List.length_drop];omega) (by omega) (hx.sublist (List.drop_sublist _ _)) (fun x hx=>hS x (List.mem_of_mem_drop hx))
 refine .ao (by decide +kernel) fun K hK =>?_
 simp only[GN,U,simprocAttr]
 refine bj.kW hins (kB _ xs.length 138 [.ref (enc el)] hcl [_,_]) ?_
 rintro eA os' ⟨rfl,s',k1,k2,rfl⟩
 refine ⟨_,rfl,rfl,?_⟩
 try simp only[U,simprocAttr]
 refine .done (hK _ ?_);clear hK K
 have hSB:ma el 20 xs (d++s'):=by
  have:=r4 g2 ht k1 k2 (by rw[List.length_drop];omega)
  rwa [List.take_append_drop] at this
 clear k1 k2 hins g2 ht hdl hb hc g1
 generalize d++s'=d0 at hSB ⊢
 -- blocks are merged
 refine J.block (J.loop (fun s:Pz=>ar [(0,.view 1000000 [] 1 0 xs.length),(1,.int .i64 xs.length),(2,.func 138 [.ref (enc el)]),(6,.int .i64 s.bs)] (cz 1000000 (s.d++q))) (fun s=>20≤s.bs∧s.bs≤120∧ma el s.bs xs s.d) (fun s=>200-s.bs) ⟨20,d0⟩ ⟨Nat.le_refl _,(by show 20≤120;omega),hSB⟩ ?_ ?_)
 ·refine az.cJ ?_ (fun n=>rfl)
  simp[aT,aU]
 rintro ⟨bs,d1⟩ ⟨g1,g2,g3⟩
 simp only at g1 g2 g3 ⊢
 have hdl:=g3.1
 by_cases hb:bs<xs.length
 case neg =>
  have hc:=gh hb
  refine J.seq (J.seq ?_)
  refine .bD (by decide +kernel) fun K hK =>?_
  simp only[wO,U,simprocAttr]
  try simp only[hc,simprocAttr]
  refine .done (hK _ ?_);clear hK K;try simp only[al]
  refine J.bI ?_
  simp only[aj,U,simprocAttr]
  refine ⟨fun h =>?_,fun h =>?_⟩
  ·cases h
  refine J.exit ?_;try simp only[al,bP,simprocAttr]
  rw[lX]
  obtain ⟨k1,k2⟩:=Py g3 (by omega)
  exact nO rfl rfl ⟨rfl,d1,k1,k2,rfl⟩
 have hc:=fX hb
 have w1:=ami (x:=bs) (by omega)
 refine J.seq (J.seq ?_)
 refine .bD (by decide +kernel) fun K hK =>?_
 simp only[wO,U,simprocAttr]
 try simp only[hc,simprocAttr]
 refine .done (hK _ ?_);clear hK K;try simp only[al]
 refine J.bI ?_
 simp only[aj,U,simprocAttr]
 refine ⟨fun h =>?_,fun h =>?_⟩
 rotate_left
 ·cases h
 refine J.skip ?_;try simp only[al,simprocAttr]
 refine J.block (J.seq ?_)
 refine .bD (by decide +kernel) fun K hK =>?_
 simp only[GO,U,simprocAttr]
 try simp only[w1,simprocAttr]
 refine .done (hK _ ?_);clear hK K;try simp only[al]
 refine J.seq (J.block (J.loop (fun s:Nat×List Int=>ar [(0,.view 1000000 [] 1 0 xs.length),(1,.int .i64 xs.length),(2,.func 138 [.ref (enc el)]),(6,.int .i64 bs),(7,.int .i64 ((s.1*(2*bs):Nat):Int)),(8,.int .i64 (((s.1+1)*(2*bs):Nat):Int))] (cz 1000000 (s.2++d1.drop (s.1*(2*bs))++q)))
  (fun s=>s.1*(2*bs)≤xs.length∧ma el (2*bs) (xs.take (s.1*(2*bs))) s.2) (fun s=>xs.length-s.1*(2*bs)) (0,[]) ⟨by simp,by simp only[Nat.zero_mul,List.take_zero];exact zT el _⟩ ?_ ?_))
 ·simp only[Nat.zero_mul,Nat.zero_add,Nat.one_mul,List.drop_zero,List.nil_append]
  refine az.cJ ?_ (fun n=>rfl)
  simp[aT,aU]
 rintro ⟨u,e⟩ ⟨q1,q2⟩
 simp only at q1 q2 ⊢
 obtain ⟨A,hA⟩:∃ A,A=u*(2*bs):=⟨_,rfl⟩
 have hA1:(u+1)*(2*bs)=A+2*bs:=by rw[hA,Nat.add_mul];omega
 have hA2:2*u*bs=A:=by rw[hA,Nat.mul_comm 2 u,Nat.mul_assoc]
 have hA3:(2*u+1)*bs=A+bs:=by rw[Nat.add_mul,hA2];omega
 have hA4:(2*u+1+1)*bs=A+2*bs:=by rw[Nat.add_mul,hA3];omega
 have ht:(xs.take A).length=A:=by rw[List.length_take,hA];omega
 have hel2:e.length=A:=by rw[←q2.1,←hA,ht]
 obtain ⟨kl1,kl2⟩:=g3.2 (2*u)
 obtain ⟨kr1,kr2⟩:=g3.2 (2*u+1)
 have hlt2:=UE hx bs u
 have hd2:d1.drop A=dD d1 bs (2*u)++d1.drop (A+bs):=by
  have:=qw d1 bs (2*u)
  rwa [hA2,hA3] at this
 have hd3:d1.drop (A+bs)=dD d1 bs (2*u+1)++d1.drop (A+2*bs):=by
  have:=qw d1 bs (2*u+1)
  rwa [hA3,hA4] at this
 have hlr:∀ x∈dD d1 bs (2*u),∀ y∈dD d1 bs (2*u+1),x<y:=fun x h1 y h2=>hlt2 x (kl1.mem_iff.1 h1) y (kr1.mem_iff.1 h2)
 have hin:∀ x∈dD d1 bs (2*u)++dD d1 bs (2*u+1),jt el x:=fun x h1=>by
  rcases List.mem_append.1 h1 with h1 | h1
  ·exact hS x (vv (kl1.mem_iff.1 h1))
  ·exact hS x (vv (kr1.mem_iff.1 h1))
 rw[hA1]
 rw[←hA] at q1 q2 ⊢
 by_cases hb2:A+2*bs≤xs.length
 ·have hc2:=JH hb2
  have w2:=lb A bs (by omega)
  have w3:IntKind.i64.wrap (((A+2*bs:Nat):Int)+((2*bs:Nat):Int))=((A+2*bs+2*bs:Nat):Int):=lb _ _ (by omega)
  have ll:(dD d1 bs (2*u)).length=bs:=qv (by rw[hA3];omega)
  have lr:(dD d1 bs (2*u+1)).length=bs:=qv (by rw[hA4];omega)
  have hm:=zI el hd hel _ e (dD d1 bs (2*u)) (dD d1 bs (2*u+1)) (d1.drop (A+2*bs)++q) A (A+bs) (A+2*bs) xs.length (Nat.le_refl _) (by omega) (by omega) hel2 (by omega) (by omega) hb2 (by simp only[List.length_append,List.length_drop];omega) (by omega) kl2 kr2 hlr hin
  have e1:e++dD d1 bs (2*u)++dD d1 bs (2*u+1)++(d1.drop (A+2*bs)++q)=e++d1.drop A++q:=by rw[hd2,hd3];simp only[List.append_assoc]
  rw[e1] at hm
  have R:=And.intro @hc2 (And.intro @w2 (And.intro @aL @U))
  repeat' ((first
   |(with_reducible refine .guard (fun hb =>?_) (fun hb =>?_) <;>try simp only[hb])
   |refine J.aI (by decide +kernel) rfl fun K hK =>?_
   |(refine .aD [0,1,2,6,7,8,9,13,30,35,54] hK ?_;clear hK K)
   |(with_reducible refine .done (hK _ ?_);clear hK K)
   |refine J.of rfl ?_
   |(with_reducible refine aj.aH (fun h =>?_) (fun h =>?_) <;>try simp only[h])) <;>try simp only[aJ,R,simprocAttr])
  all_goals clear R
  refine bj.kW hm (kB _ xs.length 138 [.ref (enc el)] hcl [_,_,_]) ?_
  rintro eA os' ⟨rfl,s',k1,k2,rfl⟩
  refine ⟨_,rfl,rfl,?_⟩
  try simp only[U,simprocAttr]
  refine .done (hK _ ?_);clear hK K;try simp only[al]
  have R:=And.intro @w1 (And.intro @w3 (And.intro @aL @U))
  repeat' ((first
   |(with_reducible refine .guard (fun hb =>?_) (fun hb =>?_) <;>try simp only[hb])
   |refine J.aI (by decide +kernel) rfl fun K hK =>?_
   |(refine .aD [0,1,2,6,7,8,9,13,30,35,54] hK ?_;clear hK K)
   |(with_reducible refine .done (hK _ ?_);clear hK K)
   |refine J.of rfl ?_
   |(with_reducible refine aj.aH (fun h =>?_) (fun h =>?_) <;>try simp only[h])) <;>try simp only[aJ,R,simprocAttr])
  all_goals clear R
  refine ⟨(u+1,e++s'),⟨by simp only;omega,?_⟩,by simp only;omega,?_⟩
  ·simp only
   rw[NI,←hA]
   refine r4 q2 (ht.trans hA) (k1.trans ?_) k2 (by rw[qv (by omega)];omega)
   rw[CE]
   exact kl1.append kr1
  ·have e2:(u+1+1)*(2*bs)=A+2*bs+2*bs:=by rw[Nat.add_mul,hA1];omega
   simp only[hA1,e2,←List.append_assoc]
   refine az.cJ ?_ (fun n=>rfl)
   simp[aT,aU]
 have hc2:=J2 hb2
 refine J.seq (J.seq ?_)
 refine .bD (by decide +kernel) fun K hK =>?_
 simp only[GP,U,simprocAttr]
 try simp only[hc2,simprocAttr]
 refine .done (hK _ ?_);clear hK K;try simp only[al]
 refine J.bI ?_
 simp only[aj,U,simprocAttr]
 refine ⟨fun h =>?_,fun h =>?_⟩
 ·cases h
 refine J.exit ?_;try simp only[al,bP,simprocAttr]
 have w2:=lb A bs (by omega)
 have w4:=amj (x:=bs) (by omega)
 have bd:∀ s',s'.Perm (xs.drop A)→dn el s'→ma el (2*bs) xs (e++s'):=fun s' k1 k2=>by
  have:=r4 q2 (ht.trans hA) k1 k2 (by rw[List.length_drop];omega)
  rwa [List.take_append_drop] at this
 have hx1:xs.drop A=dD xs bs (2*u)++xs.drop (A+bs):=by
  have:=qw xs bs (2*u)
  rwa [hA2,hA3] at this
 have hx2:xs.drop (A+bs)=dD xs bs (2*u+1)++xs.drop (A+2*bs):=by
  have:=qw xs bs (2*u+1)
  rwa [hA3,hA4] at this
 by_cases hb3:A+bs<xs.length
 ·have hc3:=fX hb3
  have ll:(dD d1 bs (2*u)).length=bs:=qv (by rw[hA3];omega)
  have hdn:d1.drop (A+2*bs)=[]:=List.drop_eq_nil_of_le (by omega)
  have hxn:xs.drop (A+2*bs)=[]:=List.drop_eq_nil_of_le (by omega)
  have lr:(dD d1 bs (2*u+1)).length=xs.length-(A+bs):=by
   have:=congrArg List.length hd3
   rw[hdn,List.append_nil,List.length_drop] at this
   omega
  have hm:=zI el hd hel _ e (dD d1 bs (2*u)) (dD d1 bs (2*u+1)) q A (A+bs) xs.length xs.length (Nat.le_refl _) (by omega) (by omega) hel2 (by omega) (by omega) (Nat.le_refl _) (by simp only[List.length_append];omega) (by omega) kl2 kr2 hlr hin
  have e1:e++dD d1 bs (2*u)++dD d1 bs (2*u+1)++q=e++d1.drop A++q:=by rw[hd2,hd3,hdn];simp only[List.append_assoc,List.append_nil]
  rw[e1] at hm
  have R:=And.intro @hc3 (And.intro @w2 (And.intro @aL @U))
  repeat' ((first
   |(with_reducible refine .guard (fun hb =>?_) (fun hb =>?_) <;>try simp only[hb])
   |refine J.aI (by decide +kernel) rfl fun K hK =>?_
   |(refine .aD [0,1,2,6,7,8,9,13,30,35,54] hK ?_;clear hK K)
   |(with_reducible refine .done (hK _ ?_);clear hK K)
   |refine J.of rfl ?_
   |(with_reducible refine aj.aH (fun h =>?_) (fun h =>?_) <;>try simp only[h])) <;>try simp only[aJ,R,simprocAttr])
  all_goals clear R
  refine bj.kW hm (kB _ xs.length 138 [.ref (enc el)] hcl [_,_,_]) ?_
  rintro eA os' ⟨rfl,s',k1,k2,rfl⟩
  refine ⟨_,rfl,rfl,?_⟩
  try simp only[U,simprocAttr]
  refine .done (hK _ ?_);clear hK K;try simp only[al]
  have R:=And.intro @w4 (And.intro @aL @U)
  repeat' ((first
   |(with_reducible refine .guard (fun hb =>?_) (fun hb =>?_) <;>try simp only[hb])
   |refine J.aI (by decide +kernel) rfl fun K hK =>?_
   |(refine .aD [0,1,2,6,7,8,9,13,30,35,54] hK ?_;clear hK K)
   |(with_reducible refine .done (hK _ ?_);clear hK K)
   |refine J.of rfl ?_
   |(with_reducible refine aj.aH (fun h =>?_) (fun h =>?_) <;>try simp only[h])) <;>try simp only[aJ,R,simprocAttr])
  all_goals clear R
  refine ⟨⟨2*bs,e++s'⟩,⟨by simp only;omega,by simp only;omega,bd s' (k1.trans ?_) k2⟩,by simp only;omega,?_⟩
  ·rw[hx1,hx2,hxn,List.append_nil]
   exact kl1.append kr1
  ·refine az.cJ ?_ (fun n=>rfl)
   simp[aT,aU]
 ·have hc3:=gh hb3
  have hdn:d1.drop (A+bs)=[]:=List.drop_eq_nil_of_le (by omega)
  have hxn:xs.drop (A+bs)=[]:=List.drop_eq_nil_of_le (by omega)
  rw[hdn,List.append_nil] at hd2
  rw[hxn,List.append_nil] at hx1
  have R:=And.intro @hc3 (And.intro @w2 (And.intro @w4 (And.intro @aL @U)))
  repeat' ((first
   |(with_reducible refine .guard (fun hb =>?_) (fun hb =>?_) <;>try simp only[hb])
   |refine J.aI (by decide +kernel) rfl fun K hK =>?_
   |(refine .aD [0,1,2,6,7,8,9,13,30,35,54] hK ?_;clear hK K)
   |(with_reducible refine .done (hK _ ?_);clear hK K)
   |refine J.of rfl ?_
   |(with_reducible refine aj.aH (fun h =>?_) (fun h =>?_) <;>try simp only[h])) <;>try simp only[aJ,R,simprocAttr])
  all_goals clear R
  refine ⟨⟨2*bs,e++d1.drop A⟩,⟨by simp only;omega,by simp only;omega,bd _ (by rw[hd2,hx1];exact kl1) (by rw[hd2];exact kl2)⟩,by simp only;omega,?_⟩
  refine az.cJ ?_ (fun n=>rfl)
  simp[aT,aU]
theorem Oq(el:List au)(hd:mg el)(hel:el.length≤60)(xs q:List Int)(hx:xs.Pairwise (· < ·))(hS:∀ x∈xs,jt el x)(hn:xs.length≤60) :
  cH Tryz.prog 137 [.view 1000000 [] 1 0 xs.length,.func 138 [.ref (enc el)]] (cz 1000000 (xs++q)) (mY el [] xs q):=by
 refine cH.bp Tryz.func137 Cp Cy CM (Nat.le_of_ble_eq_true rfl) (Nat.le_of_ble_eq_true rfl) nR (fun hwf W0 D0 E1 =>?_)
 simp only[vh,yx,a6,Nat.zero_add]
 clear hwf
 refine .bD (by decide +kernel) fun K hK =>?_
 simp only[Fw,U,simprocAttr]
 try simp only[df,U,simprocAttr]
 refine bj.kW (OL el hd hel xs q hx hS hn) (kB _ xs.length 138 [.ref (enc el)] (by simp[I.bY,I.bt,dV]) [_]) ?_
 rintro eA os' ⟨rfl,s',k1,k2,rfl⟩
 refine ⟨_,rfl,rfl,?_⟩
 try simp only[U,simprocAttr]
 refine .done (hK _ ?_)
 clear hK K
 rw[lX]
 exact nO rfl rfl ⟨rfl,s',k1,k2,rfl⟩
def jl(l:List au)(day:Int)(xs:List Int):List (Nat×ah):=[(1000008,.box (.own 1000080 xs.length)),(1000080,.cU 3 xs),(1000003,.box (enc l)),(1000004,.box (enc day))]
theorem alN(l:List au)(day:Int)(xs ys:List Int):fB (jl l day xs) (jl l day ys):=by
 refine ⟨fun n=>by simp only[jl,aq,ak];(repeat' split) <;>rfl,fun n x h =>?_,fun n h =>?_⟩
 ·simp only[jl,ak] at h
  repeat' split at h
  all_goals first | (cases h;done) | (simp only[Option.some.injEq] at h;subst h;exact ⟨by simp[jl,aq,ak,ah.only,br,I.only],rfl⟩)
 ·simp only[jl,aq,ak] at h
  repeat' split at h
  all_goals first | omega | (simp at h;done)
def nE(l:List au)(day:Int)(i:Nat):Bool:=decide ((ab l i).kind≠0)&&decide ((ab l i).day≤day)
def lC(l:List au)(day known:Int)(k:Nat):List Nat:=((gO l known).take k).filter (nE l day)
theorem X8{l:List au}{day known:Int}{k:Nat}(hk:k<(gO l known).length):lC l day known (k+1)=lC l day known k++(if nE l day ((gO l known).getD k 0) then [(gO l known).getD k 0] else []):=by
 have e:(gO l known).getD k 0=(gO l known)[k]:=by rw[List.getD_eq_getElem?_getD,List.getElem?_eq_getElem hk];rfl
 simp only[lC]
 rw[List.take_succ_eq_append_getElem hk,List.filter_append,e]
 simp only[List.filter_cons,List.filter_nil]
theorem X6(l:List au)(day known:Int):lC l day known (gO l known).length=jL l day known:=by
 simp only[lC,List.take_length];rfl
theorem X7(l:List au)(day known:Int)(k:Nat):(lC l day known k).length≤l.length:=by
 have h1:=List.length_filter_le (nE l day) ((gO l known).take k)
 have h2:((gO l known).take k).length≤(gO l known).length:=by rw[List.length_take];omega
 have h3:(gO l known).length≤l.length:=by
  have:=List.length_filter_le (fun i=>(gC l known).getD i false) (List.range l.length)
  rwa [List.length_range] at this
 exact Nat.le_trans h1 (Nat.le_trans h2 h3)
theorem alM:(∀ (A:ae) n b m k m' k' rest,dm A none n [] b (.own m k) rest (some (.own m' k'))=ay rest (A.aM n (.box (.own m k)))) :=
 fun _ _ _ m k m' k' _=>by rw[ej (s:=none) (v:=.own m k) (old:=.own m' k') rfl rfl rfl,gZ]
theorem ND:(∀ n k,fJ n k (.own n k)=.view n [] 1 0 k)∧(∀ n k m p,fJ n k (.ptr m p)=.ptr m p)∧(∀ n k z,fJ n k (.nils z)=.nils z)∧(∀ {α:Type} [Enc α] n k (x:α),fJ n k (enc x)=enc x)∧(∀ n k i (x:Int),fJ n k (.int i x)=.int i x)∧(∀ n k f xs,fJ n k (.func f xs)=.func f xs)∧(∀ n k ks vs,fJ n k (.cT ks vs)=.cT ks vs)∧(∀ n k b,fJ n k (.bool b)=.bool b) ∧
  (∀ n,fI n (.own n 0)=.nils 1)∧(∀ n m p,fI n (.ptr m p)=.ptr m p)∧(∀ n z,fI n (.nils z)=.nils z)∧(∀ {α:Type} [Enc α] n (x:α),fI n (enc x)=enc x)∧(∀ n i (x:Int),fI n (.int i x)=.int i x)∧(∀ n f xs,fI n (.func f xs)=.func f xs)∧(∀ n ks vs,fI n (.cT ks vs)=.cT ks vs)∧(∀ n b,fI n (.bool b)=.bool b) ∧
  (∀ f v,iJ f (.box v)=.box (f v))∧(∀ f T xs,iJ f (.cU T xs)=.cU T xs)∧(∀ f ks vs,iJ f (.cu ks vs)=.cu ks vs) :=
 ⟨fun _ _=>by simp[fJ],fun _ _ _ _=>rfl,fun _ _ _=>rfl,fun _ _ x=>rI (br _ x),fun _ _ _ _=>rfl,fun _ _ _ _=>rfl,fun _ _ _ _=>rfl,fun _ _ _=>rfl,fun _=>by simp[fI],fun _ _ _=>rfl,fun _ _=>rfl,fun _ x=>ze (br _ x),fun _ _ _=>rfl,fun _ _ _=>rfl,fun _ _ _=>rfl,fun _ _=>rfl,fun _ _=>rfl,fun _ _ _=>rfl,fun _ _ _=>rfl⟩
theorem rZ(l:List au)(day known:Int)(hok:dJ l=true):aw Tryz.prog 88 [enc l,enc day,enc known] (rj l day known):=by
 have hl:=oE hok
 have hd:mg l:=fun i hi=>ajZ (qZ hok hi)
 refine aw.bp Tryz.func88 Sv Uu WB (Nat.le_of_ble_eq_true rfl) (fun hwf W0 D0 E1 =>?_)
 simp only[Cf,Mr,a6,Nat.zero_add,Nat.reduceAdd]
 clear hwf
 refine .ao (by decide +kernel) fun K hK =>?_
 simp only[IX,U,simprocAttr]
 refine .done (hK _ ?_);clear hK K
 refine .ao (by decide +kernel) fun K hK =>?_
 simp only[IY,U,simprocAttr]
 refine .done (hK _ ?_);clear hK K
 refine J.seq (J.seq ?_)
 refine .bD (by decide +kernel) fun K hK =>?_
 simp only[I3,U,simprocAttr]
 try simp only[cD,aL,U,simprocAttr]
 refine .lead _ (N4 l known hl) ?_
 try simp only[U,simprocAttr]
 refine .done (hK _ ?_);clear hK K;try simp only[al]
 refine J.sub (az.PO 8 80 3 1 [] _ rfl rfl rfl (B:=ar [(3,.ptr 3 []),(4,.ptr 4 []),(8,.ptr 8 []),(9,.nils 1),(17,.func 146 [.ref (enc l),.ref (enc (gC l known))])] [(8,.box (.own 80 0)),(80,.cU 3 []),(3,.box (enc l)),(4,.box (enc day))]) ?_) ?_
 ·simp only[gZ]
  refine az.bR ?_ ?_ ?_ ?_ <;>simp[aT,bN,bM,bg,aq,aU,cw,I.only,I.bV,ah.only,br,iw]
 refine J.block (J.kU (osb0:=jl l day []) (tsR:=[(3,.ptr 1000003 []),(4,.ptr 1000004 []),(8,.ptr 1000008 [])]) (ρ:=[(1999999,999999),(1000003,3),(1000004,4),(1000008,8),(1000080,80)])
  (fun k os=>os=jl l day (cm (lC l day known k)))
  (fun _ _=>False)
  rfl (Nat.le_of_ble_eq_true rfl) (by simp only[U,simprocAttr]) (by simp[I.bY,I.bt,dV]) Cq (Ow l (gC l known) hl (Ny l known)) (fun _=>rfl) rfl rfl rfl (fun o=>⟨?_,?_⟩) ?_ ?_ ?_ ?_ ?_ ?_ ?_)
 ·intro n x hx
  simp only[dE,jl,ak] at hx
  repeat' split at hx
  all_goals first | (cases hx;done) | (subst_vars;simp only[Option.some.injEq] at hx;subst hx;simp[dE,jl,aq,bJ,ak,ah.aR,I.aR,kb,ah.only,I.only,br,ah.eR,iw])
 ·intro a b ha hb
  simp only[dE,jl,aq,ak] at ha hb
  repeat' split at ha
  all_goals first | (simp at ha;done) | skip
  all_goals (repeat' split at hb)
  all_goals first | (simp at hb;done) | (subst_vars;simp[bJ])
 ·simp[mX,aU,I.aR,bJ,I.only,jl,aq,ak]
 ·rintro k os rfl;exact alN ..
 ·rintro e os h;exact h.elim
 ·simp[jl,lC,cm]
 ·rintro k osb hk rfl W1 D1 E1 tj o1 o2
  have hk':k<(gO l known).length:=hk
  have hdl:=X7 l day known k
  have hsu:=X8 (day:=day) hk'
  generalize lC l day known k=dk at hsu hdl ⊢
  obtain ⟨i,hi⟩:∃ i,i=(gO l known).getD k 0:=⟨_,rfl⟩
  have hil:i<l.length:=by
   rw[hi,List.getD_eq_getElem?_getD,List.getElem?_eq_getElem hk']
   exact Nz (List.getElem_mem hk')
  have hit:((jm (fun i=>(gC l known).getD i false) l.length).getD k 0)=i:=hi.symm
  rw[←hi] at hsu
  have he:=ic hil
  simp only[hit,rm,dE,jl]
  have R:=And.intro @aL @U
  repeat' ((first
   |(with_reducible refine .guard (fun hb =>?_) (fun hb =>?_) <;>try simp only[hb])
   |refine J.aI (by decide +kernel) rfl fun K hK =>?_
   |(refine .aD [0,1,2,3,4,6,7,8,9,10,11,12,14,17,18,33,45,46,47,48,64] hK ?_;clear hK K)
   |(with_reducible refine .done (hK _ ?_);clear hK K)
   |refine J.of rfl ?_
   |(with_reducible refine aj.aH (fun h =>?_) (fun h =>?_) <;>try simp only[h])) <;>try simp only[aJ,R,simprocAttr])
  all_goals clear R
  refine ⟨by simp[],?_⟩
  have hap:=fun (A:ae) d rest=>u4 (A:=A) (d:=d) (e:=3) (bytes:=8) (n:=1000080) (l:=(cm dk).length) (xs:=cm dk) (y:=(i:Int)) (rest:=rest) rfl (by simp[cm,maxLen];omega) (by simp[cm];omega)
  rcases h1:((ab l i).kind != 0) <;>rcases h2:decide ((ab l i).day≤day)
  all_goals
   have R:=And.intro @h1 (And.intro @h2 (And.intro @he (And.intro @hap (And.intro @cD (And.intro @alM (And.intro @ez (And.intro @bx (And.intro @aL @U))))))))
   repeat' ((first
    |(with_reducible refine .guard (fun hb =>?_) (fun hb =>?_) <;>try simp only[hb])
    |refine J.aI (by decide +kernel) rfl fun K hK =>?_
    |(refine .aD [0,1,2,3,4,6,7,8,9,10,11,12,14,17,18,33,45,46,47,48,64] hK ?_;clear hK K)
    |(with_reducible refine .done (hK _ ?_);clear hK K)
    |refine J.of rfl ?_
    |(with_reducible refine aj.aH (fun h =>?_) (fun h =>?_) <;>try simp only[h])) <;>try simp only[aJ,R,simprocAttr])
   all_goals clear R
  all_goals
   have hdue:nE l day i=(((ab l i).kind != 0)&&decide ((ab l i).day≤day)):=by simp only[nE,bne,ne_eq,decide_not];rfl
   rw[h1,h2] at hdue
   rw[hdue] at hsu
   refine ⟨_,?_,rfl⟩
   rw[hsu]
   intro n x hx
   simp only[dE,ak,if_true,Bool.false_eq_true,Bool.and_self,Bool.and_true,Bool.and_false,if_false,List.append_nil] at hx
   (repeat' split at hx) <;>first
    |(cases hx;done)
    |(subst_vars;simp only[Option.some.injEq] at hx;subst hx;simp[dE,aq,ar,ak,ah.only,I.only,br,ah.eR,cm])
 ·rintro os rfl
  have eN:lC l day known (jm (fun i=>(gC l known).getD i false) l.length).length=jL l day known:=X6 l day known
  simp only[eN,jl,dN,List.map_cons,List.map_nil,bJ,ah.aR,I.aR,kb,al,bP,reduceIte,Nat.reduceEqDiff,List.cons_append,List.nil_append]
  refine J.sub (B:=ar [(3,.ptr 3 []),(8,.ptr 8 []),(9,.nils 1)] [(8,.box (.own 80 (lB l day known).length)),(80,.cU 3 (lB l day known)),(3,.box (enc l))]) ?_ ?_
  ·refine az.bR ?_ ?_ ?_ ?_ <;>simp[*,aT,bN,bM,bg,aq,aU,cw,I.only,ah.only,br,iw,lB]
  have hlen:(lB l day known).length≤60:=by simp only[lB,cm,List.length_map];exact Nat.le_trans (sx l day known) hl
  have hris:=X5 l day known
  have hin:=X4 (l:=l) (day:=day) (known:=known)
  have heq:=fun s=>akm (l:=l) (day:=day) (known:=known) (s:=s)
  generalize lB l day known=xs at hlen hris hin heq ⊢
  by_cases hx0:xs=[]
  ·subst hx0
   have ho0:pZ l day known=[]:=(heq [] (List.Perm.refl _) List.Pairwise.nil).symm
   refine J.sub (az.NL (n:=80) (T:=3) rfl (B:=ar [(3,.ptr 3 []),(8,.ptr 8 []),(9,.nils 1)] [(8,.box (.nils 1)),(3,.box (enc l))]) ?_) ?_
   ·simp only[List.map_cons,List.map_nil,ND,List.length_nil]
    refine az.bR ?_ ?_ ?_ ?_ <;>simp[aT,bN,bM,bg,aq,aU,cw,I.only,ah.only,br]
   refine .ao (by decide +kernel) fun K hK =>?_
   simp only[xf,U,simprocAttr]
   try simp only[pP,kE,U,simprocAttr]
   refine .flat _ (Ot l) rfl ?_
   try simp only[U,simprocAttr]
   refine .done (hK _ ?_);clear hK K
   refine .ao (by decide +kernel) fun K hK =>?_
   simp only[xg,U,simprocAttr]
   try simp only[ez,U,simprocAttr]
   refine .done (hK _ ?_);clear hK K
   refine .ao (by decide +kernel) fun K hK =>?_
   simp only[xh,U,simprocAttr]
   refine .lead _ zu ?_
   try simp only[U,simprocAttr]
   refine .done (hK _ ?_);clear hK K
   refine J.seq (J.seq ?_)
   refine .bD (by decide +kernel) fun K hK =>?_
   simp only[xi,U,simprocAttr]
   try simp only[cD,df,bx,ez,U,simprocAttr]
   refine .done (hK _ ?_);clear hK K;try simp only[al]
   have hF:=zM l day known hok (W0:=W0) (D0:=D0) (E1:=E1)
   rw[ho0] at hF
   refine J.sub (az.oj [8] 45 (x:=.nils 1) (y:=enc ([]:List Int)) rfl (by rfl) ?_ ?_ ?_ ?_ ?_) hF
   ·simp[cE,bg,ah.only,I.only,I.bV,br]
   ·simp[aT,fG,aU,I.only,I.bV,kG]
   ·simp[bN,cE,ak]
   ·simp[bM,aq,ak,I.only,I.bV,br,kG]
   ·simp[bg,aq,ak,ah.only,I.only,I.bV,br]
  ·refine J.NK (n:=80) rfl hx0 (by omega) (tR (by simp[nK,I.only])) ?_ (fun q =>?_)
   ·intro m y hy hm
    simp only[ak] at hy
    repeat' split at hy
    all_goals first | (cases hy;done) | (exact absurd (by assumption) hm) | (simp only[Option.some.injEq] at hy;subst hy;first | exact .inl rfl | exact .inr (by simp[ah.only,br]))
   simp only[List.map_cons,List.map_nil,ND]
   refine .ao (by decide +kernel) fun K hK =>?_
   simp only[xf,U,simprocAttr]
   try simp only[cD,pP,kE,U,simprocAttr]
   refine .bX true [(1000000,80)] (cz 1000000 (xs++List.replicate q 0)) [.view 1000000 [] 1 0 xs.length,.func 138 [.ref (enc l)]] _ rfl (Oq l hd hl xs _ hris hin hlen) ?_ ?_ ?_ ?_
   ·refine ⟨fun m y hy =>?_,fun m m' h h' _=>by rw[dw.1 h,dw.1 h']⟩
    simp only[cz,ak] at hy
    split at hy
    ·rename_i hm
     cases hy
     subst hm
     exact ⟨by simp only[bJ,if_true,ak,ah.aR,I.aR,jg],oz _ _,rfl⟩
    ·cases hy
   ·refine ⟨.inl ⟨by simp[I.aR,bJ],dw.2 rfl,rfl⟩,.inr ?_,trivial⟩
    simp[bd,bZ,cv,ar,cE,jR,cz,bJ,ak,dV,m4]
   ·rintro eA os' ⟨rfl,s',k1,k2,rfl⟩
    refine ⟨fun m y hy =>?_,fun m m' h h' _=>by rw[dw.1 h,dw.1 h'],fun m hm=>by rw[dw.1 hm];exact dw.2 rfl,fun m a b=>by rw[dw.1 a] at b;simp[cz,aq,ak] at b,rfl,fun _=>rfl⟩
    simp only[cz,ak] at hy
    split at hy
    ·cases hy;exact ⟨oz _ _,rfl,fun _=>aiI _⟩
    ·cases hy
   ·rintro eA os' ⟨rfl,s',k1,k2,rfl⟩
    have hs':=heq s' k1 k2
    have hsl:xs.length=s'.length:=k1.length_eq.symm
    try simp only[cz,dN,List.map_cons,List.map_nil,ah.aR,I.aR,jg,bJ,reduceIte,List.cons_append,List.nil_append,I.cW,U,simprocAttr]
    refine .done (hK _ ?_);clear hK K
    refine .ao (by decide +kernel) fun K hK =>?_
    simp only[xg,U,simprocAttr]
    try simp only[ez,U,simprocAttr]
    refine .done (hK _ ?_);clear hK K
    refine .ao (by decide +kernel) fun K hK =>?_
    simp only[xh,U,simprocAttr]
    refine .lead _ zu ?_
    try simp only[U,simprocAttr]
    refine .done (hK _ ?_);clear hK K
    refine J.seq (J.seq ?_)
    refine .bD (by decide +kernel) fun K hK =>?_
    simp only[xi,U,simprocAttr]
    try simp only[cD,df,U,simprocAttr]
    refine .done (hK _ ?_);clear hK K;try simp only[al]
    have hF:=zM l day known hok (W0:=W0) (D0:=D0) (E1:=E1)
    rw[←hs'] at hF
    refine J.sub (az.oj [80,8] 45 (x:=.view 80 [] 1 0 xs.length) (y:=enc s') rfl ?_ ?_ ?_ ?_ ?_ ?_) hF
    ·have:ak (fW [80,8] [(43,ah.box (I.agg ([I.raw (Value.map none)].set 0 (I.mref 41)))),(41,ah.cu [] []),(80,ah.box (I.agg ((s'++List.replicate q 0).map enc))),(80,ah.box (I.agg ((xs++List.replicate q 0).map enc))),(8,ah.box (I.view 80 [] 1 0 xs.length)),(80,ah.cU 3 xs),(3,ah.box (enc l))]) 80=some (.box (.agg ((s'++List.replicate q 0).map enc))):=by
      rw[lP];simp[ak]
     try simp only[this,U,simprocAttr]
     exact vW hsl.symm
    ·simp[cE,bg,ah.only,I.only,I.bV,br]
    ·simp[aT,fG,aU,I.only,I.bV,kG,hsl]
    ·simp[bN,cE,ak]
    ·simp[bM,aq,ak,I.only,I.bV,br,kG]
    ·simp[bg,aq,ak,ah.only,I.only,I.bV,br]
 ·rintro e os h;exact h.elim
theorem Ob(n:Int):aw Tryz.prog 126 [enc n] (enc (!b7 0 100000 n)):=by
 refine aw.bp Tryz.func126 Q3 S0 Va (Nat.le_of_ble_eq_true rfl) (fun hwf W0 D0 E1 =>?_)
 simp only[AI,KZ,a6]
 have R:=And.intro @aL @U
 repeat' ((first
  |(with_reducible refine .guard (fun hb =>?_) (fun hb =>?_) <;>try simp only[hb])
  |refine J.aI (by decide +kernel) rfl fun K hK =>?_
  |refine .flat _ (uK _) rfl ?_
  |(refine .aD [0,2] hK ?_;clear hK K)
  |(with_reducible refine .done (hK _ ?_);clear hK K)
  |refine J.of rfl ?_
  |(with_reducible refine aj.aH (fun h =>?_) (fun h =>?_) <;>try simp only[h])) <;>try simp only[aJ,R,simprocAttr])
 all_goals clear R
abbrev iN:=bA 2 Int
def eS(a b:Int):iN:=⟨[a,b],rfl⟩
def eL(l:List au)(ns:List iN)(ds:List Int):Int:=if dJ l then (if ns.all (fun n=>b7 1 (n.g 1) (n.g 0)) then (if ds.any (fun d => !b7 0 100000 d) then 6 else 0) else 1) else 41
theorem Nt{A:ae}{n:Nat}{b:I}{x:iN}{u v:Int}{rest:List aB} : dm A (some 2) n [] b (enc x) rest (some (.agg [.int .i64 u,.int .i64 v]))=ay rest (A.aM n (.box (enc x))):=by
 have:=ej (A:=A) (n:=n) (p:=[]) (b:=b) (v:=enc x) (old:=.agg [.int .i64 u,.int .i64 v]) (rest:=rest) (s:=some 2) (dG _) (by rw[fS];rfl) (eD x)
 rw[this,gZ]
theorem nG :
  (∀ (x:iN) y,iV (0:Int) 2 (iU 2 1 (x.l.map enc) y)=y)∧(∀ (x:iN) y,iV (1:Int) 2 (iU 2 1 (x.l.map enc) y)=y)∧(∀ x:iN,(x.l.map (enc (α:=Int)))[0]?=some (I.int .i64 (x.g 0)))∧(∀ x:iN,(x.l.map (enc (α:=Int)))[1]?=some (I.int .i64 (x.g 1))) ∧
  (∀ x:iN,(enc x:I).di=some (x.l.map enc))∧(∀ x:iN,b5 (some 2) (enc x)=true)∧((0:Int).toNat=0)∧((1:Int).toNat=1) :=
 ⟨fun x y=>pG 1 x (by decide) rfl,fun x y=>pG 1 x (by decide) rfl,fun x=>sZ x (by decide),fun x=>sZ x (by decide),fun _=>rfl,fun x=>by rw[fS];rfl,rfl,rfl⟩
theorem qj(l:List au)(ns:List iN)(ds:List Int):aw Tryz.prog 67 [enc l,enc ns,enc ds] (enc (eL l ns ds)):=by
 refine aw.bp Tryz.func67 Sd Ue Wl (Nat.le_of_ble_eq_true rfl) (fun hwf W0 D0 E1 =>?_)
 simp only[BX,Mb,a6,Nat.zero_add,Nat.reduceAdd]
 have hnl:ns.length≤maxLen:=((ku ns).1 hwf.2.1).1
 simp only[maxLen] at hnl
 have hF64:=Pe l
 simp only[eL]
 rcases hok:dJ l
 ·rw[hok,if_neg (by decide)] at hF64
  have R:=And.intro @hok (And.intro @bx (And.intro @aL @U))
  repeat' ((first
   |(with_reducible refine .guard (fun hb =>?_) (fun hb =>?_) <;>try simp only[hb])
   |refine J.aI (by decide +kernel) rfl fun K hK =>?_
   |refine .flat _ (hF64) rfl ?_
   |(refine .aD [0,1,2,6,7,9,13,15,16,17,18,26,29] hK ?_;clear hK K)
   |(with_reducible refine .done (hK _ ?_);clear hK K)
   |refine J.of rfl ?_
   |(with_reducible refine aj.aH (fun h =>?_) (fun h =>?_) <;>try simp only[h])) <;>try simp only[aJ,R,simprocAttr])
  all_goals clear R
 rw[hok,if_pos rfl] at hF64
 have R:=And.intro @hok (And.intro @bx (And.intro @aL @U))
 repeat' ((first
  |(with_reducible refine .guard (fun hb =>?_) (fun hb =>?_) <;>try simp only[hb])
  |refine J.aI (by decide +kernel) rfl fun K hK =>?_
  |refine .flat _ (hF64) rfl ?_
  |(refine .aD [0,1,2,6,7,9,13,15,16,17,18,26,29] hK ?_;clear hK K)
  |(with_reducible refine .done (hK _ ?_);clear hK K)
  |refine J.of rfl ?_
  |(with_reducible refine aj.aH (fun h =>?_) (fun h =>?_) <;>try simp only[h])) <;>try simp only[aJ,R,simprocAttr])
 all_goals clear R
 refine J.loop (fun i:Nat=>ar [(2,enc ds),(15,enc ns),(16,.int .i64 ns.length),(17,.int .i64 i)] []) (fun i=>i≤ns.length∧∀ k,(h:k<ns.length)→k<i→b7 1 ((ns[k]).g 1) ((ns[k]).g 0)=true) (fun i=>ns.length-i) 0 ⟨Nat.zero_le _,fun k _ hk=>by omega⟩ ?_ (fun i hi =>?_)
 ·refine az.bR ?_ ?_ ?_ ?_ <;>simp[aT,bN,bM,bg,aU,I.only,br]
 obtain ⟨hi1,hi2⟩:=hi
 by_cases hlt:i<ns.length
 ·have hc:=fX hlt
  have he:=fun A=>ew (A:=A) 2 hlt rfl
  have hw:=fk (i:=i) (by omega)
  obtain ⟨x,hx⟩:∃ x,x=ns[i]:=⟨_,rfl⟩
  rw[←hx] at he
  rcases hp:b7 1 (x.g 1) (x.g 0)
  ·have hall:(ns.all fun n=>b7 1 (n.g 1) (n.g 0))=false:=by
    rw[List.all_eq_false]
    exact ⟨x,hx▸List.getElem_mem hlt,by rw[hp];decide⟩
   have R:=And.intro @hc (And.intro @he (And.intro @hp (And.intro @hall (And.intro @Nt (And.intro @nG (And.intro @bx @U))))))
   repeat' ((first
    |(with_reducible refine .guard (fun hb =>?_) (fun hb =>?_) <;>try simp only[hb])
    |refine J.aI (by decide +kernel) rfl fun K hK =>?_
    |refine .flat _ (l8 _ _ _) rfl ?_
    |(refine .aD [0,1,2,6,7,9,13,15,16,17,18,26,29] hK ?_;clear hK K)
    |(with_reducible refine .done (hK _ ?_);clear hK K)
    |refine J.of rfl ?_
    |(with_reducible refine aj.aH (fun h =>?_) (fun h =>?_) <;>try simp only[h])) <;>try simp only[aJ,R,simprocAttr])
   all_goals clear R
  ·have R:=And.intro @hc (And.intro @he (And.intro @hp (And.intro @hw (And.intro @Nt (And.intro @nG (And.intro @bx @U))))))
   repeat' ((first
    |(with_reducible refine .guard (fun hb =>?_) (fun hb =>?_) <;>try simp only[hb])
    |refine J.aI (by decide +kernel) rfl fun K hK =>?_
    |refine .flat _ (l8 _ _ _) rfl ?_
    |(refine .aD [0,1,2,6,7,9,13,15,16,17,18,26,29] hK ?_;clear hK K)
    |(with_reducible refine .done (hK _ ?_);clear hK K)
    |refine J.of rfl ?_
    |(with_reducible refine aj.aH (fun h =>?_) (fun h =>?_) <;>try simp only[h])) <;>try simp only[aJ,R,simprocAttr])
   all_goals clear R
   refine ⟨i+1,⟨by omega,fun k hk hki =>?_⟩,by omega,?_⟩
   ·by_cases e:k=i
    ·subst e;rw[←hx];exact hp
    ·exact hi2 k hk (by omega)
   ·refine az.bR ?_ ?_ ?_ ?_ <;>simp[aT,bN,bM,bg,aU,br,I.only]
 ·have hc:=gh hlt
  have hall:(ns.all fun n=>b7 1 (n.g 1) (n.g 0))=true:=by
   rw[List.all_eq_true]
   intro x hx
   obtain ⟨k,hk,rfl⟩:=List.getElem_of_mem hx
   exact hi2 k hk (by omega)
  have hF:=uJ ds 126 [] rfl (fun d => !b7 0 100000 d) (fun x _=>Ob x)
  rcases hd:ds.any fun d => !b7 0 100000 d
  all_goals
   rw[hd] at hF
   have R:=And.intro @hc (And.intro @hall (And.intro @hd (And.intro @bx (And.intro @aL @U))))
   repeat' ((first
    |(with_reducible refine .guard (fun hb =>?_) (fun hb =>?_) <;>try simp only[hb])
    |refine J.aI (by decide +kernel) rfl fun K hK =>?_
    |refine .flat _ (hF) rfl ?_
    |(refine .aD [0,1,2,6,7,9,13,15,16,17,18,26,29] hK ?_;clear hK K)
    |(with_reducible refine .done (hK _ ?_);clear hK K)
    |refine J.of rfl ?_
    |(with_reducible refine aj.aH (fun h =>?_) (fun h =>?_) <;>try simp only[h])) <;>try simp only[aJ,R,simprocAttr])
   all_goals clear R
def db(l:List au)(day known:Int):List aA:=(iE fo l (fw l day known)).1
def amd(l:List au)(day known:Int):List Int:=dX (cm (iE fo l (fw l day known)).2)
theorem tY(l:List au)(day known:Int):rj l day known=.tuple [gJ (db l day known),enc (amd l day known)]:=rfl
theorem tc{l:List au}(hok:dJ l=true)(day known:Int):((db l day known).map (·.no)).Nodup∧(db l day known).length≤60∧∀ b∈db l day known,b.bu.length≤60:=by
 have h:=tX l (fw l day known) _ (Nat.le_refl _)
 rw[ym] at h
 have h2:(fw l day known).length≤60:=by rw[yj];exact Nat.le_trans (sx l day known) (oE hok)
 exact ⟨h.1,by simp only[db];omega,fun b hb=>by have:=h.2.2.1 b hb;omega⟩
theorem tq(bs:List aA)(no:Int):gv (.i .i64) .nilp (.int .i64 no) (dp bs) (bs.map fun b=>.ref (enc (⟨b⟩:eF)))=match cC bs no with
  |some b=>some (.ref (enc (⟨b⟩:eF)),true)
  |none=>some (.nilp,false):=by
 have h1:=sY (bs:=bs) (no:=no)
 have h2:=xR vO .nilp no (bs.map (·.no)) (bs.map fun b=>.ref (enc (⟨b⟩:eF)))
 rw[iw] at h2
 unfold dp
 rw[h2]
 cases h:(bs.map (·.no)).findIdx? fun x=>decide (no=x) with
 |none=>rw[h] at h1;simp only at h1;rw[h1]
 |some i =>
  rw[h] at h1
  obtain ⟨hi,g1,g2⟩:=h1
  rw[g1]
  simp[hi]
theorem UP(bs:List aA):I.bY (bs.map fun b=>.ref (enc (⟨b⟩:eF)))=true:=by
 induction bs with
 |nil=>rfl
 |cons b bs ih=>simp only[List.map_cons,I.bY,I.bt,dV,ih,Bool.and_self]
theorem UJ(bs:List aA):(I.cT (dp bs) (bs.map fun b=>.ref (enc (⟨b⟩:eF)))).bt=true:=by
 simp only[I.bt,UP,Bool.and_true];exact jI _
theorem oq:(∀ bs,(gJ bs).bt=true)∧(∀ aC A bs,bd aC A (gJ bs)=some (gJ bs))∧(∀ bs,(gJ bs).cq=true)∧(∀ bs,b5 none (gJ bs)=true)∧(∀ p bs,(gJ bs).only p=true)∧(∀ x:eF,(enc x:I).bt=true)∧(∀ bs,mG (gJ bs)=some (gJ bs)) ∧
  (∀ A bs,lH A 0 0 (gJ bs)=some (.ref (.cT (dp bs) (bs.map fun b=>.ref (enc (⟨b⟩:eF))))))∧(∀ x:eF,mG (.ref (enc x))=some (.ref (enc x))) :=
 have h:∀ bs,(I.agg [.cT (dp bs) (bs.map fun b=>.ref (enc (⟨b⟩:eF)))]).bt=true:=fun bs=>by simp only[I.bt,I.bY,Bool.and_true];exact UJ bs
 ⟨fun bs=>by simp only[gJ,I.bt];exact h bs,fun aC A bs=>by simp only[gJ,bd,h bs,if_true],fun _=>rfl,fun _=>rfl,fun p bs=>jS p _ (by simp only[gJ,I.bt];exact h bs),fun x=>dV x,fun _=>rfl,
  fun A bs=>by simp[gJ,lH,I.di,qC,pB,dI,I.sizes],fun _=>rfl⟩
theorem NN:(∀ k n,(I.int k n).cq=true)∧(∀ b,(I.bool b).cq=true):=⟨fun _ _=>rfl,fun _=>rfl⟩
theorem nc{l:List au}{ns:List iN}{ds:List Int}(h:eL l ns ds=0):dJ l=true:=by
 simp only[eL] at h
 split at h
 ·assumption
 ·cases h
theorem mE{a:Int}(h:a=0):(a != 0)=false:=by simp[h]
theorem mF{a:Int}(h:¬ a=0):(a != 0)=true:=by simp[h]
theorem qu(a b:Int):iv 1 (some [.int .i64 a,.int .i64 b])=some (enc [a,b]):=m8 (ys:=[a,b]) 1 rfl
theorem rV(l:List au)(known:Int)(hok:dJ l=true):aw Tryz.prog 68 [enc l,enc known] (gJ (db l 100000 known)):=by
 refine aw.bp Tryz.func68 Se Uf Wm (Nat.le_of_ble_eq_true rfl) (fun hwf W0 D0 E1 =>?_)
 simp only[BY,Mc,a6,Nat.zero_add]
 have hF:=rZ l 100000 known hok
 rw[tY] at hF
 have R:=And.intro @oq (And.intro @aL @U)
 repeat' ((first
  |(with_reducible refine .guard (fun hb =>?_) (fun hb =>?_) <;>try simp only[hb])
  |refine J.aI (by decide +kernel) rfl fun K hK =>?_
  |refine .lead _ (hF) ?_
  |(refine .aD [0,1,4,5] hK ?_;clear hK K)
  |(with_reducible refine .done (hK _ ?_);clear hK K)
  |refine J.of rfl ?_
  |(with_reducible refine aj.aH (fun h =>?_) (fun h =>?_) <;>try simp only[h])) <;>try simp only[aJ,R,simprocAttr])
 all_goals clear R
theorem Pp(b:aA):aw Tryz.prog 89 [.ref (enc (⟨b⟩:eF))] (enc (!decide (0≤b.dA))):=by
 refine aw.bp Tryz.func89 Sw Uv WC (Nat.le_of_ble_eq_true rfl) (fun hwf W0 D0 E1 =>?_)
 simp only[Cg,Ms,a6]
 have R:=And.intro @oq (And.intro @aL @U)
 repeat' ((first
  |(with_reducible refine .guard (fun hb =>?_) (fun hb =>?_) <;>try simp only[hb])
  |refine J.aI (by decide +kernel) rfl fun K hK =>?_
  |refine .flat _ (jn _) rfl ?_
  |(refine .aD [0,2] hK ?_;clear hK K)
  |(with_reducible refine .done (hK _ ?_);clear hK K)
  |refine J.of rfl ?_
  |(with_reducible refine aj.aH (fun h =>?_) (fun h =>?_) <;>try simp only[h])) <;>try simp only[aJ,R,simprocAttr])
 all_goals clear R
def qo(l:List au)(day known:Int):List Int×Int:=if eL l [] [day,known]=0 then (dX (((db l day known).filter fun b => !decide (0≤b.dA)).map (·.no)),0) else ([],eL l [] [day,known])
theorem O8(l:List au)(day known:Int):aw Tryz.prog 26 [enc l,enc day,enc known] (.tuple [enc (qo l day known).1,enc (qo l day known).2]):=by
 refine aw.bp Tryz.func26 R2 T3 Wa (Nat.le_of_ble_eq_true rfl) (fun hwf W0 D0 E1 =>?_)
 simp only[BN,L1,a6,Nat.zero_add,Nat.reduceAdd]
 clear hwf
 have hC:=qj l [] [day,known]
 simp only[qo]
 generalize hc:eL l [] [day,known]=e at hC ⊢
 by_cases he:e=0
 ·have hn:=mE he
  subst he
  have hok:=nc hc
  have hF:=rZ l day known hok
  rw[tY] at hF
  have hb:=tc hok day known
  have hN:=uQ (db l day known) hb.2.1 89 [] rfl (fun b => !decide (0≤b.dA)) (fun b _=>Pp b)
  have R:=And.intro @hn (And.intro @qu (And.intro @oq (And.intro @kE (And.intro @aL @U))))
  repeat' ((first
   |(with_reducible refine .guard (fun hb =>?_) (fun hb =>?_) <;>try simp only[hb])
   |refine J.aI (by decide +kernel) rfl fun K hK =>?_
   |refine .flat _ (hC) rfl ?_
   |refine .lead _ (hF) ?_
   |refine .lead _ (hN) ?_
   |(refine .aD [0,1,2,6,7,8,9,17] hK ?_;clear hK K)
   |(with_reducible refine .done (hK _ ?_);clear hK K)
   |refine J.of rfl ?_
   |(with_reducible refine aj.aH (fun h =>?_) (fun h =>?_) <;>try simp only[h])) <;>try simp only[aJ,R,simprocAttr])
  all_goals clear R
  all_goals rfl
 ·have hn:=mF he
  have R:=And.intro @hn (And.intro @he (And.intro @qu (And.intro @aL @U)))
  repeat' ((first
   |(with_reducible refine .guard (fun hb =>?_) (fun hb =>?_) <;>try simp only[hb])
   |refine J.aI (by decide +kernel) rfl fun K hK =>?_
   |refine .flat _ (hC) rfl ?_
   |(refine .aD [0,1,2,6,7,8,9,17] hK ?_;clear hK K)
   |(with_reducible refine .done (hK _ ?_);clear hK K)
   |refine J.of rfl ?_
   |(with_reducible refine aj.aH (fun h =>?_) (fun h =>?_) <;>try simp only[h])) <;>try simp only[aJ,R,simprocAttr])
  all_goals clear R
  all_goals rfl
def ta(l:List au)(no day known:Int):Int×Int:=if eL l [eS no 9999] [day,known]=0 then (match cC (db l day known) no with
 |none=>(0,42)
 |some b=>if 0≤b.dA then (0,0) else (b.bQ,0)) else (0,eL l [eS no 9999] [day,known])
theorem An(a b:Int):iv 2 (some [.agg [.int .i64 a,.int .i64 b]])=some (enc [eS a b]):=m8 (ys:=[eS a b]) 2 rfl
theorem Ao(a b c d:Int):iv 2 (some [.agg [.int .i64 a,.int .i64 b],.agg [.int .i64 c,.int .i64 d]])=some (enc [eS a b,eS c d]):=m8 (ys:=[eS a b,eS c d]) 2 rfl
theorem eK:(type_of% @aL)∧(type_of% @gQ)∧(type_of% @oq)∧(type_of% @kE)∧(type_of% @ez)∧(type_of% @cD)∧(type_of% @bx)∧(type_of% @qu)∧(type_of% @An)∧(type_of% @Ao)∧(type_of% @Am)∧(type_of% @NN)∧(type_of% @U):=⟨@aL,@gQ,@oq,@kE,@ez,@cD,@bx,@qu,@An,@Ao,@Am,@NN,@U⟩
theorem O9(l:List au)(no day known:Int):aw Tryz.prog 27 [enc l,enc no,enc day,enc known] (.tuple [enc (ta l no day known).1,enc (ta l no day known).2]):=by
 refine aw.bp Tryz.func27 R3 T4 Wb (Nat.le_of_ble_eq_true rfl) (fun hwf W0 D0 E1 =>?_)
 simp only[BO,L2,a6,Nat.zero_add,Nat.reduceAdd]
 clear hwf
 have hC:=qj l [eS no 9999] [day,known]
 simp only[ta]
 generalize hc:eL l [eS no 9999] [day,known]=e at hC ⊢
 by_cases he:e=0
 ·have hn:=mE he
  subst he
  have hok:=nc hc
  have hF:=rZ l day known hok
  rw[tY] at hF
  have hk:=tq (db l day known) no
  cases hg:cC (db l day known) no with
  |none =>
   rw[hg] at hk
   have R:=And.intro @hn (And.intro @hk eK)
   repeat' ((first
    |(with_reducible refine .guard (fun hb =>?_) (fun hb =>?_) <;>try simp only[hb])
    |refine J.aI (by decide +kernel) rfl fun K hK =>?_
    |refine .flat _ (hC) rfl ?_
    |refine .lead _ (hF) ?_
    |(refine .aD [0,1,2,3,8,9,10,11,13,23,38,41] hK ?_;clear hK K)
    |(with_reducible refine .done (hK _ ?_);clear hK K)
    |refine J.of rfl ?_
    |(with_reducible refine aj.aH (fun h =>?_) (fun h =>?_) <;>try simp only[h])) <;>try simp only[aJ,R,simprocAttr])
   all_goals clear R
  |some b =>
   rw[hg] at hk
   rcases hd:decide (0≤b.dA)
   all_goals
    have R:=And.intro @hn (And.intro @hk (And.intro @hd eK))
    repeat' ((first
     |(with_reducible refine .guard (fun hb =>?_) (fun hb =>?_) <;>try simp only[hb])
     |refine J.aI (by decide +kernel) rfl fun K hK =>?_
     |refine .flat _ (hC) rfl ?_
     |refine .lead _ (hF) ?_
     |refine .flat _ (jn _) rfl ?_
     |(refine .aD [0,1,2,3,8,9,10,11,13,23,38,41] hK ?_;clear hK K)
     |(with_reducible refine .done (hK _ ?_);clear hK K)
     |refine J.of rfl ?_
     |(with_reducible refine aj.aH (fun h =>?_) (fun h =>?_) <;>try simp only[h])) <;>try simp only[aJ,R,simprocAttr])
    all_goals clear R
    simp only[decide_eq_true_eq,decide_eq_false_iff_not] at hd
    simp[hd]
 ·have hn:=mF he
  have R:=And.intro @hn (And.intro @he eK)
  repeat' ((first
   |(with_reducible refine .guard (fun hb =>?_) (fun hb =>?_) <;>try simp only[hb])
   |refine J.aI (by decide +kernel) rfl fun K hK =>?_
   |refine .flat _ (hC) rfl ?_
   |(refine .aD [0,1,2,3,8,9,10,11,13,23,38,41] hK ?_;clear hK K)
   |(with_reducible refine .done (hK _ ?_);clear hK K)
   |refine J.of rfl ?_
   |(with_reducible refine aj.aH (fun h =>?_) (fun h =>?_) <;>try simp only[h])) <;>try simp only[aJ,R,simprocAttr])
  all_goals clear R
  all_goals rfl
theorem Pq(b:aA)(o s:Int):aw Tryz.prog 91 [.ref (enc (⟨b⟩:eF)),.ref (enc o),.ref (enc s)] (enc (!decide (0≤b.dA)&&(b.bQ==o&&b.er==s))):=by
 refine aw.bp Tryz.func91 Sy Ux WE (Nat.le_of_ble_eq_true rfl) (fun hwf W0 D0 E1 =>?_)
 simp only[Ci,Mu,a6,Nat.zero_add,Nat.reduceAdd]
 have R:=eK
 repeat' ((first
  |(with_reducible refine .guard (fun hb =>?_) (fun hb =>?_) <;>try simp only[hb])
  |refine J.aI (by decide +kernel) rfl fun K hK =>?_
  |refine .flat _ (jn _) rfl ?_
  |(refine .aD [0,1,2,4] hK ?_;clear hK K)
  |(with_reducible refine .done (hK _ ?_);clear hK K)
  |refine J.of rfl ?_
  |(with_reducible refine aj.aH (fun h =>?_) (fun h =>?_) <;>try simp only[h])) <;>try simp only[aJ,R,simprocAttr])
 all_goals clear R
 all_goals simp_all
def sr(l:List au)(o s day known:Int):Int×Int:=if eL l [eS o 99,eS s 9] [day,known]=0 then ((((db l day known).filter fun b => !decide (0≤b.dA)&&(b.bQ==o&&b.er==s)).length:Int),0) else (0,eL l [eS o 99,eS s 9] [day,known])
theorem Pa(l:List au)(o s day known:Int):aw Tryz.prog 28 [enc l,enc o,enc s,enc day,enc known] (.tuple [enc (sr l o s day known).1,enc (sr l o s day known).2]):=by
 refine aw.bp Tryz.func28 R4 T5 Wc (Nat.le_of_ble_eq_true rfl) (fun hwf W0 D0 E1 =>?_)
 simp only[BP,L3,a6,Nat.zero_add,Nat.reduceAdd]
 clear hwf
 have hC:=qj l [eS o 99,eS s 9] [day,known]
 simp only[sr]
 generalize hc:eL l [eS o 99,eS s 9] [day,known]=e at hC ⊢
 by_cases he:e=0
 ·have hn:=mE he
  subst he
  have hok:=nc hc
  have hF:=rZ l day known hok
  rw[tY] at hF
  have hb:=tc hok day known
  have hN:=uQ (db l day known) hb.2.1 91 [.ref (enc o),.ref (enc s)] rfl (fun b => !decide (0≤b.dA)&&(b.bQ==o&&b.er==s)) (fun b _=>Pq b o s)
  have R:=And.intro @hn (And.intro @pP eK)
  repeat' ((first
   |(with_reducible refine .guard (fun hb =>?_) (fun hb =>?_) <;>try simp only[hb])
   |refine J.aI (by decide +kernel) rfl fun K hK =>?_
   |refine .flat _ (hC) rfl ?_
   |refine .lead _ (hF) ?_
   |(refine .aD [0,1,2,3,4,6,7,10,11,12,13,26] hK ?_;clear hK K)
   |(with_reducible refine .done (hK _ ?_);clear hK K)
   |refine J.of rfl ?_
   |(with_reducible refine aj.aH (fun h =>?_) (fun h =>?_) <;>try simp only[h])) <;>try simp only[aJ,R,simprocAttr])
  all_goals clear R
  refine .gU [6,7] _ rfl hN ?_ ?_ ?_
  ·simp[bd,bZ,cv,ar,fW,ak,m4,oq,I.bt]
   exact ⟨rfl,rfl⟩
  ·simp[bg,cE]
  ·have hlen:(dX (((db l day known).filter fun b => !decide (0≤b.dA)&&(b.bQ==o&&b.er==s)).map (·.no))).length=((db l day known).filter fun b => !decide (0≤b.dA)&&(b.bQ==o&&b.er==s)).length:=by simp[dX]
   try simp only[fG,List.map_cons,List.map_nil,hlen,eK,U,simprocAttr]
   have R:=And.intro @hlen eK
   repeat' ((first
    |(with_reducible refine .guard (fun hb =>?_) (fun hb =>?_) <;>try simp only[hb])
    |refine J.aI (by decide +kernel) rfl fun K hK =>?_
    |(refine .aD [0,1,2,3,4,6,7,10,11,12,13,26] hK ?_;clear hK K)
    |(with_reducible refine .done (hK _ ?_);clear hK K)
    |refine J.of rfl ?_
    |(with_reducible refine aj.aH (fun h =>?_) (fun h =>?_) <;>try simp only[h])) <;>try simp only[aJ,R,simprocAttr])
   all_goals clear R
 ·have hn:=mF he
  have R:=And.intro @hn (And.intro @he eK)
  repeat' ((first
   |(with_reducible refine .guard (fun hb =>?_) (fun hb =>?_) <;>try simp only[hb])
   |refine J.aI (by decide +kernel) rfl fun K hK =>?_
   |refine .flat _ (hC) rfl ?_
   |(refine .aD [0,1,2,3,4,6,7,10,11,12,13,26] hK ?_;clear hK K)
   |(with_reducible refine .done (hK _ ?_);clear hK K)
   |refine J.of rfl ?_
   |(with_reducible refine aj.aH (fun h =>?_) (fun h =>?_) <;>try simp only[h])) <;>try simp only[aJ,R,simprocAttr])
  all_goals clear R
  all_goals rfl
theorem eP(m:cn):b5 (some 7) (enc m)=true:=by rw[fS];rfl
theorem rW(m:cn)(b:aA):aw Tryz.prog 69 [enc m,.ref (enc (⟨b⟩:eF))] (enc (ft m b.bu).1):=by
 refine aw.bp Tryz.func69 Sf Ug Wn (Nat.le_of_ble_eq_true rfl) (fun hwf W0 D0 E1 =>?_)
 simp only[BZ,Md,a6,Nat.zero_add]
 clear hwf
 have hC:=Oc m b.bu
 have R:=And.intro @eP eK
 repeat' ((first
  |(with_reducible refine .guard (fun hb =>?_) (fun hb =>?_) <;>try simp only[hb])
  |refine J.aI (by decide +kernel) rfl fun K hK =>?_
  |refine .lead _ (hC) ?_
  |(refine .aD [0,1,2,4,5] hK ?_;clear hK K)
  |(with_reducible refine .done (hK _ ?_);clear hK K)
  |refine J.of rfl ?_
  |(with_reducible refine aj.aH (fun h =>?_) (fun h =>?_) <;>try simp only[h])) <;>try simp only[aJ,R,simprocAttr])
 all_goals clear R
theorem Oe(l:List Int)(n:Int):aw Tryz.prog 131 [enc l,enc n] (enc (nz (fun x=>n==x) l)):=by
 refine aw.bp Tryz.func131 Q8 S5 Vf (Nat.le_of_ble_eq_true rfl) (fun hwf W0 D0 E1 =>?_)
 simp only[AN,K4,a6,Nat.zero_add]
 have hlen:l.length≤maxLen:=((ku l).1 hwf.1).1
 simp only[maxLen] at hlen
 clear hwf
 have R:=And.intro @bx @U
 repeat' ((first
  |(with_reducible refine .guard (fun hb =>?_) (fun hb =>?_) <;>try simp only[hb])
  |refine J.aI (by decide +kernel) rfl fun K hK =>?_
  |(refine .aD [0,1,4,5,7,8,9,16] hK ?_;clear hK K)
  |(with_reducible refine .done (hK _ ?_);clear hK K)
  |refine J.of rfl ?_
  |(with_reducible refine aj.aH (fun h =>?_) (fun h =>?_) <;>try simp only[h])) <;>try simp only[aJ,R,simprocAttr])
 all_goals clear R
 refine J.loop (fun i:Nat=>ar [(0,enc l),(1,.int .i64 n),(7,.int .i64 l.length),(8,.int .i64 i)] []) (fun i=>i≤l.length∧∀ x∈l.take i,(n==x)=false) (fun i=>l.length-i) 0 ⟨Nat.zero_le _,by simp⟩ ?_ (fun i hi =>?_)
 ·refine az.bR ?_ ?_ ?_ ?_ <;>simp[aT,bN,bM,bg,aU,I.only,br]
 obtain ⟨hi1,hi2⟩:=hi
 by_cases hlt:i<l.length
 ·have hc:=fX hlt
  have he:=fun A=>ew (A:=A) 1 hlt rfl
  have hw:=fk (i:=i) (by omega)
  rcases hp:(n==l[i])
  ·have R:=And.intro @hc (And.intro @he (And.intro @hp (And.intro @hw (And.intro @lR (And.intro @bx @U)))))
   repeat' ((first
    |(with_reducible refine .guard (fun hb =>?_) (fun hb =>?_) <;>try simp only[hb])
    |refine J.aI (by decide +kernel) rfl fun K hK =>?_
    |(refine .aD [0,1,4,5,7,8,9,16] hK ?_;clear hK K)
    |(with_reducible refine .done (hK _ ?_);clear hK K)
    |refine J.of rfl ?_
    |(with_reducible refine aj.aH (fun h =>?_) (fun h =>?_) <;>try simp only[h])) <;>try simp only[aJ,R,simprocAttr])
   all_goals clear R
   refine ⟨i+1,⟨by omega,fun x hm =>?_⟩,by omega,?_⟩
   ·rw[List.take_succ_eq_append_getElem hlt] at hm
    rcases List.mem_append.1 hm with hm | hm
    ·exact hi2 x hm
    ·simp at hm;rw[hm];exact hp
   ·refine az.bR ?_ ?_ ?_ ?_ <;>simp[aT,bN,bM,bg,aU,I.only,br]
  ·have R:=And.intro @hc (And.intro @he (And.intro @hp (And.intro @lR (And.intro @bx @U))))
   repeat' ((first
    |(with_reducible refine .guard (fun hb =>?_) (fun hb =>?_) <;>try simp only[hb])
    |refine J.aI (by decide +kernel) rfl fun K hK =>?_
    |(refine .aD [0,1,4,5,7,8,9,16] hK ?_;clear hK K)
    |(with_reducible refine .done (hK _ ?_);clear hK K)
    |refine J.of rfl ?_
    |(with_reducible refine aj.aH (fun h =>?_) (fun h =>?_) <;>try simp only[h])) <;>try simp only[aJ,R,simprocAttr])
   all_goals clear R
   simp[nz,sJ hlt hi2 hp]
 ·have hc:=gh hlt
  have hge:i=l.length:=by omega
  have R:=And.intro @hc (And.intro @bx @U)
  repeat' ((first
   |(with_reducible refine .guard (fun hb =>?_) (fun hb =>?_) <;>try simp only[hb])
   |refine J.aI (by decide +kernel) rfl fun K hK =>?_
   |(refine .aD [0,1,4,5,7,8,9,16] hK ?_;clear hK K)
   |(with_reducible refine .done (hK _ ?_);clear hK K)
   |refine J.of rfl ?_
   |(with_reducible refine aj.aH (fun h =>?_) (fun h =>?_) <;>try simp only[h])) <;>try simp only[aJ,R,simprocAttr])
  all_goals clear R
  subst hge
  rw[List.take_length] at hi2
  simp[nz,sI hi2]
theorem Pg(l:List Int)(n:Int):aw Tryz.prog 74 [enc l,enc n] (enc (decide (n∈l))):=by
 refine aw.bp Tryz.func74 Sk Ul Ws (Nat.le_of_ble_eq_true rfl) (fun hwf W0 D0 E1 =>?_)
 simp only[B6,Mi,a6,Nat.zero_add]
 clear hwf
 have R:=And.intro @aL @U
 repeat' ((first
  |(with_reducible refine .guard (fun hb =>?_) (fun hb =>?_) <;>try simp only[hb])
  |refine J.aI (by decide +kernel) rfl fun K hK =>?_
  |refine .flat _ (Oe _ _) rfl ?_
  |(refine .aD [0,1,4] hK ?_;clear hK K)
  |(with_reducible refine .done (hK _ ?_);clear hK K)
  |refine J.of rfl ?_
  |(with_reducible refine aj.aH (fun h =>?_) (fun h =>?_) <;>try simp only[h])) <;>try simp only[aJ,R,simprocAttr])
 all_goals clear R
 rw[Jm]
 congr 1
 rw[Bool.eq_iff_iff]
 simp[List.any_eq_true]
theorem Pf(m:cn)(b:aA):aw Tryz.prog 73 [.ref (enc (⟨b⟩:eF)),.ref (enc m)] (enc (decide (0<b.fg) && !decide (b.fg∈(ft m b.bu).1))):=by
 refine aw.bp Tryz.func73 Sj Uk Wr (Nat.le_of_ble_eq_true rfl) (fun hwf W0 D0 E1 =>?_)
 simp only[B5,Mh,a6,Nat.zero_add]
 clear hwf
 have hC:=rW m b
 have R:=And.intro @eP eK
 repeat' ((first
  |(with_reducible refine .guard (fun hb =>?_) (fun hb =>?_) <;>try simp only[hb])
  |refine J.aI (by decide +kernel) rfl fun K hK =>?_
  |refine .lead _ (hC) ?_
  |refine .flat _ (Pg _ _) rfl ?_
  |(refine .aD [0,1,3] hK ?_;clear hK K)
  |(with_reducible refine .done (hK _ ?_);clear hK K)
  |refine J.of rfl ?_
  |(with_reducible refine aj.aH (fun h =>?_) (fun h =>?_) <;>try simp only[h])) <;>try simp only[aJ,R,simprocAttr])
 all_goals clear R
 all_goals first | (simp_all;done) | (simp_all;intro h;omega)
def iu(m:cn)(l:List au)(no known:Int):List Int×Int:=if eI m then (if eL l [eS no 9999] [known]=0 then (match cC (db l 100000 known) no with
 |none=>([],42)
 |some b=>((ft m b.bu).1,0)) else ([],eL l [eS no 9999] [known])) else ([],13)
theorem pj(a:Int):iv 1 (some [.int .i64 a])=some (enc [a]):=m8 (ys:=[a]) 1 rfl
theorem rS(m:cn)(l:List au)(no known:Int):aw Tryz.prog 14 [enc m,enc l,enc no,enc known] (.tuple [enc (iu m l no known).1,enc (iu m l no known).2]):=by
 refine aw.bp Tryz.func14 Rg Tc Vm (Nat.le_of_ble_eq_true rfl) (fun hwf W0 D0 E1 =>?_)
 simp only[AU,Lb,a6,Nat.zero_add,Nat.reduceAdd]
 clear hwf
 have hM:=uO m
 have hC:=qj l [eS no 9999] [known]
 simp only[iu]
 rcases hm:eI m
 ·rw[hm,if_neg (by decide)] at hM
  have R:=And.intro @eP eK
  repeat' ((first
   |(with_reducible refine .guard (fun hb =>?_) (fun hb =>?_) <;>try simp only[hb])
   |refine J.aI (by decide +kernel) rfl fun K hK =>?_
   |refine .flat _ (hM) rfl ?_
   |(refine .aD [0,1,2,3,4,8,9,10,11,12,16,26,37] hK ?_;clear hK K)
   |(with_reducible refine .done (hK _ ?_);clear hK K)
   |refine J.of rfl ?_
   |(with_reducible refine aj.aH (fun h =>?_) (fun h =>?_) <;>try simp only[h])) <;>try simp only[aJ,R,simprocAttr])
  all_goals clear R
  all_goals rfl
 rw[hm,if_pos rfl] at hM
 generalize hc:eL l [eS no 9999] [known]=e at hC ⊢
 by_cases he:e=0
 ·have hn:=mE he
  subst he
  have hok:=nc hc
  have hF:=rV l known hok
  have hk:=tq (db l 100000 known) no
  cases hg:cC (db l 100000 known) no with
  |none =>
   rw[hg] at hk
   have R:=And.intro @hn (And.intro @hk (And.intro @eP eK))
   repeat' ((first
    |(with_reducible refine .guard (fun hb =>?_) (fun hb =>?_) <;>try simp only[hb])
    |refine J.aI (by decide +kernel) rfl fun K hK =>?_
    |refine .flat _ (hM) rfl ?_
    |refine .flat _ (hC) rfl ?_
    |refine .lead _ (hF) ?_
    |(refine .aD [0,1,2,3,4,8,9,10,11,12,16,26,37] hK ?_;clear hK K)
    |(with_reducible refine .done (hK _ ?_);clear hK K)
    |refine J.of rfl ?_
    |(with_reducible refine aj.aH (fun h =>?_) (fun h =>?_) <;>try simp only[h])) <;>try simp only[aJ,R,simprocAttr])
   all_goals clear R
   all_goals rfl
  |some b =>
   rw[hg] at hk
   have hB:=rW m b
   have R:=And.intro @hn (And.intro @hk (And.intro @eP eK))
   repeat' ((first
    |(with_reducible refine .guard (fun hb =>?_) (fun hb =>?_) <;>try simp only[hb])
    |refine J.aI (by decide +kernel) rfl fun K hK =>?_
    |refine .flat _ (hM) rfl ?_
    |refine .flat _ (hC) rfl ?_
    |refine .lead _ (hF) ?_
    |refine .lead _ (hB) ?_
    |(refine .aD [0,1,2,3,4,8,9,10,11,12,16,26,37] hK ?_;clear hK K)
    |(with_reducible refine .done (hK _ ?_);clear hK K)
    |refine J.of rfl ?_
    |(with_reducible refine aj.aH (fun h =>?_) (fun h =>?_) <;>try simp only[h])) <;>try simp only[aJ,R,simprocAttr])
   all_goals clear R
 ·have hn:=mF he
  have R:=And.intro @hn (And.intro @he (And.intro @eP eK))
  repeat' ((first
   |(with_reducible refine .guard (fun hb =>?_) (fun hb =>?_) <;>try simp only[hb])
   |refine J.aI (by decide +kernel) rfl fun K hK =>?_
   |refine .flat _ (hM) rfl ?_
   |refine .flat _ (hC) rfl ?_
   |(refine .aD [0,1,2,3,4,8,9,10,11,12,16,26,37] hK ?_;clear hK K)
   |(with_reducible refine .done (hK _ ?_);clear hK K)
   |refine J.of rfl ?_
   |(with_reducible refine aj.aH (fun h =>?_) (fun h =>?_) <;>try simp only[h])) <;>try simp only[aJ,R,simprocAttr])
  all_goals clear R
  all_goals rfl
def iL(m:cn)(l:List au)(known:Int):List Int×Int:=if eI m then (if eL l [] [known]=0 then
 (dX (((db l 100000 known).filter fun b=>decide (0<b.fg) && !decide (b.fg∈(ft m b.bu).1)).map (·.no)),0) else ([],eL l [] [known])) else ([],13)
theorem zA(m:cn)(l:List au)(known:Int):aw Tryz.prog 16 [enc m,enc l,enc known] (.tuple [enc (iL m l known).1,enc (iL m l known).2]):=by
 refine aw.bp Tryz.func16 Rr Tp Vy (Nat.le_of_ble_eq_true rfl) (fun hwf W0 D0 E1 =>?_)
 simp only[Ba,Ln,a6,Nat.zero_add,Nat.reduceAdd]
 clear hwf
 have hM:=uO m
 have hC:=qj l [] [known]
 simp only[iL]
 rcases hm:eI m
 ·rw[hm,if_neg (by decide)] at hM
  have R:=And.intro @eP eK
  repeat' ((first
   |(with_reducible refine .guard (fun hb =>?_) (fun hb =>?_) <;>try simp only[hb])
   |refine J.aI (by decide +kernel) rfl fun K hK =>?_
   |refine .flat _ (hM) rfl ?_
   |(refine .aD [0,1,2,3,6,7,8,9,13,20] hK ?_;clear hK K)
   |(with_reducible refine .done (hK _ ?_);clear hK K)
   |refine J.of rfl ?_
   |(with_reducible refine aj.aH (fun h =>?_) (fun h =>?_) <;>try simp only[h])) <;>try simp only[aJ,R,simprocAttr])
  all_goals clear R
  all_goals rfl
 rw[hm,if_pos rfl] at hM
 generalize hc:eL l [] [known]=e at hC ⊢
 by_cases he:e=0
 ·have hn:=mE he
  subst he
  have hok:=nc hc
  have hF:=rV l known hok
  have hb:=tc hok 100000 known
  have hN:=uQ (db l 100000 known) hb.2.1 73 [.ref (enc m)] (by simp[I.eQ,I.done,dV]) (fun b=>decide (0<b.fg) && !decide (b.fg∈(ft m b.bu).1)) (fun b _=>Pf m b)
  have R:=And.intro @hn (And.intro @eP (And.intro @pP eK))
  repeat' ((first
   |(with_reducible refine .guard (fun hb =>?_) (fun hb =>?_) <;>try simp only[hb])
   |refine J.aI (by decide +kernel) rfl fun K hK =>?_
   |refine .flat _ (hM) rfl ?_
   |refine .flat _ (hC) rfl ?_
   |refine .lead _ (hF) ?_
   |(refine .aD [0,1,2,3,6,7,8,9,13,20] hK ?_;clear hK K)
   |(with_reducible refine .done (hK _ ?_);clear hK K)
   |refine J.of rfl ?_
   |(with_reducible refine aj.aH (fun h =>?_) (fun h =>?_) <;>try simp only[h])) <;>try simp only[aJ,R,simprocAttr])
  all_goals clear R
  refine .gU [3] _ rfl hN ?_ ?_ ?_
  ·simp[bd,bZ,cv,ar,fW,ak,m4,oq,dV]
  ·simp[bg,cE]
  ·try simp only[fG,List.map_cons,List.map_nil,eK,U,simprocAttr]
   have R:=eK
   repeat' ((first
    |(with_reducible refine .guard (fun hb =>?_) (fun hb =>?_) <;>try simp only[hb])
    |refine J.aI (by decide +kernel) rfl fun K hK =>?_
    |(refine .aD [0,1,2,3,6,7,8,9,13,20] hK ?_;clear hK K)
    |(with_reducible refine .done (hK _ ?_);clear hK K)
    |refine J.of rfl ?_
    |(with_reducible refine aj.aH (fun h =>?_) (fun h =>?_) <;>try simp only[h])) <;>try simp only[aJ,R,simprocAttr])
   all_goals clear R
 ·have hn:=mF he
  have R:=And.intro @hn (And.intro @he (And.intro @eP eK))
  repeat' ((first
   |(with_reducible refine .guard (fun hb =>?_) (fun hb =>?_) <;>try simp only[hb])
   |refine J.aI (by decide +kernel) rfl fun K hK =>?_
   |refine .flat _ (hM) rfl ?_
   |refine .flat _ (hC) rfl ?_
   |(refine .aD [0,1,2,3,6,7,8,9,13,20] hK ?_;clear hK K)
   |(with_reducible refine .done (hK _ ?_);clear hK K)
   |refine J.of rfl ?_
   |(with_reducible refine aj.aH (fun h =>?_) (fun h =>?_) <;>try simp only[h])) <;>try simp only[aJ,R,simprocAttr])
  all_goals clear R
  all_goals rfl
def fU{α:Type}(f:α→Int)(l:List α)(x:α):List α:=(l.takeWhile fun a=>decide (f a≤f x))++x::l.dropWhile fun a=>decide (f a≤f x)
def fp{α:Type}(f:α→Int)(l:List α)(x:α):Bool:=l.any fun a=>decide (f x<f a)
def gG{α:Type}(f:α→Int)(l:List α)(x:α):List α:=if fp f l x then fU f l x else l
section
variable {α:Type} {f:α→Int}
theorem Jq{x:α} : ∀ {l:List α},fp f l x=false→fU f l x=l++[x]
 | [],_=>by simp[fU]
 |a::l,h=>by
  simp only[fp,List.any_cons,Bool.or_eq_false_iff,decide_eq_false_iff_not] at h
  have ha:f a≤f x:=by omega
  have e:fU f (a::l) x=a::fU f l x:=by simp[fU,ha]
  rw[e,Jq (l:=l) (by simpa[fp] using h.2)];rfl
theorem Jr{x:α}(y:α):∀ {l:List α},fp f l x=true→fU f (l++[y]) x=fU f l x++[y]
 | [],h=>by simp[fp] at h
 |a::l,h=>by
  by_cases ha:f a≤f x
  ·have h2:fp f l x=true:=by
    simp only[fp,List.any_cons,Bool.or_eq_true,decide_eq_true_eq] at h
    rcases h with h | h
    ·omega
    ·exact h
   have e:∀ m:List α,fU f (a::m) x=a::fU f m x:=fun m=>by simp[fU,ha]
   rw[List.cons_append,e,e,Jr y h2];rfl
  ·simp[fU,ha]
theorem Jp{x y:α}(hy:f x<f y):∀ {l:List α},fp f l x=false→fU f (l++[y]) x=l++[x,y]
 | [],_=>by simp[fU,show ¬ f y≤f x by omega]
 |a::l,h=>by
  simp only[fp,List.any_cons,Bool.or_eq_false_iff,decide_eq_false_iff_not] at h
  have ha:f a≤f x:=by omega
  have e:∀ m:List α,fU f (a::m) x=a::fU f m x:=fun m=>by simp[fU,ha]
  rw[List.cons_append,e,Jp hy (by simpa[fp] using h.2)];rfl
theorem uY{l:List α}{x:α}{i:Nat}(h:i<l.length):fp f (l.take (i+1)) x=(fp f (l.take i) x||decide (f x<f l[i])):=by
 simp only[fp,List.take_succ_eq_append_getElem h,List.any_append,List.any_cons,List.any_nil,Bool.or_false]
theorem CL{l:List α}{x:α}{i:Nat}(h:i<l.length):gG f (l.take (i+1)) x=(if (!fp f (l.take i) x&&decide (f x<f l[i]))=true then gG f (l.take i) x++[x] else gG f (l.take i) x)++[l[i]]:=by
 have e:=List.take_succ_eq_append_getElem h
 simp only[gG,uY h]
 cases ha:fp f (l.take i) x
 ·by_cases hx:f x<f l[i]
  ·simp only[hx,decide_true,Bool.or_true,if_true,Bool.not_false,Bool.and_true,Bool.false_eq_true,if_false]
   rw[e,Jp hx ha];simp
  ·simp only[hx,decide_false,Bool.or_false,Bool.and_false,if_false,Bool.false_eq_true]
   exact e
 ·simp only[Bool.true_or,if_true,Bool.not_true,Bool.false_and,Bool.false_eq_true,if_false]
  rw[e,Jr _ ha]
theorem CJ(l:List α)(x:α):(if fp f l x then gG f l x else gG f l x++[x])=fU f l x:=by
 simp only[gG]
 cases h:fp f l x
 ·simp only[Bool.false_eq_true,if_false];exact (Jq h).symm
 ·simp only[if_true]
theorem Jo(l:List α)(x:α):(fU f l x).length=l.length+1:=by
 have h:(l.takeWhile fun a=>decide (f a≤f x))++(l.dropWhile fun a=>decide (f a≤f x))=l:=List.takeWhile_append_dropWhile
 have h2:=congrArg List.length h
 simp only[fU,List.length_append,List.length_cons] at h2 ⊢
 omega
theorem CK(l:List α)(x:α):(gG f l x).length≤l.length+1:=by
 simp only[gG]
 split
 ·rw[Jo];omega
 ·omega
end
theorem PF(bs:List aA)(b:aA):eG bs b=fU (·.no) bs b:=rfl
def pF(bs:List aA)(no:Int):Int:=match bs.findIdx? fun b=>decide (b.no=no) with
 |some i=>i
 |none=>-1
theorem lf(bs:List aA)(no:Int):aw Tryz.prog 93 [enc bs,enc no] (enc (pF bs no)):=by
 refine aw.bp Tryz.func93 SA Uz WH (Nat.le_of_ble_eq_true rfl) (fun hwf W0 D0 E1 =>?_)
 simp only[Ck,Mw,a6,Nat.zero_add]
 have hlen:bs.length≤maxLen:=((ku bs).1 hwf.1).1
 simp only[maxLen] at hlen
 clear hwf
 have R:=And.intro @bx (And.intro @aL @U)
 repeat' ((first
  |(with_reducible refine .guard (fun hb =>?_) (fun hb =>?_) <;>try simp only[hb])
  |refine J.aI (by decide +kernel) rfl fun K hK =>?_
  |(refine .aD [0,1,4,5,9,18] hK ?_;clear hK K)
  |(with_reducible refine .done (hK _ ?_);clear hK K)
  |refine J.of rfl ?_
  |(with_reducible refine aj.aH (fun h =>?_) (fun h =>?_) <;>try simp only[h])) <;>try simp only[aJ,R,simprocAttr])
 all_goals clear R
 refine J.loop (fun i:Nat=>ar [(0,enc bs),(1,.int .i64 no),(5,.int .i64 i)] []) (fun i=>i≤bs.length∧∀ x∈bs.take i,decide (x.no=no)=false) (fun i=>bs.length-i) 0 ⟨Nat.zero_le _,by simp⟩ ?_ (fun i hi =>?_)
 ·refine az.bR ?_ ?_ ?_ ?_ <;>simp[aT,bN,bM,bg,aU,I.only,br]
 obtain ⟨hi1,hi2⟩:=hi
 by_cases hlt:i<bs.length
 ·have hc:=fX hlt
  have he:=fun A=>ew (A:=A) 9 hlt rfl
  have hw:=fk (i:=i) (by omega)
  rcases hp:((bs[i]).no==no)
  ·have R:=And.intro @hc (And.intro @he (And.intro @hp (And.intro @hw (And.intro @bx (And.intro @aL (And.intro @fO @U))))))
   repeat' ((first
    |(with_reducible refine .guard (fun hb =>?_) (fun hb =>?_) <;>try simp only[hb])
    |refine J.aI (by decide +kernel) rfl fun K hK =>?_
    |(refine .aD [0,1,4,5,9,18] hK ?_;clear hK K)
    |(with_reducible refine .done (hK _ ?_);clear hK K)
    |refine J.of rfl ?_
    |(with_reducible refine aj.aH (fun h =>?_) (fun h =>?_) <;>try simp only[h])) <;>try simp only[aJ,R,simprocAttr])
   all_goals clear R
   refine ⟨i+1,⟨by omega,fun x hm =>?_⟩,by omega,?_⟩
   ·rw[List.take_succ_eq_append_getElem hlt] at hm
    rcases List.mem_append.1 hm with hm | hm
    ·exact hi2 x hm
    ·simp at hm;rw[hm];simpa using hp
   ·refine az.bR ?_ ?_ ?_ ?_ <;>simp[aT,bN,bM,bg,aU,I.only,br]
  ·have R:=And.intro @hc (And.intro @he (And.intro @hp (And.intro @bx (And.intro @aL (And.intro @fO @U)))))
   repeat' ((first
    |(with_reducible refine .guard (fun hb =>?_) (fun hb =>?_) <;>try simp only[hb])
    |refine J.aI (by decide +kernel) rfl fun K hK =>?_
    |(refine .aD [0,1,4,5,9,18] hK ?_;clear hK K)
    |(with_reducible refine .done (hK _ ?_);clear hK K)
    |refine J.of rfl ?_
    |(with_reducible refine aj.aH (fun h =>?_) (fun h =>?_) <;>try simp only[h])) <;>try simp only[aJ,R,simprocAttr])
   all_goals clear R
   have:bs.findIdx? (fun b=>decide (b.no=no))=some i:=sJ hlt hi2 (by simpa using hp)
   simp[pF,this]
 ·have hc:=gh hlt
  have hge:i=bs.length:=by omega
  subst hge
  have R:=And.intro @hc (And.intro @bx (And.intro @aL @U))
  repeat' ((first
   |(with_reducible refine .guard (fun hb =>?_) (fun hb =>?_) <;>try simp only[hb])
   |refine J.aI (by decide +kernel) rfl fun K hK =>?_
   |(refine .aD [0,1,4,5,9,18] hK ?_;clear hK K)
   |(with_reducible refine .done (hK _ ?_);clear hK K)
   |refine J.of rfl ?_
   |(with_reducible refine aj.aH (fun h =>?_) (fun h =>?_) <;>try simp only[h])) <;>try simp only[aJ,R,simprocAttr])
  all_goals clear R
  rw[List.take_length] at hi2
  simp[pF,sI hi2]
theorem OK(bs:List aA)(b:aA)(hn:bs.length≤100):aw Tryz.prog 170 [enc bs,enc b] (enc (eG bs b)):=by
 refine aw.bp Tryz.func170 RD TB VK (Nat.le_of_ble_eq_true rfl) (fun hwf W0 D0 E1 =>?_)
 simp only[Bm,Lz,a6,Nat.zero_add]
 clear hwf
 rw[PF]
 have R:=And.intro @bx (And.intro @aL @U)
 repeat' ((first
  |(with_reducible refine .guard (fun hb =>?_) (fun hb =>?_) <;>try simp only[hb])
  |refine J.aI (by decide +kernel) rfl fun K hK =>?_
  |(refine .aD [0,1,3,4,5,6,7,11,25,38] hK ?_;clear hK K)
  |(with_reducible refine .done (hK _ ?_);clear hK K)
  |refine J.of rfl ?_
  |(with_reducible refine aj.aH (fun h =>?_) (fun h =>?_) <;>try simp only[h])) <;>try simp only[aJ,R,simprocAttr])
 all_goals clear R
 refine J.loop (fun i:Nat=>ar [(0,enc bs),(3,.ptr 3 []),(5,.own 905 (gG (·.no) (bs.take i) b).length),(6,.bool (fp (·.no) (bs.take i) b)),(7,.int .i64 i)] [(3,.box (enc b)),(905,.bW 78 9 ((gG (·.no) (bs.take i) b).map enc))]) (fun i=>i≤bs.length) (fun i=>bs.length-i) 0 (Nat.zero_le _) ?_ (fun i hi =>?_)
 ·refine az.ln 5 905 78 9 9 rfl rfl ?_
  simp only[List.take_zero,gG,fp,List.any_nil,Bool.false_eq_true,if_false,List.map_nil,List.length_nil]
  refine az.bR ?_ ?_ ?_ ?_ <;>simp[aT,bN,bM,bg,aq,aU,cw,I.only,I.bV,ah.only,br]
 have hcl:=CK (f:=(·.no)) (bs.take i) b
 have htl:(bs.take i).length≤100:=by rw[List.length_take];omega
 by_cases hlt:i<bs.length
 ·have hc:=fX hlt
  have he:=fun A=>ew (A:=A) 9 hlt rfl
  have hw:=fk (i:=i) (by omega)
  have hs:=CL (f:=(·.no)) (x:=b) hlt
  have ha:=uY (f:=(·.no)) (x:=b) hlt
  generalize gG (·.no) (bs.take i) b=xs at hcl hs ⊢
  generalize fp (·.no) (bs.take i) b=aD at hs ha ⊢
  have happ:=fun (A:ae) d rest (es:List aA) (hes:es.length≤102) (y:aA)=>jF (α:=aA) (A:=A) (d:=d) 78 9 88 905 (l:=es.length) (es:=es) (ys:=[y]) (rest:=rest) rfl rfl (by simp) (by simp[maxLen];omega) (by simp;omega)
  have hap1:=fun (A:ae) d rest=>happ A d rest xs (by omega) b
  have hap2:=fun (A:ae) d rest=>happ A d rest (xs++[b]) (by simp;omega) (bs[i])
  have hap3:=fun (A:ae) d rest=>happ A d rest xs (by omega) (bs[i])
  have hbs:=fun y:aA=>m9 9 y rfl
  rcases hp:decide (b.no<(bs[i]).no) <;>cases aD
  all_goals
   have R:=And.intro @hc (And.intro @he (And.intro @hp (And.intro @hw (And.intro @hap1 (And.intro @hap2 (And.intro @hap3 (And.intro @hbs (And.intro @bx (And.intro @aL (And.intro @fO @U))))))))))
   repeat' ((first
    |(with_reducible refine .guard (fun hb =>?_) (fun hb =>?_) <;>try simp only[hb])
    |refine J.aI (by decide +kernel) rfl fun K hK =>?_
    |(refine .aD [0,1,3,4,5,6,7,11,25,38] hK ?_;clear hK K)
    |(with_reducible refine .done (hK _ ?_);clear hK K)
    |refine J.of rfl ?_
    |(with_reducible refine aj.aH (fun h =>?_) (fun h =>?_) <;>try simp only[h])) <;>try simp only[aJ,R,simprocAttr])
   all_goals clear R
   simp only[hp,Bool.not_true,Bool.not_false,Bool.and_true,Bool.and_false,if_true,Bool.false_eq_true,if_false,Bool.or_true,Bool.or_false] at hs ha
   refine ⟨i+1,by omega,by omega,?_⟩
   simp only[hs,ha]
   refine az.bR ?_ ?_ ?_ ?_ <;>simp[aT,bN,bM,bg,aq,aU,cw,I.only,I.bV,ah.only,ec,iB,br]
 ·have hc:=gh hlt
  have hge:i=bs.length:=by omega
  subst hge
  rw[←CJ]
  rw[List.take_length] at hcl ⊢
  generalize gG (·.no) bs b=xs at hcl ⊢
  have hap1:=fun (A:ae) d rest=>jF (α:=aA) (A:=A) (d:=d) 78 9 88 905 (l:=xs.length) (es:=xs) (ys:=[b]) (rest:=rest) rfl rfl (by simp) (by simp[maxLen];omega) (by simp;omega)
  have hbs:=fun y:aA=>m9 9 y rfl
  have hfo:=fun xs:List aA=>nq (k:=xs.length) (T:=78) (es:=xs) 9 rfl rfl
  cases fp (·.no) bs b
  all_goals
   have R:=And.intro @hc (And.intro @hap1 (And.intro @hbs (And.intro @hfo (And.intro @bx (And.intro @aL @U)))))
   repeat' ((first
    |(with_reducible refine .guard (fun hb =>?_) (fun hb =>?_) <;>try simp only[hb])
    |refine J.aI (by decide +kernel) rfl fun K hK =>?_
    |(refine .aD [0,1,3,4,5,6,7,11,25,38] hK ?_;clear hK K)
    |(with_reducible refine .done (hK _ ?_);clear hK K)
    |refine J.of rfl ?_
    |(with_reducible refine aj.aH (fun h =>?_) (fun h =>?_) <;>try simp only[h])) <;>try simp only[aJ,R,simprocAttr])
   all_goals clear R
def mc(l:List Int)(x:Int):List Int:=if x∈l then l else fU id l x
theorem Ou(l:List Int)(x:Int)(hn:l.length≤200):aw Tryz.prog 140 [enc l,enc x] (enc (mc l x)):=by
 refine aw.bp Tryz.func140 Rh Td Vn (Nat.le_of_ble_eq_true rfl) (fun hwf W0 D0 E1 =>?_)
 simp only[AV,Lc,a6,Nat.zero_add]
 clear hwf
 have R:=And.intro @bx (And.intro @aL @U)
 repeat' ((first
  |(with_reducible refine .guard (fun hb =>?_) (fun hb =>?_) <;>try simp only[hb])
  |refine J.aI (by decide +kernel) rfl fun K hK =>?_
  |(refine .aD [0,1,4,5,6,7,11,19,30,43] hK ?_;clear hK K)
  |(with_reducible refine .done (hK _ ?_);clear hK K)
  |refine J.of rfl ?_
  |(with_reducible refine aj.aH (fun h =>?_) (fun h =>?_) <;>try simp only[h])) <;>try simp only[aJ,R,simprocAttr])
 all_goals clear R
 refine J.loop (fun i:Nat=>ar [(0,enc l),(1,.int .i64 x),(5,.own 905 (gG id (l.take i) x).length),(6,.bool (fp id (l.take i) x)),(7,.int .i64 i)] [(905,.bW 3 1 ((gG id (l.take i) x).map enc))]) (fun i=>i≤l.length∧x∉l.take i) (fun i=>l.length-i) 0 ⟨Nat.zero_le _,by simp⟩ ?_ (fun i hi =>?_)
 ·refine az.ln 5 905 3 1 1 rfl rfl ?_
  simp only[List.take_zero,gG,fp,List.any_nil,Bool.false_eq_true,if_false,List.map_nil,List.length_nil]
  refine az.bR ?_ ?_ ?_ ?_ <;>simp[aT,bN,bM,bg,aq,aU,cw,I.only,I.bV,ah.only,br]
 obtain ⟨hi,hx⟩:=hi
 have hcl:=CK (f:=id) (l.take i) x
 have htl:(l.take i).length≤200:=by rw[List.length_take];omega
 by_cases hlt:i<l.length
 ·have hc:=fX hlt
  have he:=fun A=>ew (A:=A) 1 hlt rfl
  have hw:=fk (i:=i) (by omega)
  rcases heq:(l[i]==x)
  case true =>
   have hm:x∈l:=by
    have:l[i]=x:=by simpa using heq
    rw[←this];exact List.getElem_mem hlt
   have R:=And.intro @hc (And.intro @he (And.intro @heq (And.intro @bx (And.intro @aL @U))))
   repeat' ((first
    |(with_reducible refine .guard (fun hb =>?_) (fun hb =>?_) <;>try simp only[hb])
    |refine J.aI (by decide +kernel) rfl fun K hK =>?_
    |(refine .aD [0,1,4,5,6,7,11,19,30,43] hK ?_;clear hK K)
    |(with_reducible refine .done (hK _ ?_);clear hK K)
    |refine J.of rfl ?_
    |(with_reducible refine aj.aH (fun h =>?_) (fun h =>?_) <;>try simp only[h])) <;>try simp only[aJ,R,simprocAttr])
   all_goals clear R
   simp[mc,hm]
  have hs:=CL (f:=id) (x:=x) hlt
  have ha:=uY (f:=id) (x:=x) hlt
  generalize gG id (l.take i) x=xs at hcl hs ⊢
  generalize fp id (l.take i) x=aD at hs ha ⊢
  have happ:=fun (A:ae) d rest (es:List Int) (hes:es.length≤202) (y:Int)=>jF (α:=Int) (A:=A) (d:=d) 3 1 8 905 (l:=es.length) (es:=es) (ys:=[y]) (rest:=rest) rfl rfl (by simp) (by simp[maxLen];omega) (by simp;omega)
  have hap1:=fun (A:ae) d rest=>happ A d rest xs (by omega) x
  have hap2:=fun (A:ae) d rest=>happ A d rest (xs++[x]) (by simp;omega) (l[i])
  have hap3:=fun (A:ae) d rest=>happ A d rest xs (by omega) (l[i])
  have hx2:x∉l.take (i+1):=by
   rw[List.take_succ_eq_append_getElem hlt,List.mem_append,not_or]
   refine ⟨hx,?_⟩
   have:¬ l[i]=x:=by simpa using heq
   simpa using fun e=>this e.symm
  rcases hp:decide (x<l[i]) <;>cases aD
  all_goals
   have R:=And.intro @hc (And.intro @he (And.intro @heq (And.intro @hp (And.intro @hw (And.intro @hap1 (And.intro @hap2 (And.intro @hap3 (And.intro @pj (And.intro @bx (And.intro @aL @U))))))))))
   repeat' ((first
    |(with_reducible refine .guard (fun hb =>?_) (fun hb =>?_) <;>try simp only[hb])
    |refine J.aI (by decide +kernel) rfl fun K hK =>?_
    |(refine .aD [0,1,4,5,6,7,11,19,30,43] hK ?_;clear hK K)
    |(with_reducible refine .done (hK _ ?_);clear hK K)
    |refine J.of rfl ?_
    |(with_reducible refine aj.aH (fun h =>?_) (fun h =>?_) <;>try simp only[h])) <;>try simp only[aJ,R,simprocAttr])
   all_goals clear R
   simp only[id,hp,Bool.not_true,Bool.not_false,Bool.and_true,Bool.and_false,if_true,Bool.false_eq_true,if_false,Bool.or_true,Bool.or_false] at hs ha
   refine ⟨i+1,⟨by omega,hx2⟩,by omega,?_⟩
   simp only[hs,ha]
   refine az.bR ?_ ?_ ?_ ?_ <;>simp[aT,bN,bM,bg,aq,aU,cw,I.only,I.bV,ah.only,ec,iB,br,iw]
 ·have hc:=gh hlt
  have hge:i=l.length:=by omega
  subst hge
  rw[List.take_length] at hcl hx ⊢
  rw[mc,if_neg hx,←CJ]
  generalize gG id l x=xs at hcl ⊢
  have hap1:=fun (A:ae) d rest=>jF (α:=Int) (A:=A) (d:=d) 3 1 8 905 (l:=xs.length) (es:=xs) (ys:=[x]) (rest:=rest) rfl rfl (by simp) (by simp[maxLen];omega) (by simp;omega)
  have hfo:=fun xs:List Int=>nq (k:=xs.length) (T:=3) (es:=xs) 1 rfl rfl
  cases fp id l x
  all_goals
   have R:=And.intro @hc (And.intro @hap1 (And.intro @hfo (And.intro @pj (And.intro @bx (And.intro @aL @U)))))
   repeat' ((first
    |(with_reducible refine .guard (fun hb =>?_) (fun hb =>?_) <;>try simp only[hb])
    |refine J.aI (by decide +kernel) rfl fun K hK =>?_
    |(refine .aD [0,1,4,5,6,7,11,19,30,43] hK ?_;clear hK K)
    |(with_reducible refine .done (hK _ ?_);clear hK K)
    |refine J.of rfl ?_
    |(with_reducible refine aj.aH (fun h =>?_) (fun h =>?_) <;>try simp only[h])) <;>try simp only[aJ,R,simprocAttr])
   all_goals clear R
def jZ(l:List Int):List Int:=l.foldl mc []
theorem PH(l:List Int)(x:Int):(mc l x).length≤l.length+1:=by
 simp only[mc]
 split
 ·omega
 ·rw[Jo];omega
theorem DA:∀ (l o:List Int),(l.foldl mc o).length≤o.length+l.length
 | [],o=>by simp
 |x::l,o=>by
  have h1:=DA l (mc o x)
  have h2:=PH o x
  simp only[List.foldl_cons,List.length_cons];omega
theorem Ps(l:List Int)(hn:l.length≤150):aw Tryz.prog 97 [enc l] (enc (jZ l)):=by
 refine aw.bp Tryz.func97 SC UB WJ (Nat.le_of_ble_eq_true rfl) (fun hwf W0 D0 E1 =>?_)
 simp only[Cm,My,a6]
 clear hwf
 have R:=And.intro @bx (And.intro @aL @U)
 repeat' ((first
  |(with_reducible refine .guard (fun hb =>?_) (fun hb =>?_) <;>try simp only[hb])
  |refine J.aI (by decide +kernel) rfl fun K hK =>?_
  |(refine .aD [0,2,3,4,8] hK ?_;clear hK K)
  |(with_reducible refine .done (hK _ ?_);clear hK K)
  |refine J.of rfl ?_
  |(with_reducible refine aj.aH (fun h =>?_) (fun h =>?_) <;>try simp only[h])) <;>try simp only[aJ,R,simprocAttr])
 all_goals clear R
 refine J.loop (fun i:Nat=>ar [(0,enc l),(3,enc (jZ (l.take i))),(4,.int .i64 i)] []) (fun i=>i≤l.length) (fun i=>l.length-i) 0 (Nat.zero_le _) ?_ (fun i hi =>?_)
 ·refine az.oj [] 3 (x:=.nils 1) (y:=enc ([]:List Int)) rfl (by rfl) ?_ ?_ ?_ ?_ ?_ <;>simp[cE,bg,aT,bN,bM,fG,aU,I.only,br,jZ]
 by_cases hlt:i<l.length
 ·have hc:=fX hlt
  have he:=fun A=>ew (A:=A) 1 hlt rfl
  have hw:=fk (i:=i) (by omega)
  have hs:jZ (l.take (i+1))=mc (jZ (l.take i)) l[i]:=by
   simp only[jZ]
   rw[List.take_succ_eq_append_getElem hlt,List.foldl_append];rfl
  have hl:=DA (l.take i) []
  have hF:=Ou (jZ (l.take i)) l[i] (by rw[List.length_take] at hl;simp only[jZ,List.length_nil] at hl ⊢;omega)
  have R:=And.intro @hc (And.intro @he (And.intro @hw (And.intro @bx (And.intro @aL @U))))
  repeat' ((first
   |(with_reducible refine .guard (fun hb =>?_) (fun hb =>?_) <;>try simp only[hb])
   |refine J.aI (by decide +kernel) rfl fun K hK =>?_
   |refine .lead _ (hF) ?_
   |(refine .aD [0,2,3,4,8] hK ?_;clear hK K)
   |(with_reducible refine .done (hK _ ?_);clear hK K)
   |refine J.of rfl ?_
   |(with_reducible refine aj.aH (fun h =>?_) (fun h =>?_) <;>try simp only[h])) <;>try simp only[aJ,R,simprocAttr])
  all_goals clear R
  refine ⟨i+1,by omega,by omega,?_⟩
  rw[hs]
  refine az.bR ?_ ?_ ?_ ?_ <;>simp[aT,bN,bM,bg,aU,I.only,br]
 ·have hc:=gh hlt
  have hge:i=l.length:=by omega
  subst hge
  rw[List.take_length]
  have R:=And.intro @hc (And.intro @bx (And.intro @aL @U))
  repeat' ((first
   |(with_reducible refine .guard (fun hb =>?_) (fun hb =>?_) <;>try simp only[hb])
   |refine J.aI (by decide +kernel) rfl fun K hK =>?_
   |(refine .aD [0,2,3,4,8] hK ?_;clear hK K)
   |(with_reducible refine .done (hK _ ?_);clear hK K)
   |refine J.of rfl ?_
   |(with_reducible refine aj.aH (fun h =>?_) (fun h =>?_) <;>try simp only[h])) <;>try simp only[aJ,R,simprocAttr])
  all_goals clear R
end Go.Proofs.YtcldiigclhgafaaGreat
