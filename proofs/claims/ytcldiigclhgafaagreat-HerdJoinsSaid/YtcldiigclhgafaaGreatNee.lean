/-
  A part of the proof that the law HerdJoins returns true for every input; conditions: none beyond the statement's own. (part 5 of 7)
-/
import Derived.Test.YtcldiigclhgafaaGreatRows
import Derived.Test.YtcldiigclhgafaaGreatNed
set_option linter.unusedSimpArgs false
set_option linter.unusedVariables false
set_option maxHeartbeats 16000000
set_option maxRecDepth 100000
namespace Go.Proofs.YtcldiigclhgafaaGreat
open Go Go.Abs
open Go.Abs.Enc (enc)
def gz(l:List ak)(x:Int):Int:=(ae l x.toNat).day
def jz(l:List ak)(x:Int):Prop:=0≤x∧x<l.length
def mB(l:List ak):Prop:=∀ i,i<l.length→0≤(ae l i).day∧(ae l i).day≤100000
def dM(l:List ak)(x y:Int):Prop:=gz l x<gz l y∨(gz l x=gz l y∧x<y)
def di(l:List ak)(s:List Int):Prop:=s.Pairwise (dM l)
theorem yc{l:List ak}{x y z:Int}(h:dM l x y)(k:dM l y z):dM l x z:=by
 simp only[dM] at *;omega
theorem tL{l:List ak}{x y:Int}(h:y<x):dM l x y↔gz l x<gz l y:=by
 simp only[dM];omega
theorem tK{l:List ak}{x y:Int}(h:y<x)(k:¬ gz l x<gz l y):dM l y x:=by
 simp only[dM];omega
theorem sj(l:List ak)(hd:mB l)(hl:l.length≤60)(x y:Int)(hx:jz l x)(hy:jz l y):aA Tryz.prog 138 [.int .i64 x,.int .i64 y,.ref (enc l)] (.int .i64 (gz l x-gz l y)):=by
 refine aA.bA Tryz.func138 Si Ud Wi (Nat.le_of_ble_eq_true rfl) (fun hwf W0 D0 E1 =>?_)
 simp only[Bm,Mt,bp,Nat.zero_add,Nat.reduceAdd]
 clear hwf
 obtain ⟨i,rfl⟩:∃ i:Nat,x=i:=⟨x.toNat,by have:=hx.1;omega⟩
 obtain ⟨k,rfl⟩:∃ k:Nat,y=k:=⟨y.toNat,by have:=hy.1;omega⟩
 have hi:i<l.length:=by have:=hx.2;omega
 have hk:k<l.length:=by have:=hy.2;omega
 have v1:=jV hi
 have v2:=jV hk
 have d1:=hd i hi
 have d2:=hd k hk
 have hw:IntKind.i64.wrap ((ae l i).day-(ae l k).day)=(ae l i).day-(ae l k).day:=cA _ (by omega) (by omega)
 have R:=And.intro @v1 (And.intro @v2 (And.intro @hw (And.intro @a6 @U)))
 repeat' ((first
  |(with_reducible refine .guard (fun hb =>?_) (fun hb =>?_) <;>try simp only[hb])
  |refine ab.aO (by decide +kernel) rfl fun K hK =>?_
  |(refine .aI [0,1,2,5] hK ?_;clear hK K)
  |(with_reducible refine .done (hK _ ?_);clear hK K)
  |refine ab.of rfl ?_
  |(with_reducible refine ar.aL (fun h =>?_) (fun h =>?_) <;>try simp only[h])) <;>try simp only[aQ,R,simprocAttr])
 all_goals clear R
 simp only[gz,Int.toNat_natCast]
theorem alP{A C:List Int}{x y:Int}{i j:Nat}(hj:A.length=j)(hi:j+1=i):kH (A++y::x::C) i j=A++x::y::C:=by
 subst hj hi
 have e1:(A++y::x::C).getD A.length 0=y:=by simp[List.getD_eq_getElem?_getD]
 have e2:(A++y::x::C).getD (A.length+1) 0=x:=by
  rw[List.getD_eq_getElem?_getD,List.getElem?_append_right (by omega)]
  simp
 simp only[kH,e1,e2]
 rw[List.set_append_right _ _ (by omega)]
 have:A.length+1-A.length=1:=by omega
 rw[this,List.set_append_right _ _ (by omega),Nat.sub_self]
 simp
theorem alR{A C:List Int}{x y:Int}{i j:Nat}(hi:A.length=i)(hj:i+1=j):kH (A++x::y::C) i j=A++y::x::C:=by
 have:=O1 (A:=A) (B:=[]) (C:=C) (x:=x) (y:=y) (i:=i) (j:=j) hi (by simp;omega)
 simpa using this
def ed(p t rest:List Int)(x:Int)(c:Nat):List Int:=p++(t.take c++x::t.drop c)++rest
theorem xS{p t rest:List Int}{x:Int}{c:Nat}(hc:c≤t.length):(ed p t rest x c).length=p.length+t.length+1+rest.length:=by
 simp only[ed,List.length_append,List.length_take,List.length_cons,List.length_drop];omega
theorem ahH{p t rest:List Int}{x:Int}{c a:Nat}(ha:p.length=a)(hc:c≤t.length):(ed p t rest x c).getD (a+c) 0=x:=by
 subst ha
 have hl:(t.take c).length=c:=by rw[List.length_take];omega
 simp only[ed]
 rw[List.getD_eq_getElem?_getD,List.append_assoc,List.getElem?_append_right (by omega)]
 have:p.length+c-p.length=c:=by omega
 rw[this,List.append_assoc,List.getElem?_append_right (by omega),hl,Nat.sub_self]
 rfl
theorem ahI{p t rest:List Int}{x:Int}{c a:Nat}(ha:p.length=a)(hc:c<t.length):(ed p t rest x (c+1)).getD (a+c) 0=t[c]:=by
 subst ha
 simp only[ed]
 rw[List.getD_eq_getElem?_getD,List.append_assoc,List.getElem?_append_right (by omega)]
 have:p.length+c-p.length=c:=by omega
 rw[this,List.append_assoc,List.getElem?_append_left (by rw[List.length_take];omega),List.getElem?_take_of_lt (by omega),List.getElem?_eq_getElem hc]
 rfl
theorem Kp{p t rest:List Int}{x:Int}{c a:Nat}(ha:p.length=a)(hc:c<t.length):kH (ed p t rest x (c+1)) (a+c+1) (a+c)=ed p t rest x c:=by
 have e1:ed p t rest x (c+1)=(p++t.take c)++t[c]::x::(t.drop (c+1)++rest):=by
  simp only[ed]
  rw[List.take_succ_eq_append_getElem hc]
  simp only[List.append_assoc,List.cons_append,List.nil_append]
 have e2:ed p t rest x c=(p++t.take c)++x::t[c]::(t.drop (c+1)++rest):=by
  simp only[ed]
  rw[List.drop_eq_getElem_cons hc]
  simp only[List.append_assoc,List.cons_append]
 rw[e1,e2]
 exact alP (by rw[List.length_append,List.length_take];omega) rfl
theorem zD{l:List ak}{t:List Int}{x:Int}{c:Nat}(hs:di l t)(h1:∀ y∈t.take c,dM l y x)(h2:∀ y∈t.drop c,dM l x y):di l (t.take c++x::t.drop c):=by
 have h:=hs
 unfold di at *
 rw[←List.take_append_drop c t,List.pairwise_append] at h
 rw[List.pairwise_append]
 refine ⟨h.1,?_,fun y hy z hz =>?_⟩
 ·rw[List.pairwise_cons]
  exact ⟨h2,h.2.1⟩
 ·rcases List.mem_cons.1 hz with rfl | hz
  ·exact h1 y hy
  ·exact h.2.2 y hy z hz
theorem alv{l:List ak}{t:List Int}{x:Int}{c:Nat}(hs:di l t)(hc:c<t.length)(h:dM l t[c] x):∀ y∈t.take (c+1),dM l y x:=by
 intro y hy
 rw[List.take_succ_eq_append_getElem hc,List.mem_append,List.mem_singleton] at hy
 rcases hy with hy | rfl
 ·refine yc ?_ h
  have h3:=hs
  unfold di at h3
  rw[←List.take_append_drop c t,List.pairwise_append] at h3
  exact h3.2.2 y hy _ (by rw[List.drop_eq_getElem_cons hc];exact List.mem_cons_self)
 ·exact h
def nf(l:List ak)(p s q:List Int):cR:=fun r os'=>r=.tuple []∧∃ s',s'.Perm s∧di l s'∧os'=cB 1000000 (p++s'++q)
structure vh where
 t:List Int
 k:Nat
theorem Ah(l:List ak)(hd:mB l)(hl:l.length≤60)(p s q:List Int)(a b n:Nat)(ha:p.length=a)(hb:a+s.length=b)(hn:b≤n)(hnl:n≤(p++s++q).length)(hN:n≤1000)(hs:s.Pairwise (· < ·))(hS:∀ x∈s,jz l x) :
  cF Tryz.prog 203 [.view 1000000 [] 1 0 n,enc (a:Int),enc (b:Int),.func 138 [.ref (enc l)]] (cB 1000000 (p++s++q)) (nf l p s q):=by
 refine cF.bA Tryz.func203 CS CZ Db (Nat.le_of_ble_eq_true rfl) (Nat.le_of_ble_eq_true rfl) nY (fun hwf W0 D0 E1 =>?_)
 simp only[vB,zd,bp,Nat.zero_add,Nat.reduceAdd]
 clear hwf
 have w1:=ft (i:=a) (by omega)
 refine .ao (by decide +kernel) fun K hK =>?_
 simp only[xi,U,simprocAttr]
 try simp only[w1,simprocAttr]
 refine .done (hK _ ?_);clear hK K
 refine ab.block (ab.loop (fun g:vh=>av [(0,.view 1000000 [] 1 0 n),(1,.int .i64 a),(2,.int .i64 b),(3,.func 138 [.ref (enc l)]),(8,.int .i64 ((a+g.k:Nat):Int))] (cB 1000000 (p++g.t++s.drop g.k++q))) (fun g=>1≤g.k∧g.t.Perm (s.take g.k)∧di l g.t∧a+g.k≤b+1) (fun g=>s.length-g.k) ⟨s.take 1,1⟩ ⟨Nat.le_refl _,.refl _,?_,by simp only;omega⟩ ?_ ?_)
 ·show di l (s.take 1)
  cases s <;>simp[di]
 ·have e:p++s.take 1++s.drop 1++q=p++s++q:=by rw[List.append_assoc p,List.take_append_drop]
  simp only[e]
  refine aD.da ?_ (fun n=>rfl)
  simp[aV,aY]
 rintro ⟨t,k⟩ ⟨g1,g2,g3,g4⟩
 simp only at g1 g2 g3 g4 ⊢
 refine ab.seq (ab.seq ?_)
 refine .bl (by decide +kernel) fun K hK =>?_
 simp only[HD,U,simprocAttr]
 refine .done (hK _ ?_);clear hK K;try simp only[aq]
 refine ab.bC ?_
 simp only[ar,U,simprocAttr]
 refine ⟨fun h =>?_,fun h =>?_⟩
 rotate_left
 ·have hk:s.length≤k:=by simp at h;omega
  refine ab.exit ?_;try simp only[aq,bN,simprocAttr]
  rw[mb]
  refine nV rfl ?_ ⟨rfl,t,?_,g3,rfl⟩
  ·rw[List.drop_eq_nil_of_le hk,List.append_nil]
  ·rwa [List.take_of_length_le hk] at g2
 have hk:k<s.length:=by simp at h;omega
 have htl:t.length=k:=by rw[g2.length_eq,List.length_take];omega
 obtain ⟨x,hx⟩:∃ x,x=s[k]:=⟨_,rfl⟩
 have hxS:jz l x:=hS x (by rw[hx];exact List.getElem_mem _)
 have htS:∀ y∈t,jz l y∧y<x:=fun y hy=>by
  have hy2:=g2.mem_iff.1 hy
  refine ⟨hS y (List.mem_of_mem_take hy2),?_⟩
  obtain ⟨j,hj,rfl⟩:=List.getElem_of_mem hy2
  rw[List.length_take] at hj
  rw[List.getElem_take,hx]
  exact List.pairwise_iff_getElem.1 hs j k (by omega) hk (by omega)
 obtain ⟨rest,hrest⟩:∃ rest,rest=s.drop (k+1)++q:=⟨_,rfl⟩
 have e0:p++t++s.drop k++q=ed p t rest x k:=by
  rw[hrest,ed,List.take_of_length_le (l:=t) (by omega),show t.drop k=[] from List.drop_eq_nil_of_le (by omega),List.drop_eq_getElem_cons hk,←hx]
  simp only[List.append_assoc,List.cons_append,List.nil_append]
 have hnr:n≤p.length+t.length+1+rest.length:=by
  rw[hrest]
  simp only[List.length_append,List.length_drop] at hnl ⊢
  omega
 rw[e0]
 refine ab.skip ?_;try simp only[aq,simprocAttr]
 refine ab.seq (ab.block ?_)
 refine .ao (by decide +kernel) fun K hK =>?_
 simp only[HE,U,simprocAttr]
 refine .done (hK _ ?_);clear hK K
 refine ab.block (ab.loop (fun c:Nat=>av [(0,.view 1000000 [] 1 0 n),(1,.int .i64 a),(2,.int .i64 b),(3,.func 138 [.ref (enc l)]),(8,.int .i64 ((a+k:Nat):Int)),(9,.int .i64 ((a+c:Nat):Int))] (cB 1000000 (ed p t rest x c))) (fun c=>c≤k∧∀ y∈t.drop c,dM l x y) (fun c=>c) k ⟨Nat.le_refl _,?_⟩ ?_ ?_)
 ·rw[List.drop_eq_nil_of_le (by omega)];intro y hy;cases hy
 ·refine aD.da ?_ (fun n=>rfl)
  simp[aV,aY]
 rintro c ⟨hc,hgt⟩
 have br:∀ c,c≤k→(∀ y∈t.drop c,dM l x y)→(∀ y∈t.take c,dM l y x)→∃ s':vh,(1≤s'.k∧s'.t.Perm (s.take s'.k)∧di l s'.t∧a+s'.k≤b+1)∧s.length-s'.k<s.length-k∧s'.k=k+1∧ed p t rest x c=p++s'.t++s.drop s'.k++q:=fun c hck h2 h1=>by
  refine ⟨⟨t.take c++x::t.drop c,k+1⟩,⟨by simp only;omega,?_,zD g3 h1 h2,by simp only;omega⟩,by simp only;omega,rfl,?_⟩
  ·simp only
   rw[List.take_succ_eq_append_getElem hk,←hx]
   refine List.perm_middle.trans ?_
   rw[List.take_append_drop]
   exact (g2.cons x).trans (List.perm_append_comm (l₁:=[x]))
  ·simp only[ed,hrest,List.append_assoc]
 have hexit:∀ ts,(∀ y∈t.take c,dM l y x)→Abs.cn ts 0=.view 1000000 [] 1 0 n→Abs.cn ts 1=.int .i64 a→Abs.cn ts 2=.int .i64 b→Abs.cn ts 3=.func 138 [.ref (enc l)]→Abs.cn ts 8=.int .i64 ((a+(k+1):Nat):Int)→∃ s':vh,(1≤s'.k∧s'.t.Perm (s.take s'.k)∧di l s'.t∧a+s'.k≤b+1)∧s.length-s'.k<s.length-k∧Abs.aD (av ts (cB 1000000 (ed p t rest x c))) (av [(0,.view 1000000 [] 1 0 n),(1,.int .i64 a),(2,.int .i64 b),(3,.func 138 [.ref (enc l)]),(8,.int .i64 ((a+s'.k:Nat):Int))] (cB 1000000 (p++s'.t++s.drop s'.k++q))):=fun ts h1 t0 t1 t2 t3 t8=>by
  obtain ⟨s',k1,k2,k3,k4⟩:=br c hc hgt h1
  refine ⟨s',k1,k2,?_⟩
  rw[k4,k3]
  refine aD.da ?_ (fun n=>rfl)
  simp only[aV,t0,t1,t2,t3,t8,and_self]
 have hw:=ft (i:=a+k) (by omega)
 have hws:(ed p t rest x c).length=p.length+t.length+1+rest.length:=xS (by omega)
 simp only[cB] at hexit ⊢
 cases c with
 |zero =>
  have hc0:decide ((a:Int)<((a+0:Nat):Int))=false:=by simp
  have R:=And.intro @hc0 (And.intro @hw (And.intro @a6 @U))
  repeat' ((first
   |(with_reducible refine .guard (fun hb =>?_) (fun hb =>?_) <;>try simp only[hb])
   |refine ab.aO (by decide +kernel) rfl fun K hK =>?_
   |(refine .aI [0,1,2,3,8,9,14,34] hK ?_;clear hK K)
   |(with_reducible refine .done (hK _ ?_);clear hK K)
   |refine ab.of rfl ?_
   |(with_reducible refine ar.aL (fun h =>?_) (fun h =>?_) <;>try simp only[h])) <;>try simp only[aQ,R,simprocAttr])
  all_goals clear R
  exact hexit _ (by simp) rfl rfl rfl rfl rfl
 |succ c =>
  have hct:c<t.length:=by omega
  have hc0:decide ((a:Int)<((a+(c+1):Nat):Int))=true:=by simp;omega
  have wd:IntKind.i64.wrap (((a+(c+1):Nat):Int)-1)=((a+c:Nat):Int):=by rw[cA _ (by omega) (by omega)];omega
  have gx:=ahH (p:=p) (t:=t) (rest:=rest) (x:=x) (c:=c+1) ha (by omega)
  have gy:=ahI (p:=p) (t:=t) (rest:=rest) (x:=x) (c:=c) ha hct
  have hstep:=Kp (p:=p) (t:=t) (rest:=rest) (x:=x) (c:=c) ha hct
  obtain ⟨hyS,hyx⟩:=htS t[c] (List.getElem_mem _)
  have hcmp:=sj l hd hl x t[c] hxS hyS
  generalize hws0:ed p t rest x (c+1)=ws at *
  have hi1:a+(c+1)<n:=by omega
  have hj1:a+c<n:=by omega
  obtain ⟨i1,hi1e⟩:∃ i1,i1=a+(c+1):=⟨_,rfl⟩
  obtain ⟨j1,hj1e⟩:∃ j1,j1=a+c:=⟨_,rfl⟩
  have hij:a+c+1=i1:=by omega
  rw[hij] at hstep
  rw[←hi1e] at hi1 gx hc0 wd ⊢
  rw[←hj1e] at hj1 gy wd hstep
  have v1:=jA (n:=n) (i:=i1) hi1
  have v2:=jA (n:=n) (i:=j1) hj1
  have l1:=gZ (xs:=ws) (i:=i1) (by omega)
  have l2:=gZ (xs:=ws) (i:=j1) (by omega)
  have s1:=fun (A:af) v u rest=>n9 (A:=A) (n:=1000000) (xs:=ws) (i:=i1) (by omega) v u rest
  obtain ⟨ws2,hws2⟩:∃ ws2,ws2=ws.set i1 (ws.getD j1 0):=⟨_,rfl⟩
  have hw2l:ws2.length=ws.length:=by rw[hws2];simp
  have s2:=fun (A:af) v u rest=>n9 (A:=A) (n:=1000000) (xs:=ws2) (i:=j1) (by omega) v u rest
  have l3:=gZ (xs:=ws2) (i:=j1) (by omega)
  rw[gx] at l1
  rw[gy] at l2
  rw[gy] at hws2
  have hst2:ws2.set j1 x=ed p t rest x c:=by rw[←hstep];simp only[kH,gx,gy,←hws2]
  cases hlt:decide (gz l x-gz l t[c]<0) with
  |true =>
   have R:=And.intro @hc0 (And.intro @hw (And.intro @wd (And.intro @v1 (And.intro @v2 (And.intro @l1 (And.intro @l2 (And.intro @l3 (And.intro @s1 (And.intro @s2 (And.intro @hst2 (And.intro @hlt (And.intro @dp (And.intro @dV (And.intro @a6 @U))))))))))))))
   repeat' ((first
    |(with_reducible refine .guard (fun hb =>?_) (fun hb =>?_) <;>try simp only[hb])
    |refine ab.aO (by decide +kernel) rfl fun K hK =>?_
    |refine .flat _ (hcmp) rfl ?_
    |(refine .aI [0,1,2,3,8,9,14,34] hK ?_;clear hK K)
    |(with_reducible refine .done (hK _ ?_);clear hK K)
    |refine ab.of rfl ?_
    |(with_reducible refine ar.aL (fun h =>?_) (fun h =>?_) <;>try simp only[h])) <;>try simp only[aQ,R,←hws2,List.cons_append,simprocAttr])
   all_goals clear R
   refine ⟨c,⟨by omega,fun y hy =>?_⟩,by omega,?_⟩
   ·rw[List.drop_eq_getElem_cons hct] at hy
    rcases List.mem_cons.1 hy with rfl | hy
    ·rw[tL hyx];simp at hlt;omega
    ·exact hgt y hy
   ·rw[hj1e]
    refine aD.da ?_ (fun n =>?_)
    ·simp[aV,aY]
    ·simp only[al];split <;>rfl
  |false =>
   have R:=And.intro @hc0 (And.intro @hw (And.intro @wd (And.intro @v1 (And.intro @v2 (And.intro @l1 (And.intro @l2 (And.intro @hlt (And.intro @dp (And.intro @dV (And.intro @a6 @U))))))))))
   repeat' ((first
    |(with_reducible refine .guard (fun hb =>?_) (fun hb =>?_) <;>try simp only[hb])
    |refine ab.aO (by decide +kernel) rfl fun K hK =>?_
    |refine .flat _ (hcmp) rfl ?_
    |(refine .aI [0,1,2,3,8,9,14,34] hK ?_;clear hK K)
    |(with_reducible refine .done (hK _ ?_);clear hK K)
    |refine ab.of rfl ?_
    |(with_reducible refine ar.aL (fun h =>?_) (fun h =>?_) <;>try simp only[h])) <;>try simp only[aQ,R,List.cons_append,simprocAttr])
   all_goals clear R
   exact hexit _ (alv g3 hct (tK hyx (by simp at hlt;omega))) rfl rfl rfl rfl rfl
def nM(key:Nat→Int)(a b:Nat):Prop:=key a<key b∨(key a=key b∧a<b)
theorem xP(key:Nat→Int)(i:Nat)(o:List Nat):(ku key i o).Perm (i::o):=by
 have h:(o.takeWhile fun k=>decide (key k≤key i))++(o.dropWhile fun k=>decide (key k≤key i))=o:=List.takeWhile_append_dropWhile
 have:=(List.perm_middle (a:=i) (l₁:=o.takeWhile fun k=>decide (key k≤key i)) (l₂:=o.dropWhile fun k=>decide (key k≤key i)))
 rw[h] at this
 exact this
theorem Ko(key:Nat→Int)(i:Nat):∀ o:List Nat,o.Pairwise (nM key)→(∀ x∈o,x<i)→(ku key i o).Pairwise (nM key)
 | [],_,_=>by simp[ku]
 |a::o,hs,hi=>by
  obtain ⟨h1,h2⟩:=List.pairwise_cons.1 hs
  by_cases ha:key a≤key i
  ·have e:ku key i (a::o)=a::ku key i o:=by simp[ku,ha]
   rw[e]
   refine List.pairwise_cons.2 ⟨fun b hb =>?_,Ko key i o h2 fun x hx=>hi x (by simp[hx])⟩
   rcases List.mem_cons.1 ((xP key i o).mem_iff.1 hb) with rfl | hb
   ·have:=hi a (by simp)
    simp only[nM];omega
   ·exact h1 b hb
  ·have e:ku key i (a::o)=i::a::o:=by simp[ku,ha]
   rw[e]
   refine List.pairwise_cons.2 ⟨fun b hb =>?_,hs⟩
   rcases List.mem_cons.1 hb with rfl | hb
   ·simp only[nM];omega
   ·have:=h1 b hb
    simp only[nM] at *;omega
theorem uk(key:Nat→Int):∀ (l o:List Nat),o.Pairwise (nM key)→l.Pairwise (· < ·)→(∀ x∈o,∀ y∈l,x<y)→(l.foldl (fun o i=>ku key i o) o).Perm (o++l)∧(l.foldl (fun o i=>ku key i o) o).Pairwise (nM key)
 | [],o,ho,_,_=>by simp[ho]
 |i::l,o,ho,hl,hx=>by
  obtain ⟨h1,h2⟩:=List.pairwise_cons.1 hl
  have:=uk key l (ku key i o) (Ko key i o ho fun x h=>hx x h i (by simp)) h2 fun x h y hy=>by
   rcases List.mem_cons.1 ((xP key i o).mem_iff.1 h) with rfl | h
   ·exact h1 y hy
   ·exact hx x h y (by simp[hy])
  refine ⟨this.1.trans ?_,this.2⟩
  exact ((xP key i o).append_right l).trans List.perm_middle.symm
def dB(l:List Nat):List Int:=l.map fun n:Nat=>(n:Int)
def lL(l:List ak)(day known:Int):List Int:=dB (kj l day known)
def qh(l:List ak)(day known:Int):List Int:=dB (j8 l day known)
theorem alJ(l:List ak)(known:Int):(ir l known).Pairwise (· < ·):=List.Pairwise.filter _ List.pairwise_lt_range
theorem OS{l:List ak}{known:Int}{i:Nat}(h:i∈ir l known):i<l.length:=by
 simp only[ir,List.mem_filter,List.mem_range] at h;exact h.1
theorem sS(l:List ak)(day known:Int):(kj l day known).Pairwise (· < ·):=List.Pairwise.filter _ (alJ l known)
theorem Dp{l:List ak}{day known:Int}{i:Nat}(h:i∈kj l day known):i<l.length:=OS (List.mem_filter.1 h).1
theorem Y4(l:List ak)(day known:Int):(lL l day known).Pairwise (· < ·):=by
 refine List.pairwise_map.2 ((sS l day known).imp fun {a b} h =>?_)
 show (a:Int)<(b:Int)
 omega
theorem Y3{l:List ak}{day known:Int} : ∀ x∈lL l day known,jz l x:=fun x hx=>by
 obtain ⟨i,hi,rfl⟩:=List.mem_map.1 hx
 have:=Dp hi
 exact ⟨by omega,by omega⟩
theorem vZ(l:List ak)(day known:Int):(kj l day known).length≤l.length:=by
 have h1:=List.length_filter_le (fun i=>decide ((ae l i).kind≠0)&&decide ((ae l i).day≤day)) (ir l known)
 have h2:=List.length_filter_le (fun i=>(lq l known).getD i false) (List.range l.length)
 rw[List.length_range] at h2
 exact Nat.le_trans h1 h2
theorem akc{l:List ak}{day known:Int}{s:List Int}(hp:s.Perm (lL l day known))(hs:di l s):s=qh l day known:=by
 have h0:=uk (fun i=>(ae l i).day) (kj l day known) [] (by simp) (sS l day known) (by simp)
 have h1:(qh l day known).Perm (lL l day known):=h0.1.map _
 have h2:di l (qh l day known):=by
  refine List.pairwise_map.2 (h0.2.imp fun {a b} h =>?_)
  simp only[nM] at h
  simp only[dM,gz,Int.toNat_natCast]
  omega
 refine List.Perm.eq_of_pairwise (fun a b _ _ h k =>?_) hs h2 (hp.trans h1.symm)
 simp only[dM] at h k;omega
theorem ake{l:List ak}{day known:Int}{i:Nat}(h:i∈j8 l day known):i∈kj l day known:=by
 have h0:=uk (fun i=>(ae l i).day) (kj l day known) [] (by simp) (sS l day known) (by simp)
 exact h0.1.mem_iff.1 h
theorem LO(l:List ak)(day known:Int):(j8 l day known).length=(kj l day known).length:=by
 have h0:=uk (fun i=>(ae l i).day) (kj l day known) [] (by simp) (sS l day known) (by simp)
 exact h0.1.length_eq
theorem ajO{x:ak}(h:gS x=true):0≤x.day∧x.day≤100000:=by
 simp only[gS,cq,Bool.and_eq_true,decide_eq_true_eq] at h
 omega
theorem alI(l:List ak)(known:Int):(lq l known).length=l.length:=zF known l
theorem Qb(el:List ak):aA Tryz.prog 203 [enc ([]:List Int),.int .i64 0,.int .i64 0,.func 138 [.ref (enc el)]] (.tuple []):=by
 refine aA.bA Tryz.func203 CS CZ Db (Nat.le_of_ble_eq_true rfl) (fun hwf W0 D0 E1 =>?_)
 simp only[vB,zd,bp,Nat.zero_add,Nat.reduceAdd]
 clear hwf
 have hc:decide ((1:Int)<0)=false:=by decide
 have hw:IntKind.i64.wrap 1=1:=by decide
 refine .ao (by decide +kernel) fun K hK =>?_
 simp only[xi,U,Nat.reduceEqDiff,reduceIte]
 refine .done (hK _ ?_);clear hK K
 refine ab.block (ab.loop (fun _:Unit=>av [(2,.int .i64 0),(8,.int .i64 1)] []) (fun _=>True) (fun _=>0) () trivial ?_ (fun _ _ =>?_))
 ·refine aD.bM ?_ ?_ ?_ ?_ <;>simp[*,aV,bF,bE,a7,aY,I.only]
 have R:=And.intro @hc (And.intro @iH (And.intro @bn (And.intro @a6 @U)))
 repeat' ((first
  |(with_reducible refine .guard (fun hb =>?_) (fun hb =>?_) <;>try simp only[hb])
  |refine ab.aO (by decide +kernel) rfl fun K hK =>?_
  |(refine .aI [0,1,2,3,8,9,14,34] hK ?_;clear hK K)
  |(with_reducible refine .done (hK _ ?_);clear hK K)
  |refine ab.of rfl ?_
  |(with_reducible refine ar.aL (fun h =>?_) (fun h =>?_) <;>try simp only[h])) <;>try simp only[aQ,R,Nat.reduceEqDiff,reduceIte,Nat.reduceBEq])
 all_goals clear R
 rfl
theorem PX(el:List ak):aA Tryz.prog 171 [enc ([]:List Int),.int .i64 0,.func 138 [.ref (enc el)]] (.tuple []):=by
 refine aA.bA Tryz.func171 CP CX C9 (Nat.le_of_ble_eq_true rfl) (fun hwf W0 D0 E1 =>?_)
 simp only[vz,zb,bp,Nat.zero_add,Nat.reduceAdd]
 clear hwf
 have hc:decide ((20:Int)≤0)=false:=by decide
 have hc2:decide ((20:Int)<0)=false:=by decide
 refine .ao (by decide +kernel) fun K hK =>?_
 simp only[w0,U]
 refine .done (hK _ ?_);clear hK K
 refine .ao (by decide +kernel) fun K hK =>?_
 simp only[xa,U,Nat.reduceEqDiff,reduceIte]
 refine .done (hK _ ?_);clear hK K
 refine ab.seq (ab.block (ab.loop (fun _:Unit=>av [(0,enc ([]:List Int)),(1,.int .i64 0),(2,.func 138 [.ref (enc el)]),(6,.int .i64 20),(7,.int .i64 0),(8,.int .i64 20)] []) (fun _=>True) (fun _=>0) () trivial ?_ (fun _ _ =>?_)))
 ·refine aD.bM ?_ ?_ ?_ ?_ <;>simp[aV,bF,bE,a7,aY,I.only,I.bR,bh]
 have R:=And.intro @hc (And.intro @iH (And.intro @bn (And.intro @a6 @U)))
 repeat' ((first
  |(with_reducible refine .guard (fun hb =>?_) (fun hb =>?_) <;>try simp only[hb])
  |refine ab.aO (by decide +kernel) rfl fun K hK =>?_
  |refine .lead _ (Qb el) ?_
  |(refine .aI [0,1,2,6,7,8,9,13,30,35,54] hK ?_;clear hK K)
  |(with_reducible refine .done (hK _ ?_);clear hK K)
  |refine ab.of rfl ?_
  |(with_reducible refine ar.aL (fun h =>?_) (fun h =>?_) <;>try simp only[h])) <;>try simp only[aQ,R,Nat.reduceEqDiff,reduceIte,Nat.reduceBEq])
 all_goals clear R
 refine ab.loop (fun _:Unit=>av [(0,enc ([]:List Int)),(1,.int .i64 0),(2,.func 138 [.ref (enc el)]),(6,.int .i64 20)] []) (fun _=>True) (fun _=>0) () trivial ?_ (fun _ _ =>?_)
 ·refine aD.bM ?_ ?_ ?_ ?_ <;>simp[aV,bF,bE,a7,aY,I.only,I.bR,bh]
 have R:=And.intro @hc2 (And.intro @iH (And.intro @bn (And.intro @a6 @U)))
 repeat' ((first
  |(with_reducible refine .guard (fun hb =>?_) (fun hb =>?_) <;>try simp only[hb])
  |refine ab.aO (by decide +kernel) rfl fun K hK =>?_
  |(refine .aI [0,1,2,6,7,8,9,13,30,35,54] hK ?_;clear hK K)
  |(with_reducible refine .done (hK _ ?_);clear hK K)
  |refine ab.of rfl ?_
  |(with_reducible refine ar.aL (fun h =>?_) (fun h =>?_) <;>try simp only[h])) <;>try simp only[aQ,R,Nat.reduceEqDiff,reduceIte,Nat.reduceBEq])
 all_goals clear R
 rfl
theorem PC(el:List ak):aA Tryz.prog 137 [enc ([]:List Int),.func 138 [.ref (enc el)]] (.tuple []):=by
 refine aA.bA Tryz.func137 CN CW C8 (Nat.le_of_ble_eq_true rfl) (fun hwf W0 D0 E1 =>?_)
 simp only[vy,za,bp,Nat.zero_add]
 clear hwf
 have hz:(([]:List Int).length:Int)=0:=rfl
 have R:=And.intro @hz (And.intro @iH (And.intro @bn (And.intro @a6 @U)))
 repeat' ((first
  |(with_reducible refine .guard (fun hb =>?_) (fun hb =>?_) <;>try simp only[hb])
  |refine ab.aO (by decide +kernel) rfl fun K hK =>?_
  |refine .lead _ (PX el) ?_
  |(refine .aI [0,1] hK ?_;clear hK K)
  |(with_reducible refine .done (hK _ ?_);clear hK K)
  |refine ab.of rfl ?_
  |(with_reducible refine ar.aL (fun h =>?_) (fun h =>?_) <;>try simp only[h])) <;>try simp only[R,Nat.reduceEqDiff,reduceIte])
 all_goals clear R
 rfl
def ak5(l:List b9):Prop:=∀ (i j:Nat) (hi:i<l.length) (hj:j<l.length),i<j→l[i].bP<l[j].bP
theorem amo{m:bZ}(h:en m=true):ak5 m.given:=by
 simp only[en,Bool.and_eq_true,List.all_eq_true,List.mem_range] at h
 have h1:∀ i,i+1<m.given.length→(cZ m i).bP<(cZ m (i+1)).bP:=fun i hi=>by
  have:=h.2.2.2 (i+1) hi
  simp only[gR,Bool.and_eq_true] at this
  simpa using this.2.2.1
 intro i j hi hj hij
 obtain ⟨d,rfl⟩:∃ d,j=i+1+d:=⟨j-(i+1),by omega⟩
 induction d with
 |zero=>rw[jx hi,jx hj];exact h1 i hj
 |succ d ih =>
  have hj':i+1+d<m.given.length:=by omega
  have:=ih hj' (by omega)
  rw[jx hi,jx hj'] at this
  rw[jx hi,jx hj]
  have h3:=h1 (i+1+d) hj
  have e:i+1+(d+1)=i+1+d+1:=by omega
  rw[e];omega
theorem Lr{m:bZ}(h:en m=true):m.given.length≤40:=by
 simp only[en,Bool.and_eq_true,decide_eq_true_eq] at h
 exact h.2.2.1
theorem Lu{m:bZ}(h:en m=true):∀ g∈m.given,dT g.mark=true:=fun g hg=>by
 simp only[en,Bool.and_eq_true,List.all_eq_true,List.mem_range] at h
 obtain ⟨i,hi,rfl⟩:=List.getElem_of_mem hg
 rw[jx hi]
 exact yH (h.2.2.2 i hi)
theorem P9(m:bZ)(r:aS 6 Int)(g:b9)(hg:dT g.mark=true):aA Tryz.prog 201 (enc g::[.ref (enc m),.ref (enc r)]) (enc (decide (m.eH<lI m.eL g.mark r))):=by
 refine aA.bA Tryz.func201 SX US WZ (Nat.le_of_ble_eq_true rfl) (fun hwf W0 D0 E1 =>?_)
 simp only[B4,Na,bp,Nat.zero_add,Nat.reduceAdd]
 refine .ao (by decide +kernel) fun K hK =>?_
 simp only[Hy,U,simprocAttr]
 try simp only[dq,U,simprocAttr]
 refine .done (hK _ ?_);clear hK K
 refine .ao (by decide +kernel) fun K hK =>?_
 simp only[Hz,U,simprocAttr]
 try simp only[cD,cH,U,simprocAttr]
 refine .flat _ (Qa m.eL g.mark r hg) rfl ?_
 try simp only[cD,U,simprocAttr]
 refine .done (hK _ ?_);clear hK K
 refine ab.ret ?_
 simp only[U,simprocAttr]
def lg(m:bZ)(r:aS 6 Int):List b9:=fT (fun g=>decide (m.eH<lI m.eL g.mark r)) m.given
def L0(d:Nat)(m:bZ)(r:aS 6 Int):cR:=fun x os'=>(lg m r=[]∧x=enc ([]:List b9)∧os'=[])∨∃ k,x=.view d [] 7 0 (lg m r).length∧os'=iR d (lg m r) k
theorem PU(m:bZ)(r:aS 6 Int)(hm:∀ g∈m.given,dT g.mark=true)(hlen:m.given.length≤1000):cF Tryz.prog 168 [enc m,enc r] [] (L0 7 m r):=by
 refine cF.bA Tryz.func168 SF UA WG (Nat.le_of_ble_eq_true rfl) (Nat.le_of_ble_eq_true rfl) (fun m hm=>by simp[au,al] at hm) (fun hwf W0 D0 E1 =>?_)
 simp only[BK,MR,bp,Nat.zero_add]
 refine .ao (by decide +kernel) fun K hK =>?_
 simp only[GH,U,simprocAttr]
 try simp only[dq,U,simprocAttr]
 refine .done (hK _ ?_);clear hK K
 refine .ao (by decide +kernel) fun K hK =>?_
 simp only[GI,U,simprocAttr]
 try simp only[cD,cH,U,simprocAttr]
 refine .bS false [(7,7)] [] [enc m.given] (vN m.given) rfl (Ac m.given hlen) fP.nil ⟨.inl ⟨(hX _ _).symm,bh _ _,dq _⟩,trivial⟩ ?_ ?_
 ·rintro x os' (⟨_,h | h,rfl⟩ | ⟨_,k,rfl,rfl⟩)
  ·subst h;exact dx.nil (fun _=>rfl) (fun h=>by cases h)
  ·subst h;exact dx.nil (fun _=>rfl) (fun h=>by cases h)
  ·exact dx.qa (fun p=>mL p _) (fun h=>by cases h) rfl (fun h=>by cases h) rfl (by decide)
 ·have hd:I.e9 [.ref (enc m),.ref (enc r)]=true:=by simp only[I.e9,I.done,dV,Bool.and_self]
  rintro x os' (⟨hn,h,rfl⟩ | ⟨hn,k,rfl,rfl⟩)
  ·have hp:lg m r=[]:=by simp[lg,fT,hn]
   have key:∀ x,(x=.nils 7∨x=.c0 7)→br true (av [] []) x=some (enc ([]:List b9)):=by rintro x (rfl | rfl) <;>rfl
   have hren:∀ x:I,(x=.nils 7∨x=.c0 7)→x.aR (bD [(7,7)])=x∧x.cj=true:=by rintro x (rfl | rfl) <;>exact ⟨by simp only[I.aR],rfl⟩
   rw[(hren x h).1]
   try simp only[gh,List.nil_append,List.all_cons,List.all_nil,I.cj,Bool.and_self,U,simprocAttr]
   have hfx:∀ A,br true A x=some (enc ([]:List b9)):=fun A=>by rcases h with rfl | rfl <;>simp only[br,gA,List.map_nil] <;>rfl
   refine .iL [2,3] (enc ([]:List b9)) rfl (P8 201 [.ref (enc m),.ref (enc r)] hd) ?_ ?_ ?_
   ·try simp only[hfx,jc,List.filter_cons,List.filter_nil,List.contains_cons,Nat.reduceBEq,Bool.or_true,Bool.true_or,BEq.rfl,dV,U,simprocAttr]
   ·simp[c7,a7]
   ·try simp only[gB,c7,List.filter_cons,List.filter_nil,List.contains_cons,Nat.reduceBEq,Bool.or_true,Bool.true_or,BEq.rfl,List.map_cons,List.map_nil,U,simprocAttr]
    refine .done (hK _ ?_);clear hK K
    refine ab.ret ?_
    simp only[eY]
    exact ⟨[],[enc ([]:List b9)],rh,⟨⟨_,rfl,.inl ⟨rfl,rfl,rfl⟩⟩,trivial⟩,.inl ⟨hp,rfl,rfl⟩⟩
  ·try simp only[iR,gh,gu,List.cons_append,List.nil_append,List.all_cons,List.all_nil,I.cj,Bool.and_self,U,simprocAttr]
   refine .bS true [(1000000,7)] (iR 1000000 m.given k) [.view 1000000 [] 7 0 m.given.length,.func 201 [.ref (enc m),.ref (enc r)]] (Dg 1000000 (lg m r)) rfl
    (P7 m.given 201 [.ref (enc m),.ref (enc r)] hd (fun g=>decide (m.eH<lI m.eL g.mark r)) (fun g hg=>P9 m r g (hm g hg)) hlen k) ⟨?_,?_⟩ ⟨.inl ⟨?_,?_,rfl⟩,.inr ?_,trivial⟩ ?_ ?_
   ·intro n x h
    simp only[iR,al] at h
    split at h
    ·rename_i hn'
     subst hn'
     simp only[Option.some.injEq] at h
     subst h
     exact ⟨by simp only[gh,gu,U,simprocAttr],mL _ _,rfl⟩
    ·cases h
   ·intro a b ha hb _
    rw[cW.1 ha,cW.1 hb]
   ·try simp only[gh,simprocAttr]
   ·exact cW.2 rfl
   ·try simp only[jZ,iR,bD,c7,List.filter_cons,List.filter_nil,List.map_cons,List.map_nil,List.contains_cons,List.contains_nil,Nat.reduceBEq,Bool.or_false,BEq.rfl,dV,U,simprocAttr]
   ·rintro x os' ⟨k',rfl,rfl⟩
    exact dx.one (fun p=>mL p _) (fun _=>aiu _) (cW.2 rfl) (fun _=>rfl)
   ·rintro x os' ⟨k',rfl,rfl⟩
    try simp only[iR,gh,gu,List.cons_append,List.nil_append,U,simprocAttr]
    refine .done (hK _ ?_);clear hK K
    refine ab.ret ?_
    simp only[eY]
    exact ⟨iR 7 (lg m r) k',[.view 7 [] 7 0 (lg m r).length],kp rfl (fun p=>mL p _),⟨⟨_,rfl,.inl ⟨rfl,rfl,rfl⟩⟩,trivial⟩,.inr ⟨k',rfl,rfl⟩⟩
def kZ(l:List b9)(i:Nat):List Int:=(l.take i).map (·.bP)
theorem akh(l:List b9):kZ l 0=[]:=by simp[kZ]
theorem akg{l:List b9}{i:Nat}(h:i<l.length):kZ l (i+1)=kZ l i++[l[i].bP]:=by
 simp only[kZ];rw[List.take_succ_eq_append_getElem h,List.map_append];rfl
theorem LP{l:List b9}{i:Nat}(h:i≤l.length):(kZ l i).length=i:=by simp[kZ];omega
theorem akf(l:List b9):kZ l l.length=l.map (·.bP):=by simp[kZ]
theorem PV(l:List b9)(hlen:l.length≤1000):aA Tryz.prog 169 [enc l] (enc (l.map (·.bP))):=by
 refine aA.bA Tryz.func169 SG UB WH (Nat.le_of_ble_eq_true rfl) (fun hwf W0 D0 E1 =>?_)
 simp only[BL,MS,bp]
 refine .ao (by decide +kernel) fun K hK =>?_
 simp only[GJ,U,simprocAttr]
 refine .done (hK _ ?_);clear hK K
 refine .ao (by decide +kernel) fun K hK =>?_
 simp only[GK,U,simprocAttr]
 refine .done (hK _ ?_);clear hK K
 refine ab.seq ?_
 refine ab.seq (ab.bl (by decide +kernel) fun K hK =>?_)
 try simp only[GL,bn,U,simprocAttr]
 refine .done (hK _ ?_);clear hK K
 refine ab.block (ab.loop (fun i:Nat=>av [(3,.own 3 (kZ l i).length),(6,enc l),(7,.int .i64 l.length),(8,.int .i64 i)] [(3,.bT 3 1 ((kZ l i).map enc))]) (fun i=>i≤l.length) (fun i=>l.length-i) 0 (Nat.zero_le _) ?_ (fun i hi =>?_))
 ·refine aD.qG 3 3 3 1 1 ?_ ?_ ?_
  ·simp only[po,Nat.reduceEqDiff,reduceIte]
  ·simp only[po]
  ·simp only[akh,List.map_nil,List.length_nil]
   refine aD.bM ?_ ?_ ?_ ?_ <;>simp[aV,bF,bE,a7,au,aY,ct,I.only,I.bR,ai.only,bh]
 ·refine .ao (by decide +kernel) fun K hK =>?_
  simp only[GM,U,simprocAttr]
  refine .done (hK _ ?_);clear hK K
  refine ab.seq ?_
  refine ab.bC ?_
  simp only[ar,U,simprocAttr]
  refine ⟨fun h =>?_,fun h =>?_⟩
  ·have hlt:i<l.length:=by simpa using h
   refine ab.skip ?_;try simp only[aq,simprocAttr]
   refine ab.seq (ab.block ?_)
   refine .ao (by decide +kernel) fun K hK =>?_
   simp only[GN,U,simprocAttr]
   try simp only[fI 7 hlt rfl,cD,U,simprocAttr]
   rw[ev (dq _) (by rw[fZ];rfl) ((eQ _).trans rfl)]
   try simp only[U,simprocAttr]
   refine .done (hK _ ?_);clear hK K
   refine .bl (by decide +kernel) fun K hK =>?_
   simp only[GO,U,simprocAttr]
   try simp only[cD,U,simprocAttr]
   rw[lB 3 1 8 3 rfl rfl (by simp) (by simp[maxLen,LP hi];omega) (by simp[LP hi];omega)]
   try simp only[U,simprocAttr]
   refine .done (hK _ ?_);clear hK K;try simp only[aq,bN]
   refine .bl (by decide +kernel) fun K hK =>?_
   simp only[GP,U,simprocAttr]
   refine .done (hK _ ?_);clear hK K;try simp only[aq]
   refine ⟨i+1,by omega,by omega,?_⟩
   rw[cA _ (by omega) (by omega),akg hlt]
   refine aD.bM ?_ ?_ ?_ ?_ <;>simp[aV,bF,bE,a7,au,aY,ct,I.only,I.bR,ai.only,dN,gG,bh,jw]
  ·have hge:i=l.length:=by simp at h;omega
   subst hge
   refine ab.exit ?_;try simp only[aq,bN,simprocAttr]
   refine .ao (by decide +kernel) fun K hK =>?_
   simp only[GQ,U,simprocAttr]
   refine .done (hK _ ?_);clear hK K
   refine ab.ret ?_
   try simp only[akf,U,simprocAttr]
def fh(rs:List (aS 6 Int))(j:Nat):aS 6 Int:=rs.getD j lv
theorem ahL{A:af}{rs:List (aS 6 Int)}{i:Nat}(h:i<rs.length):iM A 6 (i:Int) (enc rs)=some (.ref (enc (fh rs i))):=by
 rw[fI 6 h rfl];simp[fh,List.getD_eq_getElem?_getD,h]
def Dn(m:bZ)(rs:List (aS 6 Int))(g:b9)(j:Nat):Bool:=decide (lI m.eL g.mark (fh rs j)≤m.eH)
def jE(m:bZ)(rs:List (aS 6 Int))(n:Nat):List b9:=m.given.filter fun g=>(List.range n).all (Dn m rs g)
theorem ajI(m:bZ)(rs:List (aS 6 Int)):jE m rs 0=m.given:=by simp[jE]
theorem Lf(m:bZ)(rs:List (aS 6 Int))(n:Nat):jE m rs (n+1)=lg ⟨m.eL,m.eH,jE m rs n⟩ (fh rs n):=by
 simp only[jE,lg,fT,List.filter_filter]
 refine List.filter_congr fun g _ =>?_
 rw[List.range_succ,List.all_append]
 simp only[List.all_cons,List.all_nil,Bool.and_true,Dn]
 by_cases h:lI m.eL g.mark (fh rs n)≤m.eH
 ·have h2:¬ m.eH<lI m.eL g.mark (fh rs n):=by omega
  simp[h,h2]
 ·have h2:m.eH<lI m.eL g.mark (fh rs n):=by omega
  simp[h,h2]
theorem ajH{m:bZ}{rs:List (aS 6 Int)}{n:Nat}{g:b9}(h:g∈jE m rs n):g∈m.given:=(List.mem_filter.1 h).1
theorem Le(m:bZ)(rs:List (aS 6 Int))(n:Nat):(jE m rs n).length≤m.given.length:=List.length_filter_le _ _
def yL(rs:List (aS 6 Int)):Bool:=(List.range rs.length).all fun i=>il (fh rs i)
def jf(m:bZ)(rs:List (aS 6 Int)):List Int×Int:=if en m then (if rs.length≤60 then (if yL rs then ((jE m rs rs.length).map (·.bP),0) else ([],12)) else ([],2)) else ([],13)
theorem RM(w:aS 5 Int)(n:Int)(l:List b9):dY [enc (a5 0 0 0 0 0),.int .i64 0,.nils 7] [(0,enc w),(1,.int .i64 n),(2,enc l)]=some [enc w,.int .i64 n,enc l]:=by
 have h1:((enc w:I).cj=true∧(enc w:I).size=(enc (a5 0 0 0 0 0)).size):=⟨dq _,by rw[fG,fG]⟩
 have h2:((enc l:I).cj=true∧(enc l:I).size=(I.nils 7).size):=⟨dq _,by rw[fG];rfl⟩
 rw[oY (z:=enc (a5 0 0 0 0 0)) rfl h1.1 h1.2,oY (v:=.int .i64 n) (z:=.int .i64 0) rfl rfl rfl,oY (z:=.nils 7) rfl h2.1 h2.2];rfl
theorem Pw(m:bZ)(rs:List (aS 6 Int)):aA Tryz.prog 128 [enc m,enc rs] (.tuple [enc (jf m rs).1,enc (jf m rs).2]):=by
 refine aA.bA Tryz.func128 Sb T6 Wb (Nat.le_of_ble_eq_true rfl) (fun hwf W0 D0 E1 =>?_)
 simp only[Bf,Mm,bp,Nat.zero_add]
 refine .ao (by decide +kernel) fun K hK =>?_
 simp only[E5,U,simprocAttr]
 try simp only[dq,U,simprocAttr]
 refine .done (hK _ ?_);clear hK K
 refine ab.seq ?_
 refine .ao (by decide +kernel) fun K hK =>?_
 simp only[E6,U,simprocAttr]
 try simp only[cD,cH,U,simprocAttr]
 refine .flat _ (vf m) rfl ?_
 generalize hm:en m=bm
 cases bm
 ·try simp only[U,simprocAttr]
  refine .done (hK _ ?_);clear hK K
  refine .ao (by decide +kernel) fun K hK =>?_
  simp only[wL,U,simprocAttr]
  refine .done (hK _ ?_);clear hK K
  refine ab.bC ?_
  simp only[ar,U,simprocAttr]
  refine ⟨fun h =>?_,fun h =>?_⟩
  ·refine .ao (by decide +kernel) fun K hK =>?_
   simp only[E7,U,simprocAttr]
   refine .done (hK _ ?_);clear hK K
   refine ab.ret ?_
   simp only[aq,U,simprocAttr]
   simp[jf,hm,yw]
  ·cases h
 try simp only[U,simprocAttr]
 refine .done (hK _ ?_);clear hK K
 refine .ao (by decide +kernel) fun K hK =>?_
 simp only[wL,U,simprocAttr]
 refine .done (hK _ ?_);clear hK K
 refine ab.bC ?_
 simp only[ar,U,simprocAttr]
 refine ⟨fun h =>?_,fun h =>?_⟩
 ·cases h
 refine ab.skip ?_;try simp only[aq,simprocAttr]
 refine ab.seq ?_
 refine .ao (by decide +kernel) fun K hK =>?_
 simp only[E8,U,simprocAttr]
 try simp only[bn,U,simprocAttr]
 refine .done (hK _ ?_);clear hK K
 refine ab.bC ?_
 simp only[ar,U,simprocAttr]
 refine ⟨fun h =>?_,fun h =>?_⟩
 ·refine .ao (by decide +kernel) fun K hK =>?_
  simp only[E9,U,simprocAttr]
  refine .done (hK _ ?_);clear hK K
  refine ab.ret ?_
  simp only[aq,U,simprocAttr]
  have:¬ rs.length≤60:=by simp at h;omega
  simp[jf,hm,this,yw]
 have hrl:rs.length≤60:=by simp at h;omega
 refine ab.skip ?_;try simp only[aq,simprocAttr]
 have hlen:m.given.length≤1000:=by have:=Lr hm;omega
 -- from the clone on
 have key:∀ c:cQ,c=⟨Tryz.prog,W0,D0,Tryz.f128.ntmps,dw E1,E1,iN,none⟩→ab c (.seq (.seq (.bW none wM) (.block 0 (.loop (.seq (.bW none wN) (.seq (.cond (.t 25) .skip (.exit 0)) (.seq (.block 1 (.seq (.bW none wO) (.seq (.seq (.bW none wH) (.seq (.bW none s8) (.cond (.t 31) (.seq (.bW none wI) .ret) .skip))) (.bW none wJ)))) (.bW none s9))))))) (.seq (.bW none wK) .ret))
   (jH [.tmp 4,.tmp 5] (.tuple [enc (jf m rs).1,enc (jf m rs).2])) (av [(1,enc rs),(2,.ptr 2 []),(7,enc m.given)] [(2,.box (enc m))]):=by
  rintro c rfl
  refine ab.seq ?_
  refine .ao (by decide +kernel) fun K hK =>?_
  simp only[wM,U,simprocAttr]
  try simp only[bn,U,simprocAttr]
  refine .done (hK _ ?_);clear hK K
  refine ab.block (ab.loop (fun i:Nat=>av [(1,enc rs),(2,.ptr 2 []),(7,enc (jE m rs i)),(22,enc rs),(23,.int .i64 rs.length),(24,.int .i64 i)] [(2,.box (enc m))]) (fun i=>i≤rs.length∧∀ j,j<i→il (fh rs j)=true) (fun i=>rs.length-i) 0 ⟨by omega,fun j h=>by omega⟩ ?_ (fun i hi =>?_))
  ·rw[ajI]
   refine aD.bM ?_ ?_ ?_ ?_ <;>simp[aV,bF,bE,a7,au,aY,ct,I.only,ai.only,bh]
  refine .ao (by decide +kernel) fun K hK =>?_
  simp only[wN,U,simprocAttr]
  refine .done (hK _ ?_);clear hK K
  refine ab.seq ?_
  refine ab.bC ?_
  simp only[ar,U,simprocAttr]
  refine ⟨fun h =>?_,fun h =>?_⟩
  case refine_2.refine_2 =>
   have hge:i=rs.length:=by simp at h;omega
   subst hge
   have hok:yL rs=true:=qH hi.2
   refine ab.exit ?_;try simp only[aq,bN,simprocAttr]
   refine .ao (by decide +kernel) fun K hK =>?_
   simp only[wK,U,simprocAttr]
   try simp only[cH,U,simprocAttr]
   refine .lead _ (PV (jE m rs rs.length) (Nat.le_trans (Le _ _ _) hlen)) ?_
   try simp only[U,simprocAttr]
   refine .done (hK _ ?_);clear hK K
   refine ab.ret ?_
   simp only[U,simprocAttr]
   try simp only[cH,U,simprocAttr]
   simp[jf,hm,hrl,hok]
  have hlt:i<rs.length:=by simp at h;omega
  refine ab.skip ?_;try simp only[aq,simprocAttr]
  refine ab.seq (ab.block ?_)
  refine .ao (by decide +kernel) fun K hK =>?_
  simp only[wO,U,simprocAttr]
  try simp only[cD,ahL hlt,Ds,qu,U,simprocAttr]
  refine .done (hK _ ?_);clear hK K
  refine ab.seq ?_
  refine .ao (by decide +kernel) fun K hK =>?_
  simp only[wH,U,simprocAttr]
  try simp only[cD,cH,U,simprocAttr]
  refine .flat _ (z8 (fh rs i)) rfl ?_
  generalize hr:il (fh rs i)=aL
  cases aL
  ·try simp only[U,simprocAttr]
   refine .done (hK _ ?_);clear hK K
   refine .ao (by decide +kernel) fun K hK =>?_
   simp only[s8,U,simprocAttr]
   refine .done (hK _ ?_);clear hK K
   refine ab.bC ?_
   simp only[ar,U,simprocAttr]
   refine ⟨fun h =>?_,fun h =>?_⟩
   ·refine .ao (by decide +kernel) fun K hK =>?_
    simp only[wI,U,simprocAttr]
    refine .done (hK _ ?_);clear hK K
    refine ab.ret ?_
    simp only[bN,aq,U,simprocAttr]
    have hok:yL rs=false:=oh i hlt hr
    simp[jf,hm,hrl,hok,yw]
   ·cases h
  try simp only[U,simprocAttr]
  refine .done (hK _ ?_);clear hK K
  refine .ao (by decide +kernel) fun K hK =>?_
  simp only[s8,U,simprocAttr]
  refine .done (hK _ ?_);clear hK K
  refine ab.bC ?_
  simp only[ar,U,simprocAttr]
  refine ⟨fun h =>?_,fun h =>?_⟩
  ·cases h
  refine ab.skip ?_;try simp only[aq,simprocAttr]
  have hof:∀ j,j<i+1→il (fh rs j)=true:=fun j hj=>by
   rcases Nat.lt_or_ge j i with h1 | h1
   ·exact hi.2 j h1
   ·have:j=i:=by omega
    subst this;exact hr
  refine .bl (by decide +kernel) fun K hK =>?_
  simp only[wJ,U,simprocAttr]
  try simp only[cD,cH,RM,Dr,qR,U,simprocAttr]
  refine .bS false [(7,40)] [] [enc (⟨m.eL,m.eH,jE m rs i⟩:bZ),enc (fh rs i)] (L0 7 ⟨m.eL,m.eH,jE m rs i⟩ (fh rs i)) rfl (PU ⟨m.eL,m.eH,jE m rs i⟩ (fh rs i) (fun g hg=>Lu hm g (ajH hg)) (Nat.le_trans (Le m rs i) hlen)) fP.nil ⟨.inl ⟨(hX _ _).symm,bh _ _,dq _⟩,.inl ⟨(hX _ _).symm,bh _ _,dq _⟩,trivial⟩ ?_ ?_
  ·rintro x os' (⟨_,rfl,rfl⟩ | ⟨k,rfl,rfl⟩)
   ·exact dx.nil (fun _=>rfl) (fun h=>by cases h)
   ·exact dx.qa (fun p=>mL p _) (fun h=>by cases h) rfl (fun h=>by cases h) rfl (by decide)
  ·rintro x os' (⟨hp,rfl,rfl⟩ | ⟨k,rfl,rfl⟩)
   ·try simp only[hX,gh,List.nil_append,U,simprocAttr]
    refine .done (hK _ ?_);clear hK K;try simp only[aq,bN]
    refine .bl (by decide +kernel) fun K hK =>?_
    simp only[s9,U,simprocAttr]
    refine .done (hK _ ?_);clear hK K;try simp only[aq]
    refine ⟨i+1,⟨by omega,hof⟩,by omega,?_⟩
    rw[cA _ (by omega) (by omega),Lf,hp]
    refine aD.bM ?_ ?_ ?_ ?_ <;>simp[aV,bF,bE,a7,au,aY,ct,I.only,ai.only,bh]
   ·try simp only[iR,gh,gu,List.cons_append,List.nil_append,U,simprocAttr]
    refine .done (hK _ ?_);clear hK K;try simp only[aq,bN]
    refine .bl (by decide +kernel) fun K hK =>?_
    simp only[s9,U,simprocAttr]
    refine .done (hK _ ?_);clear hK K;try simp only[aq]
    refine ⟨i+1,⟨by omega,hof⟩,by omega,?_⟩
    rw[cA _ (by omega) (by omega),Lf]
    refine aD.oz (y:=enc (lg ⟨m.eL,m.eH,jE m rs i⟩ (fh rs i))) [40] 7 rfl ?_ ?_ ?_ ?_ ?_ ?_
    ·try simp only[jc,List.filter_cons,List.filter_nil,List.contains_cons,List.contains_nil,Nat.reduceBEq,Bool.or_false,BEq.rfl,qY (α:=b9) (sz:=7) rfl,zK,U,simprocAttr]
    ·simp[c7,a7,ai.only,bh]
    ·simp[aV,gB,aY,I.only,bh]
    ·simp[bF,c7,ct]
    ·simp[bE,au,ct,I.only,bh]
    ·simp[a7,ai.only,bh]
 refine .ao (by decide +kernel) fun K hK =>?_
 simp only[Fa,U,simprocAttr]
 try simp only[cD,cH,U,simprocAttr]
 refine .bS false [(7,21)] [] [enc m.given] (vN m.given) rfl (Ac m.given hlen) fP.nil ⟨.inl ⟨(hX _ _).symm,bh _ _,dq _⟩,trivial⟩ ?_ ?_
 ·rintro x os' (⟨_,h | h,rfl⟩ | ⟨_,k,rfl,rfl⟩)
  ·subst h;exact dx.nil (fun _=>rfl) (fun h=>by cases h)
  ·subst h;exact dx.nil (fun _=>rfl) (fun h=>by cases h)
  ·exact dx.qa (fun p=>mL p _) (fun h=>by cases h) rfl (fun h=>by cases h) rfl (by decide)
 ·rintro x os' (⟨hn,h,rfl⟩ | ⟨hn,k,rfl,rfl⟩)
  ·have hren:∀ x:I,(x=.nils 7∨x=.c0 7)→x.aR (bD [(7,21)])=x:=by rintro x (rfl | rfl) <;>simp only[I.aR]
   rw[hren x h]
   try simp only[gh,List.nil_append,U,simprocAttr]
   refine .done (hK _ ?_);clear hK K
   refine ab.sub (aD.oz (y:=enc m.given) [] 7 rfl ?_ ?_ ?_ ?_ ?_ ?_) (key _ rfl)
   ·rw[hn];rcases h with rfl | rfl <;>simp only[gA,List.map_nil] <;>rfl
   ·simp[c7,a7,ai.only,bh]
   ·simp[aV,gB,aY,I.only,bh]
   ·simp[bF,c7,ct]
   ·simp[bE,au,ct,I.only,bh]
   ·simp[a7,ai.only,bh]
  ·try simp only[iR,gh,gu,List.cons_append,List.nil_append,U,simprocAttr]
   refine .done (hK _ ?_);clear hK K
   refine ab.sub (aD.oz (y:=enc m.given) [21] 7 rfl ?_ ?_ ?_ ?_ ?_ ?_) (key _ rfl)
   ·try simp only[jc,List.filter_cons,List.filter_nil,List.contains_cons,List.contains_nil,Nat.reduceBEq,Bool.or_false,BEq.rfl,qY (α:=b9) (sz:=7) rfl,zK,U,simprocAttr]
   ·simp[c7,a7,ai.only,bh]
   ·simp[aV,gB,aY,I.only,bh]
   ·simp[bF,c7,ct]
   ·simp[bE,au,ct,I.only,bh]
   ·simp[a7,ai.only,bh]
theorem DN(n:Nat)(ts:List (Nat×I)):∀ t,Abs.cn (gB [n] ts) t=if (Abs.cn ts t).only (fun j => ![n].contains j)=true then Abs.cn ts t else .df:=by
 intro t
 simp only[gB]
 induction ts with
 |nil=>simp[Abs.cn]
 |cons q ts ih =>
  obtain ⟨k,v⟩:=q
  simp only[List.map_cons,Abs.cn]
  split
  ·rfl
  ·exact ih
theorem u2{p q:Nat→Bool}(h:∀ n,p n=true→q n=true){y:ai}(hy:y.only p=true):y.only q=true:=by
 cases y with
 |box x=>exact jg h _ hy
 |bT T sz es=>exact iO h _ hy
 |dO o=>rfl
 |cV T xs=>rfl
 |cz ks vs=>simp only[ai.only,Bool.and_eq_true] at hy ⊢;exact ⟨iO h _ hy.1,iO h _ hy.2⟩
 |it ks vs l c=>simp only[ai.only,Bool.and_eq_true] at hy ⊢;exact ⟨iO h _ hy.1,iO h _ hy.2⟩
theorem uh{n k:Nat} : ∀ {ts:List (Nat×I)},(∀ q∈ts,nS n k q.2)→∀ t,nS n k (Abs.cn ts t)
 | [],_,_=>.inr rfl
 |(a,v)::ts,h,t=>by
  simp only[Abs.cn]
  split
  ·exact h (a,v) (by simp)
  ·exact uh (fun q hq=>h q (by simp[hq])) t
theorem ui{p:Nat→Bool}{n k:Nat}(hp:p=fun j => ![n].contains j)(f:ai→ai)(hf:∀ y:ai,y.only p=true→f y=y):∀ {os:List (Nat×ai)},a7 p (c7 [n] os)→a7 p (c7 [n] (os.map fun q=>(q.1,f q.2)))
 | [],_=>trivial
 |(m,y)::os,h=>by
  simp only[List.map_cons,c7,List.filter_cons] at h ⊢
  split
  ·rename_i hm
   rw[if_pos hm] at h
   refine ⟨?_,ui (k:=k) hp f hf h.2⟩
   rw[hf y h.1];exact h.1
  ·rename_i hm
   rw[if_neg hm] at h
   exact ui (k:=k) hp f hf h
theorem DR{ys q:List Int}{k:Nat}(hk:ys.length=k):lQ 1 0 k (some ((ys++q).map enc))=some (enc ys):=by
 have h:(((ys++q).map (enc (α:=Int))).drop 0).take k=ys.map enc:=by
  rw[List.drop_zero,List.map_append,List.take_append_of_le_length (by simp[hk]),List.take_of_length_le (by simp[hk])]
 simp only[lQ,h]
 rw[if_pos (kh ys),gA];rfl
theorem O0{n k:Nat} : ∀ y:ai,y.only (fun j => ![n].contains j)=true→iS (fN n k) y=y:=fun y hy=>by
 cases y <;>try rfl
 simp only[ai.only] at hy
 simp only[iS,r6 (jg (fun j hj=>by simpa using hj) _ hy)]
theorem OZ{n:Nat} : ∀ y:ai,y.only (fun j => ![n].contains j)=true→iS (fM n) y=y:=fun y hy=>by
 cases y <;>try rfl
 simp only[ai.only] at hy
 simp only[iS,zJ (jg (fun j hj=>by simpa using hj) _ hy)]
theorem OV{ts ts':List (Nat×I)}(h:∀ q∈ts',Abs.cn ts q.1=q.2):aV ts ts':=by
 induction ts' with
 |nil=>trivial
 |cons q ts' ih=>exact ⟨h q (by simp),ih fun q hq=>h q (by simp[hq])⟩
theorem ab.OH{W0:World}{D0:aN}{nn:Nat}{ow:Nat→Prop}{E1:aZ}{Y:Value→List I→List (Nat×ai)→cR→Prop}{mY:Option Nat}{y:aM}{Q:Exit→af→Prop}{ts:List (Nat×I)}{os:List (Nat×ai)}{a b d n:Nat}{xs:List Int}
  (hd:Abs.cn ts d=.own n xs.length) (hn:al os n=some (.cV 3 xs)) (hlt:n<1000000) (hl:xs.length≤60) (ht:∀ t,nS n xs.length (Abs.cn ts t)) (ho:a7 (fun j => ![n].contains j) (c7 [n] os))
  (ts':List (Nat×I)) (h1:∀ q∈ts',q.1≠a∧q.1≠b∧Abs.cn ts q.1=q.2∧q.2.only (fun j=>j != n)=true)
  (hda:d≠a) (hdb:d≠b)
  (h:ab ⟨Tryz.prog,W0,D0,nn,ow,E1,Y,mY⟩ y Q (av ((d,enc (dP xs))::ts') (c7 [n] os))) :
  ab ⟨Tryz.prog,W0,D0,nn,ow,E1,Y,mY⟩ (.seq (.bW none [⟨some a,.mv (.t d),none⟩,⟨some b,.call 107 [.t a],none⟩]) y) Q (av ts os):=by
 have hdrop:∀ m,al (c7 [n] os) m=if m=n then none else al os m:=fun m=>by
  have:=nL [n] os m
  simpa using this
 have ho':∀ m y,al os m=some y→m≠n→y.only (fun j=>j != n)=true:=fun m y hy hm=>by
  have:=yP ho m y (by rw[hdrop,if_neg hm];exact hy)
  exact u2 (fun j hj=>by simpa using hj) this
 by_cases hx:xs=[]
 ·subst hx
  refine ab.sub (aD.O4 hn (aD.refl _)) ?_
  refine ab.seq (ab.bW (cl:=[]) (by rfl) fun K hK =>?_)
  have hd':Abs.cn (ts.map fun q=>(q.1,fM n q.2)) d=.nils 1:=by
   rw[pY _ rfl,hd];simp[fM]
  simp only[U,simprocAttr,hd']
  refine .flat _ (Pq _ (.inr rfl)) rfl ?_
  try simp only[U,simprocAttr]
  refine .done (hK _ ?_);clear hK K
  refine ab.sub ((aD.iL [n] d (x:=.nils 1) (y:=enc ([]:List Int)) ?_ (by rfl) ?_).trans (aD.da ?_ fun m =>?_)) h
  ·simp only[Abs.cn,hda,hdb,if_false];exact hd'
  ·exact ui (k:=0) rfl (iS (fM n)) OZ ho
  ·refine ⟨by simp[Abs.cn,dP],OV fun q hq =>?_⟩
   obtain ⟨k1,k2,k3,k4⟩:=h1 q hq
   have hqd:q.1≠d:=fun e=>by
    rw[e,hd] at k3
    rw[←k3] at k4
    simp[I.only] at k4
   have h5:Abs.cn (ts.map fun p=>(p.1,fM n p.2)) q.1=q.2:=by
    rw[pY _ rfl,k3,zJ k4]
   simp only[Abs.cn,DN,k1,k2,hqd,if_false,h5]
   rw[if_pos (jg (fun j hj=>by simpa using hj) _ k4)]
  ·rw[hdrop,nL,tJ]
   by_cases hm:m=n
   ·simp[hm]
   ·cases h6:al os m with
    |none=>simp[hm]
    |some y =>
     have h7:iS (fM n) y=y:=OZ _ (u2 (fun j hj=>by simpa using hj) (ho' _ _ h6 hm))
     simp[hm,h7]
 ·refine ab.O3 hn hx hlt ht (fun m y hy hm=>.inr (ho' m y hy hm)) fun q =>?_
  refine ab.seq (ab.bW (cl:=[]) (by rfl) fun K hK =>?_)
  have hd':Abs.cn (ts.map fun p=>(p.1,fN n xs.length p.2)) d=.view n [] 1 0 xs.length:=by
   rw[pY _ rfl,hd];simp[fN]
  simp only[U,simprocAttr,hd']
  refine .bS false [(1000000,n)] (cB 1000000 (xs++List.replicate q 0)) [.view 1000000 [] 1 0 xs.length] _ rfl (Pp xs _ hl) ?_ ?_ ?_ ?_
  ·refine ⟨fun m y hy =>?_,fun m m' h h' _=>by rw[cW.1 h,cW.1 h']⟩
   simp only[cB,al] at hy
   split at hy
   ·rename_i hm
    cases hy
    subst hm
    exact ⟨by simp only[bD,if_true,al,ai.aR,I.aR,gu],oJ _ _,rfl⟩
   ·cases hy
  ·exact ⟨.inl ⟨by simp[I.aR,bD],cW.2 rfl,rfl⟩,trivial⟩
  ·rintro fh os2 ⟨rfl,rfl⟩
   refine ⟨fun m y hy =>?_,fun m m' h h' _=>by rw[cW.1 h,cW.1 h'],fun m hm=>by rw[cW.1 hm];exact cW.2 rfl,fun m a b=>by rw[cW.1 a] at b;simp[cB,au,al] at b,rfl,fun _=>rfl⟩
   simp only[cB,al] at hy
   split at hy
   ·cases hy;exact ⟨oJ _ _,rfl,fun h=>by cases h⟩
   ·cases hy
  ·rintro fh os2 ⟨rfl,rfl⟩
   try simp only[cB,dJ,List.map_cons,List.map_nil,ai.aR,I.aR,gu,bD,reduceIte,List.cons_append,List.nil_append,I.cX,U,simprocAttr]
   refine .done (hK _ ?_);clear hK K
   refine ab.sub ((aD.iL [n] d (x:=.view n [] 1 0 xs.length) (y:=enc (dP xs)) ?_ ?_ ?_).trans (aD.da ?_ fun m =>?_)) h
   ·simp only[Abs.cn,hda,hdb,if_false];exact hd'
   ·have:al (jc [n] ((n,ai.box (I.agg ((dP xs++List.replicate q 0).map enc)))::(n,ai.box (I.agg ((xs++List.replicate q 0).map enc)))::os.map fun p=>(p.1,iS (fN n xs.length) p.2))) n=some (.box (.agg ((dP xs++List.replicate q 0).map enc))):=by
     rw[oH];simp[al]
    try simp only[this,U,simprocAttr]
    exact DR (by simp[dP])
   ·have:=ui (k:=0) rfl (iS (fN n xs.length)) O0 ho
    simpa[c7] using this
   ·refine ⟨by simp[Abs.cn],OV fun q hq =>?_⟩
    obtain ⟨k1,k2,k3,k4⟩:=h1 q hq
    have hqd:q.1≠d:=fun e=>by
     rw[e,hd] at k3
     rw[←k3] at k4
     simp[I.only] at k4
    have h5:Abs.cn (ts.map fun p=>(p.1,fN n xs.length p.2)) q.1=q.2:=by
     rw[pY _ rfl,k3,r6 k4]
    simp only[Abs.cn,DN,k1,k2,hqd,if_false,h5]
    rw[if_pos (jg (fun j hj=>by simpa using hj) _ k4)]
   ·rw[hdrop,nL]
    by_cases hm:m=n
    ·simp[hm]
    ·simp only[al,if_neg hm,tJ]
     cases h6:al os m with
     |none=>simp[hm]
     |some y =>
      have h7:iS (fN n xs.length) y=y:=O0 _ (u2 (fun j hj=>by simpa using hj) (ho' _ _ h6 hm))
      simp[hm,h7]
def fD(l:List ak)(o:List Nat)(i:Nat):List aU×List Nat:=(o.take i).foldl (nh fo l) ([],[])
theorem LV{l:List ak}{o:List Nat}{i:Nat}(h:i<o.length):fD l o (i+1)=nh fo l (fD l o i) (o.getD i 0):=by
 have e:o.getD i 0=o[i]:=by rw[List.getD_eq_getElem?_getD,List.getElem?_eq_getElem h];rfl
 simp only[fD]
 rw[List.take_succ_eq_append_getElem h,List.foldl_append,e];rfl
theorem LU(l:List ak)(o:List Nat):fD l o o.length=rN fo l o:=by simp only[fD,List.take_length];rfl
theorem Ra{bs bs':List aU}{x:ak}{n:Nat}(hs:∀ b∈bs,b.cm.length≤n)(h:eO fo bs x=some bs'):bs'.length≤bs.length+1∧∀ b∈bs',b.cm.length≤n+1:=by
 simp only[eO] at h
 split at h
 ·split at h
  ·simp only[Option.some.injEq] at h
   subst h
   refine ⟨by simp[fo],fun b hb =>?_⟩
   simp only[fo,List.mem_append,List.mem_singleton] at hb
   rcases hb with hb | rfl
   ·exact Nat.le_succ_of_le (hs b hb)
   ·simp[fV]
  ·cases h
 ·split at h
  ·cases h
  ·rename_i b0 hb0
   simp only[Option.map_eq_some_iff] at h
   obtain ⟨b',hb',rfl⟩:=h
   refine ⟨by simp[mf],fun b hb =>?_⟩
   simp only[mf,List.mem_map] at hb
   obtain ⟨c,hc,rfl⟩:=hb
   split
   ·have h0:=hs b0 (J7 hb0).1
    simp only[kI] at hb'
    repeat' split at hb'
    all_goals first
     |(cases hb';done)
     |(simp only[Option.some.injEq] at hb';subst hb';simp only[List.length_append,List.length_singleton];omega)
     |(simp only[Option.some.injEq] at hb';subst hb';simp only;omega)
   ·exact Nat.le_succ_of_le (hs c hc)
theorem yY(l:List ak)(o:List Nat):∀ i,i≤o.length→((fD l o i).1.map (·.no)).Nodup∧(fD l o i).1.length≤i∧(∀ b∈(fD l o i).1,b.cm.length≤i)∧(fD l o i).2.length≤i
 |0,_=>⟨by simp[fD],by simp[fD],by simp[fD],by simp[fD]⟩
 |i+1,h=>by
  obtain ⟨h1,h2,h3,h4⟩:=yY l o i (by omega)
  rw[LV (by omega)]
  simp only[nh]
  split
  ·rename_i bs hb
   have:=Ra h3 hb
   exact ⟨Q9 QN h1 hb,by simp only;omega,this.2,by simp only;omega⟩
  ·exact ⟨h1,by simp only;omega,fun b hb=>Nat.le_succ_of_le (h3 b hb),by simp;omega⟩
theorem KM(B:Nat)(b:aU):∀ (bs:List aU) (i:Nat),eX B i (bs++[b])=eX B i bs++eX B (i+bs.length) [b]
 | [],i=>rfl
 |a::bs,i=>by
  simp only[List.cons_append,eX,KM B b bs (i+1),List.length_cons]
  rw[show i+1+bs.length=i+(bs.length+1) by omega]
theorem akw(B n:Nat):ep B (n+1)=ep B n++[.ptr (B+2+2*n) []]:=by
 simp only[ep,List.range_succ,List.map_append,List.map_cons,List.map_nil]
theorem ri{bs:List aU}{n:Nat}(h:¬ (n=43∨n=41∨(2002≤n∧n<2002+2*bs.length))):al (ea bs) n=none:=by
 have:=xK (bs:=bs) (n:=n)
 rw[decide_eq_false h] at this
 simpa[au] using this
theorem ahA{bs:List aU}{n:Nat}(h:n=43∨n=41∨(2002≤n∧n<2002+2*bs.length)):∃ y,al (ea bs) n=some y:=by
 have:=xK (bs:=bs) (n:=n)
 rw[decide_eq_true h] at this
 exact Option.isSome_iff_exists.1 this
theorem yb{bs bs':List aU}{z y:ai}(h:bs.length≤bs'.length)(n:Nat):al (ea bs'++((900,z)::(ea bs++[(3,y)]))) n=al ((900,z)::(ea bs'++[(3,y)])) n:=by
 simp only[kv,al]
 by_cases h1:n=43∨n=41∨(2002≤n∧n<2002+2*bs'.length)
 ·obtain ⟨u,hu⟩:=ahA h1
  have:n≠900:=by omega
  simp only[hu,this,if_false]
 ·have h2:al (ea bs) n=none:=ri (by omega)
  simp only[ri h1,h2]
theorem aim{bs:List aU}{z z' y:ai}(n:Nat):al ((900,z')::(ea bs++((900,z)::(ea bs++[(3,y)])))) n=al ((900,z')::(ea bs++[(3,y)])) n:=by
 have h:=yb (bs:=bs) (bs':=bs) (z:=z) (y:=y) (Nat.le_refl _) n
 by_cases hn:n=900
 ·simp only[al,hn,if_true]
 ·simp only[al,if_neg hn] at h ⊢
  rw[h]
theorem ail{bs:List aU}{b:aU}{z y:ai}(hk:bs.length≤60)(hb:b.cm=[])(n:Nat) :
  al ((2002+2*bs.length,.box (eA b (.own (2003+2*bs.length) 0)))::(2003+2*bs.length,.bT 66 6 [])::(nC bs b++((900,z)::(ea bs++[(3,y)])))) n=al ((900,z)::(ea (bs++[b])++[(3,y)])) n:=by
 have hC:al (ea (bs++[b])) n=if n=43 then some (.box (.agg [.mref 41])) else if n=41 then some (.cz (dj (bs++[b])) (ep 2000 bs.length++[.ptr (2002+2*bs.length) []])) else
   match al (eX 2000 0 bs) n with
   |some u=>some u
   |none=>if n=2002+2*bs.length then some (.box (eA b (.own (2003+2*bs.length) 0))) else if n=2003+2*bs.length then some (.bT 66 6 []) else none:=by
  simp only[ea,al,KM,kv,eX,hb,List.map_nil,List.length_nil,List.length_append,List.length_singleton,akw,Nat.zero_add]
  rfl
 have hL:al (ea bs) n=if n=43 then some (.box (.agg [.mref 41])) else if n=41 then some (.cz (dj bs) (ep 2000 bs.length)) else al (eX 2000 0 bs) n:=rfl
 have hlow:n<2002→al (eX 2000 0 bs) n=none:=fun h=>tG 2000 bs 0 n (by omega)
 have hhigh:2002+2*bs.length≤n→al (eX 2000 0 bs) n=none:=fun h=>tE 2000 bs 0 n (by omega)
 simp only[al,kv,nC,List.cons_append,hC,hL]
 by_cases c1:n=2002+2*bs.length
 ·have d1:¬ n=900:=by omega
  have d2:¬ n=43:=by omega
  have d3:¬ n=41:=by omega
  rw[if_pos c1,if_neg d1,if_neg d2,if_neg d3,hhigh (by omega)]
  simp only[c1,if_true]
 by_cases c2:n=2003+2*bs.length
 ·have d1:¬ n=900:=by omega
  have d2:¬ n=43:=by omega
  have d3:¬ n=41:=by omega
  rw[if_neg c1,if_pos c2,if_neg d1,if_neg d2,if_neg d3,hhigh (by omega)]
  simp only[c2,if_true]
  rw[if_neg (by omega)]
 rw[if_neg c1,if_neg c2]
 by_cases c3:n=41
 ·have d1:¬ n=900:=by omega
  have d2:¬ n=43:=by omega
  rw[if_pos c3,if_neg d1,if_neg d2,if_pos c3]
 rw[if_neg c3,if_neg c1]
 by_cases iy:n=43
 ·have d1:¬ n=900:=by omega
  simp only[iy,if_true]
  simp
 rw[if_neg iy,if_neg iy]
 by_cases lD:n=900
 ·have:=hlow (by omega)
  subst lD
  simp[this]
 ·cases hq:al (eX 2000 0 bs) n with
  |some u=>simp only[lD,c3,if_false]
  |none=>simp only[lD,c3,c1,c2,if_false]
theorem yQ{p:Nat→Bool}{ns:List Nat} : ∀ {os:List (Nat×ai)},a7 p os→a7 p (c7 ns os)
 | [],_=>trivial
 |(m,y)::os,h=>by
  simp only[c7,List.filter_cons]
  split
  ·exact ⟨h.1,yQ h.2⟩
  ·exact yQ h.2
theorem LD{p:Nat→Bool} : ∀ {os os':List (Nat×ai)},a7 p os→a7 p os'→a7 p (os++os')
 | [],_,_,h=>h
 |_::_,_,h,k=>⟨h.1,LD h.2 k⟩
theorem KN{p:Nat→Bool}{B:Nat}(hp:∀ j,B≤j→p j=true):∀ (bs:List aU) (i:Nat),a7 p (eX B i bs)
 | [],_=>trivial
 |b::bs,i=>⟨by simp[ai.only,eA,I.only,I.bR,hp _ (show B≤B+3+2*i by omega)],dN _ _,KN hp bs (i+1)⟩
theorem ahz{p:Nat→Bool}(hp:∀ j,2000≤j→p j=true)(h41:p 41=true)(bs:List aU):a7 p (ea bs) :=
 ⟨by simp[ai.only,I.only,I.bR,h41],by simp only[ai.only,Bool.and_eq_true];exact ⟨dN _ _,yS _ fun i _=>hp _ (by omega)⟩,KN hp bs 0⟩
def gO(bs:List aU):I:=.ref (.agg [.cT (dj bs) (bs.map fun b=>.ref (enc (⟨b⟩:eM)))])
theorem KW{f:I→Option I} : ∀ {xs ys:List I},xs.length=ys.length→(∀ (i:Nat) (x y:I),xs[i]?=some x→ys[i]?=some y→f x=some y)→fJ f xs=some ys
 | [],[],_,_=>rfl
 |x::xs,y::ys,hl,h=>by
  have h1:=h 0 x y rfl rfl
  have h2:=KW (f:=f) (xs:=xs) (ys:=ys) (by simpa using hl) fun i a b ha hb=>h (i+1) a b ha hb
  simp only[fJ,h1,h2]
theorem Zx{A:af}{bs:List aU}(hA:∀ m y,al (ea bs) m=some y→A.o m=some y):br true A (.ptr 43 [])=some (gO bs):=by
 have h43:A.o 43=some (.box (.agg [.mref 41])):=hA _ _ rfl
 have h41:A.o 41=some (.cz (dj bs) (ep 2000 bs.length)):=hA _ _ rfl
 have hl:∀ k,k<bs.length→2002+2*k≠43∧2002+2*k≠41∧2003+2*k≠43∧2003+2*k≠41:=fun k hk=>by omega
 have hm:fJ (dL A 7) (ep 2000 bs.length)=some (bs.map fun b=>.ref (enc (⟨b⟩:eM))):=by
  refine KW (by simp[ep]) fun i x y hx hy =>?_
  have hi:i<bs.length:=by
   have:=(List.getElem?_eq_some_iff.1 hx).1
   simpa[ep] using this
  rw[L1 hi] at hx
  simp only[List.getElem?_map,List.getElem?_eq_getElem hi,Option.map_some,Option.some.injEq] at hx hy
  subst hx hy
  obtain ⟨q1,q2,q3,q4⟩:=hl i hi
  have h1:A.o (2000+2+2*i)=some (.box (eA bs[i] (.own (2000+3+2*i) (bs[i]).cm.length))):=hA _ _ (by
   simp only[ea,al];rw[if_neg (by omega),if_neg (by omega)]
   have:=tF 2000 bs 0 i hi
   rwa [Nat.zero_add] at this)
  have h2:A.o (2000+3+2*i)=some (.bT 66 6 ((bs[i]).cm.map enc)):=hA _ _ (by
   simp only[ea,al];rw[if_neg (by omega),if_neg (by omega)]
   have:=tH 2000 bs 0 i hi
   rwa [Nat.zero_add] at this)
  have h3:=mF (m:=3) h2
  have h4:cC A (.ptr (2000+2+2*i) [])=some (eA bs[i] (.own (2000+3+2*i) (bs[i]).cm.length)):=by
   simp only[cC,h1];exact iv _
  rw[dL]
  simp only[I.bB,Bool.false_eq_true,if_false,h4]
  rw[h3];rfl
 have h5:dL A 8 (.mref 41)=some (.cT (dj bs) (bs.map fun b=>.ref (enc (⟨b⟩:eM)))):=by
  rw[dL]
  simp only[I.bB,Bool.false_eq_true,if_false,h41]
  rw[if_pos (show I.bX (dj bs)=true from kh _),hm];rfl
 have h6:dL A 9 (.agg [.mref 41])=some (.agg [.cT (dj bs) (bs.map fun b=>.ref (enc (⟨b⟩:eM)))]):=by
  rw[dL]
  simp only[I.bB,I.bX,Bool.and_true,Bool.false_eq_true,if_false,fJ,h5,Option.map_some]
 simp only[br,cC,h43,if_true,iv,I.bB,I.bX,Bool.and_true,Bool.false_eq_true,if_false,h6]
 rfl
def rM(l:List ak)(day known:Int):I:=.tuple [gO (rN fo l (j8 l day known)).1,enc (dP (dB (rN fo l (j8 l day known)).2))]
def QH(l:List ak)(ord:List Int):af:=av [(3,.ptr 3 []),(9,.nils 1),(11,.ptr 43 []),(12,kO),(45,enc ord),(46,.int .i64 ord.length),(47,.int .i64 0)] [(43,.box (.agg [.mref 41])),(41,.cz [] []),(3,.box (enc l))]
def Av(l:List ak)(o:List Nat)(i:Nat):af:=av [(3,.ptr 3 []),(9,.own 900 (dB (fD l o i).2).length),(11,.ptr 43 []),(12,kO),(45,enc (dB o)),(46,.int .i64 (dB o).length),(47,.int .i64 i)] ((900,.cV 3 (dB (fD l o i).2))::(ea (fD l o i).1++[(3,.box (enc l))]))
theorem ahN{xs:List Int}{i:Nat}(h:i<xs.length)(A:af):iM A 1 (i:Int) (enc xs)=some (.ref (.int .i64 (xs.getD i 0))):=by
 rw[fI 1 (by omega) rfl,List.getD_eq_getElem?_getD,List.getElem?_eq_getElem h];rfl
noncomputable abbrev Dc (W0:World) (D0:aN) (E1:aZ):cQ := { P:=Tryz.prog,fj:=W0,D0:=D0,n:=Tryz.f88.ntmps,own:=dw E1,dK:=E1,Y:=iN,mY:=none }
def Pe:aM:=((aM.bW none tm).seq ((aM.cond (aH.t 48) aM.skip (aM.exit 2)).seq ((aM.block 3 ((aM.bW none xp).seq ((aM.bW De tn).seq (aM.cond (aH.t 64) (aM.bW none JG) aM.skip)))).seq (aM.bW none JH))))
def amd:aM:=(aM.bW none JI).seq ((aM.bW none JJ).seq aM.ret)
theorem Aq(l:List ak)(day known:Int)(hok:dc l=true){W0:World}{D0:aN}{E1:aZ} : ab (Dc W0 D0 E1) (.block 2 (.loop Pe)) (aq (fun B=>ab (Dc W0 D0 E1) amd (jH [.tmp 6,.tmp 7] (rM l day known)) B) (jH [.tmp 6,.tmp 7] (rM l day known))) (QH l (qh l day known)):=by
 have hl:=kY hok
 have hmem:∀ i∈j8 l day known,i<l.length∧(ae l i).kind≠0:=fun i hi=>by
  have h1:=ake hi
  refine ⟨Dp h1,?_⟩
  have:=(List.mem_filter.1 h1).2
  simp only[Bool.and_eq_true,decide_eq_true_eq] at this
  exact this.1
 have hol:(j8 l day known).length≤60:=by rw[LO];exact Nat.le_trans (vZ l day known) hl
 have hall:=LU l (j8 l day known)
 simp only[rM,qh,←hall]
 clear hall
 generalize j8 l day known=o at hmem hol ⊢
 have htl:(dB o).length=o.length:=by simp[dB]
 refine ab.block (ab.loop (fun i:Nat=>Av l o i) (fun i=>i≤o.length) (fun i=>o.length-i) 0 (Nat.zero_le _) ?_ (fun i hi =>?_))
 ·refine aD.Az 9 900 3 1 rfl rfl ?_
  refine aD.da ?_ (fun n =>?_)
  ·simp[aV,aY,fD,dB]
  ·simp only[fD,dB,List.take_zero,List.foldl_nil,List.map_nil,ea,eX,ep,dj,List.length_nil,List.range_zero,List.cons_append,List.nil_append]
 obtain ⟨hnd,hbl,hsl,hvl⟩:=yY l o i hi
 simp only[Av,Pe]
 have n3:al ((900,.cV 3 (dB (fD l o i).2))::(ea (fD l o i).1++[(3,.box (enc l))])) 3=some (.box (enc l)):=by
  simp only[al,kv]
  rw[ri (by omega)];rfl
 by_cases hlt:i<o.length
 ·have hc:decide ((i:Int)<((dB o).length:Int))=true:=by rw[htl];exact gD hlt
  have hw:=ft (i:=i) (by omega)
  have hst:=LV (l:=l) hlt
  generalize fD l o i=s at *
  obtain ⟨bs,vd⟩:=s
  simp only at hnd hbl hsl hvl n3 hst ⊢
  obtain ⟨j,hj⟩:∃ j,j=o.getD i 0:=⟨_,rfl⟩
  have hjm:j∈o:=by
   rw[hj,List.getD_eq_getElem?_getD,List.getElem?_eq_getElem hlt];exact List.getElem_mem hlt
  obtain ⟨hjl,hjk⟩:=hmem j hjm
  rw[←hj] at hst
  have he:=jV hjl
  have hi2:∀ A,iM A 1 (i:Int) (enc (dB o))=some (.ref (.int .i64 (j:Int))):=fun A=>by
   rw[ahN (by omega),hj]
   congr 3
   simp[dB,List.getD_eq_getElem?_getD,List.getElem?_eq_getElem hlt]
  obtain ⟨f,hf1,hf2,hf3⟩:=vW (bs:=bs) (yK hok hjl) hjk hnd (fun b hb=>by have:=hsl b hb;omega)
  have hmo:∀ A,gE A kO=some (nw,nx):=fun A=>rfl
  refine .ao (by decide +kernel) fun K hK =>?_
  simp only[tm,U,simprocAttr]
  simp only[hc]
  refine .done (hK _ ?_);clear hK K
  refine ab.seq ?_
  refine ab.bC ?_
  simp only[ar,U,simprocAttr]
  refine ⟨fun h =>?_,fun h =>?_⟩
  case refine_2=>cases h
  refine ab.skip ?_;try simp only[aq,simprocAttr]
  refine ab.seq (ab.block ?_)
  refine .ao (by decide +kernel) fun K hK =>?_
  simp only[xp,U,simprocAttr]
  try simp only[hi2,U,simprocAttr]
  refine .done (hK _ ?_);clear hK K
  refine ab.seq (ab.ql (gs:=tn) [172,173,174,175,176,177] [] [0,1,2,3,4,5,6,7,8,9,10,11,12,13] (by decide +kernel) (eU.of trivial) fun K hK =>?_)
  try simp only[nU,tn,List.getD_cons_zero,List.getD_cons_succ,n3,he,hmo,hf1,eT,eJ,a6,U,simprocAttr]
  have hlo:∀ bs',bs.length≤bs'.length→al (ea bs'++((900,.cV 3 (dB vd))::(ea bs++[(3,.box (enc l))]))) 900=some (.cV 3 (dB vd)):=fun bs' h=>by
   rw[yb h];rfl
  have htv:(dB vd).length=vd.length:=by simp[dB]
  have hap:=fun (A:af) d rest=>vn (A:=A) (d:=d) (e:=3) (bytes:=8) (n:=900) (l:=(dB vd).length) (xs:=dB vd) (y:=(j:Int)) (rest:=rest) rfl (by simp[dB,maxLen];omega) (by simp[dB];omega)
  refine cG.vW (by omega) hf2 hf3 rfl (fun hb =>?_) (fun bs' hb hk =>?_) (fun hb =>?_)
  ·have hs2:fD l o (i+1)=(bs,vd++[j]):=by rw[hst];simp only[nh,hb]
   have h900:=hlo bs (Nat.le_refl _)
   try simp only[U,simprocAttr]
   have R:=And.intro @h900 (And.intro @hap (And.intro @eT (And.intro @bn (And.intro @a6 @U))))
   repeat' ((first
    |(with_reducible refine .guard (fun hb =>?_) (fun hb =>?_) <;>try simp only[hb])
    |refine ab.aO (by decide +kernel) rfl fun K hK =>?_
    |(refine .aI [0,1,2,3,4,6,7,8,9,10,11,12,14,17,18,33,45,46,47,48,64] hK ?_;clear hK K)
    |(with_reducible refine .done (hK _ ?_);clear hK K)
    |refine ab.of rfl ?_
    |(with_reducible refine ar.aL (fun h =>?_) (fun h =>?_) <;>try simp only[h])) <;>try simp only[aQ,R,simprocAttr])
   all_goals clear R
   refine ⟨i+1,by omega,by omega,?_⟩
   rw[hs2,hw]
   have e:dB (vd++[j])=dB vd++[(j:Int)]:=by simp[dB]
   simp only[e]
   refine aD.da ?_ (fun n=>aim n)
   simp[aV,aY]
  ·have hs2:fD l o (i+1)=(bs',vd):=by rw[hst];simp only[nh,hb]
   try simp only[U,simprocAttr]
   have R:=And.intro @eT (And.intro @bn (And.intro @a6 @U))
   repeat' ((first
    |(with_reducible refine .guard (fun hb =>?_) (fun hb =>?_) <;>try simp only[hb])
    |refine ab.aO (by decide +kernel) rfl fun K hK =>?_
    |(refine .aI [0,1,2,3,4,6,7,8,9,10,11,12,14,17,18,33,45,46,47,48,64] hK ?_;clear hK K)
    |(with_reducible refine .done (hK _ ?_);clear hK K)
    |refine ab.of rfl ?_
    |(with_reducible refine ar.aL (fun h =>?_) (fun h =>?_) <;>try simp only[h])) <;>try simp only[aQ,R,simprocAttr])
   all_goals clear R
   refine ⟨i+1,by omega,by omega,?_⟩
   rw[hs2,hw]
   refine aD.da ?_ (fun n=>yb (Nat.le_of_eq (vq hk hb).symm) n)
   simp[aV,aY]
  ·have hs2:fD l o (i+1)=(bs++[fV (ae l j)],vd):=by rw[hst];simp only[nh,hb]
   try simp only[U,simprocAttr]
   have R:=And.intro @eT (And.intro @bn (And.intro @a6 @U))
   repeat' ((first
    |(with_reducible refine .guard (fun hb =>?_) (fun hb =>?_) <;>try simp only[hb])
    |refine ab.aO (by decide +kernel) rfl fun K hK =>?_
    |(refine .aI [0,1,2,3,4,6,7,8,9,10,11,12,14,17,18,33,45,46,47,48,64] hK ?_;clear hK K)
    |(with_reducible refine .done (hK _ ?_);clear hK K)
    |refine ab.of rfl ?_
    |(with_reducible refine ar.aL (fun h =>?_) (fun h =>?_) <;>try simp only[h])) <;>try simp only[aQ,R,simprocAttr])
   all_goals clear R
   refine ⟨i+1,by omega,by omega,?_⟩
   rw[hs2,hw]
   refine aD.qF (2002+2*bs.length) (2003+2*bs.length) 66 6 6 [0,8] (eA (fV (ae l j)) (.nils 6)) ?_ rfl ?_ ?_ (by omega)
   ·have:¬ 2002+2*bs.length=41:=by omega
    simp[nC,al,this]
   ·have h1:¬ 2003+2*bs.length=41:=by omega
    have h2:¬ 2003+2*bs.length=2002+2*bs.length:=by omega
    have h3:¬ 2003+2*bs.length=900:=by omega
    have h4:¬ 2003+2*bs.length=3:=by omega
    have h5:al (ea bs) (2003+2*bs.length)=none:=ri (by omega)
    simp only[nC,List.cons_append,al,kv,h1,h2,h3,h4,h5,if_false]
   ·refine aD.da ?_ (fun n=>ail (by omega) rfl n)
    simp[aV,aY]
 ·have hio:i=o.length:=by omega
  subst hio
  have hc:decide ((o.length:Int)<((dB o).length:Int))=false:=by simp[htl]
  refine .ao (by decide +kernel) fun K hK =>?_
  simp only[tm,U,simprocAttr]
  try simp only[hc,simprocAttr]
  refine .done (hK _ ?_);clear hK K
  refine ab.seq ?_
  refine ab.bC ?_
  simp only[ar,U,simprocAttr]
  refine ⟨fun h =>?_,fun h =>?_⟩
  case refine_1=>cases h
  refine ab.exit ?_;try simp only[aq,bN,simprocAttr]
  generalize fD l o o.length=s at *
  obtain ⟨bs,vd⟩:=s
  simp only at hnd hbl hsl hvl ⊢
  have htv:(dB vd).length=vd.length:=by simp[dB]
  have hw2:∀ t,nS 900 (dB vd).length (Abs.cn [(48,I.bool false),(3,.ptr 3 []),(9,.own 900 (dB vd).length),(11,.ptr 43 []),(12,kO),(45,enc (dB o)),(46,.int .i64 ((dB o).length:Int)),(47,.int .i64 (o.length:Int))] t):=uh (by simp[nS,I.only,bh,kO,I.bR])
  refine ab.OH (a:=70) (b:=71) (d:=9) (n:=900) (xs:=dB vd) rfl rfl (by decide) (by omega) hw2 ?_ [(11,.ptr 43 [])] ?_ (by decide) (by decide) ?_
  ·refine yQ ⟨rfl,LD (ahz (fun j hj=>by simp;omega) (by decide) bs) ⟨bh _ _,trivial⟩⟩
  ·simp[Abs.cn,I.only]
  ·have hfin:=fun (ts:List (Nat×I))=>Zx (A:=av ts (c7 [900] ((900,.cV 3 (dB vd))::(ea bs++[(3,.box (enc l))])))) (bs:=bs) (fun m y hy=>by
    have:m≠900:=fun e=>by
     rw[e,ri (by omega)] at hy;cases hy
    simp only[av,nL]
    simp[al,this,kv,hy])
   have R:=And.intro @hfin (And.intro @bn (And.intro @a6 @U))
   repeat' ((first
    |(with_reducible refine .guard (fun hb =>?_) (fun hb =>?_) <;>try simp only[hb])
    |refine ab.aO (by decide +kernel) rfl fun K hK =>?_
    |(refine .aI [0,1,2,3,4,6,7,8,9,10,11,12,14,17,18,33,45,46,47,48,64] hK ?_;clear hK K)
    |(with_reducible refine .done (hK _ ?_);clear hK K)
    |refine ab.of rfl ?_
    |(with_reducible refine ar.aL (fun h =>?_) (fun h =>?_) <;>try simp only[h])) <;>try simp only[aQ,R,simprocAttr])
   all_goals clear R
theorem alr{xs ys:List Int}(h:xs.Perm ys):dP xs=dP ys:=by
 unfold dP
 have hx:=List.pairwise_mergeSort (le:=fun x y:Int=>decide (x≤y)) (by intro a b c;simp;omega) (by intro a b;simp;omega) xs
 have hy:=List.pairwise_mergeSort (le:=fun x y:Int=>decide (x≤y)) (by intro a b c;simp;omega) (by intro a b;simp;omega) ys
 refine List.Perm.eq_of_pairwise (fun a b _ _ h k =>?_) hx hy ((List.mergeSort_perm _ _).trans (h.trans (List.mergeSort_perm _ _).symm))
 simp only[decide_eq_true_eq] at h k;omega
theorem ai0{A:af}{d:Option Nat}{n:Nat}{rest:List aB}{ks vs:List I}{cur:Option Nat} : qe A d n rest (some (.it ks vs [] cur))=az rest (A.aJ d (.tuple [.bool false])):=by
 simp only[qe,if_true]
theorem a8.jD{P:Program}{Y:Value→List I→List (Nat×ai)→cR→Prop}{K:af→Prop}{A:af}{d:Option Nat}{n:Nat}{rest:List aB}{ks vs:List I}{left:List Nat}{cur:Option Nat}(hl:left≠[])
  (h:∀ i,i∈left→∃ kk x,ks[i]?=some kk∧vs[i]?=some x∧a8 P Y false K (az rest ((A.aK n (.it ks vs (left.filter (· != i)) (some i))).aJ d (.tuple [.bool true,kk,x])))) :
  a8 P Y false K (qe A d n rest (some (.it ks vs left cur))):=by
 simp only[qe,if_neg hl]
 refine .any rfl fun i hi =>?_
 obtain ⟨kk,x,h1,h2,h3⟩:=h i hi
 simp only[h1,h2]
 exact h3
def jh(bs:List aU)(p:aU→Bool)(aI:List Nat):List Int:=((aI.map fun i=>bs.getD i default).filter p).map (·.no)
theorem ako(bs:List aU)(p:aU→Bool)(aI:List Nat)(i:Nat):jh bs p (aI++[i])=jh bs p aI++if p (bs.getD i default) then [(bs.getD i default).no] else []:=by
 simp only[jh,List.map_append,List.filter_append,List.map_cons,List.map_nil,List.filter_cons,List.filter_nil]
 congr 1
 split <;>rfl
theorem LS(bs:List aU)(p:aU→Bool)(aI:List Nat):(jh bs p aI).length≤aI.length:=by
 simp only[jh,List.length_map]
 exact Nat.le_trans (List.length_filter_le _ _) (by simp)
theorem akn{bs:List aU}{p:aU→Bool}{aI:List Nat}(h:aI.Perm (List.range bs.length)):(jh bs p aI).Perm ((bs.filter p).map (·.no)):=by
 have e:(List.range bs.length).map (fun i=>bs.getD i default)=bs:=by
  refine List.ext_getElem (by simp) fun i h1 h2 =>?_
  simp[List.getD_eq_getElem?_getD,h2]
 simp only[jh]
 refine List.Perm.map _ ?_
 have:=(h.map fun i=>bs.getD i default).filter p
 rwa [e] at this
theorem aj7(p:Nat→Bool)(bs:List aU):I.bR p (bs.map fun b=>.ref (enc (⟨b⟩:eM)))=true:=by
 induction bs with
 |nil=>rfl
 |cons b bs ih=>simp only[List.map_cons,I.bR,I.only,bh,ih,Bool.and_self]
def Au(bs:List aU)(p:aU→Bool)(f:FuncId)(caps:List I)(s:List Nat×List Nat×Option Nat):af :=
 av [(1,.func f caps),(5,.own 905 (jh bs p s.1).length),(12,.dv 12)] [(12,.it (dj bs) (bs.map fun b=>.ref (enc (⟨b⟩:eM))) s.2.1 s.2.2),(905,.cV 3 (jh bs p s.1))]
theorem vg(bs:List aU)(hn:bs.length≤60)(f:FuncId)(caps:List I)(hcaps:I.e9 caps=true)(p:aU→Bool)(hf:∀ b∈bs,aA Tryz.prog f (.ref (enc (⟨b⟩:eM))::caps) (enc (p b))) :
  aA Tryz.prog 72 [gO bs,.func f caps] (enc (dP ((bs.filter p).map (·.no)))):=by
 refine aA.bA Tryz.func72 Tp Vk Xs (Nat.le_of_ble_eq_true rfl) (fun hwf W0 D0 E1 =>?_)
 simp only[Cu,NF,bp,Nat.zero_add]
 clear hwf
 have hcl:I.bX caps=true:=kQ caps hcaps
 have hfc:∀ aC A,b7 aC A caps=some caps:=fun aC A=>kU aC A caps hcaps
 have hon:∀ q,I.bR q caps=true:=fun q=>kA q caps hcl
 refine .ao (by decide +kernel) fun K hK =>?_
 simp only[I5,U,simprocAttr]
 refine .done (hK _ ?_);clear hK K
 refine .ao (by decide +kernel) fun K hK =>?_
 simp only[I6,U,simprocAttr]
 refine .done (hK _ ?_);clear hK K
 refine ab.seq (ab.seq ?_)
 refine .bl (by decide +kernel) fun K hK =>?_
 simp only[I7,U,simprocAttr]
 try simp only[gO,eT,eJ,a6,U,simprocAttr]
 refine .done (hK _ ?_);clear hK K;try simp only[aq]
 refine ab.block (ab.loop (Au bs p f caps) (fun s=>(s.1++s.2.1).Perm (List.range bs.length)) (fun s=>s.2.1.length) ([],List.range bs.length,none) (by simp) ?_ ?_)
 ·refine aD.Az 5 905 3 1 rfl rfl ?_
  refine aD.da ?_ (fun n =>?_)
  ·simp[aV,aY,jh]
  ·simp only[jh,List.map_nil,List.filter_nil,ct,rC,dj,List.length_map]
   (repeat' split) <;>simp_all
 rintro ⟨aI,left,cur⟩ hC
 simp only at hC
 have hlen:aI.length+left.length=bs.length:=by simpa using hC.length_eq
 have hpl:=LS bs p aI
 simp only[Au]
 by_cases hl:left=[]
 ·subst hl
  refine .ao (by decide +kernel) fun K hK =>?_
  simp only[xm,U,simprocAttr]
  try simp only[eJ,ai0,U,simprocAttr]
  refine .done (hK _ ?_);clear hK K
  refine ab.seq ?_
  refine ab.bC ?_
  simp only[ar,U,simprocAttr]
  refine ⟨fun h =>?_,fun h =>?_⟩
  case refine_1=>cases h
  refine ab.exit ?_;try simp only[aq,bN,simprocAttr]
  have hdn:(jh bs p aI).Perm ((bs.filter p).map (·.no)):=akn (by simpa using hC)
  rw[←alr hdn]
  generalize jh bs p aI=xs at hpl
  refine ab.OH (a:=25) (b:=26) (d:=5) (n:=905) (xs:=xs) rfl rfl (by decide) (by omega) (uh (by simp[nS,I.only,I.bR,hon])) (by simp only[c7,dj,List.filter_cons,List.filter_nil,List.contains_cons];simp[a7,ai.only,dN,aj7,-List.map_map]) [] (by simp) (by decide) (by decide) ?_
  have R:=And.intro @a6 @U
  repeat' ((first
   |(with_reducible refine .guard (fun hb =>?_) (fun hb =>?_) <;>try simp only[hb])
   |refine ab.aO (by decide +kernel) rfl fun K hK =>?_
   |(refine .aI [0,1,4,5,6,7,12,14,20] hK ?_;clear hK K)
   |(with_reducible refine .done (hK _ ?_);clear hK K)
   |refine ab.of rfl ?_
   |(with_reducible refine ar.aL (fun h =>?_) (fun h =>?_) <;>try simp only[h])) <;>try simp only[aQ,R,simprocAttr])
  all_goals clear R
 ·refine .ao (by decide +kernel) fun K hK =>?_
  simp only[xm,U,simprocAttr]
  try simp only[eJ,U,simprocAttr]
  refine a8.jD hl fun i hi =>?_
  have hib:i<bs.length:=List.mem_range.1 (hC.mem_iff.1 (by simp[hi]))
  refine ⟨enc (bs[i]).no,.ref (enc (⟨bs[i]⟩:eM)),by simp[dj,hib],by simp[hib],?_⟩
  have hx:bs.getD i default=bs[i]:=by simp[List.getD_eq_getElem?_getD,hib]
  try simp only[U,simprocAttr]
  refine .done (hK _ ?_);clear hK K
  refine ab.seq ?_
  refine ab.bC ?_
  simp only[ar,U,simprocAttr]
  refine ⟨fun h =>?_,fun h =>?_⟩
  case refine_2=>cases h
  refine ab.skip ?_;try simp only[aq,simprocAttr]
  refine ab.block ?_
  have hent:pI (dj bs) (bs.map fun b=>.ref (enc (⟨b⟩:eM))) (some i)=some (.tuple [.int .i64 (bs[i]).no,.ref (enc (⟨bs[i]⟩:eM))]):=by
   simp[pI,dj,hib,jw]
  have hsn:=ako bs p aI i
  have hps:=LS bs p (aI++[i])
  have hpl2:(left.filter (· != i)).length<left.length:=by
   rcases Nat.lt_or_ge (left.filter (· != i)).length left.length with h | h
   ·exact h
   ·have:=List.filter_eq_self.1 (List.Sublist.eq_of_length_le List.filter_sublist h) i hi
    simp at this
  have hnd:left.Nodup:=(List.nodup_append.1 (hC.nodup_iff.2 List.nodup_range)).2.1
  have hC2:((aI++[i])++left.filter (· != i)).Perm (List.range bs.length):=by
   have h1:left.Perm (i::left.filter (· != i)):=by
    have h2:(left.filter (· == i)).length=1:=by
     have:=List.nodup_iff_count.1 hnd i
     have h3:=List.count_pos_iff.2 hi
     have h4:left.count i=(left.filter (· == i)).length:=by rw[List.count,List.countP_eq_length_filter]
     omega
    have h5:left.filter (· == i)=[i]:=by
     obtain ⟨a,ha⟩:=List.length_eq_one_iff.1 h2
     have:a∈left.filter (· == i):=by rw[ha];simp
     have:=(List.mem_filter.1 this).2
     simp at this
     rw[ha,this]
    have h6:=(List.filter_append_perm (· == i) left).symm
    rw[h5] at h6
    exact h6
   refine List.Perm.trans ?_ hC
   rw[List.append_assoc]
   exact (h1.symm).append_left aI
  refine .ao (by decide +kernel) fun K hK =>?_
  simp only[I8,U,simprocAttr]
  try simp only[hent,eJ,a6,U,simprocAttr]
  refine .done (hK _ ?_);clear hK K
  refine .ao (by decide +kernel) fun K hK =>?_
  simp only[I9,U,simprocAttr]
  try simp only[List.cons_append,List.nil_append,hfc,iH,U,simprocAttr]
  refine .flat _ (hf _ (List.getElem_mem hib)) rfl ?_
  try simp only[U,simprocAttr]
  refine .done (hK _ ?_);clear hK K
  have hap:=fun (A:af) d rest=>vn (A:=A) (d:=d) (e:=3) (bytes:=8) (n:=905) (l:=(jh bs p aI).length) (xs:=jh bs p aI) (y:=(bs[i]).no) (rest:=rest) rfl (by simp[maxLen];omega) (by omega)
  rw[hx] at hsn
  rcases hpb:p bs[i]
  ·rw[hpb,if_neg (by decide),List.append_nil] at hsn
   have R:=And.intro @hpb (And.intro @a6 @U)
   repeat' ((first
    |(with_reducible refine .guard (fun hb =>?_) (fun hb =>?_) <;>try simp only[hb])
    |refine ab.aO (by decide +kernel) rfl fun K hK =>?_
    |(refine .aI [0,1,4,5,6,7,12,14,20] hK ?_;clear hK K)
    |(with_reducible refine .done (hK _ ?_);clear hK K)
    |refine ab.of rfl ?_
    |(with_reducible refine ar.aL (fun h =>?_) (fun h =>?_) <;>try simp only[h])) <;>try simp only[aQ,R,simprocAttr])
   all_goals clear R
   refine ⟨(aI++[i],left.filter (· != i),some i),hC2,hpl2,?_⟩
   simp only[hsn]
   refine aD.da ?_ (fun n =>?_)
   ·simp[aV,aY]
   ·simp only[ct,rC];(repeat' split) <;>simp_all
  ·rw[hpb,if_pos rfl] at hsn
   have R:=And.intro @hpb (And.intro @hap (And.intro @a6 @U))
   repeat' ((first
    |(with_reducible refine .guard (fun hb =>?_) (fun hb =>?_) <;>try simp only[hb])
    |refine ab.aO (by decide +kernel) rfl fun K hK =>?_
    |(refine .aI [0,1,4,5,6,7,12,14,20] hK ?_;clear hK K)
    |(with_reducible refine .done (hK _ ?_);clear hK K)
    |refine ab.of rfl ?_
    |(with_reducible refine ar.aL (fun h =>?_) (fun h =>?_) <;>try simp only[h])) <;>try simp only[aQ,R,simprocAttr])
   all_goals clear R
   refine ⟨(aI++[i],left.filter (· != i),some i),hC2,hpl2,?_⟩
   simp only[hsn]
   refine aD.da ?_ (fun n =>?_)
   ·simp[aV,aY]
   ·simp only[ct,rC];(repeat' split) <;>simp_all
theorem AI{aC:Bool}{A0:af}{os:List (Nat×ai)} : ∀ xs:List I,(∀ x∈xs,x.only (au os)=true∧x.cj=true)→jt aC A0 [] os xs xs
 | [],_=>trivial
 |x::xs,h=>⟨.inl ⟨(ma (ρ:=bD []) (fun _=>rfl) x).symm,(h x (by simp)).1,(h x (by simp)).2⟩,AI xs fun y hy=>h y (by simp[hy])⟩
theorem ak9(ts:List (Nat×I))(k:Nat)(a b:List Int):av ts (cB k a++cB k b)=av ts (cB k a):=by
 simp only[av];congr 1;funext n
 simp only[cB,List.cons_append,List.nil_append,al]
 split <;>rfl
theorem a8.lj{K:af→Prop}{f:FuncId}{avs:List I}{a1 a2:Option (List I)}{dst:Option Nat}{rest:List aB}{ts:List (Nat×I)}{ws:List Int}{post:cR}(hc:cF Tryz.prog f avs (cB 1000000 ws) post)(hav:∀ x∈avs,x.only (au (cB 1000000 ws))=true∧x.cj=true)
  (h:∀ r os',post r os'→∃ ws',os'=cB 1000000 ws'∧r=.tuple []∧a8 Tryz.prog iN false K (az rest ((av ts (cB 1000000 ws')).aJ dst (.tuple [])))):a8 Tryz.prog iN false K (.call f avs a1 a2 dst rest (av ts (cB 1000000 ws))):=by
 refine .bS false [] (cB 1000000 ws) avs post rfl hc ⟨fun m y hy =>?_,fun m m' _ _ h=>h⟩ (AI avs hav) ?_ ?_
 ·rw[ai.ma (ρ:=bD []) (fun n=>rfl)]
  refine ⟨hy,?_⟩
  simp only[cB,al] at hy
  split at hy
  ·cases hy;exact ⟨oJ _ _,rfl⟩
  ·cases hy
 ·intro r os' hp
  obtain ⟨ws',rfl,rfl,_⟩:=h r os' hp
  refine ⟨fun m y hy =>?_,fun m m' _ _ h=>h,fun m hm=>by rw[cW.1 hm];exact cW.2 rfl,fun m a b=>by rw[cW.1 a] at b;simp[cB,au,al] at b,rfl,fun h=>by cases h⟩
  simp only[cB,al] at hy
  split at hy
  ·cases hy;exact ⟨oJ _ _,rfl,fun h=>by cases h⟩
  ·cases hy
 ·intro r os' hp
  obtain ⟨ws',rfl,rfl,hw⟩:=h r os' hp
  rw[uE,ak9]
  exact hw
theorem kM(ws:List Int)(n:Nat)(f:FuncId)(caps:List I)(hcl:I.bX caps=true)(ay:List Int):∀ x∈.view 1000000 [] 1 0 n::(ay.map enc++[.func f caps]),x.only (au (cB 1000000 ws))=true∧x.cj=true:=by
 intro x hx
 simp only[List.mem_cons,List.mem_append,List.mem_map,List.not_mem_nil,or_false] at hx
 rcases hx with rfl | ⟨y,_,rfl⟩ | rfl
 ·exact ⟨cW.2 rfl,rfl⟩
 ·exact ⟨bh _ _,dq _⟩
 ·exact ⟨mS _ _ (by simpa[I.bB] using hcl),rfl⟩
structure QD where
 p:List Int
 u:List Int
 v:List Int
 q:List Int
theorem Qi(p u v q:List Int)(a m b n:Nat)(f:FuncId)(caps:List I)(hcl:I.bX caps=true)(ha:p.length=a)(hm:a+u.length=m)(hb:m+v.length=b)(hu:0<u.length)(hv:0<v.length)(hn:b≤n)(hN:n≤1000) :
  cF Tryz.prog 213 [.view 1000000 [] 1 0 n,enc (a:Int),enc (m:Int),enc (b:Int),.func f caps] (cB 1000000 (p++u++v++q)) (zm (p++v++u++q)):=by
 refine cF.bA Tryz.func213 S2 UY W6 (Nat.le_of_ble_eq_true rfl) (Nat.le_of_ble_eq_true rfl) nY (fun hwf W0 D0 E1 =>?_)
 simp only[B9,Ng,bp,Nat.zero_add,Nat.reduceAdd]
 clear hwf
 have w1:=iT (x:=m) (y:=a) (by omega) (by omega)
 have w2:=iT (x:=b) (y:=m) (by omega) (by omega)
 refine .ao (by decide +kernel) fun K hK =>?_
 simp only[H8,U,simprocAttr]
 try simp only[w1,simprocAttr]
 refine .done (hK _ ?_);clear hK K
 refine .ao (by decide +kernel) fun K hK =>?_
 simp only[H9,U,simprocAttr]
 try simp only[w2,simprocAttr]
 refine .done (hK _ ?_);clear hK K
 refine ab.seq (ab.block (ab.loop (fun s:QD=>av [(0,.view 1000000 [] 1 0 n),(2,.int .i64 m),(4,.func f caps),(10,.int .i64 s.u.length),(11,.int .i64 s.v.length)] (cB 1000000 (s.p++s.u++s.v++s.q))) (fun s=>0<s.u.length∧0<s.v.length∧s.p.length+s.u.length=m∧m+s.v.length≤b∧s.p++s.v++s.u++s.q=p++v++u++q) (fun s=>s.u.length+s.v.length) ⟨p,u,v,q⟩ ⟨hu,hv,by simp only;omega,by simp only;omega,rfl⟩ ?_ ?_))
 ·have e1:m-a=u.length:=by omega
  have e2:b-m=v.length:=by omega
  simp only[e1,e2]
  refine aD.da ?_ (fun n=>rfl)
  simp[aV,aY]
 rintro ⟨p1,u1,v1,q1⟩ ⟨g1,g2,g3,g4,g5⟩
 simp only at g1 g2 g3 g4 g5 ⊢
 refine ab.seq (ab.seq ?_)
 refine .bl (by decide +kernel) fun K hK =>?_
 simp only[Ia,U,simprocAttr]
 refine .done (hK _ ?_);clear hK K;try simp only[aq]
 refine ab.bC ?_
 simp only[ar,U,simprocAttr]
 refine ⟨fun h =>?_,fun h =>?_⟩
 ·have hne:u1.length≠v1.length:=fun e=>by rw[e] at h;simp at h
  refine ab.skip ?_;try simp only[aq,simprocAttr]
  refine ab.block (ab.seq ?_)
  refine .bl (by decide +kernel) fun K hK =>?_
  simp only[Ib,U,simprocAttr]
  refine .done (hK _ ?_);clear hK K;try simp only[aq]
  refine ab.bC ?_
  simp only[ar,U,simprocAttr]
  refine ⟨fun h =>?_,fun h =>?_⟩
  ·have hgt:v1.length<u1.length:=by simp at h;omega
   have w3:=iT (x:=m) (y:=u1.length) (by omega) (by omega)
   have w4:=iT (x:=u1.length) (y:=v1.length) (by omega) (by omega)
   have hs:u1=u1.take v1.length++u1.drop v1.length:=(List.take_append_drop _ _).symm
   have ht:(u1.take v1.length).length=v1.length:=by rw[List.length_take];omega
   have hd:(u1.drop v1.length).length=u1.length-v1.length:=by rw[List.length_drop]
   have hc:=ve p1 (u1.take v1.length) (u1.drop v1.length) v1 q1 (m-u1.length) m n v1.length (.func f caps) (by omega) (by omega) (by omega) (by omega) (by omega) hN
   rw[List.append_assoc p1,←hs] at hc
   refine .ao (by decide +kernel) fun K hK =>?_
   simp only[Ic,U,simprocAttr]
   try simp only[w3,simprocAttr]
   refine a8.lj hc (kM _ n f caps hcl [_,_,_]) ?_
   rintro r os' ⟨rfl,rfl⟩
   refine ⟨_,rfl,rfl,?_⟩
   try simp only[U,simprocAttr]
   refine .done (hK _ ?_);clear hK K
   refine .bl (by decide +kernel) fun K hK =>?_
   simp only[Ie,U,simprocAttr]
   try simp only[w4,simprocAttr]
   refine .done (hK _ ?_);clear hK K;try simp only[aq,bN]
   refine ⟨⟨p1++v1,u1.drop v1.length,u1.take v1.length,q1⟩,⟨by simp only;omega,by simp only;omega,by simp only[List.length_append];omega,by simp only;omega,?_⟩,by simp only;omega,?_⟩
   ·simp only
    rw[←g5]
    conv=>rhs;rw[hs]
    simp only[List.append_assoc]
   ·simp only[hd,ht]
    refine aD.da ?_ (fun n=>rfl)
    simp[aV,aY]
  ·have hlt:u1.length<v1.length:=by simp at h;omega
   have w3:=iT (x:=m) (y:=u1.length) (by omega) (by omega)
   have w4:=iT (x:=v1.length) (y:=u1.length) (by omega) (by omega)
   have w5:=ke m v1.length (by omega)
   have w6:=iT (x:=m+v1.length) (y:=u1.length) (by omega) (by omega)
   have hs:v1=v1.take (v1.length-u1.length)++v1.drop (v1.length-u1.length):=(List.take_append_drop _ _).symm
   have ht:(v1.take (v1.length-u1.length)).length=v1.length-u1.length:=by rw[List.length_take];omega
   have hd:(v1.drop (v1.length-u1.length)).length=u1.length:=by rw[List.length_drop];omega
   have hc:=ve p1 u1 (v1.take (v1.length-u1.length)) (v1.drop (v1.length-u1.length)) q1 (m-u1.length) (m+v1.length-u1.length) n u1.length (.func f caps) (by omega) (by omega) (by omega) (by omega) (by omega) hN
   rw[List.append_assoc (p1++u1),←hs] at hc
   refine .ao (by decide +kernel) fun K hK =>?_
   simp only[If,U,simprocAttr]
   try simp only[w3,w5,w6,simprocAttr]
   refine a8.lj hc (kM _ n f caps hcl [_,_,_]) ?_
   rintro r os' ⟨rfl,rfl⟩
   refine ⟨_,rfl,rfl,?_⟩
   try simp only[U,simprocAttr]
   refine .done (hK _ ?_);clear hK K
   refine .bl (by decide +kernel) fun K hK =>?_
   simp only[Ig,U,simprocAttr]
   try simp only[w4,simprocAttr]
   refine .done (hK _ ?_);clear hK K;try simp only[aq,bN]
   refine ⟨⟨p1,v1.drop (v1.length-u1.length),v1.take (v1.length-u1.length),u1++q1⟩,⟨by simp only;omega,by simp only;omega,by simp only;omega,by simp only;omega,?_⟩,by simp only;omega,?_⟩
   ·simp only
    rw[←g5]
    conv=>rhs;rw[hs]
    simp only[List.append_assoc]
   ·simp only[hd,ht]
    rw[←List.append_assoc _ u1 q1]
    refine aD.da ?_ (fun n=>rfl)
    simp[aV,aY]
 ·have he:u1.length=v1.length:=by simp at h;omega
  refine ab.exit ?_;try simp only[aq,bN,simprocAttr]
  have w3:=iT (x:=m) (y:=u1.length) (by omega) (by omega)
  have hc:=ve p1 u1 [] v1 q1 (m-u1.length) m n u1.length (.func f caps) (by omega) (by omega) (by simp;omega) rfl (by omega) hN
  simp only[List.append_nil] at hc
  refine .bl (by decide +kernel) fun K hK =>?_
  simp only[Ih,U,simprocAttr]
  try simp only[w3,simprocAttr]
  refine a8.lj hc (kM _ n f caps hcl [_,_,_]) ?_
  rintro r os' ⟨rfl,rfl⟩
  refine ⟨_,rfl,rfl,?_⟩
  try simp only[U,simprocAttr]
  refine .done (hK _ ?_)
  clear hK K
  rw[mb]
  exact nV rfl g5 ⟨rfl,rfl⟩
theorem uQ{el:List ak}{s:List Int}(h:di el s){i j:Nat}(hij:i<j)(hj:j<s.length):dM el (s.getD i 0) (s.getD j 0):=by
 rw[List.getD_eq_getElem?_getD,List.getD_eq_getElem?_getD,List.getElem?_eq_getElem (by omega),List.getElem?_eq_getElem hj]
 exact List.pairwise_iff_getElem.1 h i j (by omega) hj hij
theorem qt{el:List ak}{s:List Int}(h:di el s){i j:Nat}(hij:i≤j)(hj:j<s.length){x:Int}(hx:dM el (s.getD j 0) x):dM el (s.getD i 0) x:=by
 rcases Nat.lt_or_ge i j with h1 | h1
 ·exact yc (uQ h h1 hj) hx
 ·have:i=j:=by omega
  rw[this];exact hx
theorem qq{el:List ak}{s:List Int}(h:di el s){i j:Nat}(hij:i≤j)(hj:j<s.length){x:Int}(hx:dM el x (s.getD i 0)):dM el x (s.getD j 0):=by
 rcases Nat.lt_or_ge i j with h1 | h1
 ·exact yc hx (uQ h h1 hj)
 ·have:i=j:=by omega
  rw[←this];exact hx
theorem tP{s:List Int}{k:Nat}{x:Int}(h:x∈s.take k):∃ i,i<k∧i<s.length∧s.getD i 0=x:=by
 obtain ⟨i,hi,rfl⟩:=List.getElem_of_mem h
 rw[List.length_take] at hi
 exact ⟨i,by omega,by omega,by rw[List.getD_eq_getElem?_getD,List.getElem?_eq_getElem (by omega),List.getElem_take];rfl⟩
theorem pZ{s:List Int}{k:Nat}{x:Int}(h:x∈s.drop k):∃ i,k≤i∧i<s.length∧s.getD i 0=x:=by
 obtain ⟨i,hi,rfl⟩:=List.getElem_of_mem h
 rw[List.length_drop] at hi
 exact ⟨k+i,by omega,by omega,by rw[List.getD_eq_getElem?_getD,List.getElem?_eq_getElem (by omega),List.getElem_drop];rfl⟩
def sg(el:List ak)(l r:List Int)(k i:Nat):Prop:=∀ x∈l.take i++r.take (k-i),∀ y∈l.drop i++r.drop (k-i),dM el x y
theorem XK{el:List ak}{l r:List Int}{k i lo hi:Nat}(hl:di el l)(hr:di el r)(h1:lo≤i)(h2:i≤hi)(hlo:lo=0∨lo+r.length=k)(hhi:hi=l.length∨hi=k)(hil:hi≤l.length)(hik:hi≤k)(hlr:k≤lo+r.length)
  (g1:∀ j,lo≤j→j<i→dM el (l.getD j 0) (r.getD (k-1-j) 0)) (g2:∀ j,i≤j→j<hi→dM el (r.getD (k-1-j) 0) (l.getD j 0)):sg el l r k i:=by
 intro x hx y hy
 rcases List.mem_append.1 hx with hx | hx
 ·obtain ⟨a,ha1,ha2,rfl⟩:=tP hx
  rcases List.mem_append.1 hy with hy | hy
  ·obtain ⟨b,hb1,hb2,rfl⟩:=pZ hy
   exact uQ hl (by omega) hb2
  ·obtain ⟨b,hb1,hb2,rfl⟩:=pZ hy
   by_cases hli:lo<i
   ·have:=g1 (i-1) (by omega) (by omega)
    have e:k-1-(i-1)=k-i:=by omega
    rw[e] at this
    refine qt hl (j:=i-1) (by omega) (by omega) ?_
    exact qq hr (i:=k-i) (by omega) hb2 this
   ·omega
 ·obtain ⟨a,ha1,ha2,rfl⟩:=tP hx
  rcases List.mem_append.1 hy with hy | hy
  ·obtain ⟨b,hb1,hb2,rfl⟩:=pZ hy
   by_cases hih:i<hi
   ·have:=g2 i (Nat.le_refl _) hih
    refine qt hr (j:=k-1-i) (by omega) (by omega) ?_
    exact qq hl (i:=i) (by omega) hb2 this
   ·omega
  ·obtain ⟨b,hb1,hb2,rfl⟩:=pZ hy
   exact uQ hr (by omega) hb2
theorem alu{el:List ak}{l r s1 s2:List Int}{k i:Nat}(hc:sg el l r k i)(h1:s1.Perm (l.take i++r.take (k-i)))(h2:s2.Perm (l.drop i++r.drop (k-i)))(k1:di el s1)(k2:di el s2):(s1++s2).Perm (l++r)∧di el (s1++s2):=by
 refine ⟨(h1.append h2).trans ?_,List.pairwise_append.2 ⟨k1,k2,fun x hx y hy=>hc x (h1.mem_iff.1 hx) y (h2.mem_iff.1 hy)⟩⟩
 have e:l.take i++r.take (k-i)++(l.drop i++r.drop (k-i))=l.take i++(r.take (k-i)++l.drop i)++r.drop (k-i):=by simp only[List.append_assoc]
 rw[e]
 refine (((List.perm_append_comm (l₁:=r.take (k-i)) (l₂:=l.drop i)).append_left _).append_right _).trans ?_
 have e2:l.take i++(l.drop i++r.take (k-i))++r.drop (k-i)=(l.take i++l.drop i)++(r.take (k-i)++r.drop (k-i)):=by simp only[List.append_assoc]
 rw[e2,List.take_append_drop,List.take_append_drop]
theorem OK{el:List ak}{s:List Int}(h:di el s)(k:Nat):di el (s.take k):=h.sublist (List.take_sublist _ _)
theorem OI{el:List ak}{s:List Int}(h:di el s)(k:Nat):di el (s.drop k):=h.sublist (List.drop_sublist _ _)
theorem xA{p l r q:List Int}{a i:Nat}(ha:p.length=a)(hi:i<l.length):(p++l++r++q).getD (a+i) 0=l.getD i 0:=by
 subst ha
 rw[List.getD_eq_getElem?_getD,List.getD_eq_getElem?_getD,List.append_assoc,List.append_assoc,List.getElem?_append_right (by omega),Nat.add_sub_cancel_left,List.getElem?_append_left hi]
theorem xB{p l r q:List Int}{m i:Nat}(hm:p.length+l.length=m)(hi:i<r.length):(p++l++r++q).getD (m+i) 0=r.getD i 0:=by
 subst hm
 rw[List.getD_eq_getElem?_getD,List.getD_eq_getElem?_getD,List.append_assoc (p++l),List.getElem?_append_right (by rw[List.length_append];omega),List.length_append,Nat.add_sub_cancel_left,List.getElem?_append_left hi]
theorem nP(x:Nat):Int.fdiv (x:Int) (2^min (Int.toNat 1) IntKind.u64.bits)=((x / 2:Nat):Int):=by
 have:min (Int.toNat 1) IntKind.u64.bits=1:=rfl
 rw[this]
 show Int.fdiv (x:Int) 2=_
 rw[Int.fdiv_eq_ediv_of_nonneg _ (by decide)];rfl
theorem mM{x:Nat}(h:x<9223372036854775807):IntKind.u64.wrap (x:Int)=(x:Int):=by
 simp only[IntKind.wrap,IntKind.bits,IntKind.signed]
 simp
 omega
theorem nO:((0:Int)≤1)=True:=by simp
theorem ab.al1{c:cQ}{Q:Exit→af→Prop}{A:af}{x:aM}{σ:Type}(T:σ→af)(C:σ→Prop)(h1:ab c x (aq (fun B=>∃ s,C s∧Abs.aD B (T s)) fun _ _=>False) A)(h2:∀ s B,C s→Abs.aD B (T s)→Q .normal B):ab c x Q A :=
 h1.mono fun e B hq=>by
  cases e <;>simp only[aq] at hq <;>first
   |(obtain ⟨s,k1,k2⟩:=hq;exact h2 s B k1 k2)
   |exact hq.elim
theorem alQ{p r q:List Int}{x:Int}{a j:Nat}(ha:p.length=a)(hj:j<r.length):kH (ed p r q x j) (a+j) (a+j+1)=ed p r q x (j+1):=by
 have e1:ed p r q x (j+1)=(p++r.take j)++r[j]::x::(r.drop (j+1)++q):=by
  simp only[ed]
  rw[List.take_succ_eq_append_getElem hj]
  simp only[List.append_assoc,List.cons_append,List.nil_append]
 have e2:ed p r q x j=(p++r.take j)++x::r[j]::(r.drop (j+1)++q):=by
  simp only[ed]
  rw[List.drop_eq_getElem_cons hj]
  simp only[List.append_assoc,List.cons_append]
 rw[e1,e2]
 exact alR (by rw[List.length_append,List.length_take];omega) rfl
theorem ahG(p r q:List Int)(x:Int):ed p r q x 0=p++[x]++r++q:=by simp[ed]
theorem ahJ(p r q:List Int)(x:Int):ed p r q x r.length=p++r++[x]++q:=by simp[ed]
theorem Qc(el:List ak)(hd:mB el)(hel:el.length≤60)(p l r q:List Int)(a m b n:Nat)(hl0:0<l.length)(hr0:0<r.length)(ha:p.length=a)(hm:a+l.length=m)(hb:m+r.length=b)(hn:b≤n)(hnl:n≤(p++l++r++q).length)(hn1:n≤1000)(hsl:di el l)(hsr:di el r)(hlr:∀ x∈l,∀ y∈r,x<y)(hin:∀ x∈l++r,jz el x)(hl1:l.length=1) :
  cF Tryz.prog 204 [.view 1000000 [] 1 0 n,enc (a:Int),enc (m:Int),enc (b:Int),.func 138 [.ref (enc el)]] (cB 1000000 (p++l++r++q)) (nf el p (l++r) q):=by
 have hlen:(p++l++r++q).length=p.length+l.length+r.length+q.length:=by simp only[List.length_append]
 have nA:=fun i (hi:i<l.length)=>xA (p:=p) (l:=l) (r:=r) (q:=q) (i:=i) ha hi
 have gr:=fun i (hi:i<r.length)=>xB (p:=p) (l:=l) (r:=r) (q:=q) (m:=m) (i:=i) (by omega) hi
 have ml:=fun i (hi:i<l.length)=>(show l.getD i 0∈l by rw[List.getD_eq_getElem?_getD,List.getElem?_eq_getElem hi];exact List.getElem_mem _)
 have mr:=fun i (hi:i<r.length)=>(show r.getD i 0∈r by rw[List.getD_eq_getElem?_getD,List.getElem?_eq_getElem hi];exact List.getElem_mem _)
 refine cF.bA Tryz.func204 vF vI vU (Nat.le_of_ble_eq_true rfl) (Nat.le_of_ble_eq_true rfl) nY (fun hwf W0 D0 E1 =>?_)
 simp only[sK,uv,bp,Nat.zero_add,Nat.reduceAdd]
 clear hwf
 have fj:=iT (x:=m) (y:=a) (by omega) (by omega)
 refine ab.seq (ab.seq ?_)
 obtain ⟨x,rfl⟩:=List.length_eq_one_iff.1 hl1
 obtain ⟨ws,hws⟩:∃ ws,ws=p++[x]++r++q:=⟨_,rfl⟩
 rw[←hws] at hnl hlen gr nA ⊢
 have gx:ws.getD a 0=x:=by have:=nA 0 hl0;simpa using this
 have hxr:=hlr x (by simp)
 have hxS:=hin x (by simp)
 have hrS:=fun y (hy:y∈r)=>hin y (by simp[hy])
 have h1:((m-a:Nat):Int)=1:=by omega
 refine .bl (by decide +kernel) fun K hK =>?_
 simp only[tj,U,Nat.reduceEqDiff,reduceIte]
 try simp only[fj,h1,Int.reduceBEq]
 refine .done (hK _ ?_);clear hK K;try simp only[aq]
 refine ab.bC ?_
 try simp only[ar,U,Nat.reduceEqDiff,reduceIte]
 refine ⟨fun _ =>?_,fun h =>?_⟩
 rotate_left
 ·simp at h
 refine .ao (by decide +kernel) fun K hK =>?_
 simp only[HF,U,Nat.reduceEqDiff,reduceIte]
 refine .done (hK _ ?_);clear hK K
 refine .ao (by decide +kernel) fun K hK =>?_
 simp only[HK,U,Nat.reduceEqDiff,reduceIte]
 refine .done (hK _ ?_);clear hK K
 refine ab.seq (ab.block (ab.loop (fun s:Nat×Nat=>av [(0,.view 1000000 [] 1 0 n),(1,.int .i64 a),(2,.int .i64 m),(3,.int .i64 b),(4,.func 138 [.ref (enc el)]),(10,.int .i64 ((m+s.1:Nat):Int)),(11,.int .i64 ((m+s.2:Nat):Int))] (cB 1000000 ws))
  (fun s=>s.1≤s.2∧s.2≤r.length∧(∀ j,j<s.1→dM el (r.getD j 0) x)∧∀ j,s.2≤j→j<r.length→dM el x (r.getD j 0)) (fun s=>s.2-s.1) (0,r.length) ⟨Nat.zero_le _,Nat.le_refl _,fun j hj=>by omega,fun j h1 h2=>by simp only at h1;omega⟩ ?_ ?_))
 ·have e1:m+0=m:=rfl
  simp only[e1,hb]
  refine aD.da ?_ (fun n=>rfl)
  simp[aV,aY]
 rintro ⟨i,j⟩ ⟨g1,g2,g3,g4⟩
 simp only at g1 g2 g3 g4 ⊢
 by_cases hij:i<j
 ·have hc:decide (((m+i:Nat):Int)<((m+j:Nat):Int))=true:=by simp;omega
  have w1:=ke (m+i) (m+j) (by omega)
  have w2:=mM (x:=m+i+(m+j)) (by omega)
  obtain ⟨c,hcd⟩:∃ c,c=(i+j) / 2:=⟨_,rfl⟩
  have hci:i≤c∧c<j:=by omega
  have w3:(m+i+(m+j)) / 2=m+c:=by omega
  have w4:=mM (x:=m+c) (by omega)
  have w5:=sc (n:=m+c) (by omega)
  have w6:=ft (i:=m+c) (by omega)
  have v1:=jA (n:=n) (i:=m+c) (by omega)
  have v2:=jA (n:=n) (i:=a) (by omega)
  have l1:=gZ (xs:=ws) (i:=m+c) (by omega)
  have l2:=gZ (xs:=ws) (i:=a) (by omega)
  rw[gr c (by omega)] at l1
  rw[gx] at l2
  have hrc:=mr c (by omega)
  have hcmp:=sj el hd hel (r.getD c 0) x (hrS _ hrc) hxS
  have hlt:=tL (l:=el) (hxr _ hrc)
  simp only[cB]
  cases hdc:decide (gz el (r.getD c 0)-gz el x<0) with
  |true =>
   have hd1:dM el (r.getD c 0) x:=hlt.2 (by have:=of_decide_eq_true hdc;omega)
   have R:=And.intro @hc (And.intro @w1 (And.intro @w2 (And.intro @w3 (And.intro @w4 (And.intro @w5 (And.intro @w6 (And.intro @nP (And.intro @nO (And.intro @v1 (And.intro @v2 (And.intro @l1 (And.intro @l2 (And.intro @hdc (And.intro @dp (And.intro @dV (And.intro @a6 @U))))))))))))))))
   repeat' ((first
    |(with_reducible refine .guard (fun hb =>?_) (fun hb =>?_) <;>try simp only[hb])
    |refine ab.aO (by decide +kernel) rfl fun K hK =>?_
    |refine .flat _ (hcmp) rfl ?_
    |(refine .aI [0,1,2,3,4,10,11,12,13,14,15,16,17,18,19,20,21,22,23,24,28,33,50,58,80,85,103,110,140,151,171,185,199,213] hK ?_;clear hK K)
    |(with_reducible refine .done (hK _ ?_);clear hK K)
    |refine ab.of rfl ?_
    |(with_reducible refine ar.aL (fun h =>?_) (fun h =>?_) <;>try simp only[h])) <;>try simp only[aQ,R,List.cons_append,Nat.reduceEqDiff,reduceIte,Nat.reduceBEq])
   all_goals clear R
   refine ⟨(c+1,j),⟨by simp only;omega,g2,fun k hk =>?_,g4⟩,by simp only;omega,?_⟩
   ·simp only at hk
    exact qt hsr (j:=c) (by omega) (by omega) hd1
   ·refine aD.da ?_ (fun n=>rfl)
    simp[aV,aY];omega
  |false =>
   have hd1:dM el x (r.getD c 0):=tK (hxr _ hrc) (by have:=of_decide_eq_false hdc;omega)
   have R:=And.intro @hc (And.intro @w1 (And.intro @w2 (And.intro @w3 (And.intro @w4 (And.intro @w5 (And.intro @w6 (And.intro @nP (And.intro @nO (And.intro @v1 (And.intro @v2 (And.intro @l1 (And.intro @l2 (And.intro @hdc (And.intro @dp (And.intro @dV (And.intro @a6 @U))))))))))))))))
   repeat' ((first
    |(with_reducible refine .guard (fun hb =>?_) (fun hb =>?_) <;>try simp only[hb])
    |refine ab.aO (by decide +kernel) rfl fun K hK =>?_
    |refine .flat _ (hcmp) rfl ?_
    |(refine .aI [0,1,2,3,4,10,11,12,13,14,15,16,17,18,19,20,21,22,23,24,28,33,50,58,80,85,103,110,140,151,171,185,199,213] hK ?_;clear hK K)
    |(with_reducible refine .done (hK _ ?_);clear hK K)
    |refine ab.of rfl ?_
    |(with_reducible refine ar.aL (fun h =>?_) (fun h =>?_) <;>try simp only[h])) <;>try simp only[aQ,R,List.cons_append,Nat.reduceEqDiff,reduceIte,Nat.reduceBEq])
   all_goals clear R
   refine ⟨(i,c),⟨by simp only;omega,by simp only;omega,g3,fun k hk hk2 =>?_⟩,by simp only;omega,?_⟩
   ·simp only at hk
    exact qq hsr (i:=c) (by omega) hk2 hd1
   ·refine aD.da ?_ (fun n=>rfl)
    simp[aV,aY]
 ·have hc:decide (((m+i:Nat):Int)<((m+j:Nat):Int))=false:=by simp;omega
  have he:j=i:=by omega
  subst he
  refine ab.seq (ab.seq ?_)
  refine .bl (by decide +kernel) fun K hK =>?_
  simp only[HP,U,Nat.reduceEqDiff,reduceIte]
  try simp only[hc]
  refine .done (hK _ ?_);clear hK K;try simp only[aq]
  refine ab.bC ?_
  simp only[ar,U,Nat.reduceEqDiff,reduceIte]
  refine ⟨fun h =>?_,fun h =>?_⟩
  ·cases h
  refine ab.exit ?_;try simp only[aq,bN,reduceIte]
  refine ab.seq (ab.seq ?_)
  refine .bl (by decide +kernel) fun K hK =>?_
  simp only[HT,U,Nat.reduceEqDiff,reduceIte]
  refine .done (hK _ ?_);clear hK K;try simp only[aq]
  have hi0:=ahG p r q x
  rw[hws,←hi0]
  refine ab.block (ab.loop (fun k:Nat=>av [(0,.view 1000000 [] 1 0 n),(10,.int .i64 ((m+j:Nat):Int)),(13,.int .i64 ((a+k:Nat):Int))] (cB 1000000 (ed p r q x k))) (fun k=>k≤j) (fun k=>j-k) 0 (Nat.zero_le _) ?_ (fun k hk =>?_))
  ·refine aD.da ?_ (fun n=>rfl)
   simp[aV,aY]
  have ww:IntKind.i64.wrap (((m+j:Nat):Int)-1)=((a+j:Nat):Int):=by rw[cA _ (by omega) (by omega)];simp at hm;omega
  have hil:(ed p r q x k).length=p.length+r.length+1+q.length:=xS (by omega)
  by_cases hkj:k<j
  ·have hc2:decide (((a+k:Nat):Int)<((a+j:Nat):Int))=true:=by simp;omega
   have hstep:=alQ (p:=p) (r:=r) (q:=q) (x:=x) (j:=k) ha (by omega)
   generalize ed p r q x k=ws at hil hstep ⊢
   obtain ⟨i1,hi1e⟩:∃ i1,i1=a+k:=⟨_,rfl⟩
   obtain ⟨j1,hj1e⟩:∃ j1,j1=a+k+1:=⟨_,rfl⟩
   rw[←hj1e,←hi1e] at hstep
   have wk:IntKind.i64.wrap ((i1:Int)+1)=(j1:Int):=by rw[cA _ (by omega) (by omega)];omega
   rw[←hi1e] at hc2 ⊢
   have hi1:i1<n:=by simp at hm;omega
   have hj1:j1<n:=by simp at hm;omega
   simp only[cB]
   have v1:=jA (n:=n) (i:=i1) hi1
   have v2:=jA (n:=n) (i:=j1) hj1
   have l1:=gZ (xs:=ws) (i:=i1) (by omega)
   have l2:=gZ (xs:=ws) (i:=j1) (by omega)
   have s1:=fun (A:af) v u rest=>n9 (A:=A) (n:=1000000) (xs:=ws) (i:=i1) (by omega) v u rest
   obtain ⟨ws2,hws2⟩:∃ ws2,ws2=ws.set i1 (ws.getD j1 0):=⟨_,rfl⟩
   have hw2l:ws2.length=ws.length:=by rw[hws2];simp
   have s2:=fun (A:af) v u rest=>n9 (A:=A) (n:=1000000) (xs:=ws2) (i:=j1) (by omega) v u rest
   have l3:=gZ (xs:=ws2) (i:=j1) (by omega)
   have R:=And.intro @ww (And.intro @hc2 (And.intro @wk (And.intro @v1 (And.intro @v2 (And.intro @l1 (And.intro @l2 (And.intro @l3 (And.intro @s1 (And.intro @s2 (And.intro @dp (And.intro @a6 @U)))))))))))
   repeat' ((first
    |(with_reducible refine .guard (fun hb =>?_) (fun hb =>?_) <;>try simp only[hb])
    |refine ab.aO (by decide +kernel) rfl fun K hK =>?_
    |(refine .aI [0,1,2,3,4,10,11,12,13,14,15,16,17,18,19,20,21,22,23,24,28,33,50,58,80,85,103,110,140,151,171,185,199,213] hK ?_;clear hK K)
    |(with_reducible refine .done (hK _ ?_);clear hK K)
    |refine ab.of rfl ?_
    |(with_reducible refine ar.aL (fun h =>?_) (fun h =>?_) <;>try simp only[h])) <;>try simp only[aQ,R,←hws2,Nat.reduceEqDiff,reduceIte,Nat.reduceBEq])
   all_goals clear R
   refine ⟨k+1,by omega,by omega,?_⟩
   rw[←hstep]
   simp only[kH,←hws2]
   have e:a+(k+1)=j1:=by omega
   rw[e]
   refine aD.da ?_ (fun n =>?_)
   ·simp[aV,aY]
   ·simp only[al];split <;>rfl
  ·have hc2:decide (((a+k:Nat):Int)<((a+j:Nat):Int))=false:=by simp;omega
   have hk2:k=j:=by omega
   subst hk2
   have R:=And.intro @ww (And.intro @hc2 (And.intro @a6 (And.intro @eY @U)))
   repeat' ((first
    |(with_reducible refine .guard (fun hb =>?_) (fun hb =>?_) <;>try simp only[hb])
    |refine ab.aO (by decide +kernel) rfl fun K hK =>?_
    |(refine .aI [0,1,2,3,4,10,11,12,13,14,15,16,17,18,19,20,21,22,23,24,28,33,50,58,80,85,103,110,140,151,171,185,199,213] hK ?_;clear hK K)
    |(with_reducible refine .done (hK _ ?_);clear hK K)
    |refine ab.of rfl ?_
    |(with_reducible refine ar.aL (fun h =>?_) (fun h =>?_) <;>try simp only[h])) <;>try simp only[aQ,R,Nat.reduceEqDiff,reduceIte,Nat.reduceBEq])
   all_goals clear R
   refine nV rfl rfl ⟨rfl,r.take k++x::r.drop k,?_,?_,?_⟩
   ·refine List.perm_middle.trans ?_
    rw[List.take_append_drop];exact .refl _
   ·refine zD hsr (fun y hy =>?_) (fun y hy =>?_)
    ·obtain ⟨i,h1,h2,rfl⟩:=tP hy;exact g3 i h1
    ·obtain ⟨i,h1,h2,rfl⟩:=pZ hy;exact g4 i h1 h2
   ·rfl
theorem Qd(el:List ak)(hd:mB el)(hel:el.length≤60)(p l r q:List Int)(a m b n:Nat)(hl0:0<l.length)(hr0:0<r.length)(ha:p.length=a)(hm:a+l.length=m)(hb:m+r.length=b)(hn:b≤n)(hnl:n≤(p++l++r++q).length)(hn1:n≤1000)(hsl:di el l)(hsr:di el r)(hlr:∀ x∈l,∀ y∈r,x<y)(hin:∀ x∈l++r,jz el x)(hl1:¬ l.length=1)(hr1:r.length=1) :
  cF Tryz.prog 204 [.view 1000000 [] 1 0 n,enc (a:Int),enc (m:Int),enc (b:Int),.func 138 [.ref (enc el)]] (cB 1000000 (p++l++r++q)) (nf el p (l++r) q):=by
 have hlen:(p++l++r++q).length=p.length+l.length+r.length+q.length:=by simp only[List.length_append]
 have nA:=fun i (hi:i<l.length)=>xA (p:=p) (l:=l) (r:=r) (q:=q) (i:=i) ha hi
 have gr:=fun i (hi:i<r.length)=>xB (p:=p) (l:=l) (r:=r) (q:=q) (m:=m) (i:=i) (by omega) hi
 have ml:=fun i (hi:i<l.length)=>(show l.getD i 0∈l by rw[List.getD_eq_getElem?_getD,List.getElem?_eq_getElem hi];exact List.getElem_mem _)
 have mr:=fun i (hi:i<r.length)=>(show r.getD i 0∈r by rw[List.getD_eq_getElem?_getD,List.getElem?_eq_getElem hi];exact List.getElem_mem _)
 refine cF.bA Tryz.func204 vF vI vU (Nat.le_of_ble_eq_true rfl) (Nat.le_of_ble_eq_true rfl) nY (fun hwf W0 D0 E1 =>?_)
 simp only[sK,uv,bp,Nat.zero_add,Nat.reduceAdd]
 clear hwf
 have fj:=iT (x:=m) (y:=a) (by omega) (by omega)
 refine ab.seq (ab.seq ?_)
 have h1:(((m-a:Nat):Int)==1)=false:=by simp;omega
 obtain ⟨ws,hws⟩:∃ ws,ws=p++l++r++q:=⟨_,rfl⟩
 rw[←hws] at hnl hlen gr nA ⊢
 have w0b:=iT (x:=b) (y:=m) (by omega) (by omega)
 refine .bl (by decide +kernel) fun K hK =>?_
 simp only[tj,U,Nat.reduceEqDiff,reduceIte]
 try simp only[fj,h1]
 refine .done (hK _ ?_);clear hK K;try simp only[aq]
 refine ab.bC ?_
 try simp only[ar,U,Nat.reduceEqDiff,reduceIte]
 refine ⟨fun h =>?_,fun _ =>?_⟩
 ·simp at h
 refine ab.skip ?_;try simp only[aq]
 refine ab.seq (ab.seq ?_)
 obtain ⟨x,rfl⟩:=List.length_eq_one_iff.1 hr1
 have gx:ws.getD m 0=x:=by have:=gr 0 hr0;simpa using this
 have hlx:∀ y∈l,y<x:=fun y hy=>hlr y hy x (by simp)
 have hxS:=hin x (by simp)
 have hlS:=fun y (hy:y∈l)=>hin y (by simp[hy])
 have h2:((b-m:Nat):Int)=1:=by omega
 refine .bl (by decide +kernel) fun K hK =>?_
 simp only[xj,U,Nat.reduceEqDiff,reduceIte]
 try simp only[w0b,h2,Int.reduceBEq]
 refine .done (hK _ ?_);clear hK K;try simp only[aq]
 refine ab.bC ?_
 try simp only[ar,U,Nat.reduceEqDiff,reduceIte]
 refine ⟨fun _ =>?_,fun h =>?_⟩
 rotate_left
 ·simp at h
 refine .ao (by decide +kernel) fun K hK =>?_
 simp only[HG,U,Nat.reduceEqDiff,reduceIte]
 refine .done (hK _ ?_);clear hK K
 refine .ao (by decide +kernel) fun K hK =>?_
 simp only[HI,U,Nat.reduceEqDiff,reduceIte]
 refine .done (hK _ ?_);clear hK K
 refine ab.seq (ab.block (ab.loop (fun s:Nat×Nat=>av [(0,.view 1000000 [] 1 0 n),(1,.int .i64 a),(2,.int .i64 m),(3,.int .i64 b),(4,.func 138 [.ref (enc el)]),(14,.int .i64 ((a+s.1:Nat):Int)),(15,.int .i64 ((a+s.2:Nat):Int))] (cB 1000000 ws))
  (fun s=>s.1≤s.2∧s.2≤l.length∧(∀ j,j<s.1→dM el (l.getD j 0) x)∧∀ j,s.2≤j→j<l.length→dM el x (l.getD j 0)) (fun s=>s.2-s.1) (0,l.length) ⟨Nat.zero_le _,Nat.le_refl _,fun j hj=>by omega,fun j h1 h2=>by simp only at h1;omega⟩ ?_ ?_))
 ·have e1:a+0=a:=rfl
  simp only[e1,hm]
  refine aD.da ?_ (fun n=>rfl)
  simp[aV,aY]
 rintro ⟨i,j⟩ ⟨g1,g2,g3,g4⟩
 simp only at g1 g2 g3 g4 ⊢
 by_cases hij:i<j
 ·have hc:decide (((a+i:Nat):Int)<((a+j:Nat):Int))=true:=by simp;omega
  have w1:=ke (a+i) (a+j) (by omega)
  have w2:=mM (x:=a+i+(a+j)) (by omega)
  obtain ⟨c,hcd⟩:∃ c,c=(i+j) / 2:=⟨_,rfl⟩
  have hci:i≤c∧c<j:=by omega
  have w3:(a+i+(a+j)) / 2=a+c:=by omega
  have w4:=mM (x:=a+c) (by omega)
  have w5:=sc (n:=a+c) (by omega)
  have w6:=ft (i:=a+c) (by omega)
  have v1:=jA (n:=n) (i:=a+c) (by omega)
  have v2:=jA (n:=n) (i:=m) (by omega)
  have l1:=gZ (xs:=ws) (i:=a+c) (by omega)
  have l2:=gZ (xs:=ws) (i:=m) (by omega)
  rw[nA c (by omega)] at l1
  rw[gx] at l2
  have hrc:=ml c (by omega)
  have hcmp:=sj el hd hel x (l.getD c 0) hxS (hlS _ hrc)
  have hlt:=tL (l:=el) (hlx _ hrc)
  simp only[cB]
  cases hdc:decide (gz el x-gz el (l.getD c 0)<0) with
  |true =>
   have hd1:dM el x (l.getD c 0):=hlt.2 (by have:=of_decide_eq_true hdc;omega)
   have R:=And.intro @hc (And.intro @w1 (And.intro @w2 (And.intro @w3 (And.intro @w4 (And.intro @w5 (And.intro @w6 (And.intro @nP (And.intro @nO (And.intro @v1 (And.intro @v2 (And.intro @l1 (And.intro @l2 (And.intro @hdc (And.intro @dp (And.intro @dV (And.intro @a6 @U))))))))))))))))
   repeat' ((first
    |(with_reducible refine .guard (fun hb =>?_) (fun hb =>?_) <;>try simp only[hb])
    |refine ab.aO (by decide +kernel) rfl fun K hK =>?_
    |refine .flat _ (hcmp) rfl ?_
    |(refine .aI [0,1,2,3,4,10,11,12,13,14,15,16,17,18,19,20,21,22,23,24,28,33,50,58,80,85,103,110,140,151,171,185,199,213] hK ?_;clear hK K)
    |(with_reducible refine .done (hK _ ?_);clear hK K)
    |refine ab.of rfl ?_
    |(with_reducible refine ar.aL (fun h =>?_) (fun h =>?_) <;>try simp only[h])) <;>try simp only[aQ,R,List.cons_append,Nat.reduceEqDiff,reduceIte,Nat.reduceBEq])
   all_goals clear R
   refine ⟨(i,c),⟨by simp only;omega,by simp only;omega,g3,fun k hk hk2 =>?_⟩,by simp only;omega,?_⟩
   ·simp only at hk
    exact qq hsl (i:=c) (by omega) hk2 hd1
   ·refine aD.da ?_ (fun n=>rfl)
    simp[aV,aY]
  |false =>
   have hd1:dM el (l.getD c 0) x:=tK (hlx _ hrc) (by have:=of_decide_eq_false hdc;omega)
   have R:=And.intro @hc (And.intro @w1 (And.intro @w2 (And.intro @w3 (And.intro @w4 (And.intro @w5 (And.intro @w6 (And.intro @nP (And.intro @nO (And.intro @v1 (And.intro @v2 (And.intro @l1 (And.intro @l2 (And.intro @hdc (And.intro @dp (And.intro @dV (And.intro @a6 @U))))))))))))))))
   repeat' ((first
    |(with_reducible refine .guard (fun hb =>?_) (fun hb =>?_) <;>try simp only[hb])
    |refine ab.aO (by decide +kernel) rfl fun K hK =>?_
    |refine .flat _ (hcmp) rfl ?_
    |(refine .aI [0,1,2,3,4,10,11,12,13,14,15,16,17,18,19,20,21,22,23,24,28,33,50,58,80,85,103,110,140,151,171,185,199,213] hK ?_;clear hK K)
    |(with_reducible refine .done (hK _ ?_);clear hK K)
    |refine ab.of rfl ?_
    |(with_reducible refine ar.aL (fun h =>?_) (fun h =>?_) <;>try simp only[h])) <;>try simp only[aQ,R,List.cons_append,Nat.reduceEqDiff,reduceIte,Nat.reduceBEq])
   all_goals clear R
   refine ⟨(c+1,j),⟨by simp only;omega,g2,fun k hk =>?_,g4⟩,by simp only;omega,?_⟩
   ·simp only at hk
    exact qt hsl (j:=c) (by omega) (by omega) hd1
   ·refine aD.da ?_ (fun n=>rfl)
    simp[aV,aY];omega
 ·have hc:decide (((a+i:Nat):Int)<((a+j:Nat):Int))=false:=by simp;omega
  have he:j=i:=by omega
  subst he
  refine ab.seq (ab.seq ?_)
  refine .bl (by decide +kernel) fun K hK =>?_
  simp only[HJ,U,Nat.reduceEqDiff,reduceIte]
  try simp only[hc]
  refine .done (hK _ ?_);clear hK K;try simp only[aq]
  refine ab.bC ?_
  simp only[ar,U,Nat.reduceEqDiff,reduceIte]
  refine ⟨fun h =>?_,fun h =>?_⟩
  ·cases h
  refine ab.exit ?_;try simp only[aq,bN,reduceIte]
  refine ab.seq (ab.seq ?_)
  refine .bl (by decide +kernel) fun K hK =>?_
  simp only[HL,U,Nat.reduceEqDiff,reduceIte]
  refine .done (hK _ ?_);clear hK K;try simp only[aq]
  have hi0:=ahJ p l q x
  rw[hws,←hi0]
  refine ab.block (ab.loop (fun k:Nat=>av [(0,.view 1000000 [] 1 0 n),(14,.int .i64 ((a+j:Nat):Int)),(17,.int .i64 ((a+k:Nat):Int))] (cB 1000000 (ed p l q x k))) (fun k=>j≤k∧k≤l.length) (fun k=>k-j) l.length ⟨g2,Nat.le_refl _⟩ ?_ (fun k hk =>?_))
  ·rw[hm]
   refine aD.da ?_ (fun n=>rfl)
   simp[aV,aY]
  have hil:(ed p l q x k).length=p.length+l.length+1+q.length:=xS (by omega)
  by_cases hkj:j<k
  ·have hc2:decide (((a+j:Nat):Int)<((a+k:Nat):Int))=true:=by simp;omega
   obtain ⟨k',rfl⟩:∃ k',k=k'+1:=⟨k-1,by omega⟩
   have hstep:=Kp (p:=p) (t:=l) (rest:=q) (x:=x) (c:=k') ha (by omega)
   generalize ed p l q x (k'+1)=ws at hil hstep ⊢
   obtain ⟨i1,hi1e⟩:∃ i1,i1=a+(k'+1):=⟨_,rfl⟩
   obtain ⟨j1,hj1e⟩:∃ j1,j1=a+k':=⟨_,rfl⟩
   have hij:a+k'+1=i1:=by omega
   rw[hij,←hj1e] at hstep
   have wk:IntKind.i64.wrap ((i1:Int)-1)=(j1:Int):=by rw[cA _ (by omega) (by omega)];omega
   rw[←hi1e] at hc2 ⊢
   have hi1:i1<n:=by omega
   have hj1:j1<n:=by omega
   simp only[cB]
   have v1:=jA (n:=n) (i:=i1) hi1
   have v2:=jA (n:=n) (i:=j1) hj1
   have l1:=gZ (xs:=ws) (i:=i1) (by omega)
   have l2:=gZ (xs:=ws) (i:=j1) (by omega)
   have s1:=fun (A:af) v u rest=>n9 (A:=A) (n:=1000000) (xs:=ws) (i:=i1) (by omega) v u rest
   obtain ⟨ws2,hws2⟩:∃ ws2,ws2=ws.set i1 (ws.getD j1 0):=⟨_,rfl⟩
   have hw2l:ws2.length=ws.length:=by rw[hws2];simp
   have s2:=fun (A:af) v u rest=>n9 (A:=A) (n:=1000000) (xs:=ws2) (i:=j1) (by omega) v u rest
   have l3:=gZ (xs:=ws2) (i:=j1) (by omega)
   have R:=And.intro @hc2 (And.intro @wk (And.intro @v1 (And.intro @v2 (And.intro @l1 (And.intro @l2 (And.intro @l3 (And.intro @s1 (And.intro @s2 (And.intro @dp (And.intro @a6 @U))))))))))
   repeat' ((first
    |(with_reducible refine .guard (fun hb =>?_) (fun hb =>?_) <;>try simp only[hb])
    |refine ab.aO (by decide +kernel) rfl fun K hK =>?_
    |(refine .aI [0,1,2,3,4,10,11,12,13,14,15,16,17,18,19,20,21,22,23,24,28,33,50,58,80,85,103,110,140,151,171,185,199,213] hK ?_;clear hK K)
    |(with_reducible refine .done (hK _ ?_);clear hK K)
    |refine ab.of rfl ?_
    |(with_reducible refine ar.aL (fun h =>?_) (fun h =>?_) <;>try simp only[h])) <;>try simp only[aQ,R,←hws2,Nat.reduceEqDiff,reduceIte,Nat.reduceBEq])
   all_goals clear R
   refine ⟨k',by omega,by omega,?_⟩
   rw[←hstep]
   simp only[kH,←hws2,←hj1e]
   refine aD.da ?_ (fun n =>?_)
   ·simp[aV,aY]
   ·simp only[al];split <;>rfl
  ·have hc2:decide (((a+j:Nat):Int)<((a+k:Nat):Int))=false:=by simp;omega
   have hk2:k=j:=by omega
   subst hk2
   have R:=And.intro @hc2 (And.intro @a6 (And.intro @eY @U))
   repeat' ((first
    |(with_reducible refine .guard (fun hb =>?_) (fun hb =>?_) <;>try simp only[hb])
    |refine ab.aO (by decide +kernel) rfl fun K hK =>?_
    |(refine .aI [0,1,2,3,4,10,11,12,13,14,15,16,17,18,19,20,21,22,23,24,28,33,50,58,80,85,103,110,140,151,171,185,199,213] hK ?_;clear hK K)
    |(with_reducible refine .done (hK _ ?_);clear hK K)
    |refine ab.of rfl ?_
    |(with_reducible refine ar.aL (fun h =>?_) (fun h =>?_) <;>try simp only[h])) <;>try simp only[aQ,R,Nat.reduceEqDiff,reduceIte,Nat.reduceBEq])
   all_goals clear R
   refine nV rfl rfl ⟨rfl,l.take k++x::l.drop k,?_,?_,?_⟩
   ·refine List.perm_middle.trans ?_
    rw[List.take_append_drop];exact List.perm_append_comm (l₁:=[x])
   ·refine zD hsl (fun y hy =>?_) (fun y hy =>?_)
    ·obtain ⟨i,h1,h2,rfl⟩:=tP hy;exact g3 i h1
    ·obtain ⟨i,h1,h2,rfl⟩:=pZ hy;exact g4 i h1 h2
   ·rfl
theorem Qe(el:List ak)(hd:mB el)(hel:el.length≤60)(N:Nat)(ih:∀ (p l r q:List Int) (a m b n:Nat),l.length+r.length≤N→0<l.length→0<r.length→p.length=a→a+l.length=m→m+r.length=b→b≤n→n≤(p++l++r++q).length→n≤1000→di el l→di el r→(∀ x∈l,∀ y∈r,x<y)→(∀ x∈l++r,jz el x) →
  cF Tryz.prog 204 [.view 1000000 [] 1 0 n,enc (a:Int),enc (m:Int),enc (b:Int),.func 138 [.ref (enc el)]] (cB 1000000 (p++l++r++q)) (nf el p (l++r) q)) (p l r q:List Int) (a m b n:Nat) (hl0:0<l.length) (hr0:0<r.length) (ha:p.length=a) (hm:a+l.length=m) (hb:m+r.length=b) (hn:b≤n) (hnl:n≤(p++l++r++q).length) (hn1:n≤1000) (hsl:di el l) (hsr:di el r) (hlr:∀ x∈l,∀ y∈r,x<y) (hin:∀ x∈l++r,jz el x) (hN:l.length+r.length≤N+1) (hl1:¬ l.length=1) (hr1:¬ r.length=1) :
  cF Tryz.prog 204 [.view 1000000 [] 1 0 n,enc (a:Int),enc (m:Int),enc (b:Int),.func 138 [.ref (enc el)]] (cB 1000000 (p++l++r++q)) (nf el p (l++r) q):=by
 have hlen:(p++l++r++q).length=p.length+l.length+r.length+q.length:=by simp only[List.length_append]
 have nA:=fun i (hi:i<l.length)=>xA (p:=p) (l:=l) (r:=r) (q:=q) (i:=i) ha hi
 have gr:=fun i (hi:i<r.length)=>xB (p:=p) (l:=l) (r:=r) (q:=q) (m:=m) (i:=i) (by omega) hi
 have ml:=fun i (hi:i<l.length)=>(show l.getD i 0∈l by rw[List.getD_eq_getElem?_getD,List.getElem?_eq_getElem hi];exact List.getElem_mem _)
 have mr:=fun i (hi:i<r.length)=>(show r.getD i 0∈r by rw[List.getD_eq_getElem?_getD,List.getElem?_eq_getElem hi];exact List.getElem_mem _)
 refine cF.bA Tryz.func204 vF vI vU (Nat.le_of_ble_eq_true rfl) (Nat.le_of_ble_eq_true rfl) nY (fun hwf W0 D0 E1 =>?_)
 simp only[sK,uv,bp,Nat.zero_add,Nat.reduceAdd]
 clear hwf
 have fj:=iT (x:=m) (y:=a) (by omega) (by omega)
 refine ab.seq (ab.seq ?_)
 have h1:(((m-a:Nat):Int)==1)=false:=by simp;omega
 obtain ⟨ws,hws⟩:∃ ws,ws=p++l++r++q:=⟨_,rfl⟩
 rw[←hws] at hnl hlen gr nA ⊢
 have w0b:=iT (x:=b) (y:=m) (by omega) (by omega)
 refine .bl (by decide +kernel) fun K hK =>?_
 simp only[tj,U,Nat.reduceEqDiff,reduceIte]
 try simp only[fj,h1]
 refine .done (hK _ ?_);clear hK K;try simp only[aq]
 refine ab.bC ?_
 try simp only[ar,U,Nat.reduceEqDiff,reduceIte]
 refine ⟨fun h =>?_,fun _ =>?_⟩
 ·simp at h
 refine ab.skip ?_;try simp only[aq]
 refine ab.seq (ab.seq ?_)
 have h2:(((b-m:Nat):Int)==1)=false:=by simp;omega
 refine .bl (by decide +kernel) fun K hK =>?_
 simp only[xj,U,Nat.reduceEqDiff,reduceIte]
 try simp only[w0b,h2]
 refine .done (hK _ ?_);clear hK K;try simp only[aq]
 refine ab.bC ?_
 try simp only[ar,U,Nat.reduceEqDiff,reduceIte]
 refine ⟨fun h =>?_,fun _ =>?_⟩
 ·simp at h
 refine ab.skip ?_;try simp only[aq]
 obtain ⟨k,hk⟩:∃ k,k=(l.length+r.length) / 2:=⟨_,rfl⟩
 have w1:=ke a b (by omega)
 have w2:=mM (x:=a+b) (by omega)
 have w3:(a+b) / 2=a+k:=by omega
 have w4:=mM (x:=a+k) (by omega)
 have w5:=sc (n:=a+k) (by omega)
 have w6:=ke (a+k) m (by omega)
 refine .ao (by decide +kernel) fun K hK =>?_
 simp only[HM,U,Nat.reduceEqDiff,reduceIte]
 try simp only[w1,w2,w3,w5,nP,nO,U,Nat.reduceEqDiff,reduceIte]
 refine .done (hK _ ?_);clear hK K
 refine .ao (by decide +kernel) fun K hK =>?_
 simp only[HN,U,Nat.reduceEqDiff,reduceIte]
 try simp only[w6]
 refine .done (hK _ ?_);clear hK K
 refine .ao (by decide +kernel) fun K hK =>?_
 simp only[HO,U]
 refine .done (hK _ ?_);clear hK K
 obtain ⟨lo,hi,q1,q2,q3,q4,q5,q6,q7⟩:∃ lo hi,(if a+k<m then lo+r.length=k∧hi=k else lo=0∧hi=l.length)∧lo≤hi∧hi≤l.length∧hi≤k∧k≤lo+r.length∧(lo=0∨lo+r.length=k)∧(hi=l.length∨hi=k):=by
  by_cases h:a+k<m
  ·exact ⟨k-r.length,k,by rw[if_pos h];omega,by omega,by omega,by omega,by omega,by omega,by omega⟩
  ·exact ⟨0,l.length,by rw[if_neg h];omega,by omega,by omega,by omega,by omega,by omega,by omega⟩
 refine ab.seq (ab.zO (av [(0,.view 1000000 [] 1 0 n),(1,.int .i64 a),(2,.int .i64 m),(3,.int .i64 b),(4,.func 138 [.ref (enc el)]),(18,.int .i64 ((a+k:Nat):Int)),(19,.int .i64 ((a+k+m:Nat):Int)),(20,.int .i64 ((a+lo:Nat):Int)),(21,.int .i64 ((a+hi:Nat):Int))] (cB 1000000 ws)) ?_ fun B hB=>ab.sub hB ?_)
 ·by_cases h:a+k<m
  ·rw[if_pos h] at q1
   have hc:decide (((a+k:Nat):Int)<(m:Int))=true:=by simp;omega
   have w7:=iT (x:=a+k+m) (y:=b) (by omega) (by omega)
   have e1:a+k+m-b=a+lo:=by omega
   have R:=And.intro @hc (And.intro @w7 (And.intro @e1 (And.intro @a6 @U)))
   repeat' ((first
    |(with_reducible refine .guard (fun hb =>?_) (fun hb =>?_) <;>try simp only[hb])
    |refine ab.aO (by decide +kernel) rfl fun K hK =>?_
    |(refine .aI [0,1,2,3,4,10,11,12,13,14,15,16,17,18,19,20,21,22,23,24,28,33,50,58,80,85,103,110,140,151,171,185,199,213] hK ?_;clear hK K)
    |(with_reducible refine .done (hK _ ?_);clear hK K)
    |refine ab.of rfl ?_
    |(with_reducible refine ar.aL (fun h =>?_) (fun h =>?_) <;>try simp only[h])) <;>try simp only[aQ,R,Nat.reduceEqDiff,reduceIte,Nat.reduceBEq])
   all_goals clear R
   rw[q1.2]
   refine aD.da ?_ (fun n=>rfl)
   simp[aV,aY]
  ·rw[if_neg h] at q1
   have hc:decide (((a+k:Nat):Int)<(m:Int))=false:=by simp;omega
   have R:=And.intro @hc (And.intro @a6 @U)
   repeat' ((first
    |(with_reducible refine .guard (fun hb =>?_) (fun hb =>?_) <;>try simp only[hb])
    |refine ab.aO (by decide +kernel) rfl fun K hK =>?_
    |(refine .aI [0,1,2,3,4,10,11,12,13,14,15,16,17,18,19,20,21,22,23,24,28,33,50,58,80,85,103,110,140,151,171,185,199,213] hK ?_;clear hK K)
    |(with_reducible refine .done (hK _ ?_);clear hK K)
    |refine ab.of rfl ?_
    |(with_reducible refine ar.aL (fun h =>?_) (fun h =>?_) <;>try simp only[h])) <;>try simp only[aQ,R,Nat.reduceEqDiff,reduceIte,Nat.reduceBEq])
   all_goals clear R
   rw[q1.2,q1.1,hm]
   refine aD.da ?_ (fun n=>rfl)
   simp[aV,aY]
 clear q1 w1 w2 w3 w4 w5 w6 hl1 hr1 fj w0b
 have hcrF:∀ i,lo≤i→i≤hi→(∀ j,lo≤j→j<i→dM el (l.getD j 0) (r.getD (k-1-j) 0))→(∀ j,i≤j→j<hi→dM el (r.getD (k-1-j) 0) (l.getD j 0))→sg el l r k i:=fun i a1 a2 a3 a4=>XK hsl hsr a1 a2 q6 q7 q3 q4 q5 a3 a4
 have hk2:2*k≤l.length+r.length:=by omega
 have hk3:1≤k:=by omega
 clear q6 q7 hk
 have w8:IntKind.i64.wrap (((a+k+m:Nat):Int)-1)=((a+k+m-1:Nat):Int):=by rw[cA _ (by omega) (by omega)];omega
 refine .ao (by decide +kernel) fun K hK =>?_
 simp only[HQ,U,Nat.reduceEqDiff,reduceIte]
 try simp only[w8]
 refine .done (hK _ ?_);clear hK K
 refine ab.seq (ab.block (ab.loop (fun s:Nat×Nat=>av [(0,.view 1000000 [] 1 0 n),(1,.int .i64 a),(2,.int .i64 m),(3,.int .i64 b),(4,.func 138 [.ref (enc el)]),(18,.int .i64 ((a+k:Nat):Int)),(19,.int .i64 ((a+k+m:Nat):Int)),(22,.int .i64 ((a+k+m-1:Nat):Int)),(20,.int .i64 ((a+s.1:Nat):Int)),(21,.int .i64 ((a+s.2:Nat):Int))] (cB 1000000 ws))
  (fun s=>lo≤s.1∧s.1≤s.2∧s.2≤hi∧(∀ j,lo≤j→j<s.1→dM el (l.getD j 0) (r.getD (k-1-j) 0))∧∀ j,s.2≤j→j<hi→dM el (r.getD (k-1-j) 0) (l.getD j 0)) (fun s=>s.2-s.1) (lo,hi) ⟨Nat.le_refl _,q2,Nat.le_refl _,fun j h1 h2=>by simp only at h2;omega,fun j h1 h2=>by simp only at h1;omega⟩ ?_ ?_))
 ·refine aD.da ?_ (fun n=>rfl)
  simp[aV,aY]
 rintro ⟨i,j⟩ ⟨fC,g1,g2,g3,g4⟩
 simp only at fC g1 g2 g3 g4 ⊢
 by_cases hij:i<j
 ·have hc:decide (((a+i:Nat):Int)<((a+j:Nat):Int))=true:=by simp;omega
  have w1:=ke (a+i) (a+j) (by omega)
  have w2:=mM (x:=a+i+(a+j)) (by omega)
  obtain ⟨c,hcd⟩:∃ c,c=(i+j) / 2:=⟨_,rfl⟩
  have hci:i≤c∧c<j:=by omega
  have w3:(a+i+(a+j)) / 2=a+c:=by omega
  have w4:=mM (x:=a+c) (by omega)
  have w5:=sc (n:=a+c) (by omega)
  have w6:=ft (i:=a+c) (by omega)
  have w9:=iT (x:=a+k+m-1) (y:=a+c) (by omega) (by omega)
  have e1:a+k+m-1-(a+c)=m+(k-1-c):=by omega
  have v1:=jA (n:=n) (i:=a+c) (by omega)
  have v2:=jA (n:=n) (i:=m+(k-1-c)) (by omega)
  have l1:=gZ (xs:=ws) (i:=a+c) (by omega)
  have l2:=gZ (xs:=ws) (i:=m+(k-1-c)) (by omega)
  rw[nA c (by omega)] at l1
  rw[gr (k-1-c) (by omega)] at l2
  have hlc:=ml c (by omega)
  have hrc:=mr (k-1-c) (by omega)
  have hcmp:=sj el hd hel (r.getD (k-1-c) 0) (l.getD c 0) (hin _ (by simp only[List.mem_append];exact .inr hrc)) (hin _ (by simp only[List.mem_append];exact .inl hlc))
  have hlt:=tL (l:=el) (hlr _ hlc _ hrc)
  simp only[cB]
  cases hdc:decide (gz el (r.getD (k-1-c) 0)-gz el (l.getD c 0)<0) with
  |true =>
   have hd1:dM el (r.getD (k-1-c) 0) (l.getD c 0):=hlt.2 (by have:=of_decide_eq_true hdc;omega)
   have R:=And.intro @hc (And.intro @w1 (And.intro @w2 (And.intro @w3 (And.intro @w4 (And.intro @w5 (And.intro @w6 (And.intro @w9 (And.intro @e1 (And.intro @nP (And.intro @nO (And.intro @v1 (And.intro @v2 (And.intro @l1 (And.intro @l2 (And.intro @hdc (And.intro @dp (And.intro @dV (And.intro @a6 @U))))))))))))))))))
   repeat' ((first
    |(with_reducible refine .guard (fun hb =>?_) (fun hb =>?_) <;>try simp only[hb])
    |refine ab.aO (by decide +kernel) rfl fun K hK =>?_
    |refine .flat _ (hcmp) rfl ?_
    |(refine .aI [0,1,2,3,4,10,11,12,13,14,15,16,17,18,19,20,21,22,23,24,28,33,50,58,80,85,103,110,140,151,171,185,199,213] hK ?_;clear hK K)
    |(with_reducible refine .done (hK _ ?_);clear hK K)
    |refine ab.of rfl ?_
    |(with_reducible refine ar.aL (fun h =>?_) (fun h =>?_) <;>try simp only[h])) <;>try simp only[aQ,R,List.cons_append,Nat.reduceEqDiff,reduceIte,Nat.reduceBEq])
   all_goals clear R
   refine ⟨(i,c),⟨fC,by simp only;omega,by simp only;omega,g3,fun t ht ht2 =>?_⟩,by simp only;omega,?_⟩
   ·simp only at ht
    exact qt hsr (j:=k-1-c) (by omega) (by omega) (qq hsl (i:=c) (by omega) (by omega) hd1)
   ·refine aD.da ?_ (fun n=>rfl)
    simp[aV,aY]
  |false =>
   have hd1:dM el (l.getD c 0) (r.getD (k-1-c) 0):=tK (hlr _ hlc _ hrc) (by have:=of_decide_eq_false hdc;omega)
   have R:=And.intro @hc (And.intro @w1 (And.intro @w2 (And.intro @w3 (And.intro @w4 (And.intro @w5 (And.intro @w6 (And.intro @w9 (And.intro @e1 (And.intro @nP (And.intro @nO (And.intro @v1 (And.intro @v2 (And.intro @l1 (And.intro @l2 (And.intro @hdc (And.intro @dp (And.intro @dV (And.intro @a6 @U))))))))))))))))))
   repeat' ((first
    |(with_reducible refine .guard (fun hb =>?_) (fun hb =>?_) <;>try simp only[hb])
    |refine ab.aO (by decide +kernel) rfl fun K hK =>?_
    |refine .flat _ (hcmp) rfl ?_
    |(refine .aI [0,1,2,3,4,10,11,12,13,14,15,16,17,18,19,20,21,22,23,24,28,33,50,58,80,85,103,110,140,151,171,185,199,213] hK ?_;clear hK K)
    |(with_reducible refine .done (hK _ ?_);clear hK K)
    |refine ab.of rfl ?_
    |(with_reducible refine ar.aL (fun h =>?_) (fun h =>?_) <;>try simp only[h])) <;>try simp only[aQ,R,List.cons_append,Nat.reduceEqDiff,reduceIte,Nat.reduceBEq])
   all_goals clear R
   refine ⟨(c+1,j),⟨by simp only;omega,by simp only;omega,g2,fun t ht ht2 =>?_,g4⟩,by simp only;omega,?_⟩
   ·simp only at ht2
    exact qt hsl (j:=c) (by omega) (by omega) (qq hsr (i:=k-1-c) (by omega) (by omega) hd1)
   ·refine aD.da ?_ (fun n=>rfl)
    simp[aV,aY];omega
 have hc:decide (((a+i:Nat):Int)<((a+j:Nat):Int))=false:=by simp;omega
 have he:j=i:=by omega
 subst he
 have hcr:sg el l r k j:=hcrF _ fC g2 g3 g4
 refine ab.seq (ab.seq ?_)
 refine .bl (by decide +kernel) fun K hK =>?_
 simp only[HR,U,Nat.reduceEqDiff,reduceIte]
 try simp only[hc]
 refine .done (hK _ ?_);clear hK K;try simp only[aq]
 refine ab.bC ?_
 simp only[ar,U,Nat.reduceEqDiff,reduceIte]
 refine ⟨fun h =>?_,fun h =>?_⟩
 ·cases h
 refine ab.exit ?_;try simp only[aq,bN,reduceIte]
 have w10:=iT (x:=a+k+m) (y:=a+j) (by omega) (by omega)
 have e2:a+k+m-(a+j)=m+(k-j):=by omega
 refine .ao (by decide +kernel) fun K hK =>?_
 simp only[HS,U,Nat.reduceEqDiff,reduceIte]
 try simp only[w10,e2]
 refine .done (hK _ ?_);clear hK K
 -- the four parts
 have hl12:l.take j++l.drop j=l:=List.take_append_drop _ _
 have hr12:r.take (k-j)++r.drop (k-j)=r:=List.take_append_drop _ _
 obtain ⟨l1,hl1e⟩:∃ l1,l1=l.take j:=⟨_,rfl⟩
 obtain ⟨l2,hl2e⟩:∃ l2,l2=l.drop j:=⟨_,rfl⟩
 obtain ⟨r1,hr1e⟩:∃ r1,r1=r.take (k-j):=⟨_,rfl⟩
 obtain ⟨dH,hr2e⟩:∃ dH,dH=r.drop (k-j):=⟨_,rfl⟩
 have ll1:l1.length=j:=by rw[hl1e,List.length_take];omega
 have ll2:l2.length=l.length-j:=by rw[hl2e,List.length_drop]
 have lr1:r1.length=k-j:=by rw[hr1e,List.length_take];omega
 have lr2:dH.length=r.length-(k-j):=by rw[hr2e,List.length_drop]
 have sl1:di el l1:=hl1e▸OK hsl _
 have sl2:di el l2:=hl2e▸OI hsl _
 have sr1:di el r1:=hr1e▸OK hsr _
 have sr2:di el dH:=hr2e▸OI hsr _
 have ml1:∀ x∈l1,x∈l:=fun x hx=>List.mem_of_mem_take (hl1e▸hx)
 have ml2:∀ x∈l2,x∈l:=fun x hx=>List.mem_of_mem_drop (hl2e▸hx)
 have mr1:∀ x∈r1,x∈r:=fun x hx=>List.mem_of_mem_take (hr1e▸hx)
 have mr2:∀ x∈dH,x∈r:=fun x hx=>List.mem_of_mem_drop (hr2e▸hx)
 rw[←hl1e,←hl2e] at hl12
 rw[←hr1e,←hr2e] at hr12
 have hws4:ws=(p++l1)++l2++r1++(dH++q):=by rw[hws,←hl12,←hr12];simp only[List.append_assoc]
 have e3:((a+j:Nat):Int)<m↔j<l.length:=by omega
 -- the parts change places
 refine ab.seq (ab.zO (av [(0,.view 1000000 [] 1 0 n),(1,.int .i64 a),(3,.int .i64 b),(4,.func 138 [.ref (enc el)]),(18,.int .i64 ((a+k:Nat):Int)),(20,.int .i64 ((a+j:Nat):Int)),(24,.int .i64 ((m+(k-j):Nat):Int))] (cB 1000000 (p++l1++r1++(l2++dH++q)))) ?_ fun B hB=>ab.sub hB ?_)
 ·by_cases h1:j<l.length
  ·have hc1:decide (((a+j:Nat):Int)<(m:Int))=true:=by simp;omega
   by_cases h2:j<k
   ·have hc2:decide ((m:Int)<((m+(k-j):Nat):Int))=true:=by simp;omega
    have hrot:=Qi (p++l1) l2 r1 (dH++q) (a+j) m (m+(k-j)) n 138 [.ref (enc el)] (by simp[I.bX,I.bB,dV]) (by rw[List.length_append];omega) (by omega) (by omega) (by omega) (by omega) (by omega) hn1
    rw[←hws4] at hrot
    have R:=And.intro @hc1 (And.intro @hc2 (And.intro @a6 @U))
    repeat' ((first
     |(with_reducible refine .guard (fun hb =>?_) (fun hb =>?_) <;>try simp only[hb])
     |refine ab.aO (by decide +kernel) rfl fun K hK =>?_
     |(refine .aI [0,1,2,3,4,10,11,12,13,14,15,16,17,18,19,20,21,22,23,24,28,33,50,58,80,85,103,110,140,151,171,185,199,213] hK ?_;clear hK K)
     |(with_reducible refine .done (hK _ ?_);clear hK K)
     |refine ab.of rfl ?_
     |(with_reducible refine ar.aL (fun h =>?_) (fun h =>?_) <;>try simp only[h])) <;>try simp only[aQ,R,Nat.reduceEqDiff,reduceIte,Nat.reduceBEq])
    all_goals clear R
    refine a8.lj hrot (kM _ n 138 [.ref (enc el)] (by simp[I.bX,I.bB,dV]) [_,_,_]) ?_
    rintro fh os' ⟨rfl,rfl⟩
    refine ⟨_,rfl,rfl,?_⟩
    try simp only[U]
    refine .done (hK _ ?_);clear hK K
    have e5:p++l1++r1++l2++(dH++q)=p++l1++r1++(l2++dH++q):=by simp only[List.append_assoc]
    rw[e5]
    refine aD.da ?_ (fun n=>rfl)
    simp[aV,aY]
   ·have hc2:decide ((m:Int)<((m+(k-j):Nat):Int))=false:=by simp;omega
    have hn0:r1=[]:=List.length_eq_zero_iff.1 (by omega)
    have e5:ws=p++l1++r1++(l2++dH++q):=by rw[hws4,hn0];simp only[List.append_assoc,List.append_nil]
    rw[e5]
    have R:=And.intro @hc1 (And.intro @hc2 (And.intro @a6 @U))
    repeat' ((first
     |(with_reducible refine .guard (fun hb =>?_) (fun hb =>?_) <;>try simp only[hb])
     |refine ab.aO (by decide +kernel) rfl fun K hK =>?_
     |(refine .aI [0,1,2,3,4,10,11,12,13,14,15,16,17,18,19,20,21,22,23,24,28,33,50,58,80,85,103,110,140,151,171,185,199,213] hK ?_;clear hK K)
     |(with_reducible refine .done (hK _ ?_);clear hK K)
     |refine ab.of rfl ?_
     |(with_reducible refine ar.aL (fun h =>?_) (fun h =>?_) <;>try simp only[h])) <;>try simp only[aQ,R,Nat.reduceEqDiff,reduceIte,Nat.reduceBEq])
    all_goals clear R
    refine aD.da ?_ (fun n=>rfl)
    simp[aV,aY]
  ·have hc1:decide (((a+j:Nat):Int)<(m:Int))=false:=by simp;omega
   have hn0:l2=[]:=List.length_eq_zero_iff.1 (by omega)
   have e5:ws=p++l1++r1++(l2++dH++q):=by rw[hws4,hn0];simp only[List.append_assoc,List.append_nil,List.nil_append]
   rw[e5]
   have R:=And.intro @hc1 (And.intro @a6 @U)
   repeat' ((first
    |(with_reducible refine .guard (fun hb =>?_) (fun hb =>?_) <;>try simp only[hb])
    |refine ab.aO (by decide +kernel) rfl fun K hK =>?_
    |(refine .aI [0,1,2,3,4,10,11,12,13,14,15,16,17,18,19,20,21,22,23,24,28,33,50,58,80,85,103,110,140,151,171,185,199,213] hK ?_;clear hK K)
    |(with_reducible refine .done (hK _ ?_);clear hK K)
    |refine ab.of rfl ?_
    |(with_reducible refine ar.aL (fun h =>?_) (fun h =>?_) <;>try simp only[h])) <;>try simp only[aQ,R,Nat.reduceEqDiff,reduceIte,Nat.reduceBEq])
   all_goals clear R
   refine aD.da ?_ (fun n=>rfl)
   simp[aV,aY]
 -- the lower half
 refine ab.seq (ab.al1 (fun s1:List Int=>av [(0,.view 1000000 [] 1 0 n),(3,.int .i64 b),(4,.func 138 [.ref (enc el)]),(18,.int .i64 ((a+k:Nat):Int)),(24,.int .i64 ((m+(k-j):Nat):Int))] (cB 1000000 (p++s1++l2++dH++q))) (fun s1=>s1.Perm (l1++r1)∧di el s1) ?_ fun s1 B hC hB=>ab.sub hB ?_)
 ·by_cases h1:0<j
  ·have hc1:decide ((a:Int)<((a+j:Nat):Int))=true:=by simp;omega
   by_cases h2:j<k
   ·have hc2:decide (((a+j:Nat):Int)<((a+k:Nat):Int))=true:=by simp;omega
    have hrec:=ih p l1 r1 (l2++dH++q) a (a+j) (a+k) n (by omega) (by omega) (by omega) ha (by omega) (by omega) (by omega) (by simp only[List.length_append];omega) hn1 sl1 sr1 (fun x hx y hy=>hlr x (ml1 x hx) y (mr1 y hy)) (fun x hx=>hin x (by
     rcases List.mem_append.1 hx with h | h
     ·exact List.mem_append.2 (.inl (ml1 x h))
     ·exact List.mem_append.2 (.inr (mr1 x h))))
    have R:=And.intro @hc1 (And.intro @hc2 (And.intro @a6 @U))
    repeat' ((first
     |(with_reducible refine .guard (fun hb =>?_) (fun hb =>?_) <;>try simp only[hb])
     |refine ab.aO (by decide +kernel) rfl fun K hK =>?_
     |(refine .aI [0,1,2,3,4,10,11,12,13,14,15,16,17,18,19,20,21,22,23,24,28,33,50,58,80,85,103,110,140,151,171,185,199,213] hK ?_;clear hK K)
     |(with_reducible refine .done (hK _ ?_);clear hK K)
     |refine ab.of rfl ?_
     |(with_reducible refine ar.aL (fun h =>?_) (fun h =>?_) <;>try simp only[h])) <;>try simp only[aQ,R,Nat.reduceEqDiff,reduceIte,Nat.reduceBEq])
    all_goals clear R
    refine a8.lj hrec (kM _ n 138 [.ref (enc el)] (by simp[I.bX,I.bB,dV]) [_,_,_]) ?_
    rintro fh os' ⟨rfl,s1,k1,k2,rfl⟩
    refine ⟨_,rfl,rfl,?_⟩
    try simp only[U]
    refine .done (hK _ ?_);clear hK K
    refine ⟨s1,⟨k1,k2⟩,?_⟩
    have e5:p++s1++(l2++dH++q)=p++s1++l2++dH++q:=by simp only[List.append_assoc]
    rw[e5]
    refine aD.da ?_ (fun n=>rfl)
    simp[aV,aY]
   ·have hc2:decide (((a+j:Nat):Int)<((a+k:Nat):Int))=false:=by simp;omega
    have hn0:r1=[]:=List.length_eq_zero_iff.1 (by omega)
    have R:=And.intro @hc1 (And.intro @hc2 (And.intro @a6 @U))
    repeat' ((first
     |(with_reducible refine .guard (fun hb =>?_) (fun hb =>?_) <;>try simp only[hb])
     |refine ab.aO (by decide +kernel) rfl fun K hK =>?_
     |(refine .aI [0,1,2,3,4,10,11,12,13,14,15,16,17,18,19,20,21,22,23,24,28,33,50,58,80,85,103,110,140,151,171,185,199,213] hK ?_;clear hK K)
     |(with_reducible refine .done (hK _ ?_);clear hK K)
     |refine ab.of rfl ?_
     |(with_reducible refine ar.aL (fun h =>?_) (fun h =>?_) <;>try simp only[h])) <;>try simp only[aQ,R,Nat.reduceEqDiff,reduceIte,Nat.reduceBEq])
    all_goals clear R
    refine ⟨l1++r1,⟨.refl _,by rw[hn0,List.append_nil];exact sl1⟩,?_⟩
    have e5:p++l1++r1++(l2++dH++q)=p++(l1++r1)++l2++dH++q:=by simp only[List.append_assoc]
    rw[e5]
    refine aD.da ?_ (fun n=>rfl)
    simp[aV,aY]
  ·have hc1:decide ((a:Int)<((a+j:Nat):Int))=false:=by simp;omega
   have hn0:l1=[]:=List.length_eq_zero_iff.1 (by omega)
   have R:=And.intro @hc1 (And.intro @a6 @U)
   repeat' ((first
    |(with_reducible refine .guard (fun hb =>?_) (fun hb =>?_) <;>try simp only[hb])
    |refine ab.aO (by decide +kernel) rfl fun K hK =>?_
    |(refine .aI [0,1,2,3,4,10,11,12,13,14,15,16,17,18,19,20,21,22,23,24,28,33,50,58,80,85,103,110,140,151,171,185,199,213] hK ?_;clear hK K)
    |(with_reducible refine .done (hK _ ?_);clear hK K)
    |refine ab.of rfl ?_
    |(with_reducible refine ar.aL (fun h =>?_) (fun h =>?_) <;>try simp only[h])) <;>try simp only[aQ,R,Nat.reduceEqDiff,reduceIte,Nat.reduceBEq])
   all_goals clear R
   refine ⟨l1++r1,⟨.refl _,by rw[hn0,List.nil_append];exact sr1⟩,?_⟩
   have e5:p++l1++r1++(l2++dH++q)=p++(l1++r1)++l2++dH++q:=by simp only[List.append_assoc]
   rw[e5]
   refine aD.da ?_ (fun n=>rfl)
   simp[aV,aY]
 -- the upper half
 obtain ⟨k1,k2⟩:=hC
 have ls1:s1.length=k:=by rw[k1.length_eq,List.length_append];omega
 have done:∀ s2,s2.Perm (l2++dH)→di el s2→∀ ts ws',ws'=p++s1++s2++q→lz [] (nf el p (l++r) q) (av ts (cB 1000000 ws')):=fun s2 k3 k4 ts ws' he=>by
  obtain ⟨j1,j2⟩:=alu hcr (hl1e▸hr1e▸k1) (hl2e▸hr2e▸k3) k2 k4
  exact nV rfl (he.trans (by simp only[List.append_assoc])) ⟨rfl,s1++s2,j1,j2,rfl⟩
 by_cases h1:j<l.length
 ·have hc1:decide (((a+k:Nat):Int)<((m+(k-j):Nat):Int))=true:=by simp;omega
  by_cases h2:k-j<r.length
  ·have hc2:decide (((m+(k-j):Nat):Int)<(b:Int))=true:=by simp;omega
   have hrec:=ih (p++s1) l2 dH q (a+k) (m+(k-j)) b n (by omega) (by omega) (by omega) (by rw[List.length_append];omega) (by omega) (by omega) hn (by simp only[List.length_append];omega) hn1 sl2 sr2 (fun x hx y hy=>hlr x (ml2 x hx) y (mr2 y hy)) (fun x hx=>hin x (by
    rcases List.mem_append.1 hx with h | h
    ·exact List.mem_append.2 (.inl (ml2 x h))
    ·exact List.mem_append.2 (.inr (mr2 x h))))
   have R:=And.intro @hc1 (And.intro @hc2 (And.intro @a6 @U))
   repeat' ((first
    |(with_reducible refine .guard (fun hb =>?_) (fun hb =>?_) <;>try simp only[hb])
    |refine ab.aO (by decide +kernel) rfl fun K hK =>?_
    |(refine .aI [0,1,2,3,4,10,11,12,13,14,15,16,17,18,19,20,21,22,23,24,28,33,50,58,80,85,103,110,140,151,171,185,199,213] hK ?_;clear hK K)
    |(with_reducible refine .done (hK _ ?_);clear hK K)
    |refine ab.of rfl ?_
    |(with_reducible refine ar.aL (fun h =>?_) (fun h =>?_) <;>try simp only[h])) <;>try simp only[aQ,R,Nat.reduceEqDiff,reduceIte,Nat.reduceBEq])
   all_goals clear R
   refine a8.lj hrec (kM _ n 138 [.ref (enc el)] (by simp[I.bX,I.bB,dV]) [_,_,_]) ?_
   rintro fh os' ⟨rfl,s2,k3,k4,rfl⟩
   refine ⟨_,rfl,rfl,?_⟩
   try simp only[U]
   refine .done (hK _ ?_)
   clear hK K
   rw[mb]
   exact done s2 k3 k4 _ _ rfl
  ·have hc2:decide (((m+(k-j):Nat):Int)<(b:Int))=false:=by simp;omega
   have hn0:dH=[]:=List.length_eq_zero_iff.1 (by omega)
   have R:=And.intro @hc1 (And.intro @hc2 (And.intro @a6 @U))
   repeat' ((first
    |(with_reducible refine .guard (fun hb =>?_) (fun hb =>?_) <;>try simp only[hb])
    |refine ab.aO (by decide +kernel) rfl fun K hK =>?_
    |(refine .aI [0,1,2,3,4,10,11,12,13,14,15,16,17,18,19,20,21,22,23,24,28,33,50,58,80,85,103,110,140,151,171,185,199,213] hK ?_;clear hK K)
    |(with_reducible refine .done (hK _ ?_);clear hK K)
    |refine ab.of rfl ?_
    |(with_reducible refine ar.aL (fun h =>?_) (fun h =>?_) <;>try simp only[h])) <;>try simp only[aQ,R,Nat.reduceEqDiff,reduceIte,Nat.reduceBEq])
   all_goals clear R
   rw[mb]
   exact done (l2++dH) (.refl _) (by rw[hn0,List.append_nil];exact sl2) _ (p++s1++l2++dH++q) (by simp only[List.append_assoc])
 ·have hc1:decide (((a+k:Nat):Int)<((m+(k-j):Nat):Int))=false:=by simp;omega
  have hn0:l2=[]:=List.length_eq_zero_iff.1 (by omega)
  have R:=And.intro @hc1 (And.intro @a6 @U)
  repeat' ((first
   |(with_reducible refine .guard (fun hb =>?_) (fun hb =>?_) <;>try simp only[hb])
   |refine ab.aO (by decide +kernel) rfl fun K hK =>?_
   |(refine .aI [0,1,2,3,4,10,11,12,13,14,15,16,17,18,19,20,21,22,23,24,28,33,50,58,80,85,103,110,140,151,171,185,199,213] hK ?_;clear hK K)
   |(with_reducible refine .done (hK _ ?_);clear hK K)
   |refine ab.of rfl ?_
   |(with_reducible refine ar.aL (fun h =>?_) (fun h =>?_) <;>try simp only[h])) <;>try simp only[aQ,R,Nat.reduceEqDiff,reduceIte,Nat.reduceBEq])
  all_goals clear R
  rw[mb]
  exact done (l2++dH) (.refl _) (by rw[hn0,List.nil_append];exact sr2) _ (p++s1++l2++dH++q) (by simp only[List.append_assoc])
theorem Ai(el:List ak)(hd:mB el)(hel:el.length≤60):∀ (N:Nat) (p l r q:List Int) (a m b n:Nat),l.length+r.length≤N→0<l.length→0<r.length→p.length=a→a+l.length=m→m+r.length=b→b≤n→n≤(p++l++r++q).length→n≤1000→di el l→di el r→(∀ x∈l,∀ y∈r,x<y)→(∀ x∈l++r,jz el x) →
  cF Tryz.prog 204 [.view 1000000 [] 1 0 n,enc (a:Int),enc (m:Int),enc (b:Int),.func 138 [.ref (enc el)]] (cB 1000000 (p++l++r++q)) (nf el p (l++r) q):=by
 intro N
 induction N with
 |zero=>intro p l r q a m b n h1 h2;omega
 |succ N ih =>
  intro p l r q a m b n hN hl0 hr0 ha hm hb hn hnl hn1 hsl hsr hlr hin
  by_cases hl1:l.length=1
  ·exact Qc el hd hel p l r q a m b n hl0 hr0 ha hm hb hn hnl hn1 hsl hsr hlr hin hl1
  by_cases hr1:r.length=1
  ·exact Qd el hd hel p l r q a m b n hl0 hr0 ha hm hb hn hnl hn1 hsl hsr hlr hin hl1 hr1
  ·exact Qe el hd hel N ih p l r q a m b n hl0 hr0 ha hm hb hn hnl hn1 hsl hsr hlr hin hN hl1 hr1
def dE(ws:List Int)(bs t:Nat):List Int:=(ws.drop (t*bs)).take bs
theorem C2(ws:List Int)(bs u:Nat):dE ws (2*bs) u=dE ws bs (2*u)++dE ws bs (2*u+1):=by
 simp only[dE]
 rw[show 2*bs=bs+bs by omega,List.take_add,List.drop_drop]
 have e1:u*(bs+bs)=2*u*bs:=by rw[Nat.mul_add,show 2*u=u+u by omega,Nat.add_mul]
 have e2:2*u*bs+bs=(2*u+1)*bs:=by rw[Nat.add_mul];omega
 rw[e1,e2]
def mu(el:List ak)(bs:Nat)(o d:List Int):Prop:=o.length=d.length∧∀ t,(dE d bs t).Perm (dE o bs t)∧di el (dE d bs t)
theorem Aw(el:List ak)(bs:Nat):mu el bs [] []:=⟨rfl,fun t=>by simp[dE,di]⟩
theorem C1{o b:List Int}{bs t t':Nat}(ho:o.length=t*bs)(hb:b.length≤bs):dE (o++b) bs t'=if t'<t then dE o bs t' else if t'=t then b else []:=by
 simp only[dE]
 by_cases h1:t'<t
 ·rw[if_pos h1]
  have h2:(t'+1)*bs≤t*bs:=Nat.mul_le_mul_right _ h1
  rw[Nat.add_mul,Nat.one_mul] at h2
  rw[List.drop_append_of_le_length (by omega),List.take_append_of_le_length (by rw[List.length_drop];omega)]
 ·rw[if_neg h1]
  by_cases h2:t'=t
  ·subst h2
   rw[if_pos rfl,←ho,List.drop_left,List.take_of_length_le hb]
  ·rw[if_neg h2]
   have h3:(t+1)*bs≤t'*bs:=Nat.mul_le_mul_right _ (by omega)
   rw[Nat.add_mul,Nat.one_mul] at h3
   rw[List.drop_eq_nil_of_le (by rw[List.length_append];omega)]
   exact List.take_nil
theorem sy{el:List ak}{bs t:Nat}{o d b b':List Int}(h:mu el bs o d)(ho:o.length=t*bs)(hp:b'.Perm b)(hs:di el b')(hl:b.length≤bs):mu el bs (o++b) (d++b'):=by
 refine ⟨by rw[List.length_append,List.length_append,h.1,hp.length_eq],fun t' =>?_⟩
 rw[C1 (by rw[←h.1];exact ho) (by rw[hp.length_eq];exact hl),C1 ho hl]
 split
 ·exact h.2 t'
 ·split
  ·exact ⟨hp,hs⟩
  ·exact ⟨.refl _,List.Pairwise.nil⟩
theorem QF{el:List ak}{bs:Nat}{o d:List Int}(h:mu el bs o d)(hn:o.length≤bs):d.Perm o∧di el d:=by
 have:=h.2 0
 simp only[dE,Nat.zero_mul,List.drop_zero] at this
 rw[List.take_of_length_le (by rw[←h.1];exact hn),List.take_of_length_le hn] at this
 exact this
theorem VD{xs:List Int}(hx:xs.Pairwise (· < ·))(bs u:Nat):∀ x∈dE xs bs (2*u),∀ y∈dE xs bs (2*u+1),x<y:=by
 have h:(dE xs (2*bs) u).Pairwise (· < ·):=(hx.sublist (List.drop_sublist _ _)).sublist (List.take_sublist _ _)
 rw[C2,List.pairwise_append] at h
 exact h.2.2
theorem vM{xs:List Int}{bs t:Nat}{x:Int}(h:x∈dE xs bs t):x∈xs:=List.mem_of_mem_drop (List.mem_of_mem_take h)
theorem O2(xs:List Int)(bs t:Nat):xs.take ((t+1)*bs)=xs.take (t*bs)++dE xs bs t:=by
 rw[Nat.add_mul,Nat.one_mul,List.take_add];rfl
theorem qQ(xs:List Int)(bs t:Nat):xs.drop (t*bs)=dE xs bs t++xs.drop ((t+1)*bs):=by
 simp only[dE]
 rw[Nat.add_mul,Nat.one_mul,←List.drop_drop,List.take_append_drop]
theorem qP{xs:List Int}{bs t:Nat}(h:(t+1)*bs≤xs.length):(dE xs bs t).length=bs:=by
 rw[Nat.add_mul,Nat.one_mul] at h
 simp only[dE,List.length_take,List.length_drop];omega
theorem al8{x:Nat}(h:x<1000000):IntKind.i64.wrap (2*(x:Int))=((2*x:Nat):Int):=by rw[cA _ (by omega) (by omega)];omega
theorem al9{x:Nat}(h:x<1000000):IntKind.i64.wrap ((x:Int)*2)=((2*x:Nat):Int):=by rw[cA _ (by omega) (by omega)];omega
theorem KE{i n:Nat}(h:i≤n):decide ((i:Int)≤(n:Int))=true:=by simp;omega
theorem La{i n:Nat}(h:¬ i≤n):decide ((i:Int)≤(n:Int))=false:=by simp;omega
structure QG where
 bs:Nat
 d:List Int
theorem PW(el:List ak)(hd:mB el)(hel:el.length≤60)(xs q:List Int)(hx:xs.Pairwise (· < ·))(hS:∀ x∈xs,jz el x)(hn:xs.length≤60) :
  cF Tryz.prog 171 [.view 1000000 [] 1 0 xs.length,enc (xs.length:Int),.func 138 [.ref (enc el)]] (cB 1000000 (xs++q)) (nf el [] xs q):=by
 refine cF.bA Tryz.func171 CP CX C9 (Nat.le_of_ble_eq_true rfl) (Nat.le_of_ble_eq_true rfl) nY (fun hwf W0 D0 E1 =>?_)
 simp only[vz,zb,bp,Nat.zero_add,Nat.reduceAdd]
 clear hwf
 have hcl:I.bX [.ref (enc el)]=true:=by simp[I.bX,I.bB,dV]
 refine .ao (by decide +kernel) fun K hK =>?_
 simp only[w0,U,simprocAttr]
 refine .done (hK _ ?_);clear hK K
 refine .ao (by decide +kernel) fun K hK =>?_
 simp only[xa,U,simprocAttr]
 refine .done (hK _ ?_);clear hK K
 -- blocks of twenty
 refine ab.seq (ab.block (ab.loop (fun s:Nat×List Int=>av [(0,.view 1000000 [] 1 0 xs.length),(1,.int .i64 xs.length),(2,.func 138 [.ref (enc el)]),(6,.int .i64 20),(7,.int .i64 ((s.1*20:Nat):Int)),(8,.int .i64 (((s.1+1)*20:Nat):Int))] (cB 1000000 (s.2++xs.drop (s.1*20)++q)))
  (fun s=>s.1*20≤xs.length∧mu el 20 (xs.take (s.1*20)) s.2) (fun s=>xs.length-s.1*20) (0,[]) ⟨Nat.zero_le _,Aw el 20⟩ ?_ ?_))
 ·refine aD.da ?_ (fun n=>rfl)
  simp[aV,aY]
 rintro ⟨t,d⟩ ⟨g1,g2⟩
 simp only at g1 g2 ⊢
 have ht:(xs.take (t*20)).length=t*20:=by rw[List.length_take];omega
 have hdl:d.length=t*20:=by rw[←g2.1,ht]
 by_cases hb:(t+1)*20≤xs.length
 ·have hc:=KE hb
  have w1:IntKind.i64.wrap ((((t+1)*20:Nat):Int)+20)=(((t+1+1)*20:Nat):Int):=by rw[cA _ (by omega) (by omega)];omega
  have hcl2:=qP hb
  have hins:=Ah el hd hel d (dE xs 20 t) (xs.drop ((t+1)*20)++q) (t*20) ((t+1)*20) xs.length hdl (by omega) hb (by simp only[List.length_append,List.length_drop];omega) (by omega) ((hx.sublist (List.drop_sublist _ _)).sublist (List.take_sublist _ _)) (fun x hx=>hS x (vM hx))
  have e1:d++dE xs 20 t++(xs.drop ((t+1)*20)++q)=d++xs.drop (t*20)++q:=by rw[qQ xs 20 t];simp only[List.append_assoc]
  rw[e1] at hins
  have R:=And.intro @hc (And.intro @a6 @U)
  repeat' ((first
   |(with_reducible refine .guard (fun hb =>?_) (fun hb =>?_) <;>try simp only[hb])
   |refine ab.aO (by decide +kernel) rfl fun K hK =>?_
   |(refine .aI [0,1,2,6,7,8,9,13,30,35,54] hK ?_;clear hK K)
   |(with_reducible refine .done (hK _ ?_);clear hK K)
   |refine ab.of rfl ?_
   |(with_reducible refine ar.aL (fun h =>?_) (fun h =>?_) <;>try simp only[h])) <;>try simp only[aQ,R,simprocAttr])
  all_goals clear R
  refine a8.lj hins (kM _ xs.length 138 [.ref (enc el)] hcl [_,_]) ?_
  rintro fh os' ⟨rfl,s',k1,k2,rfl⟩
  refine ⟨_,rfl,rfl,?_⟩
  try simp only[U,simprocAttr]
  refine .done (hK _ ?_);clear hK K
  have R:=And.intro @w1 (And.intro @a6 @U)
  repeat' ((first
   |(with_reducible refine .guard (fun hb =>?_) (fun hb =>?_) <;>try simp only[hb])
   |refine ab.aO (by decide +kernel) rfl fun K hK =>?_
   |(refine .aI [0,1,2,6,7,8,9,13,30,35,54] hK ?_;clear hK K)
   |(with_reducible refine .done (hK _ ?_);clear hK K)
   |refine ab.of rfl ?_
   |(with_reducible refine ar.aL (fun h =>?_) (fun h =>?_) <;>try simp only[h])) <;>try simp only[aQ,R,simprocAttr])
  all_goals clear R
  refine ⟨(t+1,d++s'),⟨hb,?_⟩,by simp only;omega,?_⟩
  ·simp only
   rw[O2]
   exact sy g2 ht k1 k2 (by omega)
  ·simp only[←List.append_assoc]
   refine aD.da ?_ (fun n=>rfl)
   simp[aV,aY]
 have hc:=La hb
 refine ab.seq (ab.seq ?_)
 refine .bl (by decide +kernel) fun K hK =>?_
 simp only[GR,U,simprocAttr]
 try simp only[hc,simprocAttr]
 refine .done (hK _ ?_);clear hK K;try simp only[aq]
 refine ab.bC ?_
 simp only[ar,U,simprocAttr]
 refine ⟨fun h =>?_,fun h =>?_⟩
 ·cases h
 refine ab.exit ?_;try simp only[aq,bN,simprocAttr]
 -- what is left
 have hins:=Ah el hd hel d (xs.drop (t*20)) q (t*20) xs.length xs.length hdl (by rw[List.length_drop];omega) (Nat.le_refl _) (by simp only[List.length_append,List.length_drop];omega) (by omega) (hx.sublist (List.drop_sublist _ _)) (fun x hx=>hS x (List.mem_of_mem_drop hx))
 refine .ao (by decide +kernel) fun K hK =>?_
 simp only[GS,U,simprocAttr]
 refine a8.lj hins (kM _ xs.length 138 [.ref (enc el)] hcl [_,_]) ?_
 rintro fh os' ⟨rfl,s',k1,k2,rfl⟩
 refine ⟨_,rfl,rfl,?_⟩
 try simp only[U,simprocAttr]
 refine .done (hK _ ?_);clear hK K
 have hSB:mu el 20 xs (d++s'):=by
  have:=sy g2 ht k1 k2 (by rw[List.length_drop];omega)
  rwa [List.take_append_drop] at this
 clear k1 k2 hins g2 ht hdl hb hc g1
 generalize d++s'=d0 at hSB ⊢
 -- blocks are merged
 refine ab.block (ab.loop (fun s:QG=>av [(0,.view 1000000 [] 1 0 xs.length),(1,.int .i64 xs.length),(2,.func 138 [.ref (enc el)]),(6,.int .i64 s.bs)] (cB 1000000 (s.d++q))) (fun s=>20≤s.bs∧s.bs≤120∧mu el s.bs xs s.d) (fun s=>200-s.bs) ⟨20,d0⟩ ⟨Nat.le_refl _,(by show 20≤120;omega),hSB⟩ ?_ ?_)
 ·refine aD.da ?_ (fun n=>rfl)
  simp[aV,aY]
 rintro ⟨bs,d1⟩ ⟨g1,g2,g3⟩
 simp only at g1 g2 g3 ⊢
 have hdl:=g3.1
 by_cases hb:bs<xs.length
 case neg =>
  have hc:=ib hb
  refine ab.seq (ab.seq ?_)
  refine .bl (by decide +kernel) fun K hK =>?_
  simp only[xb,U,simprocAttr]
  try simp only[hc,simprocAttr]
  refine .done (hK _ ?_);clear hK K;try simp only[aq]
  refine ab.bC ?_
  simp only[ar,U,simprocAttr]
  refine ⟨fun h =>?_,fun h =>?_⟩
  ·cases h
  refine ab.exit ?_;try simp only[aq,bN,simprocAttr]
  rw[mb]
  obtain ⟨k1,k2⟩:=QF g3 (by omega)
  exact nV rfl rfl ⟨rfl,d1,k1,k2,rfl⟩
 have hc:=gD hb
 have w1:=al8 (x:=bs) (by omega)
 refine ab.seq (ab.seq ?_)
 refine .bl (by decide +kernel) fun K hK =>?_
 simp only[xb,U,simprocAttr]
 try simp only[hc,simprocAttr]
 refine .done (hK _ ?_);clear hK K;try simp only[aq]
 refine ab.bC ?_
 simp only[ar,U,simprocAttr]
 refine ⟨fun h =>?_,fun h =>?_⟩
 rotate_left
 ·cases h
 refine ab.skip ?_;try simp only[aq,simprocAttr]
 refine ab.block (ab.seq ?_)
 refine .bl (by decide +kernel) fun K hK =>?_
 simp only[GU,U,simprocAttr]
 try simp only[w1,simprocAttr]
 refine .done (hK _ ?_);clear hK K;try simp only[aq]
 refine ab.seq (ab.block (ab.loop (fun s:Nat×List Int=>av [(0,.view 1000000 [] 1 0 xs.length),(1,.int .i64 xs.length),(2,.func 138 [.ref (enc el)]),(6,.int .i64 bs),(7,.int .i64 ((s.1*(2*bs):Nat):Int)),(8,.int .i64 (((s.1+1)*(2*bs):Nat):Int))] (cB 1000000 (s.2++d1.drop (s.1*(2*bs))++q)))
  (fun s=>s.1*(2*bs)≤xs.length∧mu el (2*bs) (xs.take (s.1*(2*bs))) s.2) (fun s=>xs.length-s.1*(2*bs)) (0,[]) ⟨by simp,by simp only[Nat.zero_mul,List.take_zero];exact Aw el _⟩ ?_ ?_))
 ·simp only[Nat.zero_mul,Nat.zero_add,Nat.one_mul,List.drop_zero,List.nil_append]
  refine aD.da ?_ (fun n=>rfl)
  simp[aV,aY]
 rintro ⟨u,e⟩ ⟨q1,q2⟩
 simp only at q1 q2 ⊢
 obtain ⟨A,hA⟩:∃ A,A=u*(2*bs):=⟨_,rfl⟩
 have hA1:(u+1)*(2*bs)=A+2*bs:=by rw[hA,Nat.add_mul];omega
 have hA2:2*u*bs=A:=by rw[hA,Nat.mul_comm 2 u,Nat.mul_assoc]
 have hA3:(2*u+1)*bs=A+bs:=by rw[Nat.add_mul,hA2];omega
 have hA4:(2*u+1+1)*bs=A+2*bs:=by rw[Nat.add_mul,hA3];omega
 have ht:(xs.take A).length=A:=by rw[List.length_take,hA];omega
 have hel2:e.length=A:=by rw[←q2.1,←hA,ht]
 obtain ⟨kl1,kl2⟩:=g3.2 (2*u)
 obtain ⟨kr1,kr2⟩:=g3.2 (2*u+1)
 have hlt2:=VD hx bs u
 have hd2:d1.drop A=dE d1 bs (2*u)++d1.drop (A+bs):=by
  have:=qQ d1 bs (2*u)
  rwa [hA2,hA3] at this
 have hd3:d1.drop (A+bs)=dE d1 bs (2*u+1)++d1.drop (A+2*bs):=by
  have:=qQ d1 bs (2*u+1)
  rwa [hA3,hA4] at this
 have hlr:∀ x∈dE d1 bs (2*u),∀ y∈dE d1 bs (2*u+1),x<y:=fun x h1 y h2=>hlt2 x (kl1.mem_iff.1 h1) y (kr1.mem_iff.1 h2)
 have hin:∀ x∈dE d1 bs (2*u)++dE d1 bs (2*u+1),jz el x:=fun x h1=>by
  rcases List.mem_append.1 h1 with h1 | h1
  ·exact hS x (vM (kl1.mem_iff.1 h1))
  ·exact hS x (vM (kr1.mem_iff.1 h1))
 rw[hA1]
 rw[←hA] at q1 q2 ⊢
 by_cases hb2:A+2*bs≤xs.length
 ·have hc2:=KE hb2
  have w2:=ke A bs (by omega)
  have w3:IntKind.i64.wrap (((A+2*bs:Nat):Int)+((2*bs:Nat):Int))=((A+2*bs+2*bs:Nat):Int):=ke _ _ (by omega)
  have ll:(dE d1 bs (2*u)).length=bs:=qP (by rw[hA3];omega)
  have lr:(dE d1 bs (2*u+1)).length=bs:=qP (by rw[hA4];omega)
  have hm:=Ai el hd hel _ e (dE d1 bs (2*u)) (dE d1 bs (2*u+1)) (d1.drop (A+2*bs)++q) A (A+bs) (A+2*bs) xs.length (Nat.le_refl _) (by omega) (by omega) hel2 (by omega) (by omega) hb2 (by simp only[List.length_append,List.length_drop];omega) (by omega) kl2 kr2 hlr hin
  have e1:e++dE d1 bs (2*u)++dE d1 bs (2*u+1)++(d1.drop (A+2*bs)++q)=e++d1.drop A++q:=by rw[hd2,hd3];simp only[List.append_assoc]
  rw[e1] at hm
  have R:=And.intro @hc2 (And.intro @w2 (And.intro @a6 @U))
  repeat' ((first
   |(with_reducible refine .guard (fun hb =>?_) (fun hb =>?_) <;>try simp only[hb])
   |refine ab.aO (by decide +kernel) rfl fun K hK =>?_
   |(refine .aI [0,1,2,6,7,8,9,13,30,35,54] hK ?_;clear hK K)
   |(with_reducible refine .done (hK _ ?_);clear hK K)
   |refine ab.of rfl ?_
   |(with_reducible refine ar.aL (fun h =>?_) (fun h =>?_) <;>try simp only[h])) <;>try simp only[aQ,R,simprocAttr])
  all_goals clear R
  refine a8.lj hm (kM _ xs.length 138 [.ref (enc el)] hcl [_,_,_]) ?_
  rintro fh os' ⟨rfl,s',k1,k2,rfl⟩
  refine ⟨_,rfl,rfl,?_⟩
  try simp only[U,simprocAttr]
  refine .done (hK _ ?_);clear hK K;try simp only[aq]
  have R:=And.intro @w1 (And.intro @w3 (And.intro @a6 @U))
  repeat' ((first
   |(with_reducible refine .guard (fun hb =>?_) (fun hb =>?_) <;>try simp only[hb])
   |refine ab.aO (by decide +kernel) rfl fun K hK =>?_
   |(refine .aI [0,1,2,6,7,8,9,13,30,35,54] hK ?_;clear hK K)
   |(with_reducible refine .done (hK _ ?_);clear hK K)
   |refine ab.of rfl ?_
   |(with_reducible refine ar.aL (fun h =>?_) (fun h =>?_) <;>try simp only[h])) <;>try simp only[aQ,R,simprocAttr])
  all_goals clear R
  refine ⟨(u+1,e++s'),⟨by simp only;omega,?_⟩,by simp only;omega,?_⟩
  ·simp only
   rw[O2,←hA]
   refine sy q2 (ht.trans hA) (k1.trans ?_) k2 (by rw[qP (by omega)];omega)
   rw[C2]
   exact kl1.append kr1
  ·have e2:(u+1+1)*(2*bs)=A+2*bs+2*bs:=by rw[Nat.add_mul,hA1];omega
   simp only[hA1,e2,←List.append_assoc]
   refine aD.da ?_ (fun n=>rfl)
   simp[aV,aY]
 have hc2:=La hb2
 refine ab.seq (ab.seq ?_)
 refine .bl (by decide +kernel) fun K hK =>?_
 simp only[GV,U,simprocAttr]
 try simp only[hc2,simprocAttr]
 refine .done (hK _ ?_);clear hK K;try simp only[aq]
 refine ab.bC ?_
 simp only[ar,U,simprocAttr]
 refine ⟨fun h =>?_,fun h =>?_⟩
 ·cases h
 refine ab.exit ?_;try simp only[aq,bN,simprocAttr]
 have w2:=ke A bs (by omega)
 have w4:=al9 (x:=bs) (by omega)
 have br:∀ s',s'.Perm (xs.drop A)→di el s'→mu el (2*bs) xs (e++s'):=fun s' k1 k2=>by
  have:=sy q2 (ht.trans hA) k1 k2 (by rw[List.length_drop];omega)
  rwa [List.take_append_drop] at this
 have hx1:xs.drop A=dE xs bs (2*u)++xs.drop (A+bs):=by
  have:=qQ xs bs (2*u)
  rwa [hA2,hA3] at this
 have hx2:xs.drop (A+bs)=dE xs bs (2*u+1)++xs.drop (A+2*bs):=by
  have:=qQ xs bs (2*u+1)
  rwa [hA3,hA4] at this
 by_cases hb3:A+bs<xs.length
 ·have hc3:=gD hb3
  have ll:(dE d1 bs (2*u)).length=bs:=qP (by rw[hA3];omega)
  have hdn:d1.drop (A+2*bs)=[]:=List.drop_eq_nil_of_le (by omega)
  have hxn:xs.drop (A+2*bs)=[]:=List.drop_eq_nil_of_le (by omega)
  have lr:(dE d1 bs (2*u+1)).length=xs.length-(A+bs):=by
   have:=congrArg List.length hd3
   rw[hdn,List.append_nil,List.length_drop] at this
   omega
  have hm:=Ai el hd hel _ e (dE d1 bs (2*u)) (dE d1 bs (2*u+1)) q A (A+bs) xs.length xs.length (Nat.le_refl _) (by omega) (by omega) hel2 (by omega) (by omega) (Nat.le_refl _) (by simp only[List.length_append];omega) (by omega) kl2 kr2 hlr hin
  have e1:e++dE d1 bs (2*u)++dE d1 bs (2*u+1)++q=e++d1.drop A++q:=by rw[hd2,hd3,hdn];simp only[List.append_assoc,List.append_nil]
  rw[e1] at hm
  have R:=And.intro @hc3 (And.intro @w2 (And.intro @a6 @U))
  repeat' ((first
   |(with_reducible refine .guard (fun hb =>?_) (fun hb =>?_) <;>try simp only[hb])
   |refine ab.aO (by decide +kernel) rfl fun K hK =>?_
   |(refine .aI [0,1,2,6,7,8,9,13,30,35,54] hK ?_;clear hK K)
   |(with_reducible refine .done (hK _ ?_);clear hK K)
   |refine ab.of rfl ?_
   |(with_reducible refine ar.aL (fun h =>?_) (fun h =>?_) <;>try simp only[h])) <;>try simp only[aQ,R,simprocAttr])
  all_goals clear R
  refine a8.lj hm (kM _ xs.length 138 [.ref (enc el)] hcl [_,_,_]) ?_
  rintro fh os' ⟨rfl,s',k1,k2,rfl⟩
  refine ⟨_,rfl,rfl,?_⟩
  try simp only[U,simprocAttr]
  refine .done (hK _ ?_);clear hK K;try simp only[aq]
  have R:=And.intro @w4 (And.intro @a6 @U)
  repeat' ((first
   |(with_reducible refine .guard (fun hb =>?_) (fun hb =>?_) <;>try simp only[hb])
   |refine ab.aO (by decide +kernel) rfl fun K hK =>?_
   |(refine .aI [0,1,2,6,7,8,9,13,30,35,54] hK ?_;clear hK K)
   |(with_reducible refine .done (hK _ ?_);clear hK K)
   |refine ab.of rfl ?_
   |(with_reducible refine ar.aL (fun h =>?_) (fun h =>?_) <;>try simp only[h])) <;>try simp only[aQ,R,simprocAttr])
  all_goals clear R
  refine ⟨⟨2*bs,e++s'⟩,⟨by simp only;omega,by simp only;omega,br s' (k1.trans ?_) k2⟩,by simp only;omega,?_⟩
  ·rw[hx1,hx2,hxn,List.append_nil]
   exact kl1.append kr1
  ·refine aD.da ?_ (fun n=>rfl)
   simp[aV,aY]
 ·have hc3:=ib hb3
  have hdn:d1.drop (A+bs)=[]:=List.drop_eq_nil_of_le (by omega)
  have hxn:xs.drop (A+bs)=[]:=List.drop_eq_nil_of_le (by omega)
  rw[hdn,List.append_nil] at hd2
  rw[hxn,List.append_nil] at hx1
  have R:=And.intro @hc3 (And.intro @w2 (And.intro @w4 (And.intro @a6 @U)))
  repeat' ((first
   |(with_reducible refine .guard (fun hb =>?_) (fun hb =>?_) <;>try simp only[hb])
   |refine ab.aO (by decide +kernel) rfl fun K hK =>?_
   |(refine .aI [0,1,2,6,7,8,9,13,30,35,54] hK ?_;clear hK K)
   |(with_reducible refine .done (hK _ ?_);clear hK K)
   |refine ab.of rfl ?_
   |(with_reducible refine ar.aL (fun h =>?_) (fun h =>?_) <;>try simp only[h])) <;>try simp only[aQ,R,simprocAttr])
  all_goals clear R
  refine ⟨⟨2*bs,e++d1.drop A⟩,⟨by simp only;omega,by simp only;omega,br _ (by rw[hd2,hx1];exact kl1) (by rw[hd2];exact kl2)⟩,by simp only;omega,?_⟩
  refine aD.da ?_ (fun n=>rfl)
  simp[aV,aY]
theorem PB(el:List ak)(hd:mB el)(hel:el.length≤60)(xs q:List Int)(hx:xs.Pairwise (· < ·))(hS:∀ x∈xs,jz el x)(hn:xs.length≤60) :
  cF Tryz.prog 137 [.view 1000000 [] 1 0 xs.length,.func 138 [.ref (enc el)]] (cB 1000000 (xs++q)) (nf el [] xs q):=by
 refine cF.bA Tryz.func137 CN CW C8 (Nat.le_of_ble_eq_true rfl) (Nat.le_of_ble_eq_true rfl) nY (fun hwf W0 D0 E1 =>?_)
 simp only[vy,za,bp,Nat.zero_add]
 clear hwf
 refine .bl (by decide +kernel) fun K hK =>?_
 simp only[Fq,U,simprocAttr]
 try simp only[dp,U,simprocAttr]
 refine a8.lj (PW el hd hel xs q hx hS hn) (kM _ xs.length 138 [.ref (enc el)] (by simp[I.bX,I.bB,dV]) [_]) ?_
 rintro fh os' ⟨rfl,s',k1,k2,rfl⟩
 refine ⟨_,rfl,rfl,?_⟩
 try simp only[U,simprocAttr]
 refine .done (hK _ ?_)
 clear hK K
 rw[mb]
 exact nV rfl rfl ⟨rfl,s',k1,k2,rfl⟩
def jn(l:List ak)(day:Int)(xs:List Int):List (Nat×ai):=[(1000008,.box (.own 1000080 xs.length)),(1000080,.cV 3 xs),(1000003,.box (enc l)),(1000004,.box (enc day))]
theorem alE(l:List ak)(day:Int)(xs ys:List Int):fA (jn l day xs) (jn l day ys):=by
 refine ⟨fun n=>by simp only[jn,au,al];(repeat' split) <;>rfl,fun n x h =>?_,fun n h =>?_⟩
 ·simp only[jn,al] at h
  repeat' split at h
  all_goals first | (cases h;done) | (simp only[Option.some.injEq] at h;subst h;exact ⟨by simp[jn,au,al,ai.only,bh,I.only],rfl⟩)
 ·simp only[jn,au,al] at h
  repeat' split at h
  all_goals first | omega | (simp at h;done)
def rq(l:List ak)(day:Int)(i:Nat):Bool:=decide ((ae l i).kind≠0)&&decide ((ae l i).day≤day)
def lM(l:List ak)(day known:Int)(k:Nat):List Nat:=((ir l known).take k).filter (rq l day)
theorem Y7{l:List ak}{day known:Int}{k:Nat}(hk:k<(ir l known).length):lM l day known (k+1)=lM l day known k++(if rq l day ((ir l known).getD k 0) then [(ir l known).getD k 0] else []):=by
 have e:(ir l known).getD k 0=(ir l known)[k]:=by rw[List.getD_eq_getElem?_getD,List.getElem?_eq_getElem hk];rfl
 simp only[lM]
 rw[List.take_succ_eq_append_getElem hk,List.filter_append,e]
 simp only[List.filter_cons,List.filter_nil]
theorem Y5(l:List ak)(day known:Int):lM l day known (ir l known).length=kj l day known:=by
 simp only[lM,List.take_length];rfl
theorem Y6(l:List ak)(day known:Int)(k:Nat):(lM l day known k).length≤l.length:=by
 have h1:=List.length_filter_le (rq l day) ((ir l known).take k)
 have h2:((ir l known).take k).length≤(ir l known).length:=by rw[List.length_take];omega
 have h3:(ir l known).length≤l.length:=by
  have:=List.length_filter_le (fun i=>(lq l known).getD i false) (List.range l.length)
  rwa [List.length_range] at this
 exact Nat.le_trans h1 (Nat.le_trans h2 h3)
theorem alD:(∀ (A:af) n b m k m' k' rest,dQ A none n [] b (.own m k) rest (some (.own m' k'))=az rest (A.aK n (.box (.own m k)))) :=
 fun _ _ _ m k m' k' _=>by rw[ev (s:=none) (v:=.own m k) (old:=.own m' k') rfl rfl rfl,gi]
theorem OY:(∀ n k,fN n k (.own n k)=.view n [] 1 0 k)∧(∀ n k m p,fN n k (.ptr m p)=.ptr m p)∧(∀ n k z,fN n k (.nils z)=.nils z)∧(∀ {α:Type} [Enc α] n k (x:α),fN n k (enc x)=enc x)∧(∀ n k i (x:Int),fN n k (.int i x)=.int i x)∧(∀ n k f xs,fN n k (.func f xs)=.func f xs)∧(∀ n k ks vs,fN n k (.cT ks vs)=.cT ks vs)∧(∀ n k b,fN n k (.bool b)=.bool b) ∧
  (∀ n,fM n (.own n 0)=.nils 1)∧(∀ n m p,fM n (.ptr m p)=.ptr m p)∧(∀ n z,fM n (.nils z)=.nils z)∧(∀ {α:Type} [Enc α] n (x:α),fM n (enc x)=enc x)∧(∀ n i (x:Int),fM n (.int i x)=.int i x)∧(∀ n f xs,fM n (.func f xs)=.func f xs)∧(∀ n ks vs,fM n (.cT ks vs)=.cT ks vs)∧(∀ n b,fM n (.bool b)=.bool b) ∧
  (∀ f v,iS f (.box v)=.box (f v))∧(∀ f T xs,iS f (.cV T xs)=.cV T xs)∧(∀ f ks vs,iS f (.cz ks vs)=.cz ks vs) :=
 ⟨fun _ _=>by simp[fN],fun _ _ _ _=>rfl,fun _ _ _=>rfl,fun _ _ x=>r6 (bh _ x),fun _ _ _ _=>rfl,fun _ _ _ _=>rfl,fun _ _ _ _=>rfl,fun _ _ _=>rfl,fun _=>by simp[fM],fun _ _ _=>rfl,fun _ _=>rfl,fun _ x=>zJ (bh _ x),fun _ _ _=>rfl,fun _ _ _=>rfl,fun _ _ _=>rfl,fun _ _=>rfl,fun _ _=>rfl,fun _ _ _=>rfl,fun _ _ _=>rfl⟩
theorem su(l:List ak)(day known:Int)(hok:dc l=true):aA Tryz.prog 88 [enc l,enc day,enc known] (rM l day known):=by
 have hl:=kY hok
 have hd:mB l:=fun i hi=>ajO (yK hok hi)
 refine aA.bA Tryz.func88 TA Vv XD (Nat.le_of_ble_eq_true rfl) (fun hwf W0 D0 E1 =>?_)
 simp only[CF,NQ,bp,Nat.zero_add,Nat.reduceAdd]
 clear hwf
 refine .ao (by decide +kernel) fun K hK =>?_
 simp only[JE,U,simprocAttr]
 refine .done (hK _ ?_);clear hK K
 refine .ao (by decide +kernel) fun K hK =>?_
 simp only[JF,U,simprocAttr]
 refine .done (hK _ ?_);clear hK K
 refine ab.seq (ab.seq ?_)
 refine .bl (by decide +kernel) fun K hK =>?_
 simp only[JK,U,simprocAttr]
 try simp only[eT,a6,U,simprocAttr]
 refine .lead _ (Po l known hl) ?_
 try simp only[U,simprocAttr]
 refine .done (hK _ ?_);clear hK K;try simp only[aq]
 refine ab.sub (aD.QT 8 80 3 1 [] _ rfl rfl rfl (B:=av [(3,.ptr 3 []),(4,.ptr 4 []),(8,.ptr 8 []),(9,.nils 1),(17,.func 146 [.ref (enc l),.ref (enc (lq l known))])] [(8,.box (.own 80 0)),(80,.cV 3 []),(3,.box (enc l)),(4,.box (enc day))]) ?_) ?_
 ·simp only[gi]
  refine aD.bM ?_ ?_ ?_ ?_ <;>simp[aV,bF,bE,a7,au,aY,ct,I.only,I.bR,ai.only,bh,jw]
 refine ab.block (ab.lh (osb0:=jn l day []) (tsR:=[(3,.ptr 1000003 []),(4,.ptr 1000004 []),(8,.ptr 1000008 [])]) (ρ:=[(1999999,999999),(1000003,3),(1000004,4),(1000008,8),(1000080,80)])
  (fun k os=>os=jn l day (dB (lM l day known k)))
  (fun _ _=>False)
  rfl (Nat.le_of_ble_eq_true rfl) (by simp only[U,simprocAttr]) (by simp[I.bX,I.bB,dV]) CO (PG l (lq l known) hl (alI l known)) (fun _=>rfl) rfl rfl rfl (fun o=>⟨?_,?_⟩) ?_ ?_ ?_ ?_ ?_ ?_ ?_)
 ·intro n x hx
  simp only[dI,jn,al] at hx
  repeat' split at hx
  all_goals first | (cases hx;done) | (subst_vars;simp only[Option.some.injEq] at hx;subst hx;simp[dI,jn,au,bD,al,ai.aR,I.aR,hX,ai.only,I.only,bh,ai.eS,jw])
 ·intro a b ha hb
  simp only[dI,jn,au,al] at ha hb
  repeat' split at ha
  all_goals first | (simp at ha;done) | skip
  all_goals (repeat' split at hb)
  all_goals first | (simp at hb;done) | (subst_vars;simp[bD])
 ·simp[nd,aY,I.aR,bD,I.only,jn,au,al]
 ·rintro k os rfl;exact alE ..
 ·rintro e os h;exact h.elim
 ·simp[jn,lM,dB]
 ·rintro k osb hk rfl W1 D1 E1 ah7 o1 o2
  have hk':k<(ir l known).length:=hk
  have hdl:=Y6 l day known k
  have hsu:=Y7 (day:=day) hk'
  generalize lM l day known k=dk at hsu hdl ⊢
  obtain ⟨i,hi⟩:∃ i,i=(ir l known).getD k 0:=⟨_,rfl⟩
  have hil:i<l.length:=by
   rw[hi,List.getD_eq_getElem?_getD,List.getElem?_eq_getElem hk']
   exact OS (List.getElem_mem hk')
  have hit:((jo (fun i=>(lq l known).getD i false) l.length).getD k 0)=i:=hi.symm
  rw[←hi] at hsu
  have he:=jV hil
  simp only[hit,rP,dI,jn]
  have R:=And.intro @a6 @U
  repeat' ((first
   |(with_reducible refine .guard (fun hb =>?_) (fun hb =>?_) <;>try simp only[hb])
   |refine ab.aO (by decide +kernel) rfl fun K hK =>?_
   |(refine .aI [0,1,2,3,4,6,7,8,9,10,11,12,14,17,18,33,45,46,47,48,64] hK ?_;clear hK K)
   |(with_reducible refine .done (hK _ ?_);clear hK K)
   |refine ab.of rfl ?_
   |(with_reducible refine ar.aL (fun h =>?_) (fun h =>?_) <;>try simp only[h])) <;>try simp only[aQ,R,simprocAttr])
  all_goals clear R
  refine ⟨by simp[],?_⟩
  have hap:=fun (A:af) d rest=>vn (A:=A) (d:=d) (e:=3) (bytes:=8) (n:=1000080) (l:=(dB dk).length) (xs:=dB dk) (y:=(i:Int)) (rest:=rest) rfl (by simp[dB,maxLen];omega) (by simp[dB];omega)
  rcases h1:((ae l i).kind != 0) <;>rcases h2:decide ((ae l i).day≤day)
  all_goals
   have R:=And.intro @h1 (And.intro @h2 (And.intro @he (And.intro @hap (And.intro @eT (And.intro @alD (And.intro @eJ (And.intro @bn (And.intro @a6 @U))))))))
   repeat' ((first
    |(with_reducible refine .guard (fun hb =>?_) (fun hb =>?_) <;>try simp only[hb])
    |refine ab.aO (by decide +kernel) rfl fun K hK =>?_
    |(refine .aI [0,1,2,3,4,6,7,8,9,10,11,12,14,17,18,33,45,46,47,48,64] hK ?_;clear hK K)
    |(with_reducible refine .done (hK _ ?_);clear hK K)
    |refine ab.of rfl ?_
    |(with_reducible refine ar.aL (fun h =>?_) (fun h =>?_) <;>try simp only[h])) <;>try simp only[aQ,R,simprocAttr])
   all_goals clear R
  all_goals
   have hdue:rq l day i=(((ae l i).kind != 0)&&decide ((ae l i).day≤day)):=by simp only[rq,bne,ne_eq,decide_not];rfl
   rw[h1,h2] at hdue
   rw[hdue] at hsu
   refine ⟨_,?_,rfl⟩
   rw[hsu]
   intro n x hx
   simp only[dI,al,if_true,Bool.false_eq_true,Bool.and_self,Bool.and_true,Bool.and_false,if_false,List.append_nil] at hx
   (repeat' split at hx) <;>first
    |(cases hx;done)
    |(subst_vars;simp only[Option.some.injEq] at hx;subst hx;simp[dI,au,av,al,ai.only,I.only,bh,ai.eS,dB])
 ·rintro os rfl
  have eN:lM l day known (jo (fun i=>(lq l known).getD i false) l.length).length=kj l day known:=Y5 l day known
  simp only[eN,jn,dJ,List.map_cons,List.map_nil,bD,ai.aR,I.aR,hX,aq,bN,reduceIte,Nat.reduceEqDiff,List.cons_append,List.nil_append]
  refine ab.sub (B:=av [(3,.ptr 3 []),(8,.ptr 8 []),(9,.nils 1)] [(8,.box (.own 80 (lL l day known).length)),(80,.cV 3 (lL l day known)),(3,.box (enc l))]) ?_ ?_
  ·refine aD.bM ?_ ?_ ?_ ?_ <;>simp[*,aV,bF,bE,a7,au,aY,ct,I.only,ai.only,bh,jw,lL]
  have hlen:(lL l day known).length≤60:=by simp only[lL,dB,List.length_map];exact Nat.le_trans (vZ l day known) hl
  have hris:=Y4 l day known
  have hin:=Y3 (l:=l) (day:=day) (known:=known)
  have heq:=fun s=>akc (l:=l) (day:=day) (known:=known) (s:=s)
  generalize lL l day known=xs at hlen hris hin heq ⊢
  by_cases hx0:xs=[]
  ·subst hx0
   have ho0:qh l day known=[]:=(heq [] (List.Perm.refl _) List.Pairwise.nil).symm
   refine ab.sub (aD.O4 (n:=80) (T:=3) rfl (B:=av [(3,.ptr 3 []),(8,.ptr 8 []),(9,.nils 1)] [(8,.box (.nils 1)),(3,.box (enc l))]) ?_) ?_
   ·simp only[List.map_cons,List.map_nil,OY,List.length_nil]
    refine aD.bM ?_ ?_ ?_ ?_ <;>simp[aV,bF,bE,a7,au,aY,ct,I.only,ai.only,bh]
   refine .ao (by decide +kernel) fun K hK =>?_
   simp only[xq,U,simprocAttr]
   try simp only[p6,iH,U,simprocAttr]
   refine .flat _ (PC l) rfl ?_
   try simp only[U,simprocAttr]
   refine .done (hK _ ?_);clear hK K
   refine .ao (by decide +kernel) fun K hK =>?_
   simp only[xr,U,simprocAttr]
   try simp only[eJ,U,simprocAttr]
   refine .done (hK _ ?_);clear hK K
   refine .ao (by decide +kernel) fun K hK =>?_
   simp only[xt,U,simprocAttr]
   refine .lead _ z1 ?_
   try simp only[U,simprocAttr]
   refine .done (hK _ ?_);clear hK K
   refine ab.seq (ab.seq ?_)
   refine .bl (by decide +kernel) fun K hK =>?_
   simp only[xu,U,simprocAttr]
   try simp only[eT,dp,bn,eJ,U,simprocAttr]
   refine .done (hK _ ?_);clear hK K;try simp only[aq]
   have hF:=Aq l day known hok (W0:=W0) (D0:=D0) (E1:=E1)
   rw[ho0] at hF
   refine ab.sub (aD.oz [8] 45 (x:=.nils 1) (y:=enc ([]:List Int)) rfl (by rfl) ?_ ?_ ?_ ?_ ?_) hF
   ·simp[c7,a7,ai.only,I.only,I.bR,bh]
   ·simp[aV,gB,aY,I.only,I.bR,kO]
   ·simp[bF,c7,al]
   ·simp[bE,au,al,I.only,I.bR,bh,kO]
   ·simp[a7,au,al,ai.only,I.only,I.bR,bh]
  ·refine ab.O3 (n:=80) rfl hx0 (by omega) (uh (by simp[nS,I.only])) ?_ (fun q =>?_)
   ·intro m y hy hm
    simp only[al] at hy
    repeat' split at hy
    all_goals first | (cases hy;done) | (exact absurd (by assumption) hm) | (simp only[Option.some.injEq] at hy;subst hy;first | exact .inl rfl | exact .inr (by simp[ai.only,bh]))
   simp only[List.map_cons,List.map_nil,OY]
   refine .ao (by decide +kernel) fun K hK =>?_
   simp only[xq,U,simprocAttr]
   try simp only[eT,p6,iH,U,simprocAttr]
   refine .bS true [(1000000,80)] (cB 1000000 (xs++List.replicate q 0)) [.view 1000000 [] 1 0 xs.length,.func 138 [.ref (enc l)]] _ rfl (PB l hd hl xs _ hris hin hlen) ?_ ?_ ?_ ?_
   ·refine ⟨fun m y hy =>?_,fun m m' h h' _=>by rw[cW.1 h,cW.1 h']⟩
    simp only[cB,al] at hy
    split at hy
    ·rename_i hm
     cases hy
     subst hm
     exact ⟨by simp only[bD,if_true,al,ai.aR,I.aR,gu],oJ _ _,rfl⟩
    ·cases hy
   ·refine ⟨.inl ⟨by simp[I.aR,bD],cW.2 rfl,rfl⟩,.inr ?_,trivial⟩
    simp[br,b7,cC,av,c7,jZ,cB,bD,al,dV,iv]
   ·rintro fh os' ⟨rfl,s',k1,k2,rfl⟩
    refine ⟨fun m y hy =>?_,fun m m' h h' _=>by rw[cW.1 h,cW.1 h'],fun m hm=>by rw[cW.1 hm];exact cW.2 rfl,fun m a b=>by rw[cW.1 a] at b;simp[cB,au,al] at b,rfl,fun _=>rfl⟩
    simp only[cB,al] at hy
    split at hy
    ·cases hy;exact ⟨oJ _ _,rfl,fun _=>aio _⟩
    ·cases hy
   ·rintro fh os' ⟨rfl,s',k1,k2,rfl⟩
    have hs':=heq s' k1 k2
    have hsl:xs.length=s'.length:=k1.length_eq.symm
    try simp only[cB,dJ,List.map_cons,List.map_nil,ai.aR,I.aR,gu,bD,reduceIte,List.cons_append,List.nil_append,I.cX,U,simprocAttr]
    refine .done (hK _ ?_);clear hK K
    refine .ao (by decide +kernel) fun K hK =>?_
    simp only[xr,U,simprocAttr]
    try simp only[eJ,U,simprocAttr]
    refine .done (hK _ ?_);clear hK K
    refine .ao (by decide +kernel) fun K hK =>?_
    simp only[xt,U,simprocAttr]
    refine .lead _ z1 ?_
    try simp only[U,simprocAttr]
    refine .done (hK _ ?_);clear hK K
    refine ab.seq (ab.seq ?_)
    refine .bl (by decide +kernel) fun K hK =>?_
    simp only[xu,U,simprocAttr]
    try simp only[eT,dp,U,simprocAttr]
    refine .done (hK _ ?_);clear hK K;try simp only[aq]
    have hF:=Aq l day known hok (W0:=W0) (D0:=D0) (E1:=E1)
    rw[←hs'] at hF
    refine ab.sub (aD.oz [80,8] 45 (x:=.view 80 [] 1 0 xs.length) (y:=enc s') rfl ?_ ?_ ?_ ?_ ?_ ?_) hF
    ·have:al (jc [80,8] [(43,ai.box (I.agg ([I.raw (Value.map none)].set 0 (I.mref 41)))),(41,ai.cz [] []),(80,ai.box (I.agg ((s'++List.replicate q 0).map enc))),(80,ai.box (I.agg ((xs++List.replicate q 0).map enc))),(8,ai.box (I.view 80 [] 1 0 xs.length)),(80,ai.cV 3 xs),(3,ai.box (enc l))]) 80=some (.box (.agg ((s'++List.replicate q 0).map enc))):=by
      rw[oH];simp[al]
     try simp only[this,U,simprocAttr]
     exact DR hsl.symm
    ·simp[c7,a7,ai.only,I.only,I.bR,bh]
    ·simp[aV,gB,aY,I.only,I.bR,kO,hsl]
    ·simp[bF,c7,al]
    ·simp[bE,au,al,I.only,I.bR,bh,kO]
    ·simp[a7,au,al,ai.only,I.only,I.bR,bh]
 ·rintro e os h;exact h.elim
theorem Pv(n:Int):aA Tryz.prog 126 [enc n] (enc (!cq 0 100000 n)):=by
 refine aA.bA Tryz.func126 R9 T4 V9 (Nat.le_of_ble_eq_true rfl) (fun hwf W0 D0 E1 =>?_)
 simp only[Bd,Mk,bp]
 have R:=And.intro @a6 @U
 repeat' ((first
  |(with_reducible refine .guard (fun hb =>?_) (fun hb =>?_) <;>try simp only[hb])
  |refine ab.aO (by decide +kernel) rfl fun K hK =>?_
  |refine .flat _ (u7 _) rfl ?_
  |(refine .aI [0,2] hK ?_;clear hK K)
  |(with_reducible refine .done (hK _ ?_);clear hK K)
  |refine ab.of rfl ?_
  |(with_reducible refine ar.aL (fun h =>?_) (fun h =>?_) <;>try simp only[h])) <;>try simp only[aQ,R,simprocAttr])
 all_goals clear R
abbrev js:=aS 2 Int
def eR(a b:Int):js:=⟨[a,b],rfl⟩
def fR(l:List ak)(ns:List js)(ds:List Int):Int:=if dc l then (if ns.all (fun n=>cq 1 (n.g 1) (n.g 0)) then (if ds.any (fun d => !cq 0 100000 d) then 6 else 0) else 1) else 41
theorem OO{A:af}{n:Nat}{b:I}{x:js}{u v:Int}{rest:List aB} : dQ A (some 2) n [] b (enc x) rest (some (.agg [.int .i64 u,.int .i64 v]))=az rest (A.aK n (.box (enc x))):=by
 have:=ev (A:=A) (n:=n) (p:=[]) (b:=b) (v:=enc x) (old:=.agg [.int .i64 u,.int .i64 v]) (rest:=rest) (s:=some 2) (dq _) (by rw[fZ];rfl) (eQ x)
 rw[this,gi]
theorem x8 :
  (∀ (x:js) y,eh (0:Int) 2 (eg 2 1 (x.l.map enc) y)=y)∧(∀ (x:js) y,eh (1:Int) 2 (eg 2 1 (x.l.map enc) y)=y)∧(∀ x:js,(x.l.map (enc (α:=Int)))[0]?=some (I.int .i64 (x.g 0)))∧(∀ x:js,(x.l.map (enc (α:=Int)))[1]?=some (I.int .i64 (x.g 1))) ∧
  (∀ x:js,(enc x:I).du=some (x.l.map enc))∧(∀ x:js,bY (some 2) (enc x)=true)∧((0:Int).toNat=0)∧((1:Int).toNat=1) :=
 ⟨fun x y=>gm 1 x (by decide) rfl,fun x y=>gm 1 x (by decide) rfl,fun x=>rf x (by decide),fun x=>rf x (by decide),fun _=>rfl,fun x=>by rw[fZ];rfl,rfl,rfl⟩
theorem qB(l:List ak)(ns:List js)(ds:List Int):aA Tryz.prog 67 [enc l,enc ns,enc ds] (enc (fR l ns ds)):=by
 refine aA.bA Tryz.func67 Tl Vh Xp (Nat.le_of_ble_eq_true rfl) (fun hwf W0 D0 E1 =>?_)
 simp only[Cr,NB,bp,Nat.zero_add,Nat.reduceAdd]
 have hnl:ns.length≤maxLen:=((kJ ns).1 hwf.2.1).1
 simp only[maxLen] at hnl
 have hF64:=sm l
 simp only[fR]
 rcases hok:dc l
 ·rw[hok,if_neg (by decide)] at hF64
  have R:=And.intro @hok (And.intro @bn (And.intro @a6 @U))
  repeat' ((first
   |(with_reducible refine .guard (fun hb =>?_) (fun hb =>?_) <;>try simp only[hb])
   |refine ab.aO (by decide +kernel) rfl fun K hK =>?_
   |refine .flat _ (hF64) rfl ?_
   |(refine .aI [0,1,2,6,7,9,13,15,16,17,18,26,29] hK ?_;clear hK K)
   |(with_reducible refine .done (hK _ ?_);clear hK K)
   |refine ab.of rfl ?_
   |(with_reducible refine ar.aL (fun h =>?_) (fun h =>?_) <;>try simp only[h])) <;>try simp only[aQ,R,simprocAttr])
  all_goals clear R
 rw[hok,if_pos rfl] at hF64
 have R:=And.intro @hok (And.intro @bn (And.intro @a6 @U))
 repeat' ((first
  |(with_reducible refine .guard (fun hb =>?_) (fun hb =>?_) <;>try simp only[hb])
  |refine ab.aO (by decide +kernel) rfl fun K hK =>?_
  |refine .flat _ (hF64) rfl ?_
  |(refine .aI [0,1,2,6,7,9,13,15,16,17,18,26,29] hK ?_;clear hK K)
  |(with_reducible refine .done (hK _ ?_);clear hK K)
  |refine ab.of rfl ?_
  |(with_reducible refine ar.aL (fun h =>?_) (fun h =>?_) <;>try simp only[h])) <;>try simp only[aQ,R,simprocAttr])
 all_goals clear R
 refine ab.loop (fun i:Nat=>av [(2,enc ds),(15,enc ns),(16,.int .i64 ns.length),(17,.int .i64 i)] []) (fun i=>i≤ns.length∧∀ k,(h:k<ns.length)→k<i→cq 1 ((ns[k]).g 1) ((ns[k]).g 0)=true) (fun i=>ns.length-i) 0 ⟨Nat.zero_le _,fun k _ hk=>by omega⟩ ?_ (fun i hi =>?_)
 ·refine aD.bM ?_ ?_ ?_ ?_ <;>simp[aV,bF,bE,a7,aY,I.only,bh]
 obtain ⟨hi1,hi2⟩:=hi
 by_cases hlt:i<ns.length
 ·have hc:=gD hlt
  have he:=fun A=>fI (A:=A) 2 hlt rfl
  have hw:=ft (i:=i) (by omega)
  obtain ⟨x,hx⟩:∃ x,x=ns[i]:=⟨_,rfl⟩
  rw[←hx] at he
  rcases hp:cq 1 (x.g 1) (x.g 0)
  ·have hall:(ns.all fun n=>cq 1 (n.g 1) (n.g 0))=false:=by
    rw[List.all_eq_false]
    exact ⟨x,hx▸List.getElem_mem hlt,by rw[hp];decide⟩
   have R:=And.intro @hc (And.intro @he (And.intro @hp (And.intro @hall (And.intro @OO (And.intro @x8 (And.intro @bn @U))))))
   repeat' ((first
    |(with_reducible refine .guard (fun hb =>?_) (fun hb =>?_) <;>try simp only[hb])
    |refine ab.aO (by decide +kernel) rfl fun K hK =>?_
    |refine .flat _ (mq _ _ _) rfl ?_
    |(refine .aI [0,1,2,6,7,9,13,15,16,17,18,26,29] hK ?_;clear hK K)
    |(with_reducible refine .done (hK _ ?_);clear hK K)
    |refine ab.of rfl ?_
    |(with_reducible refine ar.aL (fun h =>?_) (fun h =>?_) <;>try simp only[h])) <;>try simp only[aQ,R,simprocAttr])
   all_goals clear R
  ·have R:=And.intro @hc (And.intro @he (And.intro @hp (And.intro @hw (And.intro @OO (And.intro @x8 (And.intro @bn @U))))))
   repeat' ((first
    |(with_reducible refine .guard (fun hb =>?_) (fun hb =>?_) <;>try simp only[hb])
    |refine ab.aO (by decide +kernel) rfl fun K hK =>?_
    |refine .flat _ (mq _ _ _) rfl ?_
    |(refine .aI [0,1,2,6,7,9,13,15,16,17,18,26,29] hK ?_;clear hK K)
    |(with_reducible refine .done (hK _ ?_);clear hK K)
    |refine ab.of rfl ?_
    |(with_reducible refine ar.aL (fun h =>?_) (fun h =>?_) <;>try simp only[h])) <;>try simp only[aQ,R,simprocAttr])
   all_goals clear R
   refine ⟨i+1,⟨by omega,fun k hk hki =>?_⟩,by omega,?_⟩
   ·by_cases e:k=i
    ·subst e;rw[←hx];exact hp
    ·exact hi2 k hk (by omega)
   ·refine aD.bM ?_ ?_ ?_ ?_ <;>simp[aV,bF,bE,a7,aY,bh,I.only]
 ·have hc:=ib hlt
  have hall:(ns.all fun n=>cq 1 (n.g 1) (n.g 0))=true:=by
   rw[List.all_eq_true]
   intro x hx
   obtain ⟨k,hk,rfl⟩:=List.getElem_of_mem hx
   exact hi2 k hk (by omega)
  have hF:=u6 ds 126 [] rfl (fun d => !cq 0 100000 d) (fun x _=>Pv x)
  rcases hd:ds.any fun d => !cq 0 100000 d
  all_goals
   rw[hd] at hF
   have R:=And.intro @hc (And.intro @hall (And.intro @hd (And.intro @bn (And.intro @a6 @U))))
   repeat' ((first
    |(with_reducible refine .guard (fun hb =>?_) (fun hb =>?_) <;>try simp only[hb])
    |refine ab.aO (by decide +kernel) rfl fun K hK =>?_
    |refine .flat _ (hF) rfl ?_
    |(refine .aI [0,1,2,6,7,9,13,15,16,17,18,26,29] hK ?_;clear hK K)
    |(with_reducible refine .done (hK _ ?_);clear hK K)
    |refine ab.of rfl ?_
    |(with_reducible refine ar.aL (fun h =>?_) (fun h =>?_) <;>try simp only[h])) <;>try simp only[aQ,R,simprocAttr])
   all_goals clear R
def cS(l:List ak)(day known:Int):List aU:=(rN fo l (j8 l day known)).1
def al2(l:List ak)(day known:Int):List Int:=dP (dB (rN fo l (j8 l day known)).2)
theorem ur(l:List ak)(day known:Int):rM l day known=.tuple [gO (cS l day known),enc (al2 l day known)]:=rfl
theorem rj{l:List ak}(hok:dc l=true)(day known:Int):((cS l day known).map (·.no)).Nodup∧(cS l day known).length≤60∧∀ b∈cS l day known,b.cm.length≤60:=by
 have h:=yY l (j8 l day known) _ (Nat.le_refl _)
 rw[LU] at h
 have h2:(j8 l day known).length≤60:=by rw[LO];exact Nat.le_trans (vZ l day known) (kY hok)
 exact ⟨h.1,by simp only[cS];omega,fun b hb=>by have:=h.2.2.1 b hb;omega⟩
theorem tI(bs:List aU)(no:Int):gC (.i .i64) .nilp (.int .i64 no) (dj bs) (bs.map fun b=>.ref (enc (⟨b⟩:eM)))=match dF bs no with
  |some b=>some (.ref (enc (⟨b⟩:eM)),true)
  |none=>some (.nilp,false):=by
 have h1:=xz (bs:=bs) (no:=no)
 have h2:=x9 we .nilp no (bs.map (·.no)) (bs.map fun b=>.ref (enc (⟨b⟩:eM)))
 rw[jw] at h2
 unfold dj
 rw[h2]
 cases h:(bs.map (·.no)).findIdx? fun x=>decide (no=x) with
 |none=>rw[h] at h1;simp only at h1;rw[h1]
 |some i =>
  rw[h] at h1
  obtain ⟨hi,g1,g2⟩:=h1
  rw[g1]
  simp[hi]
theorem VO(bs:List aU):I.bX (bs.map fun b=>.ref (enc (⟨b⟩:eM)))=true:=by
 induction bs with
 |nil=>rfl
 |cons b bs ih=>simp only[List.map_cons,I.bX,I.bB,dV,ih,Bool.and_self]
theorem VI(bs:List aU):(I.cT (dj bs) (bs.map fun b=>.ref (enc (⟨b⟩:eM)))).bB=true:=by
 simp only[I.bB,VO,Bool.and_true];exact kh _
theorem oC:(∀ bs,(gO bs).bB=true)∧(∀ aC A bs,br aC A (gO bs)=some (gO bs))∧(∀ bs,(gO bs).cj=true)∧(∀ bs,bY none (gO bs)=true)∧(∀ p bs,(gO bs).only p=true)∧(∀ x:eM,(enc x:I).bB=true)∧(∀ bs,mP (gO bs)=some (gO bs)) ∧
  (∀ A bs,lP A 0 0 (gO bs)=some (.ref (.cT (dj bs) (bs.map fun b=>.ref (enc (⟨b⟩:eM))))))∧(∀ x:eM,mP (.ref (enc x))=some (.ref (enc x))) :=
 have h:∀ bs,(I.agg [.cT (dj bs) (bs.map fun b=>.ref (enc (⟨b⟩:eM)))]).bB=true:=fun bs=>by simp only[I.bB,I.bX,Bool.and_true];exact VI bs
 ⟨fun bs=>by simp only[gO,I.bB];exact h bs,fun aC A bs=>by simp only[gO,br,h bs,if_true],fun _=>rfl,fun _=>rfl,fun p bs=>mS p _ (by simp only[gO,I.bB];exact h bs),fun x=>dV x,fun _=>rfl,
  fun A bs=>by simp[gO,lP,I.du,qX,pL,ec,I.sizes],fun _=>rfl⟩
theorem O6:(∀ k n,(I.int k n).cj=true)∧(∀ b,(I.bool b).cj=true):=⟨fun _ _=>rfl,fun _=>rfl⟩
theorem oo{l:List ak}{ns:List js}{ds:List Int}(h:fR l ns ds=0):dc l=true:=by
 simp only[fR] at h
 split at h
 ·assumption
 ·cases h
theorem p7{a:Int}(h:a=0):(a != 0)=false:=by simp[h]
theorem p8{a:Int}(h:¬ a=0):(a != 0)=true:=by simp[h]
theorem qO(a b:Int):iG 1 (some [.int .i64 a,.int .i64 b])=some (enc [a,b]):=np (ys:=[a,b]) 1 rfl
theorem sn(l:List ak)(known:Int)(hok:dc l=true):aA Tryz.prog 68 [enc l,enc known] (gO (cS l 100000 known)):=by
 refine aA.bA Tryz.func68 Tm Vi Xq (Nat.le_of_ble_eq_true rfl) (fun hwf W0 D0 E1 =>?_)
 simp only[Cs,NC,bp,Nat.zero_add]
 have hF:=su l 100000 known hok
 rw[ur] at hF
 have R:=And.intro @oC (And.intro @a6 @U)
 repeat' ((first
  |(with_reducible refine .guard (fun hb =>?_) (fun hb =>?_) <;>try simp only[hb])
  |refine ab.aO (by decide +kernel) rfl fun K hK =>?_
  |refine .lead _ (hF) ?_
  |(refine .aI [0,1,4,5] hK ?_;clear hK K)
  |(with_reducible refine .done (hK _ ?_);clear hK K)
  |refine ab.of rfl ?_
  |(with_reducible refine ar.aL (fun h =>?_) (fun h =>?_) <;>try simp only[h])) <;>try simp only[aQ,R,simprocAttr])
 all_goals clear R
theorem Qx(b:aU):aA Tryz.prog 89 [.ref (enc (⟨b⟩:eM))] (enc (!decide (0≤b.dU))):=by
 refine aA.bA Tryz.func89 TB Vw XE (Nat.le_of_ble_eq_true rfl) (fun hwf W0 D0 E1 =>?_)
 simp only[CG,NR,bp]
 have R:=And.intro @oC (And.intro @a6 @U)
 repeat' ((first
  |(with_reducible refine .guard (fun hb =>?_) (fun hb =>?_) <;>try simp only[hb])
  |refine ab.aO (by decide +kernel) rfl fun K hK =>?_
  |refine .flat _ (jr _) rfl ?_
  |(refine .aI [0,2] hK ?_;clear hK K)
  |(with_reducible refine .done (hK _ ?_);clear hK K)
  |refine ab.of rfl ?_
  |(with_reducible refine ar.aL (fun h =>?_) (fun h =>?_) <;>try simp only[h])) <;>try simp only[aQ,R,simprocAttr])
 all_goals clear R
def og(l:List ak)(day known:Int):List Int×Int:=if fR l [] [day,known]=0 then (dP (((cS l day known).filter fun b => !decide (0≤b.dU)).map (·.no)),0) else ([],fR l [] [day,known])
theorem Am(l:List ak)(day known:Int):aA Tryz.prog 26 [enc l,enc day,enc known] (.tuple [enc (og l day known).1,enc (og l day known).2]):=by
 refine aA.bA Tryz.func26 S8 U4 Xc (Nat.le_of_ble_eq_true rfl) (fun hwf W0 D0 E1 =>?_)
 simp only[Cf,Nn,bp,Nat.zero_add,Nat.reduceAdd]
 clear hwf
 have hC:=qB l [] [day,known]
 simp only[og]
 generalize hc:fR l [] [day,known]=e at hC ⊢
 by_cases he:e=0
 ·have hn:=p7 he
  subst he
  have hok:=oo hc
  have hF:=su l day known hok
  rw[ur] at hF
  have hb:=rj hok day known
  have hN:=vg (cS l day known) hb.2.1 89 [] rfl (fun b => !decide (0≤b.dU)) (fun b _=>Qx b)
  have R:=And.intro @hn (And.intro @qO (And.intro @oC (And.intro @iH (And.intro @a6 @U))))
  repeat' ((first
   |(with_reducible refine .guard (fun hb =>?_) (fun hb =>?_) <;>try simp only[hb])
   |refine ab.aO (by decide +kernel) rfl fun K hK =>?_
   |refine .flat _ (hC) rfl ?_
   |refine .lead _ (hF) ?_
   |refine .lead _ (hN) ?_
   |(refine .aI [0,1,2,6,7,8,9,17] hK ?_;clear hK K)
   |(with_reducible refine .done (hK _ ?_);clear hK K)
   |refine ab.of rfl ?_
   |(with_reducible refine ar.aL (fun h =>?_) (fun h =>?_) <;>try simp only[h])) <;>try simp only[aQ,R,simprocAttr])
  all_goals clear R
  all_goals rfl
 ·have hn:=p8 he
  have R:=And.intro @hn (And.intro @he (And.intro @qO (And.intro @a6 @U)))
  repeat' ((first
   |(with_reducible refine .guard (fun hb =>?_) (fun hb =>?_) <;>try simp only[hb])
   |refine ab.aO (by decide +kernel) rfl fun K hK =>?_
   |refine .flat _ (hC) rfl ?_
   |(refine .aI [0,1,2,6,7,8,9,17] hK ?_;clear hK K)
   |(with_reducible refine .done (hK _ ?_);clear hK K)
   |refine ab.of rfl ?_
   |(with_reducible refine ar.aL (fun h =>?_) (fun h =>?_) <;>try simp only[h])) <;>try simp only[aQ,R,simprocAttr])
  all_goals clear R
  all_goals rfl
def nB(l:List ak)(no day known:Int):Int×Int:=if fR l [eR no 9999] [day,known]=0 then (match dF (cS l day known) no with
 |none=>(0,42)
 |some b=>if 0≤b.dU then (0,0) else (b.bP,0)) else (0,fR l [eR no 9999] [day,known])
theorem AT(a b:Int):iG 2 (some [.agg [.int .i64 a,.int .i64 b]])=some (enc [eR a b]):=np (ys:=[eR a b]) 2 rfl
theorem AU(a b c d:Int):iG 2 (some [.agg [.int .i64 a,.int .i64 b],.agg [.int .i64 c,.int .i64 d]])=some (enc [eR a b,eR c d]):=np (ys:=[eR a b,eR c d]) 2 rfl
theorem fu:(type_of% @a6)∧(type_of% @gW)∧(type_of% @oC)∧(type_of% @iH)∧(type_of% @eJ)∧(type_of% @eT)∧(type_of% @bn)∧(type_of% @qO)∧(type_of% @AT)∧(type_of% @AU)∧(type_of% @AQ)∧(type_of% @O6)∧(type_of% @U):=⟨@a6,@gW,@oC,@iH,@eJ,@eT,@bn,@qO,@AT,@AU,@AQ,@O6,@U⟩
theorem An(l:List ak)(no day known:Int):aA Tryz.prog 27 [enc l,enc no,enc day,enc known] (.tuple [enc (nB l no day known).1,enc (nB l no day known).2]):=by
 refine aA.bA Tryz.func27 S9 U5 Xd (Nat.le_of_ble_eq_true rfl) (fun hwf W0 D0 E1 =>?_)
 simp only[Cg,Np,bp,Nat.zero_add,Nat.reduceAdd]
 clear hwf
 have hC:=qB l [eR no 9999] [day,known]
 simp only[nB]
 generalize hc:fR l [eR no 9999] [day,known]=e at hC ⊢
 by_cases he:e=0
 ·have hn:=p7 he
  subst he
  have hok:=oo hc
  have hF:=su l day known hok
  rw[ur] at hF
  have hk:=tI (cS l day known) no
  cases hg:dF (cS l day known) no with
  |none =>
   rw[hg] at hk
   have R:=And.intro @hn (And.intro @hk fu)
   repeat' ((first
    |(with_reducible refine .guard (fun hb =>?_) (fun hb =>?_) <;>try simp only[hb])
    |refine ab.aO (by decide +kernel) rfl fun K hK =>?_
    |refine .flat _ (hC) rfl ?_
    |refine .lead _ (hF) ?_
    |(refine .aI [0,1,2,3,8,9,10,11,13,23,38,41] hK ?_;clear hK K)
    |(with_reducible refine .done (hK _ ?_);clear hK K)
    |refine ab.of rfl ?_
    |(with_reducible refine ar.aL (fun h =>?_) (fun h =>?_) <;>try simp only[h])) <;>try simp only[aQ,R,simprocAttr])
   all_goals clear R
  |some b =>
   rw[hg] at hk
   rcases hd:decide (0≤b.dU)
   all_goals
    have R:=And.intro @hn (And.intro @hk (And.intro @hd fu))
    repeat' ((first
     |(with_reducible refine .guard (fun hb =>?_) (fun hb =>?_) <;>try simp only[hb])
     |refine ab.aO (by decide +kernel) rfl fun K hK =>?_
     |refine .flat _ (hC) rfl ?_
     |refine .lead _ (hF) ?_
     |refine .flat _ (jr _) rfl ?_
     |(refine .aI [0,1,2,3,8,9,10,11,13,23,38,41] hK ?_;clear hK K)
     |(with_reducible refine .done (hK _ ?_);clear hK K)
     |refine ab.of rfl ?_
     |(with_reducible refine ar.aL (fun h =>?_) (fun h =>?_) <;>try simp only[h])) <;>try simp only[aQ,R,simprocAttr])
    all_goals clear R
    simp only[decide_eq_true_eq,decide_eq_false_iff_not] at hd
    simp[hd]
 ·have hn:=p8 he
  have R:=And.intro @hn (And.intro @he fu)
  repeat' ((first
   |(with_reducible refine .guard (fun hb =>?_) (fun hb =>?_) <;>try simp only[hb])
   |refine ab.aO (by decide +kernel) rfl fun K hK =>?_
   |refine .flat _ (hC) rfl ?_
   |(refine .aI [0,1,2,3,8,9,10,11,13,23,38,41] hK ?_;clear hK K)
   |(with_reducible refine .done (hK _ ?_);clear hK K)
   |refine ab.of rfl ?_
   |(with_reducible refine ar.aL (fun h =>?_) (fun h =>?_) <;>try simp only[h])) <;>try simp only[aQ,R,simprocAttr])
  all_goals clear R
  all_goals rfl
theorem Qy(b:aU)(o s:Int):aA Tryz.prog 91 [.ref (enc (⟨b⟩:eM)),.ref (enc o),.ref (enc s)] (enc (!decide (0≤b.dU)&&(b.bP==o&&b.dA==s))):=by
 refine aA.bA Tryz.func91 TD Vy XG (Nat.le_of_ble_eq_true rfl) (fun hwf W0 D0 E1 =>?_)
 simp only[CI,NT,bp,Nat.zero_add,Nat.reduceAdd]
 have R:=fu
 repeat' ((first
  |(with_reducible refine .guard (fun hb =>?_) (fun hb =>?_) <;>try simp only[hb])
  |refine ab.aO (by decide +kernel) rfl fun K hK =>?_
  |refine .flat _ (jr _) rfl ?_
  |(refine .aI [0,1,2,4] hK ?_;clear hK K)
  |(with_reducible refine .done (hK _ ?_);clear hK K)
  |refine ab.of rfl ?_
  |(with_reducible refine ar.aL (fun h =>?_) (fun h =>?_) <;>try simp only[h])) <;>try simp only[aQ,R,simprocAttr])
 all_goals clear R
 all_goals simp_all
def pE(l:List ak)(o s day known:Int):Int×Int:=if fR l [eR o 99,eR s 9] [day,known]=0 then ((((cS l day known).filter fun b => !decide (0≤b.dU)&&(b.bP==o&&b.dA==s)).length:Int),0) else (0,fR l [eR o 99,eR s 9] [day,known])
theorem Ao(l:List ak)(o s day known:Int):aA Tryz.prog 28 [enc l,enc o,enc s,enc day,enc known] (.tuple [enc (pE l o s day known).1,enc (pE l o s day known).2]):=by
 refine aA.bA Tryz.func28 Ta U6 Xe (Nat.le_of_ble_eq_true rfl) (fun hwf W0 D0 E1 =>?_)
 simp only[Ch,Nq,bp,Nat.zero_add,Nat.reduceAdd]
 clear hwf
 have hC:=qB l [eR o 99,eR s 9] [day,known]
 simp only[pE]
 generalize hc:fR l [eR o 99,eR s 9] [day,known]=e at hC ⊢
 by_cases he:e=0
 ·have hn:=p7 he
  subst he
  have hok:=oo hc
  have hF:=su l day known hok
  rw[ur] at hF
  have hb:=rj hok day known
  have hN:=vg (cS l day known) hb.2.1 91 [.ref (enc o),.ref (enc s)] rfl (fun b => !decide (0≤b.dU)&&(b.bP==o&&b.dA==s)) (fun b _=>Qy b o s)
  have R:=And.intro @hn (And.intro @p6 fu)
  repeat' ((first
   |(with_reducible refine .guard (fun hb =>?_) (fun hb =>?_) <;>try simp only[hb])
   |refine ab.aO (by decide +kernel) rfl fun K hK =>?_
   |refine .flat _ (hC) rfl ?_
   |refine .lead _ (hF) ?_
   |(refine .aI [0,1,2,3,4,6,7,10,11,12,13,26] hK ?_;clear hK K)
   |(with_reducible refine .done (hK _ ?_);clear hK K)
   |refine ab.of rfl ?_
   |(with_reducible refine ar.aL (fun h =>?_) (fun h =>?_) <;>try simp only[h])) <;>try simp only[aQ,R,simprocAttr])
  all_goals clear R
  refine .iL [6,7] _ rfl hN ?_ ?_ ?_
  ·simp[br,b7,cC,av,jc,al,iv,oC,I.bB]
   exact ⟨rfl,rfl⟩
  ·simp[a7,c7]
  ·have hlen:(dP (((cS l day known).filter fun b => !decide (0≤b.dU)&&(b.bP==o&&b.dA==s)).map (·.no))).length=((cS l day known).filter fun b => !decide (0≤b.dU)&&(b.bP==o&&b.dA==s)).length:=by simp[dP]
   try simp only[gB,List.map_cons,List.map_nil,hlen,fu,U,simprocAttr]
   have R:=And.intro @hlen fu
   repeat' ((first
    |(with_reducible refine .guard (fun hb =>?_) (fun hb =>?_) <;>try simp only[hb])
    |refine ab.aO (by decide +kernel) rfl fun K hK =>?_
    |(refine .aI [0,1,2,3,4,6,7,10,11,12,13,26] hK ?_;clear hK K)
    |(with_reducible refine .done (hK _ ?_);clear hK K)
    |refine ab.of rfl ?_
    |(with_reducible refine ar.aL (fun h =>?_) (fun h =>?_) <;>try simp only[h])) <;>try simp only[aQ,R,simprocAttr])
   all_goals clear R
 ·have hn:=p8 he
  have R:=And.intro @hn (And.intro @he fu)
  repeat' ((first
   |(with_reducible refine .guard (fun hb =>?_) (fun hb =>?_) <;>try simp only[hb])
   |refine ab.aO (by decide +kernel) rfl fun K hK =>?_
   |refine .flat _ (hC) rfl ?_
   |(refine .aI [0,1,2,3,4,6,7,10,11,12,13,26] hK ?_;clear hK K)
   |(with_reducible refine .done (hK _ ?_);clear hK K)
   |refine ab.of rfl ?_
   |(with_reducible refine ar.aL (fun h =>?_) (fun h =>?_) <;>try simp only[h])) <;>try simp only[aQ,R,simprocAttr])
  all_goals clear R
  all_goals rfl
theorem gU(m:bZ):bY (some 7) (enc m)=true:=by rw[fZ];rfl
theorem sq(m:bZ)(b:aU):aA Tryz.prog 69 [enc m,.ref (enc (⟨b⟩:eM))] (enc (jf m b.cm).1):=by
 refine aA.bA Tryz.func69 Tn Vj Xr (Nat.le_of_ble_eq_true rfl) (fun hwf W0 D0 E1 =>?_)
 simp only[Ct,ND,bp,Nat.zero_add]
 clear hwf
 have hC:=Pw m b.cm
 have R:=And.intro @gU fu
 repeat' ((first
  |(with_reducible refine .guard (fun hb =>?_) (fun hb =>?_) <;>try simp only[hb])
  |refine ab.aO (by decide +kernel) rfl fun K hK =>?_
  |refine .lead _ (hC) ?_
  |(refine .aI [0,1,2,4,5] hK ?_;clear hK K)
  |(with_reducible refine .done (hK _ ?_);clear hK K)
  |refine ab.of rfl ?_
  |(with_reducible refine ar.aL (fun h =>?_) (fun h =>?_) <;>try simp only[h])) <;>try simp only[aQ,R,simprocAttr])
 all_goals clear R
theorem Py(l:List Int)(n:Int):aA Tryz.prog 131 [enc l,enc n] (enc (nH (fun x=>n==x) l)):=by
 refine aA.bA Tryz.func131 Sd T8 Wd (Nat.le_of_ble_eq_true rfl) (fun hwf W0 D0 E1 =>?_)
 simp only[Bh,Mo,bp,Nat.zero_add]
 have hlen:l.length≤maxLen:=((kJ l).1 hwf.1).1
 simp only[maxLen] at hlen
 clear hwf
 have R:=And.intro @bn @U
 repeat' ((first
  |(with_reducible refine .guard (fun hb =>?_) (fun hb =>?_) <;>try simp only[hb])
  |refine ab.aO (by decide +kernel) rfl fun K hK =>?_
  |(refine .aI [0,1,4,5,7,8,9,16] hK ?_;clear hK K)
  |(with_reducible refine .done (hK _ ?_);clear hK K)
  |refine ab.of rfl ?_
  |(with_reducible refine ar.aL (fun h =>?_) (fun h =>?_) <;>try simp only[h])) <;>try simp only[aQ,R,simprocAttr])
 all_goals clear R
 refine ab.loop (fun i:Nat=>av [(0,enc l),(1,.int .i64 n),(7,.int .i64 l.length),(8,.int .i64 i)] []) (fun i=>i≤l.length∧∀ x∈l.take i,(n==x)=false) (fun i=>l.length-i) 0 ⟨Nat.zero_le _,by simp⟩ ?_ (fun i hi =>?_)
 ·refine aD.bM ?_ ?_ ?_ ?_ <;>simp[aV,bF,bE,a7,aY,I.only,bh]
 obtain ⟨hi1,hi2⟩:=hi
 by_cases hlt:i<l.length
 ·have hc:=gD hlt
  have he:=fun A=>fI (A:=A) 1 hlt rfl
  have hw:=ft (i:=i) (by omega)
  rcases hp:(n==l[i])
  ·have R:=And.intro @hc (And.intro @he (And.intro @hp (And.intro @hw (And.intro @gq (And.intro @bn @U)))))
   repeat' ((first
    |(with_reducible refine .guard (fun hb =>?_) (fun hb =>?_) <;>try simp only[hb])
    |refine ab.aO (by decide +kernel) rfl fun K hK =>?_
    |(refine .aI [0,1,4,5,7,8,9,16] hK ?_;clear hK K)
    |(with_reducible refine .done (hK _ ?_);clear hK K)
    |refine ab.of rfl ?_
    |(with_reducible refine ar.aL (fun h =>?_) (fun h =>?_) <;>try simp only[h])) <;>try simp only[aQ,R,simprocAttr])
   all_goals clear R
   refine ⟨i+1,⟨by omega,fun x hm =>?_⟩,by omega,?_⟩
   ·rw[List.take_succ_eq_append_getElem hlt] at hm
    rcases List.mem_append.1 hm with hm | hm
    ·exact hi2 x hm
    ·simp at hm;rw[hm];exact hp
   ·refine aD.bM ?_ ?_ ?_ ?_ <;>simp[aV,bF,bE,a7,aY,I.only,bh]
  ·have R:=And.intro @hc (And.intro @he (And.intro @hp (And.intro @gq (And.intro @bn @U))))
   repeat' ((first
    |(with_reducible refine .guard (fun hb =>?_) (fun hb =>?_) <;>try simp only[hb])
    |refine ab.aO (by decide +kernel) rfl fun K hK =>?_
    |(refine .aI [0,1,4,5,7,8,9,16] hK ?_;clear hK K)
    |(with_reducible refine .done (hK _ ?_);clear hK K)
    |refine ab.of rfl ?_
    |(with_reducible refine ar.aL (fun h =>?_) (fun h =>?_) <;>try simp only[h])) <;>try simp only[aQ,R,simprocAttr])
   all_goals clear R
   simp[nH,wz hlt hi2 hp]
 ·have hc:=ib hlt
  have hge:i=l.length:=by omega
  have R:=And.intro @hc (And.intro @bn @U)
  repeat' ((first
   |(with_reducible refine .guard (fun hb =>?_) (fun hb =>?_) <;>try simp only[hb])
   |refine ab.aO (by decide +kernel) rfl fun K hK =>?_
   |(refine .aI [0,1,4,5,7,8,9,16] hK ?_;clear hK K)
   |(with_reducible refine .done (hK _ ?_);clear hK K)
   |refine ab.of rfl ?_
   |(with_reducible refine ar.aL (fun h =>?_) (fun h =>?_) <;>try simp only[h])) <;>try simp only[aQ,R,simprocAttr])
  all_goals clear R
  subst hge
  rw[List.take_length] at hi2
  simp[nH,wy hi2]
theorem Qo(l:List Int)(n:Int):aA Tryz.prog 74 [enc l,enc n] (enc (decide (n∈l))):=by
 refine aA.bA Tryz.func74 Tr Vm Xu (Nat.le_of_ble_eq_true rfl) (fun hwf W0 D0 E1 =>?_)
 simp only[Cw,NH,bp,Nat.zero_add]
 clear hwf
 have R:=And.intro @a6 @U
 repeat' ((first
  |(with_reducible refine .guard (fun hb =>?_) (fun hb =>?_) <;>try simp only[hb])
  |refine ab.aO (by decide +kernel) rfl fun K hK =>?_
  |refine .flat _ (Py _ _) rfl ?_
  |(refine .aI [0,1,4] hK ?_;clear hK K)
  |(with_reducible refine .done (hK _ ?_);clear hK K)
  |refine ab.of rfl ?_
  |(with_reducible refine ar.aL (fun h =>?_) (fun h =>?_) <;>try simp only[h])) <;>try simp only[aQ,R,simprocAttr])
 all_goals clear R
 rw[Kl]
 congr 1
 rw[Bool.eq_iff_iff]
 simp[List.any_eq_true]
theorem Qn(m:bZ)(b:aU):aA Tryz.prog 73 [.ref (enc (⟨b⟩:eM)),.ref (enc m)] (enc (decide (0<b.jR) && !decide (b.jR∈(jf m b.cm).1))):=by
 refine aA.bA Tryz.func73 Tq Vl Xt (Nat.le_of_ble_eq_true rfl) (fun hwf W0 D0 E1 =>?_)
 simp only[Cv,NG,bp,Nat.zero_add]
 clear hwf
 have hC:=sq m b
 have R:=And.intro @gU fu
 repeat' ((first
  |(with_reducible refine .guard (fun hb =>?_) (fun hb =>?_) <;>try simp only[hb])
  |refine ab.aO (by decide +kernel) rfl fun K hK =>?_
  |refine .lead _ (hC) ?_
  |refine .flat _ (Qo _ _) rfl ?_
  |(refine .aI [0,1,3] hK ?_;clear hK K)
  |(with_reducible refine .done (hK _ ?_);clear hK K)
  |refine ab.of rfl ?_
  |(with_reducible refine ar.aL (fun h =>?_) (fun h =>?_) <;>try simp only[h])) <;>try simp only[aQ,R,simprocAttr])
 all_goals clear R
 all_goals first | (simp_all;done) | (simp_all;intro h;omega)
def lC(m:bZ)(l:List ak)(no known:Int):List Int×Int:=if en m then (if fR l [eR no 9999] [known]=0 then (match dF (cS l 100000 known) no with
 |none=>([],42)
 |some b=>((jf m b.cm).1,0)) else ([],fR l [eR no 9999] [known])) else ([],13)
theorem AS(a:Int):iG 1 (some [.int .i64 a])=some (enc [a]):=np (ys:=[a]) 1 rfl
theorem u9(m:bZ)(l:List ak)(no known:Int):aA Tryz.prog 14 [enc m,enc l,enc no,enc known] (.tuple [enc (lC m l no known).1,enc (lC m l no known).2]):=by
 refine aA.bA Tryz.func14 Sk Uf Wk (Nat.le_of_ble_eq_true rfl) (fun hwf W0 D0 E1 =>?_)
 simp only[Bo,Mv,bp,Nat.zero_add,Nat.reduceAdd]
 clear hwf
 have hM:=vf m
 have hC:=qB l [eR no 9999] [known]
 simp only[lC]
 rcases hm:en m
 ·rw[hm,if_neg (by decide)] at hM
  have R:=And.intro @gU fu
  repeat' ((first
   |(with_reducible refine .guard (fun hb =>?_) (fun hb =>?_) <;>try simp only[hb])
   |refine ab.aO (by decide +kernel) rfl fun K hK =>?_
   |refine .flat _ (hM) rfl ?_
   |(refine .aI [0,1,2,3,4,8,9,10,11,12,16,26,37] hK ?_;clear hK K)
   |(with_reducible refine .done (hK _ ?_);clear hK K)
   |refine ab.of rfl ?_
   |(with_reducible refine ar.aL (fun h =>?_) (fun h =>?_) <;>try simp only[h])) <;>try simp only[aQ,R,simprocAttr])
  all_goals clear R
  all_goals rfl
 rw[hm,if_pos rfl] at hM
 generalize hc:fR l [eR no 9999] [known]=e at hC ⊢
 by_cases he:e=0
 ·have hn:=p7 he
  subst he
  have hok:=oo hc
  have hF:=sn l known hok
  have hk:=tI (cS l 100000 known) no
  cases hg:dF (cS l 100000 known) no with
  |none =>
   rw[hg] at hk
   have R:=And.intro @hn (And.intro @hk (And.intro @gU fu))
   repeat' ((first
    |(with_reducible refine .guard (fun hb =>?_) (fun hb =>?_) <;>try simp only[hb])
    |refine ab.aO (by decide +kernel) rfl fun K hK =>?_
    |refine .flat _ (hM) rfl ?_
    |refine .flat _ (hC) rfl ?_
    |refine .lead _ (hF) ?_
    |(refine .aI [0,1,2,3,4,8,9,10,11,12,16,26,37] hK ?_;clear hK K)
    |(with_reducible refine .done (hK _ ?_);clear hK K)
    |refine ab.of rfl ?_
    |(with_reducible refine ar.aL (fun h =>?_) (fun h =>?_) <;>try simp only[h])) <;>try simp only[aQ,R,simprocAttr])
   all_goals clear R
   all_goals rfl
  |some b =>
   rw[hg] at hk
   have hB:=sq m b
   have R:=And.intro @hn (And.intro @hk (And.intro @gU fu))
   repeat' ((first
    |(with_reducible refine .guard (fun hb =>?_) (fun hb =>?_) <;>try simp only[hb])
    |refine ab.aO (by decide +kernel) rfl fun K hK =>?_
    |refine .flat _ (hM) rfl ?_
    |refine .flat _ (hC) rfl ?_
    |refine .lead _ (hF) ?_
    |refine .lead _ (hB) ?_
    |(refine .aI [0,1,2,3,4,8,9,10,11,12,16,26,37] hK ?_;clear hK K)
    |(with_reducible refine .done (hK _ ?_);clear hK K)
    |refine ab.of rfl ?_
    |(with_reducible refine ar.aL (fun h =>?_) (fun h =>?_) <;>try simp only[h])) <;>try simp only[aQ,R,simprocAttr])
   all_goals clear R
 ·have hn:=p8 he
  have R:=And.intro @hn (And.intro @he (And.intro @gU fu))
  repeat' ((first
   |(with_reducible refine .guard (fun hb =>?_) (fun hb =>?_) <;>try simp only[hb])
   |refine ab.aO (by decide +kernel) rfl fun K hK =>?_
   |refine .flat _ (hM) rfl ?_
   |refine .flat _ (hC) rfl ?_
   |(refine .aI [0,1,2,3,4,8,9,10,11,12,16,26,37] hK ?_;clear hK K)
   |(with_reducible refine .done (hK _ ?_);clear hK K)
   |refine ab.of rfl ?_
   |(with_reducible refine ar.aL (fun h =>?_) (fun h =>?_) <;>try simp only[h])) <;>try simp only[aQ,R,simprocAttr])
  all_goals clear R
  all_goals rfl
def sd(m:bZ)(l:List ak)(known:Int):List Int×Int:=if en m then (if fR l [] [known]=0 then
 (dP (((cS l 100000 known).filter fun b=>decide (0<b.jR) && !decide (b.jR∈(jf m b.cm).1)).map (·.no)),0) else ([],fR l [] [known])) else ([],13)
theorem PM(m:bZ)(l:List ak)(known:Int):aA Tryz.prog 16 [enc m,enc l,enc known] (.tuple [enc (sd m l known).1,enc (sd m l known).2]):=by
 refine aA.bA Tryz.func16 Sw Ur Ww (Nat.le_of_ble_eq_true rfl) (fun hwf W0 D0 E1 =>?_)
 simp only[BB,MH,bp,Nat.zero_add,Nat.reduceAdd]
 clear hwf
 have hM:=vf m
 have hC:=qB l [] [known]
 simp only[sd]
 rcases hm:en m
 ·rw[hm,if_neg (by decide)] at hM
  have R:=And.intro @gU fu
  repeat' ((first
   |(with_reducible refine .guard (fun hb =>?_) (fun hb =>?_) <;>try simp only[hb])
   |refine ab.aO (by decide +kernel) rfl fun K hK =>?_
   |refine .flat _ (hM) rfl ?_
   |(refine .aI [0,1,2,3,6,7,8,9,13,20] hK ?_;clear hK K)
   |(with_reducible refine .done (hK _ ?_);clear hK K)
   |refine ab.of rfl ?_
   |(with_reducible refine ar.aL (fun h =>?_) (fun h =>?_) <;>try simp only[h])) <;>try simp only[aQ,R,simprocAttr])
  all_goals clear R
  all_goals rfl
 rw[hm,if_pos rfl] at hM
 generalize hc:fR l [] [known]=e at hC ⊢
 by_cases he:e=0
 ·have hn:=p7 he
  subst he
  have hok:=oo hc
  have hF:=sn l known hok
  have hb:=rj hok 100000 known
  have hN:=vg (cS l 100000 known) hb.2.1 73 [.ref (enc m)] (by simp[I.e9,I.done,dV]) (fun b=>decide (0<b.jR) && !decide (b.jR∈(jf m b.cm).1)) (fun b _=>Qn m b)
  have R:=And.intro @hn (And.intro @gU (And.intro @p6 fu))
  repeat' ((first
   |(with_reducible refine .guard (fun hb =>?_) (fun hb =>?_) <;>try simp only[hb])
   |refine ab.aO (by decide +kernel) rfl fun K hK =>?_
   |refine .flat _ (hM) rfl ?_
   |refine .flat _ (hC) rfl ?_
   |refine .lead _ (hF) ?_
   |(refine .aI [0,1,2,3,6,7,8,9,13,20] hK ?_;clear hK K)
   |(with_reducible refine .done (hK _ ?_);clear hK K)
   |refine ab.of rfl ?_
   |(with_reducible refine ar.aL (fun h =>?_) (fun h =>?_) <;>try simp only[h])) <;>try simp only[aQ,R,simprocAttr])
  all_goals clear R
  refine .iL [3] _ rfl hN ?_ ?_ ?_
  ·simp[br,b7,cC,av,jc,al,iv,oC,dV]
  ·simp[a7,c7]
  ·try simp only[gB,List.map_cons,List.map_nil,fu,U,simprocAttr]
   have R:=fu
   repeat' ((first
    |(with_reducible refine .guard (fun hb =>?_) (fun hb =>?_) <;>try simp only[hb])
    |refine ab.aO (by decide +kernel) rfl fun K hK =>?_
    |(refine .aI [0,1,2,3,6,7,8,9,13,20] hK ?_;clear hK K)
    |(with_reducible refine .done (hK _ ?_);clear hK K)
    |refine ab.of rfl ?_
    |(with_reducible refine ar.aL (fun h =>?_) (fun h =>?_) <;>try simp only[h])) <;>try simp only[aQ,R,simprocAttr])
   all_goals clear R
 ·have hn:=p8 he
  have R:=And.intro @hn (And.intro @he (And.intro @gU fu))
  repeat' ((first
   |(with_reducible refine .guard (fun hb =>?_) (fun hb =>?_) <;>try simp only[hb])
   |refine ab.aO (by decide +kernel) rfl fun K hK =>?_
   |refine .flat _ (hM) rfl ?_
   |refine .flat _ (hC) rfl ?_
   |(refine .aI [0,1,2,3,6,7,8,9,13,20] hK ?_;clear hK K)
   |(with_reducible refine .done (hK _ ?_);clear hK K)
   |refine ab.of rfl ?_
   |(with_reducible refine ar.aL (fun h =>?_) (fun h =>?_) <;>try simp only[h])) <;>try simp only[aQ,R,simprocAttr])
  all_goals clear R
  all_goals rfl
end Go.Proofs.YtcldiigclhgafaaGreat
namespace Go.Proofs.YtcldiigclhgafaaGreat
open Go Go.Abs Go.ChangeShapes Go.WideShapes Go.RowKit
open Go.Abs.Enc (enc)
theorem Tryz.own:ownKnob Tryz.prog.godebug=none:=by kernel_rfl
theorem Tryz.KB:laidOutB Tryz.prog=true:=by kernel_rfl
theorem yA:jN Tryz.prog 3 Int:=akb (by kernel_rfl) (by kernel_rfl)
theorem yB:jN Tryz.prog 29 (List Int):=LK (by kernel_rfl) yA (by kernel_rfl)
theorem ai1:jN Tryz.prog 28 js:=LJ (Ku (by kernel_rfl)) yA (by kernel_rfl) (by decide)
theorem On{w:World}{D:aN}{E:aZ}{x y z:I}{a b c:Value}(hx:∃ cs,bK x a cs∧ah w D E x cs)(hy:∃ cs,bK y b cs∧ah w D E y cs)(hz:∃ cs,bK z c cs∧ah w D E z cs):aF w D E [x,y,z] [a,b,c]:=by
 obtain ⟨c1,h1,h2⟩:=hx
 obtain ⟨c2,h3,h4⟩:=hy
 obtain ⟨c3,h5,h6⟩:=hz
 simp only[aF]
 exact ⟨a,[b,c],c1,rfl,h1,h2,b,[c],c2,rfl,h3,h4,c,[],c3,rfl,h5,h6,rfl⟩
end Go.Proofs.YtcldiigclhgafaaGreat
namespace Go.Proofs.YtcldiigclhgafaaGreat
open Go Go.Abs
open Go.Abs.Enc (enc)
theorem RL(w:aS 5 Int)(n:Int):dY [enc (a5 0 0 0 0 0),.int .i64 0,.nils 7] [(0,enc w),(1,.int .i64 n)]=some [enc w,.int .i64 n,.nils 7]:=by
 have h1:((enc w:I).cj=true∧(enc w:I).size=(enc (a5 0 0 0 0 0)).size):=⟨dq _,by rw[fG,fG]⟩
 rw[oY (z:=enc (a5 0 0 0 0 0)) rfl h1.1 h1.2,oY (v:=.int .i64 n) (z:=.int .i64 0) rfl rfl rfl];rfl
theorem mz(w:aS 5 Int)(n:Int)(x:I)(h1:x.cj=true)(h2:x.aP=.one)(h3:x.size=1):(I.agg [enc w,.int .i64 n,x]).cj=true∧bY (some 7) (I.agg [enc w,.int .i64 n,x])=true∧(I.agg [enc w,.int .i64 n,x]).aP=.ej [.ej (List.replicate 5 .one),.one,.one]:=by
 refine ⟨rfl,?_,?_⟩
 ·simp[bY,I.isAgg,I.size,I.sizes,fG,h3,kR,kS]
 ·simp[I.aP,I.cK,eQ,h2,sT,sU]
theorem yE(w:aS 5 Int)(n:Int)(x:I)(v:I):ec [enc w,.int .i64 n,x] 2 6 v=some v:=l5 (Nat.le_of_ble_eq_true rfl) (by simp[I.sizes,I.size,fG,kR,kS])
theorem Al(c:List Int)(hl:c.length≤4611686018427387904):aA Tryz.prog 24 [enc c] (enc (mK c)):=by
 refine aA.bA Tryz.func24 S6 U2 Xa (Nat.le_of_ble_eq_true rfl) (fun hwf W0 D0 E1 =>?_)
 simp only[Cd,Nk,bp]
 refine .ao (by decide +kernel) fun K hK =>?_
 simp only[Ij,U,simprocAttr]
 refine .done (hK _ ?_);clear hK K
 obtain ⟨w,hw⟩:∃ w,w=fO c 5:=⟨_,rfl⟩
 obtain ⟨f,hf⟩:∃ f,f=aX c 5%2:=⟨_,rfl⟩
 refine .ao (by decide +kernel) fun K hK =>?_
 simp only[Ik,U,simprocAttr]
 try simp only[cH,U,simprocAttr]
 refine .lead _ (Qu c hl) ?_
 try simp only[cH,U,simprocAttr]
 refine .flat _ (lx c 5 hl) rfl ?_
 try simp only[U,simprocAttr]
 refine .flat _ (gI (aX c 5) 2 (by decide) (by decide)) rfl ?_
 try simp only[Dr,RL,←hw,←hf,U,simprocAttr]
 obtain ⟨q1,q2,q3⟩:=mz w f (.nils 7) rfl rfl rfl
 rw[ev q1 q2 (q3.trans (mz (a5 0 0 0 0 0) 0 (.nils 7) rfl rfl rfl).2.2.symm)]
 try simp only[gi,U,simprocAttr]
 refine .done (hK _ ?_);clear hK K
 refine .ao (by decide +kernel) fun K hK =>?_
 simp only[Il,U,simprocAttr]
 refine .done (hK _ ?_);clear hK K
 refine ab.seq (ab.seq ?_)
 refine .bl (by decide +kernel) fun K hK =>?_
 simp only[Im,U,simprocAttr]
 refine .done (hK _ ?_);clear hK K;try simp only[aq]
 refine ab.block (ab.loop (fun i:Nat=>av [(0,enc c),(2,.ptr 2 []),(3,.ptr 3 []),(4,.int .i64 (c4 c i).1),(5,.int .i64 i)] [(1,.bT 63 7 ((c4 c i).2.map enc)),(2,.box (.agg [enc (a5 0 0 0 0 0),.int .i64 0,.nils 7])),(3,.box (.agg [enc w,.int .i64 f,.own 1 (c4 c i).2.length]))]) (fun i=>i≤12) (fun i=>12-i) 0 (by omega) ?_ (fun i hi =>?_))
 ·refine aD.qF 3 1 63 7 7 [2] (.agg [enc w,.int .i64 f,.nils 7]) ?_ rfl ?_ ?_
  ·try simp only[U,simprocAttr]
  ·try simp only[U,simprocAttr]
  ·have e1:(I.agg [enc w,.int .i64 f,.nils 7]).dz [2] (.own 1 0)=.agg [enc w,.int .i64 f,.own 1 0]:=rfl
   rw[e1]
   simp only[c4,List.map_nil,List.length_nil]
   refine aD.bM ?_ ?_ ?_ ?_ <;>simp[aV,bF,bE,a7,au,aY,ct,I.only,I.bR,ai.only,bh]
 obtain ⟨b1,b2,b3,_,_⟩:=yh c i
 have q4:=K4 (c.getD i 0)
 have fin12:¬ (i<c.length∧i<12∧(c4 c i).2.length<9)→(mK c).given=(c4 c i).2:=by
  intro hn
  by_cases e:i=12
  ·subst e;rfl
  ·have:c4 c 12=c4 c i:=KV (fun hh=>hn ⟨hh.1,by omega,hh.2⟩) 12 hi
   simp only[mK,jW,this]
 refine ab.seq (ab.seq ?_)
 refine .bl (by decide +kernel) fun K hK =>?_
 simp only[Io,U,simprocAttr]
 try simp only[bn,U,simprocAttr]
 generalize hz:decide ((i:Int)<c.length)=bz
 cases bz
 ·have hout:=fin12 (fun hh=>by simp at hz;omega)
  try simp only[U,simprocAttr]
  refine .done (hK _ ?_);clear hK K;try simp only[aq]
  refine ab.bC ?_
  simp only[ar,U,simprocAttr]
  refine ⟨fun h =>?_,fun h =>?_⟩
  ·cases h
  refine ab.exit ?_;try simp only[aq,bN,simprocAttr]
  refine .ao (by decide +kernel) fun K hK =>?_
  simp only[tk,U,simprocAttr]
  obtain ⟨s1,s2,s3⟩:=mz w f (.own 1 (c4 c i).2.length) rfl rfl rfl
  try simp only[s2,U,simprocAttr]
  rw[ev s1 s2 (s3.trans (mz (a5 0 0 0 0 0) 0 (.nils 7) rfl rfl rfl).2.2.symm)]
  try simp only[gi,U,simprocAttr]
  refine .done (hK _ ?_);clear hK K
  refine ab.ret ?_
  simp only[U,simprocAttr]
  try simp only[s2,nz (α:=b9) 7 rfl rfl,cH,U,simprocAttr]
  have hfin:(⟨w,f,(c4 c i).2⟩:bZ)=mK c:=by rw[←hout,hw,hf];rfl
  rw[qR,hfin]
 have hic:i<c.length:=by simpa using hz
 try simp only[U,simprocAttr]
 generalize hz2:decide ((i:Int)<12)=bz
 cases bz
 ·have hout:=fin12 (fun hh=>by simp at hz2;omega)
  try simp only[U,simprocAttr]
  refine .done (hK _ ?_);clear hK K
  refine ab.bC ?_
  simp only[ar,U,simprocAttr]
  refine ⟨fun h =>?_,fun h =>?_⟩
  ·cases h
  refine ab.exit ?_;try simp only[aq,bN,simprocAttr]
  refine .ao (by decide +kernel) fun K hK =>?_
  simp only[tk,U,simprocAttr]
  obtain ⟨s1,s2,s3⟩:=mz w f (.own 1 (c4 c i).2.length) rfl rfl rfl
  try simp only[s2,U,simprocAttr]
  rw[ev s1 s2 (s3.trans (mz (a5 0 0 0 0 0) 0 (.nils 7) rfl rfl rfl).2.2.symm)]
  try simp only[gi,U,simprocAttr]
  refine .done (hK _ ?_);clear hK K
  refine ab.ret ?_
  simp only[U,simprocAttr]
  try simp only[s2,nz (α:=b9) 7 rfl rfl,cH,U,simprocAttr]
  have hfin:(⟨w,f,(c4 c i).2⟩:bZ)=mK c:=by rw[←hout,hw,hf];rfl
  rw[qR,hfin]
 have hi12:i<12:=by simp at hz2;omega
 try simp only[yE,cD,U,simprocAttr]
 rw[aic _ 1 _ 63 7 (c4 c i).2 (by simp only[U,simprocAttr]) rfl]
 try simp only[U,simprocAttr]
 generalize hz3:decide (((c4 c i).2.length:Int)<9)=bz
 cases bz
 ·have hout:=fin12 (fun hh=>by simp at hz3;omega)
  try simp only[cD,bn,gq,cH,U,simprocAttr]
  refine .done (hK _ ?_);clear hK K
  refine ab.bC ?_
  simp only[ar,U,simprocAttr]
  refine ⟨fun h =>?_,fun h =>?_⟩
  ·cases h
  refine ab.exit ?_;try simp only[aq,bN,simprocAttr]
  refine .ao (by decide +kernel) fun K hK =>?_
  simp only[tk,U,simprocAttr]
  obtain ⟨s1,s2,s3⟩:=mz w f (.own 1 (c4 c i).2.length) rfl rfl rfl
  try simp only[s2,U,simprocAttr]
  rw[ev s1 s2 (s3.trans (mz (a5 0 0 0 0 0) 0 (.nils 7) rfl rfl rfl).2.2.symm)]
  try simp only[gi,U,simprocAttr]
  refine .done (hK _ ?_);clear hK K
  refine ab.ret ?_
  simp only[U,simprocAttr]
  try simp only[s2,nz (α:=b9) 7 rfl rfl,cH,U,simprocAttr]
  have hfin:(⟨w,f,(c4 c i).2⟩:bZ)=mK c:=by rw[←hout,hw,hf];rfl
  rw[qR,hfin]
 have hi9:(c4 c i).2.length<9:=by simp at hz3;omega
 try simp only[cD,bn,gq,cH,U,simprocAttr]
 refine .done (hK _ ?_);clear hK K
 refine ab.bC ?_
 simp only[ar,U,simprocAttr]
 refine ⟨fun h =>?_,fun h =>?_⟩
 case refine_2.true.true.true.refine_2=>cases h
 have hbk:yI ⟨w,f,(c4 c i).2⟩:=by rw[hw,hf];exact ajU (Lt c (by omega))
 have hstep:c4 c (i+1)=rE c i (c4 c i):=by simp only[c4,if_pos (show i<c.length∧(c4 c i).2.length<9 from ⟨hic,hi9⟩)]
 generalize c4 c i=p at *
 obtain ⟨o,l⟩:=p
 simp only at *
 refine ab.skip ?_;try simp only[aq,simprocAttr]
 refine ab.seq (ab.block ?_)
 refine .ao (by decide +kernel) fun K hK =>?_
 simp only[Ip,U,simprocAttr]
 try simp only[xT hic,U,simprocAttr]
 refine .flat _ (gI (c.getD i 0) 4 (by decide) (by decide)) rfl ?_
 try simp only[U,simprocAttr]
 rw[cA _ (show -9223372036854775808≤1+c.getD i 0%4 by omega) (by omega),cA _ (by omega) (by omega)]
 refine .done (hK _ ?_);clear hK K
 obtain ⟨o2,ho2⟩:∃ o2,o2=o+(1+c.getD i 0%4):=⟨_,rfl⟩
 rw[←ho2]
 refine .ao (by decide +kernel) fun K hK =>?_
 simp only[Iq,U,simprocAttr]
 try simp only[xT hic,U,simprocAttr]
 rw[cA ((i:Int)*2503) (by omega) (by omega)]
 refine .flat _ (gI _ 15625 (by decide) (by decide)) rfl ?_
 try simp only[U,simprocAttr]
 refine .lead _ (Qv _) ?_
 have hmark:ki (IntKind.i64.wrap (IntKind.i64.wrap (c.getD i 0*7)+i*2503)%15625) 6=(lY c i 0).mark:=rfl
 rw[hmark]
 obtain ⟨mk,hmk⟩:∃ mk,mk=(lY c i 0).mark:=⟨_,rfl⟩
 rw[←hmk]
 try simp only[Ds,RH,Y8,alF,U,simprocAttr]
 refine .done (hK _ ?_);clear hK K
 obtain ⟨s1,s2,s3⟩:=mz w f (.own 1 l.length) rfl rfl rfl
 have hokm:dT mk=true:=by rw[hmk];exact Lv _
 refine .ao (by decide +kernel) fun K hK =>?_
 simp only[Ir,U,simprocAttr]
 try simp only[s2,nz (α:=b9) 7 rfl rfl,cD,qR,cH,U,simprocAttr]
 refine .flat _ (Qw ⟨w,f,l⟩ mk hbk hokm) rfl ?_
 obtain ⟨near,hnear⟩:∃ near,near=l.any (fun h=>kb ⟨w,f,l⟩ h.mark mk):=⟨_,rfl⟩
 have hst:c4 c (i+1)=(o2,if near then l else l++[⟨o2,mk⟩]):=by
  rw[hstep,rE,hnear,ho2,hmk,hw,hf];rfl
 have hnear':(l.any fun g=>decide ((eG (iV w g.mark mk) 6:Int)≤IntKind.i64.wrap (2*f)))=near:=by rw[hnear];rfl
 try simp only[hnear',U,simprocAttr]
 refine .done (hK _ ?_);clear hK K
 cases near
 ·rw[if_neg (by simp)] at hst
  refine ab.bC ?_
  simp only[ar,U,simprocAttr]
  refine ⟨fun h =>?_,fun h =>?_⟩
  ·refine .bl (by decide +kernel) fun K hK =>?_
   simp only[Is,U,simprocAttr]
   try simp only[yE,nq 7 (⟨o2,mk⟩:b9) rfl,cD,cH,U,simprocAttr]
   rw[lB (α:=b9) 63 7 56 1 rfl rfl (by simp) (by simp[maxLen];omega) (by simp;omega)]
   try simp only[yE,cD,U,simprocAttr]
   rw[ev (s:=none) (v:=.own 1 (l++[(⟨o2,mk⟩:b9)]).length) (old:=.own 1 l.length) rfl rfl rfl]
   have hset:(I.agg [enc w,.int .i64 f,.own 1 l.length]).dz [2] (.own 1 (l++[(⟨o2,mk⟩:b9)]).length)=.agg [enc w,.int .i64 f,.own 1 (l++[(⟨o2,mk⟩:b9)]).length]:=rfl
   try simp only[hset,U,simprocAttr]
   refine .done (hK _ ?_);clear hK K;try simp only[aq,bN]
   refine .bl (by decide +kernel) fun K hK =>?_
   simp only[xk,U,simprocAttr]
   refine .done (hK _ ?_);clear hK K;try simp only[aq]
   refine ⟨i+1,by omega,by omega,?_⟩
   rw[cA _ (by omega) (by omega),hst]
   refine aD.bM ?_ ?_ ?_ ?_ <;>simp[aV,bF,bE,a7,au,aY,ct,I.only,I.bR,ai.only,dN,gG,bh]
  ·cases h
 ·rw[if_pos rfl] at hst
  refine ab.bC ?_
  simp only[ar,U,simprocAttr]
  refine ⟨fun h =>?_,fun h =>?_⟩
  ·cases h
  refine ab.skip ?_;try simp only[aq,bN,simprocAttr]
  refine .bl (by decide +kernel) fun K hK =>?_
  simp only[xk,U,simprocAttr]
  refine .done (hK _ ?_);clear hK K;try simp only[aq]
  refine ⟨i+1,by omega,by omega,?_⟩
  rw[cA _ (by omega) (by omega),hst]
  refine aD.bM ?_ ?_ ?_ ?_ <;>simp[aV,bF,bE,a7,au,aY,ct,I.only,I.bR,ai.only,dN,bh]
theorem dx.yO{aC:Bool}{ρ:List (Nat×Nat)}{k:Nat}{x:ai}{os0:List (Nat×ai)}{r c:I}(h1:∀ p,c.only p=true)(h2:aC=true→c.cP=true)(h3:r.only (au [(k,.box c)])=true)(h4:aC=true→r.cP=true):dx aC ρ [(k,x)] os0 r [(k,.box c)]:=by
 refine ⟨fun m x h =>?_,fun m m' h h' _ =>?_,fun m h =>?_,fun m h h' =>?_,h3,h4⟩
 ·simp only[al] at h
  split at h
  ·simp only[Option.some.injEq] at h;subst h;exact ⟨h1 _,rfl,h2⟩
  ·cases h
 ·rw[cW.1 h,cW.1 h']
 ·rw[cW.1 h];exact cW.2 rfl
 ·rw[cW.1 h] at h'
  have:au [(k,x)] k=true:=cW.2 rfl
  rw[this] at h';cases h'
theorem dx.oa{aC:Bool}{ρ:List (Nat×Nat)}{k k' d d':Nat}{x:ai}{os0:List (Nat×ai)}{r c c':I}(hk:bD ρ k=d)(hk':bD ρ k'=d')(hd:d≠d')(hne:k≠k')(h1:∀ p,c.only p=true)(h2:aC=true→c.cP=true)(h1':∀ p,c'.only p=true)(h2':aC=true→c'.cP=true)
  (h3:r.only (au [(k,.box c),(k',.box c')])=true) (h4:aC=true→r.cP=true) (h5:al os0 d=none) (h6:d<1000000):dx aC ρ [(k',x)] os0 r [(k,.box c),(k',.box c')]:=by
 have oa:∀ m,au [(k,ai.box c),(k',ai.box c')] m=true→m=k∨m=k':=fun m h=>by
  simp only[au,al] at h
  split at h
  ·rename_i e;exact .inl e
  ·split at h
   ·rename_i e;exact .inr e
   ·cases h
 refine ⟨fun m y h =>?_,fun m m' h h' e =>?_,fun m h =>?_,fun m h h' =>?_,h3,h4⟩
 ·simp only[al] at h
  split at h
  ·simp only[Option.some.injEq] at h;subst h;exact ⟨h1 _,rfl,h2⟩
  ·split at h
   ·simp only[Option.some.injEq] at h;subst h;exact ⟨h1' _,rfl,h2'⟩
   ·cases h
 ·rcases oa m h with rfl | rfl <;>rcases oa m' h' with rfl | rfl
  ·rfl
  ·rw[hk,hk'] at e;exact absurd e hd
  ·rw[hk,hk'] at e;exact absurd e.symm hd
  ·rfl
 ·rw[cW.1 h]
  simp[au,al,Ne.symm hne]
 ·rcases oa m h with rfl | rfl
  ·rw[hk];exact ⟨h5,h6⟩
  ·have:au [(m,x)] m=true:=cW.2 rfl
   rw[this] at h';cases h'
theorem tO(p:Nat→Bool)(l:List ak):(I.agg (l.map enc)).only p=true:=by simp only[I.only];exact dN p l
theorem Qq(l:List ak)(i:Nat)(hi:i<l.length)(hlen:l.length≤60):aA Tryz.prog 78 [enc l,enc (i:Int)] (enc (e8 l i)):=by
 have hne:l≠[]:=fun e=>by rw[e] at hi;simp at hi
 have hdl:=Di hi
 refine aA.bA Tryz.func78 Ts Vn Xv (Nat.le_of_ble_eq_true rfl) (fun hwf W0 D0 E1 =>?_)
 simp only[Cx,NI,bp,Nat.zero_add]
 clear hwf
 refine .ao (by decide +kernel) fun K hK =>?_
 simp only[Ja,U,simprocAttr]
 refine .done (hK _ ?_);clear hK K
 refine .ao (by decide +kernel) fun K hK =>?_
 simp only[Jb,U,simprocAttr]
 refine .bS false [(7,6)] [] [enc l] (vO l) rfl (zZ l (by omega)) fP.nil ⟨.inl ⟨(hX _ _).symm,bh _ _,dq _⟩,trivial⟩ ?_ ?_
 ·rintro x os' (⟨_,h | h,rfl⟩ | ⟨_,k,rfl,rfl⟩)
  ·subst h;exact dx.nil (fun _=>rfl) (fun h=>by cases h)
  ·subst h;exact dx.nil (fun _=>rfl) (fun h=>by cases h)
  ·exact dx.qa (fun p=>tO p _) (fun h=>by cases h) rfl (fun h=>by cases h) rfl (by decide)
 ·rintro x os' (⟨hn,_,_⟩ | ⟨hn,k,rfl,rfl⟩)
  ·exact absurd hn hne
  try simp only[dG,gh,gu,List.cons_append,List.nil_append,U,simprocAttr]
  rw[cA _ (by omega) (by omega)]
  have hp1:(i:Int)+1=((i+1:Nat):Int):=by omega
  simp only[hp1]
  refine .bS false [(1000000,6)] (dG 1000000 l k) [.view 1000000 [] 17 0 l.length,enc (i:Int),enc ((i+1:Nat):Int)] (Df l i) rfl (PA l i k hi (by omega)) ⟨?_,?_⟩ ⟨.inl ⟨?_,?_,rfl⟩,.inl ⟨rfl,rfl,rfl⟩,.inl ⟨rfl,rfl,rfl⟩,trivial⟩ ?_ ?_
  ·intro n x h
   simp only[dG,al] at h
   split at h
   ·rename_i hn'
    subst hn'
    simp only[Option.some.injEq] at h
    subst h
    exact ⟨by simp only[gh,gu,U,simprocAttr],tO _ _,rfl⟩
   ·cases h
  ·intro a b ha hb _
   rw[cW.1 ha,cW.1 hb]
  ·try simp only[gh,simprocAttr]
  ·exact cW.2 rfl
  ·rintro x os' ⟨q,rfl,rfl⟩
   exact dx.yO (fun p=>tO p _) (fun h=>by cases h) rfl (fun h=>by cases h)
  ·rintro x os' ⟨q,rfl,rfl⟩
   rw[←hdl]
   generalize hL:e8 l i=ay at hdl ⊢
   try simp only[dG,gh,gu,List.cons_append,List.nil_append,U,simprocAttr]
   refine .done (hK _ ?_);clear hK K
   refine ab.ret ?_
   simp only[U,simprocAttr]
   try simp only[qY (α:=ak) (sz:=17) rfl,U,simprocAttr]
   rw[hL];simp
theorem Pz(a b:List Int):aA Tryz.prog 134 [enc a,enc b] (enc (decide (a=b))):=by
 refine aA.bA Tryz.func134 Sf Ua Wf (Nat.le_of_ble_eq_true rfl) (fun hwf W0 D0 E1 =>?_)
 simp only[Bj,Mq,bp,Nat.zero_add]
 have hlen:a.length≤maxLen:=((kJ a).1 hwf.1).1
 simp only[maxLen] at hlen
 clear hwf
 by_cases hl:a.length=b.length
 case neg =>
  have hn:((a.length:Int) != (b.length:Int))=true:=by simp;omega
  have R:=And.intro @hn (And.intro @bn (And.intro @a6 @U))
  repeat' ((first
   |(with_reducible refine .guard (fun hb =>?_) (fun hb =>?_) <;>try simp only[hb])
   |refine ab.aO (by decide +kernel) rfl fun K hK =>?_
   |(refine .aI [0,1,4,5,10,12,13,14,24] hK ?_;clear hK K)
   |(with_reducible refine .done (hK _ ?_);clear hK K)
   |refine ab.of rfl ?_
   |(with_reducible refine ar.aL (fun h =>?_) (fun h =>?_) <;>try simp only[h])) <;>try simp only[aQ,R,simprocAttr])
  all_goals clear R
  have:¬ a=b:=fun e=>hl (by rw[e])
  simp[this]
 have hn:((a.length:Int) != (b.length:Int))=false:=by simp;omega
 have R:=And.intro @hn (And.intro @bn (And.intro @a6 @U))
 repeat' ((first
  |(with_reducible refine .guard (fun hb =>?_) (fun hb =>?_) <;>try simp only[hb])
  |refine ab.aO (by decide +kernel) rfl fun K hK =>?_
  |(refine .aI [0,1,4,5,10,12,13,14,24] hK ?_;clear hK K)
  |(with_reducible refine .done (hK _ ?_);clear hK K)
  |refine ab.of rfl ?_
  |(with_reducible refine ar.aL (fun h =>?_) (fun h =>?_) <;>try simp only[h])) <;>try simp only[aQ,R,simprocAttr])
 all_goals clear R
 refine ab.loop (fun i:Nat=>av [(0,enc a),(1,enc b),(12,.int .i64 a.length),(13,.int .i64 i)] []) (fun i=>i≤a.length∧∀ k,k<i→a[k]?=b[k]?) (fun i=>a.length-i) 0 ⟨Nat.zero_le _,fun k h=>by omega⟩ ?_ (fun i hi =>?_)
 ·refine aD.bM ?_ ?_ ?_ ?_ <;>simp[aV,bF,bE,a7,aY,I.only,bh]
 obtain ⟨hi1,hi2⟩:=hi
 by_cases hlt:i<a.length
 ·have hc:=gD hlt
  have he:=fun A=>fI (A:=A) 1 hlt rfl
  have hlt2:i<b.length:=by omega
  have he2:=fun A=>fI (A:=A) 1 hlt2 rfl
  have hw:=ft (i:=i) (by omega)
  rcases hp:(a[i] != b[i])
  ·have R:=And.intro @hc (And.intro @he (And.intro @he2 (And.intro @hp (And.intro @hw (And.intro @gq (And.intro @bn @U))))))
   repeat' ((first
    |(with_reducible refine .guard (fun hb =>?_) (fun hb =>?_) <;>try simp only[hb])
    |refine ab.aO (by decide +kernel) rfl fun K hK =>?_
    |(refine .aI [0,1,4,5,10,12,13,14,24] hK ?_;clear hK K)
    |(with_reducible refine .done (hK _ ?_);clear hK K)
    |refine ab.of rfl ?_
    |(with_reducible refine ar.aL (fun h =>?_) (fun h =>?_) <;>try simp only[h])) <;>try simp only[aQ,R,simprocAttr])
   all_goals clear R
   refine ⟨i+1,⟨by omega,fun k hk =>?_⟩,by omega,?_⟩
   ·by_cases e:k=i
    ·subst e
     have:a[k]=b[k]:=by simpa using hp
     simp[hlt,hlt2,this]
    ·exact hi2 k (by omega)
   ·refine aD.bM ?_ ?_ ?_ ?_ <;>simp[aV,bF,bE,a7,aY,I.only,bh]
  ·have R:=And.intro @hc (And.intro @he (And.intro @he2 (And.intro @hp (And.intro @gq (And.intro @bn @U)))))
   repeat' ((first
    |(with_reducible refine .guard (fun hb =>?_) (fun hb =>?_) <;>try simp only[hb])
    |refine ab.aO (by decide +kernel) rfl fun K hK =>?_
    |(refine .aI [0,1,4,5,10,12,13,14,24] hK ?_;clear hK K)
    |(with_reducible refine .done (hK _ ?_);clear hK K)
    |refine ab.of rfl ?_
    |(with_reducible refine ar.aL (fun h =>?_) (fun h =>?_) <;>try simp only[h])) <;>try simp only[aQ,R,simprocAttr])
   all_goals clear R
   have:¬ a=b:=fun e=>by subst e;simp at hp
   simp[this]
 ·have hc:=ib hlt
  have R:=And.intro @hc (And.intro @bn @U)
  repeat' ((first
   |(with_reducible refine .guard (fun hb =>?_) (fun hb =>?_) <;>try simp only[hb])
   |refine ab.aO (by decide +kernel) rfl fun K hK =>?_
   |(refine .aI [0,1,4,5,10,12,13,14,24] hK ?_;clear hK K)
   |(with_reducible refine .done (hK _ ?_);clear hK K)
   |refine ab.of rfl ?_
   |(with_reducible refine ar.aL (fun h =>?_) (fun h =>?_) <;>try simp only[h])) <;>try simp only[aQ,R,simprocAttr])
  all_goals clear R
  have:a=b:=List.ext_getElem? fun k=>by
   by_cases hk:k<i
   ·exact hi2 k hk
   ·rw[List.getElem?_eq_none (by omega),List.getElem?_eq_none (by omega)]
  simp[this]
def sF(b:aU):aS 8 Int:=⟨[b.no,b.dA,b.e7,b.bP,b.jR,b.born,b.dU,if b.found then 1 else 0],rfl⟩
theorem RG(a b c d e f g h:Int):(dY [.int .i64 0,.int .i64 0,.int .i64 0,.int .i64 0,.int .i64 0,.int .i64 0,.int .i64 0,.int .i64 0] [(0,.int .i64 a),(1,.int .i64 b),(2,.int .i64 c),(3,.int .i64 d),(4,.int .i64 e),(5,.int .i64 f),(6,.int .i64 g),(7,.int .i64 h)])=some [.int .i64 a,.int .i64 b,.int .i64 c,.int .i64 d,.int .i64 e,.int .i64 f,.int .i64 g,.int .i64 h]:=by simp[dY,I.cj,I.size]
theorem aly{A:af}{n:Nat}{w:I}{a b c d e f g h a' b' c' d' e' f' g' h':Int}{rest:List aB} : dQ A (some 8) n [] w (.agg [.int .i64 a,.int .i64 b,.int .i64 c,.int .i64 d,.int .i64 e,.int .i64 f,.int .i64 g,.int .i64 h]) rest (some (.agg [.int .i64 a',.int .i64 b',.int .i64 c',.int .i64 d',.int .i64 e',.int .i64 f',.int .i64 g',.int .i64 h'])) =
  az rest (A.aK n (.box (.agg [.int .i64 a,.int .i64 b,.int .i64 c,.int .i64 d,.int .i64 e,.int .i64 f,.int .i64 g,.int .i64 h]))):=by
 refine (ev (s:=some 8) (by rfl) (by rfl) (by rfl)).trans ?_
 rw[gi]
theorem aj4{a b c d e f g h:Int} : bY (some 8) (.agg [.int .i64 a,.int .i64 b,.int .i64 c,.int .i64 d,.int .i64 e,.int .i64 f,.int .i64 g,.int .i64 h])=true:=rfl
theorem zY(b:aU):aA Tryz.prog 133 [.ref (enc (⟨b⟩:eM))] (enc (sF b)):=by
 refine aA.bA Tryz.func133 Se T9 We (Nat.le_of_ble_eq_true rfl) (fun hwf W0 D0 E1 =>?_)
 simp only[Bi,Mp,bp]
 clear hwf
 rcases hf:b.found
 all_goals
  have R:=And.intro @hf (And.intro @RG (And.intro @aly (And.intro @aj4 fu)))
  repeat' ((first
   |(with_reducible refine .guard (fun hb =>?_) (fun hb =>?_) <;>try simp only[hb])
   |refine ab.aO (by decide +kernel) rfl fun K hK =>?_
   |(refine .aI [0,2,3,8] hK ?_;clear hK K)
   |(with_reducible refine .done (hK _ ?_);clear hK K)
   |refine ab.of rfl ?_
   |(with_reducible refine ar.aL (fun h =>?_) (fun h =>?_) <;>try simp only[h])) <;>try simp only[aQ,R,simprocAttr])
  all_goals clear R
  simp[sF,hf];rfl
def j7:Option aU→I
 |none=>.nilp
 |some b=>.ref (enc (⟨b⟩:eM))
def oX(m:bZ):Option aU→Option aU→Bool
 |some a,some b=>decide ((sF a).l=(sF b).l)&&decide ((jf m a.cm).1=(jf m b.cm).1)
 |none,none=>true
 |_,_=>false
theorem y7:mT false (some true) (some false)=some (.bool false):=rfl
theorem Qp(m:bZ)(x y:Option aU):aA Tryz.prog 77 [enc m,j7 x,j7 y] (enc (oX m x y)):=by
 rcases x with _ | a
 ·rcases y with _ | b
  all_goals
   simp only[j7,oX]
   refine aA.bA Tryz.func77 vG vJ vV (Nat.le_of_ble_eq_true rfl) (fun hwf W0 D0 E1 =>?_)
   simp only[sL,ux,bp,Nat.zero_add,Nat.reduceAdd]
   clear hwf
   have R:=And.intro @y7 (And.intro @sV (And.intro @gU fu))
   repeat' ((first
    |(with_reducible refine .guard (fun hb =>?_) (fun hb =>?_) <;>try simp only[hb])
    |refine ab.aO (by decide +kernel) rfl fun K hK =>?_
    |(refine .aI [0,1,2,3,6,7,13] hK ?_;clear hK K)
    |(with_reducible refine .done (hK _ ?_);clear hK K)
    |refine ab.of rfl ?_
    |(with_reducible refine ar.aL (fun h =>?_) (fun h =>?_) <;>try simp only[h])) <;>try simp only[aQ,R,simprocAttr])
   all_goals clear R
 rcases y with _ | b
 ·simp only[j7,oX]
  refine aA.bA Tryz.func77 vG vJ vV (Nat.le_of_ble_eq_true rfl) (fun hwf W0 D0 E1 =>?_)
  simp only[sL,ux,bp,Nat.zero_add,Nat.reduceAdd]
  clear hwf
  have R:=And.intro @y7 (And.intro @sV (And.intro @gU fu))
  repeat' ((first
   |(with_reducible refine .guard (fun hb =>?_) (fun hb =>?_) <;>try simp only[hb])
   |refine ab.aO (by decide +kernel) rfl fun K hK =>?_
   |(refine .aI [0,1,2,3,6,7,13] hK ?_;clear hK K)
   |(with_reducible refine .done (hK _ ?_);clear hK K)
   |refine ab.of rfl ?_
   |(with_reducible refine ar.aL (fun h =>?_) (fun h =>?_) <;>try simp only[h])) <;>try simp only[aQ,R,simprocAttr])
  all_goals clear R
 simp only[j7,oX]
 refine aA.bA Tryz.func77 vG vJ vV (Nat.le_of_ble_eq_true rfl) (fun hwf W0 D0 E1 =>?_)
 simp only[sL,ux,bp,Nat.zero_add,Nat.reduceAdd]
 clear hwf
 have ha:=sq m a
 have hyB:=sq m b
 have h3:=zY a
 have h4:=zY b
 have R:=And.intro @y7 (And.intro @sV (And.intro @gU fu))
 repeat' ((first
  |(with_reducible refine .guard (fun hb =>?_) (fun hb =>?_) <;>try simp only[hb])
  |refine ab.aO (by decide +kernel) rfl fun K hK =>?_
  |refine .flat _ (h3) rfl ?_
  |refine .flat _ (h4) rfl ?_
  |refine .lead _ (ha) ?_
  |refine .lead _ (hyB) ?_
  |refine .flat _ (Pz _ _) rfl ?_
  |(refine .aI [0,1,2,3,6,7,13] hK ?_;clear hK K)
  |(with_reducible refine .done (hK _ ?_);clear hK K)
  |refine ab.of rfl ?_
  |(with_reducible refine ar.aL (fun h =>?_) (fun h =>?_) <;>try simp only[h])) <;>try simp only[aQ,R,List.cons_append,simprocAttr])
 all_goals clear R
 all_goals simp_all
def uH(m:bZ)(l:List ak)(no known:Int)(i:Nat):Bool := !oX m (dF (cS l 100000 known) no) (dF (cS (e8 l i) 100000 known) no)
def jG(m:bZ)(l:List ak)(no known:Int)(n:Nat):List Item:=((List.range n).filter (uH m l no known)).map fun i=>(ae l i).aX
theorem akY(m:bZ)(l:List ak)(no known:Int)(n:Nat):jG m l no known (n+1)=jG m l no known n++if uH m l no known n then [(ae l n).aX] else []:=by
 simp only[jG,List.range_succ,List.filter_append,List.map_append,List.filter_cons,List.filter_nil]
 congr 1
 split <;>rfl
theorem akX(m:bZ)(l:List ak)(no known:Int)(n:Nat):(jG m l no known n).length≤n:=by
 simp only[jG,List.length_map]
 have:=List.length_filter_le (uH m l no known) (List.range n)
 simpa using this
def uI(m:bZ)(l:List ak)(no known:Int):List Item×Int:=if (lC m l no known).2=0 then (jG m l no known l.length,0) else ([],(lC m l no known).2)
theorem Rj{m:bZ}{l:List ak}{no known:Int}(h:(lC m l no known).2=0):dc l=true:=by
 simp only[lC] at h
 repeat' split at h
 all_goals first | (exact oo (by assumption)) | (simp_all;done) | exact oo h
theorem LH(p:Nat→Bool)(x:Option aU):(j7 x).only p=true:=by cases x <;>simp[j7,I.only,bh]
theorem rI{l:List ak} : dc l=true↔l.length≤60∧(∀ x∈l,gS x=true)∧l.Pairwise fun a b=>before a.aX b.aX=true:=by
 constructor
 ·intro h
  refine ⟨kY h,fun x hx =>?_,List.pairwise_iff_getElem.2 fun i j hi hj hij =>?_⟩
  ·obtain ⟨i,hi,rfl⟩:=List.getElem_of_mem hx
   have:=yK h hi
   rwa [←fb hi] at this
  ·have:=Lo h hij hj
   rwa [←fb hi,←fb hj] at this
 ·rintro ⟨h1,h2,h3⟩
  refine Lm h1 fun i hi =>?_
  simp only[kz,Bool.and_eq_true,Bool.or_eq_true,decide_eq_true_eq]
  refine ⟨by rw[←fb hi];exact h2 _ (List.getElem_mem hi),?_⟩
  by_cases h0:i=0
  ·exact .inl h0
  ·right
   have:=List.pairwise_iff_getElem.1 h3 (i-1) i (by omega) hi (by omega)
   rwa [fb,fb] at this
theorem oM{l l':List ak}(hs:l'.Sublist l)(h:dc l=true):dc l'=true:=by
 obtain ⟨h1,h2,h3⟩:=rI.1 h
 exact rI.2 ⟨Nat.le_trans hs.length_le h1,fun x hx=>h2 x (hs.subset hx),h3.sublist hs⟩
theorem YI(l:List ak)(i:Nat):(e8 l i).Sublist l:=by
 have:=(List.take_append_drop i l)
 simp only[e8]
 conv=>rhs;rw[←this]
 refine List.Sublist.append_left ?_ _
 rw[←List.drop_drop]
 exact List.drop_sublist _ _
theorem ajT{l:List ak}(hok:dc l=true)(i:Nat):dc (e8 l i)=true:=oM (YI l i) hok
theorem P4(m:bZ)(l:List ak)(no known:Int):aA Tryz.prog 18 [enc m,enc l,enc no,enc known] (.tuple [enc (uI m l no known).1,enc (uI m l no known).2]):=by
 refine aA.bA Tryz.func18 SN UJ WQ (Nat.le_of_ble_eq_true rfl) (fun hwf W0 D0 E1 =>?_)
 simp only[BT,M0,bp,Nat.zero_add,Nat.reduceAdd]
 clear hwf
 have hC:=u9 m l no known
 simp only[uI]
 have hok0:=Rj (m:=m) (l:=l) (no:=no) (known:=known)
 generalize lC m l no known=e at hC hok0 ⊢
 obtain ⟨e1,e2⟩:=e
 simp only at hC hok0 ⊢
 by_cases he:e2=0
 case neg =>
  have hn:=p8 he
  have R:=And.intro @hn (And.intro @he (And.intro @gU fu))
  repeat' ((first
   |(with_reducible refine .guard (fun hb =>?_) (fun hb =>?_) <;>try simp only[hb])
   |refine ab.aO (by decide +kernel) rfl fun K hK =>?_
   |refine .lead _ (hC) ?_
   |(refine .aI [0,1,2,3,4,8,9,11,12,13,14,15,25,35,36,37,38,55] hK ?_;clear hK K)
   |(with_reducible refine .done (hK _ ?_);clear hK K)
   |refine ab.of rfl ?_
   |(with_reducible refine ar.aL (fun h =>?_) (fun h =>?_) <;>try simp only[h])) <;>try simp only[aQ,R,simprocAttr])
  all_goals clear R
  all_goals rfl
 have hn:=p7 he
 have hok:=hok0 he
 subst he
 have hF:=sn l known hok
 have hk:=tI (cS l 100000 known) no
 have hx:gC (.i .i64) .nilp (.int .i64 no) (dj (cS l 100000 known)) ((cS l 100000 known).map fun b=>.ref (enc (⟨b⟩:eM)))=some (j7 (dF (cS l 100000 known) no),(dF (cS l 100000 known) no).isSome):=by
  rw[hk];cases dF (cS l 100000 known) no <;>rfl
 have hlen:=kY hok
 have R:=And.intro @hn (And.intro @hx (And.intro @gU fu))
 repeat' ((first
  |(with_reducible refine .guard (fun hb =>?_) (fun hb =>?_) <;>try simp only[hb])
  |refine ab.aO (by decide +kernel) rfl fun K hK =>?_
  |refine .lead _ (hC) ?_
  |refine .lead _ (hF) ?_
  |(refine .aI [0,1,2,3,4,8,9,11,12,13,14,15,25,35,36,37,38,55] hK ?_;clear hK K)
  |(with_reducible refine .done (hK _ ?_);clear hK K)
  |refine ab.of rfl ?_
  |(with_reducible refine ar.aL (fun h =>?_) (fun h =>?_) <;>try simp only[h])) <;>try simp only[aQ,R,simprocAttr])
 all_goals clear R
 refine ab.loop (fun i:Nat=>av [(1,enc l),(2,.int .i64 no),(3,.int .i64 known),(4,.ptr 4 []),(12,j7 (dF (cS l 100000 known) no)),(13,.own 913 (jG m l no known i).length),(35,enc l),(36,.int .i64 l.length),(37,.int .i64 i)] [(4,.box (enc m)),(913,.bT 65 2 ((jG m l no known i).map enc))]) (fun i=>i≤l.length) (fun i=>l.length-i) 0 (Nat.zero_le _) ?_ (fun i hi =>?_)
 ·refine aD.qG 13 913 65 2 2 rfl rfl ?_
  simp only[jG,List.range_zero,List.filter_nil,List.map_nil,List.length_nil]
  refine aD.bM ?_ ?_ ?_ ?_ <;>simp[*,aV,bF,bE,a7,au,aY,ct,I.only,I.bR,ai.only,bh,LH]
 have hRl:=akX m l no known i
 by_cases hlt:i<l.length
 ·have hc:=gD hlt
  have he:=fun A=>jV (A:=A) hlt
  have hw:=ft (i:=i) (by omega)
  have hD:=Qq l i hlt hlen
  have hokd:=ajT hok i
  have hF2:=sn (e8 l i) known hokd
  have hk2:=tI (cS (e8 l i) 100000 known) no
  have hx2:gC (.i .i64) .nilp (.int .i64 no) (dj (cS (e8 l i) 100000 known)) ((cS (e8 l i) 100000 known).map fun b=>.ref (enc (⟨b⟩:eM)))=some (j7 (dF (cS (e8 l i) 100000 known) no),(dF (cS (e8 l i) 100000 known) no).isSome):=by
   rw[hk2];cases dF (cS (e8 l i) 100000 known) no <;>rfl
  have hS:=Qp m (dF (cS l 100000 known) no) (dF (cS (e8 l i) 100000 known) no)
  have hsu:=akY m l no known i
  have hp:uH m l no known i = !oX m (dF (cS l 100000 known) no) (dF (cS (e8 l i) 100000 known) no):=rfl
  rw[hp] at hsu
  generalize oX m (dF (cS l 100000 known) no) (dF (cS (e8 l i) 100000 known) no)=b at hS hsu
  have happ:=fun (A:af) d rest=>lB (α:=Item) (A:=A) (d:=d) 65 2 16 913 (l:=(jG m l no known i).length) (es:=jG m l no known i) (ys:=[(ae l i).aX]) (rest:=rest) rfl rfl (by simp) (by simp[maxLen];omega) (by simp;omega)
  have hbs:=nq 2 (ae l i).aX rfl
  have hol:(∀ aC A x,br aC A (j7 x)=some (j7 x)):=fun aC A x=>by cases x <;>simp[j7,br,dV]
  cases b
  all_goals
   simp only[Bool.not_true,Bool.not_false,if_true,Bool.false_eq_true,if_false,List.append_nil] at hsu
   have R:=And.intro @hc (And.intro @he (And.intro @hw (And.intro @hx2 (And.intro @happ (And.intro @hbs (And.intro @hol (And.intro @gU fu)))))))
   repeat' ((first
    |(with_reducible refine .guard (fun hb =>?_) (fun hb =>?_) <;>try simp only[hb])
    |refine ab.aO (by decide +kernel) rfl fun K hK =>?_
    |refine .lead _ (hD) ?_
    |refine .lead _ (hF2) ?_
    |refine .flat _ (hS) rfl ?_
    |(refine .aI [0,1,2,3,4,8,9,11,12,13,14,15,25,35,36,37,38,55] hK ?_;clear hK K)
    |(with_reducible refine .done (hK _ ?_);clear hK K)
    |refine ab.of rfl ?_
    |(with_reducible refine ar.aL (fun h =>?_) (fun h =>?_) <;>try simp only[h])) <;>try simp only[aQ,R,simprocAttr])
   all_goals clear R
   refine ⟨i+1,by omega,by omega,?_⟩
   simp only[hsu]
   refine aD.bM ?_ ?_ ?_ ?_ <;>simp[*,aV,bF,bE,a7,au,aY,ct,I.only,I.bR,ai.only,dN,gG,bh,LH]
 ·have hc:=ib hlt
  have hie:i=l.length:=by omega
  subst hie
  have hfo:ov (jG m l no known l.length).length (some (.bT 65 2 ((jG m l no known l.length).map enc)))=some (enc (jG m l no known l.length)):=nz 2 rfl rfl
  have R:=And.intro @hc (And.intro @hfo (And.intro @bn (And.intro @a6 @U)))
  repeat' ((first
   |(with_reducible refine .guard (fun hb =>?_) (fun hb =>?_) <;>try simp only[hb])
   |refine ab.aO (by decide +kernel) rfl fun K hK =>?_
   |(refine .aI [0,1,2,3,4,8,9,11,12,13,14,15,25,35,36,37,38,55] hK ?_;clear hK K)
   |(with_reducible refine .done (hK _ ?_);clear hK K)
   |refine ab.of rfl ?_
   |(with_reducible refine ar.aL (fun h =>?_) (fun h =>?_) <;>try simp only[h])) <;>try simp only[aQ,R,simprocAttr])
  all_goals clear R
theorem Qf(a b:List Item):aA Tryz.prog 21 [enc a,enc b] (enc (decide (a=b))):=by
 refine aA.bA Tryz.func21 SZ UU W3 (Nat.le_of_ble_eq_true rfl) (fun hwf W0 D0 E1 =>?_)
 simp only[B6,Nc,bp,Nat.zero_add]
 have hlen:a.length≤maxLen:=((kJ a).1 hwf.1).1
 simp only[maxLen] at hlen
 clear hwf
 by_cases hl:a.length=b.length
 case neg =>
  have hn:((a.length:Int) != (b.length:Int))=true:=by simp;omega
  have R:=And.intro @hn (And.intro @bn (And.intro @a6 @U))
  repeat' ((first
   |(with_reducible refine .guard (fun hb =>?_) (fun hb =>?_) <;>try simp only[hb])
   |refine ab.aO (by decide +kernel) rfl fun K hK =>?_
   |(refine .aI [0,1,4,5,10,14,25] hK ?_;clear hK K)
   |(with_reducible refine .done (hK _ ?_);clear hK K)
   |refine ab.of rfl ?_
   |(with_reducible refine ar.aL (fun h =>?_) (fun h =>?_) <;>try simp only[h])) <;>try simp only[aQ,R,simprocAttr])
  all_goals clear R
  have:¬ a=b:=fun e=>hl (by rw[e])
  simp[this]
 have hn:((a.length:Int) != (b.length:Int))=false:=by simp;omega
 have R:=And.intro @hn (And.intro @bn (And.intro @a6 @U))
 repeat' ((first
  |(with_reducible refine .guard (fun hb =>?_) (fun hb =>?_) <;>try simp only[hb])
  |refine ab.aO (by decide +kernel) rfl fun K hK =>?_
  |(refine .aI [0,1,4,5,10,14,25] hK ?_;clear hK K)
  |(with_reducible refine .done (hK _ ?_);clear hK K)
  |refine ab.of rfl ?_
  |(with_reducible refine ar.aL (fun h =>?_) (fun h =>?_) <;>try simp only[h])) <;>try simp only[aQ,R,simprocAttr])
 all_goals clear R
 refine ab.loop (fun i:Nat=>av [(0,enc a),(1,enc b),(5,.int .i64 i)] []) (fun i=>i≤a.length∧∀ k,k<i→a[k]?=b[k]?) (fun i=>a.length-i) 0 ⟨Nat.zero_le _,fun k h=>by omega⟩ ?_ (fun i hi =>?_)
 ·refine aD.bM ?_ ?_ ?_ ?_ <;>simp[aV,bF,bE,a7,aY,I.only,bh]
 obtain ⟨hi1,hi2⟩:=hi
 by_cases hlt:i<a.length
 ·have hc:=gD hlt
  have he:=fun A=>fI (A:=A) 2 hlt rfl
  have hlt2:i<b.length:=by omega
  have he2:=fun A=>fI (A:=A) 2 hlt2 rfl
  have hw:=ft (i:=i) (by omega)
  rcases hp:decide (a[i]=b[i])
  ·have R:=And.intro @hc (And.intro @he (And.intro @he2 (And.intro @hp (And.intro @gq (And.intro @bn (And.intro @a6 @U))))))
   repeat' ((first
    |(with_reducible refine .guard (fun hb =>?_) (fun hb =>?_) <;>try simp only[hb])
    |refine ab.aO (by decide +kernel) rfl fun K hK =>?_
    |(refine .aI [0,1,4,5,10,14,25] hK ?_;clear hK K)
    |(with_reducible refine .done (hK _ ?_);clear hK K)
    |refine ab.of rfl ?_
    |(with_reducible refine ar.aL (fun h =>?_) (fun h =>?_) <;>try simp only[h])) <;>try simp only[aQ,R,simprocAttr])
   all_goals clear R
   have:¬ a=b:=fun e=>by subst e;simp at hp
   simp[this]
  ·have R:=And.intro @hc (And.intro @he (And.intro @he2 (And.intro @hp (And.intro @hw (And.intro @gq (And.intro @bn (And.intro @a6 @U)))))))
   repeat' ((first
    |(with_reducible refine .guard (fun hb =>?_) (fun hb =>?_) <;>try simp only[hb])
    |refine ab.aO (by decide +kernel) rfl fun K hK =>?_
    |(refine .aI [0,1,4,5,10,14,25] hK ?_;clear hK K)
    |(with_reducible refine .done (hK _ ?_);clear hK K)
    |refine ab.of rfl ?_
    |(with_reducible refine ar.aL (fun h =>?_) (fun h =>?_) <;>try simp only[h])) <;>try simp only[aQ,R,simprocAttr])
   all_goals clear R
   refine ⟨i+1,⟨by omega,fun k hk =>?_⟩,by omega,?_⟩
   ·by_cases e:k=i
    ·subst e
     have:a[k]=b[k]:=by simpa using hp
     simp[hlt,hlt2,this]
    ·exact hi2 k (by omega)
   ·refine aD.bM ?_ ?_ ?_ ?_ <;>simp[aV,bF,bE,a7,aY,I.only,bh]
 ·have hc:=ib hlt
  have R:=And.intro @hc (And.intro @bn (And.intro @a6 @U))
  repeat' ((first
   |(with_reducible refine .guard (fun hb =>?_) (fun hb =>?_) <;>try simp only[hb])
   |refine ab.aO (by decide +kernel) rfl fun K hK =>?_
   |(refine .aI [0,1,4,5,10,14,25] hK ?_;clear hK K)
   |(with_reducible refine .done (hK _ ?_);clear hK K)
   |refine ab.of rfl ?_
   |(with_reducible refine ar.aL (fun h =>?_) (fun h =>?_) <;>try simp only[h])) <;>try simp only[aQ,R,simprocAttr])
  all_goals clear R
  have:a=b:=List.ext_getElem? fun k=>by
   by_cases hk:k<i
   ·exact hi2 k hk
   ·rw[List.getElem?_eq_none (by omega),List.getElem?_eq_none (by omega)]
  simp[this]
def jP(a b c d e f:Int):aS 6 Int:=⟨[a,b,c,d,e,f],rfl⟩
def Re(a b c d e:Int):aS 5 Int:=⟨[a,b,c,d,e],rfl⟩
def lN(n k d kn b e7 s o:Int)(r:aS 6 Int)(f:Int):ak:=⟨⟨0,n⟩,k,d,kn,b,e7,s,o,r,⟨0,f⟩⟩
def iZ:List ak:=[lN 0 1 1 1 10 0 3 2 (jP 0 0 0 0 0 0) 0,lN 1 1 5 5 11 10 3 2 (jP 0 0 0 0 0 0) 0,lN 2 2 6 6 20 0 3 0 (jP 0 0 0 0 0 0) 0,lN 3 4 6 6 20 0 0 0 (jP 31 1 1 1 1 31) 0,lN 4 3 7 7 10 0 0 1 (jP 0 0 0 0 0 0) 0,
 lN 5 4 6 9 20 0 0 0 (jP 24 1 1 1 1 31) 0,lN 6 5 10 10 20 0 0 3 (jP 0 0 0 0 0 0) 0,lN 7 4 8 11 11 0 0 0 (jP 1 1 1 1 1 1) 0,lN 8 6 12 12 10 0 0 0 (jP 0 0 0 0 0 0) 0,lN 9 0 0 14 0 0 0 0 (jP 0 0 0 0 0 0) 5]
def lO:bZ:=⟨Re 1 3 4 24 24,0,[⟨1,jP 0 0 0 0 0 0⟩,⟨2,jP 2 0 0 0 0 0⟩,⟨3,jP 3 0 0 0 0 2⟩]⟩
theorem Qr:aA Tryz.prog 81 [] (enc iZ):=by
 refine aA.bA Tryz.func81 Tt Vo Xw (Nat.le_of_ble_eq_true rfl) (fun hwf W0 D0 E1 =>?_)
 simp only[Cy,NJ,bp]
 clear hwf
 refine .ao (by decide +kernel) fun K hK =>?_
 simp only[Jc,U,simprocAttr]
 refine .done (hK _ ?_);clear hK K
 refine .ao (by decide +kernel) fun K hK =>?_
 simp only[Jd,U,simprocAttr]
 try simp only[dY,I.cj,I.size,I.sizes,List.set_cons_zero,List.set_cons_succ,List.getElem?_cons_zero,List.getElem?_cons_succ,and_self,U,simprocAttr]
 simp only[iG]
 rw[if_pos ⟨by rfl,by rfl⟩]
 try simp only[U,simprocAttr]
 refine .done (hK _ ?_);clear hK K
 refine ab.ret ?_
 simp only[U,simprocAttr]
 try simp only[Bool.and_self,U,simprocAttr]
 rfl
theorem Qs:aA Tryz.prog 82 [] (enc lO):=by
 refine aA.bA Tryz.func82 Tu Vp Xx (Nat.le_of_ble_eq_true rfl) (fun hwf W0 D0 E1 =>?_)
 simp only[Cz,NK,bp]
 clear hwf
 refine .ao (by decide +kernel) fun K hK =>?_
 simp only[Je,U,simprocAttr]
 refine .done (hK _ ?_);clear hK K
 refine .ao (by decide +kernel) fun K hK =>?_
 simp only[Jf,U,simprocAttr]
 try simp only[dY,I.cj,I.size,I.sizes,List.set_cons_zero,List.set_cons_succ,List.getElem?_cons_zero,List.getElem?_cons_succ,and_self,U,simprocAttr]
 simp only[iG]
 rw[if_pos ⟨by rfl,by rfl⟩]
 try simp only[dY,I.cj,I.size,I.sizes,List.set_cons_zero,List.set_cons_succ,List.getElem?_cons_zero,List.getElem?_cons_succ,and_self,U,simprocAttr]
 rw[ev (by rfl) (by rfl) (by rfl)]
 try simp only[gi,U,simprocAttr]
 refine .done (hK _ ?_);clear hK K
 refine ab.ret ?_
 simp only[U,simprocAttr]
 rw[if_pos (by rfl)]
 try simp only[Bool.and_self,U,simprocAttr]
 rfl
def oF(x:Int):List Int→List Int
 | []=>[x]
 |y::l=>if x≤y then x::y::l else y::oF x l
def lU:List Int→List Int
 | []=>[]
 |x::l=>oF x (lU l)
theorem xO(x:Int):∀ l,(oF x l).Perm (x::l)
 | []=>.refl _
 |y::l=>by
  simp only[oF]
  split
  ·exact .refl _
  ·exact ((xO x l).cons y).trans (.swap x y l)
theorem Kn(x:Int):∀ l:List Int,l.Pairwise (· ≤ ·)→(oF x l).Pairwise (· ≤ ·)
 | [],_=>by simp[oF]
 |y::l,h=>by
  obtain ⟨h1,h2⟩:=List.pairwise_cons.1 h
  simp only[oF]
  split
  ·rename_i hxy
   refine List.pairwise_cons.2 ⟨fun z hz =>?_,h⟩
   rcases List.mem_cons.1 hz with rfl | hz
   ·exact hxy
   ·have:=h1 z hz;omega
  ·refine List.pairwise_cons.2 ⟨fun z hz =>?_,Kn x l h2⟩
   rcases List.mem_cons.1 ((xO x l).mem_iff.1 hz) with rfl | hz
   ·omega
   ·exact h1 z hz
theorem Kx:∀ l,(lU l).Perm l
 | []=>.refl _
 |x::l=>(xO x _).trans ((Kx l).cons x)
theorem Ky:∀ l,(lU l).Pairwise (· ≤ ·)
 | []=>.nil
 |x::l=>Kn x _ (Ky l)
theorem alx{a b:List Int}(ha:a.Pairwise (· ≤ ·))(hb:b.Pairwise (· ≤ ·))(h:a.Perm b):a=b :=
 List.Perm.eq_of_pairwise (fun x y _ _ h k=>Int.le_antisymm h k) ha hb h
theorem als(l:List Int):(dP l).Pairwise (· ≤ ·):=by
 have hx:=List.pairwise_mergeSort (le:=fun x y:Int=>decide (x≤y)) (by intro a b c;simp;omega) (by intro a b;simp;omega) l
 exact hx.imp fun {a b} h=>by simpa using h
theorem uO(l:List Int):(dP l).Perm l:=List.mergeSort_perm _ _
theorem OG(l:List Int):dP l=lU l:=alx (als l) (Ky l) ((uO l).trans (Kx l).symm)
theorem Zk:nB iZ 10 6 7=(2,0):=by decide +kernel
theorem Zl:lC lO iZ 20 9=([3],0):=by decide +kernel
theorem Zm:lC lO iZ 20 14=([1,2,3],0):=by decide +kernel
theorem Zn:sd lO iZ 11=([11],0):=by
 simp only[sd,OG];decide +kernel
theorem Zo:pE iZ 2 3 7 7=(1,0):=by decide +kernel
theorem Zp:og iZ 12 12=([11,20],0):=by
 simp only[og,OG];decide +kernel
theorem Zq:uI lO iZ 20 9=([⟨0,2⟩,⟨0,5⟩],0):=by decide +kernel
theorem RI(b:Int):dY [.int .i64 0,.int .i64 0] [(1,.int .i64 b)]=some [.int .i64 0,.int .i64 b]:=by simp[dY,I.cj,I.size]
theorem RR(a b c d:Int):iG 2 (some [.agg [.int .i64 a,.int .i64 b],.agg [.int .i64 c,.int .i64 d]])=some (enc ([⟨a,b⟩,⟨c,d⟩]:List Item)):=np (ys:=([⟨a,b⟩,⟨c,d⟩]:List Item)) 2 rfl
theorem RQ(a b c:Int):iG 1 (some [.int .i64 a,.int .i64 b,.int .i64 c])=some (enc [a,b,c]):=np (ys:=[a,b,c]) 1 rfl
theorem alB{A:af}{n:Nat}{b:I}(m:bZ)(x y z:I){rest:List aB}(h:I.aP (.agg [x,y,z])=Enc.aP bZ):dQ A (some 7) n [] b (enc m) rest (some (.agg [x,y,z]))=az rest (A.aK n (.box (enc m))):=by
 refine (ev (s:=some 7) (dq _) (by rw[fZ];rfl) ((eQ m).trans h.symm)).trans ?_
 rw[gi]
theorem Aj:aA Tryz.prog 22 [] (enc true):=by
 have h1:=An iZ 10 6 7
 have h2:=u9 lO iZ 20 9
 have h3:=u9 lO iZ 20 14
 have h4:=PM lO iZ 11
 have h5:=Ao iZ 2 3 7 7
 have h6:=Am iZ 12 12
 have h7:=P4 lO iZ 20 9
 rw[Zk] at h1
 rw[Zl] at h2
 rw[Zm] at h3
 rw[Zn] at h4
 rw[Zo] at h5
 rw[Zp] at h6
 rw[Zq] at h7
 simp only at h1 h2 h3 h4 h5 h6 h7
 have h8:=fun a b=>Ag a b
 refine aA.bA Tryz.func22 S4 U0 W8 (Nat.le_of_ble_eq_true rfl) (fun hwf W0 D0 E1 =>?_)
 simp only[Cb,Ni,bp]
 clear hwf
 have hst:=fun (A:af) (rest:List aB)=>alB (A:=A) (n:=2) (b:=.agg [.agg [.int .i64 0,.int .i64 0,.int .i64 0,.int .i64 0,.int .i64 0],.int .i64 0,.nils 7]) lO (.agg [.int .i64 0,.int .i64 0,.int .i64 0,.int .i64 0,.int .i64 0]) (.int .i64 0) (.nils 7) (rest:=rest) rfl
 have q1:((2:Int)==2)=true:=rfl
 have q2:((1:Int)==1)=true:=rfl
 have q3:((0:Int)==0)=true:=rfl
 have R:=And.intro @hst (And.intro @q1 (And.intro @q2 (And.intro @q3 (And.intro @gU (And.intro @RI (And.intro @RR (And.intro @AS (And.intro @qO (And.intro @RQ (And.intro @a6 @U))))))))))
 repeat' ((first
  |(with_reducible refine .guard (fun hb =>?_) (fun hb =>?_) <;>try simp only[hb])
  |refine ab.aO (by decide +kernel) rfl fun K hK =>?_
  |refine .lead _ (Qr) ?_
  |refine .lead _ (Qs) ?_
  |refine .flat _ (h1) rfl ?_
  |refine .lead _ (h2) ?_
  |refine .lead _ (h3) ?_
  |refine .lead _ (h4) ?_
  |refine .flat _ (h5) rfl ?_
  |refine .lead _ (h6) ?_
  |refine .lead _ (h7) ?_
  |refine .flat _ (Ag _ _) rfl ?_
  |refine .flat _ (Qf _ _) rfl ?_
  |(refine .aI [0,1,2,3,4,5,6,7,8,9,10,11,12,13,14,15,16,17] hK ?_;clear hK K)
  |(with_reducible refine .done (hK _ ?_);clear hK K)
  |refine ab.of rfl ?_
  |(with_reducible refine ar.aL (fun h =>?_) (fun h =>?_) <;>try simp only[h])) <;>try simp only[aQ,R,decide_true,simprocAttr])
 all_goals clear R
 all_goals trace_state
theorem VS(k:Nat):∀ n,eG (fun i=>i==k) n=if k<n then 1 else 0
 |0=>by simp[eG]
 |n+1=>by
  simp only[eG,VS k n]
  by_cases h:n=k
  ·subst h;simp
  ·have h2:(n==k)=false:=by simp[h]
   simp only[h2,Bool.false_eq_true,if_false]
   by_cases h3:k<n
   ·rw[if_pos h3,if_pos (by omega)]
   ·rw[if_neg h3,if_neg (by omega)]
theorem Lw{r:aS 6 Int}(h:il r=true){j:Nat}(hj:j<6):1≤r.g j∧r.g j≤31:=by
 simp only[il,List.all_eq_true,List.mem_range] at h
 have:=h j hj
 simpa only[cq,Bool.and_eq_true,decide_eq_true_eq] using this
theorem Lx{r:aS 6 Int}(h:∀ j,j<6→1≤r.g j∧r.g j≤31):il r=true:=by
 simp only[il,List.all_eq_true,List.mem_range]
 intro j hj
 simp[cq,h j hj]
def rJ(r:aS 6 Int)(j:Nat):Prop:=∃ k:Nat,k<5∧r.g j=shl 1 k
theorem ajW{r:aS 6 Int}(h:∀ j,j<6→rJ r j):il r=true:=Lx fun j hj=>by
 obtain ⟨k,hk,e⟩:=h j hj
 rw[e];exact alm ⟨k,hk⟩
theorem K0{w:Int} : ∀ n,∀ x∈gP w n,hE w x.toNat=true
 |0=>by simp[gP]
 |n+1=>by
  intro x hx
  simp only[gP,List.mem_append] at hx
  rcases hx with hx | hx
  ·exact K0 n x hx
  ·split at hx
   ·rename_i h
    simp only[List.mem_singleton] at hx
    subst hx;simpa using h
   ·cases hx
theorem al5{w:aS 5 Int}{a:aS 6 Int}(hw:im w=true)(ha:dT a=true)(c:List Int){j:Nat}(hj:j<6):∃ k:Nat,k<5∧sa w a c j=shl 1 k∧hE (w.g (a.g j).toNat) k=true:=by
 have a1:=nR ha hj
 have a2:=Ly hw (show (a.g j).toNat<5 by omega)
 have hp:0<(jl w a j).length:=List.length_pos_of_mem (ym a2.2 5 (by omega))
 have hc:=Dd c j hp
 have hm:(jl w a j).getD (lJ c j (jl w a j).length) 0∈jl w a j:=by rw[List.getD_eq_getElem?_getD,List.getElem?_eq_getElem hc];exact List.getElem_mem hc
 have h1:=yk 5 _ hm
 exact ⟨((jl w a j).getD (lJ c j (jl w a j).length) 0).toNat,by omega,rfl,K0 5 _ hm⟩
theorem Pd(w:aS 5 Int)(a:aS 6 Int)(c:List Int):∀ n,n≤6→∀ j,j<n→(kd w a c n).g j=sa w a c j
 |0,_=>fun j h=>absurd h (by omega)
 |n+1,hn=>fun j hj=>by
  simp only[kd]
  rw[oA _ _ _ _ (by omega)]
  split
  ·rename_i e;subst e;rfl
  ·exact Pd w a c n (by omega) j (by omega)
theorem al6{w:aS 5 Int}{a:aS 6 Int}(hw:im w=true)(ha:dT a=true)(c:List Int):∀ j,j<6→rJ (kd w a c 6) j:=fun j hj=>by
 obtain ⟨k,hk,e,_⟩:=al5 hw ha c hj
 exact ⟨k,hk,by rw[Pd w a c 6 (Nat.le_refl _) j hj,e]⟩
def kT(c:List Int)(p q:Int)(x:aS 6 Int):Nat→aS 6 Int
 |0=>x
 |i+1=>gX (kT c p q x i) (aX c (i+p)%6).toNat (shl 1 (aX c (i+q)%5).toNat)
theorem tX(n:Int):0≤n%6∧n%6<6:=⟨Int.emod_nonneg _ (by decide),Int.emod_lt_of_pos _ (by decide)⟩
theorem K5(n:Int):0≤n%5∧n%5<5:=⟨Int.emod_nonneg _ (by decide),Int.emod_lt_of_pos _ (by decide)⟩
theorem K3(n:Int):0≤n%32∧n%32<32:=⟨Int.emod_nonneg _ (by decide),Int.emod_lt_of_pos _ (by decide)⟩
theorem DM{c:List Int}{p q:Int}{x:aS 6 Int}(h:∀ j,j<6→rJ x j):∀ n,∀ j,j<6→rJ (kT c p q x n) j
 |0=>h
 |n+1=>fun j hj=>by
  have h6:=tX (aX c (n+p))
  have h5:=K5 (aX c (n+q))
  simp only[kT,rJ]
  rw[oA _ _ _ _ (by omega)]
  split
  ·exact ⟨_,by omega,rfl⟩
  ·exact DM h n j hj
theorem RN:∀ y z:Fin 32,0≤kg (y.1:Int) (z.1:Int)∧kg (y.1:Int) (z.1:Int)≤31∧((y.1:Int)≠0→kg (y.1:Int) (z.1:Int)≠0):=by decide +kernel
theorem RO{y z:Int}(hy:1≤y∧y≤31)(hz:0≤z∧z<32):1≤kg y z∧kg y z≤31:=by
 have:=RN ⟨y.toNat,by omega⟩ ⟨z.toNat,by omega⟩
 simp only[show ((y.toNat:Nat):Int)=y by omega,show ((z.toNat:Nat):Int)=z by omega] at this
 have:=this.2.2 (by omega)
 omega
def jY(c:List Int)(x:aS 6 Int):Nat→aS 6 Int
 |0=>x
 |i+1=>gX (jY c x i) (aX c (i+7)%6).toNat (kg ((jY c x i).g (aX c (i+7)%6).toNat) (aX c (i+3)%32))
theorem K6{c:List Int}{x:aS 6 Int}(h:il x=true):∀ n,il (jY c x n)=true
 |0=>h
 |n+1=>Lx fun j hj=>by
  have h6:=tX (aX c (n+7))
  have ih:=K6 (c:=c) h n
  simp only[jY]
  rw[oA _ _ _ _ (by omega)]
  split
  ·exact RO (Lw ih (by omega)) (K3 _)
  ·exact Lw ih hj
def rX(m:bZ)(a:aS 6 Int)(c:List Int):aS 6 Int:=jY c (kT c 2 5 (kd m.eL a c 6) m.eH.toNat) (aX c 1%4).toNat
theorem ale{m:bZ}{a:aS 6 Int}(hw:im m.eL=true)(ha:dT a=true)(c:List Int):il (rX m a c)=true :=
 K6 (ajW (DM (al6 hw ha c) _)) _
theorem Lq{m:bZ}(h:en m=true):im m.eL=true∧0≤m.eH∧m.eH≤2:=by
 simp only[en,Bool.and_eq_true,cq,decide_eq_true_eq] at h
 exact ⟨h.1,h.2.1.1,h.2.1.2⟩
theorem Ke{m:bZ}(h:en m=true){k:Nat}(hk:k<m.given.length):dT (cZ m k).mark=true:=by rw[←jx hk];exact Lu h _ (List.getElem_mem hk)
theorem XL(c:List Int)(i:Nat){n:Nat}(hn:0<n)(h5:n≤1000):aX c i%(n:Int)=((lJ c i n:Nat):Int):=by
 unfold lJ aX
 split
 ·rename_i h;subst h;simp
 ·rename_i h
  have hp:0<c.length:=List.length_pos_iff.2 h
  have e:((i:Int)%(c.length:Int)).toNat=i%c.length:=by omega
  rw[if_pos hp,e]
  generalize c.getD (i%c.length) 0=x
  obtain ⟨_,h2⟩:=zL x n (by omega) (by omega)
  rw[h2]
  have:=Int.emod_nonneg x (show (n:Int)≠0 by omega)
  omega
theorem Qz(w:aS 5 Int)(a:aS 6 Int)(cuts:List Int)(hl:cuts.length≤4611686018427387904):aA Tryz.prog 98 [enc w,enc a,enc cuts] (.tuple [enc (ph w a cuts).1,enc (ph w a cuts).2]):=by
 refine aA.bA Tryz.func98 TF VA XI (Nat.le_of_ble_eq_true rfl) (fun hwf W0 D0 E1 =>?_)
 simp only[CK,NV,bp,Nat.zero_add,Nat.reduceAdd]
 refine .ao (by decide +kernel) fun K hK =>?_
 simp only[JN,U,simprocAttr]
 try simp only[dq,ou,U,simprocAttr]
 refine .done (hK _ ?_);clear hK K
 refine ab.seq (ab.seq ?_)
 refine .bl (by decide +kernel) fun K hK =>?_
 simp only[JO,U,simprocAttr]
 try simp only[cD,cH,U,simprocAttr]
 refine .flat _ (QB w) rfl ?_
 try simp only[U,simprocAttr]
 refine .done (hK _ ?_);clear hK K;try simp only[aq]
 generalize hw:im w=bw
 cases bw
 ·refine ab.bC ?_
  simp only[ar,U,simprocAttr]
  refine ⟨fun h =>?_,fun h =>?_⟩
  ·refine .ao (by decide +kernel) fun K hK =>?_
   simp only[JR,U,simprocAttr]
   try simp only[dY,ou,qu,U,simprocAttr]
   refine .done (hK _ ?_);clear hK K
   refine ab.ret ?_
   simp only[aq,U,simprocAttr]
   try simp only[cD,cH,U,simprocAttr]
   simp[ph,hw]
  ·simp at h
 refine ab.bC ?_
 simp only[ar,U,simprocAttr]
 refine ⟨fun h =>?_,fun h =>?_⟩
 ·simp at h
 refine ab.skip ?_;try simp only[aq,simprocAttr]
 refine ab.seq (ab.seq ?_)
 refine .bl (by decide +kernel) fun K hK =>?_
 simp only[JS,U,simprocAttr]
 try simp only[cD,cH,U,simprocAttr]
 refine .flat _ (Pm a) rfl ?_
 try simp only[U,simprocAttr]
 refine .done (hK _ ?_);clear hK K;try simp only[aq]
 generalize ha:dT a=ba
 cases ba
 ·refine ab.bC ?_
  simp only[ar,U,simprocAttr]
  refine ⟨fun h =>?_,fun h =>?_⟩
  ·refine .ao (by decide +kernel) fun K hK =>?_
   simp only[JT,U,simprocAttr]
   try simp only[dY,ou,qu,U,simprocAttr]
   refine .done (hK _ ?_);clear hK K
   refine ab.ret ?_
   simp only[aq,U,simprocAttr]
   try simp only[cD,cH,U,simprocAttr]
   simp[ph,hw,ha]
  ·simp at h
 refine ab.bC ?_
 simp only[ar,U,simprocAttr]
 refine ⟨fun h =>?_,fun h =>?_⟩
 ·simp at h
 refine ab.skip ?_;try simp only[aq,simprocAttr]
 refine .ao (by decide +kernel) fun K hK =>?_
 simp only[JU,U,simprocAttr]
 try simp only[ou,simprocAttr]
 refine .done (hK _ ?_);clear hK K
 refine ab.seq (ab.seq ?_)
 refine .bl (by decide +kernel) fun K hK =>?_
 simp only[JV,U,simprocAttr]
 refine .done (hK _ ?_);clear hK K;try simp only[aq]
 refine ab.block (ab.loop (fun i:Nat=>av [(2,enc cuts),(3,.ptr 3 []),(4,.ptr 4 []),(6,.ptr 6 []),(8,.ptr 8 []),(9,.int .i64 i)] [(3,.box (enc w)),(4,.box (enc a)),(6,.box (enc lv)),(8,.box (enc (kd w a cuts i)))]) (fun i=>i≤6) (fun i=>6-i) 0 (by omega) ?_ (fun i hi =>?_))
 ·simp only[kd]
  refine aD.bM ?_ ?_ ?_ ?_ <;>simp[aV,bF,bE,a7,au,aY,ct,I.only,ai.only,bh]
 refine ab.seq (ab.seq ?_)
 refine .bl (by decide +kernel) fun K hK =>?_
 simp only[JW,U,simprocAttr]
 refine .done (hK _ ?_);clear hK K;try simp only[aq]
 refine ab.bC ?_
 simp only[ar,U,simprocAttr]
 refine ⟨fun h =>?_,fun h =>?_⟩
 ·have hi6:i<6:=by simp at h;omega
  have h1:=nR ha hi6
  have h2:=Ly hw (show (a.g i).toNat<5 by omega)
  have k5:(a.g i).toNat<5:=by omega
  refine ab.skip ?_;try simp only[aq,simprocAttr]
  refine ab.seq (ab.block ?_)
  refine .ao (by decide +kernel) fun K hK =>?_
  simp only[JX,U,simprocAttr]
  try simp only[bn,jy 1 a hi6 rfl,eP a hi6,U,simprocAttr]
  try simp only[bn,gm 1 w ⟨h1.1,h1.2⟩ rfl,eP w k5,U,simprocAttr]
  refine .lead _ (PD (w.g (a.g i).toNat)) ?_
  try simp only[U,simprocAttr]
  refine .done (hK _ ?_);clear hK K
  have hL:jl w a i=gP (w.g (a.g i).toNat) 5:=rfl
  rw[←hL]
  have hL5:(jl w a i).length≤5:=yl _ 5
  have hL0:0<(jl w a i).length:=List.length_pos_of_mem (ym h2.2 5 (by omega))
  have hLi:∀ x∈jl w a i,0≤x∧x<(5:Nat):=yk 5
  have hV:sa w a cuts i=shl 1 ((jl w a i).getD (lJ cuts i (jl w a i).length) 0).toNat:=rfl
  have hcl:=Dd cuts i hL0
  generalize hLL:jl w a i=ay at hL5 hL0 hLi hV hcl ⊢
  have hin:=hLi (ay.getD (lJ cuts i ay.length) 0) (by rw[List.getD_eq_getElem?_getD,List.getElem?_eq_getElem hcl];exact List.getElem_mem hcl)
  refine .bl (by decide +kernel) fun K hK =>?_
  simp only[JY,U,simprocAttr]
  try simp only[cH,U,simprocAttr]
  refine .flat _ (lx cuts i hl) rfl ?_
  try simp only[bn,U,simprocAttr]
  refine .flat _ (gI (aX cuts i) ay.length (by omega) (by omega)) rfl ?_
  rw[XL cuts i hL0 (by omega)]
  try simp only[xT hcl,U,simprocAttr]
  have hsh:IntKind.i64.wrap (1*2^min (ay.getD (lJ cuts i ay.length) 0).toNat IntKind.i64.bits)=sa w a cuts i:=hV.symm
  rw[if_pos hin.1,hsh]
  try simp only[bn,jy 1 (kd w a cuts i) hi6 rfl,eP (kd w a cuts i) hi6,o9 (kd w a cuts i) hi6,U,simprocAttr]
  refine .done (hK _ ?_);clear hK K;try simp only[aq,bN]
  refine .bl (by decide +kernel) fun K hK =>?_
  simp only[JP,U,simprocAttr]
  refine .done (hK _ ?_);clear hK K;try simp only[aq]
  refine ⟨i+1,by omega,by omega,?_⟩
  rw[cA _ (by omega) (by omega),kd]
  refine aD.bM ?_ ?_ ?_ ?_ <;>simp[aV,bF,bE,a7,au,aY,ct,I.only,ai.only,bh]
 ·have h6:i=6:=by simp at h;omega
  subst h6
  refine ab.exit ?_;try simp only[aq,bN,simprocAttr]
  refine .ao (by decide +kernel) fun K hK =>?_
  simp only[JQ,U,simprocAttr]
  try simp only[cD,qu,U,simprocAttr]
  refine .done (hK _ ?_);clear hK K
  refine ab.ret ?_
  simp only[U,simprocAttr]
  try simp only[cD,cH,U,simprocAttr]
  simp[ph,hw,ha]
theorem Qj(m:bZ)(a:aS 6 Int)(c:List Int)(hl:c.length≤4611686018427387904)(hw:im m.eL=true)(ha:dT a=true)(h0:0≤m.eH)(h2:m.eH≤2):aA Tryz.prog 35 [enc m,enc a,enc c] (enc (rX m a c)):=by
 refine aA.bA Tryz.func35 Tc U8 Xg (Nat.le_of_ble_eq_true rfl) (fun hwf W0 D0 E1 =>?_)
 simp only[Cj,Ns,bp,Nat.zero_add,Nat.reduceAdd]
 obtain ⟨r0,hr0⟩:∃ r0,r0=kd m.eL a c 6:=⟨_,rfl⟩
 have hworn:ph m.eL a c=(r0,0):=by simp[ph,hw,ha,hr0]
 refine .ao (by decide +kernel) fun K hK =>?_
 simp only[IA,U,simprocAttr]
 try simp only[dq,ou,U,simprocAttr]
 refine .done (hK _ ?_);clear hK K
 refine .ao (by decide +kernel) fun K hK =>?_
 simp only[IB,U,simprocAttr]
 try simp only[cD,cH,U,simprocAttr]
 refine .lead _ (Qz m.eL a c hl) ?_
 try simp only[hworn,cD,ou,qu,U,simprocAttr]
 refine .done (hK _ ?_);clear hK K
 refine ab.seq (ab.seq ?_)
 refine .bl (by decide +kernel) fun K hK =>?_
 simp only[IE,U,simprocAttr]
 refine .done (hK _ ?_);clear hK K;try simp only[aq]
 refine ab.block (ab.loop (fun i:Nat=>av [(2,enc c),(3,.ptr 3 []),(6,.ptr 6 []),(7,.ptr 7 []),(9,.int .i64 i)] [(3,.box (enc m)),(6,.box (enc lv)),(7,.box (enc (kT c 2 5 r0 i)))]) (fun i=>i≤m.eH.toNat) (fun i=>m.eH.toNat-i) 0 (by omega) ?_ (fun i hi =>?_))
 ·simp only[kT]
  refine aD.bM ?_ ?_ ?_ ?_ <;>simp[aV,bF,bE,a7,au,aY,ct,I.only,ai.only,bh]
 refine ab.seq (ab.seq ?_)
 refine .bl (by decide +kernel) fun K hK =>?_
 simp only[IF,U,simprocAttr]
 try simp only[cD,U,simprocAttr]
 refine .done (hK _ ?_);clear hK K;try simp only[aq]
 refine ab.bC ?_
 simp only[ar,U,simprocAttr]
 refine ⟨fun h =>?_,fun h =>?_⟩
 ·have hlt:(i:Int)<m.eH:=by simpa using h
  have m6:=tX (aX c (i+2))
  have m5:=K5 (aX c (i+5))
  have k6:(aX c (i+2)%6).toNat<6:=by omega
  have hv:IntKind.i64.wrap (1*2^min (aX c (i+5)%5).toNat IntKind.i64.bits)=shl 1 (aX c (i+5)%5).toNat:=rfl
  refine ab.skip ?_;try simp only[aq,simprocAttr]
  refine ab.seq (ab.block ?_)
  refine .bl (by decide +kernel) fun K hK =>?_
  simp only[IG,U,simprocAttr]
  try simp only[cH,U,simprocAttr]
  rw[cA _ (by omega) (by omega)]
  refine .flat _ (lx c (i+2) hl) rfl ?_
  try simp only[U,simprocAttr]
  refine .flat _ (gI (aX c (i+2)) 6 (by decide) (by decide)) rfl ?_
  try simp only[cH,U,simprocAttr]
  rw[cA _ (by omega) (by omega)]
  refine .flat _ (lx c (i+5) hl) rfl ?_
  try simp only[U,simprocAttr]
  refine .flat _ (gI (aX c (i+5)) 5 (by decide) (by decide)) rfl ?_
  try simp only[U,simprocAttr]
  rw[if_pos m5.1,hv]
  try simp only[bn,gm 1 (kT c 2 5 r0 i) ⟨m6.1,m6.2⟩ rfl,eP (kT c 2 5 r0 i) k6,o9 (kT c 2 5 r0 i) k6,U,simprocAttr]
  refine .done (hK _ ?_);clear hK K;try simp only[aq,bN]
  refine .bl (by decide +kernel) fun K hK =>?_
  simp only[IH,U,simprocAttr]
  refine .done (hK _ ?_);clear hK K;try simp only[aq]
  refine ⟨i+1,by omega,by omega,?_⟩
  rw[cA _ (by omega) (by omega),kT]
  refine aD.bM ?_ ?_ ?_ ?_ <;>simp[aV,bF,bE,a7,au,aY,ct,I.only,ai.only,bh]
 have hi2:i=m.eH.toNat:=by simp at h;omega
 subst hi2
 refine ab.exit ?_;try simp only[aq,bN,simprocAttr]
 obtain ⟨r1,hr1⟩:∃ r1,r1=kT c 2 5 r0 m.eH.toNat:=⟨_,rfl⟩
 rw[←hr1]
 refine ab.seq (ab.seq ?_)
 refine .bl (by decide +kernel) fun K hK =>?_
 simp only[II,U,simprocAttr]
 refine .done (hK _ ?_);clear hK K;try simp only[aq]
 have q4:0≤aX c 1%4∧aX c 1%4<4:=⟨Int.emod_nonneg _ (by decide),Int.emod_lt_of_pos _ (by decide)⟩
 refine ab.block (ab.loop (fun i:Nat=>av [(2,enc c),(3,.ptr 3 []),(6,.ptr 6 []),(7,.ptr 7 []),(10,.int .i64 i)] [(3,.box (enc m)),(6,.box (enc lv)),(7,.box (enc (jY c r1 i)))]) (fun i=>i≤(aX c 1%4).toNat) (fun i=>(aX c 1%4).toNat-i) 0 (by omega) ?_ (fun i hi =>?_))
 ·simp only[jY]
  refine aD.bM ?_ ?_ ?_ ?_ <;>simp[aV,bF,bE,a7,au,aY,ct,I.only,ai.only,bh]
 refine ab.seq (ab.seq ?_)
 refine .bl (by decide +kernel) fun K hK =>?_
 simp only[IJ,U,simprocAttr]
 try simp only[cH,U,simprocAttr]
 refine .flat _ (lx c 1 hl) rfl ?_
 try simp only[U,simprocAttr]
 refine .flat _ (gI (aX c 1) 4 (by decide) (by decide)) rfl ?_
 try simp only[U,simprocAttr]
 refine .done (hK _ ?_);clear hK K;try simp only[aq]
 refine ab.bC ?_
 simp only[ar,U,simprocAttr]
 refine ⟨fun h =>?_,fun h =>?_⟩
 ·have hlt:(i:Int)<aX c 1%4:=by simpa using h
  have m6:=tX (aX c (i+7))
  have m32:=K3 (aX c (i+3))
  have k6:(aX c (i+7)%6).toNat<6:=by omega
  refine ab.skip ?_;try simp only[aq,simprocAttr]
  refine ab.seq (ab.block ?_)
  refine .ao (by decide +kernel) fun K hK =>?_
  simp only[IK,U,simprocAttr]
  try simp only[cH,U,simprocAttr]
  rw[cA _ (by omega) (by omega)]
  refine .flat _ (lx c (i+7) hl) rfl ?_
  try simp only[U,simprocAttr]
  refine .flat _ (gI (aX c (i+7)) 6 (by decide) (by decide)) rfl ?_
  try simp only[U,simprocAttr]
  refine .done (hK _ ?_);clear hK K
  refine .bl (by decide +kernel) fun K hK =>?_
  simp only[IL,U,simprocAttr]
  try simp only[bn,gm 1 (jY c r1 i) ⟨m6.1,m6.2⟩ rfl,eP (jY c r1 i) k6,cH,U,simprocAttr]
  rw[cA _ (by omega) (by omega)]
  refine .flat _ (lx c (i+3) hl) rfl ?_
  try simp only[U,simprocAttr]
  refine .flat _ (gI (aX c (i+3)) 32 (by decide) (by decide)) rfl ?_
  try simp only[bn,U,simprocAttr]
  try simp only[bn,gm 1 (jY c r1 i) ⟨m6.1,m6.2⟩ rfl,eP (jY c r1 i) k6,o9 (jY c r1 i) k6,U,simprocAttr]
  refine .done (hK _ ?_);clear hK K;try simp only[aq,bN]
  refine .bl (by decide +kernel) fun K hK =>?_
  simp only[IC,U,simprocAttr]
  refine .done (hK _ ?_);clear hK K;try simp only[aq]
  refine ⟨i+1,by omega,by omega,?_⟩
  rw[cA _ (by omega) (by omega),jY]
  refine aD.bM ?_ ?_ ?_ ?_ <;>simp[aV,bF,bE,a7,au,aY,ct,I.only,ai.only,bh]
  all_goals first | rfl | simp[kg]
 have hi4:i=(aX c 1%4).toNat:=by simp at h;omega
 refine ab.exit ?_;try simp only[aq,bN,simprocAttr]
 refine .ao (by decide +kernel) fun K hK =>?_
 simp only[ID,U,simprocAttr]
 try simp only[cD,qu,U,simprocAttr]
 refine .done (hK _ ?_);clear hK K
 refine ab.ret ?_
 simp only[U,simprocAttr]
 try simp only[cD,cH,U,simprocAttr]
 rw[hi4,hr1,hr0];rfl
end Go.Proofs.YtcldiigclhgafaaGreat
