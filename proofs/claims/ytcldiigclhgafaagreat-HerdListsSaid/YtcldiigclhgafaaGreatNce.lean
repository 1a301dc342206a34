/-
  A part of the proof that the law HerdLists returns true for every input; conditions: none beyond the statement's own. (part 5 of 7)
-/
import Derived.Test.YtcldiigclhgafaaGreatRows
import Derived.Test.YtcldiigclhgafaaGreatNcd
set_option linter.unusedSimpArgs false
set_option linter.unusedVariables false
set_option maxHeartbeats 16000000
set_option maxRecDepth 100000
namespace Go.Proofs.YtcldiigclhgafaaGreat
open Go Go.Abs
open Go.Abs.Enc (enc)
def mR(key:Nat→Int)(a b:Nat):Prop:=key a<key b∨(key a=key b∧a<b)
theorem wK(key:Nat→Int)(i:Nat)(o:List Nat):(jT key i o).Perm (i::o):=by
 have h:(o.takeWhile fun k=>decide (key k≤key i))++(o.dropWhile fun k=>decide (key k≤key i))=o:=List.takeWhile_append_dropWhile
 have:=(List.perm_middle (a:=i) (l₁:=o.takeWhile fun k=>decide (key k≤key i)) (l₂:=o.dropWhile fun k=>decide (key k≤key i)))
 rw[h] at this
 exact this
theorem H8(key:Nat→Int)(i:Nat):∀ o:List Nat,o.Pairwise (mR key)→(∀ x∈o,x<i)→(jT key i o).Pairwise (mR key)
 | [],_,_=>by simp[jT]
 |a::o,hs,hi=>by
  obtain ⟨h1,h2⟩:=List.pairwise_cons.1 hs
  by_cases ha:key a≤key i
  ·have e:jT key i (a::o)=a::jT key i o:=by simp[jT,ha]
   rw[e]
   refine List.pairwise_cons.2 ⟨fun b hb =>?_,H8 key i o h2 fun x hx=>hi x (by simp[hx])⟩
   rcases List.mem_cons.1 ((wK key i o).mem_iff.1 hb) with rfl | hb
   ·have:=hi a (by simp)
    simp only[mR];omega
   ·exact h1 b hb
  ·have e:jT key i (a::o)=i::a::o:=by simp[jT,ha]
   rw[e]
   refine List.pairwise_cons.2 ⟨fun b hb =>?_,hs⟩
   rcases List.mem_cons.1 hb with rfl | hb
   ·simp only[mR];omega
   ·have:=h1 b hb
    simp only[mR] at *;omega
theorem sZ(key:Nat→Int):∀ (l o:List Nat),o.Pairwise (mR key)→l.Pairwise (· < ·)→(∀ x∈o,∀ y∈l,x<y)→(l.foldl (fun o i=>jT key i o) o).Perm (o++l)∧(l.foldl (fun o i=>jT key i o) o).Pairwise (mR key)
 | [],o,ho,_,_=>by simp[ho]
 |i::l,o,ho,hl,hx=>by
  obtain ⟨h1,h2⟩:=List.pairwise_cons.1 hl
  have:=sZ key l (jT key i o) (H8 key i o ho fun x h=>hx x h i (by simp)) h2 fun x h y hy=>by
   rcases List.mem_cons.1 ((wK key i o).mem_iff.1 h) with rfl | h
   ·exact h1 y hy
   ·exact hx x h y (by simp[hy])
  refine ⟨this.1.trans ?_,this.2⟩
  exact ((wK key i o).append_right l).trans List.perm_middle.symm
def dw(l:List Nat):List Int:=l.map fun n:Nat=>(n:Int)
def kR(l:List ak)(day known:Int):List Int:=dw (jM l day known)
def pj(l:List ak)(day known:Int):List Int:=dw (jH l day known)
theorem ajE(l:List ak)(known:Int):(gQ l known).Pairwise (· < ·):=List.Pairwise.filter _ List.pairwise_lt_range
theorem Mb{l:List ak}{known:Int}{i:Nat}(h:i∈gQ l known):i<l.length:=by
 simp only[gQ,List.mem_filter,List.mem_range] at h;exact h.1
theorem rN(l:List ak)(day known:Int):(jM l day known).Pairwise (· < ·):=List.Pairwise.filter _ (ajE l known)
theorem B5{l:List ak}{day known:Int}{i:Nat}(h:i∈jM l day known):i<l.length:=Mb (List.mem_filter.1 h).1
theorem Ww(l:List ak)(day known:Int):(kR l day known).Pairwise (· < ·):=by
 refine List.pairwise_map.2 ((rN l day known).imp fun {a b} h =>?_)
 show (a:Int)<(b:Int)
 omega
theorem Wv{l:List ak}{day known:Int} : ∀ x∈kR l day known,je l x:=fun x hx=>by
 obtain ⟨i,hi,rfl⟩:=List.mem_map.1 hx
 have:=B5 hi
 exact ⟨by omega,by omega⟩
theorem uU(l:List ak)(day known:Int):(jM l day known).length≤l.length:=by
 have h1:=List.length_filter_le (fun i=>decide ((ae l i).kind≠0)&&decide ((ae l i).day≤day)) (gQ l known)
 have h2:=List.length_filter_le (fun i=>(kD l known).getD i false) (List.range l.length)
 rw[List.length_range] at h2
 exact Nat.le_trans h1 h2
theorem aid{l:List ak}{day known:Int}{s:List Int}(hp:s.Perm (kR l day known))(hs:df l s):s=pj l day known:=by
 have h0:=sZ (fun i=>(ae l i).day) (jM l day known) [] (by simp) (rN l day known) (by simp)
 have h1:(pj l day known).Perm (kR l day known):=h0.1.map _
 have h2:df l (pj l day known):=by
  refine List.pairwise_map.2 (h0.2.imp fun {a b} h =>?_)
  simp only[mR] at h
  simp only[dI,fV,Int.toNat_natCast]
  omega
 refine List.Perm.eq_of_pairwise (fun a b _ _ h k =>?_) hs h2 (hp.trans h1.symm)
 simp only[dI] at h k;omega
theorem aif{l:List ak}{day known:Int}{i:Nat}(h:i∈jH l day known):i∈jM l day known:=by
 have h0:=sZ (fun i=>(ae l i).day) (jM l day known) [] (by simp) (rN l day known) (by simp)
 exact h0.1.mem_iff.1 h
theorem Jd(l:List ak)(day known:Int):(jH l day known).length=(jM l day known).length:=by
 have h0:=sZ (fun i=>(ae l i).day) (jM l day known) [] (by simp) (rN l day known) (by simp)
 exact h0.1.length_eq
theorem ahM{x:ak}(h:gB x=true):0≤x.day∧x.day≤100000:=by
 simp only[gB,b6,Bool.and_eq_true,decide_eq_true_eq] at h
 omega
theorem ajD(l:List ak)(known:Int):(kD l known).length=l.length:=yi known l
theorem Nr(el:List ak):az Tryz.prog 203 [enc ([]:List Int),.int .i64 0,.int .i64 0,.func 138 [.ref (enc el)]] (.tuple []):=by
 refine az.bn Tryz.func203 Bz BG BR (Nat.le_of_ble_eq_true rfl) (fun hwf W0 D0 E1 =>?_)
 simp only[ux,xR,bg,Nat.zero_add,Nat.reduceAdd]
 clear hwf
 have hc:decide ((1:Int)<0)=false:=by decide
 have hw:IntKind.i64.wrap 1=1:=by decide
 refine .ar (by decide +kernel) fun K hK =>?_
 simp only[vT,ab,Nat.reduceEqDiff,reduceIte]
 refine .done (hK _ ?_);clear hK K
 refine U.block (U.loop (fun _:Unit=>av [(2,.int .i64 0),(8,.int .i64 1)] []) (fun _=>True) (fun _=>0) () trivial ?_ (fun _ _ =>?_))
 ·refine aI.b9 ?_ ?_ ?_ ?_ <;>simp[*,bd,bT,bS,bD,bh,I.only]
 have R:=And.intro @hc (And.intro @hZ (And.intro @bI (And.intro @aP @ab)))
 repeat' ((first
  |(with_reducible refine .guard (fun hb =>?_) (fun hb =>?_) <;>try simp only[hb])
  |refine U.aL (by decide +kernel) rfl fun K hK =>?_
  |(refine .aF [0,1,2,3,8,9,14,34] hK ?_;clear hK K)
  |(with_reducible refine .done (hK _ ?_);clear hK K)
  |refine U.of rfl ?_
  |(with_reducible refine ao.aK (fun h =>?_) (fun h =>?_) <;>try simp only[h])) <;>try simp only[aM,R,Nat.reduceEqDiff,reduceIte,Nat.reduceBEq])
 all_goals clear R
 rfl
theorem Na(el:List ak):az Tryz.prog 171 [enc ([]:List Int),.int .i64 0,.func 138 [.ref (enc el)]] (.tuple []):=by
 refine az.bn Tryz.func171 Bw BE BP (Nat.le_of_ble_eq_true rfl) (fun hwf W0 D0 E1 =>?_)
 simp only[uv,xP,bg,Nat.zero_add,Nat.reduceAdd]
 clear hwf
 have hc:decide ((20:Int)≤0)=false:=by decide
 have hc2:decide ((20:Int)<0)=false:=by decide
 refine .ar (by decide +kernel) fun K hK =>?_
 simp only[vK,ab]
 refine .done (hK _ ?_);clear hK K
 refine .ar (by decide +kernel) fun K hK =>?_
 simp only[vL,ab,Nat.reduceEqDiff,reduceIte]
 refine .done (hK _ ?_);clear hK K
 refine U.seq (U.block (U.loop (fun _:Unit=>av [(0,enc ([]:List Int)),(1,.int .i64 0),(2,.func 138 [.ref (enc el)]),(6,.int .i64 20),(7,.int .i64 0),(8,.int .i64 20)] []) (fun _=>True) (fun _=>0) () trivial ?_ (fun _ _ =>?_)))
 ·refine aI.b9 ?_ ?_ ?_ ?_ <;>simp[bd,bT,bS,bD,bh,I.only,I.bU,bG]
 have R:=And.intro @hc (And.intro @hZ (And.intro @bI (And.intro @aP @ab)))
 repeat' ((first
  |(with_reducible refine .guard (fun hb =>?_) (fun hb =>?_) <;>try simp only[hb])
  |refine U.aL (by decide +kernel) rfl fun K hK =>?_
  |refine .lead _ (Nr el) ?_
  |(refine .aF [0,1,2,6,7,8,9,13,30,35,54] hK ?_;clear hK K)
  |(with_reducible refine .done (hK _ ?_);clear hK K)
  |refine U.of rfl ?_
  |(with_reducible refine ao.aK (fun h =>?_) (fun h =>?_) <;>try simp only[h])) <;>try simp only[aM,R,Nat.reduceEqDiff,reduceIte,Nat.reduceBEq])
 all_goals clear R
 refine U.loop (fun _:Unit=>av [(0,enc ([]:List Int)),(1,.int .i64 0),(2,.func 138 [.ref (enc el)]),(6,.int .i64 20)] []) (fun _=>True) (fun _=>0) () trivial ?_ (fun _ _ =>?_)
 ·refine aI.b9 ?_ ?_ ?_ ?_ <;>simp[bd,bT,bS,bD,bh,I.only,I.bU,bG]
 have R:=And.intro @hc2 (And.intro @hZ (And.intro @bI (And.intro @aP @ab)))
 repeat' ((first
  |(with_reducible refine .guard (fun hb =>?_) (fun hb =>?_) <;>try simp only[hb])
  |refine U.aL (by decide +kernel) rfl fun K hK =>?_
  |(refine .aF [0,1,2,6,7,8,9,13,30,35,54] hK ?_;clear hK K)
  |(with_reducible refine .done (hK _ ?_);clear hK K)
  |refine U.of rfl ?_
  |(with_reducible refine ao.aK (fun h =>?_) (fun h =>?_) <;>try simp only[h])) <;>try simp only[aM,R,Nat.reduceEqDiff,reduceIte,Nat.reduceBEq])
 all_goals clear R
 rfl
theorem MQ(el:List ak):az Tryz.prog 137 [enc ([]:List Int),.func 138 [.ref (enc el)]] (.tuple []):=by
 refine az.bn Tryz.func137 Bu BD BO (Nat.le_of_ble_eq_true rfl) (fun hwf W0 D0 E1 =>?_)
 simp only[uu,xO,bg,Nat.zero_add]
 clear hwf
 have hz:(([]:List Int).length:Int)=0:=rfl
 have R:=And.intro @hz (And.intro @hZ (And.intro @bI (And.intro @aP @ab)))
 repeat' ((first
  |(with_reducible refine .guard (fun hb =>?_) (fun hb =>?_) <;>try simp only[hb])
  |refine U.aL (by decide +kernel) rfl fun K hK =>?_
  |refine .lead _ (Na el) ?_
  |(refine .aF [0,1] hK ?_;clear hK K)
  |(with_reducible refine .done (hK _ ?_);clear hK K)
  |refine U.of rfl ?_
  |(with_reducible refine ao.aK (fun h =>?_) (fun h =>?_) <;>try simp only[h])) <;>try simp only[R,Nat.reduceEqDiff,reduceIte])
 all_goals clear R
 rfl
def ai1(l:List cz):Prop:=∀ (i j:Nat) (hi:i<l.length) (hj:j<l.length),i<j→l[i].cB<l[j].cB
theorem ake{m:cH}(h:gD m=true):ai1 m.given:=by
 simp only[gD,Bool.and_eq_true,List.all_eq_true,List.mem_range] at h
 have h1:∀ i,i+1<m.given.length→(ep m i).cB<(ep m (i+1)).cB:=fun i hi=>by
  have:=h.2.2.2 (i+1) hi
  simp only[iM,Bool.and_eq_true] at this
  simpa using this.2.2.1
 intro i j hi hj hij
 obtain ⟨d,rfl⟩:∃ d,j=i+1+d:=⟨j-(i+1),by omega⟩
 induction d with
 |zero=>rw[km hi,km hj];exact h1 i hj
 |succ d ih =>
  have hj':i+1+d<m.given.length:=by omega
  have:=ih hj' (by omega)
  rw[km hi,km hj'] at this
  rw[km hi,km hj]
  have h3:=h1 (i+1+d) hj
  have e:i+1+(d+1)=i+1+d+1:=by omega
  rw[e];omega
theorem ahT{m:cH}(h:gD m=true):m.given.length≤40:=by
 simp only[gD,Bool.and_eq_true,decide_eq_true_eq] at h
 exact h.2.2.1
theorem ahU{m:cH}(h:gD m=true):∀ g∈m.given,fR g.mark=true:=fun g hg=>by
 simp only[gD,Bool.and_eq_true,List.all_eq_true,List.mem_range] at h
 obtain ⟨i,hi,rfl⟩:=List.getElem_of_mem hg
 rw[km hi]
 exact IW (h.2.2.2 i hi)
theorem Np(m:cH)(r:bL 6 Int)(g:cz)(hg:fR g.mark=true):az Tryz.prog 201 (enc g::[.ref (enc m),.ref (enc r)]) (enc (decide (m.gM<lJ m.gi g.mark r))):=by
 refine az.bn Tryz.func201 Qo Sm Uy (Nat.le_of_ble_eq_true rfl) (fun hwf W0 D0 E1 =>?_)
 simp only[AG,KA,bg,Nat.zero_add,Nat.reduceAdd]
 refine .ar (by decide +kernel) fun K hK =>?_
 simp only[F7,ab,simprocAttr]
 try simp only[dz,ab,simprocAttr]
 refine .done (hK _ ?_);clear hK K
 refine .ar (by decide +kernel) fun K hK =>?_
 simp only[F8,ab,simprocAttr]
 try simp only[dB,dC,ab,simprocAttr]
 refine .flat _ (Nq m.gi g.mark r hg) rfl ?_
 try simp only[dB,ab,simprocAttr]
 refine .done (hK _ ?_);clear hK K
 refine U.ret ?_
 simp only[ab,simprocAttr]
def ky(m:cH)(r:bL 6 Int):List cz:=fC (fun g=>decide (m.gM<lJ m.gi g.mark r)) m.given
def Jo(d:Nat)(m:cH)(r:bL 6 Int):cR:=fun x os'=>(ky m r=[]∧x=enc ([]:List cz)∧os'=[])∨∃ k,x=.view d [] 7 0 (ky m r).length∧os'=iv d (ky m r) k
theorem M7(m:cH)(r:bL 6 Int)(hm:∀ g∈m.given,fR g.mark=true)(hlen:m.given.length≤1000):cA Tryz.prog 168 [enc m,enc r] [] (Jo 7 m r):=by
 refine cA.bn Tryz.func168 P7 R4 Ug (Nat.le_of_ble_eq_true rfl) (Nat.le_of_ble_eq_true rfl) (fun m hm=>by simp[au,al] at hm) (fun hwf W0 D0 E1 =>?_)
 simp only[Am,Kh,bg,Nat.zero_add]
 refine .ar (by decide +kernel) fun K hK =>?_
 simp only[Fe,ab,simprocAttr]
 try simp only[dz,ab,simprocAttr]
 refine .done (hK _ ?_);clear hK K
 refine .ar (by decide +kernel) fun K hK =>?_
 simp only[Ff,ab,simprocAttr]
 try simp only[dB,dC,ab,simprocAttr]
 refine .bQ false [(7,7)] [] [enc m.given] (uJ m.given) rfl (yK m.given hlen) fy.nil ⟨.inl ⟨(gL _ _).symm,bG _ _,dz _⟩,trivial⟩ ?_ ?_
 ·rintro x os' (⟨_,h | h,rfl⟩ | ⟨_,k,rfl,rfl⟩)
  ·subst h;exact dn.nil (fun _=>rfl) (fun h=>by cases h)
  ·subst h;exact dn.nil (fun _=>rfl) (fun h=>by cases h)
  ·exact dn.o9 (fun p=>lT p _) (fun h=>by cases h) rfl (fun h=>by cases h) rfl (by decide)
 ·have hd:I.eO [.ref (enc m),.ref (enc r)]=true:=by simp only[I.eO,I.done,dO,Bool.and_self]
  rintro x os' (⟨hn,h,rfl⟩ | ⟨hn,k,rfl,rfl⟩)
  ·have hp:ky m r=[]:=by simp[ky,fC,hn]
   have key:∀ x,(x=.nils 7∨x=.c0 7)→bp true (av [] []) x=some (enc ([]:List cz)):=by rintro x (rfl | rfl) <;>rfl
   have hren:∀ x:I,(x=.nils 7∨x=.c0 7)→x.aS (bF [(7,7)])=x∧x.cq=true:=by rintro x (rfl | rfl) <;>exact ⟨by simp only[I.aS],rfl⟩
   rw[(hren x h).1]
   try simp only[fK,List.nil_append,List.all_cons,List.all_nil,I.cq,Bool.and_self,ab,simprocAttr]
   have hfx:∀ A,bp true A x=some (enc ([]:List cz)):=fun A=>by rcases h with rfl | rfl <;>simp only[bp,gJ,List.map_nil] <;>rfl
   refine .ik [2,3] (enc ([]:List cz)) rfl (Nn 201 [.ref (enc m),.ref (enc r)] hd) ?_ ?_ ?_
   ·try simp only[hfx,iJ,List.filter_cons,List.filter_nil,List.contains_cons,Nat.reduceBEq,Bool.or_true,Bool.true_or,BEq.rfl,dO,ab,simprocAttr]
   ·simp[c4,bD]
   ·try simp only[fW,c4,List.filter_cons,List.filter_nil,List.contains_cons,Nat.reduceBEq,Bool.or_true,Bool.true_or,BEq.rfl,List.map_cons,List.map_nil,ab,simprocAttr]
    refine .done (hK _ ?_);clear hK K
    refine U.ret ?_
    simp only[eL]
    exact ⟨[],[enc ([]:List cz)],p8,⟨⟨_,rfl,.inl ⟨rfl,rfl,rfl⟩⟩,trivial⟩,.inl ⟨hp,rfl,rfl⟩⟩
  ·try simp only[iv,fK,fS,List.cons_append,List.nil_append,List.all_cons,List.all_nil,I.cq,Bool.and_self,ab,simprocAttr]
   refine .bQ true [(1000000,7)] (iv 1000000 m.given k) [.view 1000000 [] 7 0 m.given.length,.func 201 [.ref (enc m),.ref (enc r)]] (BV 1000000 (ky m r)) rfl
    (Nl m.given 201 [.ref (enc m),.ref (enc r)] hd (fun g=>decide (m.gM<lJ m.gi g.mark r)) (fun g hg=>Np m r g (hm g hg)) hlen k) ⟨?_,?_⟩ ⟨.inl ⟨?_,?_,rfl⟩,.inr ?_,trivial⟩ ?_ ?_
   ·intro n x h
    simp only[iv,al] at h
    split at h
    ·rename_i hn'
     subst hn'
     simp only[Option.some.injEq] at h
     subst h
     exact ⟨by simp only[fK,fS,ab,simprocAttr],lT _ _,rfl⟩
    ·cases h
   ·intro a b ha hb _
    rw[cV.1 ha,cV.1 hb]
   ·try simp only[fK,simprocAttr]
   ·exact cV.2 rfl
   ·try simp only[jD,iv,bF,c4,List.filter_cons,List.filter_nil,List.map_cons,List.map_nil,List.contains_cons,List.contains_nil,Nat.reduceBEq,Bool.or_false,BEq.rfl,dO,ab,simprocAttr]
   ·rintro x os' ⟨k',rfl,rfl⟩
    exact dn.one (fun p=>lT p _) (fun _=>agE _) (cV.2 rfl) (fun _=>rfl)
   ·rintro x os' ⟨k',rfl,rfl⟩
    try simp only[iv,fK,fS,List.cons_append,List.nil_append,ab,simprocAttr]
    refine .done (hK _ ?_);clear hK K
    refine U.ret ?_
    simp only[eL]
    exact ⟨iv 7 (ky m r) k',[.view 7 [] 7 0 (ky m r).length],jQ rfl (fun p=>lT p _),⟨⟨_,rfl,.inl ⟨rfl,rfl,rfl⟩⟩,trivial⟩,.inr ⟨k',rfl,rfl⟩⟩
def ku(l:List cz)(i:Nat):List Int:=(l.take i).map (·.cB)
theorem aim(l:List cz):ku l 0=[]:=by simp[ku]
theorem ail{l:List cz}{i:Nat}(h:i<l.length):ku l (i+1)=ku l i++[l[i].cB]:=by
 simp only[ku];rw[List.take_succ_eq_append_getElem h,List.map_append];rfl
theorem Je{l:List cz}{i:Nat}(h:i≤l.length):(ku l i).length=i:=by simp[ku];omega
theorem aik(l:List cz):ku l l.length=l.map (·.cB):=by simp[ku]
theorem M8(l:List cz)(hlen:l.length≤1000):az Tryz.prog 169 [enc l] (enc (l.map (·.cB))):=by
 refine az.bn Tryz.func169 P8 R5 Uh (Nat.le_of_ble_eq_true rfl) (fun hwf W0 D0 E1 =>?_)
 simp only[An,Ki,bg]
 refine .ar (by decide +kernel) fun K hK =>?_
 simp only[Fg,ab,simprocAttr]
 refine .done (hK _ ?_);clear hK K
 refine .ar (by decide +kernel) fun K hK =>?_
 simp only[Fh,ab,simprocAttr]
 refine .done (hK _ ?_);clear hK K
 refine U.seq ?_
 refine U.seq (U.bP (by decide +kernel) fun K hK =>?_)
 try simp only[Fi,bI,ab,simprocAttr]
 refine .done (hK _ ?_);clear hK K
 refine U.block (U.loop (fun i:Nat=>av [(3,.own 3 (ku l i).length),(6,enc l),(7,.int .i64 l.length),(8,.int .i64 i)] [(3,.bX 3 1 ((ku l i).map enc))]) (fun i=>i≤l.length) (fun i=>l.length-i) 0 (Nat.zero_le _) ?_ (fun i hi =>?_))
 ·refine aI.pK 3 3 3 1 1 ?_ ?_ ?_
  ·simp only[ot,Nat.reduceEqDiff,reduceIte]
  ·simp only[ot]
  ·simp only[aim,List.map_nil,List.length_nil]
   refine aI.b9 ?_ ?_ ?_ ?_ <;>simp[bd,bT,bS,bD,au,bh,cI,I.only,I.bU,ai.only,bG]
 ·refine .ar (by decide +kernel) fun K hK =>?_
  simp only[Fj,ab,simprocAttr]
  refine .done (hK _ ?_);clear hK K
  refine U.seq ?_
  refine U.bM ?_
  simp only[ao,ab,simprocAttr]
  refine ⟨fun h =>?_,fun h =>?_⟩
  ·have hlt:i<l.length:=by simpa using h
   refine U.skip ?_;try simp only[ay,simprocAttr]
   refine U.seq (U.block ?_)
   refine .ar (by decide +kernel) fun K hK =>?_
   simp only[Fk,ab,simprocAttr]
   try simp only[gw 7 hlt rfl,dB,ab,simprocAttr]
   rw[fq (dz _) (by rw[gK];rfl) ((fm _).trans rfl)]
   try simp only[ab,simprocAttr]
   refine .done (hK _ ?_);clear hK K
   refine .bP (by decide +kernel) fun K hK =>?_
   simp only[Fl,ab,simprocAttr]
   try simp only[dB,ab,simprocAttr]
   rw[oy 3 1 8 3 rfl rfl (by simp) (by simp[maxLen,Je hi];omega) (by simp[Je hi];omega)]
   try simp only[ab,simprocAttr]
   refine .done (hK _ ?_);clear hK K;try simp only[ay,cg]
   refine .bP (by decide +kernel) fun K hK =>?_
   simp only[Fm,ab,simprocAttr]
   refine .done (hK _ ?_);clear hK K;try simp only[ay]
   refine ⟨i+1,by omega,by omega,?_⟩
   rw[cN _ (by omega) (by omega),ail hlt]
   refine aI.b9 ?_ ?_ ?_ ?_ <;>simp[bd,bT,bS,bD,au,bh,cI,I.only,I.bU,ai.only,ev,jF,bG,jN]
  ·have hge:i=l.length:=by simp at h;omega
   subst hge
   refine U.exit ?_;try simp only[ay,cg,simprocAttr]
   refine .ar (by decide +kernel) fun K hK =>?_
   simp only[Fo,ab,simprocAttr]
   refine .done (hK _ ?_);clear hK K
   refine U.ret ?_
   try simp only[aik,ab,simprocAttr]
def eS(rs:List (bL 6 Int))(j:Nat):bL 6 Int:=rs.getD j Mx
theorem afS{A:af}{rs:List (bL 6 Int)}{i:Nat}(h:i<rs.length):jf A 6 (i:Int) (enc rs)=some (.ref (enc (eS rs i))):=by
 rw[gw 6 h rfl];simp[eS,List.getD_eq_getElem?_getD,h]
def B4(m:cH)(rs:List (bL 6 Int))(g:cz)(j:Nat):Bool:=decide (lJ m.gi g.mark (eS rs j)≤m.gM)
def jm(m:cH)(rs:List (bL 6 Int))(n:Nat):List cz:=m.given.filter fun g=>(List.range n).all (B4 m rs g)
theorem ahI(m:cH)(rs:List (bL 6 Int)):jm m rs 0=m.given:=by simp[jm]
theorem IQ(m:cH)(rs:List (bL 6 Int))(n:Nat):jm m rs (n+1)=ky ⟨m.gi,m.gM,jm m rs n⟩ (eS rs n):=by
 simp only[jm,ky,fC,List.filter_filter]
 refine List.filter_congr fun g _ =>?_
 rw[List.range_succ,List.all_append]
 simp only[List.all_cons,List.all_nil,Bool.and_true,B4]
 by_cases h:lJ m.gi g.mark (eS rs n)≤m.gM
 ·have h2:¬ m.gM<lJ m.gi g.mark (eS rs n):=by omega
  simp[h,h2]
 ·have h2:m.gM<lJ m.gi g.mark (eS rs n):=by omega
  simp[h,h2]
theorem ahH{m:cH}{rs:List (bL 6 Int)}{n:Nat}{g:cz}(h:g∈jm m rs n):g∈m.given:=(List.mem_filter.1 h).1
theorem IP(m:cH)(rs:List (bL 6 Int))(n:Nat):(jm m rs n).length≤m.given.length:=List.length_filter_le _ _
def xw(rs:List (bL 6 Int)):Bool:=(List.range rs.length).all fun i=>lp (eS rs i)
def iL(m:cH)(rs:List (bL 6 Int)):List Int×Int:=if gD m then (if rs.length≤60 then (if xw rs then ((jm m rs rs.length).map (·.cB),0) else ([],12)) else ([],2)) else ([],13)
theorem Pb(w:bL 5 Int)(n:Int)(l:List cz):eB [enc (a5 0 0 0 0 0),.int .i64 0,.nils 7] [(0,enc w),(1,.int .i64 n),(2,enc l)]=some [enc w,.int .i64 n,enc l]:=by
 have h1:((enc w:I).cq=true∧(enc w:I).size=(enc (a5 0 0 0 0 0)).size):=⟨dz _,by rw[jd,jd]⟩
 have h2:((enc l:I).cq=true∧(enc l:I).size=(I.nils 7).size):=⟨dz _,by rw[jd];rfl⟩
 rw[yd (z:=enc (a5 0 0 0 0 0)) rfl h1.1 h1.2,yd (v:=.int .i64 n) (z:=.int .i64 0) rfl rfl rfl,yd (z:=.nils 7) rfl h2.1 h2.2];rfl
theorem MK(m:cH)(rs:List (bL 6 Int)):az Tryz.prog 128 [enc m,enc rs] (.tuple [enc (iL m rs).1,enc (iL m rs).2]):=by
 refine az.bn Tryz.func128 PE RB TL (Nat.le_of_ble_eq_true rfl) (fun hwf W0 D0 E1 =>?_)
 simp only[zN,JO,bg,Nat.zero_add]
 refine .ar (by decide +kernel) fun K hK =>?_
 simp only[DC,ab,simprocAttr]
 try simp only[dz,ab,simprocAttr]
 refine .done (hK _ ?_);clear hK K
 refine U.seq ?_
 refine .ar (by decide +kernel) fun K hK =>?_
 simp only[DE,ab,simprocAttr]
 try simp only[dB,dC,ab,simprocAttr]
 refine .flat _ (ua m) rfl ?_
 generalize hm:gD m=bm
 cases bm
 ·try simp only[ab,simprocAttr]
  refine .done (hK _ ?_);clear hK K
  refine .ar (by decide +kernel) fun K hK =>?_
  simp only[vw,ab,simprocAttr]
  refine .done (hK _ ?_);clear hK K
  refine U.bM ?_
  simp only[ao,ab,simprocAttr]
  refine ⟨fun h =>?_,fun h =>?_⟩
  ·refine .ar (by decide +kernel) fun K hK =>?_
   simp only[DF,ab,simprocAttr]
   refine .done (hK _ ?_);clear hK K
   refine U.ret ?_
   simp only[ay,ab,simprocAttr]
   simp[iL,hm,xi]
  ·cases h
 try simp only[ab,simprocAttr]
 refine .done (hK _ ?_);clear hK K
 refine .ar (by decide +kernel) fun K hK =>?_
 simp only[vw,ab,simprocAttr]
 refine .done (hK _ ?_);clear hK K
 refine U.bM ?_
 simp only[ao,ab,simprocAttr]
 refine ⟨fun h =>?_,fun h =>?_⟩
 ·cases h
 refine U.skip ?_;try simp only[ay,simprocAttr]
 refine U.seq ?_
 refine .ar (by decide +kernel) fun K hK =>?_
 simp only[DG,ab,simprocAttr]
 try simp only[bI,ab,simprocAttr]
 refine .done (hK _ ?_);clear hK K
 refine U.bM ?_
 simp only[ao,ab,simprocAttr]
 refine ⟨fun h =>?_,fun h =>?_⟩
 ·refine .ar (by decide +kernel) fun K hK =>?_
  simp only[DH,ab,simprocAttr]
  refine .done (hK _ ?_);clear hK K
  refine U.ret ?_
  simp only[ay,ab,simprocAttr]
  have:¬ rs.length≤60:=by simp at h;omega
  simp[iL,hm,this,xi]
 have hrl:rs.length≤60:=by simp at h;omega
 refine U.skip ?_;try simp only[ay,simprocAttr]
 have hlen:m.given.length≤1000:=by have:=ahT hm;omega
 -- from the clone on
 have key:∀ c:cQ,c=⟨Tryz.prog,W0,D0,Tryz.f128.ntmps,dm E1,E1,il,none⟩→U c (.seq (.seq (.bW none vx) (.block 0 (.loop (.seq (.bW none vy) (.seq (.cond (.t 25) .skip (.exit 0)) (.seq (.block 1 (.seq (.bW none vz) (.seq (.seq (.bW none vr) (.seq (.bW none rY) (.cond (.t 31) (.seq (.bW none vt) .ret) .skip))) (.bW none vu)))) (.bW none rZ))))))) (.seq (.bW none vv) .ret))
   (jq [.tmp 4,.tmp 5] (.tuple [enc (iL m rs).1,enc (iL m rs).2])) (av [(1,enc rs),(2,.ptr 2 []),(7,enc m.given)] [(2,.box (enc m))]):=by
  rintro c rfl
  refine U.seq ?_
  refine .ar (by decide +kernel) fun K hK =>?_
  simp only[vx,ab,simprocAttr]
  try simp only[bI,ab,simprocAttr]
  refine .done (hK _ ?_);clear hK K
  refine U.block (U.loop (fun i:Nat=>av [(1,enc rs),(2,.ptr 2 []),(7,enc (jm m rs i)),(22,enc rs),(23,.int .i64 rs.length),(24,.int .i64 i)] [(2,.box (enc m))]) (fun i=>i≤rs.length∧∀ j,j<i→lp (eS rs j)=true) (fun i=>rs.length-i) 0 ⟨by omega,fun j h=>by omega⟩ ?_ (fun i hi =>?_))
  ·rw[ahI]
   refine aI.b9 ?_ ?_ ?_ ?_ <;>simp[bd,bT,bS,bD,au,bh,cI,I.only,ai.only,bG]
  refine .ar (by decide +kernel) fun K hK =>?_
  simp only[vy,ab,simprocAttr]
  refine .done (hK _ ?_);clear hK K
  refine U.seq ?_
  refine U.bM ?_
  simp only[ao,ab,simprocAttr]
  refine ⟨fun h =>?_,fun h =>?_⟩
  case refine_2.refine_2 =>
   have hge:i=rs.length:=by simp at h;omega
   subst hge
   have hok:xw rs=true:=ov hi.2
   refine U.exit ?_;try simp only[ay,cg,simprocAttr]
   refine .ar (by decide +kernel) fun K hK =>?_
   simp only[vv,ab,simprocAttr]
   try simp only[dC,ab,simprocAttr]
   refine .lead _ (M8 (jm m rs rs.length) (Nat.le_trans (IP _ _ _) hlen)) ?_
   try simp only[ab,simprocAttr]
   refine .done (hK _ ?_);clear hK K
   refine U.ret ?_
   simp only[ab,simprocAttr]
   try simp only[dC,ab,simprocAttr]
   simp[iL,hm,hrl,hok]
  have hlt:i<rs.length:=by simp at h;omega
  refine U.skip ?_;try simp only[ay,simprocAttr]
  refine U.seq (U.block ?_)
  refine .ar (by decide +kernel) fun K hK =>?_
  simp only[vz,ab,simprocAttr]
  try simp only[dB,afS hlt,WC,ajA,ab,simprocAttr]
  refine .done (hK _ ?_);clear hK K
  refine U.seq ?_
  refine .ar (by decide +kernel) fun K hK =>?_
  simp only[vr,ab,simprocAttr]
  try simp only[dB,dC,ab,simprocAttr]
  refine .flat _ (yH (eS rs i)) rfl ?_
  generalize hr:lp (eS rs i)=aK
  cases aK
  ·try simp only[ab,simprocAttr]
   refine .done (hK _ ?_);clear hK K
   refine .ar (by decide +kernel) fun K hK =>?_
   simp only[rY,ab,simprocAttr]
   refine .done (hK _ ?_);clear hK K
   refine U.bM ?_
   simp only[ao,ab,simprocAttr]
   refine ⟨fun h =>?_,fun h =>?_⟩
   ·refine .ar (by decide +kernel) fun K hK =>?_
    simp only[vt,ab,simprocAttr]
    refine .done (hK _ ?_);clear hK K
    refine U.ret ?_
    simp only[cg,ay,ab,simprocAttr]
    have hok:xw rs=false:=mC i hlt hr
    simp[iL,hm,hrl,hok,xi]
   ·cases h
  try simp only[ab,simprocAttr]
  refine .done (hK _ ?_);clear hK K
  refine .ar (by decide +kernel) fun K hK =>?_
  simp only[rY,ab,simprocAttr]
  refine .done (hK _ ?_);clear hK K
  refine U.bM ?_
  simp only[ao,ab,simprocAttr]
  refine ⟨fun h =>?_,fun h =>?_⟩
  ·cases h
  refine U.skip ?_;try simp only[ay,simprocAttr]
  have hof:∀ j,j<i+1→lp (eS rs j)=true:=fun j hj=>by
   rcases Nat.lt_or_ge j i with h1 | h1
   ·exact hi.2 j h1
   ·have:j=i:=by omega
    subst this;exact hr
  refine .bP (by decide +kernel) fun K hK =>?_
  simp only[vu,ab,simprocAttr]
  try simp only[dB,dC,Pb,WB,WA,ab,simprocAttr]
  refine .bQ false [(7,40)] [] [enc (⟨m.gi,m.gM,jm m rs i⟩:cH),enc (eS rs i)] (Jo 7 ⟨m.gi,m.gM,jm m rs i⟩ (eS rs i)) rfl (M7 ⟨m.gi,m.gM,jm m rs i⟩ (eS rs i) (fun g hg=>ahU hm g (ahH hg)) (Nat.le_trans (IP m rs i) hlen)) fy.nil ⟨.inl ⟨(gL _ _).symm,bG _ _,dz _⟩,.inl ⟨(gL _ _).symm,bG _ _,dz _⟩,trivial⟩ ?_ ?_
  ·rintro x os' (⟨_,rfl,rfl⟩ | ⟨k,rfl,rfl⟩)
   ·exact dn.nil (fun _=>rfl) (fun h=>by cases h)
   ·exact dn.o9 (fun p=>lT p _) (fun h=>by cases h) rfl (fun h=>by cases h) rfl (by decide)
  ·rintro x os' (⟨hp,rfl,rfl⟩ | ⟨k,rfl,rfl⟩)
   ·try simp only[gL,fK,List.nil_append,ab,simprocAttr]
    refine .done (hK _ ?_);clear hK K;try simp only[ay,cg]
    refine .bP (by decide +kernel) fun K hK =>?_
    simp only[rZ,ab,simprocAttr]
    refine .done (hK _ ?_);clear hK K;try simp only[ay]
    refine ⟨i+1,⟨by omega,hof⟩,by omega,?_⟩
    rw[cN _ (by omega) (by omega),IQ,hp]
    refine aI.b9 ?_ ?_ ?_ ?_ <;>simp[bd,bT,bS,bD,au,bh,cI,I.only,ai.only,bG]
   ·try simp only[iv,fK,fS,List.cons_append,List.nil_append,ab,simprocAttr]
    refine .done (hK _ ?_);clear hK K;try simp only[ay,cg]
    refine .bP (by decide +kernel) fun K hK =>?_
    simp only[rZ,ab,simprocAttr]
    refine .done (hK _ ?_);clear hK K;try simp only[ay]
    refine ⟨i+1,⟨by omega,hof⟩,by omega,?_⟩
    rw[cN _ (by omega) (by omega),IQ]
    refine aI.nt (y:=enc (ky ⟨m.gi,m.gM,jm m rs i⟩ (eS rs i))) [40] 7 rfl ?_ ?_ ?_ ?_ ?_ ?_
    ·try simp only[iJ,List.filter_cons,List.filter_nil,List.contains_cons,List.contains_nil,Nat.reduceBEq,Bool.or_false,BEq.rfl,pZ (α:=cz) (sz:=7) rfl,ym,ab,simprocAttr]
    ·simp[c4,bD,ai.only,bG]
    ·simp[bd,fW,bh,I.only,bG]
    ·simp[bT,c4,cI]
    ·simp[bS,au,cI,I.only,bG]
    ·simp[bD,ai.only,bG]
 refine .ar (by decide +kernel) fun K hK =>?_
 simp only[DI,ab,simprocAttr]
 try simp only[dB,dC,ab,simprocAttr]
 refine .bQ false [(7,21)] [] [enc m.given] (uJ m.given) rfl (yK m.given hlen) fy.nil ⟨.inl ⟨(gL _ _).symm,bG _ _,dz _⟩,trivial⟩ ?_ ?_
 ·rintro x os' (⟨_,h | h,rfl⟩ | ⟨_,k,rfl,rfl⟩)
  ·subst h;exact dn.nil (fun _=>rfl) (fun h=>by cases h)
  ·subst h;exact dn.nil (fun _=>rfl) (fun h=>by cases h)
  ·exact dn.o9 (fun p=>lT p _) (fun h=>by cases h) rfl (fun h=>by cases h) rfl (by decide)
 ·rintro x os' (⟨hn,h,rfl⟩ | ⟨hn,k,rfl,rfl⟩)
  ·have hren:∀ x:I,(x=.nils 7∨x=.c0 7)→x.aS (bF [(7,21)])=x:=by rintro x (rfl | rfl) <;>simp only[I.aS]
   rw[hren x h]
   try simp only[fK,List.nil_append,ab,simprocAttr]
   refine .done (hK _ ?_);clear hK K
   refine U.sub (aI.nt (y:=enc m.given) [] 7 rfl ?_ ?_ ?_ ?_ ?_ ?_) (key _ rfl)
   ·rw[hn];rcases h with rfl | rfl <;>simp only[gJ,List.map_nil] <;>rfl
   ·simp[c4,bD,ai.only,bG]
   ·simp[bd,fW,bh,I.only,bG]
   ·simp[bT,c4,cI]
   ·simp[bS,au,cI,I.only,bG]
   ·simp[bD,ai.only,bG]
  ·try simp only[iv,fK,fS,List.cons_append,List.nil_append,ab,simprocAttr]
   refine .done (hK _ ?_);clear hK K
   refine U.sub (aI.nt (y:=enc m.given) [21] 7 rfl ?_ ?_ ?_ ?_ ?_ ?_) (key _ rfl)
   ·try simp only[iJ,List.filter_cons,List.filter_nil,List.contains_cons,List.contains_nil,Nat.reduceBEq,Bool.or_false,BEq.rfl,pZ (α:=cz) (sz:=7) rfl,ym,ab,simprocAttr]
   ·simp[c4,bD,ai.only,bG]
   ·simp[bd,fW,bh,I.only,bG]
   ·simp[bT,c4,cI]
   ·simp[bS,au,cI,I.only,bG]
   ·simp[bD,ai.only,bG]
theorem Cn(n:Nat)(ts:List (Nat×I)):∀ t,Abs.b8 (fW [n] ts) t=if (Abs.b8 ts t).only (fun j => ![n].contains j)=true then Abs.b8 ts t else .db:=by
 intro t
 simp only[fW]
 induction ts with
 |nil=>simp[Abs.b8]
 |cons q ts ih =>
  obtain ⟨k,v⟩:=q
  simp only[List.map_cons,Abs.b8]
  split
  ·rfl
  ·exact ih
theorem tL{p q:Nat→Bool}(h:∀ n,p n=true→q n=true){y:ai}(hy:y.only p=true):y.only q=true:=by
 cases y with
 |box x=>exact iN h _ hy
 |bX T sz es=>exact iq h _ hy
 |dJ o=>rfl
 |cU T xs=>rfl
 |ct ks vs=>simp only[ai.only,Bool.and_eq_true] at hy ⊢;exact ⟨iq h _ hy.1,iq h _ hy.2⟩
 |it ks vs l c=>simp only[ai.only,Bool.and_eq_true] at hy ⊢;exact ⟨iq h _ hy.1,iq h _ hy.2⟩
theorem sX{n k:Nat} : ∀ {ts:List (Nat×I)},(∀ q∈ts,mX n k q.2)→∀ t,mX n k (Abs.b8 ts t)
 | [],_,_=>.inr rfl
 |(a,v)::ts,h,t=>by
  simp only[Abs.b8]
  split
  ·exact h (a,v) (by simp)
  ·exact sX (fun q hq=>h q (by simp[hq])) t
theorem sY{p:Nat→Bool}{n k:Nat}(hp:p=fun j => ![n].contains j)(f:ai→ai)(hf:∀ y:ai,y.only p=true→f y=y):∀ {os:List (Nat×ai)},bD p (c4 [n] os)→bD p (c4 [n] (os.map fun q=>(q.1,f q.2)))
 | [],_=>trivial
 |(m,y)::os,h=>by
  simp only[List.map_cons,c4,List.filter_cons] at h ⊢
  split
  ·rename_i hm
   rw[if_pos hm] at h
   refine ⟨?_,sY (k:=k) hp f hf h.2⟩
   rw[hf y h.1];exact h.1
  ·rename_i hm
   rw[if_neg hm] at h
   exact sY (k:=k) hp f hf h
theorem Cr{ys q:List Int}{k:Nat}(hk:ys.length=k):kW 1 0 k (some ((ys++q).map enc))=some (enc ys):=by
 have h:(((ys++q).map (enc (α:=Int))).drop 0).take k=ys.map enc:=by
  rw[List.drop_zero,List.map_append,List.take_append_of_le_length (by simp[hk]),List.take_of_length_le (by simp[hk])]
 simp only[kW,h]
 rw[if_pos (ke ys),gJ];rfl
theorem Mh{n k:Nat} : ∀ y:ai,y.only (fun j => ![n].contains j)=true→iw (fx n k) y=y:=fun y hy=>by
 cases y <;>try rfl
 simp only[ai.only] at hy
 simp only[iw,qN (iN (fun j hj=>by simpa using hj) _ hy)]
theorem Mg{n:Nat} : ∀ y:ai,y.only (fun j => ![n].contains j)=true→iw (fw n) y=y:=fun y hy=>by
 cases y <;>try rfl
 simp only[ai.only] at hy
 simp only[iw,yl (iN (fun j hj=>by simpa using hj) _ hy)]
theorem Me{ts ts':List (Nat×I)}(h:∀ q∈ts',Abs.b8 ts q.1=q.2):bd ts ts':=by
 induction ts' with
 |nil=>trivial
 |cons q ts' ih=>exact ⟨h q (by simp),ih fun q hq=>h q (by simp[hq])⟩
theorem U.L0{W0:World}{D0:aQ}{nn:Nat}{ow:Nat→Prop}{E1:aX}{Y:Value→List I→List (Nat×ai)→cR→Prop}{mb:Option Nat}{y:aN}{Q:Exit→af→Prop}{ts:List (Nat×I)}{os:List (Nat×ai)}{a b d n:Nat}{xs:List Int}
  (hd:Abs.b8 ts d=.own n xs.length) (hn:al os n=some (.cU 3 xs)) (hlt:n<1000000) (hl:xs.length≤60) (ht:∀ t,mX n xs.length (Abs.b8 ts t)) (ho:bD (fun j => ![n].contains j) (c4 [n] os))
  (ts':List (Nat×I)) (h1:∀ q∈ts',q.1≠a∧q.1≠b∧Abs.b8 ts q.1=q.2∧q.2.only (fun j=>j != n)=true)
  (hda:d≠a) (hdb:d≠b)
  (h:U ⟨Tryz.prog,W0,D0,nn,ow,E1,Y,mb⟩ y Q (av ((d,enc (eb xs))::ts') (c4 [n] os))) :
  U ⟨Tryz.prog,W0,D0,nn,ow,E1,Y,mb⟩ (.seq (.bW none [⟨some a,.mv (.t d),none⟩,⟨some b,.call 107 [.t a],none⟩]) y) Q (av ts os):=by
 have hdrop:∀ m,al (c4 [n] os) m=if m=n then none else al os m:=fun m=>by
  have:=mQ [n] os m
  simpa using this
 have ho':∀ m y,al os m=some y→m≠n→y.only (fun j=>j != n)=true:=fun m y hy hm=>by
  have:=xA ho m y (by rw[hdrop,if_neg hm];exact hy)
  exact tL (fun j hj=>by simpa using hj) this
 by_cases hx:xs=[]
 ·subst hx
  refine U.sub (aI.Ml hn (aI.refl _)) ?_
  refine U.seq (U.bW (cl:=[]) (by rfl) fun K hK =>?_)
  have hd':Abs.b8 (ts.map fun q=>(q.1,fw n q.2)) d=.nils 1:=by
   rw[oX _ rfl,hd];simp[fw]
  simp only[ab,simprocAttr,hd']
  refine .flat _ (ME _ (.inr rfl)) rfl ?_
  try simp only[ab,simprocAttr]
  refine .done (hK _ ?_);clear hK K
  refine U.sub ((aI.ik [n] d (x:=.nils 1) (y:=enc ([]:List Int)) ?_ (by rfl) ?_).trans (aI.c7 ?_ fun m =>?_)) h
  ·simp only[Abs.b8,hda,hdb,if_false];exact hd'
  ·exact sY (k:=0) rfl (iw (fw n)) Mg ho
  ·refine ⟨by simp[Abs.b8,eb],Me fun q hq =>?_⟩
   obtain ⟨k1,k2,k3,k4⟩:=h1 q hq
   have hqd:q.1≠d:=fun e=>by
    rw[e,hd] at k3
    rw[←k3] at k4
    simp[I.only] at k4
   have h5:Abs.b8 (ts.map fun p=>(p.1,fw n p.2)) q.1=q.2:=by
    rw[oX _ rfl,k3,yl k4]
   simp only[Abs.b8,Cn,k1,k2,hqd,if_false,h5]
   rw[if_pos (iN (fun j hj=>by simpa using hj) _ k4)]
  ·rw[hdrop,mQ,sC]
   by_cases hm:m=n
   ·simp[hm]
   ·cases h6:al os m with
    |none=>simp[hm]
    |some y =>
     have h7:iw (fw n) y=y:=Mg _ (tL (fun j hj=>by simpa using hj) (ho' _ _ h6 hm))
     simp[hm,h7]
 ·refine U.Mk hn hx hlt ht (fun m y hy hm=>.inr (ho' m y hy hm)) fun q =>?_
  refine U.seq (U.bW (cl:=[]) (by rfl) fun K hK =>?_)
  have hd':Abs.b8 (ts.map fun p=>(p.1,fx n xs.length p.2)) d=.view n [] 1 0 xs.length:=by
   rw[oX _ rfl,hd];simp[fx]
  simp only[ab,simprocAttr,hd']
  refine .bQ false [(1000000,n)] (cu 1000000 (xs++List.replicate q 0)) [.view 1000000 [] 1 0 xs.length] _ rfl (MD xs _ hl) ?_ ?_ ?_ ?_
  ·refine ⟨fun m y hy =>?_,fun m m' h h' _=>by rw[cV.1 h,cV.1 h']⟩
   simp only[cu,al] at hy
   split at hy
   ·rename_i hm
    cases hy
    subst hm
    exact ⟨by simp only[bF,if_true,al,ai.aS,I.aS,fS],nF _ _,rfl⟩
   ·cases hy
  ·exact ⟨.inl ⟨by simp[I.aS,bF],cV.2 rfl,rfl⟩,trivial⟩
  ·rintro eS os2 ⟨rfl,rfl⟩
   refine ⟨fun m y hy =>?_,fun m m' h h' _=>by rw[cV.1 h,cV.1 h'],fun m hm=>by rw[cV.1 hm];exact cV.2 rfl,fun m a b=>by rw[cV.1 a] at b;simp[cu,au,al] at b,rfl,fun _=>rfl⟩
   simp only[cu,al] at hy
   split at hy
   ·cases hy;exact ⟨nF _ _,rfl,fun h=>by cases h⟩
   ·cases hy
  ·rintro eS os2 ⟨rfl,rfl⟩
   try simp only[cu,dF,List.map_cons,List.map_nil,ai.aS,I.aS,fS,bF,reduceIte,List.cons_append,List.nil_append,I.cW,ab,simprocAttr]
   refine .done (hK _ ?_);clear hK K
   refine U.sub ((aI.ik [n] d (x:=.view n [] 1 0 xs.length) (y:=enc (eb xs)) ?_ ?_ ?_).trans (aI.c7 ?_ fun m =>?_)) h
   ·simp only[Abs.b8,hda,hdb,if_false];exact hd'
   ·have:al (iJ [n] ((n,ai.box (I.agg ((eb xs++List.replicate q 0).map enc)))::(n,ai.box (I.agg ((xs++List.replicate q 0).map enc)))::os.map fun p=>(p.1,iw (fx n xs.length) p.2))) n=some (.box (.agg ((eb xs++List.replicate q 0).map enc))):=by
     rw[nE];simp[al]
    try simp only[this,ab,simprocAttr]
    exact Cr (by simp[eb])
   ·have:=sY (k:=0) rfl (iw (fx n xs.length)) Mh ho
    simpa[c4] using this
   ·refine ⟨by simp[Abs.b8],Me fun q hq =>?_⟩
    obtain ⟨k1,k2,k3,k4⟩:=h1 q hq
    have hqd:q.1≠d:=fun e=>by
     rw[e,hd] at k3
     rw[←k3] at k4
     simp[I.only] at k4
    have h5:Abs.b8 (ts.map fun p=>(p.1,fx n xs.length p.2)) q.1=q.2:=by
     rw[oX _ rfl,k3,qN k4]
    simp only[Abs.b8,Cn,k1,k2,hqd,if_false,h5]
    rw[if_pos (iN (fun j hj=>by simpa using hj) _ k4)]
   ·rw[hdrop,mQ]
    by_cases hm:m=n
    ·simp[hm]
    ·simp only[al,if_neg hm,sC]
     cases h6:al os m with
     |none=>simp[hm]
     |some y =>
      have h7:iw (fx n xs.length) y=y:=Mh _ (tL (fun j hj=>by simpa using hj) (ho' _ _ h6 hm))
      simp[hm,h7]
def fp(l:List ak)(o:List Nat)(i:Nat):List aY×List Nat:=(o.take i).foldl (n9 ft l) ([],[])
theorem Jj{l:List ak}{o:List Nat}{i:Nat}(h:i<o.length):fp l o (i+1)=n9 ft l (fp l o i) (o.getD i 0):=by
 have e:o.getD i 0=o[i]:=by rw[List.getD_eq_getElem?_getD,List.getElem?_eq_getElem h];rfl
 simp only[fp]
 rw[List.take_succ_eq_append_getElem h,List.foldl_append,e];rfl
theorem Ji(l:List ak)(o:List Nat):fp l o o.length=qy ft l o:=by simp only[fp,List.take_length];rfl
theorem OC{bs bs':List aY}{x:ak}{n:Nat}(hs:∀ b∈bs,b.cd.length≤n)(h:eE ft bs x=some bs'):bs'.length≤bs.length+1∧∀ b∈bs',b.cd.length≤n+1:=by
 simp only[eE] at h
 split at h
 ·split at h
  ·simp only[Option.some.injEq] at h
   subst h
   refine ⟨by simp[ft],fun b hb =>?_⟩
   simp only[ft,List.mem_append,List.mem_singleton] at hb
   rcases hb with hb | rfl
   ·exact Nat.le_succ_of_le (hs b hb)
   ·simp[fJ]
  ·cases h
 ·split at h
  ·cases h
  ·rename_i b0 hb0
   simp only[Option.map_eq_some_iff] at h
   obtain ⟨b',hb',rfl⟩:=h
   refine ⟨by simp[mi],fun b hb =>?_⟩
   simp only[mi,List.mem_map] at hb
   obtain ⟨c,hc,rfl⟩:=hb
   split
   ·have h0:=hs b0 (ae8 hb0).1
    simp only[lE] at hb'
    repeat' split at hb'
    all_goals first
     |(cases hb';done)
     |(simp only[Option.some.injEq] at hb';subst hb';simp only[List.length_append,List.length_singleton];omega)
     |(simp only[Option.some.injEq] at hb';subst hb';simp only;omega)
   ·exact Nat.le_succ_of_le (hs c hc)
theorem xH(l:List ak)(o:List Nat):∀ i,i≤o.length→((fp l o i).1.map (·.no)).Nodup∧(fp l o i).1.length≤i∧(∀ b∈(fp l o i).1,b.cd.length≤i)∧(fp l o i).2.length≤i
 |0,_=>⟨by simp[fp],by simp[fp],by simp[fp],by simp[fp]⟩
 |i+1,h=>by
  obtain ⟨h1,h2,h3,h4⟩:=xH l o i (by omega)
  rw[Jj (by omega)]
  simp only[n9]
  split
  ·rename_i bs hb
   have:=OC h3 hb
   exact ⟨OB N9 h1 hb,by simp only;omega,this.2,by simp only;omega⟩
  ·exact ⟨h1,by simp only;omega,fun b hb=>Nat.le_succ_of_le (h3 b hb),by simp;omega⟩
theorem Iu(B:Nat)(b:aY):∀ (bs:List aY) (i:Nat),eJ B i (bs++[b])=eJ B i bs++eJ B (i+bs.length) [b]
 | [],i=>rfl
 |a::bs,i=>by
  simp only[List.cons_append,eJ,Iu B b bs (i+1),List.length_cons]
  rw[show i+1+bs.length=i+(bs.length+1) by omega]
theorem ait(B n:Nat):ea B (n+1)=ea B n++[.ptr (B+2+2*n) []]:=by
 simp only[ea,List.range_succ,List.map_append,List.map_cons,List.map_nil]
theorem p9{bs:List aY}{n:Nat}(h:¬ (n=43∨n=41∨(2002≤n∧n<2002+2*bs.length))):al (dS bs) n=none:=by
 have:=wB (bs:=bs) (n:=n)
 rw[decide_eq_false h] at this
 simpa[au] using this
theorem afF{bs:List aY}{n:Nat}(h:n=43∨n=41∨(2002≤n∧n<2002+2*bs.length)):∃ y,al (dS bs) n=some y:=by
 have:=wB (bs:=bs) (n:=n)
 rw[decide_eq_true h] at this
 exact Option.isSome_iff_exists.1 this
theorem w0{bs bs':List aY}{z y:ai}(h:bs.length≤bs'.length)(n:Nat):al (dS bs'++((900,z)::(dS bs++[(3,y)]))) n=al ((900,z)::(dS bs'++[(3,y)])) n:=by
 simp only[jU,al]
 by_cases h1:n=43∨n=41∨(2002≤n∧n<2002+2*bs'.length)
 ·obtain ⟨aq,hu⟩:=afF h1
  have:n≠900:=by omega
  simp only[hu,this,if_false]
 ·have h2:al (dS bs) n=none:=p9 (by omega)
  simp only[p9 h1,h2]
theorem agw{bs:List aY}{z z' y:ai}(n:Nat):al ((900,z')::(dS bs++((900,z)::(dS bs++[(3,y)])))) n=al ((900,z')::(dS bs++[(3,y)])) n:=by
 have h:=w0 (bs:=bs) (bs':=bs) (z:=z) (y:=y) (Nat.le_refl _) n
 by_cases hn:n=900
 ·simp only[al,hn,if_true]
 ·simp only[al,if_neg hn] at h ⊢
  rw[h]
theorem agv{bs:List aY}{b:aY}{z y:ai}(hk:bs.length≤60)(hb:b.cd=[])(n:Nat) :
  al ((2002+2*bs.length,.box (ef b (.own (2003+2*bs.length) 0)))::(2003+2*bs.length,.bX 66 6 [])::(mK bs b++((900,z)::(dS bs++[(3,y)])))) n=al ((900,z)::(dS (bs++[b])++[(3,y)])) n:=by
 have hC:al (dS (bs++[b])) n=if n=43 then some (.box (.agg [.mref 41])) else if n=41 then some (.ct (dh (bs++[b])) (ea 2000 bs.length++[.ptr (2002+2*bs.length) []])) else
   match al (eJ 2000 0 bs) n with
   |some aq=>some aq
   |none=>if n=2002+2*bs.length then some (.box (ef b (.own (2003+2*bs.length) 0))) else if n=2003+2*bs.length then some (.bX 66 6 []) else none:=by
  simp only[dS,al,Iu,jU,eJ,hb,List.map_nil,List.length_nil,List.length_append,List.length_singleton,ait,Nat.zero_add]
  rfl
 have hL:al (dS bs) n=if n=43 then some (.box (.agg [.mref 41])) else if n=41 then some (.ct (dh bs) (ea 2000 bs.length)) else al (eJ 2000 0 bs) n:=rfl
 have hlow:n<2002→al (eJ 2000 0 bs) n=none:=fun h=>sy 2000 bs 0 n (by omega)
 have hhigh:2002+2*bs.length≤n→al (eJ 2000 0 bs) n=none:=fun h=>sw 2000 bs 0 n (by omega)
 simp only[al,jU,mK,List.cons_append,hC,hL]
 by_cases c1:n=2002+2*bs.length
 ·have d1:¬ n=900:=by omega
  have d2:¬ n=43:=by omega
  have d3:¬ n=41:=by omega
  rw[if_pos c1,if_neg d1,if_neg d2,if_neg d3,hhigh (by omega)]
  simp only[c1,if_true]
 by_cases c2:n=2003+2*bs.length
 ·have d1:¬ n=900:=by omega
  have d2:¬ n=43:=by omega
  have d3:¬ n=41:=by omega
  rw[if_neg c1,if_pos c2,if_neg d1,if_neg d2,if_neg d3,hhigh (by omega)]
  simp only[c2,if_true]
  rw[if_neg (by omega)]
 rw[if_neg c1,if_neg c2]
 by_cases c3:n=41
 ·have d1:¬ n=900:=by omega
  have d2:¬ n=43:=by omega
  rw[if_pos c3,if_neg d1,if_neg d2,if_pos c3]
 rw[if_neg c3,if_neg c1]
 by_cases ja:n=43
 ·have d1:¬ n=900:=by omega
  simp only[ja,if_true]
  simp
 rw[if_neg ja,if_neg ja]
 by_cases kL:n=900
 ·have:=hlow (by omega)
  subst kL
  simp[this]
 ·cases hq:al (eJ 2000 0 bs) n with
  |some aq=>simp only[kL,c3,if_false]
  |none=>simp only[kL,c3,c1,c2,if_false]
theorem xB{p:Nat→Bool}{ns:List Nat} : ∀ {os:List (Nat×ai)},bD p os→bD p (c4 ns os)
 | [],_=>trivial
 |(m,y)::os,h=>by
  simp only[c4,List.filter_cons]
  split
  ·exact ⟨h.1,xB h.2⟩
  ·exact xB h.2
theorem I4{p:Nat→Bool} : ∀ {os os':List (Nat×ai)},bD p os→bD p os'→bD p (os++os')
 | [],_,_,h=>h
 |_::_,_,h,k=>⟨h.1,I4 h.2 k⟩
theorem Iv{p:Nat→Bool}{B:Nat}(hp:∀ j,B≤j→p j=true):∀ (bs:List aY) (i:Nat),bD p (eJ B i bs)
 | [],_=>trivial
 |b::bs,i=>⟨by simp[ai.only,ef,I.only,I.bU,hp _ (show B≤B+3+2*i by omega)],ev _ _,Iv hp bs (i+1)⟩
theorem afE{p:Nat→Bool}(hp:∀ j,2000≤j→p j=true)(h41:p 41=true)(bs:List aY):bD p (dS bs) :=
 ⟨by simp[ai.only,I.only,I.bU,h41],by simp only[ai.only,Bool.and_eq_true];exact ⟨ev _ _,xD _ fun i _=>hp _ (by omega)⟩,Iv hp bs 0⟩
def gu(bs:List aY):I:=.ref (.agg [.cS (dh bs) (bs.map fun b=>.ref (enc (⟨b⟩:ez)))])
theorem IC{f:I→Option I} : ∀ {xs ys:List I},xs.length=ys.length→(∀ (i:Nat) (x y:I),xs[i]?=some x→ys[i]?=some y→f x=some y)→fE f xs=some ys
 | [],[],_,_=>rfl
 |x::xs,y::ys,hl,h=>by
  have h1:=h 0 x y rfl rfl
  have h2:=IC (f:=f) (xs:=xs) (ys:=ys) (by simpa using hl) fun i a b ha hb=>h (i+1) a b ha hb
  simp only[fE,h1,h2]
theorem W3{A:af}{bs:List aY}(hA:∀ m y,al (dS bs) m=some y→A.o m=some y):bp true A (.ptr 43 [])=some (gu bs):=by
 have h43:A.o 43=some (.box (.agg [.mref 41])):=hA _ _ rfl
 have h41:A.o 41=some (.ct (dh bs) (ea 2000 bs.length)):=hA _ _ rfl
 have hl:∀ k,k<bs.length→2002+2*k≠43∧2002+2*k≠41∧2003+2*k≠43∧2003+2*k≠41:=fun k hk=>by omega
 have hm:fE (dU A 7) (ea 2000 bs.length)=some (bs.map fun b=>.ref (enc (⟨b⟩:ez))):=by
  refine IC (by simp[ea]) fun i x y hx hy =>?_
  have hi:i<bs.length:=by
   have:=(List.getElem?_eq_some_iff.1 hx).1
   simpa[ea] using this
  rw[Jp hi] at hx
  simp only[List.getElem?_map,List.getElem?_eq_getElem hi,Option.map_some,Option.some.injEq] at hx hy
  subst hx hy
  obtain ⟨q1,q2,q3,q4⟩:=hl i hi
  have h1:A.o (2000+2+2*i)=some (.box (ef bs[i] (.own (2000+3+2*i) (bs[i]).cd.length))):=hA _ _ (by
   simp only[dS,al];rw[if_neg (by omega),if_neg (by omega)]
   have:=sx 2000 bs 0 i hi
   rwa [Nat.zero_add] at this)
  have h2:A.o (2000+3+2*i)=some (.bX 66 6 ((bs[i]).cd.map enc)):=hA _ _ (by
   simp only[dS,al];rw[if_neg (by omega),if_neg (by omega)]
   have:=sA 2000 bs 0 i hi
   rwa [Nat.zero_add] at this)
  have h3:=lP (m:=3) h2
  have h4:cv A (.ptr (2000+2+2*i) [])=some (ef bs[i] (.own (2000+3+2*i) (bs[i]).cd.length)):=by
   simp only[cv,h1];exact oD _
  rw[dU]
  simp only[I.bu,Bool.false_eq_true,if_false,h4]
  rw[h3];rfl
 have h5:dU A 8 (.mref 41)=some (.cS (dh bs) (bs.map fun b=>.ref (enc (⟨b⟩:ez)))):=by
  rw[dU]
  simp only[I.bu,Bool.false_eq_true,if_false,h41]
  rw[if_pos (show I.bV (dh bs)=true from ke _),hm];rfl
 have h6:dU A 9 (.agg [.mref 41])=some (.agg [.cS (dh bs) (bs.map fun b=>.ref (enc (⟨b⟩:ez)))]):=by
  rw[dU]
  simp only[I.bu,I.bV,Bool.and_true,Bool.false_eq_true,if_false,fE,h5,Option.map_some]
 simp only[bp,cv,h43,if_true,oD,I.bu,I.bV,Bool.and_true,Bool.false_eq_true,if_false,h6]
 rfl
def qx(l:List ak)(day known:Int):I:=.tuple [gu (qy ft l (jH l day known)).1,enc (eb (dw (qy ft l (jH l day known)).2))]
def N4(l:List ak)(ord:List Int):af:=av [(3,.ptr 3 []),(9,.nils 1),(11,.ptr 43 []),(12,kg),(45,enc ord),(46,.int .i64 ord.length),(47,.int .i64 0)] [(43,.box (.agg [.mref 41])),(41,.ct [] []),(3,.box (enc l))]
def yX(l:List ak)(o:List Nat)(i:Nat):af:=av [(3,.ptr 3 []),(9,.own 900 (dw (fp l o i).2).length),(11,.ptr 43 []),(12,kg),(45,enc (dw o)),(46,.int .i64 (dw o).length),(47,.int .i64 i)] ((900,.cU 3 (dw (fp l o i).2))::(dS (fp l o i).1++[(3,.box (enc l))]))
theorem afU{xs:List Int}{i:Nat}(h:i<xs.length)(A:af):jf A 1 (i:Int) (enc xs)=some (.ref (.int .i64 (xs.getD i 0))):=by
 rw[gw 1 (by omega) rfl,List.getD_eq_getElem?_getD,List.getElem?_eq_getElem h];rfl
noncomputable abbrev BS (W0:World) (D0:aQ) (E1:aX):cQ := { P:=Tryz.prog,eT:=W0,D0:=D0,n:=Tryz.f88.ntmps,own:=dm E1,dp:=E1,Y:=il,mb:=none }
def Mt:aN:=((aN.bW none sa).seq ((aN.cond (aJ.t 48) aN.skip (aN.exit 2)).seq ((aN.block 3 ((aN.bW none vX).seq ((aN.bW BT sc).seq (aN.cond (aJ.t 64) (aN.bW none HD) aN.skip)))).seq (aN.bW none HE))))
def aj2:aN:=(aN.bW none HF).seq ((aN.bW none HG).seq aN.ret)
theorem yT(l:List ak)(day known:Int)(hok:c6 l=true){W0:World}{D0:aQ}{E1:aX} : U (BS W0 D0 E1) (.block 2 (.loop Mt)) (ay (fun B=>U (BS W0 D0 E1) aj2 (jq [.tmp 6,.tmp 7] (qx l day known)) B) (jq [.tmp 6,.tmp 7] (qx l day known))) (N4 l (pj l day known)):=by
 have hl:=jE hok
 have hmem:∀ i∈jH l day known,i<l.length∧(ae l i).kind≠0:=fun i hi=>by
  have h1:=aif hi
  refine ⟨B5 h1,?_⟩
  have:=(List.mem_filter.1 h1).2
  simp only[Bool.and_eq_true,decide_eq_true_eq] at this
  exact this.1
 have hol:(jH l day known).length≤60:=by rw[Jd];exact Nat.le_trans (uU l day known) hl
 have hall:=Ji l (jH l day known)
 simp only[qx,pj,←hall]
 clear hall
 generalize jH l day known=o at hmem hol ⊢
 have htl:(dw o).length=o.length:=by simp[dw]
 refine U.block (U.loop (fun i:Nat=>yX l o i) (fun i=>i≤o.length) (fun i=>o.length-i) 0 (Nat.zero_le _) ?_ (fun i hi =>?_))
 ·refine aI.y6 9 900 3 1 rfl rfl ?_
  refine aI.c7 ?_ (fun n =>?_)
  ·simp[bd,bh,fp,dw]
  ·simp only[fp,dw,List.take_zero,List.foldl_nil,List.map_nil,dS,eJ,ea,dh,List.length_nil,List.range_zero,List.cons_append,List.nil_append]
 obtain ⟨hnd,hbl,hsl,hvl⟩:=xH l o i hi
 simp only[yX,Mt]
 have n3:al ((900,.cU 3 (dw (fp l o i).2))::(dS (fp l o i).1++[(3,.box (enc l))])) 3=some (.box (enc l)):=by
  simp only[al,jU]
  rw[p9 (by omega)];rfl
 by_cases hlt:i<o.length
 ·have hc:decide ((i:Int)<((dw o).length:Int))=true:=by rw[htl];exact fY hlt
  have hw:=fF (i:=i) (by omega)
  have hst:=Jj (l:=l) hlt
  generalize fp l o i=s at *
  obtain ⟨bs,vd⟩:=s
  simp only at hnd hbl hsl hvl n3 hst ⊢
  obtain ⟨j,hj⟩:∃ j,j=o.getD i 0:=⟨_,rfl⟩
  have hjm:j∈o:=by
   rw[hj,List.getD_eq_getElem?_getD,List.getElem?_eq_getElem hlt];exact List.getElem_mem hlt
  obtain ⟨hjl,hjk⟩:=hmem j hjm
  rw[←hj] at hst
  have he:=gv hjl
  have hi2:∀ A,jf A 1 (i:Int) (enc (dw o))=some (.ref (.int .i64 (j:Int))):=fun A=>by
   rw[afU (by omega),hj]
   congr 3
   simp[dw,List.getD_eq_getElem?_getD,List.getElem?_eq_getElem hlt]
  obtain ⟨f,hf1,hf2,hf3⟩:=uR (bs:=bs) (xr hok hjl) hjk hnd (fun b hb=>by have:=hsl b hb;omega)
  have hmo:∀ A,fZ A kg=some (mG,mH):=fun A=>rfl
  refine .ar (by decide +kernel) fun K hK =>?_
  simp only[sa,ab,simprocAttr]
  simp only[hc]
  refine .done (hK _ ?_);clear hK K
  refine U.seq ?_
  refine U.bM ?_
  simp only[ao,ab,simprocAttr]
  refine ⟨fun h =>?_,fun h =>?_⟩
  case refine_2=>cases h
  refine U.skip ?_;try simp only[ay,simprocAttr]
  refine U.seq (U.block ?_)
  refine .ar (by decide +kernel) fun K hK =>?_
  simp only[vX,ab,simprocAttr]
  try simp only[hi2,ab,simprocAttr]
  refine .done (hK _ ?_);clear hK K
  refine U.seq (U.tl (gs:=sc) [172,173,174,175,176,177] [] [0,1,2,3,4,5,6,7,8,9,10,11,12,13] (by decide +kernel) (eW.of trivial) fun K hK =>?_)
  try simp only[pn,sc,List.getD_cons_zero,List.getD_cons_succ,n3,he,hmo,hf1,eK,ew,aP,ab,simprocAttr]
  have hlo:∀ bs',bs.length≤bs'.length→al (dS bs'++((900,.cU 3 (dw vd))::(dS bs++[(3,.box (enc l))]))) 900=some (.cU 3 (dw vd)):=fun bs' h=>by
   rw[w0 h];rfl
  have htv:(dw vd).length=vd.length:=by simp[dw]
  have hap:=fun (A:af) d rest=>uh (A:=A) (d:=d) (e:=3) (bytes:=8) (n:=900) (l:=(dw vd).length) (xs:=dw vd) (y:=(j:Int)) (rest:=rest) rfl (by simp[dw,maxLen];omega) (by simp[dw];omega)
  refine cC.uR (by omega) hf2 hf3 rfl (fun hb =>?_) (fun bs' hb hk =>?_) (fun hb =>?_)
  ·have hs2:fp l o (i+1)=(bs,vd++[j]):=by rw[hst];simp only[n9,hb]
   have h900:=hlo bs (Nat.le_refl _)
   try simp only[ab,simprocAttr]
   have R:=And.intro @h900 (And.intro @hap (And.intro @eK (And.intro @bI (And.intro @aP @ab))))
   repeat' ((first
    |(with_reducible refine .guard (fun hb =>?_) (fun hb =>?_) <;>try simp only[hb])
    |refine U.aL (by decide +kernel) rfl fun K hK =>?_
    |(refine .aF [0,1,2,3,4,6,7,8,9,10,11,12,14,17,18,33,45,46,47,48,64] hK ?_;clear hK K)
    |(with_reducible refine .done (hK _ ?_);clear hK K)
    |refine U.of rfl ?_
    |(with_reducible refine ao.aK (fun h =>?_) (fun h =>?_) <;>try simp only[h])) <;>try simp only[aM,R,simprocAttr])
   all_goals clear R
   refine ⟨i+1,by omega,by omega,?_⟩
   rw[hs2,hw]
   have e:dw (vd++[j])=dw vd++[(j:Int)]:=by simp[dw]
   simp only[e]
   refine aI.c7 ?_ (fun n=>agw n)
   simp[bd,bh]
  ·have hs2:fp l o (i+1)=(bs',vd):=by rw[hst];simp only[n9,hb]
   try simp only[ab,simprocAttr]
   have R:=And.intro @eK (And.intro @bI (And.intro @aP @ab))
   repeat' ((first
    |(with_reducible refine .guard (fun hb =>?_) (fun hb =>?_) <;>try simp only[hb])
    |refine U.aL (by decide +kernel) rfl fun K hK =>?_
    |(refine .aF [0,1,2,3,4,6,7,8,9,10,11,12,14,17,18,33,45,46,47,48,64] hK ?_;clear hK K)
    |(with_reducible refine .done (hK _ ?_);clear hK K)
    |refine U.of rfl ?_
    |(with_reducible refine ao.aK (fun h =>?_) (fun h =>?_) <;>try simp only[h])) <;>try simp only[aM,R,simprocAttr])
   all_goals clear R
   refine ⟨i+1,by omega,by omega,?_⟩
   rw[hs2,hw]
   refine aI.c7 ?_ (fun n=>w0 (Nat.le_of_eq (ui hk hb).symm) n)
   simp[bd,bh]
  ·have hs2:fp l o (i+1)=(bs++[fJ (ae l j)],vd):=by rw[hst];simp only[n9,hb]
   try simp only[ab,simprocAttr]
   have R:=And.intro @eK (And.intro @bI (And.intro @aP @ab))
   repeat' ((first
    |(with_reducible refine .guard (fun hb =>?_) (fun hb =>?_) <;>try simp only[hb])
    |refine U.aL (by decide +kernel) rfl fun K hK =>?_
    |(refine .aF [0,1,2,3,4,6,7,8,9,10,11,12,14,17,18,33,45,46,47,48,64] hK ?_;clear hK K)
    |(with_reducible refine .done (hK _ ?_);clear hK K)
    |refine U.of rfl ?_
    |(with_reducible refine ao.aK (fun h =>?_) (fun h =>?_) <;>try simp only[h])) <;>try simp only[aM,R,simprocAttr])
   all_goals clear R
   refine ⟨i+1,by omega,by omega,?_⟩
   rw[hs2,hw]
   refine aI.Oc (2002+2*bs.length) (2003+2*bs.length) 66 6 6 [0,8] (ef (fJ (ae l j)) (.nils 6)) ?_ rfl ?_ ?_ (by omega)
   ·have:¬ 2002+2*bs.length=41:=by omega
    simp[mK,al,this]
   ·have h1:¬ 2003+2*bs.length=41:=by omega
    have h2:¬ 2003+2*bs.length=2002+2*bs.length:=by omega
    have h3:¬ 2003+2*bs.length=900:=by omega
    have h4:¬ 2003+2*bs.length=3:=by omega
    have h5:al (dS bs) (2003+2*bs.length)=none:=p9 (by omega)
    simp only[mK,List.cons_append,al,jU,h1,h2,h3,h4,h5,if_false]
   ·refine aI.c7 ?_ (fun n=>agv (by omega) rfl n)
    simp[bd,bh]
 ·have hio:i=o.length:=by omega
  subst hio
  have hc:decide ((o.length:Int)<((dw o).length:Int))=false:=by simp[htl]
  refine .ar (by decide +kernel) fun K hK =>?_
  simp only[sa,ab,simprocAttr]
  try simp only[hc,simprocAttr]
  refine .done (hK _ ?_);clear hK K
  refine U.seq ?_
  refine U.bM ?_
  simp only[ao,ab,simprocAttr]
  refine ⟨fun h =>?_,fun h =>?_⟩
  case refine_1=>cases h
  refine U.exit ?_;try simp only[ay,cg,simprocAttr]
  generalize fp l o o.length=s at *
  obtain ⟨bs,vd⟩:=s
  simp only at hnd hbl hsl hvl ⊢
  have htv:(dw vd).length=vd.length:=by simp[dw]
  have hw2:∀ t,mX 900 (dw vd).length (Abs.b8 [(48,I.bool false),(3,.ptr 3 []),(9,.own 900 (dw vd).length),(11,.ptr 43 []),(12,kg),(45,enc (dw o)),(46,.int .i64 ((dw o).length:Int)),(47,.int .i64 (o.length:Int))] t):=sX (by simp[mX,I.only,bG,kg,I.bU])
  refine U.L0 (a:=70) (b:=71) (d:=9) (n:=900) (xs:=dw vd) rfl rfl (by decide) (by omega) hw2 ?_ [(11,.ptr 43 [])] ?_ (by decide) (by decide) ?_
  ·refine xB ⟨rfl,I4 (afE (fun j hj=>by simp;omega) (by decide) bs) ⟨bG _ _,trivial⟩⟩
  ·simp[Abs.b8,I.only]
  ·have hfin:=fun (ts:List (Nat×I))=>W3 (A:=av ts (c4 [900] ((900,.cU 3 (dw vd))::(dS bs++[(3,.box (enc l))])))) (bs:=bs) (fun m y hy=>by
    have:m≠900:=fun e=>by
     rw[e,p9 (by omega)] at hy;cases hy
    simp only[av,mQ]
    simp[al,this,jU,hy])
   have R:=And.intro @hfin (And.intro @bI (And.intro @aP @ab))
   repeat' ((first
    |(with_reducible refine .guard (fun hb =>?_) (fun hb =>?_) <;>try simp only[hb])
    |refine U.aL (by decide +kernel) rfl fun K hK =>?_
    |(refine .aF [0,1,2,3,4,6,7,8,9,10,11,12,14,17,18,33,45,46,47,48,64] hK ?_;clear hK K)
    |(with_reducible refine .done (hK _ ?_);clear hK K)
    |refine U.of rfl ?_
    |(with_reducible refine ao.aK (fun h =>?_) (fun h =>?_) <;>try simp only[h])) <;>try simp only[aM,R,simprocAttr])
   all_goals clear R
theorem ajm{xs ys:List Int}(h:xs.Perm ys):eb xs=eb ys:=by
 unfold eb
 have hx:=List.pairwise_mergeSort (le:=fun x y:Int=>decide (x≤y)) (by intro a b c;simp;omega) (by intro a b;simp;omega) xs
 have hy:=List.pairwise_mergeSort (le:=fun x y:Int=>decide (x≤y)) (by intro a b c;simp;omega) (by intro a b;simp;omega) ys
 refine List.Perm.eq_of_pairwise (fun a b _ _ h k =>?_) hx hy ((List.mergeSort_perm _ _).trans (h.trans (List.mergeSort_perm _ _).symm))
 simp only[decide_eq_true_eq] at h k;omega
theorem ag1{A:af}{d:Option Nat}{n:Nat}{rest:List aB}{ks vs:List I}{cur:Option Nat} : pf A d n rest (some (.it ks vs [] cur))=aC rest (A.aO d (.tuple [.bool false])):=by
 simp only[pf,if_true]
theorem a6.jl{P:Program}{Y:Value→List I→List (Nat×ai)→cR→Prop}{K:af→Prop}{A:af}{d:Option Nat}{n:Nat}{rest:List aB}{ks vs:List I}{left:List Nat}{cur:Option Nat}(hl:left≠[])
  (h:∀ i,i∈left→∃ kk x,ks[i]?=some kk∧vs[i]?=some x∧a6 P Y false K (aC rest ((A.aR n (.it ks vs (left.filter (· != i)) (some i))).aO d (.tuple [.bool true,kk,x])))) :
  a6 P Y false K (pf A d n rest (some (.it ks vs left cur))):=by
 simp only[pf,if_neg hl]
 refine .any rfl fun i hi =>?_
 obtain ⟨kk,x,h1,h2,h3⟩:=h i hi
 simp only[h1,h2]
 exact h3
def iP(bs:List aY)(p:aY→Bool)(aF:List Nat):List Int:=((aF.map fun i=>bs.getD i default).filter p).map (·.no)
theorem aip(bs:List aY)(p:aY→Bool)(aF:List Nat)(i:Nat):iP bs p (aF++[i])=iP bs p aF++if p (bs.getD i default) then [(bs.getD i default).no] else []:=by
 simp only[iP,List.map_append,List.filter_append,List.map_cons,List.map_nil,List.filter_cons,List.filter_nil]
 congr 1
 split <;>rfl
theorem Jh(bs:List aY)(p:aY→Bool)(aF:List Nat):(iP bs p aF).length≤aF.length:=by
 simp only[iP,List.length_map]
 exact Nat.le_trans (List.length_filter_le _ _) (by simp)
theorem aio{bs:List aY}{p:aY→Bool}{aF:List Nat}(h:aF.Perm (List.range bs.length)):(iP bs p aF).Perm ((bs.filter p).map (·.no)):=by
 have e:(List.range bs.length).map (fun i=>bs.getD i default)=bs:=by
  refine List.ext_getElem (by simp) fun i h1 h2 =>?_
  simp[List.getD_eq_getElem?_getD,h2]
 simp only[iP]
 refine List.Perm.map _ ?_
 have:=(h.map fun i=>bs.getD i default).filter p
 rwa [e] at this
theorem ah4(p:Nat→Bool)(bs:List aY):I.bU p (bs.map fun b=>.ref (enc (⟨b⟩:ez)))=true:=by
 induction bs with
 |nil=>rfl
 |cons b bs ih=>simp only[List.map_cons,I.bU,I.only,bG,ih,Bool.and_self]
def yW(bs:List aY)(p:aY→Bool)(f:FuncId)(caps:List I)(s:List Nat×List Nat×Option Nat):af :=
 av [(1,.func f caps),(5,.own 905 (iP bs p s.1).length),(12,.dj 12)] [(12,.it (dh bs) (bs.map fun b=>.ref (enc (⟨b⟩:ez))) s.2.1 s.2.2),(905,.cU 3 (iP bs p s.1))]
theorem ub(bs:List aY)(hn:bs.length≤60)(f:FuncId)(caps:List I)(hcaps:I.eO caps=true)(p:aY→Bool)(hf:∀ b∈bs,az Tryz.prog f (.ref (enc (⟨b⟩:ez))::caps) (enc (p b))) :
  az Tryz.prog 72 [gu bs,.func f caps] (enc (eb ((bs.filter p).map (·.no)))):=by
 refine az.bn Tryz.func72 QT SS U3 (Nat.le_of_ble_eq_true rfl) (fun hwf W0 D0 E1 =>?_)
 simp only[Bc,K4,bg,Nat.zero_add]
 clear hwf
 have hcl:I.bV caps=true:=kh caps hcaps
 have hfc:∀ aD A,bY aD A caps=some caps:=fun aD A=>kl aD A caps hcaps
 have hon:∀ q,I.bU q caps=true:=fun q=>jX q caps hcl
 refine .ar (by decide +kernel) fun K hK =>?_
 simp only[Ho,ab,simprocAttr]
 refine .done (hK _ ?_);clear hK K
 refine .ar (by decide +kernel) fun K hK =>?_
 simp only[Hp,ab,simprocAttr]
 refine .done (hK _ ?_);clear hK K
 refine U.seq (U.seq ?_)
 refine .bP (by decide +kernel) fun K hK =>?_
 simp only[Hq,ab,simprocAttr]
 try simp only[gu,eK,ew,aP,ab,simprocAttr]
 refine .done (hK _ ?_);clear hK K;try simp only[ay]
 refine U.block (U.loop (yW bs p f caps) (fun s=>(s.1++s.2.1).Perm (List.range bs.length)) (fun s=>s.2.1.length) ([],List.range bs.length,none) (by simp) ?_ ?_)
 ·refine aI.y6 5 905 3 1 rfl rfl ?_
  refine aI.c7 ?_ (fun n =>?_)
  ·simp[bd,bh,iP]
  ·simp only[iP,List.map_nil,List.filter_nil,cI,qm,dh,List.length_map]
   (repeat' split) <;>simp_all
 rintro ⟨aF,left,cur⟩ hC
 simp only at hC
 have hlen:aF.length+left.length=bs.length:=by simpa using hC.length_eq
 have hpl:=Jh bs p aF
 simp only[yW]
 by_cases hl:left=[]
 ·subst hl
  refine .ar (by decide +kernel) fun K hK =>?_
  simp only[vW,ab,simprocAttr]
  try simp only[ew,ag1,ab,simprocAttr]
  refine .done (hK _ ?_);clear hK K
  refine U.seq ?_
  refine U.bM ?_
  simp only[ao,ab,simprocAttr]
  refine ⟨fun h =>?_,fun h =>?_⟩
  case refine_1=>cases h
  refine U.exit ?_;try simp only[ay,cg,simprocAttr]
  have hdn:(iP bs p aF).Perm ((bs.filter p).map (·.no)):=aio (by simpa using hC)
  rw[←ajm hdn]
  generalize iP bs p aF=xs at hpl
  refine U.L0 (a:=25) (b:=26) (d:=5) (n:=905) (xs:=xs) rfl rfl (by decide) (by omega) (sX (by simp[mX,I.only,I.bU,hon])) (by simp only[c4,dh,List.filter_cons,List.filter_nil,List.contains_cons];simp[bD,ai.only,ev,ah4,-List.map_map]) [] (by simp) (by decide) (by decide) ?_
  have R:=And.intro @aP @ab
  repeat' ((first
   |(with_reducible refine .guard (fun hb =>?_) (fun hb =>?_) <;>try simp only[hb])
   |refine U.aL (by decide +kernel) rfl fun K hK =>?_
   |(refine .aF [0,1,4,5,6,7,12,14,20] hK ?_;clear hK K)
   |(with_reducible refine .done (hK _ ?_);clear hK K)
   |refine U.of rfl ?_
   |(with_reducible refine ao.aK (fun h =>?_) (fun h =>?_) <;>try simp only[h])) <;>try simp only[aM,R,simprocAttr])
  all_goals clear R
 ·refine .ar (by decide +kernel) fun K hK =>?_
  simp only[vW,ab,simprocAttr]
  try simp only[ew,ab,simprocAttr]
  refine a6.jl hl fun i hi =>?_
  have hib:i<bs.length:=List.mem_range.1 (hC.mem_iff.1 (by simp[hi]))
  refine ⟨enc (bs[i]).no,.ref (enc (⟨bs[i]⟩:ez)),by simp[dh,hib],by simp[hib],?_⟩
  have hx:bs.getD i default=bs[i]:=by simp[List.getD_eq_getElem?_getD,hib]
  try simp only[ab,simprocAttr]
  refine .done (hK _ ?_);clear hK K
  refine U.seq ?_
  refine U.bM ?_
  simp only[ao,ab,simprocAttr]
  refine ⟨fun h =>?_,fun h =>?_⟩
  case refine_2=>cases h
  refine U.skip ?_;try simp only[ay,simprocAttr]
  refine U.block ?_
  have hent:oL (dh bs) (bs.map fun b=>.ref (enc (⟨b⟩:ez))) (some i)=some (.tuple [.int .i64 (bs[i]).no,.ref (enc (⟨bs[i]⟩:ez))]):=by
   simp[oL,dh,hib,jN]
  have hsn:=aip bs p aF i
  have hps:=Jh bs p (aF++[i])
  have hpl2:(left.filter (· != i)).length<left.length:=by
   rcases Nat.lt_or_ge (left.filter (· != i)).length left.length with h | h
   ·exact h
   ·have:=List.filter_eq_self.1 (List.Sublist.eq_of_length_le List.filter_sublist h) i hi
    simp at this
  have hnd:left.Nodup:=(List.nodup_append.1 (hC.nodup_iff.2 List.nodup_range)).2.1
  have hC2:((aF++[i])++left.filter (· != i)).Perm (List.range bs.length):=by
   have h1:left.Perm (i::left.filter (· != i)):=by
    have h2:(left.filter (· == i)).length=1:=by
     have:=List.nodup_iff_count.1 hnd i
     have h3:=List.count_pos_iff.2 hi
     have h4:left.count i=(left.filter (· == i)).length:=by rw[List.count,List.countP_eq_length_filter]
     omega
    have h5:left.filter (· == i)=[i]:=by
     obtain ⟨a,ha⟩:=List.length_eq_one_iff.1 h2
     have:a∈left.filter (· == i):=by rw[ha];simp
     have:=(List.mem_filter.1 this).2
     simp at this
     rw[ha,this]
    have h6:=(List.filter_append_perm (· == i) left).symm
    rw[h5] at h6
    exact h6
   refine List.Perm.trans ?_ hC
   rw[List.append_assoc]
   exact (h1.symm).append_left aF
  refine .ar (by decide +kernel) fun K hK =>?_
  simp only[Hr,ab,simprocAttr]
  try simp only[hent,ew,aP,ab,simprocAttr]
  refine .done (hK _ ?_);clear hK K
  refine .ar (by decide +kernel) fun K hK =>?_
  simp only[Hs,ab,simprocAttr]
  try simp only[List.cons_append,List.nil_append,hfc,hZ,ab,simprocAttr]
  refine .flat _ (hf _ (List.getElem_mem hib)) rfl ?_
  try simp only[ab,simprocAttr]
  refine .done (hK _ ?_);clear hK K
  have hap:=fun (A:af) d rest=>uh (A:=A) (d:=d) (e:=3) (bytes:=8) (n:=905) (l:=(iP bs p aF).length) (xs:=iP bs p aF) (y:=(bs[i]).no) (rest:=rest) rfl (by simp[maxLen];omega) (by omega)
  rw[hx] at hsn
  rcases hpb:p bs[i]
  ·rw[hpb,if_neg (by decide),List.append_nil] at hsn
   have R:=And.intro @hpb (And.intro @aP @ab)
   repeat' ((first
    |(with_reducible refine .guard (fun hb =>?_) (fun hb =>?_) <;>try simp only[hb])
    |refine U.aL (by decide +kernel) rfl fun K hK =>?_
    |(refine .aF [0,1,4,5,6,7,12,14,20] hK ?_;clear hK K)
    |(with_reducible refine .done (hK _ ?_);clear hK K)
    |refine U.of rfl ?_
    |(with_reducible refine ao.aK (fun h =>?_) (fun h =>?_) <;>try simp only[h])) <;>try simp only[aM,R,simprocAttr])
   all_goals clear R
   refine ⟨(aF++[i],left.filter (· != i),some i),hC2,hpl2,?_⟩
   simp only[hsn]
   refine aI.c7 ?_ (fun n =>?_)
   ·simp[bd,bh]
   ·simp only[cI,qm];(repeat' split) <;>simp_all
  ·rw[hpb,if_pos rfl] at hsn
   have R:=And.intro @hpb (And.intro @hap (And.intro @aP @ab))
   repeat' ((first
    |(with_reducible refine .guard (fun hb =>?_) (fun hb =>?_) <;>try simp only[hb])
    |refine U.aL (by decide +kernel) rfl fun K hK =>?_
    |(refine .aF [0,1,4,5,6,7,12,14,20] hK ?_;clear hK K)
    |(with_reducible refine .done (hK _ ?_);clear hK K)
    |refine U.of rfl ?_
    |(with_reducible refine ao.aK (fun h =>?_) (fun h =>?_) <;>try simp only[h])) <;>try simp only[aM,R,simprocAttr])
   all_goals clear R
   refine ⟨(aF++[i],left.filter (· != i),some i),hC2,hpl2,?_⟩
   simp only[hsn]
   refine aI.c7 ?_ (fun n =>?_)
   ·simp[bd,bh]
   ·simp only[cI,qm];(repeat' split) <;>simp_all
theorem ze{aD:Bool}{A0:af}{os:List (Nat×ai)} : ∀ xs:List I,(∀ x∈xs,x.only (au os)=true∧x.cq=true)→iZ aD A0 [] os xs xs
 | [],_=>trivial
 |x::xs,h=>⟨.inl ⟨(lx (ρ:=bF []) (fun _=>rfl) x).symm,(h x (by simp)).1,(h x (by simp)).2⟩,ze xs fun y hy=>h y (by simp[hy])⟩
theorem ai5(ts:List (Nat×I))(k:Nat)(a b:List Int):av ts (cu k a++cu k b)=av ts (cu k a):=by
 simp only[av];congr 1;funext n
 simp only[cu,List.cons_append,List.nil_append,al]
 split <;>rfl
theorem a6.kA{K:af→Prop}{f:FuncId}{avs:List I}{a1 a2:Option (List I)}{dst:Option Nat}{rest:List aB}{ts:List (Nat×I)}{ws:List Int}{post:cR}(hc:cA Tryz.prog f avs (cu 1000000 ws) post)(hav:∀ x∈avs,x.only (au (cu 1000000 ws))=true∧x.cq=true)
  (h:∀ r os',post r os'→∃ ws',os'=cu 1000000 ws'∧r=.tuple []∧a6 Tryz.prog il false K (aC rest ((av ts (cu 1000000 ws')).aO dst (.tuple [])))):a6 Tryz.prog il false K (.call f avs a1 a2 dst rest (av ts (cu 1000000 ws))):=by
 refine .bQ false [] (cu 1000000 ws) avs post rfl hc ⟨fun m y hy =>?_,fun m m' _ _ h=>h⟩ (ze avs hav) ?_ ?_
 ·rw[ai.lx (ρ:=bF []) (fun n=>rfl)]
  refine ⟨hy,?_⟩
  simp only[cu,al] at hy
  split at hy
  ·cases hy;exact ⟨nF _ _,rfl⟩
  ·cases hy
 ·intro r os' hp
  obtain ⟨ws',rfl,rfl,_⟩:=h r os' hp
  refine ⟨fun m y hy =>?_,fun m m' _ _ h=>h,fun m hm=>by rw[cV.1 hm];exact cV.2 rfl,fun m a b=>by rw[cV.1 a] at b;simp[cu,au,al] at b,rfl,fun h=>by cases h⟩
  simp only[cu,al] at hy
  split at hy
  ·cases hy;exact ⟨nF _ _,rfl,fun h=>by cases h⟩
  ·cases hy
 ·intro r os' hp
  obtain ⟨ws',rfl,rfl,hw⟩:=h r os' hp
  rw[tm,ai5]
  exact hw
theorem kb(ws:List Int)(n:Nat)(f:FuncId)(caps:List I)(hcl:I.bV caps=true)(aA:List Int):∀ x∈.view 1000000 [] 1 0 n::(aA.map enc++[.func f caps]),x.only (au (cu 1000000 ws))=true∧x.cq=true:=by
 intro x hx
 simp only[List.mem_cons,List.mem_append,List.mem_map,List.not_mem_nil,or_false] at hx
 rcases hx with rfl | ⟨y,_,rfl⟩ | rfl
 ·exact ⟨cV.2 rfl,rfl⟩
 ·exact ⟨bG _ _,dz _⟩
 ·exact ⟨l5 _ _ (by simpa[I.bu] using hcl),rfl⟩
structure N0 where
 p:List Int
 aq:List Int
 v:List Int
 q:List Int
theorem Ny(p aq v q:List Int)(a m b n:Nat)(f:FuncId)(caps:List I)(hcl:I.bV caps=true)(ha:p.length=a)(hm:a+aq.length=m)(hb:m+v.length=b)(hu:0<aq.length)(hv:0<v.length)(hn:b≤n)(hN:n≤1000) :
  cA Tryz.prog 213 [.view 1000000 [] 1 0 n,enc (a:Int),enc (m:Int),enc (b:Int),.func f caps] (cu 1000000 (p++aq++v++q)) (x1 (p++v++aq++q)):=by
 refine cA.bn Tryz.func213 Qt St UD (Nat.le_of_ble_eq_true rfl) (Nat.le_of_ble_eq_true rfl) m4 (fun hwf W0 D0 E1 =>?_)
 simp only[AL,KF,bg,Nat.zero_add,Nat.reduceAdd]
 clear hwf
 have w1:=iy (x:=m) (y:=a) (by omega) (by omega)
 have w2:=iy (x:=b) (y:=m) (by omega) (by omega)
 refine .ar (by decide +kernel) fun K hK =>?_
 simp only[GH,ab,simprocAttr]
 try simp only[w1,simprocAttr]
 refine .done (hK _ ?_);clear hK K
 refine .ar (by decide +kernel) fun K hK =>?_
 simp only[GI,ab,simprocAttr]
 try simp only[w2,simprocAttr]
 refine .done (hK _ ?_);clear hK K
 refine U.seq (U.block (U.loop (fun s:N0=>av [(0,.view 1000000 [] 1 0 n),(2,.int .i64 m),(4,.func f caps),(10,.int .i64 s.aq.length),(11,.int .i64 s.v.length)] (cu 1000000 (s.p++s.aq++s.v++s.q))) (fun s=>0<s.aq.length∧0<s.v.length∧s.p.length+s.aq.length=m∧m+s.v.length≤b∧s.p++s.v++s.aq++s.q=p++v++aq++q) (fun s=>s.aq.length+s.v.length) ⟨p,aq,v,q⟩ ⟨hu,hv,by simp only;omega,by simp only;omega,rfl⟩ ?_ ?_))
 ·have e1:m-a=aq.length:=by omega
  have e2:b-m=v.length:=by omega
  simp only[e1,e2]
  refine aI.c7 ?_ (fun n=>rfl)
  simp[bd,bh]
 rintro ⟨p1,u1,v1,q1⟩ ⟨g1,g2,g3,g4,g5⟩
 simp only at g1 g2 g3 g4 g5 ⊢
 refine U.seq (U.seq ?_)
 refine .bP (by decide +kernel) fun K hK =>?_
 simp only[GJ,ab,simprocAttr]
 refine .done (hK _ ?_);clear hK K;try simp only[ay]
 refine U.bM ?_
 simp only[ao,ab,simprocAttr]
 refine ⟨fun h =>?_,fun h =>?_⟩
 ·have hne:u1.length≠v1.length:=fun e=>by rw[e] at h;simp at h
  refine U.skip ?_;try simp only[ay,simprocAttr]
  refine U.block (U.seq ?_)
  refine .bP (by decide +kernel) fun K hK =>?_
  simp only[GK,ab,simprocAttr]
  refine .done (hK _ ?_);clear hK K;try simp only[ay]
  refine U.bM ?_
  simp only[ao,ab,simprocAttr]
  refine ⟨fun h =>?_,fun h =>?_⟩
  ·have hgt:v1.length<u1.length:=by simp at h;omega
   have w3:=iy (x:=m) (y:=u1.length) (by omega) (by omega)
   have w4:=iy (x:=u1.length) (y:=v1.length) (by omega) (by omega)
   have hs:u1=u1.take v1.length++u1.drop v1.length:=(List.take_append_drop _ _).symm
   have ht:(u1.take v1.length).length=v1.length:=by rw[List.length_take];omega
   have hd:(u1.drop v1.length).length=u1.length-v1.length:=by rw[List.length_drop]
   have hc:=tZ p1 (u1.take v1.length) (u1.drop v1.length) v1 q1 (m-u1.length) m n v1.length (.func f caps) (by omega) (by omega) (by omega) (by omega) (by omega) hN
   rw[List.append_assoc p1,←hs] at hc
   refine .ar (by decide +kernel) fun K hK =>?_
   simp only[GL,ab,simprocAttr]
   try simp only[w3,simprocAttr]
   refine a6.kA hc (kb _ n f caps hcl [_,_,_]) ?_
   rintro r os' ⟨rfl,rfl⟩
   refine ⟨_,rfl,rfl,?_⟩
   try simp only[ab,simprocAttr]
   refine .done (hK _ ?_);clear hK K
   refine .bP (by decide +kernel) fun K hK =>?_
   simp only[GM,ab,simprocAttr]
   try simp only[w4,simprocAttr]
   refine .done (hK _ ?_);clear hK K;try simp only[ay,cg]
   refine ⟨⟨p1++v1,u1.drop v1.length,u1.take v1.length,q1⟩,⟨by simp only;omega,by simp only;omega,by simp only[List.length_append];omega,by simp only;omega,?_⟩,by simp only;omega,?_⟩
   ·simp only
    rw[←g5]
    conv=>rhs;rw[hs]
    simp only[List.append_assoc]
   ·simp only[hd,ht]
    refine aI.c7 ?_ (fun n=>rfl)
    simp[bd,bh]
  ·have hlt:u1.length<v1.length:=by simp at h;omega
   have w3:=iy (x:=m) (y:=u1.length) (by omega) (by omega)
   have w4:=iy (x:=v1.length) (y:=u1.length) (by omega) (by omega)
   have w5:=j7 m v1.length (by omega)
   have w6:=iy (x:=m+v1.length) (y:=u1.length) (by omega) (by omega)
   have hs:v1=v1.take (v1.length-u1.length)++v1.drop (v1.length-u1.length):=(List.take_append_drop _ _).symm
   have ht:(v1.take (v1.length-u1.length)).length=v1.length-u1.length:=by rw[List.length_take];omega
   have hd:(v1.drop (v1.length-u1.length)).length=u1.length:=by rw[List.length_drop];omega
   have hc:=tZ p1 u1 (v1.take (v1.length-u1.length)) (v1.drop (v1.length-u1.length)) q1 (m-u1.length) (m+v1.length-u1.length) n u1.length (.func f caps) (by omega) (by omega) (by omega) (by omega) (by omega) hN
   rw[List.append_assoc (p1++u1),←hs] at hc
   refine .ar (by decide +kernel) fun K hK =>?_
   simp only[GN,ab,simprocAttr]
   try simp only[w3,w5,w6,simprocAttr]
   refine a6.kA hc (kb _ n f caps hcl [_,_,_]) ?_
   rintro r os' ⟨rfl,rfl⟩
   refine ⟨_,rfl,rfl,?_⟩
   try simp only[ab,simprocAttr]
   refine .done (hK _ ?_);clear hK K
   refine .bP (by decide +kernel) fun K hK =>?_
   simp only[GO,ab,simprocAttr]
   try simp only[w4,simprocAttr]
   refine .done (hK _ ?_);clear hK K;try simp only[ay,cg]
   refine ⟨⟨p1,v1.drop (v1.length-u1.length),v1.take (v1.length-u1.length),u1++q1⟩,⟨by simp only;omega,by simp only;omega,by simp only;omega,by simp only;omega,?_⟩,by simp only;omega,?_⟩
   ·simp only
    rw[←g5]
    conv=>rhs;rw[hs]
    simp only[List.append_assoc]
   ·simp only[hd,ht]
    rw[←List.append_assoc _ u1 q1]
    refine aI.c7 ?_ (fun n=>rfl)
    simp[bd,bh]
 ·have he:u1.length=v1.length:=by simp at h;omega
  refine U.exit ?_;try simp only[ay,cg,simprocAttr]
  have w3:=iy (x:=m) (y:=u1.length) (by omega) (by omega)
  have hc:=tZ p1 u1 [] v1 q1 (m-u1.length) m n u1.length (.func f caps) (by omega) (by omega) (by simp;omega) rfl (by omega) hN
  simp only[List.append_nil] at hc
  refine .bP (by decide +kernel) fun K hK =>?_
  simp only[GP,ab,simprocAttr]
  try simp only[w3,simprocAttr]
  refine a6.kA hc (kb _ n f caps hcl [_,_,_]) ?_
  rintro r os' ⟨rfl,rfl⟩
  refine ⟨_,rfl,rfl,?_⟩
  try simp only[ab,simprocAttr]
  refine .done (hK _ ?_)
  clear hK K
  rw[ly]
  exact mZ rfl g5 ⟨rfl,rfl⟩
theorem tx{el:List ak}{s:List Int}(h:df el s){i j:Nat}(hij:i<j)(hj:j<s.length):dI el (s.getD i 0) (s.getD j 0):=by
 rw[List.getD_eq_getElem?_getD,List.getD_eq_getElem?_getD,List.getElem?_eq_getElem (by omega),List.getElem?_eq_getElem hj]
 exact List.pairwise_iff_getElem.1 h i j (by omega) hj hij
theorem pB{el:List ak}{s:List Int}(h:df el s){i j:Nat}(hij:i≤j)(hj:j<s.length){x:Int}(hx:dI el (s.getD j 0) x):dI el (s.getD i 0) x:=by
 rcases Nat.lt_or_ge i j with h1 | h1
 ·exact xa (tx h h1 hj) hx
 ·have:i=j:=by omega
  rw[this];exact hx
theorem pA{el:List ak}{s:List Int}(h:df el s){i j:Nat}(hij:i≤j)(hj:j<s.length){x:Int}(hx:dI el x (s.getD i 0)):dI el x (s.getD j 0):=by
 rcases Nat.lt_or_ge i j with h1 | h1
 ·exact xa hx (tx h h1 hj)
 ·have:i=j:=by omega
  rw[←this];exact hx
theorem sH{s:List Int}{k:Nat}{x:Int}(h:x∈s.take k):∃ i,i<k∧i<s.length∧s.getD i 0=x:=by
 obtain ⟨i,hi,rfl⟩:=List.getElem_of_mem h
 rw[List.length_take] at hi
 exact ⟨i,by omega,by omega,by rw[List.getD_eq_getElem?_getD,List.getElem?_eq_getElem (by omega),List.getElem_take];rfl⟩
theorem oY{s:List Int}{k:Nat}{x:Int}(h:x∈s.drop k):∃ i,k≤i∧i<s.length∧s.getD i 0=x:=by
 obtain ⟨i,hi,rfl⟩:=List.getElem_of_mem h
 rw[List.length_drop] at hi
 exact ⟨k+i,by omega,by omega,by rw[List.getD_eq_getElem?_getD,List.getElem?_eq_getElem (by omega),List.getElem_drop];rfl⟩
def qU(el:List ak)(l r:List Int)(k i:Nat):Prop:=∀ x∈l.take i++r.take (k-i),∀ y∈l.drop i++r.drop (k-i),dI el x y
theorem Vj{el:List ak}{l r:List Int}{k i lo hi:Nat}(hl:df el l)(hr:df el r)(h1:lo≤i)(h2:i≤hi)(hlo:lo=0∨lo+r.length=k)(hhi:hi=l.length∨hi=k)(hil:hi≤l.length)(hik:hi≤k)(hlr:k≤lo+r.length)
  (g1:∀ j,lo≤j→j<i→dI el (l.getD j 0) (r.getD (k-1-j) 0)) (g2:∀ j,i≤j→j<hi→dI el (r.getD (k-1-j) 0) (l.getD j 0)):qU el l r k i:=by
 intro x hx y hy
 rcases List.mem_append.1 hx with hx | hx
 ·obtain ⟨a,ha1,ha2,rfl⟩:=sH hx
  rcases List.mem_append.1 hy with hy | hy
  ·obtain ⟨b,hb1,hb2,rfl⟩:=oY hy
   exact tx hl (by omega) hb2
  ·obtain ⟨b,hb1,hb2,rfl⟩:=oY hy
   by_cases hli:lo<i
   ·have:=g1 (i-1) (by omega) (by omega)
    have e:k-1-(i-1)=k-i:=by omega
    rw[e] at this
    refine pB hl (j:=i-1) (by omega) (by omega) ?_
    exact pA hr (i:=k-i) (by omega) hb2 this
   ·omega
 ·obtain ⟨a,ha1,ha2,rfl⟩:=sH hx
  rcases List.mem_append.1 hy with hy | hy
  ·obtain ⟨b,hb1,hb2,rfl⟩:=oY hy
   by_cases hih:i<hi
   ·have:=g2 i (Nat.le_refl _) hih
    refine pB hr (j:=k-1-i) (by omega) (by omega) ?_
    exact pA hl (i:=i) (by omega) hb2 this
   ·omega
  ·obtain ⟨b,hb1,hb2,rfl⟩:=oY hy
   exact tx hr (by omega) hb2
theorem ajo{el:List ak}{l r s1 s2:List Int}{k i:Nat}(hc:qU el l r k i)(h1:s1.Perm (l.take i++r.take (k-i)))(h2:s2.Perm (l.drop i++r.drop (k-i)))(k1:df el s1)(k2:df el s2):(s1++s2).Perm (l++r)∧df el (s1++s2):=by
 refine ⟨(h1.append h2).trans ?_,List.pairwise_append.2 ⟨k1,k2,fun x hx y hy=>hc x (h1.mem_iff.1 hx) y (h2.mem_iff.1 hy)⟩⟩
 have e:l.take i++r.take (k-i)++(l.drop i++r.drop (k-i))=l.take i++(r.take (k-i)++l.drop i)++r.drop (k-i):=by simp only[List.append_assoc]
 rw[e]
 refine (((List.perm_append_comm (l₁:=r.take (k-i)) (l₂:=l.drop i)).append_left _).append_right _).trans ?_
 have e2:l.take i++(l.drop i++r.take (k-i))++r.drop (k-i)=(l.take i++l.drop i)++(r.take (k-i)++r.drop (k-i)):=by simp only[List.append_assoc]
 rw[e2,List.take_append_drop,List.take_append_drop]
theorem L2{el:List ak}{s:List Int}(h:df el s)(k:Nat):df el (s.take k):=h.sublist (List.take_sublist _ _)
theorem L1{el:List ak}{s:List Int}(h:df el s)(k:Nat):df el (s.drop k):=h.sublist (List.drop_sublist _ _)
theorem wi{p l r q:List Int}{a i:Nat}(ha:p.length=a)(hi:i<l.length):(p++l++r++q).getD (a+i) 0=l.getD i 0:=by
 subst ha
 rw[List.getD_eq_getElem?_getD,List.getD_eq_getElem?_getD,List.append_assoc,List.append_assoc,List.getElem?_append_right (by omega),Nat.add_sub_cancel_left,List.getElem?_append_left hi]
theorem wj{p l r q:List Int}{m i:Nat}(hm:p.length+l.length=m)(hi:i<r.length):(p++l++r++q).getD (m+i) 0=r.getD i 0:=by
 subst hm
 rw[List.getD_eq_getElem?_getD,List.getD_eq_getElem?_getD,List.append_assoc (p++l),List.getElem?_append_right (by rw[List.length_append];omega),List.length_append,Nat.add_sub_cancel_left,List.getElem?_append_left hi]
theorem mU(x:Nat):Int.fdiv (x:Int) (2^min (Int.toNat 1) IntKind.u64.bits)=((x / 2:Nat):Int):=by
 have:min (Int.toNat 1) IntKind.u64.bits=1:=rfl
 rw[this]
 show Int.fdiv (x:Int) 2=_
 rw[Int.fdiv_eq_ediv_of_nonneg _ (by decide)];rfl
theorem lV{x:Nat}(h:x<9223372036854775807):IntKind.u64.wrap (x:Int)=(x:Int):=by
 simp only[IntKind.wrap,IntKind.bits,IntKind.signed]
 simp
 omega
theorem mT:((0:Int)≤1)=True:=by simp
theorem U.ajV{c:cQ}{Q:Exit→af→Prop}{A:af}{x:aN}{σ:Type}(T:σ→af)(C:σ→Prop)(h1:U c x (ay (fun B=>∃ s,C s∧Abs.aI B (T s)) fun _ _=>False) A)(h2:∀ s B,C s→Abs.aI B (T s)→Q .normal B):U c x Q A :=
 h1.mono fun e B hq=>by
  cases e <;>simp only[ay] at hq <;>first
   |(obtain ⟨s,k1,k2⟩:=hq;exact h2 s B k1 k2)
   |exact hq.elim
theorem ajK{p r q:List Int}{x:Int}{a j:Nat}(ha:p.length=a)(hj:j<r.length):j5 (dV p r q x j) (a+j) (a+j+1)=dV p r q x (j+1):=by
 have e1:dV p r q x (j+1)=(p++r.take j)++r[j]::x::(r.drop (j+1)++q):=by
  simp only[dV]
  rw[List.take_succ_eq_append_getElem hj]
  simp only[List.append_assoc,List.cons_append,List.nil_append]
 have e2:dV p r q x j=(p++r.take j)++x::r[j]::(r.drop (j+1)++q):=by
  simp only[dV]
  rw[List.drop_eq_getElem_cons hj]
  simp only[List.append_assoc,List.cons_append]
 rw[e1,e2]
 exact ajL (by rw[List.length_append,List.length_take];omega) rfl
theorem afL(p r q:List Int)(x:Int):dV p r q x 0=p++[x]++r++q:=by simp[dV]
theorem afO(p r q:List Int)(x:Int):dV p r q x r.length=p++r++[x]++q:=by simp[dV]
theorem Ns(el:List ak)(hd:lK el)(hel:el.length≤60)(p l r q:List Int)(a m b n:Nat)(hl0:0<l.length)(hr0:0<r.length)(ha:p.length=a)(hm:a+l.length=m)(hb:m+r.length=b)(hn:b≤n)(hnl:n≤(p++l++r++q).length)(hn1:n≤1000)(hsl:df el l)(hsr:df el r)(hlr:∀ x∈l,∀ y∈r,x<y)(hin:∀ x∈l++r,je el x)(hl1:l.length=1) :
  cA Tryz.prog 204 [.view 1000000 [] 1 0 n,enc (a:Int),enc (m:Int),enc (b:Int),.func 138 [.ref (enc el)]] (cu 1000000 (p++l++r++q)) (mu el p (l++r) q):=by
 have hlen:(p++l++r++q).length=p.length+l.length+r.length+q.length:=by simp only[List.length_append]
 have mJ:=fun i (hi:i<l.length)=>wi (p:=p) (l:=l) (r:=r) (q:=q) (i:=i) ha hi
 have gr:=fun i (hi:i<r.length)=>wj (p:=p) (l:=l) (r:=r) (q:=q) (m:=m) (i:=i) (by omega) hi
 have ml:=fun i (hi:i<l.length)=>(show l.getD i 0∈l by rw[List.getD_eq_getElem?_getD,List.getElem?_eq_getElem hi];exact List.getElem_mem _)
 have mr:=fun i (hi:i<r.length)=>(show r.getD i 0∈r by rw[List.getD_eq_getElem?_getD,List.getElem?_eq_getElem hi];exact List.getElem_mem _)
 refine cA.bn Tryz.func204 uB uE uP (Nat.le_of_ble_eq_true rfl) (Nat.le_of_ble_eq_true rfl) m4 (fun hwf W0 D0 E1 =>?_)
 simp only[rD,ta,bg,Nat.zero_add,Nat.reduceAdd]
 clear hwf
 have eT:=iy (x:=m) (y:=a) (by omega) (by omega)
 refine U.seq (U.seq ?_)
 obtain ⟨x,rfl⟩:=List.length_eq_one_iff.1 hl1
 obtain ⟨ws,hws⟩:∃ ws,ws=p++[x]++r++q:=⟨_,rfl⟩
 rw[←hws] at hnl hlen gr mJ ⊢
 have gx:ws.getD a 0=x:=by have:=mJ 0 hl0;simpa using this
 have hxr:=hlr x (by simp)
 have hxS:=hin x (by simp)
 have hrS:=fun y (hy:y∈r)=>hin y (by simp[hy])
 have h1:((m-a:Nat):Int)=1:=by omega
 refine .bP (by decide +kernel) fun K hK =>?_
 simp only[r8,ab,Nat.reduceEqDiff,reduceIte]
 try simp only[eT,h1,Int.reduceBEq]
 refine .done (hK _ ?_);clear hK K;try simp only[ay]
 refine U.bM ?_
 try simp only[ao,ab,Nat.reduceEqDiff,reduceIte]
 refine ⟨fun _ =>?_,fun h =>?_⟩
 rotate_left
 ·simp at h
 refine .ar (by decide +kernel) fun K hK =>?_
 simp only[Ge,ab,Nat.reduceEqDiff,reduceIte]
 refine .done (hK _ ?_);clear hK K
 refine .ar (by decide +kernel) fun K hK =>?_
 simp only[Gi,ab,Nat.reduceEqDiff,reduceIte]
 refine .done (hK _ ?_);clear hK K
 refine U.seq (U.block (U.loop (fun s:Nat×Nat=>av [(0,.view 1000000 [] 1 0 n),(1,.int .i64 a),(2,.int .i64 m),(3,.int .i64 b),(4,.func 138 [.ref (enc el)]),(10,.int .i64 ((m+s.1:Nat):Int)),(11,.int .i64 ((m+s.2:Nat):Int))] (cu 1000000 ws))
  (fun s=>s.1≤s.2∧s.2≤r.length∧(∀ j,j<s.1→dI el (r.getD j 0) x)∧∀ j,s.2≤j→j<r.length→dI el x (r.getD j 0)) (fun s=>s.2-s.1) (0,r.length) ⟨Nat.zero_le _,Nat.le_refl _,fun j hj=>by omega,fun j h1 h2=>by simp only at h1;omega⟩ ?_ ?_))
 ·have e1:m+0=m:=rfl
  simp only[e1,hb]
  refine aI.c7 ?_ (fun n=>rfl)
  simp[bd,bh]
 rintro ⟨i,j⟩ ⟨g1,g2,g3,g4⟩
 simp only at g1 g2 g3 g4 ⊢
 by_cases hij:i<j
 ·have hc:decide (((m+i:Nat):Int)<((m+j:Nat):Int))=true:=by simp;omega
  have w1:=j7 (m+i) (m+j) (by omega)
  have w2:=lV (x:=m+i+(m+j)) (by omega)
  obtain ⟨c,hcd⟩:∃ c,c=(i+j) / 2:=⟨_,rfl⟩
  have hci:i≤c∧c<j:=by omega
  have w3:(m+i+(m+j)) / 2=m+c:=by omega
  have w4:=lV (x:=m+c) (by omega)
  have w5:=qR (n:=m+c) (by omega)
  have w6:=fF (i:=m+c) (by omega)
  have v1:=jh (n:=n) (i:=m+c) (by omega)
  have v2:=jh (n:=n) (i:=a) (by omega)
  have l1:=gH (xs:=ws) (i:=m+c) (by omega)
  have l2:=gH (xs:=ws) (i:=a) (by omega)
  rw[gr c (by omega)] at l1
  rw[gx] at l2
  have hrc:=mr c (by omega)
  have hcmp:=qW el hd hel (r.getD c 0) x (hrS _ hrc) hxS
  have hlt:=sE (l:=el) (hxr _ hrc)
  simp only[cu]
  cases hdc:decide (fV el (r.getD c 0)-fV el x<0) with
  |true =>
   have hd1:dI el (r.getD c 0) x:=hlt.2 (by have:=of_decide_eq_true hdc;omega)
   have R:=And.intro @hc (And.intro @w1 (And.intro @w2 (And.intro @w3 (And.intro @w4 (And.intro @w5 (And.intro @w6 (And.intro @mU (And.intro @mT (And.intro @v1 (And.intro @v2 (And.intro @l1 (And.intro @l2 (And.intro @hdc (And.intro @c9 (And.intro @dO (And.intro @aP @ab))))))))))))))))
   repeat' ((first
    |(with_reducible refine .guard (fun hb =>?_) (fun hb =>?_) <;>try simp only[hb])
    |refine U.aL (by decide +kernel) rfl fun K hK =>?_
    |refine .flat _ (hcmp) rfl ?_
    |(refine .aF [0,1,2,3,4,10,11,12,13,14,15,16,17,18,19,20,21,22,23,24,28,33,50,58,80,85,103,110,140,151,171,185,199,213] hK ?_;clear hK K)
    |(with_reducible refine .done (hK _ ?_);clear hK K)
    |refine U.of rfl ?_
    |(with_reducible refine ao.aK (fun h =>?_) (fun h =>?_) <;>try simp only[h])) <;>try simp only[aM,R,List.cons_append,Nat.reduceEqDiff,reduceIte,Nat.reduceBEq])
   all_goals clear R
   refine ⟨(c+1,j),⟨by simp only;omega,g2,fun k hk =>?_,g4⟩,by simp only;omega,?_⟩
   ·simp only at hk
    exact pB hsr (j:=c) (by omega) (by omega) hd1
   ·refine aI.c7 ?_ (fun n=>rfl)
    simp[bd,bh];omega
  |false =>
   have hd1:dI el x (r.getD c 0):=sD (hxr _ hrc) (by have:=of_decide_eq_false hdc;omega)
   have R:=And.intro @hc (And.intro @w1 (And.intro @w2 (And.intro @w3 (And.intro @w4 (And.intro @w5 (And.intro @w6 (And.intro @mU (And.intro @mT (And.intro @v1 (And.intro @v2 (And.intro @l1 (And.intro @l2 (And.intro @hdc (And.intro @c9 (And.intro @dO (And.intro @aP @ab))))))))))))))))
   repeat' ((first
    |(with_reducible refine .guard (fun hb =>?_) (fun hb =>?_) <;>try simp only[hb])
    |refine U.aL (by decide +kernel) rfl fun K hK =>?_
    |refine .flat _ (hcmp) rfl ?_
    |(refine .aF [0,1,2,3,4,10,11,12,13,14,15,16,17,18,19,20,21,22,23,24,28,33,50,58,80,85,103,110,140,151,171,185,199,213] hK ?_;clear hK K)
    |(with_reducible refine .done (hK _ ?_);clear hK K)
    |refine U.of rfl ?_
    |(with_reducible refine ao.aK (fun h =>?_) (fun h =>?_) <;>try simp only[h])) <;>try simp only[aM,R,List.cons_append,Nat.reduceEqDiff,reduceIte,Nat.reduceBEq])
   all_goals clear R
   refine ⟨(i,c),⟨by simp only;omega,by simp only;omega,g3,fun k hk hk2 =>?_⟩,by simp only;omega,?_⟩
   ·simp only at hk
    exact pA hsr (i:=c) (by omega) hk2 hd1
   ·refine aI.c7 ?_ (fun n=>rfl)
    simp[bd,bh]
 ·have hc:decide (((m+i:Nat):Int)<((m+j:Nat):Int))=false:=by simp;omega
  have he:j=i:=by omega
  subst he
  refine U.seq (U.seq ?_)
  refine .bP (by decide +kernel) fun K hK =>?_
  simp only[Gn,ab,Nat.reduceEqDiff,reduceIte]
  try simp only[hc]
  refine .done (hK _ ?_);clear hK K;try simp only[ay]
  refine U.bM ?_
  simp only[ao,ab,Nat.reduceEqDiff,reduceIte]
  refine ⟨fun h =>?_,fun h =>?_⟩
  ·cases h
  refine U.exit ?_;try simp only[ay,cg,reduceIte]
  refine U.seq (U.seq ?_)
  refine .bP (by decide +kernel) fun K hK =>?_
  simp only[Gs,ab,Nat.reduceEqDiff,reduceIte]
  refine .done (hK _ ?_);clear hK K;try simp only[ay]
  have hi0:=afL p r q x
  rw[hws,←hi0]
  refine U.block (U.loop (fun k:Nat=>av [(0,.view 1000000 [] 1 0 n),(10,.int .i64 ((m+j:Nat):Int)),(13,.int .i64 ((a+k:Nat):Int))] (cu 1000000 (dV p r q x k))) (fun k=>k≤j) (fun k=>j-k) 0 (Nat.zero_le _) ?_ (fun k hk =>?_))
  ·refine aI.c7 ?_ (fun n=>rfl)
   simp[bd,bh]
  have ww:IntKind.i64.wrap (((m+j:Nat):Int)-1)=((a+j:Nat):Int):=by rw[cN _ (by omega) (by omega)];simp at hm;omega
  have hil:(dV p r q x k).length=p.length+r.length+1+q.length:=wN (by omega)
  by_cases hkj:k<j
  ·have hc2:decide (((a+k:Nat):Int)<((a+j:Nat):Int))=true:=by simp;omega
   have hstep:=ajK (p:=p) (r:=r) (q:=q) (x:=x) (j:=k) ha (by omega)
   generalize dV p r q x k=ws at hil hstep ⊢
   obtain ⟨i1,hi1e⟩:∃ i1,i1=a+k:=⟨_,rfl⟩
   obtain ⟨j1,hj1e⟩:∃ j1,j1=a+k+1:=⟨_,rfl⟩
   rw[←hj1e,←hi1e] at hstep
   have wk:IntKind.i64.wrap ((i1:Int)+1)=(j1:Int):=by rw[cN _ (by omega) (by omega)];omega
   rw[←hi1e] at hc2 ⊢
   have hi1:i1<n:=by simp at hm;omega
   have hj1:j1<n:=by simp at hm;omega
   simp only[cu]
   have v1:=jh (n:=n) (i:=i1) hi1
   have v2:=jh (n:=n) (i:=j1) hj1
   have l1:=gH (xs:=ws) (i:=i1) (by omega)
   have l2:=gH (xs:=ws) (i:=j1) (by omega)
   have s1:=fun (A:af) v aq rest=>m7 (A:=A) (n:=1000000) (xs:=ws) (i:=i1) (by omega) v aq rest
   obtain ⟨ws2,hws2⟩:∃ ws2,ws2=ws.set i1 (ws.getD j1 0):=⟨_,rfl⟩
   have hw2l:ws2.length=ws.length:=by rw[hws2];simp
   have s2:=fun (A:af) v aq rest=>m7 (A:=A) (n:=1000000) (xs:=ws2) (i:=j1) (by omega) v aq rest
   have l3:=gH (xs:=ws2) (i:=j1) (by omega)
   have R:=And.intro @ww (And.intro @hc2 (And.intro @wk (And.intro @v1 (And.intro @v2 (And.intro @l1 (And.intro @l2 (And.intro @l3 (And.intro @s1 (And.intro @s2 (And.intro @c9 (And.intro @aP @ab)))))))))))
   repeat' ((first
    |(with_reducible refine .guard (fun hb =>?_) (fun hb =>?_) <;>try simp only[hb])
    |refine U.aL (by decide +kernel) rfl fun K hK =>?_
    |(refine .aF [0,1,2,3,4,10,11,12,13,14,15,16,17,18,19,20,21,22,23,24,28,33,50,58,80,85,103,110,140,151,171,185,199,213] hK ?_;clear hK K)
    |(with_reducible refine .done (hK _ ?_);clear hK K)
    |refine U.of rfl ?_
    |(with_reducible refine ao.aK (fun h =>?_) (fun h =>?_) <;>try simp only[h])) <;>try simp only[aM,R,←hws2,Nat.reduceEqDiff,reduceIte,Nat.reduceBEq])
   all_goals clear R
   refine ⟨k+1,by omega,by omega,?_⟩
   rw[←hstep]
   simp only[j5,←hws2]
   have e:a+(k+1)=j1:=by omega
   rw[e]
   refine aI.c7 ?_ (fun n =>?_)
   ·simp[bd,bh]
   ·simp only[al];split <;>rfl
  ·have hc2:decide (((a+k:Nat):Int)<((a+j:Nat):Int))=false:=by simp;omega
   have hk2:k=j:=by omega
   subst hk2
   have R:=And.intro @ww (And.intro @hc2 (And.intro @aP (And.intro @eL @ab)))
   repeat' ((first
    |(with_reducible refine .guard (fun hb =>?_) (fun hb =>?_) <;>try simp only[hb])
    |refine U.aL (by decide +kernel) rfl fun K hK =>?_
    |(refine .aF [0,1,2,3,4,10,11,12,13,14,15,16,17,18,19,20,21,22,23,24,28,33,50,58,80,85,103,110,140,151,171,185,199,213] hK ?_;clear hK K)
    |(with_reducible refine .done (hK _ ?_);clear hK K)
    |refine U.of rfl ?_
    |(with_reducible refine ao.aK (fun h =>?_) (fun h =>?_) <;>try simp only[h])) <;>try simp only[aM,R,Nat.reduceEqDiff,reduceIte,Nat.reduceBEq])
   all_goals clear R
   refine mZ rfl rfl ⟨rfl,r.take k++x::r.drop k,?_,?_,?_⟩
   ·refine List.perm_middle.trans ?_
    rw[List.take_append_drop];exact .refl _
   ·refine yg hsr (fun y hy =>?_) (fun y hy =>?_)
    ·obtain ⟨i,h1,h2,rfl⟩:=sH hy;exact g3 i h1
    ·obtain ⟨i,h1,h2,rfl⟩:=oY hy;exact g4 i h1 h2
   ·rfl
theorem Nt(el:List ak)(hd:lK el)(hel:el.length≤60)(p l r q:List Int)(a m b n:Nat)(hl0:0<l.length)(hr0:0<r.length)(ha:p.length=a)(hm:a+l.length=m)(hb:m+r.length=b)(hn:b≤n)(hnl:n≤(p++l++r++q).length)(hn1:n≤1000)(hsl:df el l)(hsr:df el r)(hlr:∀ x∈l,∀ y∈r,x<y)(hin:∀ x∈l++r,je el x)(hl1:¬ l.length=1)(hr1:r.length=1) :
  cA Tryz.prog 204 [.view 1000000 [] 1 0 n,enc (a:Int),enc (m:Int),enc (b:Int),.func 138 [.ref (enc el)]] (cu 1000000 (p++l++r++q)) (mu el p (l++r) q):=by
 have hlen:(p++l++r++q).length=p.length+l.length+r.length+q.length:=by simp only[List.length_append]
 have mJ:=fun i (hi:i<l.length)=>wi (p:=p) (l:=l) (r:=r) (q:=q) (i:=i) ha hi
 have gr:=fun i (hi:i<r.length)=>wj (p:=p) (l:=l) (r:=r) (q:=q) (m:=m) (i:=i) (by omega) hi
 have ml:=fun i (hi:i<l.length)=>(show l.getD i 0∈l by rw[List.getD_eq_getElem?_getD,List.getElem?_eq_getElem hi];exact List.getElem_mem _)
 have mr:=fun i (hi:i<r.length)=>(show r.getD i 0∈r by rw[List.getD_eq_getElem?_getD,List.getElem?_eq_getElem hi];exact List.getElem_mem _)
 refine cA.bn Tryz.func204 uB uE uP (Nat.le_of_ble_eq_true rfl) (Nat.le_of_ble_eq_true rfl) m4 (fun hwf W0 D0 E1 =>?_)
 simp only[rD,ta,bg,Nat.zero_add,Nat.reduceAdd]
 clear hwf
 have eT:=iy (x:=m) (y:=a) (by omega) (by omega)
 refine U.seq (U.seq ?_)
 have h1:(((m-a:Nat):Int)==1)=false:=by simp;omega
 obtain ⟨ws,hws⟩:∃ ws,ws=p++l++r++q:=⟨_,rfl⟩
 rw[←hws] at hnl hlen gr mJ ⊢
 have w0b:=iy (x:=b) (y:=m) (by omega) (by omega)
 refine .bP (by decide +kernel) fun K hK =>?_
 simp only[r8,ab,Nat.reduceEqDiff,reduceIte]
 try simp only[eT,h1]
 refine .done (hK _ ?_);clear hK K;try simp only[ay]
 refine U.bM ?_
 try simp only[ao,ab,Nat.reduceEqDiff,reduceIte]
 refine ⟨fun h =>?_,fun _ =>?_⟩
 ·simp at h
 refine U.skip ?_;try simp only[ay]
 refine U.seq (U.seq ?_)
 obtain ⟨x,rfl⟩:=List.length_eq_one_iff.1 hr1
 have gx:ws.getD m 0=x:=by have:=gr 0 hr0;simpa using this
 have hlx:∀ y∈l,y<x:=fun y hy=>hlr y hy x (by simp)
 have hxS:=hin x (by simp)
 have hlS:=fun y (hy:y∈l)=>hin y (by simp[hy])
 have h2:((b-m:Nat):Int)=1:=by omega
 refine .bP (by decide +kernel) fun K hK =>?_
 simp only[vU,ab,Nat.reduceEqDiff,reduceIte]
 try simp only[w0b,h2,Int.reduceBEq]
 refine .done (hK _ ?_);clear hK K;try simp only[ay]
 refine U.bM ?_
 try simp only[ao,ab,Nat.reduceEqDiff,reduceIte]
 refine ⟨fun _ =>?_,fun h =>?_⟩
 rotate_left
 ·simp at h
 refine .ar (by decide +kernel) fun K hK =>?_
 simp only[Gf,ab,Nat.reduceEqDiff,reduceIte]
 refine .done (hK _ ?_);clear hK K
 refine .ar (by decide +kernel) fun K hK =>?_
 simp only[Gg,ab,Nat.reduceEqDiff,reduceIte]
 refine .done (hK _ ?_);clear hK K
 refine U.seq (U.block (U.loop (fun s:Nat×Nat=>av [(0,.view 1000000 [] 1 0 n),(1,.int .i64 a),(2,.int .i64 m),(3,.int .i64 b),(4,.func 138 [.ref (enc el)]),(14,.int .i64 ((a+s.1:Nat):Int)),(15,.int .i64 ((a+s.2:Nat):Int))] (cu 1000000 ws))
  (fun s=>s.1≤s.2∧s.2≤l.length∧(∀ j,j<s.1→dI el (l.getD j 0) x)∧∀ j,s.2≤j→j<l.length→dI el x (l.getD j 0)) (fun s=>s.2-s.1) (0,l.length) ⟨Nat.zero_le _,Nat.le_refl _,fun j hj=>by omega,fun j h1 h2=>by simp only at h1;omega⟩ ?_ ?_))
 ·have e1:a+0=a:=rfl
  simp only[e1,hm]
  refine aI.c7 ?_ (fun n=>rfl)
  simp[bd,bh]
 rintro ⟨i,j⟩ ⟨g1,g2,g3,g4⟩
 simp only at g1 g2 g3 g4 ⊢
 by_cases hij:i<j
 ·have hc:decide (((a+i:Nat):Int)<((a+j:Nat):Int))=true:=by simp;omega
  have w1:=j7 (a+i) (a+j) (by omega)
  have w2:=lV (x:=a+i+(a+j)) (by omega)
  obtain ⟨c,hcd⟩:∃ c,c=(i+j) / 2:=⟨_,rfl⟩
  have hci:i≤c∧c<j:=by omega
  have w3:(a+i+(a+j)) / 2=a+c:=by omega
  have w4:=lV (x:=a+c) (by omega)
  have w5:=qR (n:=a+c) (by omega)
  have w6:=fF (i:=a+c) (by omega)
  have v1:=jh (n:=n) (i:=a+c) (by omega)
  have v2:=jh (n:=n) (i:=m) (by omega)
  have l1:=gH (xs:=ws) (i:=a+c) (by omega)
  have l2:=gH (xs:=ws) (i:=m) (by omega)
  rw[mJ c (by omega)] at l1
  rw[gx] at l2
  have hrc:=ml c (by omega)
  have hcmp:=qW el hd hel x (l.getD c 0) hxS (hlS _ hrc)
  have hlt:=sE (l:=el) (hlx _ hrc)
  simp only[cu]
  cases hdc:decide (fV el x-fV el (l.getD c 0)<0) with
  |true =>
   have hd1:dI el x (l.getD c 0):=hlt.2 (by have:=of_decide_eq_true hdc;omega)
   have R:=And.intro @hc (And.intro @w1 (And.intro @w2 (And.intro @w3 (And.intro @w4 (And.intro @w5 (And.intro @w6 (And.intro @mU (And.intro @mT (And.intro @v1 (And.intro @v2 (And.intro @l1 (And.intro @l2 (And.intro @hdc (And.intro @c9 (And.intro @dO (And.intro @aP @ab))))))))))))))))
   repeat' ((first
    |(with_reducible refine .guard (fun hb =>?_) (fun hb =>?_) <;>try simp only[hb])
    |refine U.aL (by decide +kernel) rfl fun K hK =>?_
    |refine .flat _ (hcmp) rfl ?_
    |(refine .aF [0,1,2,3,4,10,11,12,13,14,15,16,17,18,19,20,21,22,23,24,28,33,50,58,80,85,103,110,140,151,171,185,199,213] hK ?_;clear hK K)
    |(with_reducible refine .done (hK _ ?_);clear hK K)
    |refine U.of rfl ?_
    |(with_reducible refine ao.aK (fun h =>?_) (fun h =>?_) <;>try simp only[h])) <;>try simp only[aM,R,List.cons_append,Nat.reduceEqDiff,reduceIte,Nat.reduceBEq])
   all_goals clear R
   refine ⟨(i,c),⟨by simp only;omega,by simp only;omega,g3,fun k hk hk2 =>?_⟩,by simp only;omega,?_⟩
   ·simp only at hk
    exact pA hsl (i:=c) (by omega) hk2 hd1
   ·refine aI.c7 ?_ (fun n=>rfl)
    simp[bd,bh]
  |false =>
   have hd1:dI el (l.getD c 0) x:=sD (hlx _ hrc) (by have:=of_decide_eq_false hdc;omega)
   have R:=And.intro @hc (And.intro @w1 (And.intro @w2 (And.intro @w3 (And.intro @w4 (And.intro @w5 (And.intro @w6 (And.intro @mU (And.intro @mT (And.intro @v1 (And.intro @v2 (And.intro @l1 (And.intro @l2 (And.intro @hdc (And.intro @c9 (And.intro @dO (And.intro @aP @ab))))))))))))))))
   repeat' ((first
    |(with_reducible refine .guard (fun hb =>?_) (fun hb =>?_) <;>try simp only[hb])
    |refine U.aL (by decide +kernel) rfl fun K hK =>?_
    |refine .flat _ (hcmp) rfl ?_
    |(refine .aF [0,1,2,3,4,10,11,12,13,14,15,16,17,18,19,20,21,22,23,24,28,33,50,58,80,85,103,110,140,151,171,185,199,213] hK ?_;clear hK K)
    |(with_reducible refine .done (hK _ ?_);clear hK K)
    |refine U.of rfl ?_
    |(with_reducible refine ao.aK (fun h =>?_) (fun h =>?_) <;>try simp only[h])) <;>try simp only[aM,R,List.cons_append,Nat.reduceEqDiff,reduceIte,Nat.reduceBEq])
   all_goals clear R
   refine ⟨(c+1,j),⟨by simp only;omega,g2,fun k hk =>?_,g4⟩,by simp only;omega,?_⟩
   ·simp only at hk
    exact pB hsl (j:=c) (by omega) (by omega) hd1
   ·refine aI.c7 ?_ (fun n=>rfl)
    simp[bd,bh];omega
 ·have hc:decide (((a+i:Nat):Int)<((a+j:Nat):Int))=false:=by simp;omega
  have he:j=i:=by omega
  subst he
  refine U.seq (U.seq ?_)
  refine .bP (by decide +kernel) fun K hK =>?_
  simp only[Gh,ab,Nat.reduceEqDiff,reduceIte]
  try simp only[hc]
  refine .done (hK _ ?_);clear hK K;try simp only[ay]
  refine U.bM ?_
  simp only[ao,ab,Nat.reduceEqDiff,reduceIte]
  refine ⟨fun h =>?_,fun h =>?_⟩
  ·cases h
  refine U.exit ?_;try simp only[ay,cg,reduceIte]
  refine U.seq (U.seq ?_)
  refine .bP (by decide +kernel) fun K hK =>?_
  simp only[Gj,ab,Nat.reduceEqDiff,reduceIte]
  refine .done (hK _ ?_);clear hK K;try simp only[ay]
  have hi0:=afO p l q x
  rw[hws,←hi0]
  refine U.block (U.loop (fun k:Nat=>av [(0,.view 1000000 [] 1 0 n),(14,.int .i64 ((a+j:Nat):Int)),(17,.int .i64 ((a+k:Nat):Int))] (cu 1000000 (dV p l q x k))) (fun k=>j≤k∧k≤l.length) (fun k=>k-j) l.length ⟨g2,Nat.le_refl _⟩ ?_ (fun k hk =>?_))
  ·rw[hm]
   refine aI.c7 ?_ (fun n=>rfl)
   simp[bd,bh]
  have hil:(dV p l q x k).length=p.length+l.length+1+q.length:=wN (by omega)
  by_cases hkj:j<k
  ·have hc2:decide (((a+j:Nat):Int)<((a+k:Nat):Int))=true:=by simp;omega
   obtain ⟨k',rfl⟩:∃ k',k=k'+1:=⟨k-1,by omega⟩
   have hstep:=H9 (p:=p) (t:=l) (rest:=q) (x:=x) (c:=k') ha (by omega)
   generalize dV p l q x (k'+1)=ws at hil hstep ⊢
   obtain ⟨i1,hi1e⟩:∃ i1,i1=a+(k'+1):=⟨_,rfl⟩
   obtain ⟨j1,hj1e⟩:∃ j1,j1=a+k':=⟨_,rfl⟩
   have hij:a+k'+1=i1:=by omega
   rw[hij,←hj1e] at hstep
   have wk:IntKind.i64.wrap ((i1:Int)-1)=(j1:Int):=by rw[cN _ (by omega) (by omega)];omega
   rw[←hi1e] at hc2 ⊢
   have hi1:i1<n:=by omega
   have hj1:j1<n:=by omega
   simp only[cu]
   have v1:=jh (n:=n) (i:=i1) hi1
   have v2:=jh (n:=n) (i:=j1) hj1
   have l1:=gH (xs:=ws) (i:=i1) (by omega)
   have l2:=gH (xs:=ws) (i:=j1) (by omega)
   have s1:=fun (A:af) v aq rest=>m7 (A:=A) (n:=1000000) (xs:=ws) (i:=i1) (by omega) v aq rest
   obtain ⟨ws2,hws2⟩:∃ ws2,ws2=ws.set i1 (ws.getD j1 0):=⟨_,rfl⟩
   have hw2l:ws2.length=ws.length:=by rw[hws2];simp
   have s2:=fun (A:af) v aq rest=>m7 (A:=A) (n:=1000000) (xs:=ws2) (i:=j1) (by omega) v aq rest
   have l3:=gH (xs:=ws2) (i:=j1) (by omega)
   have R:=And.intro @hc2 (And.intro @wk (And.intro @v1 (And.intro @v2 (And.intro @l1 (And.intro @l2 (And.intro @l3 (And.intro @s1 (And.intro @s2 (And.intro @c9 (And.intro @aP @ab))))))))))
   repeat' ((first
    |(with_reducible refine .guard (fun hb =>?_) (fun hb =>?_) <;>try simp only[hb])
    |refine U.aL (by decide +kernel) rfl fun K hK =>?_
    |(refine .aF [0,1,2,3,4,10,11,12,13,14,15,16,17,18,19,20,21,22,23,24,28,33,50,58,80,85,103,110,140,151,171,185,199,213] hK ?_;clear hK K)
    |(with_reducible refine .done (hK _ ?_);clear hK K)
    |refine U.of rfl ?_
    |(with_reducible refine ao.aK (fun h =>?_) (fun h =>?_) <;>try simp only[h])) <;>try simp only[aM,R,←hws2,Nat.reduceEqDiff,reduceIte,Nat.reduceBEq])
   all_goals clear R
   refine ⟨k',by omega,by omega,?_⟩
   rw[←hstep]
   simp only[j5,←hws2,←hj1e]
   refine aI.c7 ?_ (fun n =>?_)
   ·simp[bd,bh]
   ·simp only[al];split <;>rfl
  ·have hc2:decide (((a+j:Nat):Int)<((a+k:Nat):Int))=false:=by simp;omega
   have hk2:k=j:=by omega
   subst hk2
   have R:=And.intro @hc2 (And.intro @aP (And.intro @eL @ab))
   repeat' ((first
    |(with_reducible refine .guard (fun hb =>?_) (fun hb =>?_) <;>try simp only[hb])
    |refine U.aL (by decide +kernel) rfl fun K hK =>?_
    |(refine .aF [0,1,2,3,4,10,11,12,13,14,15,16,17,18,19,20,21,22,23,24,28,33,50,58,80,85,103,110,140,151,171,185,199,213] hK ?_;clear hK K)
    |(with_reducible refine .done (hK _ ?_);clear hK K)
    |refine U.of rfl ?_
    |(with_reducible refine ao.aK (fun h =>?_) (fun h =>?_) <;>try simp only[h])) <;>try simp only[aM,R,Nat.reduceEqDiff,reduceIte,Nat.reduceBEq])
   all_goals clear R
   refine mZ rfl rfl ⟨rfl,l.take k++x::l.drop k,?_,?_,?_⟩
   ·refine List.perm_middle.trans ?_
    rw[List.take_append_drop];exact List.perm_append_comm (l₁:=[x])
   ·refine yg hsl (fun y hy =>?_) (fun y hy =>?_)
    ·obtain ⟨i,h1,h2,rfl⟩:=sH hy;exact g3 i h1
    ·obtain ⟨i,h1,h2,rfl⟩:=oY hy;exact g4 i h1 h2
   ·rfl
theorem Nu(el:List ak)(hd:lK el)(hel:el.length≤60)(N:Nat)(ih:∀ (p l r q:List Int) (a m b n:Nat),l.length+r.length≤N→0<l.length→0<r.length→p.length=a→a+l.length=m→m+r.length=b→b≤n→n≤(p++l++r++q).length→n≤1000→df el l→df el r→(∀ x∈l,∀ y∈r,x<y)→(∀ x∈l++r,je el x) →
  cA Tryz.prog 204 [.view 1000000 [] 1 0 n,enc (a:Int),enc (m:Int),enc (b:Int),.func 138 [.ref (enc el)]] (cu 1000000 (p++l++r++q)) (mu el p (l++r) q)) (p l r q:List Int) (a m b n:Nat) (hl0:0<l.length) (hr0:0<r.length) (ha:p.length=a) (hm:a+l.length=m) (hb:m+r.length=b) (hn:b≤n) (hnl:n≤(p++l++r++q).length) (hn1:n≤1000) (hsl:df el l) (hsr:df el r) (hlr:∀ x∈l,∀ y∈r,x<y) (hin:∀ x∈l++r,je el x) (hN:l.length+r.length≤N+1) (hl1:¬ l.length=1) (hr1:¬ r.length=1) :
  cA Tryz.prog 204 [.view 1000000 [] 1 0 n,enc (a:Int),enc (m:Int),enc (b:Int),.func 138 [.ref (enc el)]] (cu 1000000 (p++l++r++q)) (mu el p (l++r) q):=by
 have hlen:(p++l++r++q).length=p.length+l.length+r.length+q.length:=by simp only[List.length_append]
 have mJ:=fun i (hi:i<l.length)=>wi (p:=p) (l:=l) (r:=r) (q:=q) (i:=i) ha hi
 have gr:=fun i (hi:i<r.length)=>wj (p:=p) (l:=l) (r:=r) (q:=q) (m:=m) (i:=i) (by omega) hi
 have ml:=fun i (hi:i<l.length)=>(show l.getD i 0∈l by rw[List.getD_eq_getElem?_getD,List.getElem?_eq_getElem hi];exact List.getElem_mem _)
 have mr:=fun i (hi:i<r.length)=>(show r.getD i 0∈r by rw[List.getD_eq_getElem?_getD,List.getElem?_eq_getElem hi];exact List.getElem_mem _)
 refine cA.bn Tryz.func204 uB uE uP (Nat.le_of_ble_eq_true rfl) (Nat.le_of_ble_eq_true rfl) m4 (fun hwf W0 D0 E1 =>?_)
 simp only[rD,ta,bg,Nat.zero_add,Nat.reduceAdd]
 clear hwf
 have eT:=iy (x:=m) (y:=a) (by omega) (by omega)
 refine U.seq (U.seq ?_)
 have h1:(((m-a:Nat):Int)==1)=false:=by simp;omega
 obtain ⟨ws,hws⟩:∃ ws,ws=p++l++r++q:=⟨_,rfl⟩
 rw[←hws] at hnl hlen gr mJ ⊢
 have w0b:=iy (x:=b) (y:=m) (by omega) (by omega)
 refine .bP (by decide +kernel) fun K hK =>?_
 simp only[r8,ab,Nat.reduceEqDiff,reduceIte]
 try simp only[eT,h1]
 refine .done (hK _ ?_);clear hK K;try simp only[ay]
 refine U.bM ?_
 try simp only[ao,ab,Nat.reduceEqDiff,reduceIte]
 refine ⟨fun h =>?_,fun _ =>?_⟩
 ·simp at h
 refine U.skip ?_;try simp only[ay]
 refine U.seq (U.seq ?_)
 have h2:(((b-m:Nat):Int)==1)=false:=by simp;omega
 refine .bP (by decide +kernel) fun K hK =>?_
 simp only[vU,ab,Nat.reduceEqDiff,reduceIte]
 try simp only[w0b,h2]
 refine .done (hK _ ?_);clear hK K;try simp only[ay]
 refine U.bM ?_
 try simp only[ao,ab,Nat.reduceEqDiff,reduceIte]
 refine ⟨fun h =>?_,fun _ =>?_⟩
 ·simp at h
 refine U.skip ?_;try simp only[ay]
 obtain ⟨k,hk⟩:∃ k,k=(l.length+r.length) / 2:=⟨_,rfl⟩
 have w1:=j7 a b (by omega)
 have w2:=lV (x:=a+b) (by omega)
 have w3:(a+b) / 2=a+k:=by omega
 have w4:=lV (x:=a+k) (by omega)
 have w5:=qR (n:=a+k) (by omega)
 have w6:=j7 (a+k) m (by omega)
 refine .ar (by decide +kernel) fun K hK =>?_
 simp only[Gk,ab,Nat.reduceEqDiff,reduceIte]
 try simp only[w1,w2,w3,w5,mU,mT,ab,Nat.reduceEqDiff,reduceIte]
 refine .done (hK _ ?_);clear hK K
 refine .ar (by decide +kernel) fun K hK =>?_
 simp only[Gl,ab,Nat.reduceEqDiff,reduceIte]
 try simp only[w6]
 refine .done (hK _ ?_);clear hK K
 refine .ar (by decide +kernel) fun K hK =>?_
 simp only[Gm,ab]
 refine .done (hK _ ?_);clear hK K
 obtain ⟨lo,hi,q1,q2,q3,q4,q5,q6,q7⟩:∃ lo hi,(if a+k<m then lo+r.length=k∧hi=k else lo=0∧hi=l.length)∧lo≤hi∧hi≤l.length∧hi≤k∧k≤lo+r.length∧(lo=0∨lo+r.length=k)∧(hi=l.length∨hi=k):=by
  by_cases h:a+k<m
  ·exact ⟨k-r.length,k,by rw[if_pos h];omega,by omega,by omega,by omega,by omega,by omega,by omega⟩
  ·exact ⟨0,l.length,by rw[if_neg h];omega,by omega,by omega,by omega,by omega,by omega,by omega⟩
 refine U.seq (U.og (av [(0,.view 1000000 [] 1 0 n),(1,.int .i64 a),(2,.int .i64 m),(3,.int .i64 b),(4,.func 138 [.ref (enc el)]),(18,.int .i64 ((a+k:Nat):Int)),(19,.int .i64 ((a+k+m:Nat):Int)),(20,.int .i64 ((a+lo:Nat):Int)),(21,.int .i64 ((a+hi:Nat):Int))] (cu 1000000 ws)) ?_ fun B hB=>U.sub hB ?_)
 ·by_cases h:a+k<m
  ·rw[if_pos h] at q1
   have hc:decide (((a+k:Nat):Int)<(m:Int))=true:=by simp;omega
   have w7:=iy (x:=a+k+m) (y:=b) (by omega) (by omega)
   have e1:a+k+m-b=a+lo:=by omega
   have R:=And.intro @hc (And.intro @w7 (And.intro @e1 (And.intro @aP @ab)))
   repeat' ((first
    |(with_reducible refine .guard (fun hb =>?_) (fun hb =>?_) <;>try simp only[hb])
    |refine U.aL (by decide +kernel) rfl fun K hK =>?_
    |(refine .aF [0,1,2,3,4,10,11,12,13,14,15,16,17,18,19,20,21,22,23,24,28,33,50,58,80,85,103,110,140,151,171,185,199,213] hK ?_;clear hK K)
    |(with_reducible refine .done (hK _ ?_);clear hK K)
    |refine U.of rfl ?_
    |(with_reducible refine ao.aK (fun h =>?_) (fun h =>?_) <;>try simp only[h])) <;>try simp only[aM,R,Nat.reduceEqDiff,reduceIte,Nat.reduceBEq])
   all_goals clear R
   rw[q1.2]
   refine aI.c7 ?_ (fun n=>rfl)
   simp[bd,bh]
  ·rw[if_neg h] at q1
   have hc:decide (((a+k:Nat):Int)<(m:Int))=false:=by simp;omega
   have R:=And.intro @hc (And.intro @aP @ab)
   repeat' ((first
    |(with_reducible refine .guard (fun hb =>?_) (fun hb =>?_) <;>try simp only[hb])
    |refine U.aL (by decide +kernel) rfl fun K hK =>?_
    |(refine .aF [0,1,2,3,4,10,11,12,13,14,15,16,17,18,19,20,21,22,23,24,28,33,50,58,80,85,103,110,140,151,171,185,199,213] hK ?_;clear hK K)
    |(with_reducible refine .done (hK _ ?_);clear hK K)
    |refine U.of rfl ?_
    |(with_reducible refine ao.aK (fun h =>?_) (fun h =>?_) <;>try simp only[h])) <;>try simp only[aM,R,Nat.reduceEqDiff,reduceIte,Nat.reduceBEq])
   all_goals clear R
   rw[q1.2,q1.1,hm]
   refine aI.c7 ?_ (fun n=>rfl)
   simp[bd,bh]
 clear q1 w1 w2 w3 w4 w5 w6 hl1 hr1 eT w0b
 have hcrF:∀ i,lo≤i→i≤hi→(∀ j,lo≤j→j<i→dI el (l.getD j 0) (r.getD (k-1-j) 0))→(∀ j,i≤j→j<hi→dI el (r.getD (k-1-j) 0) (l.getD j 0))→qU el l r k i:=fun i a1 a2 a3 a4=>Vj hsl hsr a1 a2 q6 q7 q3 q4 q5 a3 a4
 have hk2:2*k≤l.length+r.length:=by omega
 have hk3:1≤k:=by omega
 clear q6 q7 hk
 have w8:IntKind.i64.wrap (((a+k+m:Nat):Int)-1)=((a+k+m-1:Nat):Int):=by rw[cN _ (by omega) (by omega)];omega
 refine .ar (by decide +kernel) fun K hK =>?_
 simp only[Gp,ab,Nat.reduceEqDiff,reduceIte]
 try simp only[w8]
 refine .done (hK _ ?_);clear hK K
 refine U.seq (U.block (U.loop (fun s:Nat×Nat=>av [(0,.view 1000000 [] 1 0 n),(1,.int .i64 a),(2,.int .i64 m),(3,.int .i64 b),(4,.func 138 [.ref (enc el)]),(18,.int .i64 ((a+k:Nat):Int)),(19,.int .i64 ((a+k+m:Nat):Int)),(22,.int .i64 ((a+k+m-1:Nat):Int)),(20,.int .i64 ((a+s.1:Nat):Int)),(21,.int .i64 ((a+s.2:Nat):Int))] (cu 1000000 ws))
  (fun s=>lo≤s.1∧s.1≤s.2∧s.2≤hi∧(∀ j,lo≤j→j<s.1→dI el (l.getD j 0) (r.getD (k-1-j) 0))∧∀ j,s.2≤j→j<hi→dI el (r.getD (k-1-j) 0) (l.getD j 0)) (fun s=>s.2-s.1) (lo,hi) ⟨Nat.le_refl _,q2,Nat.le_refl _,fun j h1 h2=>by simp only at h2;omega,fun j h1 h2=>by simp only at h1;omega⟩ ?_ ?_))
 ·refine aI.c7 ?_ (fun n=>rfl)
  simp[bd,bh]
 rintro ⟨i,j⟩ ⟨fO,g1,g2,g3,g4⟩
 simp only at fO g1 g2 g3 g4 ⊢
 by_cases hij:i<j
 ·have hc:decide (((a+i:Nat):Int)<((a+j:Nat):Int))=true:=by simp;omega
  have w1:=j7 (a+i) (a+j) (by omega)
  have w2:=lV (x:=a+i+(a+j)) (by omega)
  obtain ⟨c,hcd⟩:∃ c,c=(i+j) / 2:=⟨_,rfl⟩
  have hci:i≤c∧c<j:=by omega
  have w3:(a+i+(a+j)) / 2=a+c:=by omega
  have w4:=lV (x:=a+c) (by omega)
  have w5:=qR (n:=a+c) (by omega)
  have w6:=fF (i:=a+c) (by omega)
  have w9:=iy (x:=a+k+m-1) (y:=a+c) (by omega) (by omega)
  have e1:a+k+m-1-(a+c)=m+(k-1-c):=by omega
  have v1:=jh (n:=n) (i:=a+c) (by omega)
  have v2:=jh (n:=n) (i:=m+(k-1-c)) (by omega)
  have l1:=gH (xs:=ws) (i:=a+c) (by omega)
  have l2:=gH (xs:=ws) (i:=m+(k-1-c)) (by omega)
  rw[mJ c (by omega)] at l1
  rw[gr (k-1-c) (by omega)] at l2
  have hlc:=ml c (by omega)
  have hrc:=mr (k-1-c) (by omega)
  have hcmp:=qW el hd hel (r.getD (k-1-c) 0) (l.getD c 0) (hin _ (by simp only[List.mem_append];exact .inr hrc)) (hin _ (by simp only[List.mem_append];exact .inl hlc))
  have hlt:=sE (l:=el) (hlr _ hlc _ hrc)
  simp only[cu]
  cases hdc:decide (fV el (r.getD (k-1-c) 0)-fV el (l.getD c 0)<0) with
  |true =>
   have hd1:dI el (r.getD (k-1-c) 0) (l.getD c 0):=hlt.2 (by have:=of_decide_eq_true hdc;omega)
   have R:=And.intro @hc (And.intro @w1 (And.intro @w2 (And.intro @w3 (And.intro @w4 (And.intro @w5 (And.intro @w6 (And.intro @w9 (And.intro @e1 (And.intro @mU (And.intro @mT (And.intro @v1 (And.intro @v2 (And.intro @l1 (And.intro @l2 (And.intro @hdc (And.intro @c9 (And.intro @dO (And.intro @aP @ab))))))))))))))))))
   repeat' ((first
    |(with_reducible refine .guard (fun hb =>?_) (fun hb =>?_) <;>try simp only[hb])
    |refine U.aL (by decide +kernel) rfl fun K hK =>?_
    |refine .flat _ (hcmp) rfl ?_
    |(refine .aF [0,1,2,3,4,10,11,12,13,14,15,16,17,18,19,20,21,22,23,24,28,33,50,58,80,85,103,110,140,151,171,185,199,213] hK ?_;clear hK K)
    |(with_reducible refine .done (hK _ ?_);clear hK K)
    |refine U.of rfl ?_
    |(with_reducible refine ao.aK (fun h =>?_) (fun h =>?_) <;>try simp only[h])) <;>try simp only[aM,R,List.cons_append,Nat.reduceEqDiff,reduceIte,Nat.reduceBEq])
   all_goals clear R
   refine ⟨(i,c),⟨fO,by simp only;omega,by simp only;omega,g3,fun t ht ht2 =>?_⟩,by simp only;omega,?_⟩
   ·simp only at ht
    exact pB hsr (j:=k-1-c) (by omega) (by omega) (pA hsl (i:=c) (by omega) (by omega) hd1)
   ·refine aI.c7 ?_ (fun n=>rfl)
    simp[bd,bh]
  |false =>
   have hd1:dI el (l.getD c 0) (r.getD (k-1-c) 0):=sD (hlr _ hlc _ hrc) (by have:=of_decide_eq_false hdc;omega)
   have R:=And.intro @hc (And.intro @w1 (And.intro @w2 (And.intro @w3 (And.intro @w4 (And.intro @w5 (And.intro @w6 (And.intro @w9 (And.intro @e1 (And.intro @mU (And.intro @mT (And.intro @v1 (And.intro @v2 (And.intro @l1 (And.intro @l2 (And.intro @hdc (And.intro @c9 (And.intro @dO (And.intro @aP @ab))))))))))))))))))
   repeat' ((first
    |(with_reducible refine .guard (fun hb =>?_) (fun hb =>?_) <;>try simp only[hb])
    |refine U.aL (by decide +kernel) rfl fun K hK =>?_
    |refine .flat _ (hcmp) rfl ?_
    |(refine .aF [0,1,2,3,4,10,11,12,13,14,15,16,17,18,19,20,21,22,23,24,28,33,50,58,80,85,103,110,140,151,171,185,199,213] hK ?_;clear hK K)
    |(with_reducible refine .done (hK _ ?_);clear hK K)
    |refine U.of rfl ?_
    |(with_reducible refine ao.aK (fun h =>?_) (fun h =>?_) <;>try simp only[h])) <;>try simp only[aM,R,List.cons_append,Nat.reduceEqDiff,reduceIte,Nat.reduceBEq])
   all_goals clear R
   refine ⟨(c+1,j),⟨by simp only;omega,by simp only;omega,g2,fun t ht ht2 =>?_,g4⟩,by simp only;omega,?_⟩
   ·simp only at ht2
    exact pB hsl (j:=c) (by omega) (by omega) (pA hsr (i:=k-1-c) (by omega) (by omega) hd1)
   ·refine aI.c7 ?_ (fun n=>rfl)
    simp[bd,bh];omega
 have hc:decide (((a+i:Nat):Int)<((a+j:Nat):Int))=false:=by simp;omega
 have he:j=i:=by omega
 subst he
 have hcr:qU el l r k j:=hcrF _ fO g2 g3 g4
 refine U.seq (U.seq ?_)
 refine .bP (by decide +kernel) fun K hK =>?_
 simp only[Gq,ab,Nat.reduceEqDiff,reduceIte]
 try simp only[hc]
 refine .done (hK _ ?_);clear hK K;try simp only[ay]
 refine U.bM ?_
 simp only[ao,ab,Nat.reduceEqDiff,reduceIte]
 refine ⟨fun h =>?_,fun h =>?_⟩
 ·cases h
 refine U.exit ?_;try simp only[ay,cg,reduceIte]
 have w10:=iy (x:=a+k+m) (y:=a+j) (by omega) (by omega)
 have e2:a+k+m-(a+j)=m+(k-j):=by omega
 refine .ar (by decide +kernel) fun K hK =>?_
 simp only[Gr,ab,Nat.reduceEqDiff,reduceIte]
 try simp only[w10,e2]
 refine .done (hK _ ?_);clear hK K
 -- the four parts
 have hl12:l.take j++l.drop j=l:=List.take_append_drop _ _
 have hr12:r.take (k-j)++r.drop (k-j)=r:=List.take_append_drop _ _
 obtain ⟨l1,hl1e⟩:∃ l1,l1=l.take j:=⟨_,rfl⟩
 obtain ⟨l2,hl2e⟩:∃ l2,l2=l.drop j:=⟨_,rfl⟩
 obtain ⟨r1,hr1e⟩:∃ r1,r1=r.take (k-j):=⟨_,rfl⟩
 obtain ⟨dN,hr2e⟩:∃ dN,dN=r.drop (k-j):=⟨_,rfl⟩
 have ll1:l1.length=j:=by rw[hl1e,List.length_take];omega
 have ll2:l2.length=l.length-j:=by rw[hl2e,List.length_drop]
 have lr1:r1.length=k-j:=by rw[hr1e,List.length_take];omega
 have lr2:dN.length=r.length-(k-j):=by rw[hr2e,List.length_drop]
 have sl1:df el l1:=hl1e▸L2 hsl _
 have sl2:df el l2:=hl2e▸L1 hsl _
 have sr1:df el r1:=hr1e▸L2 hsr _
 have sr2:df el dN:=hr2e▸L1 hsr _
 have ml1:∀ x∈l1,x∈l:=fun x hx=>List.mem_of_mem_take (hl1e▸hx)
 have ml2:∀ x∈l2,x∈l:=fun x hx=>List.mem_of_mem_drop (hl2e▸hx)
 have mr1:∀ x∈r1,x∈r:=fun x hx=>List.mem_of_mem_take (hr1e▸hx)
 have mr2:∀ x∈dN,x∈r:=fun x hx=>List.mem_of_mem_drop (hr2e▸hx)
 rw[←hl1e,←hl2e] at hl12
 rw[←hr1e,←hr2e] at hr12
 have hws4:ws=(p++l1)++l2++r1++(dN++q):=by rw[hws,←hl12,←hr12];simp only[List.append_assoc]
 have e3:((a+j:Nat):Int)<m↔j<l.length:=by omega
 -- the parts change places
 refine U.seq (U.og (av [(0,.view 1000000 [] 1 0 n),(1,.int .i64 a),(3,.int .i64 b),(4,.func 138 [.ref (enc el)]),(18,.int .i64 ((a+k:Nat):Int)),(20,.int .i64 ((a+j:Nat):Int)),(24,.int .i64 ((m+(k-j):Nat):Int))] (cu 1000000 (p++l1++r1++(l2++dN++q)))) ?_ fun B hB=>U.sub hB ?_)
 ·by_cases h1:j<l.length
  ·have hc1:decide (((a+j:Nat):Int)<(m:Int))=true:=by simp;omega
   by_cases h2:j<k
   ·have hc2:decide ((m:Int)<((m+(k-j):Nat):Int))=true:=by simp;omega
    have hrot:=Ny (p++l1) l2 r1 (dN++q) (a+j) m (m+(k-j)) n 138 [.ref (enc el)] (by simp[I.bV,I.bu,dO]) (by rw[List.length_append];omega) (by omega) (by omega) (by omega) (by omega) (by omega) hn1
    rw[←hws4] at hrot
    have R:=And.intro @hc1 (And.intro @hc2 (And.intro @aP @ab))
    repeat' ((first
     |(with_reducible refine .guard (fun hb =>?_) (fun hb =>?_) <;>try simp only[hb])
     |refine U.aL (by decide +kernel) rfl fun K hK =>?_
     |(refine .aF [0,1,2,3,4,10,11,12,13,14,15,16,17,18,19,20,21,22,23,24,28,33,50,58,80,85,103,110,140,151,171,185,199,213] hK ?_;clear hK K)
     |(with_reducible refine .done (hK _ ?_);clear hK K)
     |refine U.of rfl ?_
     |(with_reducible refine ao.aK (fun h =>?_) (fun h =>?_) <;>try simp only[h])) <;>try simp only[aM,R,Nat.reduceEqDiff,reduceIte,Nat.reduceBEq])
    all_goals clear R
    refine a6.kA hrot (kb _ n 138 [.ref (enc el)] (by simp[I.bV,I.bu,dO]) [_,_,_]) ?_
    rintro eS os' ⟨rfl,rfl⟩
    refine ⟨_,rfl,rfl,?_⟩
    try simp only[ab]
    refine .done (hK _ ?_);clear hK K
    have e5:p++l1++r1++l2++(dN++q)=p++l1++r1++(l2++dN++q):=by simp only[List.append_assoc]
    rw[e5]
    refine aI.c7 ?_ (fun n=>rfl)
    simp[bd,bh]
   ·have hc2:decide ((m:Int)<((m+(k-j):Nat):Int))=false:=by simp;omega
    have hn0:r1=[]:=List.length_eq_zero_iff.1 (by omega)
    have e5:ws=p++l1++r1++(l2++dN++q):=by rw[hws4,hn0];simp only[List.append_assoc,List.append_nil]
    rw[e5]
    have R:=And.intro @hc1 (And.intro @hc2 (And.intro @aP @ab))
    repeat' ((first
     |(with_reducible refine .guard (fun hb =>?_) (fun hb =>?_) <;>try simp only[hb])
     |refine U.aL (by decide +kernel) rfl fun K hK =>?_
     |(refine .aF [0,1,2,3,4,10,11,12,13,14,15,16,17,18,19,20,21,22,23,24,28,33,50,58,80,85,103,110,140,151,171,185,199,213] hK ?_;clear hK K)
     |(with_reducible refine .done (hK _ ?_);clear hK K)
     |refine U.of rfl ?_
     |(with_reducible refine ao.aK (fun h =>?_) (fun h =>?_) <;>try simp only[h])) <;>try simp only[aM,R,Nat.reduceEqDiff,reduceIte,Nat.reduceBEq])
    all_goals clear R
    refine aI.c7 ?_ (fun n=>rfl)
    simp[bd,bh]
  ·have hc1:decide (((a+j:Nat):Int)<(m:Int))=false:=by simp;omega
   have hn0:l2=[]:=List.length_eq_zero_iff.1 (by omega)
   have e5:ws=p++l1++r1++(l2++dN++q):=by rw[hws4,hn0];simp only[List.append_assoc,List.append_nil,List.nil_append]
   rw[e5]
   have R:=And.intro @hc1 (And.intro @aP @ab)
   repeat' ((first
    |(with_reducible refine .guard (fun hb =>?_) (fun hb =>?_) <;>try simp only[hb])
    |refine U.aL (by decide +kernel) rfl fun K hK =>?_
    |(refine .aF [0,1,2,3,4,10,11,12,13,14,15,16,17,18,19,20,21,22,23,24,28,33,50,58,80,85,103,110,140,151,171,185,199,213] hK ?_;clear hK K)
    |(with_reducible refine .done (hK _ ?_);clear hK K)
    |refine U.of rfl ?_
    |(with_reducible refine ao.aK (fun h =>?_) (fun h =>?_) <;>try simp only[h])) <;>try simp only[aM,R,Nat.reduceEqDiff,reduceIte,Nat.reduceBEq])
   all_goals clear R
   refine aI.c7 ?_ (fun n=>rfl)
   simp[bd,bh]
 -- the lower half
 refine U.seq (U.ajV (fun s1:List Int=>av [(0,.view 1000000 [] 1 0 n),(3,.int .i64 b),(4,.func 138 [.ref (enc el)]),(18,.int .i64 ((a+k:Nat):Int)),(24,.int .i64 ((m+(k-j):Nat):Int))] (cu 1000000 (p++s1++l2++dN++q))) (fun s1=>s1.Perm (l1++r1)∧df el s1) ?_ fun s1 B hC hB=>U.sub hB ?_)
 ·by_cases h1:0<j
  ·have hc1:decide ((a:Int)<((a+j:Nat):Int))=true:=by simp;omega
   by_cases h2:j<k
   ·have hc2:decide (((a+j:Nat):Int)<((a+k:Nat):Int))=true:=by simp;omega
    have hrec:=ih p l1 r1 (l2++dN++q) a (a+j) (a+k) n (by omega) (by omega) (by omega) ha (by omega) (by omega) (by omega) (by simp only[List.length_append];omega) hn1 sl1 sr1 (fun x hx y hy=>hlr x (ml1 x hx) y (mr1 y hy)) (fun x hx=>hin x (by
     rcases List.mem_append.1 hx with h | h
     ·exact List.mem_append.2 (.inl (ml1 x h))
     ·exact List.mem_append.2 (.inr (mr1 x h))))
    have R:=And.intro @hc1 (And.intro @hc2 (And.intro @aP @ab))
    repeat' ((first
     |(with_reducible refine .guard (fun hb =>?_) (fun hb =>?_) <;>try simp only[hb])
     |refine U.aL (by decide +kernel) rfl fun K hK =>?_
     |(refine .aF [0,1,2,3,4,10,11,12,13,14,15,16,17,18,19,20,21,22,23,24,28,33,50,58,80,85,103,110,140,151,171,185,199,213] hK ?_;clear hK K)
     |(with_reducible refine .done (hK _ ?_);clear hK K)
     |refine U.of rfl ?_
     |(with_reducible refine ao.aK (fun h =>?_) (fun h =>?_) <;>try simp only[h])) <;>try simp only[aM,R,Nat.reduceEqDiff,reduceIte,Nat.reduceBEq])
    all_goals clear R
    refine a6.kA hrec (kb _ n 138 [.ref (enc el)] (by simp[I.bV,I.bu,dO]) [_,_,_]) ?_
    rintro eS os' ⟨rfl,s1,k1,k2,rfl⟩
    refine ⟨_,rfl,rfl,?_⟩
    try simp only[ab]
    refine .done (hK _ ?_);clear hK K
    refine ⟨s1,⟨k1,k2⟩,?_⟩
    have e5:p++s1++(l2++dN++q)=p++s1++l2++dN++q:=by simp only[List.append_assoc]
    rw[e5]
    refine aI.c7 ?_ (fun n=>rfl)
    simp[bd,bh]
   ·have hc2:decide (((a+j:Nat):Int)<((a+k:Nat):Int))=false:=by simp;omega
    have hn0:r1=[]:=List.length_eq_zero_iff.1 (by omega)
    have R:=And.intro @hc1 (And.intro @hc2 (And.intro @aP @ab))
    repeat' ((first
     |(with_reducible refine .guard (fun hb =>?_) (fun hb =>?_) <;>try simp only[hb])
     |refine U.aL (by decide +kernel) rfl fun K hK =>?_
     |(refine .aF [0,1,2,3,4,10,11,12,13,14,15,16,17,18,19,20,21,22,23,24,28,33,50,58,80,85,103,110,140,151,171,185,199,213] hK ?_;clear hK K)
     |(with_reducible refine .done (hK _ ?_);clear hK K)
     |refine U.of rfl ?_
     |(with_reducible refine ao.aK (fun h =>?_) (fun h =>?_) <;>try simp only[h])) <;>try simp only[aM,R,Nat.reduceEqDiff,reduceIte,Nat.reduceBEq])
    all_goals clear R
    refine ⟨l1++r1,⟨.refl _,by rw[hn0,List.append_nil];exact sl1⟩,?_⟩
    have e5:p++l1++r1++(l2++dN++q)=p++(l1++r1)++l2++dN++q:=by simp only[List.append_assoc]
    rw[e5]
    refine aI.c7 ?_ (fun n=>rfl)
    simp[bd,bh]
  ·have hc1:decide ((a:Int)<((a+j:Nat):Int))=false:=by simp;omega
   have hn0:l1=[]:=List.length_eq_zero_iff.1 (by omega)
   have R:=And.intro @hc1 (And.intro @aP @ab)
   repeat' ((first
    |(with_reducible refine .guard (fun hb =>?_) (fun hb =>?_) <;>try simp only[hb])
    |refine U.aL (by decide +kernel) rfl fun K hK =>?_
    |(refine .aF [0,1,2,3,4,10,11,12,13,14,15,16,17,18,19,20,21,22,23,24,28,33,50,58,80,85,103,110,140,151,171,185,199,213] hK ?_;clear hK K)
    |(with_reducible refine .done (hK _ ?_);clear hK K)
    |refine U.of rfl ?_
    |(with_reducible refine ao.aK (fun h =>?_) (fun h =>?_) <;>try simp only[h])) <;>try simp only[aM,R,Nat.reduceEqDiff,reduceIte,Nat.reduceBEq])
   all_goals clear R
   refine ⟨l1++r1,⟨.refl _,by rw[hn0,List.nil_append];exact sr1⟩,?_⟩
   have e5:p++l1++r1++(l2++dN++q)=p++(l1++r1)++l2++dN++q:=by simp only[List.append_assoc]
   rw[e5]
   refine aI.c7 ?_ (fun n=>rfl)
   simp[bd,bh]
 -- the upper half
 obtain ⟨k1,k2⟩:=hC
 have ls1:s1.length=k:=by rw[k1.length_eq,List.length_append];omega
 have done:∀ s2,s2.Perm (l2++dN)→df el s2→∀ ts ws',ws'=p++s1++s2++q→kH [] (mu el p (l++r) q) (av ts (cu 1000000 ws')):=fun s2 k3 k4 ts ws' he=>by
  obtain ⟨j1,j2⟩:=ajo hcr (hl1e▸hr1e▸k1) (hl2e▸hr2e▸k3) k2 k4
  exact mZ rfl (he.trans (by simp only[List.append_assoc])) ⟨rfl,s1++s2,j1,j2,rfl⟩
 by_cases h1:j<l.length
 ·have hc1:decide (((a+k:Nat):Int)<((m+(k-j):Nat):Int))=true:=by simp;omega
  by_cases h2:k-j<r.length
  ·have hc2:decide (((m+(k-j):Nat):Int)<(b:Int))=true:=by simp;omega
   have hrec:=ih (p++s1) l2 dN q (a+k) (m+(k-j)) b n (by omega) (by omega) (by omega) (by rw[List.length_append];omega) (by omega) (by omega) hn (by simp only[List.length_append];omega) hn1 sl2 sr2 (fun x hx y hy=>hlr x (ml2 x hx) y (mr2 y hy)) (fun x hx=>hin x (by
    rcases List.mem_append.1 hx with h | h
    ·exact List.mem_append.2 (.inl (ml2 x h))
    ·exact List.mem_append.2 (.inr (mr2 x h))))
   have R:=And.intro @hc1 (And.intro @hc2 (And.intro @aP @ab))
   repeat' ((first
    |(with_reducible refine .guard (fun hb =>?_) (fun hb =>?_) <;>try simp only[hb])
    |refine U.aL (by decide +kernel) rfl fun K hK =>?_
    |(refine .aF [0,1,2,3,4,10,11,12,13,14,15,16,17,18,19,20,21,22,23,24,28,33,50,58,80,85,103,110,140,151,171,185,199,213] hK ?_;clear hK K)
    |(with_reducible refine .done (hK _ ?_);clear hK K)
    |refine U.of rfl ?_
    |(with_reducible refine ao.aK (fun h =>?_) (fun h =>?_) <;>try simp only[h])) <;>try simp only[aM,R,Nat.reduceEqDiff,reduceIte,Nat.reduceBEq])
   all_goals clear R
   refine a6.kA hrec (kb _ n 138 [.ref (enc el)] (by simp[I.bV,I.bu,dO]) [_,_,_]) ?_
   rintro eS os' ⟨rfl,s2,k3,k4,rfl⟩
   refine ⟨_,rfl,rfl,?_⟩
   try simp only[ab]
   refine .done (hK _ ?_)
   clear hK K
   rw[ly]
   exact done s2 k3 k4 _ _ rfl
  ·have hc2:decide (((m+(k-j):Nat):Int)<(b:Int))=false:=by simp;omega
   have hn0:dN=[]:=List.length_eq_zero_iff.1 (by omega)
   have R:=And.intro @hc1 (And.intro @hc2 (And.intro @aP @ab))
   repeat' ((first
    |(with_reducible refine .guard (fun hb =>?_) (fun hb =>?_) <;>try simp only[hb])
    |refine U.aL (by decide +kernel) rfl fun K hK =>?_
    |(refine .aF [0,1,2,3,4,10,11,12,13,14,15,16,17,18,19,20,21,22,23,24,28,33,50,58,80,85,103,110,140,151,171,185,199,213] hK ?_;clear hK K)
    |(with_reducible refine .done (hK _ ?_);clear hK K)
    |refine U.of rfl ?_
    |(with_reducible refine ao.aK (fun h =>?_) (fun h =>?_) <;>try simp only[h])) <;>try simp only[aM,R,Nat.reduceEqDiff,reduceIte,Nat.reduceBEq])
   all_goals clear R
   rw[ly]
   exact done (l2++dN) (.refl _) (by rw[hn0,List.append_nil];exact sl2) _ (p++s1++l2++dN++q) (by simp only[List.append_assoc])
 ·have hc1:decide (((a+k:Nat):Int)<((m+(k-j):Nat):Int))=false:=by simp;omega
  have hn0:l2=[]:=List.length_eq_zero_iff.1 (by omega)
  have R:=And.intro @hc1 (And.intro @aP @ab)
  repeat' ((first
   |(with_reducible refine .guard (fun hb =>?_) (fun hb =>?_) <;>try simp only[hb])
   |refine U.aL (by decide +kernel) rfl fun K hK =>?_
   |(refine .aF [0,1,2,3,4,10,11,12,13,14,15,16,17,18,19,20,21,22,23,24,28,33,50,58,80,85,103,110,140,151,171,185,199,213] hK ?_;clear hK K)
   |(with_reducible refine .done (hK _ ?_);clear hK K)
   |refine U.of rfl ?_
   |(with_reducible refine ao.aK (fun h =>?_) (fun h =>?_) <;>try simp only[h])) <;>try simp only[aM,R,Nat.reduceEqDiff,reduceIte,Nat.reduceBEq])
  all_goals clear R
  rw[ly]
  exact done (l2++dN) (.refl _) (by rw[hn0,List.nil_append];exact sr2) _ (p++s1++l2++dN++q) (by simp only[List.append_assoc])
theorem yQ(el:List ak)(hd:lK el)(hel:el.length≤60):∀ (N:Nat) (p l r q:List Int) (a m b n:Nat),l.length+r.length≤N→0<l.length→0<r.length→p.length=a→a+l.length=m→m+r.length=b→b≤n→n≤(p++l++r++q).length→n≤1000→df el l→df el r→(∀ x∈l,∀ y∈r,x<y)→(∀ x∈l++r,je el x) →
  cA Tryz.prog 204 [.view 1000000 [] 1 0 n,enc (a:Int),enc (m:Int),enc (b:Int),.func 138 [.ref (enc el)]] (cu 1000000 (p++l++r++q)) (mu el p (l++r) q):=by
 intro N
 induction N with
 |zero=>intro p l r q a m b n h1 h2;omega
 |succ N ih =>
  intro p l r q a m b n hN hl0 hr0 ha hm hb hn hnl hn1 hsl hsr hlr hin
  by_cases hl1:l.length=1
  ·exact Ns el hd hel p l r q a m b n hl0 hr0 ha hm hb hn hnl hn1 hsl hsr hlr hin hl1
  by_cases hr1:r.length=1
  ·exact Nt el hd hel p l r q a m b n hl0 hr0 ha hm hb hn hnl hn1 hsl hsr hlr hin hl1 hr1
  ·exact Nu el hd hel N ih p l r q a m b n hl0 hr0 ha hm hb hn hnl hn1 hsl hsr hlr hin hN hl1 hr1
def dy(ws:List Int)(bs t:Nat):List Int:=(ws.drop (t*bs)).take bs
theorem BJ(ws:List Int)(bs aq:Nat):dy ws (2*bs) aq=dy ws bs (2*aq)++dy ws bs (2*aq+1):=by
 simp only[dy]
 rw[show 2*bs=bs+bs by omega,List.take_add,List.drop_drop]
 have e1:aq*(bs+bs)=2*aq*bs:=by rw[Nat.mul_add,show 2*aq=aq+aq by omega,Nat.add_mul]
 have e2:2*aq*bs+bs=(2*aq+1)*bs:=by rw[Nat.add_mul];omega
 rw[e1,e2]
def lG(el:List ak)(bs:Nat)(o d:List Int):Prop:=o.length=d.length∧∀ t,(dy d bs t).Perm (dy o bs t)∧df el (dy d bs t)
theorem yY(el:List ak)(bs:Nat):lG el bs [] []:=⟨rfl,fun t=>by simp[dy,df]⟩
theorem BI{o b:List Int}{bs t t':Nat}(ho:o.length=t*bs)(hb:b.length≤bs):dy (o++b) bs t'=if t'<t then dy o bs t' else if t'=t then b else []:=by
 simp only[dy]
 by_cases h1:t'<t
 ·rw[if_pos h1]
  have h2:(t'+1)*bs≤t*bs:=Nat.mul_le_mul_right _ h1
  rw[Nat.add_mul,Nat.one_mul] at h2
  rw[List.drop_append_of_le_length (by omega),List.take_append_of_le_length (by rw[List.length_drop];omega)]
 ·rw[if_neg h1]
  by_cases h2:t'=t
  ·subst h2
   rw[if_pos rfl,←ho,List.drop_left,List.take_of_length_le hb]
  ·rw[if_neg h2]
   have h3:(t+1)*bs≤t'*bs:=Nat.mul_le_mul_right _ (by omega)
   rw[Nat.add_mul,Nat.one_mul] at h3
   rw[List.drop_eq_nil_of_le (by rw[List.length_append];omega)]
   exact List.take_nil
theorem rm{el:List ak}{bs t:Nat}{o d b b':List Int}(h:lG el bs o d)(ho:o.length=t*bs)(hp:b'.Perm b)(hs:df el b')(hl:b.length≤bs):lG el bs (o++b) (d++b'):=by
 refine ⟨by rw[List.length_append,List.length_append,h.1,hp.length_eq],fun t' =>?_⟩
 rw[BI (by rw[←h.1];exact ho) (by rw[hp.length_eq];exact hl),BI ho hl]
 split
 ·exact h.2 t'
 ·split
  ·exact ⟨hp,hs⟩
  ·exact ⟨.refl _,List.Pairwise.nil⟩
theorem N2{el:List ak}{bs:Nat}{o d:List Int}(h:lG el bs o d)(hn:o.length≤bs):d.Perm o∧df el d:=by
 have:=h.2 0
 simp only[dy,Nat.zero_mul,List.drop_zero] at this
 rw[List.take_of_length_le (by rw[←h.1];exact hn),List.take_of_length_le hn] at this
 exact this
theorem Ta{xs:List Int}(hx:xs.Pairwise (· < ·))(bs aq:Nat):∀ x∈dy xs bs (2*aq),∀ y∈dy xs bs (2*aq+1),x<y:=by
 have h:(dy xs (2*bs) aq).Pairwise (· < ·):=(hx.sublist (List.drop_sublist _ _)).sublist (List.take_sublist _ _)
 rw[BJ,List.pairwise_append] at h
 exact h.2.2
theorem uI{xs:List Int}{bs t:Nat}{x:Int}(h:x∈dy xs bs t):x∈xs:=List.mem_of_mem_drop (List.mem_of_mem_take h)
theorem Mj(xs:List Int)(bs t:Nat):xs.take ((t+1)*bs)=xs.take (t*bs)++dy xs bs t:=by
 rw[Nat.add_mul,Nat.one_mul,List.take_add];rfl
theorem pU(xs:List Int)(bs t:Nat):xs.drop (t*bs)=dy xs bs t++xs.drop ((t+1)*bs):=by
 simp only[dy]
 rw[Nat.add_mul,Nat.one_mul,←List.drop_drop,List.take_append_drop]
theorem pT{xs:List Int}{bs t:Nat}(h:(t+1)*bs≤xs.length):(dy xs bs t).length=bs:=by
 rw[Nat.add_mul,Nat.one_mul] at h
 simp only[dy,List.length_take,List.length_drop];omega
theorem ajZ{x:Nat}(h:x<1000000):IntKind.i64.wrap (2*(x:Int))=((2*x:Nat):Int):=by rw[cN _ (by omega) (by omega)];omega
theorem aj0{x:Nat}(h:x<1000000):IntKind.i64.wrap ((x:Int)*2)=((2*x:Nat):Int):=by rw[cN _ (by omega) (by omega)];omega
theorem Il{i n:Nat}(h:i≤n):decide ((i:Int)≤(n:Int))=true:=by simp;omega
theorem IJ{i n:Nat}(h:¬ i≤n):decide ((i:Int)≤(n:Int))=false:=by simp;omega
structure N3 where
 bs:Nat
 d:List Int
theorem M9(el:List ak)(hd:lK el)(hel:el.length≤60)(xs q:List Int)(hx:xs.Pairwise (· < ·))(hS:∀ x∈xs,je el x)(hn:xs.length≤60) :
  cA Tryz.prog 171 [.view 1000000 [] 1 0 xs.length,enc (xs.length:Int),.func 138 [.ref (enc el)]] (cu 1000000 (xs++q)) (mu el [] xs q):=by
 refine cA.bn Tryz.func171 Bw BE BP (Nat.le_of_ble_eq_true rfl) (Nat.le_of_ble_eq_true rfl) m4 (fun hwf W0 D0 E1 =>?_)
 simp only[uv,xP,bg,Nat.zero_add,Nat.reduceAdd]
 clear hwf
 have hcl:I.bV [.ref (enc el)]=true:=by simp[I.bV,I.bu,dO]
 refine .ar (by decide +kernel) fun K hK =>?_
 simp only[vK,ab,simprocAttr]
 refine .done (hK _ ?_);clear hK K
 refine .ar (by decide +kernel) fun K hK =>?_
 simp only[vL,ab,simprocAttr]
 refine .done (hK _ ?_);clear hK K
 -- blocks of twenty
 refine U.seq (U.block (U.loop (fun s:Nat×List Int=>av [(0,.view 1000000 [] 1 0 xs.length),(1,.int .i64 xs.length),(2,.func 138 [.ref (enc el)]),(6,.int .i64 20),(7,.int .i64 ((s.1*20:Nat):Int)),(8,.int .i64 (((s.1+1)*20:Nat):Int))] (cu 1000000 (s.2++xs.drop (s.1*20)++q)))
  (fun s=>s.1*20≤xs.length∧lG el 20 (xs.take (s.1*20)) s.2) (fun s=>xs.length-s.1*20) (0,[]) ⟨Nat.zero_le _,yY el 20⟩ ?_ ?_))
 ·refine aI.c7 ?_ (fun n=>rfl)
  simp[bd,bh]
 rintro ⟨t,d⟩ ⟨g1,g2⟩
 simp only at g1 g2 ⊢
 have ht:(xs.take (t*20)).length=t*20:=by rw[List.length_take];omega
 have hdl:d.length=t*20:=by rw[←g2.1,ht]
 by_cases hb:(t+1)*20≤xs.length
 ·have hc:=Il hb
  have w1:IntKind.i64.wrap ((((t+1)*20:Nat):Int)+20)=(((t+1+1)*20:Nat):Int):=by rw[cN _ (by omega) (by omega)];omega
  have hcl2:=pT hb
  have hins:=yP el hd hel d (dy xs 20 t) (xs.drop ((t+1)*20)++q) (t*20) ((t+1)*20) xs.length hdl (by omega) hb (by simp only[List.length_append,List.length_drop];omega) (by omega) ((hx.sublist (List.drop_sublist _ _)).sublist (List.take_sublist _ _)) (fun x hx=>hS x (uI hx))
  have e1:d++dy xs 20 t++(xs.drop ((t+1)*20)++q)=d++xs.drop (t*20)++q:=by rw[pU xs 20 t];simp only[List.append_assoc]
  rw[e1] at hins
  have R:=And.intro @hc (And.intro @aP @ab)
  repeat' ((first
   |(with_reducible refine .guard (fun hb =>?_) (fun hb =>?_) <;>try simp only[hb])
   |refine U.aL (by decide +kernel) rfl fun K hK =>?_
   |(refine .aF [0,1,2,6,7,8,9,13,30,35,54] hK ?_;clear hK K)
   |(with_reducible refine .done (hK _ ?_);clear hK K)
   |refine U.of rfl ?_
   |(with_reducible refine ao.aK (fun h =>?_) (fun h =>?_) <;>try simp only[h])) <;>try simp only[aM,R,simprocAttr])
  all_goals clear R
  refine a6.kA hins (kb _ xs.length 138 [.ref (enc el)] hcl [_,_]) ?_
  rintro eS os' ⟨rfl,s',k1,k2,rfl⟩
  refine ⟨_,rfl,rfl,?_⟩
  try simp only[ab,simprocAttr]
  refine .done (hK _ ?_);clear hK K
  have R:=And.intro @w1 (And.intro @aP @ab)
  repeat' ((first
   |(with_reducible refine .guard (fun hb =>?_) (fun hb =>?_) <;>try simp only[hb])
   |refine U.aL (by decide +kernel) rfl fun K hK =>?_
   |(refine .aF [0,1,2,6,7,8,9,13,30,35,54] hK ?_;clear hK K)
   |(with_reducible refine .done (hK _ ?_);clear hK K)
   |refine U.of rfl ?_
   |(with_reducible refine ao.aK (fun h =>?_) (fun h =>?_) <;>try simp only[h])) <;>try simp only[aM,R,simprocAttr])
  all_goals clear R
  refine ⟨(t+1,d++s'),⟨hb,?_⟩,by simp only;omega,?_⟩
  ·simp only
   rw[Mj]
   exact rm g2 ht k1 k2 (by omega)
  ·simp only[←List.append_assoc]
   refine aI.c7 ?_ (fun n=>rfl)
   simp[bd,bh]
 have hc:=IJ hb
 refine U.seq (U.seq ?_)
 refine .bP (by decide +kernel) fun K hK =>?_
 simp only[Fp,ab,simprocAttr]
 try simp only[hc,simprocAttr]
 refine .done (hK _ ?_);clear hK K;try simp only[ay]
 refine U.bM ?_
 simp only[ao,ab,simprocAttr]
 refine ⟨fun h =>?_,fun h =>?_⟩
 ·cases h
 refine U.exit ?_;try simp only[ay,cg,simprocAttr]
 -- what is left
 have hins:=yP el hd hel d (xs.drop (t*20)) q (t*20) xs.length xs.length hdl (by rw[List.length_drop];omega) (Nat.le_refl _) (by simp only[List.length_append,List.length_drop];omega) (by omega) (hx.sublist (List.drop_sublist _ _)) (fun x hx=>hS x (List.mem_of_mem_drop hx))
 refine .ar (by decide +kernel) fun K hK =>?_
 simp only[Fq,ab,simprocAttr]
 refine a6.kA hins (kb _ xs.length 138 [.ref (enc el)] hcl [_,_]) ?_
 rintro eS os' ⟨rfl,s',k1,k2,rfl⟩
 refine ⟨_,rfl,rfl,?_⟩
 try simp only[ab,simprocAttr]
 refine .done (hK _ ?_);clear hK K
 have hSB:lG el 20 xs (d++s'):=by
  have:=rm g2 ht k1 k2 (by rw[List.length_drop];omega)
  rwa [List.take_append_drop] at this
 clear k1 k2 hins g2 ht hdl hb hc g1
 generalize d++s'=d0 at hSB ⊢
 -- blocks are merged
 refine U.block (U.loop (fun s:N3=>av [(0,.view 1000000 [] 1 0 xs.length),(1,.int .i64 xs.length),(2,.func 138 [.ref (enc el)]),(6,.int .i64 s.bs)] (cu 1000000 (s.d++q))) (fun s=>20≤s.bs∧s.bs≤120∧lG el s.bs xs s.d) (fun s=>200-s.bs) ⟨20,d0⟩ ⟨Nat.le_refl _,(by show 20≤120;omega),hSB⟩ ?_ ?_)
 ·refine aI.c7 ?_ (fun n=>rfl)
  simp[bd,bh]
 rintro ⟨bs,d1⟩ ⟨g1,g2,g3⟩
 simp only at g1 g2 g3 ⊢
 have hdl:=g3.1
 by_cases hb:bs<xs.length
 case neg =>
  have hc:=gp hb
  refine U.seq (U.seq ?_)
  refine .bP (by decide +kernel) fun K hK =>?_
  simp only[vM,ab,simprocAttr]
  try simp only[hc,simprocAttr]
  refine .done (hK _ ?_);clear hK K;try simp only[ay]
  refine U.bM ?_
  simp only[ao,ab,simprocAttr]
  refine ⟨fun h =>?_,fun h =>?_⟩
  ·cases h
  refine U.exit ?_;try simp only[ay,cg,simprocAttr]
  rw[ly]
  obtain ⟨k1,k2⟩:=N2 g3 (by omega)
  exact mZ rfl rfl ⟨rfl,d1,k1,k2,rfl⟩
 have hc:=fY hb
 have w1:=ajZ (x:=bs) (by omega)
 refine U.seq (U.seq ?_)
 refine .bP (by decide +kernel) fun K hK =>?_
 simp only[vM,ab,simprocAttr]
 try simp only[hc,simprocAttr]
 refine .done (hK _ ?_);clear hK K;try simp only[ay]
 refine U.bM ?_
 simp only[ao,ab,simprocAttr]
 refine ⟨fun h =>?_,fun h =>?_⟩
 rotate_left
 ·cases h
 refine U.skip ?_;try simp only[ay,simprocAttr]
 refine U.block (U.seq ?_)
 refine .bP (by decide +kernel) fun K hK =>?_
 simp only[Fs,ab,simprocAttr]
 try simp only[w1,simprocAttr]
 refine .done (hK _ ?_);clear hK K;try simp only[ay]
 refine U.seq (U.block (U.loop (fun s:Nat×List Int=>av [(0,.view 1000000 [] 1 0 xs.length),(1,.int .i64 xs.length),(2,.func 138 [.ref (enc el)]),(6,.int .i64 bs),(7,.int .i64 ((s.1*(2*bs):Nat):Int)),(8,.int .i64 (((s.1+1)*(2*bs):Nat):Int))] (cu 1000000 (s.2++d1.drop (s.1*(2*bs))++q)))
  (fun s=>s.1*(2*bs)≤xs.length∧lG el (2*bs) (xs.take (s.1*(2*bs))) s.2) (fun s=>xs.length-s.1*(2*bs)) (0,[]) ⟨by simp,by simp only[Nat.zero_mul,List.take_zero];exact yY el _⟩ ?_ ?_))
 ·simp only[Nat.zero_mul,Nat.zero_add,Nat.one_mul,List.drop_zero,List.nil_append]
  refine aI.c7 ?_ (fun n=>rfl)
  simp[bd,bh]
 rintro ⟨aq,e⟩ ⟨q1,q2⟩
 simp only at q1 q2 ⊢
 obtain ⟨A,hA⟩:∃ A,A=aq*(2*bs):=⟨_,rfl⟩
 have hA1:(aq+1)*(2*bs)=A+2*bs:=by rw[hA,Nat.add_mul];omega
 have hA2:2*aq*bs=A:=by rw[hA,Nat.mul_comm 2 aq,Nat.mul_assoc]
 have hA3:(2*aq+1)*bs=A+bs:=by rw[Nat.add_mul,hA2];omega
 have hA4:(2*aq+1+1)*bs=A+2*bs:=by rw[Nat.add_mul,hA3];omega
 have ht:(xs.take A).length=A:=by rw[List.length_take,hA];omega
 have hel2:e.length=A:=by rw[←q2.1,←hA,ht]
 obtain ⟨kl1,kl2⟩:=g3.2 (2*aq)
 obtain ⟨kr1,kr2⟩:=g3.2 (2*aq+1)
 have hlt2:=Ta hx bs aq
 have hd2:d1.drop A=dy d1 bs (2*aq)++d1.drop (A+bs):=by
  have:=pU d1 bs (2*aq)
  rwa [hA2,hA3] at this
 have hd3:d1.drop (A+bs)=dy d1 bs (2*aq+1)++d1.drop (A+2*bs):=by
  have:=pU d1 bs (2*aq+1)
  rwa [hA3,hA4] at this
 have hlr:∀ x∈dy d1 bs (2*aq),∀ y∈dy d1 bs (2*aq+1),x<y:=fun x h1 y h2=>hlt2 x (kl1.mem_iff.1 h1) y (kr1.mem_iff.1 h2)
 have hin:∀ x∈dy d1 bs (2*aq)++dy d1 bs (2*aq+1),je el x:=fun x h1=>by
  rcases List.mem_append.1 h1 with h1 | h1
  ·exact hS x (uI (kl1.mem_iff.1 h1))
  ·exact hS x (uI (kr1.mem_iff.1 h1))
 rw[hA1]
 rw[←hA] at q1 q2 ⊢
 by_cases hb2:A+2*bs≤xs.length
 ·have hc2:=Il hb2
  have w2:=j7 A bs (by omega)
  have w3:IntKind.i64.wrap (((A+2*bs:Nat):Int)+((2*bs:Nat):Int))=((A+2*bs+2*bs:Nat):Int):=j7 _ _ (by omega)
  have ll:(dy d1 bs (2*aq)).length=bs:=pT (by rw[hA3];omega)
  have lr:(dy d1 bs (2*aq+1)).length=bs:=pT (by rw[hA4];omega)
  have hm:=yQ el hd hel _ e (dy d1 bs (2*aq)) (dy d1 bs (2*aq+1)) (d1.drop (A+2*bs)++q) A (A+bs) (A+2*bs) xs.length (Nat.le_refl _) (by omega) (by omega) hel2 (by omega) (by omega) hb2 (by simp only[List.length_append,List.length_drop];omega) (by omega) kl2 kr2 hlr hin
  have e1:e++dy d1 bs (2*aq)++dy d1 bs (2*aq+1)++(d1.drop (A+2*bs)++q)=e++d1.drop A++q:=by rw[hd2,hd3];simp only[List.append_assoc]
  rw[e1] at hm
  have R:=And.intro @hc2 (And.intro @w2 (And.intro @aP @ab))
  repeat' ((first
   |(with_reducible refine .guard (fun hb =>?_) (fun hb =>?_) <;>try simp only[hb])
   |refine U.aL (by decide +kernel) rfl fun K hK =>?_
   |(refine .aF [0,1,2,6,7,8,9,13,30,35,54] hK ?_;clear hK K)
   |(with_reducible refine .done (hK _ ?_);clear hK K)
   |refine U.of rfl ?_
   |(with_reducible refine ao.aK (fun h =>?_) (fun h =>?_) <;>try simp only[h])) <;>try simp only[aM,R,simprocAttr])
  all_goals clear R
  refine a6.kA hm (kb _ xs.length 138 [.ref (enc el)] hcl [_,_,_]) ?_
  rintro eS os' ⟨rfl,s',k1,k2,rfl⟩
  refine ⟨_,rfl,rfl,?_⟩
  try simp only[ab,simprocAttr]
  refine .done (hK _ ?_);clear hK K;try simp only[ay]
  have R:=And.intro @w1 (And.intro @w3 (And.intro @aP @ab))
  repeat' ((first
   |(with_reducible refine .guard (fun hb =>?_) (fun hb =>?_) <;>try simp only[hb])
   |refine U.aL (by decide +kernel) rfl fun K hK =>?_
   |(refine .aF [0,1,2,6,7,8,9,13,30,35,54] hK ?_;clear hK K)
   |(with_reducible refine .done (hK _ ?_);clear hK K)
   |refine U.of rfl ?_
   |(with_reducible refine ao.aK (fun h =>?_) (fun h =>?_) <;>try simp only[h])) <;>try simp only[aM,R,simprocAttr])
  all_goals clear R
  refine ⟨(aq+1,e++s'),⟨by simp only;omega,?_⟩,by simp only;omega,?_⟩
  ·simp only
   rw[Mj,←hA]
   refine rm q2 (ht.trans hA) (k1.trans ?_) k2 (by rw[pT (by omega)];omega)
   rw[BJ]
   exact kl1.append kr1
  ·have e2:(aq+1+1)*(2*bs)=A+2*bs+2*bs:=by rw[Nat.add_mul,hA1];omega
   simp only[hA1,e2,←List.append_assoc]
   refine aI.c7 ?_ (fun n=>rfl)
   simp[bd,bh]
 have hc2:=IJ hb2
 refine U.seq (U.seq ?_)
 refine .bP (by decide +kernel) fun K hK =>?_
 simp only[Ft,ab,simprocAttr]
 try simp only[hc2,simprocAttr]
 refine .done (hK _ ?_);clear hK K;try simp only[ay]
 refine U.bM ?_
 simp only[ao,ab,simprocAttr]
 refine ⟨fun h =>?_,fun h =>?_⟩
 ·cases h
 refine U.exit ?_;try simp only[ay,cg,simprocAttr]
 have w2:=j7 A bs (by omega)
 have w4:=aj0 (x:=bs) (by omega)
 have bp:∀ s',s'.Perm (xs.drop A)→df el s'→lG el (2*bs) xs (e++s'):=fun s' k1 k2=>by
  have:=rm q2 (ht.trans hA) k1 k2 (by rw[List.length_drop];omega)
  rwa [List.take_append_drop] at this
 have hx1:xs.drop A=dy xs bs (2*aq)++xs.drop (A+bs):=by
  have:=pU xs bs (2*aq)
  rwa [hA2,hA3] at this
 have hx2:xs.drop (A+bs)=dy xs bs (2*aq+1)++xs.drop (A+2*bs):=by
  have:=pU xs bs (2*aq+1)
  rwa [hA3,hA4] at this
 by_cases hb3:A+bs<xs.length
 ·have hc3:=fY hb3
  have ll:(dy d1 bs (2*aq)).length=bs:=pT (by rw[hA3];omega)
  have hdn:d1.drop (A+2*bs)=[]:=List.drop_eq_nil_of_le (by omega)
  have hxn:xs.drop (A+2*bs)=[]:=List.drop_eq_nil_of_le (by omega)
  have lr:(dy d1 bs (2*aq+1)).length=xs.length-(A+bs):=by
   have:=congrArg List.length hd3
   rw[hdn,List.append_nil,List.length_drop] at this
   omega
  have hm:=yQ el hd hel _ e (dy d1 bs (2*aq)) (dy d1 bs (2*aq+1)) q A (A+bs) xs.length xs.length (Nat.le_refl _) (by omega) (by omega) hel2 (by omega) (by omega) (Nat.le_refl _) (by simp only[List.length_append];omega) (by omega) kl2 kr2 hlr hin
  have e1:e++dy d1 bs (2*aq)++dy d1 bs (2*aq+1)++q=e++d1.drop A++q:=by rw[hd2,hd3,hdn];simp only[List.append_assoc,List.append_nil]
  rw[e1] at hm
  have R:=And.intro @hc3 (And.intro @w2 (And.intro @aP @ab))
  repeat' ((first
   |(with_reducible refine .guard (fun hb =>?_) (fun hb =>?_) <;>try simp only[hb])
   |refine U.aL (by decide +kernel) rfl fun K hK =>?_
   |(refine .aF [0,1,2,6,7,8,9,13,30,35,54] hK ?_;clear hK K)
   |(with_reducible refine .done (hK _ ?_);clear hK K)
   |refine U.of rfl ?_
   |(with_reducible refine ao.aK (fun h =>?_) (fun h =>?_) <;>try simp only[h])) <;>try simp only[aM,R,simprocAttr])
  all_goals clear R
  refine a6.kA hm (kb _ xs.length 138 [.ref (enc el)] hcl [_,_,_]) ?_
  rintro eS os' ⟨rfl,s',k1,k2,rfl⟩
  refine ⟨_,rfl,rfl,?_⟩
  try simp only[ab,simprocAttr]
  refine .done (hK _ ?_);clear hK K;try simp only[ay]
  have R:=And.intro @w4 (And.intro @aP @ab)
  repeat' ((first
   |(with_reducible refine .guard (fun hb =>?_) (fun hb =>?_) <;>try simp only[hb])
   |refine U.aL (by decide +kernel) rfl fun K hK =>?_
   |(refine .aF [0,1,2,6,7,8,9,13,30,35,54] hK ?_;clear hK K)
   |(with_reducible refine .done (hK _ ?_);clear hK K)
   |refine U.of rfl ?_
   |(with_reducible refine ao.aK (fun h =>?_) (fun h =>?_) <;>try simp only[h])) <;>try simp only[aM,R,simprocAttr])
  all_goals clear R
  refine ⟨⟨2*bs,e++s'⟩,⟨by simp only;omega,by simp only;omega,bp s' (k1.trans ?_) k2⟩,by simp only;omega,?_⟩
  ·rw[hx1,hx2,hxn,List.append_nil]
   exact kl1.append kr1
  ·refine aI.c7 ?_ (fun n=>rfl)
   simp[bd,bh]
 ·have hc3:=gp hb3
  have hdn:d1.drop (A+bs)=[]:=List.drop_eq_nil_of_le (by omega)
  have hxn:xs.drop (A+bs)=[]:=List.drop_eq_nil_of_le (by omega)
  rw[hdn,List.append_nil] at hd2
  rw[hxn,List.append_nil] at hx1
  have R:=And.intro @hc3 (And.intro @w2 (And.intro @w4 (And.intro @aP @ab)))
  repeat' ((first
   |(with_reducible refine .guard (fun hb =>?_) (fun hb =>?_) <;>try simp only[hb])
   |refine U.aL (by decide +kernel) rfl fun K hK =>?_
   |(refine .aF [0,1,2,6,7,8,9,13,30,35,54] hK ?_;clear hK K)
   |(with_reducible refine .done (hK _ ?_);clear hK K)
   |refine U.of rfl ?_
   |(with_reducible refine ao.aK (fun h =>?_) (fun h =>?_) <;>try simp only[h])) <;>try simp only[aM,R,simprocAttr])
  all_goals clear R
  refine ⟨⟨2*bs,e++d1.drop A⟩,⟨by simp only;omega,by simp only;omega,bp _ (by rw[hd2,hx1];exact kl1) (by rw[hd2];exact kl2)⟩,by simp only;omega,?_⟩
  refine aI.c7 ?_ (fun n=>rfl)
  simp[bd,bh]
theorem MP(el:List ak)(hd:lK el)(hel:el.length≤60)(xs q:List Int)(hx:xs.Pairwise (· < ·))(hS:∀ x∈xs,je el x)(hn:xs.length≤60) :
  cA Tryz.prog 137 [.view 1000000 [] 1 0 xs.length,.func 138 [.ref (enc el)]] (cu 1000000 (xs++q)) (mu el [] xs q):=by
 refine cA.bn Tryz.func137 Bu BD BO (Nat.le_of_ble_eq_true rfl) (Nat.le_of_ble_eq_true rfl) m4 (fun hwf W0 D0 E1 =>?_)
 simp only[uu,xO,bg,Nat.zero_add]
 clear hwf
 refine .bP (by decide +kernel) fun K hK =>?_
 simp only[DP,ab,simprocAttr]
 try simp only[c9,ab,simprocAttr]
 refine a6.kA (M9 el hd hel xs q hx hS hn) (kb _ xs.length 138 [.ref (enc el)] (by simp[I.bV,I.bu,dO]) [_]) ?_
 rintro eS os' ⟨rfl,s',k1,k2,rfl⟩
 refine ⟨_,rfl,rfl,?_⟩
 try simp only[ab,simprocAttr]
 refine .done (hK _ ?_)
 clear hK K
 rw[ly]
 exact mZ rfl rfl ⟨rfl,s',k1,k2,rfl⟩
def iU(l:List ak)(day:Int)(xs:List Int):List (Nat×ai):=[(1000008,.box (.own 1000080 xs.length)),(1000080,.cU 3 xs),(1000003,.box (enc l)),(1000004,.box (enc day))]
theorem ajz(l:List ak)(day:Int)(xs ys:List Int):fk (iU l day xs) (iU l day ys):=by
 refine ⟨fun n=>by simp only[iU,au,al];(repeat' split) <;>rfl,fun n x h =>?_,fun n h =>?_⟩
 ·simp only[iU,al] at h
  repeat' split at h
  all_goals first | (cases h;done) | (simp only[Option.some.injEq] at h;subst h;exact ⟨by simp[iU,au,al,ai.only,bG,I.only],rfl⟩)
 ·simp only[iU,au,al] at h
  repeat' split at h
  all_goals first | omega | (simp at h;done)
def qe(l:List ak)(day:Int)(i:Nat):Bool:=decide ((ae l i).kind≠0)&&decide ((ae l i).day≤day)
def kS(l:List ak)(day known:Int)(k:Nat):List Nat:=((gQ l known).take k).filter (qe l day)
theorem Wz{l:List ak}{day known:Int}{k:Nat}(hk:k<(gQ l known).length):kS l day known (k+1)=kS l day known k++(if qe l day ((gQ l known).getD k 0) then [(gQ l known).getD k 0] else []):=by
 have e:(gQ l known).getD k 0=(gQ l known)[k]:=by rw[List.getD_eq_getElem?_getD,List.getElem?_eq_getElem hk];rfl
 simp only[kS]
 rw[List.take_succ_eq_append_getElem hk,List.filter_append,e]
 simp only[List.filter_cons,List.filter_nil]
theorem Wx(l:List ak)(day known:Int):kS l day known (gQ l known).length=jM l day known:=by
 simp only[kS,List.take_length];rfl
theorem Wy(l:List ak)(day known:Int)(k:Nat):(kS l day known k).length≤l.length:=by
 have h1:=List.length_filter_le (qe l day) ((gQ l known).take k)
 have h2:((gQ l known).take k).length≤(gQ l known).length:=by rw[List.length_take];omega
 have h3:(gQ l known).length≤l.length:=by
  have:=List.length_filter_le (fun i=>(kD l known).getD i false) (List.range l.length)
  rwa [List.length_range] at this
 exact Nat.le_trans h1 (Nat.le_trans h2 h3)
theorem ajy:(∀ (A:af) n b m k m' k' rest,dY A none n [] b (.own m k) rest (some (.own m' k'))=aC rest (A.aR n (.box (.own m k)))) :=
 fun _ _ _ m k m' k' _=>by rw[fq (s:=none) (v:=.own m k) (old:=.own m' k') rfl rfl rfl,gh]
theorem Mf:(∀ n k,fx n k (.own n k)=.view n [] 1 0 k)∧(∀ n k m p,fx n k (.ptr m p)=.ptr m p)∧(∀ n k z,fx n k (.nils z)=.nils z)∧(∀ {α:Type} [Enc α] n k (x:α),fx n k (enc x)=enc x)∧(∀ n k i (x:Int),fx n k (.int i x)=.int i x)∧(∀ n k f xs,fx n k (.func f xs)=.func f xs)∧(∀ n k ks vs,fx n k (.cS ks vs)=.cS ks vs)∧(∀ n k b,fx n k (.bool b)=.bool b) ∧
  (∀ n,fw n (.own n 0)=.nils 1)∧(∀ n m p,fw n (.ptr m p)=.ptr m p)∧(∀ n z,fw n (.nils z)=.nils z)∧(∀ {α:Type} [Enc α] n (x:α),fw n (enc x)=enc x)∧(∀ n i (x:Int),fw n (.int i x)=.int i x)∧(∀ n f xs,fw n (.func f xs)=.func f xs)∧(∀ n ks vs,fw n (.cS ks vs)=.cS ks vs)∧(∀ n b,fw n (.bool b)=.bool b) ∧
  (∀ f v,iw f (.box v)=.box (f v))∧(∀ f T xs,iw f (.cU T xs)=.cU T xs)∧(∀ f ks vs,iw f (.ct ks vs)=.ct ks vs) :=
 ⟨fun _ _=>by simp[fx],fun _ _ _ _=>rfl,fun _ _ _=>rfl,fun _ _ x=>qN (bG _ x),fun _ _ _ _=>rfl,fun _ _ _ _=>rfl,fun _ _ _ _=>rfl,fun _ _ _=>rfl,fun _=>by simp[fw],fun _ _ _=>rfl,fun _ _=>rfl,fun _ x=>yl (bG _ x),fun _ _ _=>rfl,fun _ _ _=>rfl,fun _ _ _=>rfl,fun _ _=>rfl,fun _ _=>rfl,fun _ _ _=>rfl,fun _ _ _=>rfl⟩
theorem rf(l:List ak)(day known:Int)(hok:c6 l=true):az Tryz.prog 88 [enc l,enc day,enc known] (qx l day known):=by
 have hl:=jE hok
 have hd:lK l:=fun i hi=>ahM (xr hok hi)
 refine az.bn Tryz.func88 Q2 S2 Vc (Nat.le_of_ble_eq_true rfl) (fun hwf W0 D0 E1 =>?_)
 simp only[Bl,Ld,bg,Nat.zero_add,Nat.reduceAdd]
 clear hwf
 refine .ar (by decide +kernel) fun K hK =>?_
 simp only[HB,ab,simprocAttr]
 refine .done (hK _ ?_);clear hK K
 refine .ar (by decide +kernel) fun K hK =>?_
 simp only[HC,ab,simprocAttr]
 refine .done (hK _ ?_);clear hK K
 refine U.seq (U.seq ?_)
 refine .bP (by decide +kernel) fun K hK =>?_
 simp only[HI,ab,simprocAttr]
 try simp only[eK,aP,ab,simprocAttr]
 refine .lead _ (MC l known hl) ?_
 try simp only[ab,simprocAttr]
 refine .done (hK _ ?_);clear hK K;try simp only[ay]
 refine U.sub (aI.Of 8 80 3 1 [] _ rfl rfl rfl (B:=av [(3,.ptr 3 []),(4,.ptr 4 []),(8,.ptr 8 []),(9,.nils 1),(17,.func 146 [.ref (enc l),.ref (enc (kD l known))])] [(8,.box (.own 80 0)),(80,.cU 3 []),(3,.box (enc l)),(4,.box (enc day))]) ?_) ?_
 ·simp only[gh]
  refine aI.b9 ?_ ?_ ?_ ?_ <;>simp[bd,bT,bS,bD,au,bh,cI,I.only,I.bU,ai.only,bG,jN]
 refine U.block (U.kz (osb0:=iU l day []) (tsR:=[(3,.ptr 1000003 []),(4,.ptr 1000004 []),(8,.ptr 1000008 [])]) (ρ:=[(1999999,999999),(1000003,3),(1000004,4),(1000008,8),(1000080,80)])
  (fun k os=>os=iU l day (dw (kS l day known k)))
  (fun _ _=>False)
  rfl (Nat.le_of_ble_eq_true rfl) (by simp only[ab,simprocAttr]) (by simp[I.bV,I.bu,dO]) Bv (MT l (kD l known) hl (ajD l known)) (fun _=>rfl) rfl rfl rfl (fun o=>⟨?_,?_⟩) ?_ ?_ ?_ ?_ ?_ ?_ ?_)
 ·intro n x hx
  simp only[dE,iU,al] at hx
  repeat' split at hx
  all_goals first | (cases hx;done) | (subst_vars;simp only[Option.some.injEq] at hx;subst hx;simp[dE,iU,au,bF,al,ai.aS,I.aS,gL,ai.only,I.only,bG,ai.eC,jN])
 ·intro a b ha hb
  simp only[dE,iU,au,al] at ha hb
  repeat' split at ha
  all_goals first | (simp at ha;done) | skip
  all_goals (repeat' split at hb)
  all_goals first | (simp at hb;done) | (subst_vars;simp[bF])
 ·simp[mq,bh,I.aS,bF,I.only,iU,au,al]
 ·rintro k os rfl;exact ajz ..
 ·rintro e os h;exact h.elim
 ·simp[iU,kS,dw]
 ·rintro k osb hk rfl W1 D1 E1 agi o1 o2
  have hk':k<(gQ l known).length:=hk
  have hdl:=Wy l day known k
  have hsu:=Wz (day:=day) hk'
  generalize kS l day known k=dk at hsu hdl ⊢
  obtain ⟨i,hi⟩:∃ i,i=(gQ l known).getD k 0:=⟨_,rfl⟩
  have hil:i<l.length:=by
   rw[hi,List.getD_eq_getElem?_getD,List.getElem?_eq_getElem hk']
   exact Mb (List.getElem_mem hk')
  have hit:((iW (fun i=>(kD l known).getD i false) l.length).getD k 0)=i:=hi.symm
  rw[←hi] at hsu
  have he:=gv hil
  simp only[hit,qA,dE,iU]
  have R:=And.intro @aP @ab
  repeat' ((first
   |(with_reducible refine .guard (fun hb =>?_) (fun hb =>?_) <;>try simp only[hb])
   |refine U.aL (by decide +kernel) rfl fun K hK =>?_
   |(refine .aF [0,1,2,3,4,6,7,8,9,10,11,12,14,17,18,33,45,46,47,48,64] hK ?_;clear hK K)
   |(with_reducible refine .done (hK _ ?_);clear hK K)
   |refine U.of rfl ?_
   |(with_reducible refine ao.aK (fun h =>?_) (fun h =>?_) <;>try simp only[h])) <;>try simp only[aM,R,simprocAttr])
  all_goals clear R
  refine ⟨by simp[],?_⟩
  have hap:=fun (A:af) d rest=>uh (A:=A) (d:=d) (e:=3) (bytes:=8) (n:=1000080) (l:=(dw dk).length) (xs:=dw dk) (y:=(i:Int)) (rest:=rest) rfl (by simp[dw,maxLen];omega) (by simp[dw];omega)
  rcases h1:((ae l i).kind != 0) <;>rcases h2:decide ((ae l i).day≤day)
  all_goals
   have R:=And.intro @h1 (And.intro @h2 (And.intro @he (And.intro @hap (And.intro @eK (And.intro @ajy (And.intro @ew (And.intro @bI (And.intro @aP @ab))))))))
   repeat' ((first
    |(with_reducible refine .guard (fun hb =>?_) (fun hb =>?_) <;>try simp only[hb])
    |refine U.aL (by decide +kernel) rfl fun K hK =>?_
    |(refine .aF [0,1,2,3,4,6,7,8,9,10,11,12,14,17,18,33,45,46,47,48,64] hK ?_;clear hK K)
    |(with_reducible refine .done (hK _ ?_);clear hK K)
    |refine U.of rfl ?_
    |(with_reducible refine ao.aK (fun h =>?_) (fun h =>?_) <;>try simp only[h])) <;>try simp only[aM,R,simprocAttr])
   all_goals clear R
  all_goals
   have hdue:qe l day i=(((ae l i).kind != 0)&&decide ((ae l i).day≤day)):=by simp only[qe,bne,ne_eq,decide_not];rfl
   rw[h1,h2] at hdue
   rw[hdue] at hsu
   refine ⟨_,?_,rfl⟩
   rw[hsu]
   intro n x hx
   simp only[dE,al,if_true,Bool.false_eq_true,Bool.and_self,Bool.and_true,Bool.and_false,if_false,List.append_nil] at hx
   (repeat' split at hx) <;>first
    |(cases hx;done)
    |(subst_vars;simp only[Option.some.injEq] at hx;subst hx;simp[dE,au,av,al,ai.only,I.only,bG,ai.eC,dw])
 ·rintro os rfl
  have eN:kS l day known (iW (fun i=>(kD l known).getD i false) l.length).length=jM l day known:=Wx l day known
  simp only[eN,iU,dF,List.map_cons,List.map_nil,bF,ai.aS,I.aS,gL,ay,cg,reduceIte,Nat.reduceEqDiff,List.cons_append,List.nil_append]
  refine U.sub (B:=av [(3,.ptr 3 []),(8,.ptr 8 []),(9,.nils 1)] [(8,.box (.own 80 (kR l day known).length)),(80,.cU 3 (kR l day known)),(3,.box (enc l))]) ?_ ?_
  ·refine aI.b9 ?_ ?_ ?_ ?_ <;>simp[*,bd,bT,bS,bD,au,bh,cI,I.only,ai.only,bG,jN,kR]
  have hlen:(kR l day known).length≤60:=by simp only[kR,dw,List.length_map];exact Nat.le_trans (uU l day known) hl
  have hris:=Ww l day known
  have hin:=Wv (l:=l) (day:=day) (known:=known)
  have heq:=fun s=>aid (l:=l) (day:=day) (known:=known) (s:=s)
  generalize kR l day known=xs at hlen hris hin heq ⊢
  by_cases hx0:xs=[]
  ·subst hx0
   have ho0:pj l day known=[]:=(heq [] (List.Perm.refl _) List.Pairwise.nil).symm
   refine U.sub (aI.Ml (n:=80) (T:=3) rfl (B:=av [(3,.ptr 3 []),(8,.ptr 8 []),(9,.nils 1)] [(8,.box (.nils 1)),(3,.box (enc l))]) ?_) ?_
   ·simp only[List.map_cons,List.map_nil,Mf,List.length_nil]
    refine aI.b9 ?_ ?_ ?_ ?_ <;>simp[bd,bT,bS,bD,au,bh,cI,I.only,ai.only,bG]
   refine .ar (by decide +kernel) fun K hK =>?_
   simp only[vY,ab,simprocAttr]
   try simp only[o5,hZ,ab,simprocAttr]
   refine .flat _ (MQ l) rfl ?_
   try simp only[ab,simprocAttr]
   refine .done (hK _ ?_);clear hK K
   refine .ar (by decide +kernel) fun K hK =>?_
   simp only[vZ,ab,simprocAttr]
   try simp only[ew,ab,simprocAttr]
   refine .done (hK _ ?_);clear hK K
   refine .ar (by decide +kernel) fun K hK =>?_
   simp only[wa,ab,simprocAttr]
   refine .lead _ yE ?_
   try simp only[ab,simprocAttr]
   refine .done (hK _ ?_);clear hK K
   refine U.seq (U.seq ?_)
   refine .bP (by decide +kernel) fun K hK =>?_
   simp only[wb,ab,simprocAttr]
   try simp only[eK,c9,bI,ew,ab,simprocAttr]
   refine .done (hK _ ?_);clear hK K;try simp only[ay]
   have hF:=yT l day known hok (W0:=W0) (D0:=D0) (E1:=E1)
   rw[ho0] at hF
   refine U.sub (aI.nt [8] 45 (x:=.nils 1) (y:=enc ([]:List Int)) rfl (by rfl) ?_ ?_ ?_ ?_ ?_) hF
   ·simp[c4,bD,ai.only,I.only,I.bU,bG]
   ·simp[bd,fW,bh,I.only,I.bU,kg]
   ·simp[bT,c4,al]
   ·simp[bS,au,al,I.only,I.bU,bG,kg]
   ·simp[bD,au,al,ai.only,I.only,I.bU,bG]
  ·refine U.Mk (n:=80) rfl hx0 (by omega) (sX (by simp[mX,I.only])) ?_ (fun q =>?_)
   ·intro m y hy hm
    simp only[al] at hy
    repeat' split at hy
    all_goals first | (cases hy;done) | (exact absurd (by assumption) hm) | (simp only[Option.some.injEq] at hy;subst hy;first | exact .inl rfl | exact .inr (by simp[ai.only,bG]))
   simp only[List.map_cons,List.map_nil,Mf]
   refine .ar (by decide +kernel) fun K hK =>?_
   simp only[vY,ab,simprocAttr]
   try simp only[eK,o5,hZ,ab,simprocAttr]
   refine .bQ true [(1000000,80)] (cu 1000000 (xs++List.replicate q 0)) [.view 1000000 [] 1 0 xs.length,.func 138 [.ref (enc l)]] _ rfl (MP l hd hl xs _ hris hin hlen) ?_ ?_ ?_ ?_
   ·refine ⟨fun m y hy =>?_,fun m m' h h' _=>by rw[cV.1 h,cV.1 h']⟩
    simp only[cu,al] at hy
    split at hy
    ·rename_i hm
     cases hy
     subst hm
     exact ⟨by simp only[bF,if_true,al,ai.aS,I.aS,fS],nF _ _,rfl⟩
    ·cases hy
   ·refine ⟨.inl ⟨by simp[I.aS,bF],cV.2 rfl,rfl⟩,.inr ?_,trivial⟩
    simp[bp,bY,cv,av,c4,jD,cu,bF,al,dO,oD]
   ·rintro eS os' ⟨rfl,s',k1,k2,rfl⟩
    refine ⟨fun m y hy =>?_,fun m m' h h' _=>by rw[cV.1 h,cV.1 h'],fun m hm=>by rw[cV.1 hm];exact cV.2 rfl,fun m a b=>by rw[cV.1 a] at b;simp[cu,au,al] at b,rfl,fun _=>rfl⟩
    simp only[cu,al] at hy
    split at hy
    ·cases hy;exact ⟨nF _ _,rfl,fun _=>agy _⟩
    ·cases hy
   ·rintro eS os' ⟨rfl,s',k1,k2,rfl⟩
    have hs':=heq s' k1 k2
    have hsl:xs.length=s'.length:=k1.length_eq.symm
    try simp only[cu,dF,List.map_cons,List.map_nil,ai.aS,I.aS,fS,bF,reduceIte,List.cons_append,List.nil_append,I.cW,ab,simprocAttr]
    refine .done (hK _ ?_);clear hK K
    refine .ar (by decide +kernel) fun K hK =>?_
    simp only[vZ,ab,simprocAttr]
    try simp only[ew,ab,simprocAttr]
    refine .done (hK _ ?_);clear hK K
    refine .ar (by decide +kernel) fun K hK =>?_
    simp only[wa,ab,simprocAttr]
    refine .lead _ yE ?_
    try simp only[ab,simprocAttr]
    refine .done (hK _ ?_);clear hK K
    refine U.seq (U.seq ?_)
    refine .bP (by decide +kernel) fun K hK =>?_
    simp only[wb,ab,simprocAttr]
    try simp only[eK,c9,ab,simprocAttr]
    refine .done (hK _ ?_);clear hK K;try simp only[ay]
    have hF:=yT l day known hok (W0:=W0) (D0:=D0) (E1:=E1)
    rw[←hs'] at hF
    refine U.sub (aI.nt [80,8] 45 (x:=.view 80 [] 1 0 xs.length) (y:=enc s') rfl ?_ ?_ ?_ ?_ ?_ ?_) hF
    ·have:al (iJ [80,8] [(43,ai.box (I.agg ([I.raw (Value.map none)].set 0 (I.mref 41)))),(41,ai.ct [] []),(80,ai.box (I.agg ((s'++List.replicate q 0).map enc))),(80,ai.box (I.agg ((xs++List.replicate q 0).map enc))),(8,ai.box (I.view 80 [] 1 0 xs.length)),(80,ai.cU 3 xs),(3,ai.box (enc l))]) 80=some (.box (.agg ((s'++List.replicate q 0).map enc))):=by
      rw[nE];simp[al]
     try simp only[this,ab,simprocAttr]
     exact Cr hsl.symm
    ·simp[c4,bD,ai.only,I.only,I.bU,bG]
    ·simp[bd,fW,bh,I.only,I.bU,kg,hsl]
    ·simp[bT,c4,al]
    ·simp[bS,au,al,I.only,I.bU,bG,kg]
    ·simp[bD,au,al,ai.only,I.only,I.bU,bG]
 ·rintro e os h;exact h.elim
theorem MJ(n:Int):az Tryz.prog 126 [enc n] (enc (!b6 0 100000 n)):=by
 refine az.bn Tryz.func126 PC Rz TJ (Nat.le_of_ble_eq_true rfl) (fun hwf W0 D0 E1 =>?_)
 simp only[zL,JM,bg]
 have R:=And.intro @aP @ab
 repeat' ((first
  |(with_reducible refine .guard (fun hb =>?_) (fun hb =>?_) <;>try simp only[hb])
  |refine U.aL (by decide +kernel) rfl fun K hK =>?_
  |refine .flat _ (tV _) rfl ?_
  |(refine .aF [0,2] hK ?_;clear hK K)
  |(with_reducible refine .done (hK _ ?_);clear hK K)
  |refine U.of rfl ?_
  |(with_reducible refine ao.aK (fun h =>?_) (fun h =>?_) <;>try simp only[h])) <;>try simp only[aM,R,simprocAttr])
 all_goals clear R
abbrev j9:=bL 2 Int
def fo(a b:Int):j9:=⟨[a,b],rfl⟩
def fN(l:List ak)(ns:List j9)(ds:List Int):Int:=if c6 l then (if ns.all (fun n=>b6 1 (n.g 1) (n.g 0)) then (if ds.any (fun d => !b6 0 100000 d) then 6 else 0) else 1) else 41
theorem L6{A:af}{n:Nat}{b:I}{x:j9}{aq v:Int}{rest:List aB} : dY A (some 2) n [] b (enc x) rest (some (.agg [.int .i64 aq,.int .i64 v]))=aC rest (A.aR n (.box (enc x))):=by
 have:=fq (A:=A) (n:=n) (p:=[]) (b:=b) (v:=enc x) (old:=.agg [.int .i64 aq,.int .i64 v]) (rest:=rest) (s:=some 2) (dz _) (by rw[gK];rfl) (fm x)
 rw[this,gh]
theorem It :
  (∀ (x:j9) y,iG (0:Int) 2 (iF 2 1 (x.l.map enc) y)=y)∧(∀ (x:j9) y,iG (1:Int) 2 (iF 2 1 (x.l.map enc) y)=y)∧(∀ x:j9,(x.l.map (enc (α:=Int)))[0]?=some (I.int .i64 (x.g 0)))∧(∀ x:j9,(x.l.map (enc (α:=Int)))[1]?=some (I.int .i64 (x.g 1))) ∧
  (∀ x:j9,(enc x:I).du=some (x.l.map enc))∧(∀ x:j9,bZ (some 2) (enc x)=true)∧((0:Int).toNat=0)∧((1:Int).toNat=1) :=
 ⟨fun x y=>wG 1 x (by decide) rfl,fun x y=>wG 1 x (by decide) rfl,fun x=>sf x (by decide),fun x=>sf x (by decide),fun _=>rfl,fun x=>by rw[gK];rfl,rfl,rfl⟩
theorem pH(l:List ak)(ns:List j9)(ds:List Int):az Tryz.prog 67 [enc l,enc ns,enc ds] (enc (fN l ns ds)):=by
 refine az.bn Tryz.func67 QP SP U0 (Nat.le_of_ble_eq_true rfl) (fun hwf W0 D0 E1 =>?_)
 simp only[A9,K1,bg,Nat.zero_add,Nat.reduceAdd]
 have hnl:ns.length≤maxLen:=((j6 ns).1 hwf.2.1).1
 simp only[maxLen] at hnl
 have hF64:=oi l
 simp only[fN]
 rcases hok:c6 l
 ·rw[hok,if_neg (by decide)] at hF64
  have R:=And.intro @hok (And.intro @bI (And.intro @aP @ab))
  repeat' ((first
   |(with_reducible refine .guard (fun hb =>?_) (fun hb =>?_) <;>try simp only[hb])
   |refine U.aL (by decide +kernel) rfl fun K hK =>?_
   |refine .flat _ (hF64) rfl ?_
   |(refine .aF [0,1,2,6,7,9,13,15,16,17,18,26,29] hK ?_;clear hK K)
   |(with_reducible refine .done (hK _ ?_);clear hK K)
   |refine U.of rfl ?_
   |(with_reducible refine ao.aK (fun h =>?_) (fun h =>?_) <;>try simp only[h])) <;>try simp only[aM,R,simprocAttr])
  all_goals clear R
 rw[hok,if_pos rfl] at hF64
 have R:=And.intro @hok (And.intro @bI (And.intro @aP @ab))
 repeat' ((first
  |(with_reducible refine .guard (fun hb =>?_) (fun hb =>?_) <;>try simp only[hb])
  |refine U.aL (by decide +kernel) rfl fun K hK =>?_
  |refine .flat _ (hF64) rfl ?_
  |(refine .aF [0,1,2,6,7,9,13,15,16,17,18,26,29] hK ?_;clear hK K)
  |(with_reducible refine .done (hK _ ?_);clear hK K)
  |refine U.of rfl ?_
  |(with_reducible refine ao.aK (fun h =>?_) (fun h =>?_) <;>try simp only[h])) <;>try simp only[aM,R,simprocAttr])
 all_goals clear R
 refine U.loop (fun i:Nat=>av [(2,enc ds),(15,enc ns),(16,.int .i64 ns.length),(17,.int .i64 i)] []) (fun i=>i≤ns.length∧∀ k,(h:k<ns.length)→k<i→b6 1 ((ns[k]).g 1) ((ns[k]).g 0)=true) (fun i=>ns.length-i) 0 ⟨Nat.zero_le _,fun k _ hk=>by omega⟩ ?_ (fun i hi =>?_)
 ·refine aI.b9 ?_ ?_ ?_ ?_ <;>simp[bd,bT,bS,bD,bh,I.only,bG]
 obtain ⟨hi1,hi2⟩:=hi
 by_cases hlt:i<ns.length
 ·have hc:=fY hlt
  have he:=fun A=>gw (A:=A) 2 hlt rfl
  have hw:=fF (i:=i) (by omega)
  obtain ⟨x,hx⟩:∃ x,x=ns[i]:=⟨_,rfl⟩
  rw[←hx] at he
  rcases hp:b6 1 (x.g 1) (x.g 0)
  ·have hall:(ns.all fun n=>b6 1 (n.g 1) (n.g 0))=false:=by
    rw[List.all_eq_false]
    exact ⟨x,hx▸List.getElem_mem hlt,by rw[hp];decide⟩
   have R:=And.intro @hc (And.intro @he (And.intro @hp (And.intro @hall (And.intro @L6 (And.intro @It (And.intro @bI @ab))))))
   repeat' ((first
    |(with_reducible refine .guard (fun hb =>?_) (fun hb =>?_) <;>try simp only[hb])
    |refine U.aL (by decide +kernel) rfl fun K hK =>?_
    |refine .flat _ (kF _ _ _) rfl ?_
    |(refine .aF [0,1,2,6,7,9,13,15,16,17,18,26,29] hK ?_;clear hK K)
    |(with_reducible refine .done (hK _ ?_);clear hK K)
    |refine U.of rfl ?_
    |(with_reducible refine ao.aK (fun h =>?_) (fun h =>?_) <;>try simp only[h])) <;>try simp only[aM,R,simprocAttr])
   all_goals clear R
  ·have R:=And.intro @hc (And.intro @he (And.intro @hp (And.intro @hw (And.intro @L6 (And.intro @It (And.intro @bI @ab))))))
   repeat' ((first
    |(with_reducible refine .guard (fun hb =>?_) (fun hb =>?_) <;>try simp only[hb])
    |refine U.aL (by decide +kernel) rfl fun K hK =>?_
    |refine .flat _ (kF _ _ _) rfl ?_
    |(refine .aF [0,1,2,6,7,9,13,15,16,17,18,26,29] hK ?_;clear hK K)
    |(with_reducible refine .done (hK _ ?_);clear hK K)
    |refine U.of rfl ?_
    |(with_reducible refine ao.aK (fun h =>?_) (fun h =>?_) <;>try simp only[h])) <;>try simp only[aM,R,simprocAttr])
   all_goals clear R
   refine ⟨i+1,⟨by omega,fun k hk hki =>?_⟩,by omega,?_⟩
   ·by_cases e:k=i
    ·subst e;rw[←hx];exact hp
    ·exact hi2 k hk (by omega)
   ·refine aI.b9 ?_ ?_ ?_ ?_ <;>simp[bd,bT,bS,bD,bh,bG,I.only]
 ·have hc:=gp hlt
  have hall:(ns.all fun n=>b6 1 (n.g 1) (n.g 0))=true:=by
   rw[List.all_eq_true]
   intro x hx
   obtain ⟨k,hk,rfl⟩:=List.getElem_of_mem hx
   exact hi2 k hk (by omega)
  have hF:=tU ds 126 [] rfl (fun d => !b6 0 100000 d) (fun x _=>MJ x)
  rcases hd:ds.any fun d => !b6 0 100000 d
  all_goals
   rw[hd] at hF
   have R:=And.intro @hc (And.intro @hall (And.intro @hd (And.intro @bI (And.intro @aP @ab))))
   repeat' ((first
    |(with_reducible refine .guard (fun hb =>?_) (fun hb =>?_) <;>try simp only[hb])
    |refine U.aL (by decide +kernel) rfl fun K hK =>?_
    |refine .flat _ (hF) rfl ?_
    |(refine .aF [0,1,2,6,7,9,13,15,16,17,18,26,29] hK ?_;clear hK K)
    |(with_reducible refine .done (hK _ ?_);clear hK K)
    |refine U.of rfl ?_
    |(with_reducible refine ao.aK (fun h =>?_) (fun h =>?_) <;>try simp only[h])) <;>try simp only[aM,R,simprocAttr])
   all_goals clear R
def dH(l:List ak)(day known:Int):List aY:=(qy ft l (jH l day known)).1
def ajW(l:List ak)(day known:Int):List Int:=eb (dw (qy ft l (jH l day known)).2)
theorem s8(l:List ak)(day known:Int):qx l day known=.tuple [gu (dH l day known),enc (ajW l day known)]:=rfl
theorem wC{l:List ak}(hok:c6 l=true)(day known:Int):((dH l day known).map (·.no)).Nodup∧(dH l day known).length≤60∧∀ b∈dH l day known,b.cd.length≤60:=by
 have h:=xH l (jH l day known) _ (Nat.le_refl _)
 rw[Ji] at h
 have h2:(jH l day known).length≤60:=by rw[Jd];exact Nat.le_trans (uU l day known) (jE hok)
 exact ⟨h.1,by simp only[dH];omega,fun b hb=>by have:=h.2.2.1 b hb;omega⟩
theorem sB(bs:List aY)(no:Int):fX (.i .i64) .nilp (.int .i64 no) (dh bs) (bs.map fun b=>.ref (enc (⟨b⟩:ez)))=match dD bs no with
  |some b=>some (.ref (enc (⟨b⟩:ez)),true)
  |none=>some (.nilp,false):=by
 have h1:=wh (bs:=bs) (no:=no)
 have h2:=wY u9 .nilp no (bs.map (·.no)) (bs.map fun b=>.ref (enc (⟨b⟩:ez)))
 rw[jN] at h2
 unfold dh
 rw[h2]
 cases h:(bs.map (·.no)).findIdx? fun x=>decide (no=x) with
 |none=>rw[h] at h1;simp only at h1;rw[h1]
 |some i =>
  rw[h] at h1
  obtain ⟨hi,g1,g2⟩:=h1
  rw[g1]
  simp[hi]
theorem Tl(bs:List aY):I.bV (bs.map fun b=>.ref (enc (⟨b⟩:ez)))=true:=by
 induction bs with
 |nil=>rfl
 |cons b bs ih=>simp only[List.map_cons,I.bV,I.bu,dO,ih,Bool.and_self]
theorem Tf(bs:List aY):(I.cS (dh bs) (bs.map fun b=>.ref (enc (⟨b⟩:ez)))).bu=true:=by
 simp only[I.bu,Tl,Bool.and_true];exact ke _
theorem nv:(∀ bs,(gu bs).bu=true)∧(∀ aD A bs,bp aD A (gu bs)=some (gu bs))∧(∀ bs,(gu bs).cq=true)∧(∀ bs,bZ none (gu bs)=true)∧(∀ p bs,(gu bs).only p=true)∧(∀ x:ez,(enc x:I).bu=true)∧(∀ bs,lY (gu bs)=some (gu bs)) ∧
  (∀ A bs,kV A 0 0 (gu bs)=some (.ref (.cS (dh bs) (bs.map fun b=>.ref (enc (⟨b⟩:ez))))))∧(∀ x:ez,lY (.ref (enc x))=some (.ref (enc x))) :=
 have h:∀ bs,(I.agg [.cS (dh bs) (bs.map fun b=>.ref (enc (⟨b⟩:ez)))]).bu=true:=fun bs=>by simp only[I.bu,I.bV,Bool.and_true];exact Tf bs
 ⟨fun bs=>by simp only[gu,I.bu];exact h bs,fun aD A bs=>by simp only[gu,bp,h bs,if_true],fun _=>rfl,fun _=>rfl,fun p bs=>l5 p _ (by simp only[gu,I.bu];exact h bs),fun x=>dO x,fun _=>rfl,
  fun A bs=>by simp[gu,kV,I.du,pY,oO,dX,I.sizes],fun _=>rfl⟩
theorem Mn:(∀ k n,(I.int k n).cq=true)∧(∀ b,(I.bool b).cq=true):=⟨fun _ _=>rfl,fun _=>rfl⟩
theorem nj{l:List ak}{ns:List j9}{ds:List Int}(h:fN l ns ds=0):c6 l=true:=by
 simp only[fN] at h
 split at h
 ·assumption
 ·cases h
theorem o6{a:Int}(h:a=0):(a != 0)=false:=by simp[h]
theorem o7{a:Int}(h:¬ a=0):(a != 0)=true:=by simp[h]
theorem pS(a b:Int):hX 1 (some [.int .i64 a,.int .i64 b])=some (enc [a,b]):=mD (ys:=[a,b]) 1 rfl
theorem qZ(l:List ak)(known:Int)(hok:c6 l=true):az Tryz.prog 68 [enc l,enc known] (gu (dH l 100000 known)):=by
 refine az.bn Tryz.func68 QR SQ U1 (Nat.le_of_ble_eq_true rfl) (fun hwf W0 D0 E1 =>?_)
 simp only[Ba,K2,bg,Nat.zero_add]
 have hF:=rf l 100000 known hok
 rw[s8] at hF
 have R:=And.intro @nv (And.intro @aP @ab)
 repeat' ((first
  |(with_reducible refine .guard (fun hb =>?_) (fun hb =>?_) <;>try simp only[hb])
  |refine U.aL (by decide +kernel) rfl fun K hK =>?_
  |refine .lead _ (hF) ?_
  |(refine .aF [0,1,4,5] hK ?_;clear hK K)
  |(with_reducible refine .done (hK _ ?_);clear hK K)
  |refine U.of rfl ?_
  |(with_reducible refine ao.aK (fun h =>?_) (fun h =>?_) <;>try simp only[h])) <;>try simp only[aM,R,simprocAttr])
 all_goals clear R
theorem NX(b:aY):az Tryz.prog 89 [.ref (enc (⟨b⟩:ez))] (enc (!decide (0≤b.fc))):=by
 refine az.bn Tryz.func89 Q3 S3 Vd (Nat.le_of_ble_eq_true rfl) (fun hwf W0 D0 E1 =>?_)
 simp only[Bm,Le,bg]
 have R:=And.intro @nv (And.intro @aP @ab)
 repeat' ((first
  |(with_reducible refine .guard (fun hb =>?_) (fun hb =>?_) <;>try simp only[hb])
  |refine U.aL (by decide +kernel) rfl fun K hK =>?_
  |refine .flat _ (iY _) rfl ?_
  |(refine .aF [0,2] hK ?_;clear hK K)
  |(with_reducible refine .done (hK _ ?_);clear hK K)
  |refine U.of rfl ?_
  |(with_reducible refine ao.aK (fun h =>?_) (fun h =>?_) <;>try simp only[h])) <;>try simp only[aM,R,simprocAttr])
 all_goals clear R
def pL(l:List ak)(day known:Int):List Int×Int:=if fN l [] [day,known]=0 then (eb (((dH l day known).filter fun b => !decide (0≤b.fc)).map (·.no)),0) else ([],fN l [] [day,known])
theorem NA(l:List ak)(day known:Int):az Tryz.prog 26 [enc l,enc day,enc known] (.tuple [enc (pL l day known).1,enc (pL l day known).2]):=by
 refine az.bn Tryz.func26 Qw Sw UG (Nat.le_of_ble_eq_true rfl) (fun hwf W0 D0 E1 =>?_)
 simp only[AO,KI,bg,Nat.zero_add,Nat.reduceAdd]
 clear hwf
 have hC:=pH l [] [day,known]
 simp only[pL]
 generalize hc:fN l [] [day,known]=e at hC ⊢
 by_cases he:e=0
 ·have hn:=o6 he
  subst he
  have hok:=nj hc
  have hF:=rf l day known hok
  rw[s8] at hF
  have hb:=wC hok day known
  have hN:=ub (dH l day known) hb.2.1 89 [] rfl (fun b => !decide (0≤b.fc)) (fun b _=>NX b)
  have R:=And.intro @hn (And.intro @pS (And.intro @nv (And.intro @hZ (And.intro @aP @ab))))
  repeat' ((first
   |(with_reducible refine .guard (fun hb =>?_) (fun hb =>?_) <;>try simp only[hb])
   |refine U.aL (by decide +kernel) rfl fun K hK =>?_
   |refine .flat _ (hC) rfl ?_
   |refine .lead _ (hF) ?_
   |refine .lead _ (hN) ?_
   |(refine .aF [0,1,2,6,7,8,9,17] hK ?_;clear hK K)
   |(with_reducible refine .done (hK _ ?_);clear hK K)
   |refine U.of rfl ?_
   |(with_reducible refine ao.aK (fun h =>?_) (fun h =>?_) <;>try simp only[h])) <;>try simp only[aM,R,simprocAttr])
  all_goals clear R
  all_goals rfl
 ·have hn:=o7 he
  have R:=And.intro @hn (And.intro @he (And.intro @pS (And.intro @aP @ab)))
  repeat' ((first
   |(with_reducible refine .guard (fun hb =>?_) (fun hb =>?_) <;>try simp only[hb])
   |refine U.aL (by decide +kernel) rfl fun K hK =>?_
   |refine .flat _ (hC) rfl ?_
   |(refine .aF [0,1,2,6,7,8,9,17] hK ?_;clear hK K)
   |(with_reducible refine .done (hK _ ?_);clear hK K)
   |refine U.of rfl ?_
   |(with_reducible refine ao.aK (fun h =>?_) (fun h =>?_) <;>try simp only[h])) <;>try simp only[aM,R,simprocAttr])
  all_goals clear R
  all_goals rfl
def sk(l:List ak)(no day known:Int):Int×Int:=if fN l [fo no 9999] [day,known]=0 then (match dD (dH l day known) no with
 |none=>(0,42)
 |some b=>if 0≤b.fc then (0,0) else (b.cB,0)) else (0,fN l [fo no 9999] [day,known])
theorem zm(a b:Int):hX 2 (some [.agg [.int .i64 a,.int .i64 b]])=some (enc [fo a b]):=mD (ys:=[fo a b]) 2 rfl
theorem zn(a b c d:Int):hX 2 (some [.agg [.int .i64 a,.int .i64 b],.agg [.int .i64 c,.int .i64 d]])=some (enc [fo a b,fo c d]):=mD (ys:=[fo a b,fo c d]) 2 rfl
theorem eV:(type_of% @aP)∧(type_of% @gF)∧(type_of% @nv)∧(type_of% @hZ)∧(type_of% @ew)∧(type_of% @eK)∧(type_of% @bI)∧(type_of% @pS)∧(type_of% @zm)∧(type_of% @zn)∧(type_of% @rz)∧(type_of% @Mn)∧(type_of% @ab):=⟨@aP,@gF,@nv,@hZ,@ew,@eK,@bI,@pS,@zm,@zn,@rz,@Mn,@ab⟩
theorem NB(l:List ak)(no day known:Int):az Tryz.prog 27 [enc l,enc no,enc day,enc known] (.tuple [enc (sk l no day known).1,enc (sk l no day known).2]):=by
 refine az.bn Tryz.func27 Qx Sx UH (Nat.le_of_ble_eq_true rfl) (fun hwf W0 D0 E1 =>?_)
 simp only[AP,KJ,bg,Nat.zero_add,Nat.reduceAdd]
 clear hwf
 have hC:=pH l [fo no 9999] [day,known]
 simp only[sk]
 generalize hc:fN l [fo no 9999] [day,known]=e at hC ⊢
 by_cases he:e=0
 ·have hn:=o6 he
  subst he
  have hok:=nj hc
  have hF:=rf l day known hok
  rw[s8] at hF
  have hk:=sB (dH l day known) no
  cases hg:dD (dH l day known) no with
  |none =>
   rw[hg] at hk
   have R:=And.intro @hn (And.intro @hk eV)
   repeat' ((first
    |(with_reducible refine .guard (fun hb =>?_) (fun hb =>?_) <;>try simp only[hb])
    |refine U.aL (by decide +kernel) rfl fun K hK =>?_
    |refine .flat _ (hC) rfl ?_
    |refine .lead _ (hF) ?_
    |(refine .aF [0,1,2,3,8,9,10,11,13,23,38,41] hK ?_;clear hK K)
    |(with_reducible refine .done (hK _ ?_);clear hK K)
    |refine U.of rfl ?_
    |(with_reducible refine ao.aK (fun h =>?_) (fun h =>?_) <;>try simp only[h])) <;>try simp only[aM,R,simprocAttr])
   all_goals clear R
  |some b =>
   rw[hg] at hk
   rcases hd:decide (0≤b.fc)
   all_goals
    have R:=And.intro @hn (And.intro @hk (And.intro @hd eV))
    repeat' ((first
     |(with_reducible refine .guard (fun hb =>?_) (fun hb =>?_) <;>try simp only[hb])
     |refine U.aL (by decide +kernel) rfl fun K hK =>?_
     |refine .flat _ (hC) rfl ?_
     |refine .lead _ (hF) ?_
     |refine .flat _ (iY _) rfl ?_
     |(refine .aF [0,1,2,3,8,9,10,11,13,23,38,41] hK ?_;clear hK K)
     |(with_reducible refine .done (hK _ ?_);clear hK K)
     |refine U.of rfl ?_
     |(with_reducible refine ao.aK (fun h =>?_) (fun h =>?_) <;>try simp only[h])) <;>try simp only[aM,R,simprocAttr])
    all_goals clear R
    simp only[decide_eq_true_eq,decide_eq_false_iff_not] at hd
    simp[hd]
 ·have hn:=o7 he
  have R:=And.intro @hn (And.intro @he eV)
  repeat' ((first
   |(with_reducible refine .guard (fun hb =>?_) (fun hb =>?_) <;>try simp only[hb])
   |refine U.aL (by decide +kernel) rfl fun K hK =>?_
   |refine .flat _ (hC) rfl ?_
   |(refine .aF [0,1,2,3,8,9,10,11,13,23,38,41] hK ?_;clear hK K)
   |(with_reducible refine .done (hK _ ?_);clear hK K)
   |refine U.of rfl ?_
   |(with_reducible refine ao.aK (fun h =>?_) (fun h =>?_) <;>try simp only[h])) <;>try simp only[aM,R,simprocAttr])
  all_goals clear R
  all_goals rfl
theorem NY(b:aY)(o s:Int):az Tryz.prog 91 [.ref (enc (⟨b⟩:ez)),.ref (enc o),.ref (enc s)] (enc (!decide (0≤b.fc)&&(b.cB==o&&b.fj==s))):=by
 refine az.bn Tryz.func91 Q5 S5 Vf (Nat.le_of_ble_eq_true rfl) (fun hwf W0 D0 E1 =>?_)
 simp only[Bo,Lg,bg,Nat.zero_add,Nat.reduceAdd]
 have R:=eV
 repeat' ((first
  |(with_reducible refine .guard (fun hb =>?_) (fun hb =>?_) <;>try simp only[hb])
  |refine U.aL (by decide +kernel) rfl fun K hK =>?_
  |refine .flat _ (iY _) rfl ?_
  |(refine .aF [0,1,2,4] hK ?_;clear hK K)
  |(with_reducible refine .done (hK _ ?_);clear hK K)
  |refine U.of rfl ?_
  |(with_reducible refine ao.aK (fun h =>?_) (fun h =>?_) <;>try simp only[h])) <;>try simp only[aM,R,simprocAttr])
 all_goals clear R
 all_goals simp_all
def rJ(l:List ak)(o s day known:Int):Int×Int:=if fN l [fo o 99,fo s 9] [day,known]=0 then ((((dH l day known).filter fun b => !decide (0≤b.fc)&&(b.cB==o&&b.fj==s)).length:Int),0) else (0,fN l [fo o 99,fo s 9] [day,known])
theorem NC(l:List ak)(o s day known:Int):az Tryz.prog 28 [enc l,enc o,enc s,enc day,enc known] (.tuple [enc (rJ l o s day known).1,enc (rJ l o s day known).2]):=by
 refine az.bn Tryz.func28 Qy Sy UI (Nat.le_of_ble_eq_true rfl) (fun hwf W0 D0 E1 =>?_)
 simp only[AQ,KK,bg,Nat.zero_add,Nat.reduceAdd]
 clear hwf
 have hC:=pH l [fo o 99,fo s 9] [day,known]
 simp only[rJ]
 generalize hc:fN l [fo o 99,fo s 9] [day,known]=e at hC ⊢
 by_cases he:e=0
 ·have hn:=o6 he
  subst he
  have hok:=nj hc
  have hF:=rf l day known hok
  rw[s8] at hF
  have hb:=wC hok day known
  have hN:=ub (dH l day known) hb.2.1 91 [.ref (enc o),.ref (enc s)] rfl (fun b => !decide (0≤b.fc)&&(b.cB==o&&b.fj==s)) (fun b _=>NY b o s)
  have R:=And.intro @hn (And.intro @o5 eV)
  repeat' ((first
   |(with_reducible refine .guard (fun hb =>?_) (fun hb =>?_) <;>try simp only[hb])
   |refine U.aL (by decide +kernel) rfl fun K hK =>?_
   |refine .flat _ (hC) rfl ?_
   |refine .lead _ (hF) ?_
   |(refine .aF [0,1,2,3,4,6,7,10,11,12,13,26] hK ?_;clear hK K)
   |(with_reducible refine .done (hK _ ?_);clear hK K)
   |refine U.of rfl ?_
   |(with_reducible refine ao.aK (fun h =>?_) (fun h =>?_) <;>try simp only[h])) <;>try simp only[aM,R,simprocAttr])
  all_goals clear R
  refine .ik [6,7] _ rfl hN ?_ ?_ ?_
  ·simp[bp,bY,cv,av,iJ,al,oD,nv,I.bu]
   exact ⟨rfl,rfl⟩
  ·simp[bD,c4]
  ·have hlen:(eb (((dH l day known).filter fun b => !decide (0≤b.fc)&&(b.cB==o&&b.fj==s)).map (·.no))).length=((dH l day known).filter fun b => !decide (0≤b.fc)&&(b.cB==o&&b.fj==s)).length:=by simp[eb]
   try simp only[fW,List.map_cons,List.map_nil,hlen,eV,ab,simprocAttr]
   have R:=And.intro @hlen eV
   repeat' ((first
    |(with_reducible refine .guard (fun hb =>?_) (fun hb =>?_) <;>try simp only[hb])
    |refine U.aL (by decide +kernel) rfl fun K hK =>?_
    |(refine .aF [0,1,2,3,4,6,7,10,11,12,13,26] hK ?_;clear hK K)
    |(with_reducible refine .done (hK _ ?_);clear hK K)
    |refine U.of rfl ?_
    |(with_reducible refine ao.aK (fun h =>?_) (fun h =>?_) <;>try simp only[h])) <;>try simp only[aM,R,simprocAttr])
   all_goals clear R
 ·have hn:=o7 he
  have R:=And.intro @hn (And.intro @he eV)
  repeat' ((first
   |(with_reducible refine .guard (fun hb =>?_) (fun hb =>?_) <;>try simp only[hb])
   |refine U.aL (by decide +kernel) rfl fun K hK =>?_
   |refine .flat _ (hC) rfl ?_
   |(refine .aF [0,1,2,3,4,6,7,10,11,12,13,26] hK ?_;clear hK K)
   |(with_reducible refine .done (hK _ ?_);clear hK K)
   |refine U.of rfl ?_
   |(with_reducible refine ao.aK (fun h =>?_) (fun h =>?_) <;>try simp only[h])) <;>try simp only[aM,R,simprocAttr])
  all_goals clear R
  all_goals rfl
theorem im(m:cH):bZ (some 7) (enc m)=true:=by rw[gK];rfl
theorem re(m:cH)(b:aY):az Tryz.prog 69 [enc m,.ref (enc (⟨b⟩:ez))] (enc (iL m b.cd).1):=by
 refine az.bn Tryz.func69 QS SR U2 (Nat.le_of_ble_eq_true rfl) (fun hwf W0 D0 E1 =>?_)
 simp only[Bb,K3,bg,Nat.zero_add]
 clear hwf
 have hC:=MK m b.cd
 have R:=And.intro @im eV
 repeat' ((first
  |(with_reducible refine .guard (fun hb =>?_) (fun hb =>?_) <;>try simp only[hb])
  |refine U.aL (by decide +kernel) rfl fun K hK =>?_
  |refine .lead _ (hC) ?_
  |(refine .aF [0,1,2,4,5] hK ?_;clear hK K)
  |(with_reducible refine .done (hK _ ?_);clear hK K)
  |refine U.of rfl ?_
  |(with_reducible refine ao.aK (fun h =>?_) (fun h =>?_) <;>try simp only[h])) <;>try simp only[aM,R,simprocAttr])
 all_goals clear R
theorem ML(l:List Int)(n:Int):az Tryz.prog 131 [enc l,enc n] (enc (mO (fun x=>n==x) l)):=by
 refine az.bn Tryz.func131 PF RC TM (Nat.le_of_ble_eq_true rfl) (fun hwf W0 D0 E1 =>?_)
 simp only[zO,JP,bg,Nat.zero_add]
 have hlen:l.length≤maxLen:=((j6 l).1 hwf.1).1
 simp only[maxLen] at hlen
 clear hwf
 have R:=And.intro @bI @ab
 repeat' ((first
  |(with_reducible refine .guard (fun hb =>?_) (fun hb =>?_) <;>try simp only[hb])
  |refine U.aL (by decide +kernel) rfl fun K hK =>?_
  |(refine .aF [0,1,4,5,7,8,9,16] hK ?_;clear hK K)
  |(with_reducible refine .done (hK _ ?_);clear hK K)
  |refine U.of rfl ?_
  |(with_reducible refine ao.aK (fun h =>?_) (fun h =>?_) <;>try simp only[h])) <;>try simp only[aM,R,simprocAttr])
 all_goals clear R
 refine U.loop (fun i:Nat=>av [(0,enc l),(1,.int .i64 n),(7,.int .i64 l.length),(8,.int .i64 i)] []) (fun i=>i≤l.length∧∀ x∈l.take i,(n==x)=false) (fun i=>l.length-i) 0 ⟨Nat.zero_le _,by simp⟩ ?_ (fun i hi =>?_)
 ·refine aI.b9 ?_ ?_ ?_ ?_ <;>simp[bd,bT,bS,bD,bh,I.only,bG]
 obtain ⟨hi1,hi2⟩:=hi
 by_cases hlt:i<l.length
 ·have hc:=fY hlt
  have he:=fun A=>gw (A:=A) 1 hlt rfl
  have hw:=fF (i:=i) (by omega)
  rcases hp:(n==l[i])
  ·have R:=And.intro @hc (And.intro @he (And.intro @hp (And.intro @hw (And.intro @gb (And.intro @bI @ab)))))
   repeat' ((first
    |(with_reducible refine .guard (fun hb =>?_) (fun hb =>?_) <;>try simp only[hb])
    |refine U.aL (by decide +kernel) rfl fun K hK =>?_
    |(refine .aF [0,1,4,5,7,8,9,16] hK ?_;clear hK K)
    |(with_reducible refine .done (hK _ ?_);clear hK K)
    |refine U.of rfl ?_
    |(with_reducible refine ao.aK (fun h =>?_) (fun h =>?_) <;>try simp only[h])) <;>try simp only[aM,R,simprocAttr])
   all_goals clear R
   refine ⟨i+1,⟨by omega,fun x hm =>?_⟩,by omega,?_⟩
   ·rw[List.take_succ_eq_append_getElem hlt] at hm
    rcases List.mem_append.1 hm with hm | hm
    ·exact hi2 x hm
    ·simp at hm;rw[hm];exact hp
   ·refine aI.b9 ?_ ?_ ?_ ?_ <;>simp[bd,bT,bS,bD,bh,I.only,bG]
  ·have R:=And.intro @hc (And.intro @he (And.intro @hp (And.intro @gb (And.intro @bI @ab))))
   repeat' ((first
    |(with_reducible refine .guard (fun hb =>?_) (fun hb =>?_) <;>try simp only[hb])
    |refine U.aL (by decide +kernel) rfl fun K hK =>?_
    |(refine .aF [0,1,4,5,7,8,9,16] hK ?_;clear hK K)
    |(with_reducible refine .done (hK _ ?_);clear hK K)
    |refine U.of rfl ?_
    |(with_reducible refine ao.aK (fun h =>?_) (fun h =>?_) <;>try simp only[h])) <;>try simp only[aM,R,simprocAttr])
   all_goals clear R
   simp[mO,vl hlt hi2 hp]
 ·have hc:=gp hlt
  have hge:i=l.length:=by omega
  have R:=And.intro @hc (And.intro @bI @ab)
  repeat' ((first
   |(with_reducible refine .guard (fun hb =>?_) (fun hb =>?_) <;>try simp only[hb])
   |refine U.aL (by decide +kernel) rfl fun K hK =>?_
   |(refine .aF [0,1,4,5,7,8,9,16] hK ?_;clear hK K)
   |(with_reducible refine .done (hK _ ?_);clear hK K)
   |refine U.of rfl ?_
   |(with_reducible refine ao.aK (fun h =>?_) (fun h =>?_) <;>try simp only[h])) <;>try simp only[aM,R,simprocAttr])
  all_goals clear R
  subst hge
  rw[List.take_length] at hi2
  simp[mO,vk hi2]
theorem NQ(l:List Int)(n:Int):az Tryz.prog 74 [enc l,enc n] (enc (decide (n∈l))):=by
 refine az.bn Tryz.func74 QV SV U5 (Nat.le_of_ble_eq_true rfl) (fun hwf W0 D0 E1 =>?_)
 simp only[Be,K6,bg,Nat.zero_add]
 clear hwf
 have R:=And.intro @aP @ab
 repeat' ((first
  |(with_reducible refine .guard (fun hb =>?_) (fun hb =>?_) <;>try simp only[hb])
  |refine U.aL (by decide +kernel) rfl fun K hK =>?_
  |refine .flat _ (ML _ _) rfl ?_
  |(refine .aF [0,1,4] hK ?_;clear hK K)
  |(with_reducible refine .done (hK _ ?_);clear hK K)
  |refine U.of rfl ?_
  |(with_reducible refine ao.aK (fun h =>?_) (fun h =>?_) <;>try simp only[h])) <;>try simp only[aM,R,simprocAttr])
 all_goals clear R
 rw[H5]
 congr 1
 rw[Bool.eq_iff_iff]
 simp[List.any_eq_true]
theorem NP(m:cH)(b:aY):az Tryz.prog 73 [.ref (enc (⟨b⟩:ez)),.ref (enc m)] (enc (decide (0<b.jx) && !decide (b.jx∈(iL m b.cd).1))):=by
 refine az.bn Tryz.func73 QU SU U4 (Nat.le_of_ble_eq_true rfl) (fun hwf W0 D0 E1 =>?_)
 simp only[Bd,K5,bg,Nat.zero_add]
 clear hwf
 have hC:=re m b
 have R:=And.intro @im eV
 repeat' ((first
  |(with_reducible refine .guard (fun hb =>?_) (fun hb =>?_) <;>try simp only[hb])
  |refine U.aL (by decide +kernel) rfl fun K hK =>?_
  |refine .lead _ (hC) ?_
  |refine .flat _ (NQ _ _) rfl ?_
  |(refine .aF [0,1,3] hK ?_;clear hK K)
  |(with_reducible refine .done (hK _ ?_);clear hK K)
  |refine U.of rfl ?_
  |(with_reducible refine ao.aK (fun h =>?_) (fun h =>?_) <;>try simp only[h])) <;>try simp only[aM,R,simprocAttr])
 all_goals clear R
 all_goals first | (simp_all;done) | (simp_all;intro h;omega)
def kK(m:cH)(l:List ak)(no known:Int):List Int×Int:=if gD m then (if fN l [fo no 9999] [known]=0 then (match dD (dH l 100000 known) no with
 |none=>([],42)
 |some b=>((iL m b.cd).1,0)) else ([],fN l [fo no 9999] [known])) else ([],13)
theorem Pd(a:Int):hX 1 (some [.int .i64 a])=some (enc [a]):=mD (ys:=[a]) 1 rfl
theorem tW(m:cH)(l:List ak)(no known:Int):az Tryz.prog 14 [enc m,enc l,enc no,enc known] (.tuple [enc (kK m l no known).1,enc (kK m l no known).2]):=by
 refine az.bn Tryz.func14 PM RJ TT (Nat.le_of_ble_eq_true rfl) (fun hwf W0 D0 E1 =>?_)
 simp only[zV,JW,bg,Nat.zero_add,Nat.reduceAdd]
 clear hwf
 have hM:=ua m
 have hC:=pH l [fo no 9999] [known]
 simp only[kK]
 rcases hm:gD m
 ·rw[hm,if_neg (by decide)] at hM
  have R:=And.intro @im eV
  repeat' ((first
   |(with_reducible refine .guard (fun hb =>?_) (fun hb =>?_) <;>try simp only[hb])
   |refine U.aL (by decide +kernel) rfl fun K hK =>?_
   |refine .flat _ (hM) rfl ?_
   |(refine .aF [0,1,2,3,4,8,9,10,11,12,16,26,37] hK ?_;clear hK K)
   |(with_reducible refine .done (hK _ ?_);clear hK K)
   |refine U.of rfl ?_
   |(with_reducible refine ao.aK (fun h =>?_) (fun h =>?_) <;>try simp only[h])) <;>try simp only[aM,R,simprocAttr])
  all_goals clear R
  all_goals rfl
 rw[hm,if_pos rfl] at hM
 generalize hc:fN l [fo no 9999] [known]=e at hC ⊢
 by_cases he:e=0
 ·have hn:=o6 he
  subst he
  have hok:=nj hc
  have hF:=qZ l known hok
  have hk:=sB (dH l 100000 known) no
  cases hg:dD (dH l 100000 known) no with
  |none =>
   rw[hg] at hk
   have R:=And.intro @hn (And.intro @hk (And.intro @im eV))
   repeat' ((first
    |(with_reducible refine .guard (fun hb =>?_) (fun hb =>?_) <;>try simp only[hb])
    |refine U.aL (by decide +kernel) rfl fun K hK =>?_
    |refine .flat _ (hM) rfl ?_
    |refine .flat _ (hC) rfl ?_
    |refine .lead _ (hF) ?_
    |(refine .aF [0,1,2,3,4,8,9,10,11,12,16,26,37] hK ?_;clear hK K)
    |(with_reducible refine .done (hK _ ?_);clear hK K)
    |refine U.of rfl ?_
    |(with_reducible refine ao.aK (fun h =>?_) (fun h =>?_) <;>try simp only[h])) <;>try simp only[aM,R,simprocAttr])
   all_goals clear R
   all_goals rfl
  |some b =>
   rw[hg] at hk
   have hB:=re m b
   have R:=And.intro @hn (And.intro @hk (And.intro @im eV))
   repeat' ((first
    |(with_reducible refine .guard (fun hb =>?_) (fun hb =>?_) <;>try simp only[hb])
    |refine U.aL (by decide +kernel) rfl fun K hK =>?_
    |refine .flat _ (hM) rfl ?_
    |refine .flat _ (hC) rfl ?_
    |refine .lead _ (hF) ?_
    |refine .lead _ (hB) ?_
    |(refine .aF [0,1,2,3,4,8,9,10,11,12,16,26,37] hK ?_;clear hK K)
    |(with_reducible refine .done (hK _ ?_);clear hK K)
    |refine U.of rfl ?_
    |(with_reducible refine ao.aK (fun h =>?_) (fun h =>?_) <;>try simp only[h])) <;>try simp only[aM,R,simprocAttr])
   all_goals clear R
 ·have hn:=o7 he
  have R:=And.intro @hn (And.intro @he (And.intro @im eV))
  repeat' ((first
   |(with_reducible refine .guard (fun hb =>?_) (fun hb =>?_) <;>try simp only[hb])
   |refine U.aL (by decide +kernel) rfl fun K hK =>?_
   |refine .flat _ (hM) rfl ?_
   |refine .flat _ (hC) rfl ?_
   |(refine .aF [0,1,2,3,4,8,9,10,11,12,16,26,37] hK ?_;clear hK K)
   |(with_reducible refine .done (hK _ ?_);clear hK K)
   |refine U.of rfl ?_
   |(with_reducible refine ao.aK (fun h =>?_) (fun h =>?_) <;>try simp only[h])) <;>try simp only[aM,R,simprocAttr])
  all_goals clear R
  all_goals rfl
def qS(m:cH)(l:List ak)(known:Int):List Int×Int:=if gD m then (if fN l [] [known]=0 then
 (eb (((dH l 100000 known).filter fun b=>decide (0<b.jx) && !decide (b.jx∈(iL m b.cd).1)).map (·.no)),0) else ([],fN l [] [known])) else ([],13)
theorem MZ(m:cH)(l:List ak)(known:Int):az Tryz.prog 16 [enc m,enc l,enc known] (.tuple [enc (qS m l known).1,enc (qS m l known).2]):=by
 refine az.bn Tryz.func16 PY RV T7 (Nat.le_of_ble_eq_true rfl) (fun hwf W0 D0 E1 =>?_)
 simp only[Ad,J8,bg,Nat.zero_add,Nat.reduceAdd]
 clear hwf
 have hM:=ua m
 have hC:=pH l [] [known]
 simp only[qS]
 rcases hm:gD m
 ·rw[hm,if_neg (by decide)] at hM
  have R:=And.intro @im eV
  repeat' ((first
   |(with_reducible refine .guard (fun hb =>?_) (fun hb =>?_) <;>try simp only[hb])
   |refine U.aL (by decide +kernel) rfl fun K hK =>?_
   |refine .flat _ (hM) rfl ?_
   |(refine .aF [0,1,2,3,6,7,8,9,13,20] hK ?_;clear hK K)
   |(with_reducible refine .done (hK _ ?_);clear hK K)
   |refine U.of rfl ?_
   |(with_reducible refine ao.aK (fun h =>?_) (fun h =>?_) <;>try simp only[h])) <;>try simp only[aM,R,simprocAttr])
  all_goals clear R
  all_goals rfl
 rw[hm,if_pos rfl] at hM
 generalize hc:fN l [] [known]=e at hC ⊢
 by_cases he:e=0
 ·have hn:=o6 he
  subst he
  have hok:=nj hc
  have hF:=qZ l known hok
  have hb:=wC hok 100000 known
  have hN:=ub (dH l 100000 known) hb.2.1 73 [.ref (enc m)] (by simp[I.eO,I.done,dO]) (fun b=>decide (0<b.jx) && !decide (b.jx∈(iL m b.cd).1)) (fun b _=>NP m b)
  have R:=And.intro @hn (And.intro @im (And.intro @o5 eV))
  repeat' ((first
   |(with_reducible refine .guard (fun hb =>?_) (fun hb =>?_) <;>try simp only[hb])
   |refine U.aL (by decide +kernel) rfl fun K hK =>?_
   |refine .flat _ (hM) rfl ?_
   |refine .flat _ (hC) rfl ?_
   |refine .lead _ (hF) ?_
   |(refine .aF [0,1,2,3,6,7,8,9,13,20] hK ?_;clear hK K)
   |(with_reducible refine .done (hK _ ?_);clear hK K)
   |refine U.of rfl ?_
   |(with_reducible refine ao.aK (fun h =>?_) (fun h =>?_) <;>try simp only[h])) <;>try simp only[aM,R,simprocAttr])
  all_goals clear R
  refine .ik [3] _ rfl hN ?_ ?_ ?_
  ·simp[bp,bY,cv,av,iJ,al,oD,nv,dO]
  ·simp[bD,c4]
  ·try simp only[fW,List.map_cons,List.map_nil,eV,ab,simprocAttr]
   have R:=eV
   repeat' ((first
    |(with_reducible refine .guard (fun hb =>?_) (fun hb =>?_) <;>try simp only[hb])
    |refine U.aL (by decide +kernel) rfl fun K hK =>?_
    |(refine .aF [0,1,2,3,6,7,8,9,13,20] hK ?_;clear hK K)
    |(with_reducible refine .done (hK _ ?_);clear hK K)
    |refine U.of rfl ?_
    |(with_reducible refine ao.aK (fun h =>?_) (fun h =>?_) <;>try simp only[h])) <;>try simp only[aM,R,simprocAttr])
   all_goals clear R
 ·have hn:=o7 he
  have R:=And.intro @hn (And.intro @he (And.intro @im eV))
  repeat' ((first
   |(with_reducible refine .guard (fun hb =>?_) (fun hb =>?_) <;>try simp only[hb])
   |refine U.aL (by decide +kernel) rfl fun K hK =>?_
   |refine .flat _ (hM) rfl ?_
   |refine .flat _ (hC) rfl ?_
   |(refine .aF [0,1,2,3,6,7,8,9,13,20] hK ?_;clear hK K)
   |(with_reducible refine .done (hK _ ?_);clear hK K)
   |refine U.of rfl ?_
   |(with_reducible refine ao.aK (fun h =>?_) (fun h =>?_) <;>try simp only[h])) <;>try simp only[aM,R,simprocAttr])
  all_goals clear R
  all_goals rfl
end Go.Proofs.YtcldiigclhgafaaGreat
namespace Go.Proofs.YtcldiigclhgafaaGreat
open Go Go.Abs Go.ChangeShapes Go.WideShapes Go.RowKit
open Go.Abs.Enc (enc)
theorem Tryz.own:ownKnob Tryz.prog.godebug=none:=by kernel_rfl
theorem Tryz.agj:laidOutB Tryz.prog=true:=by kernel_rfl
theorem ln:gY Tryz.prog 3 Int:=ah9 (by kernel_rfl) (by kernel_rfl)
theorem ag2:gY Tryz.prog 66 (bL 6 Int):=ah8 (afQ (by kernel_rfl)) ln (by kernel_rfl) (by decide)
theorem IN:gY Tryz.prog 65 Item:=⟨by kernel_rfl,by decide,fun h=>by
 obtain ⟨a,b,hab⟩:=aic (α:=Int) (β:=Int) (u0:=3) (u1:=3) (by kernel_rfl) ln ln (by kernel_rfl) h
 exact ⟨⟨a,b⟩,hab⟩⟩
theorem IL:gY Tryz.prog 68 ak:=⟨by kernel_rfl,by decide,fun h=>by
 obtain ⟨vs,hv,hr⟩:=aib [(65,0),(3,2),(3,3),(3,4),(3,5),(3,6),(3,7),(3,8),(66,9),(65,15)]
  [(2,fun v=>∃ a:Item,v=enc a),(1,fun v=>∃ a:Int,v=enc a),(1,fun v=>∃ a:Int,v=enc a),(1,fun v=>∃ a:Int,v=enc a),(1,fun v=>∃ a:Int,v=enc a),(1,fun v=>∃ a:Int,v=enc a),(1,fun v=>∃ a:Int,v=enc a),(1,fun v=>∃ a:Int,v=enc a),(6,fun v=>∃ a:bL 6 Int,v=enc a),(2,fun v=>∃ a:Item,v=enc a)]
  (by kernel_rfl) (by simp only[qu];exact ⟨trivial,IN.bO,trivial,ln.bO,trivial,ln.bO,trivial,ln.bO,trivial,ln.bO,trivial,ln.bO,trivial,ln.bO,trivial,ln.bO,trivial,ag2.bO,trivial,IN.bO,trivial⟩) (by kernel_rfl) h
 obtain ⟨v0,vs0,e0,h0,hv0⟩:=kJ hv
 obtain ⟨a0,f0⟩:∃ a:Item,v0=enc a:=h0
 obtain ⟨v1,vs1,e1,h1,hv1⟩:=kJ hv0
 obtain ⟨a1,f1⟩:∃ a:Int,v1=enc a:=h1
 obtain ⟨v2,vs2,e2,h2,hv2⟩:=kJ hv1
 obtain ⟨a2,f2⟩:∃ a:Int,v2=enc a:=h2
 obtain ⟨v3,vs3,e3,h3,hv3⟩:=kJ hv2
 obtain ⟨a3,f3⟩:∃ a:Int,v3=enc a:=h3
 obtain ⟨v4,vs4,e4,h4,hv4⟩:=kJ hv3
 obtain ⟨a4,f4⟩:∃ a:Int,v4=enc a:=h4
 obtain ⟨v5,vs5,e5,h5,hv5⟩:=kJ hv4
 obtain ⟨a5,f5⟩:∃ a:Int,v5=enc a:=h5
 obtain ⟨v6,vs6,e6,h6,hv6⟩:=kJ hv5
 obtain ⟨uf,f6⟩:∃ a:Int,v6=enc a:=h6
 obtain ⟨v7,vs7,e7,h7,hv7⟩:=kJ hv6
 obtain ⟨a7,f7⟩:∃ a:Int,v7=enc a:=h7
 obtain ⟨v8,vs8,e8,h8,hv8⟩:=kJ hv7
 obtain ⟨a8,f8⟩:∃ a:bL 6 Int,v8=enc a:=h8
 obtain ⟨v9,vs9,e9,h9,hv9⟩:=kJ hv8
 obtain ⟨a9,f9⟩:∃ a:Item,v9=enc a:=h9
 have e10:=Og hv9
 rw[e0,e1,e2,e3,e4,e5,e6,e7,e8,e9,e10,f0,f1,f2,f3,f4,f5,f6,f7,f8,f9] at hr
 exact ⟨⟨a0,a1,a2,a3,a4,a5,uf,a7,a8,a9⟩,hr⟩⟩
theorem IM:gY Tryz.prog 27 (List ak):=aia (by kernel_rfl) IL (by kernel_rfl)
theorem ai8{w:World}{D:aQ}{E:aX}{x y z:I}{a b c:Value}(hx:∃ cs,bJ x a cs∧ah w D E x cs)(hy:∃ cs,bJ y b cs∧ah w D E y cs)(hz:∃ cs,bJ z c cs∧ah w D E z cs):aG w D E [x,y,z] [a,b,c]:=by
 obtain ⟨c1,h1,h2⟩:=hx
 obtain ⟨c2,h3,h4⟩:=hy
 obtain ⟨c3,h5,h6⟩:=hz
 simp only[aG]
 exact ⟨a,[b,c],c1,rfl,h1,h2,b,[c],c2,rfl,h3,h4,c,[],c3,rfl,h5,h6,rfl⟩
end Go.Proofs.YtcldiigclhgafaaGreat
namespace Go.Proofs.YtcldiigclhgafaaGreat
open Go Go.Abs
open Go.Abs.Enc (enc)
theorem dn.xz{aD:Bool}{ρ:List (Nat×Nat)}{k:Nat}{x:ai}{os0:List (Nat×ai)}{r c:I}(h1:∀ p,c.only p=true)(h2:aD=true→c.cP=true)(h3:r.only (au [(k,.box c)])=true)(h4:aD=true→r.cP=true):dn aD ρ [(k,x)] os0 r [(k,.box c)]:=by
 refine ⟨fun m x h =>?_,fun m m' h h' _ =>?_,fun m h =>?_,fun m h h' =>?_,h3,h4⟩
 ·simp only[al] at h
  split at h
  ·simp only[Option.some.injEq] at h;subst h;exact ⟨h1 _,rfl,h2⟩
  ·cases h
 ·rw[cV.1 h,cV.1 h']
 ·rw[cV.1 h];exact cV.2 rfl
 ·rw[cV.1 h] at h'
  have:au [(k,x)] k=true:=cV.2 rfl
  rw[this] at h';cases h'
theorem dn.m9{aD:Bool}{ρ:List (Nat×Nat)}{k k' d d':Nat}{x:ai}{os0:List (Nat×ai)}{r c c':I}(hk:bF ρ k=d)(hk':bF ρ k'=d')(hd:d≠d')(hne:k≠k')(h1:∀ p,c.only p=true)(h2:aD=true→c.cP=true)(h1':∀ p,c'.only p=true)(h2':aD=true→c'.cP=true)
  (h3:r.only (au [(k,.box c),(k',.box c')])=true) (h4:aD=true→r.cP=true) (h5:al os0 d=none) (h6:d<1000000):dn aD ρ [(k',x)] os0 r [(k,.box c),(k',.box c')]:=by
 have m9:∀ m,au [(k,ai.box c),(k',ai.box c')] m=true→m=k∨m=k':=fun m h=>by
  simp only[au,al] at h
  split at h
  ·rename_i e;exact .inl e
  ·split at h
   ·rename_i e;exact .inr e
   ·cases h
 refine ⟨fun m y h =>?_,fun m m' h h' e =>?_,fun m h =>?_,fun m h h' =>?_,h3,h4⟩
 ·simp only[al] at h
  split at h
  ·simp only[Option.some.injEq] at h;subst h;exact ⟨h1 _,rfl,h2⟩
  ·split at h
   ·simp only[Option.some.injEq] at h;subst h;exact ⟨h1' _,rfl,h2'⟩
   ·cases h
 ·rcases m9 m h with rfl | rfl <;>rcases m9 m' h' with rfl | rfl
  ·rfl
  ·rw[hk,hk'] at e;exact absurd e hd
  ·rw[hk,hk'] at e;exact absurd e.symm hd
  ·rfl
 ·rw[cV.1 h]
  simp[au,al,Ne.symm hne]
 ·rcases m9 m h with rfl | rfl
  ·rw[hk];exact ⟨h5,h6⟩
  ·have:au [(m,x)] m=true:=cV.2 rfl
   rw[this] at h';cases h'
theorem sG(p:Nat→Bool)(l:List ak):(I.agg (l.map enc)).only p=true:=by simp only[I.only];exact ev p l
theorem yS(l:List ak)(i:Nat)(hi:i<l.length)(hlen:l.length≤60):az Tryz.prog 78 [enc l,enc (i:Int)] (enc (dG l i)):=by
 have hne:l≠[]:=fun e=>by rw[e] at hi;simp at hi
 have hdl:=BX hi
 refine az.bn Tryz.func78 QX SX U7 (Nat.le_of_ble_eq_true rfl) (fun hwf W0 D0 E1 =>?_)
 simp only[Bg,K8,bg,Nat.zero_add]
 clear hwf
 refine .ar (by decide +kernel) fun K hK =>?_
 simp only[Hv,ab,simprocAttr]
 refine .done (hK _ ?_);clear hK K
 refine .ar (by decide +kernel) fun K hK =>?_
 simp only[Hw,ab,simprocAttr]
 refine .bQ false [(7,6)] [] [enc l] (uK l) rfl (yD l (by omega)) fy.nil ⟨.inl ⟨(gL _ _).symm,bG _ _,dz _⟩,trivial⟩ ?_ ?_
 ·rintro x os' (⟨_,h | h,rfl⟩ | ⟨_,k,rfl,rfl⟩)
  ·subst h;exact dn.nil (fun _=>rfl) (fun h=>by cases h)
  ·subst h;exact dn.nil (fun _=>rfl) (fun h=>by cases h)
  ·exact dn.o9 (fun p=>sG p _) (fun h=>by cases h) rfl (fun h=>by cases h) rfl (by decide)
 ·rintro x os' (⟨hn,_,_⟩ | ⟨hn,k,rfl,rfl⟩)
  ·exact absurd hn hne
  try simp only[dA,fK,fS,List.cons_append,List.nil_append,ab,simprocAttr]
  rw[cN _ (by omega) (by omega)]
  have hp1:(i:Int)+1=((i+1:Nat):Int):=by omega
  simp only[hp1]
  refine .bQ false [(1000000,6)] (dA 1000000 l k) [.view 1000000 [] 17 0 l.length,enc (i:Int),enc ((i+1:Nat):Int)] (BU l i) rfl (MO l i k hi (by omega)) ⟨?_,?_⟩ ⟨.inl ⟨?_,?_,rfl⟩,.inl ⟨rfl,rfl,rfl⟩,.inl ⟨rfl,rfl,rfl⟩,trivial⟩ ?_ ?_
  ·intro n x h
   simp only[dA,al] at h
   split at h
   ·rename_i hn'
    subst hn'
    simp only[Option.some.injEq] at h
    subst h
    exact ⟨by simp only[fK,fS,ab,simprocAttr],sG _ _,rfl⟩
   ·cases h
  ·intro a b ha hb _
   rw[cV.1 ha,cV.1 hb]
  ·try simp only[fK,simprocAttr]
  ·exact cV.2 rfl
  ·rintro x os' ⟨q,rfl,rfl⟩
   exact dn.xz (fun p=>sG p _) (fun h=>by cases h) rfl (fun h=>by cases h)
  ·rintro x os' ⟨q,rfl,rfl⟩
   rw[←hdl]
   generalize hL:dG l i=aA at hdl ⊢
   try simp only[dA,fK,fS,List.cons_append,List.nil_append,ab,simprocAttr]
   refine .done (hK _ ?_);clear hK K
   refine U.ret ?_
   simp only[ab,simprocAttr]
   try simp only[pZ (α:=ak) (sz:=17) rfl,ab,simprocAttr]
   rw[hL];simp
theorem MN(a b:List Int):az Tryz.prog 134 [enc a,enc b] (enc (decide (a=b))):=by
 refine az.bn Tryz.func134 PH RE TO (Nat.le_of_ble_eq_true rfl) (fun hwf W0 D0 E1 =>?_)
 simp only[zQ,JR,bg,Nat.zero_add]
 have hlen:a.length≤maxLen:=((j6 a).1 hwf.1).1
 simp only[maxLen] at hlen
 clear hwf
 by_cases hl:a.length=b.length
 case neg =>
  have hn:((a.length:Int) != (b.length:Int))=true:=by simp;omega
  have R:=And.intro @hn (And.intro @bI (And.intro @aP @ab))
  repeat' ((first
   |(with_reducible refine .guard (fun hb =>?_) (fun hb =>?_) <;>try simp only[hb])
   |refine U.aL (by decide +kernel) rfl fun K hK =>?_
   |(refine .aF [0,1,4,5,10,12,13,14,24] hK ?_;clear hK K)
   |(with_reducible refine .done (hK _ ?_);clear hK K)
   |refine U.of rfl ?_
   |(with_reducible refine ao.aK (fun h =>?_) (fun h =>?_) <;>try simp only[h])) <;>try simp only[aM,R,simprocAttr])
  all_goals clear R
  have:¬ a=b:=fun e=>hl (by rw[e])
  simp[this]
 have hn:((a.length:Int) != (b.length:Int))=false:=by simp;omega
 have R:=And.intro @hn (And.intro @bI (And.intro @aP @ab))
 repeat' ((first
  |(with_reducible refine .guard (fun hb =>?_) (fun hb =>?_) <;>try simp only[hb])
  |refine U.aL (by decide +kernel) rfl fun K hK =>?_
  |(refine .aF [0,1,4,5,10,12,13,14,24] hK ?_;clear hK K)
  |(with_reducible refine .done (hK _ ?_);clear hK K)
  |refine U.of rfl ?_
  |(with_reducible refine ao.aK (fun h =>?_) (fun h =>?_) <;>try simp only[h])) <;>try simp only[aM,R,simprocAttr])
 all_goals clear R
 refine U.loop (fun i:Nat=>av [(0,enc a),(1,enc b),(12,.int .i64 a.length),(13,.int .i64 i)] []) (fun i=>i≤a.length∧∀ k,k<i→a[k]?=b[k]?) (fun i=>a.length-i) 0 ⟨Nat.zero_le _,fun k h=>by omega⟩ ?_ (fun i hi =>?_)
 ·refine aI.b9 ?_ ?_ ?_ ?_ <;>simp[bd,bT,bS,bD,bh,I.only,bG]
 obtain ⟨hi1,hi2⟩:=hi
 by_cases hlt:i<a.length
 ·have hc:=fY hlt
  have he:=fun A=>gw (A:=A) 1 hlt rfl
  have hlt2:i<b.length:=by omega
  have he2:=fun A=>gw (A:=A) 1 hlt2 rfl
  have hw:=fF (i:=i) (by omega)
  rcases hp:(a[i] != b[i])
  ·have R:=And.intro @hc (And.intro @he (And.intro @he2 (And.intro @hp (And.intro @hw (And.intro @gb (And.intro @bI @ab))))))
   repeat' ((first
    |(with_reducible refine .guard (fun hb =>?_) (fun hb =>?_) <;>try simp only[hb])
    |refine U.aL (by decide +kernel) rfl fun K hK =>?_
    |(refine .aF [0,1,4,5,10,12,13,14,24] hK ?_;clear hK K)
    |(with_reducible refine .done (hK _ ?_);clear hK K)
    |refine U.of rfl ?_
    |(with_reducible refine ao.aK (fun h =>?_) (fun h =>?_) <;>try simp only[h])) <;>try simp only[aM,R,simprocAttr])
   all_goals clear R
   refine ⟨i+1,⟨by omega,fun k hk =>?_⟩,by omega,?_⟩
   ·by_cases e:k=i
    ·subst e
     have:a[k]=b[k]:=by simpa using hp
     simp[hlt,hlt2,this]
    ·exact hi2 k (by omega)
   ·refine aI.b9 ?_ ?_ ?_ ?_ <;>simp[bd,bT,bS,bD,bh,I.only,bG]
  ·have R:=And.intro @hc (And.intro @he (And.intro @he2 (And.intro @hp (And.intro @gb (And.intro @bI @ab)))))
   repeat' ((first
    |(with_reducible refine .guard (fun hb =>?_) (fun hb =>?_) <;>try simp only[hb])
    |refine U.aL (by decide +kernel) rfl fun K hK =>?_
    |(refine .aF [0,1,4,5,10,12,13,14,24] hK ?_;clear hK K)
    |(with_reducible refine .done (hK _ ?_);clear hK K)
    |refine U.of rfl ?_
    |(with_reducible refine ao.aK (fun h =>?_) (fun h =>?_) <;>try simp only[h])) <;>try simp only[aM,R,simprocAttr])
   all_goals clear R
   have:¬ a=b:=fun e=>by subst e;simp at hp
   simp[this]
 ·have hc:=gp hlt
  have R:=And.intro @hc (And.intro @bI @ab)
  repeat' ((first
   |(with_reducible refine .guard (fun hb =>?_) (fun hb =>?_) <;>try simp only[hb])
   |refine U.aL (by decide +kernel) rfl fun K hK =>?_
   |(refine .aF [0,1,4,5,10,12,13,14,24] hK ?_;clear hK K)
   |(with_reducible refine .done (hK _ ?_);clear hK K)
   |refine U.of rfl ?_
   |(with_reducible refine ao.aK (fun h =>?_) (fun h =>?_) <;>try simp only[h])) <;>try simp only[aM,R,simprocAttr])
  all_goals clear R
  have:a=b:=List.ext_getElem? fun k=>by
   by_cases hk:k<i
   ·exact hi2 k hk
   ·rw[List.getElem?_eq_none (by omega),List.getElem?_eq_none (by omega)]
  simp[this]
def rv(b:aY):bL 8 Int:=⟨[b.no,b.fj,b.fb,b.cB,b.jx,b.born,b.fc,if b.found then 1 else 0],rfl⟩
theorem O7(a b c d e f g h:Int):(eB [.int .i64 0,.int .i64 0,.int .i64 0,.int .i64 0,.int .i64 0,.int .i64 0,.int .i64 0,.int .i64 0] [(0,.int .i64 a),(1,.int .i64 b),(2,.int .i64 c),(3,.int .i64 d),(4,.int .i64 e),(5,.int .i64 f),(6,.int .i64 g),(7,.int .i64 h)])=some [.int .i64 a,.int .i64 b,.int .i64 c,.int .i64 d,.int .i64 e,.int .i64 f,.int .i64 g,.int .i64 h]:=by simp[eB,I.cq,I.size]
theorem ajs{A:af}{n:Nat}{w:I}{a b c d e f g h a' b' c' d' e' f' g' h':Int}{rest:List aB} : dY A (some 8) n [] w (.agg [.int .i64 a,.int .i64 b,.int .i64 c,.int .i64 d,.int .i64 e,.int .i64 f,.int .i64 g,.int .i64 h]) rest (some (.agg [.int .i64 a',.int .i64 b',.int .i64 c',.int .i64 d',.int .i64 e',.int .i64 f',.int .i64 g',.int .i64 h'])) =
  aC rest (A.aR n (.box (.agg [.int .i64 a,.int .i64 b,.int .i64 c,.int .i64 d,.int .i64 e,.int .i64 f,.int .i64 g,.int .i64 h]))):=by
 refine (fq (s:=some 8) (by rfl) (by rfl) (by rfl)).trans ?_
 rw[gh]
theorem ah1{a b c d e f g h:Int} : bZ (some 8) (.agg [.int .i64 a,.int .i64 b,.int .i64 c,.int .i64 d,.int .i64 e,.int .i64 f,.int .i64 g,.int .i64 h])=true:=rfl
theorem yC(b:aY):az Tryz.prog 133 [.ref (enc (⟨b⟩:ez))] (enc (rv b)):=by
 refine az.bn Tryz.func133 PG RD TN (Nat.le_of_ble_eq_true rfl) (fun hwf W0 D0 E1 =>?_)
 simp only[zP,JQ,bg]
 clear hwf
 rcases hf:b.found
 all_goals
  have R:=And.intro @hf (And.intro @O7 (And.intro @ajs (And.intro @ah1 eV)))
  repeat' ((first
   |(with_reducible refine .guard (fun hb =>?_) (fun hb =>?_) <;>try simp only[hb])
   |refine U.aL (by decide +kernel) rfl fun K hK =>?_
   |(refine .aF [0,2,3,8] hK ?_;clear hK K)
   |(with_reducible refine .done (hK _ ?_);clear hK K)
   |refine U.of rfl ?_
   |(with_reducible refine ao.aK (fun h =>?_) (fun h =>?_) <;>try simp only[h])) <;>try simp only[aM,R,simprocAttr])
  all_goals clear R
  simp[rv,hf];rfl
def jG:Option aY→I
 |none=>.nilp
 |some b=>.ref (enc (⟨b⟩:ez))
def nT(m:cH):Option aY→Option aY→Bool
 |some a,some b=>decide ((rv a).l=(rv b).l)&&decide ((iL m a.cd).1=(iL m b.cd).1)
 |none,none=>true
 |_,_=>false
theorem xL:l6 false (some true) (some false)=some (.bool false):=rfl
theorem NS(m:cH)(x y:Option aY):az Tryz.prog 77 [enc m,jG x,jG y] (enc (nT m x y)):=by
 rcases x with _ | a
 ·rcases y with _ | b
  all_goals
   simp only[jG,nT]
   refine az.bn Tryz.func77 uC uF uQ (Nat.le_of_ble_eq_true rfl) (fun hwf W0 D0 E1 =>?_)
   simp only[rE,td,bg,Nat.zero_add,Nat.reduceAdd]
   clear hwf
   have R:=And.intro @xL (And.intro @rQ (And.intro @im eV))
   repeat' ((first
    |(with_reducible refine .guard (fun hb =>?_) (fun hb =>?_) <;>try simp only[hb])
    |refine U.aL (by decide +kernel) rfl fun K hK =>?_
    |(refine .aF [0,1,2,3,6,7,13] hK ?_;clear hK K)
    |(with_reducible refine .done (hK _ ?_);clear hK K)
    |refine U.of rfl ?_
    |(with_reducible refine ao.aK (fun h =>?_) (fun h =>?_) <;>try simp only[h])) <;>try simp only[aM,R,simprocAttr])
   all_goals clear R
 rcases y with _ | b
 ·simp only[jG,nT]
  refine az.bn Tryz.func77 uC uF uQ (Nat.le_of_ble_eq_true rfl) (fun hwf W0 D0 E1 =>?_)
  simp only[rE,td,bg,Nat.zero_add,Nat.reduceAdd]
  clear hwf
  have R:=And.intro @xL (And.intro @rQ (And.intro @im eV))
  repeat' ((first
   |(with_reducible refine .guard (fun hb =>?_) (fun hb =>?_) <;>try simp only[hb])
   |refine U.aL (by decide +kernel) rfl fun K hK =>?_
   |(refine .aF [0,1,2,3,6,7,13] hK ?_;clear hK K)
   |(with_reducible refine .done (hK _ ?_);clear hK K)
   |refine U.of rfl ?_
   |(with_reducible refine ao.aK (fun h =>?_) (fun h =>?_) <;>try simp only[h])) <;>try simp only[aM,R,simprocAttr])
  all_goals clear R
 simp only[jG,nT]
 refine az.bn Tryz.func77 uC uF uQ (Nat.le_of_ble_eq_true rfl) (fun hwf W0 D0 E1 =>?_)
 simp only[rE,td,bg,Nat.zero_add,Nat.reduceAdd]
 clear hwf
 have ha:=re m a
 have hyB:=re m b
 have h3:=yC a
 have h4:=yC b
 have R:=And.intro @xL (And.intro @rQ (And.intro @im eV))
 repeat' ((first
  |(with_reducible refine .guard (fun hb =>?_) (fun hb =>?_) <;>try simp only[hb])
  |refine U.aL (by decide +kernel) rfl fun K hK =>?_
  |refine .flat _ (h3) rfl ?_
  |refine .flat _ (h4) rfl ?_
  |refine .lead _ (ha) ?_
  |refine .lead _ (hyB) ?_
  |refine .flat _ (MN _ _) rfl ?_
  |(refine .aF [0,1,2,3,6,7,13] hK ?_;clear hK K)
  |(with_reducible refine .done (hK _ ?_);clear hK K)
  |refine U.of rfl ?_
  |(with_reducible refine ao.aK (fun h =>?_) (fun h =>?_) <;>try simp only[h])) <;>try simp only[aM,R,List.cons_append,simprocAttr])
 all_goals clear R
 all_goals simp_all
def tq(m:cH)(l:List ak)(no known:Int)(i:Nat):Bool := !nT m (dD (dH l 100000 known) no) (dD (dH (dG l i) 100000 known) no)
def jo(m:cH)(l:List ak)(no known:Int)(n:Nat):List Item:=((List.range n).filter (tq m l no known)).map fun i=>(ae l i).bj
theorem aiU(m:cH)(l:List ak)(no known:Int)(n:Nat):jo m l no known (n+1)=jo m l no known n++if tq m l no known n then [(ae l n).bj] else []:=by
 simp only[jo,List.range_succ,List.filter_append,List.map_append,List.filter_cons,List.filter_nil]
 congr 1
 split <;>rfl
theorem aiT(m:cH)(l:List ak)(no known:Int)(n:Nat):(jo m l no known n).length≤n:=by
 simp only[jo,List.length_map]
 have:=List.length_filter_le (tq m l no known) (List.range n)
 simpa using this
def tr(m:cH)(l:List ak)(no known:Int):List Item×Int:=if (kK m l no known).2=0 then (jo m l no known l.length,0) else ([],(kK m l no known).2)
theorem OJ{m:cH}{l:List ak}{no known:Int}(h:(kK m l no known).2=0):c6 l=true:=by
 simp only[kK] at h
 repeat' split at h
 all_goals first | (exact nj (by assumption)) | (simp_all;done) | exact nj h
theorem I7(p:Nat→Bool)(x:Option aY):(jG x).only p=true:=by cases x <;>simp[jG,I.only,bG]
theorem xu{l:List ak} : c6 l=true↔l.length≤60∧(∀ x∈l,gB x=true)∧l.Pairwise fun a b=>before a.bj b.bj=true:=by
 constructor
 ·intro h
  refine ⟨jE h,fun x hx =>?_,List.pairwise_iff_getElem.2 fun i j hi hj hij =>?_⟩
  ·obtain ⟨i,hi,rfl⟩:=List.getElem_of_mem hx
   have:=xr h hi
   rwa [←eA hi] at this
  ·have:=IY h hij hj
   rwa [←eA hi,←eA hj] at this
 ·rintro ⟨h1,h2,h3⟩
  refine xt h1 fun i hi =>?_
  simp only[gU,Bool.and_eq_true,Bool.or_eq_true,decide_eq_true_eq]
  refine ⟨by rw[←eA hi];exact h2 _ (List.getElem_mem hi),?_⟩
  by_cases h0:i=0
  ·exact .inl h0
  ·right
   have:=List.pairwise_iff_getElem.1 h3 (i-1) i (by omega) hi (by omega)
   rwa [eA,eA] at this
theorem ahS{l l':List ak}(hs:l'.Sublist l)(h:c6 l=true):c6 l'=true:=by
 obtain ⟨h1,h2,h3⟩:=xu.1 h
 exact xu.2 ⟨Nat.le_trans hs.length_le h1,fun x hx=>h2 x (hs.subset hx),h3.sublist hs⟩
theorem BW(l:List ak)(i:Nat):(dG l i).Sublist l:=by
 have:=(List.take_append_drop i l)
 simp only[dG]
 conv=>rhs;rw[←this]
 refine List.Sublist.append_left ?_ _
 rw[←List.drop_drop]
 exact List.drop_sublist _ _
theorem ahR{l:List ak}(hok:c6 l=true)(i:Nat):c6 (dG l i)=true:=ahS (BW l i) hok
theorem Ni(m:cH)(l:List ak)(no known:Int):az Tryz.prog 18 [enc m,enc l,enc no,enc known] (.tuple [enc (tr m l no known).1,enc (tr m l no known).2]):=by
 refine az.bn Tryz.func18 Qf Sd Up (Nat.le_of_ble_eq_true rfl) (fun hwf W0 D0 E1 =>?_)
 simp only[Aw,Kq,bg,Nat.zero_add,Nat.reduceAdd]
 clear hwf
 have hC:=tW m l no known
 simp only[tr]
 have hok0:=OJ (m:=m) (l:=l) (no:=no) (known:=known)
 generalize kK m l no known=e at hC hok0 ⊢
 obtain ⟨e1,e2⟩:=e
 simp only at hC hok0 ⊢
 by_cases he:e2=0
 case neg =>
  have hn:=o7 he
  have R:=And.intro @hn (And.intro @he (And.intro @im eV))
  repeat' ((first
   |(with_reducible refine .guard (fun hb =>?_) (fun hb =>?_) <;>try simp only[hb])
   |refine U.aL (by decide +kernel) rfl fun K hK =>?_
   |refine .lead _ (hC) ?_
   |(refine .aF [0,1,2,3,4,8,9,11,12,13,14,15,25,35,36,37,38,55] hK ?_;clear hK K)
   |(with_reducible refine .done (hK _ ?_);clear hK K)
   |refine U.of rfl ?_
   |(with_reducible refine ao.aK (fun h =>?_) (fun h =>?_) <;>try simp only[h])) <;>try simp only[aM,R,simprocAttr])
  all_goals clear R
  all_goals rfl
 have hn:=o6 he
 have hok:=hok0 he
 subst he
 have hF:=qZ l known hok
 have hk:=sB (dH l 100000 known) no
 have hx:fX (.i .i64) .nilp (.int .i64 no) (dh (dH l 100000 known)) ((dH l 100000 known).map fun b=>.ref (enc (⟨b⟩:ez)))=some (jG (dD (dH l 100000 known) no),(dD (dH l 100000 known) no).isSome):=by
  rw[hk];cases dD (dH l 100000 known) no <;>rfl
 have hlen:=jE hok
 have R:=And.intro @hn (And.intro @hx (And.intro @im eV))
 repeat' ((first
  |(with_reducible refine .guard (fun hb =>?_) (fun hb =>?_) <;>try simp only[hb])
  |refine U.aL (by decide +kernel) rfl fun K hK =>?_
  |refine .lead _ (hC) ?_
  |refine .lead _ (hF) ?_
  |(refine .aF [0,1,2,3,4,8,9,11,12,13,14,15,25,35,36,37,38,55] hK ?_;clear hK K)
  |(with_reducible refine .done (hK _ ?_);clear hK K)
  |refine U.of rfl ?_
  |(with_reducible refine ao.aK (fun h =>?_) (fun h =>?_) <;>try simp only[h])) <;>try simp only[aM,R,simprocAttr])
 all_goals clear R
 refine U.loop (fun i:Nat=>av [(1,enc l),(2,.int .i64 no),(3,.int .i64 known),(4,.ptr 4 []),(12,jG (dD (dH l 100000 known) no)),(13,.own 913 (jo m l no known i).length),(35,enc l),(36,.int .i64 l.length),(37,.int .i64 i)] [(4,.box (enc m)),(913,.bX 65 2 ((jo m l no known i).map enc))]) (fun i=>i≤l.length) (fun i=>l.length-i) 0 (Nat.zero_le _) ?_ (fun i hi =>?_)
 ·refine aI.pK 13 913 65 2 2 rfl rfl ?_
  simp only[jo,List.range_zero,List.filter_nil,List.map_nil,List.length_nil]
  refine aI.b9 ?_ ?_ ?_ ?_ <;>simp[*,bd,bT,bS,bD,au,bh,cI,I.only,I.bU,ai.only,bG,I7]
 have hRl:=aiT m l no known i
 by_cases hlt:i<l.length
 ·have hc:=fY hlt
  have he:=fun A=>gv (A:=A) hlt
  have hw:=fF (i:=i) (by omega)
  have hD:=yS l i hlt hlen
  have hokd:=ahR hok i
  have hF2:=qZ (dG l i) known hokd
  have hk2:=sB (dH (dG l i) 100000 known) no
  have hx2:fX (.i .i64) .nilp (.int .i64 no) (dh (dH (dG l i) 100000 known)) ((dH (dG l i) 100000 known).map fun b=>.ref (enc (⟨b⟩:ez)))=some (jG (dD (dH (dG l i) 100000 known) no),(dD (dH (dG l i) 100000 known) no).isSome):=by
   rw[hk2];cases dD (dH (dG l i) 100000 known) no <;>rfl
  have hS:=NS m (dD (dH l 100000 known) no) (dD (dH (dG l i) 100000 known) no)
  have hsu:=aiU m l no known i
  have hp:tq m l no known i = !nT m (dD (dH l 100000 known) no) (dD (dH (dG l i) 100000 known) no):=rfl
  rw[hp] at hsu
  generalize nT m (dD (dH l 100000 known) no) (dD (dH (dG l i) 100000 known) no)=b at hS hsu
  have happ:=fun (A:af) d rest=>oy (α:=Item) (A:=A) (d:=d) 65 2 16 913 (l:=(jo m l no known i).length) (es:=jo m l no known i) (ys:=[(ae l i).bj]) (rest:=rest) rfl rfl (by simp) (by simp[maxLen];omega) (by simp;omega)
  have hbs:=ni 2 (ae l i).bj rfl
  have hol:(∀ aD A x,bp aD A (jG x)=some (jG x)):=fun aD A x=>by cases x <;>simp[jG,bp,dO]
  cases b
  all_goals
   simp only[Bool.not_true,Bool.not_false,if_true,Bool.false_eq_true,if_false,List.append_nil] at hsu
   have R:=And.intro @hc (And.intro @he (And.intro @hw (And.intro @hx2 (And.intro @happ (And.intro @hbs (And.intro @hol (And.intro @im eV)))))))
   repeat' ((first
    |(with_reducible refine .guard (fun hb =>?_) (fun hb =>?_) <;>try simp only[hb])
    |refine U.aL (by decide +kernel) rfl fun K hK =>?_
    |refine .lead _ (hD) ?_
    |refine .lead _ (hF2) ?_
    |refine .flat _ (hS) rfl ?_
    |(refine .aF [0,1,2,3,4,8,9,11,12,13,14,15,25,35,36,37,38,55] hK ?_;clear hK K)
    |(with_reducible refine .done (hK _ ?_);clear hK K)
    |refine U.of rfl ?_
    |(with_reducible refine ao.aK (fun h =>?_) (fun h =>?_) <;>try simp only[h])) <;>try simp only[aM,R,simprocAttr])
   all_goals clear R
   refine ⟨i+1,by omega,by omega,?_⟩
   simp only[hsu]
   refine aI.b9 ?_ ?_ ?_ ?_ <;>simp[*,bd,bT,bS,bD,au,bh,cI,I.only,I.bU,ai.only,ev,jF,bG,I7]
 ·have hc:=gp hlt
  have hie:i=l.length:=by omega
  subst hie
  have hfo:np (jo m l no known l.length).length (some (.bX 65 2 ((jo m l no known l.length).map enc)))=some (enc (jo m l no known l.length)):=rS 2 rfl rfl
  have R:=And.intro @hc (And.intro @hfo (And.intro @bI (And.intro @aP @ab)))
  repeat' ((first
   |(with_reducible refine .guard (fun hb =>?_) (fun hb =>?_) <;>try simp only[hb])
   |refine U.aL (by decide +kernel) rfl fun K hK =>?_
   |(refine .aF [0,1,2,3,4,8,9,11,12,13,14,15,25,35,36,37,38,55] hK ?_;clear hK K)
   |(with_reducible refine .done (hK _ ?_);clear hK K)
   |refine U.of rfl ?_
   |(with_reducible refine ao.aK (fun h =>?_) (fun h =>?_) <;>try simp only[h])) <;>try simp only[aM,R,simprocAttr])
  all_goals clear R
theorem Nv(a b:List Item):az Tryz.prog 21 [enc a,enc b] (enc (decide (a=b))):=by
 refine az.bn Tryz.func21 Qq Sp UA (Nat.le_of_ble_eq_true rfl) (fun hwf W0 D0 E1 =>?_)
 simp only[AI,KC,bg,Nat.zero_add]
 have hlen:a.length≤maxLen:=((j6 a).1 hwf.1).1
 simp only[maxLen] at hlen
 clear hwf
 by_cases hl:a.length=b.length
 case neg =>
  have hn:((a.length:Int) != (b.length:Int))=true:=by simp;omega
  have R:=And.intro @hn (And.intro @bI (And.intro @aP @ab))
  repeat' ((first
   |(with_reducible refine .guard (fun hb =>?_) (fun hb =>?_) <;>try simp only[hb])
   |refine U.aL (by decide +kernel) rfl fun K hK =>?_
   |(refine .aF [0,1,4,5,10,14,25] hK ?_;clear hK K)
   |(with_reducible refine .done (hK _ ?_);clear hK K)
   |refine U.of rfl ?_
   |(with_reducible refine ao.aK (fun h =>?_) (fun h =>?_) <;>try simp only[h])) <;>try simp only[aM,R,simprocAttr])
  all_goals clear R
  have:¬ a=b:=fun e=>hl (by rw[e])
  simp[this]
 have hn:((a.length:Int) != (b.length:Int))=false:=by simp;omega
 have R:=And.intro @hn (And.intro @bI (And.intro @aP @ab))
 repeat' ((first
  |(with_reducible refine .guard (fun hb =>?_) (fun hb =>?_) <;>try simp only[hb])
  |refine U.aL (by decide +kernel) rfl fun K hK =>?_
  |(refine .aF [0,1,4,5,10,14,25] hK ?_;clear hK K)
  |(with_reducible refine .done (hK _ ?_);clear hK K)
  |refine U.of rfl ?_
  |(with_reducible refine ao.aK (fun h =>?_) (fun h =>?_) <;>try simp only[h])) <;>try simp only[aM,R,simprocAttr])
 all_goals clear R
 refine U.loop (fun i:Nat=>av [(0,enc a),(1,enc b),(5,.int .i64 i)] []) (fun i=>i≤a.length∧∀ k,k<i→a[k]?=b[k]?) (fun i=>a.length-i) 0 ⟨Nat.zero_le _,fun k h=>by omega⟩ ?_ (fun i hi =>?_)
 ·refine aI.b9 ?_ ?_ ?_ ?_ <;>simp[bd,bT,bS,bD,bh,I.only,bG]
 obtain ⟨hi1,hi2⟩:=hi
 by_cases hlt:i<a.length
 ·have hc:=fY hlt
  have he:=fun A=>gw (A:=A) 2 hlt rfl
  have hlt2:i<b.length:=by omega
  have he2:=fun A=>gw (A:=A) 2 hlt2 rfl
  have hw:=fF (i:=i) (by omega)
  rcases hp:decide (a[i]=b[i])
  ·have R:=And.intro @hc (And.intro @he (And.intro @he2 (And.intro @hp (And.intro @gb (And.intro @bI (And.intro @aP @ab))))))
   repeat' ((first
    |(with_reducible refine .guard (fun hb =>?_) (fun hb =>?_) <;>try simp only[hb])
    |refine U.aL (by decide +kernel) rfl fun K hK =>?_
    |(refine .aF [0,1,4,5,10,14,25] hK ?_;clear hK K)
    |(with_reducible refine .done (hK _ ?_);clear hK K)
    |refine U.of rfl ?_
    |(with_reducible refine ao.aK (fun h =>?_) (fun h =>?_) <;>try simp only[h])) <;>try simp only[aM,R,simprocAttr])
   all_goals clear R
   have:¬ a=b:=fun e=>by subst e;simp at hp
   simp[this]
  ·have R:=And.intro @hc (And.intro @he (And.intro @he2 (And.intro @hp (And.intro @hw (And.intro @gb (And.intro @bI (And.intro @aP @ab)))))))
   repeat' ((first
    |(with_reducible refine .guard (fun hb =>?_) (fun hb =>?_) <;>try simp only[hb])
    |refine U.aL (by decide +kernel) rfl fun K hK =>?_
    |(refine .aF [0,1,4,5,10,14,25] hK ?_;clear hK K)
    |(with_reducible refine .done (hK _ ?_);clear hK K)
    |refine U.of rfl ?_
    |(with_reducible refine ao.aK (fun h =>?_) (fun h =>?_) <;>try simp only[h])) <;>try simp only[aM,R,simprocAttr])
   all_goals clear R
   refine ⟨i+1,⟨by omega,fun k hk =>?_⟩,by omega,?_⟩
   ·by_cases e:k=i
    ·subst e
     have:a[k]=b[k]:=by simpa using hp
     simp[hlt,hlt2,this]
    ·exact hi2 k (by omega)
   ·refine aI.b9 ?_ ?_ ?_ ?_ <;>simp[bd,bT,bS,bD,bh,I.only,bG]
 ·have hc:=gp hlt
  have R:=And.intro @hc (And.intro @bI (And.intro @aP @ab))
  repeat' ((first
   |(with_reducible refine .guard (fun hb =>?_) (fun hb =>?_) <;>try simp only[hb])
   |refine U.aL (by decide +kernel) rfl fun K hK =>?_
   |(refine .aF [0,1,4,5,10,14,25] hK ?_;clear hK K)
   |(with_reducible refine .done (hK _ ?_);clear hK K)
   |refine U.of rfl ?_
   |(with_reducible refine ao.aK (fun h =>?_) (fun h =>?_) <;>try simp only[h])) <;>try simp only[aM,R,simprocAttr])
  all_goals clear R
  have:a=b:=List.ext_getElem? fun k=>by
   by_cases hk:k<i
   ·exact hi2 k hk
   ·rw[List.getElem?_eq_none (by omega),List.getElem?_eq_none (by omega)]
  simp[this]
def jv(a b c d e f:Int):bL 6 Int:=⟨[a,b,c,d,e,f],rfl⟩
def OF(a b c d e:Int):bL 5 Int:=⟨[a,b,c,d,e],rfl⟩
def kT(n k d kn b fb s o:Int)(r:bL 6 Int)(f:Int):ak:=⟨⟨0,n⟩,k,d,kn,b,fb,s,o,r,⟨0,f⟩⟩
def iD:List ak:=[kT 0 1 1 1 10 0 3 2 (jv 0 0 0 0 0 0) 0,kT 1 1 5 5 11 10 3 2 (jv 0 0 0 0 0 0) 0,kT 2 2 6 6 20 0 3 0 (jv 0 0 0 0 0 0) 0,kT 3 4 6 6 20 0 0 0 (jv 31 1 1 1 1 31) 0,kT 4 3 7 7 10 0 0 1 (jv 0 0 0 0 0 0) 0,
 kT 5 4 6 9 20 0 0 0 (jv 24 1 1 1 1 31) 0,kT 6 5 10 10 20 0 0 3 (jv 0 0 0 0 0 0) 0,kT 7 4 8 11 11 0 0 0 (jv 1 1 1 1 1 1) 0,kT 8 6 12 12 10 0 0 0 (jv 0 0 0 0 0 0) 0,kT 9 0 0 14 0 0 0 0 (jv 0 0 0 0 0 0) 5]
def kU:cH:=⟨OF 1 3 4 24 24,0,[⟨1,jv 0 0 0 0 0 0⟩,⟨2,jv 2 0 0 0 0 0⟩,⟨3,jv 3 0 0 0 0 2⟩]⟩
theorem NU:az Tryz.prog 81 [] (enc iD):=by
 refine az.bn Tryz.func81 QZ SZ U9 (Nat.le_of_ble_eq_true rfl) (fun hwf W0 D0 E1 =>?_)
 simp only[Bi,La,bg]
 clear hwf
 refine .ar (by decide +kernel) fun K hK =>?_
 simp only[Hx,ab,simprocAttr]
 refine .done (hK _ ?_);clear hK K
 refine .ar (by decide +kernel) fun K hK =>?_
 simp only[Hy,ab,simprocAttr]
 try simp only[eB,I.cq,I.size,I.sizes,List.set_cons_zero,List.set_cons_succ,List.getElem?_cons_zero,List.getElem?_cons_succ,and_self,ab,simprocAttr]
 simp only[hX]
 rw[if_pos ⟨by rfl,by rfl⟩]
 try simp only[ab,simprocAttr]
 refine .done (hK _ ?_);clear hK K
 refine U.ret ?_
 simp only[ab,simprocAttr]
 try simp only[Bool.and_self,ab,simprocAttr]
 rfl
theorem NV:az Tryz.prog 82 [] (enc kU):=by
 refine az.bn Tryz.func82 Q0 S0 Va (Nat.le_of_ble_eq_true rfl) (fun hwf W0 D0 E1 =>?_)
 simp only[Bj,Lb,bg]
 clear hwf
 refine .ar (by decide +kernel) fun K hK =>?_
 simp only[Hz,ab,simprocAttr]
 refine .done (hK _ ?_);clear hK K
 refine .ar (by decide +kernel) fun K hK =>?_
 simp only[HA,ab,simprocAttr]
 try simp only[eB,I.cq,I.size,I.sizes,List.set_cons_zero,List.set_cons_succ,List.getElem?_cons_zero,List.getElem?_cons_succ,and_self,ab,simprocAttr]
 simp only[hX]
 rw[if_pos ⟨by rfl,by rfl⟩]
 try simp only[eB,I.cq,I.size,I.sizes,List.set_cons_zero,List.set_cons_succ,List.getElem?_cons_zero,List.getElem?_cons_succ,and_self,ab,simprocAttr]
 rw[fq (by rfl) (by rfl) (by rfl)]
 try simp only[gh,ab,simprocAttr]
 refine .done (hK _ ?_);clear hK K
 refine U.ret ?_
 simp only[ab,simprocAttr]
 rw[if_pos (by rfl)]
 try simp only[Bool.and_self,ab,simprocAttr]
 rfl
def nA(x:Int):List Int→List Int
 | []=>[x]
 |y::l=>if x≤y then x::y::l else y::nA x l
def lf:List Int→List Int
 | []=>[]
 |x::l=>nA x (lf l)
theorem wJ(x:Int):∀ l,(nA x l).Perm (x::l)
 | []=>.refl _
 |y::l=>by
  simp only[nA]
  split
  ·exact .refl _
  ·exact ((wJ x l).cons y).trans (.swap x y l)
theorem H7(x:Int):∀ l:List Int,l.Pairwise (· ≤ ·)→(nA x l).Pairwise (· ≤ ·)
 | [],_=>by simp[nA]
 |y::l,h=>by
  obtain ⟨h1,h2⟩:=List.pairwise_cons.1 h
  simp only[nA]
  split
  ·rename_i hxy
   refine List.pairwise_cons.2 ⟨fun z hz =>?_,h⟩
   rcases List.mem_cons.1 hz with rfl | hz
   ·exact hxy
   ·have:=h1 z hz;omega
  ·refine List.pairwise_cons.2 ⟨fun z hz =>?_,H7 x l h2⟩
   rcases List.mem_cons.1 ((wJ x l).mem_iff.1 hz) with rfl | hz
   ·omega
   ·exact h1 z hz
theorem If:∀ l,(lf l).Perm l
 | []=>.refl _
 |x::l=>(wJ x _).trans ((If l).cons x)
theorem Ig:∀ l,(lf l).Pairwise (· ≤ ·)
 | []=>.nil
 |x::l=>H7 x _ (Ig l)
theorem ajr{a b:List Int}(ha:a.Pairwise (· ≤ ·))(hb:b.Pairwise (· ≤ ·))(h:a.Perm b):a=b :=
 List.Perm.eq_of_pairwise (fun x y _ _ h k=>Int.le_antisymm h k) ha hb h
theorem ajn(l:List Int):(eb l).Pairwise (· ≤ ·):=by
 have hx:=List.pairwise_mergeSort (le:=fun x y:Int=>decide (x≤y)) (by intro a b c;simp;omega) (by intro a b;simp;omega) l
 exact hx.imp fun {a b} h=>by simpa using h
theorem ajl(l:List Int):(eb l).Perm l:=List.mergeSort_perm _ _
theorem LZ(l:List Int):eb l=lf l:=ajr (ajn l) (Ig l) ((ajl l).trans (If l).symm)
theorem WN:sk iD 10 6 7=(2,0):=by decide +kernel
theorem WO:kK kU iD 20 9=([3],0):=by decide +kernel
theorem WQ:kK kU iD 20 14=([1,2,3],0):=by decide +kernel
theorem WR:qS kU iD 11=([11],0):=by
 simp only[qS,LZ];decide +kernel
theorem WS:rJ iD 2 3 7 7=(1,0):=by decide +kernel
theorem WT:pL iD 12 12=([11,20],0):=by
 simp only[pL,LZ];decide +kernel
theorem WU:tr kU iD 20 9=([⟨0,2⟩,⟨0,5⟩],0):=by decide +kernel
theorem O8(b:Int):eB [.int .i64 0,.int .i64 0] [(1,.int .i64 b)]=some [.int .i64 0,.int .i64 b]:=by simp[eB,I.cq,I.size]
theorem Pf(a b c d:Int):hX 2 (some [.agg [.int .i64 a,.int .i64 b],.agg [.int .i64 c,.int .i64 d]])=some (enc ([⟨a,b⟩,⟨c,d⟩]:List Item)):=mD (ys:=([⟨a,b⟩,⟨c,d⟩]:List Item)) 2 rfl
theorem Pe(a b c:Int):hX 1 (some [.int .i64 a,.int .i64 b,.int .i64 c])=some (enc [a,b,c]):=mD (ys:=[a,b,c]) 1 rfl
theorem ajw{A:af}{n:Nat}{b:I}(m:cH)(x y z:I){rest:List aB}(h:I.aT (.agg [x,y,z])=Enc.aT cH):dY A (some 7) n [] b (enc m) rest (some (.agg [x,y,z]))=aC rest (A.aR n (.box (enc m))):=by
 refine (fq (s:=some 7) (dz _) (by rw[gK];rfl) ((fm m).trans h.symm)).trans ?_
 rw[gh]
theorem Nz:az Tryz.prog 22 [] (enc true):=by
 have h1:=NB iD 10 6 7
 have h2:=tW kU iD 20 9
 have h3:=tW kU iD 20 14
 have h4:=MZ kU iD 11
 have h5:=NC iD 2 3 7 7
 have h6:=NA iD 12 12
 have h7:=Ni kU iD 20 9
 rw[WN] at h1
 rw[WO] at h2
 rw[WQ] at h3
 rw[WR] at h4
 rw[WS] at h5
 rw[WT] at h6
 rw[WU] at h7
 simp only at h1 h2 h3 h4 h5 h6 h7
 have h8:=fun a b=>yO a b
 refine az.bn Tryz.func22 Qv Sv UF (Nat.le_of_ble_eq_true rfl) (fun hwf W0 D0 E1 =>?_)
 simp only[AN,KH,bg]
 clear hwf
 have hst:=fun (A:af) (rest:List aB)=>ajw (A:=A) (n:=2) (b:=.agg [.agg [.int .i64 0,.int .i64 0,.int .i64 0,.int .i64 0,.int .i64 0],.int .i64 0,.nils 7]) kU (.agg [.int .i64 0,.int .i64 0,.int .i64 0,.int .i64 0,.int .i64 0]) (.int .i64 0) (.nils 7) (rest:=rest) rfl
 have q1:((2:Int)==2)=true:=rfl
 have q2:((1:Int)==1)=true:=rfl
 have q3:((0:Int)==0)=true:=rfl
 have R:=And.intro @hst (And.intro @q1 (And.intro @q2 (And.intro @q3 (And.intro @im (And.intro @O8 (And.intro @Pf (And.intro @Pd (And.intro @pS (And.intro @Pe (And.intro @aP @ab))))))))))
 repeat' ((first
  |(with_reducible refine .guard (fun hb =>?_) (fun hb =>?_) <;>try simp only[hb])
  |refine U.aL (by decide +kernel) rfl fun K hK =>?_
  |refine .lead _ (NU) ?_
  |refine .lead _ (NV) ?_
  |refine .flat _ (h1) rfl ?_
  |refine .lead _ (h2) ?_
  |refine .lead _ (h3) ?_
  |refine .lead _ (h4) ?_
  |refine .flat _ (h5) rfl ?_
  |refine .lead _ (h6) ?_
  |refine .lead _ (h7) ?_
  |refine .flat _ (yO _ _) rfl ?_
  |refine .flat _ (Nv _ _) rfl ?_
  |(refine .aF [0,1,2,3,4,5,6,7,8,9,10,11,12,13,14,15,16,17] hK ?_;clear hK K)
  |(with_reducible refine .done (hK _ ?_);clear hK K)
  |refine U.of rfl ?_
  |(with_reducible refine ao.aK (fun h =>?_) (fun h =>?_) <;>try simp only[h])) <;>try simp only[aM,R,decide_true,simprocAttr])
 all_goals clear R
 all_goals trace_state
theorem aj9(l:List ak)(no known:Int):az Tryz.prog 92 [enc l,enc no,enc known] (enc (fN l [fo no 9999] [known])):=by
 have hF:=oj l
 refine az.bn Tryz.func92 Q6 S6 Vg (Nat.le_of_ble_eq_true rfl) (fun hwf W0 D0 E1 =>?_)
 simp only[Bp,Lh,bg,Nat.zero_add,Nat.reduceAdd]
 clear hwf
 simp only[fN]
 rcases q1:c6 l
 ·rw[q1,if_neg (by decide)] at hF
  have R:=And.intro @aP @ab
  repeat' ((first
   |(with_reducible refine .guard (fun hb =>?_) (fun hb =>?_) <;>try simp only[hb])
   |refine U.aL (by decide +kernel) rfl fun K hK =>?_
   |refine .flat _ (hF) rfl ?_
   |(refine .aF [0,1,2,6,9,12,15] hK ?_;clear hK K)
   |(with_reducible refine .done (hK _ ?_);clear hK K)
   |refine U.of rfl ?_
   |(with_reducible refine ao.aK (fun h =>?_) (fun h =>?_) <;>try simp only[h])) <;>try simp only[aM,R,Nat.reduceEqDiff,reduceIte,Int.reduceBNe,Nat.reduceBEq])
  all_goals clear R
 ·rw[q1,if_pos rfl] at hF
  have e1:([fo no 9999].all fun n=>b6 1 (n.g 1) (n.g 0))=b6 1 9999 no:=by simp[fo,bL.g]
  have e2:([known].any fun d => !b6 0 100000 d) = !b6 0 100000 known:=by simp
  rw[e1,e2]
  rcases q2:b6 1 9999 no <;>rcases q3:b6 0 100000 known
  all_goals
   have R:=And.intro @q2 (And.intro @q3 (And.intro @aP @ab))
   repeat' ((first
    |(with_reducible refine .guard (fun hb =>?_) (fun hb =>?_) <;>try simp only[hb])
    |refine U.aL (by decide +kernel) rfl fun K hK =>?_
    |refine .flat _ (hF) rfl ?_
    |refine .flat _ (mz _ _ _) rfl ?_
    |refine .flat _ (NR _) rfl ?_
    |(refine .aF [0,1,2,6,9,12,15] hK ?_;clear hK K)
    |(with_reducible refine .done (hK _ ?_);clear hK K)
    |refine U.of rfl ?_
    |(with_reducible refine ao.aK (fun h =>?_) (fun h =>?_) <;>try simp only[h])) <;>try simp only[aM,R,Nat.reduceEqDiff,reduceIte,Int.reduceBNe,Nat.reduceBEq])
   all_goals clear R
theorem NT(l:List ak)(k:Nat)(hl:l.length≤60):az Tryz.prog 80 [enc l,enc (k:Int)] (enc (dG l k)):=by
 refine az.bn Tryz.func80 QY SY U8 (Nat.le_of_ble_eq_true rfl) (fun hwf W0 D0 E1 =>?_)
 simp only[Bh,K9,bg,Nat.zero_add]
 clear hwf
 have R:=And.intro @bI (And.intro @aP @ab)
 repeat' ((first
  |(with_reducible refine .guard (fun hb =>?_) (fun hb =>?_) <;>try simp only[hb])
  |refine U.aL (by decide +kernel) rfl fun K hK =>?_
  |(refine .aF [0,1,4,5,6,10,15] hK ?_;clear hK K)
  |(with_reducible refine .done (hK _ ?_);clear hK K)
  |refine U.of rfl ?_
  |(with_reducible refine ao.aK (fun h =>?_) (fun h =>?_) <;>try simp only[h])) <;>try simp only[aM,R,reduceIte,Nat.reduceBEq])
 all_goals clear R
 refine U.loop (fun i:Nat=>av [(0,enc l),(1,.int .i64 k),(5,.own 905 (dG (l.take i) k).length),(6,.int .i64 i)] [(905,.bX 68 17 ((dG (l.take i) k).map enc))]) (fun i=>i≤l.length) (fun i=>l.length-i) 0 (Nat.zero_le _) ?_ (fun i hi =>?_)
 ·refine aI.pK 5 905 68 17 17 rfl rfl ?_
  simp only[List.take_zero,dG,List.take_nil,List.drop_nil,List.append_nil,List.map_nil,List.length_nil]
  refine aI.b9 ?_ ?_ ?_ ?_ <;>simp[bd,bT,bS,bD,au,bh,cI,I.only,I.bU,ai.only,bG]
 have hdl:(dG (l.take i) k).length≤60:=Nat.le_trans (BW _ _).length_le (by rw[List.length_take];omega)
 by_cases hlt:i<l.length
 ·have hc:=fY hlt
  have he:=fun A=>gv (A:=A) hlt
  have hw:=fF (i:=i) (by omega)
  have hs:dG (l.take (i+1)) k=if i=k then dG (l.take i) k else dG (l.take i) k++[ae l i]:=by
   have e:l.take (i+1)=l.take i++[ae l i]:=by rw[List.take_succ_eq_append_getElem hlt,eA hlt]
   have htl:(l.take i).length=i:=by rw[List.length_take];omega
   rw[e]
   simp only[dG]
   by_cases h1:i=k
   ·subst h1
    rw[if_pos rfl,List.take_append_of_le_length (by omega),List.drop_eq_nil_of_le (by simp;omega),List.drop_eq_nil_of_le (by omega)]
   ·rw[if_neg h1]
    by_cases h2:i<k
    ·have a1:(l.take i++[ae l i]).take k=l.take i++[ae l i]:=List.take_of_length_le (by simp;omega)
     have a2:(l.take i++[ae l i]).drop (k+1)=[]:=List.drop_eq_nil_of_le (by simp;omega)
     have a3:(l.take i).take k=l.take i:=List.take_of_length_le (by omega)
     have a4:(l.take i).drop (k+1)=[]:=List.drop_eq_nil_of_le (by omega)
     rw[a1,a2,a3,a4];simp
    ·rw[List.take_append_of_le_length (by omega),List.drop_append_of_le_length (by omega),List.append_assoc]
  generalize dG (l.take i) k=xs at hdl hs ⊢
  have happ:=fun (A:af) d rest=>oy (α:=ak) (A:=A) (d:=d) 68 17 136 905 (l:=xs.length) (es:=xs) (ys:=[ae l i]) (rest:=rest) rfl rfl (by simp) (by simp[maxLen];omega) (by simp;omega)
  have hbs:=ni 17 (ae l i) rfl
  by_cases h1:i=k
  ·have hn:((i:Int) != (k:Int))=false:=by simp[h1]
   rw[if_pos h1] at hs
   have R:=And.intro @hc (And.intro @he (And.intro @hw (And.intro @hn (And.intro @bI (And.intro @aP @ab)))))
   repeat' ((first
    |(with_reducible refine .guard (fun hb =>?_) (fun hb =>?_) <;>try simp only[hb])
    |refine U.aL (by decide +kernel) rfl fun K hK =>?_
    |(refine .aF [0,1,4,5,6,10,15] hK ?_;clear hK K)
    |(with_reducible refine .done (hK _ ?_);clear hK K)
    |refine U.of rfl ?_
    |(with_reducible refine ao.aK (fun h =>?_) (fun h =>?_) <;>try simp only[h])) <;>try simp only[aM,R,Nat.reduceEqDiff,reduceIte,Nat.reduceBEq])
   all_goals clear R
   refine ⟨i+1,by omega,by omega,?_⟩
   simp only[hs]
   refine aI.b9 ?_ ?_ ?_ ?_ <;>simp[bd,bT,bS,bD,au,bh,cI,I.only,ai.only,ev,bG]
  ·have hn:((i:Int) != (k:Int))=true:=by simp;omega
   rw[if_neg h1] at hs
   have R:=And.intro @hc (And.intro @he (And.intro @hw (And.intro @hn (And.intro @happ (And.intro @hbs (And.intro @bI (And.intro @aP @ab)))))))
   repeat' ((first
    |(with_reducible refine .guard (fun hb =>?_) (fun hb =>?_) <;>try simp only[hb])
    |refine U.aL (by decide +kernel) rfl fun K hK =>?_
    |(refine .aF [0,1,4,5,6,10,15] hK ?_;clear hK K)
    |(with_reducible refine .done (hK _ ?_);clear hK K)
    |refine U.of rfl ?_
    |(with_reducible refine ao.aK (fun h =>?_) (fun h =>?_) <;>try simp only[h])) <;>try simp only[aM,R,Nat.reduceEqDiff,reduceIte,Nat.reduceBEq])
   all_goals clear R
   refine ⟨i+1,by omega,by omega,?_⟩
   simp only[hs]
   refine aI.b9 ?_ ?_ ?_ ?_ <;>simp[bd,bT,bS,bD,au,bh,cI,I.only,I.bU,ai.only,ev,jF,bG]
 ·have hc:=gp hlt
  have hge:i=l.length:=by omega
  subst hge
  rw[List.take_length]
  have hfo:=rS (k:=(dG l k).length) (T:=68) (es:=dG l k) 17 rfl rfl
  have R:=And.intro @hc (And.intro @hfo (And.intro @bI (And.intro @aP @ab)))
  repeat' ((first
   |(with_reducible refine .guard (fun hb =>?_) (fun hb =>?_) <;>try simp only[hb])
   |refine U.aL (by decide +kernel) rfl fun K hK =>?_
   |(refine .aF [0,1,4,5,6,10,15] hK ?_;clear hK K)
   |(with_reducible refine .done (hK _ ?_);clear hK K)
   |refine U.of rfl ?_
   |(with_reducible refine ao.aK (fun h =>?_) (fun h =>?_) <;>try simp only[h])) <;>try simp only[aM,R,Nat.reduceEqDiff,reduceIte,Nat.reduceBEq])
  all_goals clear R
abbrev gS(l:List ak):Prop:=l.Pairwise fun a b=>before a.bj b.bj=true
theorem nY{l:List ak}(h:gS l){i j:Nat}(hij:i<j)(hj:j<l.length):before (ae l i).bj (ae l j).bj=true:=by
 rw[←eA hj,←eA (show i<l.length by omega)]
 exact List.pairwise_iff_getElem.1 h i j (by omega) hj hij
theorem mW{l:List ak}(h:c6 l=true):gS l:=(xu.1 h).2.2
theorem po(l:List ak)(a:Item):cG l a≤l.length:=List.findIdx_le_length
theorem Jm{l:List ak}{a:Item}{i:Nat}(hi:i≤l.length)(h1:∀ k,k<i→before (ae l k).bj a=true)(h2:i<l.length→before (ae l i).bj a=false):cG l a=i:=by
 simp only[cG]
 by_cases hlt:i<l.length
 ·refine (List.findIdx_eq hlt).2 ⟨by rw[eA hlt,h2 hlt];rfl,fun j hj =>?_⟩
  rw[eA (by omega),h1 j hj];rfl
 ·have e:i=l.length:=by omega
  rw[e]
  refine List.findIdx_eq_length.2 fun x hx =>?_
  obtain ⟨k,hk,rfl⟩:=List.getElem_of_mem hx
  rw[eA hk,h1 k (by omega)];rfl
theorem aiq{l:List ak}(hs:gS l){a:Item}{k:Nat}(h1:cG l a≤k)(hk:k<l.length):before (ae l k).bj a=false:=by
 have hp:cG l a<l.length:=by omega
 have h2:(!before (l[cG l a]).bj a)=true:=List.findIdx_getElem (w:=hp)
 rw[eA hp] at h2
 by_cases e:k=cG l a
 ·rw[e];simpa using h2
 ·cases hb:before (ae l k).bj a with
  |false=>rfl
  |true =>
   have:=oH (nY hs (show cG l a<k by omega) hk) hb
   rw[this] at h2;cases h2
theorem xI{l:List ak}{a:Item}{k:Nat}(h:k<cG l a):before (ae l k).bj a=true:=by
 have hk:k<l.length:=Nat.lt_of_lt_of_le h (po l a)
 have:=List.not_of_lt_findIdx (p:=fun x:ak => !before x.bj a) (xs:=l) (i:=k) h
 rw[eA hk] at this
 simpa using this
theorem p7{l:List ak}(hs:gS l)(a:Item):eD l a=(decide (cG l a<l.length)&&decide ((ae l (cG l a)).bj=a)):=by
 rw[Bool.eq_iff_iff,Bool.and_eq_true,decide_eq_true_eq,decide_eq_true_eq]
 constructor
 ·intro h
  simp only[eD,List.any_eq_true,decide_eq_true_eq] at h
  obtain ⟨x,hx,rfl⟩:=h
  obtain ⟨k,hk,rfl⟩:=List.getElem_of_mem hx
  rw[eA hk]
  have h1:cG l (ae l k).bj=k:=Jm (by omega) (fun j hj=>nY hs hj hk) (fun _=>oG _)
  rw[h1];exact ⟨hk,rfl⟩
 ·rintro ⟨h1,h2⟩
  exact wz h1 h2
theorem yF(x:ak)(a:Item):az Tryz.prog 143 [enc x,enc a] (enc (kO x.bj a)):=by
 refine az.bn Tryz.func143 PQ RM TW (Nat.le_of_ble_eq_true rfl) (fun hwf W0 D0 E1 =>?_)
 simp only[zY,JZ,bg,Nat.zero_add]
 have R:=And.intro @aP @ab
 repeat' ((first
  |(with_reducible refine .guard (fun hb =>?_) (fun hb =>?_) <;>try simp only[hb])
  |refine U.aL (by decide +kernel) rfl fun K hK =>?_
  |refine .flat _ (tT _ _) rfl ?_
  |(refine .aF [0,1,2,3,4] hK ?_;clear hK K)
  |(with_reducible refine .done (hK _ ?_);clear hK K)
  |refine U.of rfl ?_
  |(with_reducible refine ao.aK (fun h =>?_) (fun h =>?_) <;>try simp only[h])) <;>try simp only[aM,R,Nat.reduceEqDiff,reduceIte,Nat.reduceBEq])
 all_goals clear R
theorem MR(l:List ak)(a:Item)(hs:gS l)(hl:l.length≤1000):az Tryz.prog 142 [enc l,enc a,.func 143 []] (.tuple [enc (cG l a:Int),enc (eD l a)]):=by
 refine az.bn Tryz.func142 PO RL TV (Nat.le_of_ble_eq_true rfl) (fun hwf W0 D0 E1 =>?_)
 simp only[zX,JY,bg,Nat.zero_add,Nat.reduceAdd]
 clear hwf
 have R:=And.intro @hZ (And.intro @bI (And.intro @aP @ab))
 repeat' ((first
  |(with_reducible refine .guard (fun hb =>?_) (fun hb =>?_) <;>try simp only[hb])
  |refine U.aL (by decide +kernel) rfl fun K hK =>?_
  |(refine .aF [0,1,2,4,6,7,8,9,10,11,17,31] hK ?_;clear hK K)
  |(with_reducible refine .done (hK _ ?_);clear hK K)
  |refine U.of rfl ?_
  |(with_reducible refine ao.aK (fun h =>?_) (fun h =>?_) <;>try simp only[h])) <;>try simp only[aM,R,Nat.reduceEqDiff,reduceIte,Nat.reduceBEq])
 all_goals clear R
 refine U.loop (fun s:Nat×Nat=>av [(0,enc l),(2,.func 143 []),(4,.ptr 4 []),(8,.int .i64 l.length),(9,.int .i64 s.1),(10,.int .i64 s.2)] [(4,.box (enc a))]) (fun s=>s.1≤s.2∧s.2≤l.length∧(∀ k,k<s.1→before (ae l k).bj a=true)∧∀ k,s.2≤k→k<l.length→before (ae l k).bj a=false) (fun s=>s.2-s.1) (0,l.length) ⟨Nat.zero_le _,Nat.le_refl _,fun k hk=>by omega,fun k h1 h2=>by omega⟩ ?_ ?_
 ·refine aI.b9 ?_ ?_ ?_ ?_ <;>simp[bd,bT,bS,bD,au,bh,cI,I.only,I.bU,ai.only,bG]
 rintro ⟨i,j⟩ ⟨h1,h2,h3,h4⟩
 simp only at h1 h2 h3 h4 ⊢
 by_cases hlt:i<j
 ·have hc:=fY hlt
  have w1:=j7 i j (by omega)
  have w2:=lV (x:=i+j) (by omega)
  obtain ⟨h,hh⟩:∃ h,h=(i+j) / 2:=⟨_,rfl⟩
  have w5:=qR (n:=h) (by omega)
  have hhl:h<l.length:=by omega
  have he:=fun A=>gv (A:=A) hhl
  have hn:=BM (ae l h).bj a
  have hw:=fF (i:=h) (by omega)
  rcases hb:before (ae l h).bj a
  all_goals
   rw[hb] at hn
   have R:=And.intro @hc (And.intro @w1 (And.intro @w2 (And.intro @w5 (And.intro @he (And.intro @hn (And.intro @hw (And.intro @mU (And.intro @mT (And.intro @hZ (And.intro @dO (And.intro @bI (And.intro @aP @ab))))))))))))
   repeat' ((first
    |(with_reducible refine .guard (fun hb =>?_) (fun hb =>?_) <;>try simp only[hb])
    |refine U.aL (by decide +kernel) rfl fun K hK =>?_
    |refine .flat _ (yF _ _) rfl ?_
    |(refine .aF [0,1,2,4,6,7,8,9,10,11,17,31] hK ?_;clear hK K)
    |(with_reducible refine .done (hK _ ?_);clear hK K)
    |refine U.of rfl ?_
    |(with_reducible refine ao.aK (fun h =>?_) (fun h =>?_) <;>try simp only[h])) <;>try simp only[aM,R,←hh,List.cons_append,Nat.reduceEqDiff,reduceIte,Nat.reduceBEq])
   all_goals clear R
  ·refine ⟨(i,h),⟨by simp only;omega,by simp only;omega,h3,fun k hk hkl =>?_⟩,by simp only;omega,?_⟩
   ·simp only at hk
    cases hbk:before (ae l k).bj a with
    |false=>rfl
    |true =>
     by_cases e:k=h
     ·rw[e,hb] at hbk;cases hbk
     ·have:=oH (nY hs (show h<k by omega) hkl) hbk
      rw[this] at hb;cases hb
   ·refine aI.b9 ?_ ?_ ?_ ?_ <;>simp[bd,bT,bS,bD,au,bh,cI,I.only,I.bU,ai.only,bG]
  ·refine ⟨(h+1,j),⟨by simp only;omega,h2,fun k hk =>?_,h4⟩,by simp only;omega,?_⟩
   ·simp only at hk
    by_cases e:k=h
    ·rw[e];exact hb
    ·cases hbk:before (ae l k).bj a with
     |true=>rfl
     |false =>
      have:=oH (nY hs (show k<h by omega) hhl) hb
      rw[this] at hbk;cases hbk
   ·refine aI.b9 ?_ ?_ ?_ ?_ <;>simp[bd,bT,bS,bD,au,bh,cI,I.only,I.bU,ai.only,bG]
 ·have hij:i=j:=by omega
  subst hij
  have hc:=gp hlt
  have hp:cG l a=i:=Jm h2 h3 fun h=>h4 i (Nat.le_refl _) h
  have hh:=p7 hs a
  rw[hp] at hh
  rw[hp,hh]
  by_cases hil:i<l.length
  ·have hc2:=fY hil
   have he:=fun A=>gv (A:=A) hil
   have hz:=Tn (ae l i).bj a
   have hd:decide (i<l.length)=true:=decide_eq_true hil
   have R:=And.intro @hc (And.intro @hc2 (And.intro @he (And.intro @hz (And.intro @hd (And.intro @hZ (And.intro @dO (And.intro @bI (And.intro @aP @ab))))))))
   repeat' ((first
    |(with_reducible refine .guard (fun hb =>?_) (fun hb =>?_) <;>try simp only[hb])
    |refine U.aL (by decide +kernel) rfl fun K hK =>?_
    |refine .flat _ (yF _ _) rfl ?_
    |(refine .aF [0,1,2,4,6,7,8,9,10,11,17,31] hK ?_;clear hK K)
    |(with_reducible refine .done (hK _ ?_);clear hK K)
    |refine U.of rfl ?_
    |(with_reducible refine ao.aK (fun h =>?_) (fun h =>?_) <;>try simp only[h])) <;>try simp only[aM,R,List.cons_append,Nat.reduceEqDiff,reduceIte,Nat.reduceBEq])
   all_goals clear R
   all_goals simp
  ·have hc2:=gp hil
   have hd:decide (i<l.length)=false:=decide_eq_false hil
   have R:=And.intro @hc (And.intro @hc2 (And.intro @hd (And.intro @hZ (And.intro @bI (And.intro @aP @ab)))))
   repeat' ((first
    |(with_reducible refine .guard (fun hb =>?_) (fun hb =>?_) <;>try simp only[hb])
    |refine U.aL (by decide +kernel) rfl fun K hK =>?_
    |(refine .aF [0,1,2,4,6,7,8,9,10,11,17,31] hK ?_;clear hK K)
    |(with_reducible refine .done (hK _ ?_);clear hK K)
    |refine U.of rfl ?_
    |(with_reducible refine ao.aK (fun h =>?_) (fun h =>?_) <;>try simp only[h])) <;>try simp only[aM,R,Nat.reduceEqDiff,reduceIte,Nat.reduceBEq])
   all_goals clear R
   all_goals rfl
theorem yx(l:List ak)(a:Item)(hs:gS l)(hl:l.length≤1000):az Tryz.prog 103 [enc l,enc a] (.tuple [enc (cG l a:Int),enc (eD l a)]):=by
 have hF:=MR l a hs hl
 refine az.bn Tryz.func103 Pk Rh Tr (Nat.le_of_ble_eq_true rfl) (fun hwf W0 D0 E1 =>?_)
 simp only[zq,Ju,bg,Nat.zero_add]
 clear hwf
 have R:=And.intro @hZ (And.intro @bI (And.intro @aP @ab))
 repeat' ((first
  |(with_reducible refine .guard (fun hb =>?_) (fun hb =>?_) <;>try simp only[hb])
  |refine U.aL (by decide +kernel) rfl fun K hK =>?_
  |refine .lead _ (hF) ?_
  |(refine .aF [0,1,3,4,5] hK ?_;clear hK K)
  |(with_reducible refine .done (hK _ ?_);clear hK K)
  |refine U.of rfl ?_
  |(with_reducible refine ao.aK (fun h =>?_) (fun h =>?_) <;>try simp only[h])) <;>try simp only[aM,R,Nat.reduceEqDiff,reduceIte,Nat.reduceBEq])
 all_goals clear R
def oh(l:List ak)(a:Item):List ak×Int:=if c6 l then (if eD l a then (dG l (cG l a),0) else ([],3)) else ([],41)
theorem ND(l:List ak)(a:Item):az Tryz.prog 38 [enc l,enc a] (.tuple [enc (oh l a).1,enc (oh l a).2]):=by
 have hF:=oi l
 refine az.bn Tryz.func38 Qz Sz UJ (Nat.le_of_ble_eq_true rfl) (fun hwf W0 D0 E1 =>?_)
 simp only[AR,KL,bg,Nat.zero_add]
 clear hwf
 simp only[oh]
 rcases q1:c6 l
 ·rw[q1,if_neg (by decide)] at hF
  have R:=And.intro @aP @ab
  repeat' ((first
   |(with_reducible refine .guard (fun hb =>?_) (fun hb =>?_) <;>try simp only[hb])
   |refine U.aL (by decide +kernel) rfl fun K hK =>?_
   |refine .flat _ (hF) rfl ?_
   |(refine .aF [0,1,3,4,5,6,7,8,12,21] hK ?_;clear hK K)
   |(with_reducible refine .done (hK _ ?_);clear hK K)
   |refine U.of rfl ?_
   |(with_reducible refine ao.aK (fun h =>?_) (fun h =>?_) <;>try simp only[h])) <;>try simp only[aM,R,Nat.reduceEqDiff,reduceIte,Int.reduceBNe,Nat.reduceBEq])
  all_goals clear R
  all_goals rfl
 rw[q1,if_pos rfl] at hF
 have hll:=jE q1
 have hG:=yx l a (mW q1) (by omega)
 have hh:=p7 (mW q1) a
 rcases q2:eD l a
 ·rw[q2] at hG
  have R:=And.intro @aP @ab
  repeat' ((first
   |(with_reducible refine .guard (fun hb =>?_) (fun hb =>?_) <;>try simp only[hb])
   |refine U.aL (by decide +kernel) rfl fun K hK =>?_
   |refine .flat _ (hF) rfl ?_
   |refine .lead _ (hG) ?_
   |(refine .aF [0,1,3,4,5,6,7,8,12,21] hK ?_;clear hK K)
   |(with_reducible refine .done (hK _ ?_);clear hK K)
   |refine U.of rfl ?_
   |(with_reducible refine ao.aK (fun h =>?_) (fun h =>?_) <;>try simp only[h])) <;>try simp only[aM,R,Nat.reduceEqDiff,reduceIte,Int.reduceBNe,Nat.reduceBEq])
  all_goals clear R
  all_goals rfl
 ·rw[q2] at hG hh
  have hp:cG l a<l.length:=by
   by_cases h:cG l a<l.length
   ·exact h
   ·simp[h] at hh
  have hD:=yS l (cG l a) hp hll
  have R:=And.intro @aP @ab
  repeat' ((first
   |(with_reducible refine .guard (fun hb =>?_) (fun hb =>?_) <;>try simp only[hb])
   |refine U.aL (by decide +kernel) rfl fun K hK =>?_
   |refine .flat _ (hF) rfl ?_
   |refine .lead _ (hG) ?_
   |refine .lead _ (hD) ?_
   |(refine .aF [0,1,3,4,5,6,7,8,12,21] hK ?_;clear hK K)
   |(with_reducible refine .done (hK _ ?_);clear hK K)
   |refine U.of rfl ?_
   |(with_reducible refine ao.aK (fun h =>?_) (fun h =>?_) <;>try simp only[h])) <;>try simp only[aM,R,Nat.reduceEqDiff,reduceIte,Int.reduceBNe,Nat.reduceBEq])
  all_goals clear R
theorem wF{l:List ak}(hs:gS l)(a:Item):nx l a=if eD l a then (cG l a:Int) else -1:=by
 simp only[nx]
 cases h:eD l a
 ·rfl
 ·have hh:=p7 hs a
  rw[h] at hh
  simp only[Bool.true_eq,Bool.and_eq_true,decide_eq_true_eq] at hh
  simp only[if_true]
  congr 1
  refine H4 hh.1 hh.2 fun j hj e =>?_
  have:=xI hj
  rw[e,oG] at this;cases this
theorem NK(l:List ak)(a:Item):az Tryz.prog 57 [enc l,enc a] (.tuple [enc (oh l a).1,enc (oh l a).2]):=by
 have hF:=oj l
 have hI:=tN l a
 refine az.bn Tryz.func57 QF SF UP (Nat.le_of_ble_eq_true rfl) (fun hwf W0 D0 E1 =>?_)
 simp only[AX,KR,bg,Nat.zero_add]
 clear hwf
 simp only[oh]
 rcases q1:c6 l
 ·rw[q1,if_neg (by decide)] at hF
  have R:=And.intro @aP @ab
  repeat' ((first
   |(with_reducible refine .guard (fun hb =>?_) (fun hb =>?_) <;>try simp only[hb])
   |refine U.aL (by decide +kernel) rfl fun K hK =>?_
   |refine .flat _ (hF) rfl ?_
   |(refine .aF [0,1,3,4,5,6,7,10,15] hK ?_;clear hK K)
   |(with_reducible refine .done (hK _ ?_);clear hK K)
   |refine U.of rfl ?_
   |(with_reducible refine ao.aK (fun h =>?_) (fun h =>?_) <;>try simp only[h])) <;>try simp only[aM,R,Nat.reduceEqDiff,reduceIte,Int.reduceBNe,Nat.reduceBEq])
  all_goals clear R
  all_goals rfl
 rw[q1,if_pos rfl] at hF
 have hll:=jE q1
 rw[wF (mW q1)] at hI
 rcases q2:eD l a
 ·rw[q2,if_neg (by decide)] at hI
  have hm1:decide ((-1:Int)<0)=true:=rfl
  have R:=And.intro @hm1 (And.intro @aP @ab)
  repeat' ((first
   |(with_reducible refine .guard (fun hb =>?_) (fun hb =>?_) <;>try simp only[hb])
   |refine U.aL (by decide +kernel) rfl fun K hK =>?_
   |refine .flat _ (hF) rfl ?_
   |refine .flat _ (hI) rfl ?_
   |(refine .aF [0,1,3,4,5,6,7,10,15] hK ?_;clear hK K)
   |(with_reducible refine .done (hK _ ?_);clear hK K)
   |refine U.of rfl ?_
   |(with_reducible refine ao.aK (fun h =>?_) (fun h =>?_) <;>try simp only[h])) <;>try simp only[aM,R,Nat.reduceEqDiff,reduceIte,Int.reduceBNe,Nat.reduceBEq])
  all_goals clear R
  all_goals rfl
 ·rw[q2,if_pos rfl] at hI
  have h2:decide ((cG l a:Int)<0)=false:=by simp
  have hD:=NT l (cG l a) hll
  have R:=And.intro @h2 (And.intro @aP @ab)
  repeat' ((first
   |(with_reducible refine .guard (fun hb =>?_) (fun hb =>?_) <;>try simp only[hb])
   |refine U.aL (by decide +kernel) rfl fun K hK =>?_
   |refine .flat _ (hF) rfl ?_
   |refine .flat _ (hI) rfl ?_
   |refine .lead _ (hD) ?_
   |(refine .aF [0,1,3,4,5,6,7,10,15] hK ?_;clear hK K)
   |(with_reducible refine .done (hK _ ?_);clear hK K)
   |refine U.of rfl ?_
   |(with_reducible refine ao.aK (fun h =>?_) (fun h =>?_) <;>try simp only[h])) <;>try simp only[aM,R,Nat.reduceEqDiff,reduceIte,Int.reduceBNe,Nat.reduceBEq])
  all_goals clear R
theorem NG(a b:List ak):az Tryz.prog 53 [enc a,enc b] (enc (decide (a=b))):=by
 refine az.bn Tryz.func53 QB SB UL (Nat.le_of_ble_eq_true rfl) (fun hwf W0 D0 E1 =>?_)
 simp only[AT,KN,bg,Nat.zero_add]
 have hlen:a.length≤maxLen:=((j6 a).1 hwf.1).1
 simp only[maxLen] at hlen
 clear hwf
 by_cases hl:a.length=b.length
 case neg =>
  have hn:((a.length:Int) != (b.length:Int))=true:=by simp;omega
  have R:=And.intro @hn (And.intro @bI (And.intro @aP @ab))
  repeat' ((first
   |(with_reducible refine .guard (fun hb =>?_) (fun hb =>?_) <;>try simp only[hb])
   |refine U.aL (by decide +kernel) rfl fun K hK =>?_
   |(refine .aF [0,1,4,5,10,14,25] hK ?_;clear hK K)
   |(with_reducible refine .done (hK _ ?_);clear hK K)
   |refine U.of rfl ?_
   |(with_reducible refine ao.aK (fun h =>?_) (fun h =>?_) <;>try simp only[h])) <;>try simp only[aM,R,simprocAttr])
  all_goals clear R
  have:¬ a=b:=fun e=>hl (by rw[e])
  simp[this]
 have hn:((a.length:Int) != (b.length:Int))=false:=by simp;omega
 have R:=And.intro @hn (And.intro @bI (And.intro @aP @ab))
 repeat' ((first
  |(with_reducible refine .guard (fun hb =>?_) (fun hb =>?_) <;>try simp only[hb])
  |refine U.aL (by decide +kernel) rfl fun K hK =>?_
  |(refine .aF [0,1,4,5,10,14,25] hK ?_;clear hK K)
  |(with_reducible refine .done (hK _ ?_);clear hK K)
  |refine U.of rfl ?_
  |(with_reducible refine ao.aK (fun h =>?_) (fun h =>?_) <;>try simp only[h])) <;>try simp only[aM,R,simprocAttr])
 all_goals clear R
 refine U.loop (fun i:Nat=>av [(0,enc a),(1,enc b),(5,.int .i64 i)] []) (fun i=>i≤a.length∧∀ k,k<i→a[k]?=b[k]?) (fun i=>a.length-i) 0 ⟨Nat.zero_le _,fun k h=>by omega⟩ ?_ (fun i hi =>?_)
 ·refine aI.b9 ?_ ?_ ?_ ?_ <;>simp[bd,bT,bS,bD,bh,I.only,bG]
 obtain ⟨hi1,hi2⟩:=hi
 by_cases hlt:i<a.length
 ·have hc:=fY hlt
  have he:=fun A=>gw (A:=A) 17 hlt rfl
  have hlt2:i<b.length:=by omega
  have he2:=fun A=>gw (A:=A) 17 hlt2 rfl
  have hw:=fF (i:=i) (by omega)
  rcases hp:decide (a[i]=b[i])
  ·have R:=And.intro @hc (And.intro @he (And.intro @he2 (And.intro @hp (And.intro @gb (And.intro @bI (And.intro @aP @ab))))))
   repeat' ((first
    |(with_reducible refine .guard (fun hb =>?_) (fun hb =>?_) <;>try simp only[hb])
    |refine U.aL (by decide +kernel) rfl fun K hK =>?_
    |(refine .aF [0,1,4,5,10,14,25] hK ?_;clear hK K)
    |(with_reducible refine .done (hK _ ?_);clear hK K)
    |refine U.of rfl ?_
    |(with_reducible refine ao.aK (fun h =>?_) (fun h =>?_) <;>try simp only[h])) <;>try simp only[aM,R,simprocAttr])
   all_goals clear R
   have:¬ a=b:=fun e=>by subst e;simp at hp
   simp[this]
  ·have R:=And.intro @hc (And.intro @he (And.intro @he2 (And.intro @hp (And.intro @hw (And.intro @gb (And.intro @bI (And.intro @aP @ab)))))))
   repeat' ((first
    |(with_reducible refine .guard (fun hb =>?_) (fun hb =>?_) <;>try simp only[hb])
    |refine U.aL (by decide +kernel) rfl fun K hK =>?_
    |(refine .aF [0,1,4,5,10,14,25] hK ?_;clear hK K)
    |(with_reducible refine .done (hK _ ?_);clear hK K)
    |refine U.of rfl ?_
    |(with_reducible refine ao.aK (fun h =>?_) (fun h =>?_) <;>try simp only[h])) <;>try simp only[aM,R,simprocAttr])
   all_goals clear R
   refine ⟨i+1,⟨by omega,fun k hk =>?_⟩,by omega,?_⟩
   ·by_cases e:k=i
    ·subst e
     have:a[k]=b[k]:=by simpa using hp
     simp[hlt,hlt2,this]
    ·exact hi2 k (by omega)
   ·refine aI.b9 ?_ ?_ ?_ ?_ <;>simp[bd,bT,bS,bD,bh,I.only,bG]
 ·have hc:=gp hlt
  have R:=And.intro @hc (And.intro @bI (And.intro @aP @ab))
  repeat' ((first
   |(with_reducible refine .guard (fun hb =>?_) (fun hb =>?_) <;>try simp only[hb])
   |refine U.aL (by decide +kernel) rfl fun K hK =>?_
   |(refine .aF [0,1,4,5,10,14,25] hK ?_;clear hK K)
   |(with_reducible refine .done (hK _ ?_);clear hK K)
   |refine U.of rfl ?_
   |(with_reducible refine ao.aK (fun h =>?_) (fun h =>?_) <;>try simp only[h])) <;>try simp only[aM,R,simprocAttr])
  all_goals clear R
  have:a=b:=List.ext_getElem? fun k=>by
   by_cases hk:k<i
   ·exact hi2 k hk
   ·rw[List.getElem?_eq_none (by omega),List.getElem?_eq_none (by omega)]
  simp[this]
def iO(l:List ak)(p:Nat)(x:ak)(i:Nat):List ak:=if p<i then l.take p++x::(l.take i).drop p else l.take i
theorem aii(l:List ak)(p:Nat)(x:ak)(i:Nat):(iO l p x i).length≤l.length+1:=by
 simp only[iO]
 split <;>simp only[List.length_append,List.length_cons,List.length_take,List.length_drop] <;>omega
theorem aij{l:List ak}{p i:Nat}(x:ak)(hi:i<l.length):iO l p x (i+1)=(if i=p then iO l p x i++[x] else iO l p x i)++[ae l i]:=by
 have ht:l.take (i+1)=l.take i++[ae l i]:=by rw[List.take_succ_eq_append_getElem hi,eA hi]
 have hl:(l.take i).length=i:=by rw[List.length_take];omega
 simp only[iO]
 by_cases h1:i=p
 ·subst h1
  rw[if_pos (by omega),if_pos rfl,if_neg (by omega),ht,List.drop_append,hl]
  simp
 ·rw[if_neg h1]
  by_cases h2:p<i
  ·rw[if_pos (by omega),if_pos h2,ht,List.drop_append_of_le_length (by omega)]
   simp
  ·rw[if_neg (by omega),if_neg h2,ht]
theorem aih(l:List ak)(p:Nat)(x:ak)(hp:p≤l.length):(if p<l.length then iO l p x l.length else iO l p x l.length++[x])=eI l p x:=by
 simp only[iO,eI]
 by_cases h:p<l.length
 ·simp only[h,if_true,List.take_length]
 ·have e:p=l.length:=by omega
  subst e
  simp
theorem OK{a b:Item}(h:before a b=true):before b a=false:=by
 cases hb:before b a with
 |false=>rfl
 |true=>rw[←oG a,oH h hb]
theorem Jn{l:List ak}{a:Item}(hs:gS l)(hno:eD l a=false){i:Nat}(h1:cG l a≤i)(h2:i<l.length):before a (ae l i).bj=true:=by
 rcases OL (aiq hs h1 h2) with h | h
 ·exact h
 ·rw[wz h2 h] at hno;cases hno
theorem yA(l:List ak)(x:ak)(hs:gS l)(hno:eD l x.bj=false)(hl:l.length≤200):az Tryz.prog 113 [enc l,enc x] (enc (eI l (cG l x.bj) x)):=by
 have hend:=aih l (cG l x.bj) x (po _ _)
 have hb1:∀ i,i<cG l x.bj→before x.bj (ae l i).bj=false:=fun i h=>OK (xI h)
 have hb2:∀ i,i=cG l x.bj→i<l.length→before x.bj (ae l i).bj=true:=fun i h h2=>Jn hs hno (by omega) h2
 have hpl:=po l x.bj
 generalize cG l x.bj=p at *
 refine az.bn Tryz.func113 Po Rl Tv (Nat.le_of_ble_eq_true rfl) (fun hwf W0 D0 E1 =>?_)
 simp only[zw,Jy,bg,Nat.zero_add]
 clear hwf
 have R:=And.intro @bI (And.intro @aP @ab)
 repeat' ((first
  |(with_reducible refine .guard (fun hb =>?_) (fun hb =>?_) <;>try simp only[hb])
  |refine U.aL (by decide +kernel) rfl fun K hK =>?_
  |(refine .aF [0,1,3,4,5,6,7,11,25,38] hK ?_;clear hK K)
  |(with_reducible refine .done (hK _ ?_);clear hK K)
  |refine U.of rfl ?_
  |(with_reducible refine ao.aK (fun h =>?_) (fun h =>?_) <;>try simp only[h])) <;>try simp only[aM,R,simprocAttr])
 all_goals clear R
 refine U.loop (fun i:Nat=>av [(0,enc l),(3,.ptr 3 []),(5,.own 905 (iO l p x i).length),(6,.bool (decide (p<i))),(7,.int .i64 i)] [(3,.box (enc x)),(905,.bX 68 17 ((iO l p x i).map enc))]) (fun i=>i≤l.length) (fun i=>l.length-i) 0 (Nat.zero_le _) ?_ (fun i hi =>?_)
 ·refine aI.pK 5 905 68 17 17 rfl rfl ?_
  have e:iO l p x 0=[]:=by simp[iO]
  simp only[e,List.map_nil,List.length_nil]
  refine aI.b9 ?_ ?_ ?_ ?_ <;>simp[bd,bT,bS,bD,au,bh,cI,I.only,I.bU,ai.only,bG]
 have hol:=aii l p x i
 have happ:=fun (A:af) d rest (es:List ak) (hes:es.length≤202) (y:ak)=>oy (α:=ak) (A:=A) (d:=d) 68 17 136 905 (l:=es.length) (es:=es) (ys:=[y]) (rest:=rest) rfl rfl (by simp) (by simp[maxLen];omega) (by simp;omega)
 have hbs:=fun y:ak=>ni 17 y rfl
 by_cases hlt:i<l.length
 ·have hc:=fY hlt
  have he:=fun A=>gv (A:=A) hlt
  have hw:=fF (i:=i) (by omega)
  have hsu:=aij (p:=p) x hlt
  generalize iO l p x i=xs at hol hsu ⊢
  have hap1:=fun (A:af) d rest=>happ A d rest xs (by omega) x
  have hap2:=fun (A:af) d rest=>happ A d rest (xs++[x]) (by simp;omega) (ae l i)
  have hap3:=fun (A:af) d rest=>happ A d rest xs (by omega) (ae l i)
  rcases Nat.lt_trichotomy i p with h | h | h
  ·have hd:decide (p<i)=false:=by simp;omega
   have hd2:decide (p<i+1)=false:=by simp;omega
   have hb:=hb1 i h
   rw[if_neg (by omega)] at hsu
   have R:=And.intro @hc (And.intro @he (And.intro @hd (And.intro @hb (And.intro @hw (And.intro @hap3 (And.intro @hbs (And.intro @bI (And.intro @aP @ab))))))))
   repeat' ((first
    |(with_reducible refine .guard (fun hb =>?_) (fun hb =>?_) <;>try simp only[hb])
    |refine U.aL (by decide +kernel) rfl fun K hK =>?_
    |refine .flat _ (pG _ _) rfl ?_
    |(refine .aF [0,1,3,4,5,6,7,11,25,38] hK ?_;clear hK K)
    |(with_reducible refine .done (hK _ ?_);clear hK K)
    |refine U.of rfl ?_
    |(with_reducible refine ao.aK (fun h =>?_) (fun h =>?_) <;>try simp only[h])) <;>try simp only[aM,R,simprocAttr])
   all_goals clear R
   refine ⟨i+1,by omega,by omega,?_⟩
   simp only[hsu,hd2]
   refine aI.b9 ?_ ?_ ?_ ?_ <;>simp[bd,bT,bS,bD,au,bh,cI,I.only,I.bU,ai.only,ev,jF,bG]
  ·have hd:decide (p<i)=false:=by simp;omega
   have hd2:decide (p<i+1)=true:=by simp;omega
   have hb:=hb2 i h hlt
   rw[if_pos h] at hsu
   have R:=And.intro @hc (And.intro @he (And.intro @hd (And.intro @hb (And.intro @hw (And.intro @hap1 (And.intro @hap2 (And.intro @hbs (And.intro @bI (And.intro @aP @ab)))))))))
   repeat' ((first
    |(with_reducible refine .guard (fun hb =>?_) (fun hb =>?_) <;>try simp only[hb])
    |refine U.aL (by decide +kernel) rfl fun K hK =>?_
    |refine .flat _ (pG _ _) rfl ?_
    |(refine .aF [0,1,3,4,5,6,7,11,25,38] hK ?_;clear hK K)
    |(with_reducible refine .done (hK _ ?_);clear hK K)
    |refine U.of rfl ?_
    |(with_reducible refine ao.aK (fun h =>?_) (fun h =>?_) <;>try simp only[h])) <;>try simp only[aM,R,simprocAttr])
   all_goals clear R
   refine ⟨i+1,by omega,by omega,?_⟩
   simp only[hsu,hd2]
   refine aI.b9 ?_ ?_ ?_ ?_ <;>simp[bd,bT,bS,bD,au,bh,cI,I.only,I.bU,ai.only,ev,jF,bG]
  ·have hd:decide (p<i)=true:=by simp;omega
   have hd2:decide (p<i+1)=true:=by simp;omega
   rw[if_neg (by omega)] at hsu
   have R:=And.intro @hc (And.intro @he (And.intro @hd (And.intro @hw (And.intro @hap3 (And.intro @hbs (And.intro @bI (And.intro @aP @ab)))))))
   repeat' ((first
    |(with_reducible refine .guard (fun hb =>?_) (fun hb =>?_) <;>try simp only[hb])
    |refine U.aL (by decide +kernel) rfl fun K hK =>?_
    |refine .flat _ (pG _ _) rfl ?_
    |(refine .aF [0,1,3,4,5,6,7,11,25,38] hK ?_;clear hK K)
    |(with_reducible refine .done (hK _ ?_);clear hK K)
    |refine U.of rfl ?_
    |(with_reducible refine ao.aK (fun h =>?_) (fun h =>?_) <;>try simp only[h])) <;>try simp only[aM,R,simprocAttr])
   all_goals clear R
   refine ⟨i+1,by omega,by omega,?_⟩
   simp only[hsu,hd2]
   refine aI.b9 ?_ ?_ ?_ ?_ <;>simp[bd,bT,bS,bD,au,bh,cI,I.only,I.bU,ai.only,ev,jF,bG]
 ·have hc:=gp hlt
  have hge:i=l.length:=by omega
  subst hge
  have hfo:=fun xs:List ak=>rS (k:=xs.length) (T:=68) (es:=xs) 17 rfl rfl
  rw[←hend]
  generalize iO l p x l.length=xs at hol ⊢
  have hap1:=fun (A:af) d rest=>happ A d rest xs (by omega) x
  by_cases hp:p<l.length
  ·have hd:decide (p<l.length)=true:=decide_eq_true hp
   rw[if_pos hp]
   have R:=And.intro @hc (And.intro @hd (And.intro @hfo (And.intro @hbs (And.intro @bI (And.intro @aP @ab)))))
   repeat' ((first
    |(with_reducible refine .guard (fun hb =>?_) (fun hb =>?_) <;>try simp only[hb])
    |refine U.aL (by decide +kernel) rfl fun K hK =>?_
    |(refine .aF [0,1,3,4,5,6,7,11,25,38] hK ?_;clear hK K)
    |(with_reducible refine .done (hK _ ?_);clear hK K)
    |refine U.of rfl ?_
    |(with_reducible refine ao.aK (fun h =>?_) (fun h =>?_) <;>try simp only[h])) <;>try simp only[aM,R,simprocAttr])
   all_goals clear R
  ·have hd:decide (p<l.length)=false:=decide_eq_false hp
   rw[if_neg hp]
   have R:=And.intro @hc (And.intro @hd (And.intro @hfo (And.intro @hap1 (And.intro @hbs (And.intro @bI (And.intro @aP @ab))))))
   repeat' ((first
    |(with_reducible refine .guard (fun hb =>?_) (fun hb =>?_) <;>try simp only[hb])
    |refine U.aL (by decide +kernel) rfl fun K hK =>?_
    |(refine .aF [0,1,3,4,5,6,7,11,25,38] hK ?_;clear hK K)
    |(with_reducible refine .done (hK _ ?_);clear hK K)
    |refine U.of rfl ?_
    |(with_reducible refine ao.aK (fun h =>?_) (fun h =>?_) <;>try simp only[h])) <;>try simp only[aM,R,simprocAttr])
   all_goals clear R
def iI:List ak→List ak→Option (List ak)
 |out,[]=>some out
 |out,x::m=>if eD out x.bj then (if ae out (cG out x.bj)=x then iI out m else none) else iI (eI out (cG out x.bj) x) m
def ji(l more:List ak):List ak×Int:=match iI l more with
 |none=>([],43)
 |some out=>if out.length≤60 then (out,0) else ([],2)
theorem afP{l:List ak}{p:Nat}{x y:ak} : y∈eI l p x↔y=x∨y∈l:=by
 have h:=List.take_append_drop p l
 have e:y∈l↔y∈l.take p∨y∈l.drop p:=by rw[←List.mem_append,h]
 rw[e]
 simp only[eI,List.mem_append,List.mem_cons]
 constructor <;>(rintro (h | h | h) <;>simp[h])
theorem Ia{l:List ak}{x:ak}(hs:gS l)(hno:eD l x.bj=false):gS (eI l (cG l x.bj) x):=by
 have h1:∀ a∈l.take (cG l x.bj),before a.bj x.bj=true:=fun a ha=>by
  obtain ⟨i,hi,rfl⟩:=List.mem_take_iff_getElem.1 ha
  rw[eA (by omega)];exact xI (by omega)
 have h2:∀ b∈l.drop (cG l x.bj),before x.bj b.bj=true:=fun b hb=>by
  obtain ⟨i,hi,rfl⟩:=List.mem_drop_iff_getElem.1 hb
  rw[eA (by omega)];exact Jn hs hno (by omega) (by omega)
 simp only[eI,gS]
 refine List.pairwise_append.2 ⟨hs.sublist (List.take_sublist _ _),List.pairwise_cons.2 ⟨h2,hs.sublist (List.drop_sublist _ _)⟩,fun a ha b hb =>?_⟩
 rcases List.mem_cons.1 hb with rfl | hb
 ·exact h1 a ha
 ·exact oH (h1 a ha) (h2 b hb)
end Go.Proofs.YtcldiigclhgafaaGreat
