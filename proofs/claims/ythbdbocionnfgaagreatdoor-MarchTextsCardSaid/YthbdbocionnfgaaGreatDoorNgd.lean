/-
  A part of the proof that the law MarchTexts returns true for every input; seven variables of Go's library start as the text lays them (the card ties them); conditions: none beyond the statement's own. (part 4 of 7)
-/
import Derived.ProofKit
import Derived.SizedLaws
import Derived.WalkKit
import Derived.Tactics
import Derived.Tactics2
import Derived.RecoverIn
import Derived.Test.YthbdbocionnfgaaGreatDoorRows
import Derived.Test.YthbdbocionnfgaaGreatDoorCards
import Derived.Test.YthbdbocionnfgaaGreatDoorTie
import Derived.LaidMore
import Derived.MakeChecks
import Derived.Lib.LaidTab
import Derived.Lib.LaidU8
import Derived.HandedShaped
import Derived.Shelf.Vars
import Derived.Lib.SplitLaws
import Derived.Shelf.Strconv.Itoa3
import Derived.Lib.ItoaLen
import Derived.Lib.AtoiAll
import Derived.Lib.ItoaMem
import Derived.Shelf.Strings.Split
import Derived.Shelf.Small.Wraps
import Derived.Shelf.Strconv.ErrVarAll
import Derived.Shelf.Slices.Turned
import Derived.Test.YthbdbocionnfgaaGreatDoorNgc
set_option linter.unusedSimpArgs false
set_option linter.unusedVariables false
set_option maxHeartbeats 16000000
set_option maxRecDepth 100000
namespace Go.Abs
open Go Go.RowKit
def gQ:aJ:=⟨none,.mv (.c (.bool true)),none⟩
theorem Kt{l:List Oper}{cl:List Nat}(h7:∀ i,i<l.length→(((l.map cB).getD i []).all (fun k=>decide (k<i))&&Nat.beq (cl.getD i 0) (mc cl ((l.map cB).getD i [])))=true)
  {S:Nat→Prop} (hS:∀ i o,l[i]?=some o→S i→∀ k∈cB o,S k):∀ n i o,i≤n→l[i]?=some o→(∀ k∈cB o,S k)→∀ j,(cl.getD i 0).testBit j=true→S j:=by
 have fV:∀ i o,l[i]?=some o→(∀ k∈cB o,k<i)∧(∀ j,(cl.getD i 0).testBit j=true→j∈cB o∨∃ k∈cB o,(cl.getD k 0).testBit j=true):=by
  intro i o ho;have hi:i<l.length:=(zz7.1 ho).1;have h8:=h7 i hi;have hon:(l.map cB).getD i []=cB o:=by simp[zz1,ho]
  rw[hon] at h8;simp only[zz0,zx5,decide_eq_true_eq] at h8;have hb:=Nat.eq_of_beq_eq_true h8.2;exact ⟨h8.1,fun j hj=>sJ (by rw[←hb];exact hj)⟩
 intro n
 induction n with
 |zero =>
  intro i o hi ho hon j hj;obtain ⟨h8,h9⟩:=fV i o ho;rcases h9 j hj with h | ⟨k,hk,_⟩
  ·exact hon j h
  ·have:=h8 k hk;omega
 |succ n ih =>
  intro i o hi ho hon j hj;obtain ⟨h8,h9⟩:=fV i o ho;rcases h9 j hj with h | ⟨k,hk,hjk⟩
  ·exact hon j h
  ·have hki:=h8 k hk;have hkl:k<l.length:=Nat.lt_trans hki (zz7.1 ho).1;obtain ⟨ok,hok⟩:∃ ok,l[k]?=some ok:=⟨l[k],zy2 hkl⟩
   exact ih k ok (by omega) hok (hS k ok hok (hon k hk)) j hjk
def Fz(ab:List FuncId)(L:ep)(on:List (List Nat))(gs:List aJ)(σ:List Nat)(m:Nat):Bool :=
 qu ab L on (gs.take m++[gQ]) (kO on) (σ++[m])&&(ug (m+1) (kO on) m&&Nat.beq gs.length (m+1))
section
variable {c:cV}
theorem JI{K:ai→Prop}{fs:List FuncId}{L:ep}{aY:Array Oper}{gs0 gs:List aJ}{σ:List Nat}{Q:Exit→Act→World→Prop}{m:Nat}(hm:m<aY.size)(hQ:∀ (B:ai) (a:Act) (w:World) (Kw:Act→World→Prop),K B→cd c B a w→wpOpIn c.bB 9 c.P aY Q m Kw a w)
  (hgs:gh c.P c.n aY aY.toList=some gs0) (hsame:∀ i,i≠m→gs[i]?=gs0[i]?) (hgm:gs[m]?=some gQ) (hgl:gs.length=aY.size) (ah:vM fs L aY.toList gs σ)
  (hlast:∀ (S:Nat→Prop),(∀ i o,aY.toList[i]?=some o→S i→∀ k∈cB o,S k)→∀ o,aY.toList[m]?=some o→(∀ k∈cB o,S k)→∀ j,j<gs.length→j≠m→S j) :
  ∀ (fuel:Nat) (listed:Array Bool) (A:ai) (a:Act) (w:World),listed.size=aY.size→(∀ i o,aY.toList[i]?=some o→listed.getD i false=true→∀ k∈cB o,listed.getD k false=true)→(eh σ listed).length≤fuel →
   cZ L A→listed.getD m true=false→bT c.P c.Y fs K (aE (gS gs σ listed) A)→cd c A a w→wpAnyIn c.bB 9 c.P .any aY Q fuel listed a w:=by
 obtain ⟨hlen,hat⟩:=jg hgs;have onOf_mem:∀ (o:Oper) (e:Edge),e∈o.after→Region.binds .any e=true→e.on∈cB o:=fun o e he hb=>by
  simp only[cB,zy9,zv2];exact ⟨e,⟨by simpa using he,hb⟩,rfl⟩
 have of_onOf:∀ (o:Oper) (k:Nat),k∈cB o→∃ e∈o.after,Region.binds .any e=true∧e.on=k:=fun o k hk=>by
  simp only[cB,zy9,zv2] at hk;obtain ⟨e,⟨J,U⟩,af⟩:=hk;exact ⟨e,by simpa using J,U,af⟩
 have last:∀ (listed:Array Bool),listed.size=aY.size→Region.ready .any aY listed=[]→listed.getD m true=false→False:=by
  intro listed hsz hr hml;have all:∀ n,∀ i,i<n→i<aY.size→listed.getD i true=true:=by
   intro n
   induction n with
   |zero=>intro i hi;omega
   |succ n ih =>
    intro i hi his;cases hb:listed.getD i true with
    |true=>rfl
    |false =>
     exfalso
     have ho:aY[i]?=some aY[i]:=zv7 his;have:i∈Region.ready .any aY listed:=mem_ready.2 ⟨hb,aY[i],ho,fun e he hbd=>by
      have hlt:=ah.je i aY[i] (by simp) e.on (onOf_mem _ e he hbd);have J:=ih e.on (by omega) (by omega);have U:e.on<listed.size:=by omega
      simpa[Array.getD_eq_getD_getElem?,U] using J⟩
     rw[hr] at this;cases this
  have:=all (m+1) m (by omega) hm;rw[hml] at this;cases this
 intro fuel
 induction fuel with
 |zero =>
  intro listed A a w hsz hcl hcnt hinv hml hwp ab;have hnone:eh σ listed=[]:=List.length_eq_zero_iff.1 (by omega);have:m∈eh σ listed:=by
   simp only[eh,zv2,hml,Bool.not_false,and_true];exact ah.all m (by omega)
  rw[hnone] at this;cases this
 |succ fuel ih =>
  intro listed A a w hsz hcl hcnt hinv hml hwp ab;refine ⟨fun hr=>(last listed hsz hr hml).elim,fun i hi =>?_⟩;obtain ⟨hun,o,ho,hall⟩:=mem_ready.1 hi;have hin:i<aY.size:=(zy4.1 ho).1;obtain ⟨s1,s2,hσ,e1,e2⟩:=y9 ah.oJ (ah.all i (by omega)) (by omega) hun;have hol:aY.toList[i]?=some o:=by simpa using ho
  obtain ⟨g,hgi0,hcg⟩:=hat i o hol;have hon:∀ k∈cB o,listed.getD k false=true:=fun k hk=>by
   obtain ⟨e,J,U,af⟩:=of_onOf o k hk;exact af▸hall e J U
  by_cases him:i=m
  ·subst him;have hnil:eh σ listed=[i]:=by
    have hz:∀ j∈s1++s2,(!listed.getD j true)=false:=fun j hj=>by
     have hjσ:j∈σ:=by rw[hσ];rcases zw0.1 hj with h | h <;>simp[h]
     have hjl:=ah.lt j hjσ;have hji:j≠i:=fun e=>by
      subst e;have hnd:=ah.oJ;rw[hσ] at hnd;rcases zw0.1 hj with h | h
      ·exact (List.nodup_append.1 hnd).2.2 j h j (by simp) rfl
      ·exact (List.nodup_cons.1 (List.nodup_append.1 hnd).2.1).1 h
     have h5:=hlast (fun k=>listed.getD k false=true) hcl o hol hon j hjl hji;have hjs:j<listed.size:=by omega
     simp[Array.getD_eq_getD_getElem?,hjs] at h5 ⊢;exact h5
    rw[e1];have f1:(s1.filter fun j => !listed.getD j true)=[]:=List.filter_eq_nil_iff.2 fun j hj=>by rw[hz j (List.mem_append_left _ hj)];simp
    have f2:(s2.filter fun j => !listed.getD j true)=[]:=List.filter_eq_nil_iff.2 fun j hj=>by rw[hz j (List.mem_append_right _ hj)];simp
    rw[f1,f2];rfl
   have hgd:gs.getD i default=gQ:=by simp[zz1,hgm]
   simp only[gS,hnil,zz5,zx7,hgd] at hwp;have e:aE [gQ] A=.done A:=rfl;rw[e] at hwp;cases hwp with
   |done hk=>exact hQ A a w _ hk ab
  have hgi:gs[i]?=some g:=by rw[hsame i him];exact hgi0
  have hgd:gs.getD i default=g:=by simp[zz1,hgi]
  have hwp':bT c.P c.Y fs K (aE (g::gS gs σ (listed.setIfInBounds i true)) A):=by
   simp only[gS,e1,zy5,zz5,hgd] at hwp;simp only[gS,e2,zy5];refine bT.oe hinv (fun j hj =>?_) hwp;obtain ⟨k,hk,rfl⟩:=zy9.1 hj;obtain ⟨hk1,hk2⟩:=zv2.1 hk;have:=ah.pW (fun k=>listed.getD k false=true) hcl s1 i s2 o hσ hol hon k hk1 (by
    have hks:k<listed.size:=by
     have:=ah.lt k (by rw[hσ];exact List.mem_append_left _ hk1);omega
    simp[Array.getD_eq_getD_getElem?,hks] at hk2 ⊢;exact hk2)
   rw[hgd] at this;have hkl:=ah.lt k (by rw[hσ];exact List.mem_append_left _ hk1);have hks:k<aY.size:=by omega
   refine ⟨this,?_⟩;rcases ah.rM k aY[k] (by simp) with h | h
   ·exact h
   ·exfalso
    have h9:=h.1;rw[hσ,List.getLast?_append] at h9;have hne:(i::s2).getLast?=some k:=by
     cases h10:(i::s2).getLast? with
     |none=>simp at h10
     |some q=>rw[h10] at h9;simpa using h9
    have hk2:k∈i::s2:=List.mem_of_getLast? hne;have hnd:=ah.oJ;rw[hσ] at hnd;exact (List.nodup_append.1 hnd).2.2 k hk1 k hk2 rfl
  unfold wpOpIn;rw[ho];have hokg:nC g.op=true:=by
   have:=ah.ok i (by omega)
   rwa [hgd] at this
  have hcl':∀ m om,aY.toList[m]?=some om→(listed.setIfInBounds i true).getD m false=true→∀ k∈cB om,(listed.setIfInBounds i true).getD k false=true:=by
   intro m om hom hm k hk;by_cases hmi:m=i
   ·subst hmi;rw[hol,v6] at hom;subst hom;exact getD_set_true (hon k hk)
   ·rw[getD_set_ne false (Ne.symm hmi)] at hm;exact getD_set_true (hcl m om hom hm k hk)
  have hfu:(eh σ (listed.setIfInBounds i true)).length≤fuel:=by
   have:(eh σ listed).length=(eh σ (listed.setIfInBounds i true)).length+1:=by
    rw[e1,e2];simp;omega
   omega
  have hml':(listed.setIfInBounds i true).getD m true=false:=by rw[getD_set_ne true him];exact hml
  rcases ah.rM i o hol with hlb | ⟨hla,hlb⟩
  ·rw[hgd] at hlb;exact tT hcg hinv ⟨hokg,hlb⟩ hwp' ab fun B a' w' hw hiB hs'=>ih _ B a' w' (by simpa using hsz) hcl' hfu hiB hml' hw hs'
  ·exfalso
   have h5:=hlb (fun k=>listed.getD k false=true) hcl hon m (by omega) (Ne.symm him);have hms:m<listed.size:=by omega
   simp[Array.getD_eq_getD_getElem?,hms] at h5 hml;rw[hml] at h5;cases h5
theorem ae.j6{Q:Exit→ai→Prop}{A:ai}{on:List (List Nat)}{gs:List aJ}(m:Nat)(ab:List FuncId)(L:ep)(σ:List Nat){g:bW}{dst:Option Nat}(ah:Fz ab L on gs σ m=true)(hk:gs[m]?=some ⟨dst,g,none⟩)(hi:cZ L A)
  (h:∀ K:ai→Prop,(∀ B,nf c.P Q g B→K B)→bT c.P c.Y ab K (aE (fm (σ++[m]) (gs.take m++[gQ])) A)):ae c (.cg (some on) gs) Q A:=by
 intro code hc a w hs';cases code <;>simp only[eN] at hc <;>try (first | (cases hc;done) | ((repeat' split at hc) <;>cases hc;done))
 rename_i id aY draw;split at hc
 case h_2=>cases hc
 rename_i gs' hgs;split at hc
 case isFalse=>cases hc
 rename_i hok;simp only[v6,bx.cg.injEq] at hc;obtain ⟨he,rfl⟩:=hc;cases draw with
 |false=>cases he
 |true =>
  simp only[cond_true,v6] at he;subst he;simp only[Bool.not_true,Bool.false_or] at hok;simp only[Fz,zz0] at ah;obtain ⟨hd1,hd2,hd3⟩:=ah;have hglen:=Nat.eq_of_beq_eq_true hd3;have hops:gs'.length=aY.size:=by rw[(jg hgs).1,zx6]
  have hXl:(gs'.take m++[gQ]).length=aY.size:=by simp;omega
  have hp:=FF (l:=aY.toList) (by rw[hXl,zx6]) hd1;have h7:∀ i,i<aY.toList.length→(((aY.toList.map cB).getD i []).all (fun k=>decide (k<i))&&Nat.beq ((kO (aY.toList.map cB)).getD i 0) (mc (kO (aY.toList.map cB)) ((aY.toList.map cB).getD i [])))=true:=by
   simp only[qu,zz0,zx5,zv8] at hd1;intro i hi;have:=hd1.2.2 i (by rw[hXl];simpa using hi);simpa only[zz0,zx5] using this
  have hmlt:m<aY.size:=by omega
  refine wpIn_region_any hok (JI (K:=nf c.P Q g) (m:=m) hmlt (fun B a' w' Kw hpn hs2 =>?_) hgs (gs:=gs'.take m++[gQ]) (fun i him =>?_) ?_ hXl hp (fun S hS o ho hon j hj hjm =>?_) aY.size (Array.replicate aY.size false) A a _ (by simp) ?_ ?_ hi (by simp[Array.getD_eq_getD_getElem?,hmlt]) ?_ ?_)
  ·obtain ⟨g1,hg1,hg2⟩:=(jg hgs).2 m aY[m] (by simp[hmlt]);rw[hk,v6] at hg1;subst hg1;obtain ⟨q1,q2,q3,q4⟩:=og hg2;have wn:Region.wanted aY[m] (yielded aY a'.tmps)=true:=by
    rcases q4 with ⟨a5,_⟩ | ⟨_,_,_,_,_,a5⟩
    ·simp[Region.wanted,a5]
    ·simp at a5
   unfold wpOpIn;rw[zv7 hmlt];simp only[wn,if_true];exact FA q1 hpn hs2
  ·rcases Nat.lt_or_ge i m with ao | ao
   ·rw[zy6 (by simp;omega),List.getElem?_take,if_pos ao]
   ·rw[zv1 (by rw[hXl];omega),zv1 (by omega)]
  ·rw[zv3 (by simp;omega)];simp[show min m gs'.length=m by omega]
  ·have hb:(kO (aY.toList.map cB)).getD m 0 |>.testBit j:=by
    simp only[ug,zx5,zv8,Bool.or_eq_true,beq_iff_eq] at hd2;rcases hd2 j (by omega) with e | e
    ·exact absurd e hjm
    ·exact e
   exact Kt h7 hS m m o (zz3 _) ho hon j hb
  ·intro i o _ h
   exfalso
   simp only[Array.getD_eq_getD_getElem?,Array.getElem?_replicate] at h;split at h <;>simp at h
  ·refine zu0 (List.length_filter_le _ _) ?_;rw[hp.len,hXl];exact zz3 _
  ·have hall:eh (σ++[m]) (Array.replicate aY.size false)=σ++[m]:=by
    simp only[eh];refine List.filter_eq_self.2 fun i hi =>?_;have J:=hp.lt i hi;rw[hXl] at J;simp[J]
   simp only[gS,hall];exact h _ fun _ hb=>hb
  ·obtain ⟨D,E,hs'⟩:=hs';exact ⟨D,E,hs'.grow (w' := { w with drawn:=w.drawn+1 }) ⟨rfl,rfl,rfl,zz3 _,fun _ _=>rfl⟩ (fun _ _ h=>h) (fun _ _ h _=>h) (fun b o h=>hs'.aU b o h)⟩
end
end Go.Abs
namespace Go.Abs
open Go Go.RowKit
open Enc (enc)
def lC(w:World):aS:=fun b _=>b<w.heap.size
structure jU (P:Program) (t:TypeId) (α:Type) [Enc α]:Prop where
 cells:P.cellsOf t=Enc.sz α
 acJ:0<Enc.sz α
 qn:∀ {H:Type} {enc0:TypeId×Value→H} {w:World} {fuel:Nat} {cs:List Value} {x:DataW H×List MemPlace},DataW.trod enc0 P w 0 (fun _=>true) true fuel t cs=some x→∃ a:α,al w (lC w) cP (enc a) cs
theorem acx{P:Program}{t:TypeId}(ht:P.underlying t=some (.int .i64))(hc:P.cellsOf t=1):jU P t Int :=
 ⟨hc,by decide,fun h=>by
  obtain ⟨n,rfl,_,hw⟩:=DataW.trod_int ht h;refine ⟨n,?_⟩;rw[eP,al];simp only[Lit.wf,zz0,decide_eq_true_eq] at hw;exact ⟨rfl,hw.1,hw.2⟩⟩
theorem JA(a:Addr)(i j:Nat):(a.add i).add j=a.add (i+j):=by
 unfold Addr.add;by_cases hi:i=0 <;>by_cases hj:j=0 <;>simp[hi,hj,Nat.add_assoc]
theorem acy{P:Program}{t e:TypeId}{α:Type}[Enc α](ht:P.underlying t=some (.slice e))(he:jU P e α)(hc:P.cellsOf t=1):jU P t (List α) :=
 ⟨hc,by rw[kR];exact Nat.one_pos,fun {H enc0 w fuel cs x} h=>by
  rcases DataW.trod_slice ht h with ⟨rfl,_⟩ | ⟨a,len,cap,elems,rest,n,_,rfl,_,hb,ao,hm,hlen,hel,_⟩
  ·refine ⟨[],?_⟩;simp only[hh,zx7];rw[al];exact ⟨none,0,rfl,zz3 _,by decide,.inl rfl,by simp⟩
  ·have key:∀ k,k≤len→∃ (l:List α) (cs':List Value),l.length=k∧aN w (lC w) cP (l.map enc) cs'∧cs'.length=k*Enc.sz α∧∀ j v,cs'[j]?=some v→w.cell? (a.add j)=some v:=by
    intro k
    induction k with
    |zero=>exact fun _=>⟨[],[],rfl,by simp[aN],by simp,by simp⟩
    |succ k ih =>
     intro hk;obtain ⟨l,cs',J,U,af,ar⟩:=ih (by omega);have h5:=hel k (by omega);have h6:k<elems.length:=by omega
     rw[zy2 h6] at h5;obtain ⟨ce,h7,h8⟩:=zv6.1 h5;obtain ⟨y,hy⟩:=he.qn h8;rw[he.cells] at h7;obtain ⟨_,h9,h10⟩:=World.cells?_some h7;refine ⟨l++[y],cs'++ce,by simp[J],?_,by rw[zz8,af,h9,Nat.succ_mul],fun j v hj =>?_⟩
     ·rw[zy5];refine kD _ _ _ _ U ?_;simp only[zz5,zx7,aN];exact ⟨ce,[],by simp,hy,rfl⟩
     ·rcases Nat.lt_or_ge j cs'.length with hlt | hge
      ·rw[zy6 hlt] at hj;exact ar j v hj
      ·rw[zv3 hge] at hj;have hlt:j-cs'.length<Enc.sz α:=by
        have:=(zz7.1 hj).1;omega
       have:=h10 (j-cs'.length) hlt;rw[JA,←af,Nat.add_sub_cancel' hge] at this;rw[this];exact hj
   obtain ⟨l,cs',J,U,af,ar⟩:=key len (zz3 _);refine ⟨l,?_⟩;simp only[hh,al,zz6];refine ⟨some a,cap,by rw[J],by omega,hm,?_,JH l⟩;by_cases hz:len=0
   ·left;have:l=[]:=List.length_eq_zero_iff.1 (by omega);rw[this];rfl
   right
   have hpos:0<cs'.length:=by rw[af];exact Nat.mul_pos (Nat.pos_of_ne_zero hz) he.acJ
   have aR:=ar 0 cs'[0] (zy2 hpos);have hsp:a.spot=none:=by
    simp only[Addr.add,if_true] at aR;unfold World.cell? at aR;split at aR
    ·split at aR
     ·cases aR
     ·rename_i ab;cases bz:a.spot <;>simp_all
    ·cases aR
   have ha:∀ j,a.add j=⟨a.block,a.off+j,none⟩:=fun j=>by
    unfold Addr.add;split
    ·rename_i hj;subst hj;cases a;simp_all
    ·rfl
   refine ⟨a.block,a.off,cs',by cases a;simp_all,fun j v hj =>?_,U⟩;have h5:=ar j v hj;rw[ha] at h5;refine ⟨h5,?_⟩
   show (⟨a.block,a.off+j,none⟩:Addr).block<_
   exact World.block_lt_of_cell? w _ h5⟩
end Go.Abs
namespace Go.Abs
open Go Go.RowKit Go.ChangeShapes
open Enc (enc)
def rH(P:Program)(t:TypeId)(l:List (TypeId×Nat)):Bool:=match P.underlying t with
 |some (.struct fs)=>fs.toList.map (fun f=>(f.type,f.offset))==l
 |_=>false
def Ek(P:Program)(t:TypeId)(n:Nat)(e:TypeId):Bool:=match P.underlying t with
 |some (.array n' e')=>n'==n&&e'==e
 |_=>false
theorem aas{P:Program}{t:TypeId}{n:Nat}{e:TypeId}(h:Ek P t n e=true):P.underlying t=some (.array n e):=by
 unfold Ek at h;split at h
 ·rename_i n' e' ht;simp only[zz0,beq_iff_eq] at h;rw[ht,h.1,h.2]
 ·cases h
theorem aav{P:Program}{t:TypeId}{l:List (TypeId×Nat)}(h:rH P t l=true):∃ fs,P.underlying t=some (.struct fs)∧fs.toList.map (fun f=>(f.type,f.offset))=l:=by
 unfold rH at h;split at h
 ·rename_i fs ht;exact ⟨fs,ht,by simpa using h⟩
 ·cases h
theorem HS{H:Type}{enc0:TypeId×Value→H}{P:Program}{w:World}{fuel:Nat}{t:TypeId}{l:List (TypeId×Nat)}{cs:List Value}{x:DataW H×List MemPlace}(ht:rH P t l=true)(h:DataW.trod enc0 P w 0 (fun _=>true) true fuel t cs=some x) :
  cs.length=P.cellsOf t∧∃ m:Nat,∀ (i:Nat) (u:TypeId) (o:Nat),l[i]?=some (u,o)→∃ y,DataW.trod enc0 P w 0 (fun _=>true) true m u ((cs.drop o).take (P.cellsOf u))=some y:=by
 obtain ⟨fs,J,U⟩:=aav ht;obtain ⟨xs,m,_,_,af,ar,h5⟩:=DataW.trod_struct J h;refine ⟨af,m,fun i u o hi =>?_⟩;rw[←U] at hi;simp only[zx4,t8,Prod.mk.injEq] at hi;obtain ⟨f,hf,rfl,rfl⟩:=hi;have hf':fs[i]?=some f:=by simpa using hf
 have h6:=h5 i f hf';have hlt:i<fs.size:=(zy4.1 hf').1;rw[zy2 (by omega)] at h6;exact ⟨_,h6⟩
section
variable {P:Program} {t:TypeId} {α β γ:Type} [Enc α] [Enc β] [Enc γ] {H:Type} {enc0:TypeId×Value→H} {w:World} {fuel:Nat} {cs:List Value} {x:DataW H×List MemPlace}
theorem acA{u0 u1 u2:TypeId}(ht:rH P t [(u0,0),(u1,Enc.sz α),(u2,Enc.sz α+Enc.sz β)]=true)(aR:jU P u0 α)(J:jU P u1 β)(U:jU P u2 γ)(hc:P.cellsOf t=Enc.sz α+Enc.sz β+Enc.sz γ)(h:DataW.trod enc0 P w 0 (fun _=>true) true fuel t cs=some x) :
  ∃ (a:α) (b:β) (c:γ),al w (lC w) cP (.agg [enc a,enc b,enc c]) cs:=by
 obtain ⟨ao,m,hf⟩:=HS ht h;obtain ⟨y0,k0⟩:=hf 0 u0 0 rfl;obtain ⟨y1,k1⟩:=hf 1 u1 (Enc.sz α) rfl;obtain ⟨y2,k2⟩:=hf 2 u2 (Enc.sz α+Enc.sz β) rfl;obtain ⟨a,ha⟩:=aR.qn k0;obtain ⟨b,hb⟩:=J.qn k1;obtain ⟨c,hcc⟩:=U.qn k2;rw[aR.cells,List.drop_zero] at ha;rw[J.cells] at hb;rw[U.cells,List.take_of_length_le (by rw[zw9];omega)] at hcc;refine ⟨a,b,c,?_⟩;simp only[al,aN];refine ⟨_,_,(zv0 (Enc.sz α) cs).symm,ha,(cs.drop (Enc.sz α)).take (Enc.sz β),(cs.drop (Enc.sz α)).drop (Enc.sz β),(zv0 _ _).symm,hb,(cs.drop (Enc.sz α)).drop (Enc.sz β),[],by simp,?_,rfl⟩;rw[List.drop_drop];exact hcc
theorem acv{fx:Nat}{v:Value}{d:DataW H}{p:List MemPlace}(ho:jU P t α)(hA:Enc.ij α=true)(hst:(match P.underlying t with | some (.struct _) | some (.array _ _)=>true | _=>false)=true)(hv:Value.okWide P w .any fx t v)
  (h:DataW.Trod enc0 P w 0 (fun _=>true) true t v d p):∃ (a:α) (cs:List Value),bC (enc a) v cs∧al w (lC w) cP (enc a) cs:=by
 obtain ⟨fuel,h⟩:=h;have hagg:∃ cs,v=.agg cs:=by
  unfold Value.okWide at hv;split at hst
  ·rename_i fs ht;rw[ht] at hv;obtain ⟨cs,J,_⟩:=hv;exact ⟨cs,J⟩
  ·rename_i n e ht;rw[ht] at hv;obtain ⟨cs,J,_⟩:=hv;exact ⟨cs,J⟩
  ·cases hst
 obtain ⟨cs,rfl⟩:=hagg;have e:(Value.agg cs).cells.toList=cs.toList:=rfl;rw[e] at h;obtain ⟨a,ha⟩:=ho.qn h;exact ⟨a,cs.toList,by simp[bC,Enc.agg,hA],ha⟩
end
theorem acN{H:Type}{enc0:TypeId×Value→H}{P:Program}{f:Func}{s:ChangeSpec}{apart jK handsOn again:Bool}{W W':World}{args:Array Value}{v:Value}{ds gs:List (DataW H)}{before pa pv:List MemPlace}
  (hW:DataW.Whole enc0 P f.params.toList s.vars apart W args.toList ds gs before)
  (hres:∀ (b:Nat) (sp:Nat→Bool) (ah:Bool),DataW.TrodAll enc0 P W' b sp ah f.resultTypes.toList (v.resultList f.resultTypes.size) (s.fn H (ds++gs)).results [])
  (hargs:∀ sp:Nat→Bool,(∀ p∈before,sp p.block=true)→DataW.TrodAll enc0 P W' 0 sp true f.params.toList args.toList (s.fn H (ds++gs)).args pa)
  (hvars:∀ sp:Nat→Bool,(∀ p∈before,sp p.block=true)→DataW.TrodVars enc0 P W' sp s.vars (s.fn H (ds++gs)).vars pv)
  (hps:before=pa++pv) (hb:Below W.heap.size W W')
  (hok:∀ (j:Nat) (t:TypeId) (r:Value),f.resultTypes[j]?=some t→(v.resultList f.resultTypes.size)[j]?=some r→Value.okWide P W' .any 0 t r) :
  s.post enc0 P f apart jK handsOn again W args v W':=by
 have hlt:∀ p∈before,p.block<W.heap.size:=fun p hp=>by simpa using hW.lt p hp
 have hold:∀ p∈before,(fun b=>decide (b<W.heap.size)) p.block=true:=fun p hp=>by simpa using hlt p hp
 refine ⟨ds,gs,before,[],pa,pv,hW,hres _ _ _,hargs _ hold,hvars _ hold,World.keptBut_mono (fun p hp=>⟨hp,?_⟩) (hb.frame (· ∈ before)),fun _ =>?_⟩
 ·rw[hps,zw0] at hp;exact Or.inr hp
 ·obtain ⟨_,_,_,_,_,hz,hn⟩:=hW;refine ⟨hok,_,_,([]++pa)++pv,⟨[]++pa,pv,trodAll_append (hargs _ (fun _ _=>rfl)) (hres _ _ _),hvars _ (fun _ _=>rfl),rfl,?_,?_⟩,?_⟩
  ·intro b off hp;have hp':MemPlace.cell b off∈before:=by rw[hps];simpa using hp
   rw[hb.frozen (p:=⟨b,off,none⟩) (hlt _ hp')];exact hz b off hp'
  ·intro ha;have:=hn ha;rw[hps] at this;simpa using this
  ·intro p hp _;rw[hps];simpa using hp
def Am(P:Program)(u:TypeId)(n:Nat)(S:I→Prop):Prop:=P.cellsOf u=n ∧
 ∀ {H:Type} {enc0:TypeId×Value→H} {w:World} {fuel:Nat} {cs:List Value} {x:DataW H×List MemPlace},DataW.trod enc0 P w 0 (fun _=>true) true fuel u cs=some x→∃ v,S v∧al w (lC w) cP v cs
theorem jU.aY{P:Program}{u:TypeId}{α:Type}[Enc α](h:jU P u α):Am P u (Enc.sz α) fun v=>∃ a:α,v=enc a :=
 ⟨h.cells,fun hx=>by obtain ⟨a,ha⟩:=h.qn hx;exact ⟨enc a,⟨a,rfl⟩,ha⟩⟩
def r2(P:Program):Nat→List (TypeId×Nat)→List (Nat×(I→Prop))→Prop
 |_,[],[]=>True
 |o,(u,off)::l,(n,S)::Ss=>off=o∧Am P u n S∧r2 P (o+n) l Ss
 |_,_,_=>False
def pw:List (Nat×(I→Prop))→List I→Prop
 | [],[]=>True
 |(_,S)::Ss,v::vs=>S v∧pw Ss vs
 |_,_=>False
theorem tc{n:Nat}{S:I→Prop}{Ss:List (Nat×(I→Prop))} : ∀ {vs:List I},pw ((n,S)::Ss) vs→∃ v vs',vs=v::vs'∧S v∧pw Ss vs'
 | [],h=>h.elim
 |v::vs,h=>⟨v,vs,rfl,h.1,h.2⟩
theorem JF:∀ {vs:List I},pw [] vs→vs=[]
 | [],_=>rfl
 |_::_,h=>h.elim
def sE:List (Nat×(I→Prop))→Nat
 | []=>0
 |(n,_)::Ss=>n+sE Ss
theorem CZ{P:Program}{H:Type}{enc0:TypeId×Value→H}{w:World}{m:Nat}{cs:List Value} : ∀ (l:List (TypeId×Nat)) (Ss:List (Nat×(I→Prop))) (o:Nat),r2 P o l Ss→cs.length=o+sE Ss →
  (∀ (i:Nat) (u:TypeId) (off:Nat),l[i]?=some (u,off)→∃ y,DataW.trod enc0 P w 0 (fun _=>true) true m u ((cs.drop off).take (P.cellsOf u))=some y)→∃ vs,pw Ss vs∧aN w (lC w) cP vs (cs.drop o)
 | [],[],o,_,ao,_=>⟨[],trivial,by simp only[aN];exact List.drop_eq_nil_of_le (by simp only[sE] at ao;omega)⟩
 |(u,off)::l,(n,S)::Ss,o,h,ao,hf=>by
  obtain ⟨rfl,U,af⟩:=h;obtain ⟨y,hy⟩:=hf 0 u off rfl;obtain ⟨v,hv1,hv2⟩:=U.2 hy;obtain ⟨vs,k1,k2⟩:=CZ l Ss (off+n) af (by simp only[sE] at ao;omega) fun i u' o' hi=>hf (i+1) u' o' hi;refine ⟨v::vs,⟨hv1,k1⟩,?_⟩;simp only[aN];rw[U.1] at hv2;exact ⟨_,(cs.drop off).drop n,(zv0 n _).symm,hv2,by rw[List.drop_drop];exact k2⟩
 | [],_::_,_,h,_,_=>h.elim
 |_::_,[],_,h,_,_=>by simp[r2] at h
theorem acz{P:Program}{t:TypeId}{H:Type}{enc0:TypeId×Value→H}{w:World}{fuel:Nat}{cs:List Value}{x:DataW H×List MemPlace}(l:List (TypeId×Nat))(Ss:List (Nat×(I→Prop)))(ht:rH P t l=true)(hok:r2 P 0 l Ss)(hc:P.cellsOf t=sE Ss)(h:DataW.trod enc0 P w 0 (fun _=>true) true fuel t cs=some x) :
  ∃ vs,pw Ss vs∧al w (lC w) cP (.agg vs) cs:=by
 obtain ⟨ao,m,hf⟩:=HS ht h;obtain ⟨vs,k1,k2⟩:=CZ l Ss 0 hok (by rw[ao,hc];omega) hf;exact ⟨vs,k1,by simpa only[al,List.drop_zero] using k2⟩
theorem aaO{P:Program}{f:FuncId}{fn:Func}{s:ChangeSpec}{H:Type}{enc0:TypeId×Value→H}{W:World}{ds gs:List (DataW H)}{before:List MemPlace}{xs:List I}{tb:TypeId}{v0 v1:Value}{t0 t1:TypeId}{d0 d1:DataW H}{hE p1:List MemPlace}{again handsOn jK:Bool}
  (ao:laidOutB P=true) (hpar:fn.params.toList=[t0,t1]) (hds:ds=[d0,d1]) (hgs:gs=[]) (hbef:before=hE++p1)
  (hvars:s.vars=[]) (hfn:s.fn H [d0,d1] = { results:=[.lit (.bool true)],args:=[d0,d1] }) (hres:fn.resultTypes = #[tb]) (htb:P.underlying tb=some .bool)
  (hW:DataW.Whole enc0 P fn.params.toList s.vars false W #[v0,v1].toList ds gs before)
  (aR:DataW.Trod enc0 P W 0 (fun _=>true) true t0 v0 d0 hE) (J:DataW.Trod enc0 P W 0 (fun _=>true) true t1 v1 d1 p1)
  (hr:∀ t∈[t0,t1],P.readableRec t=true∧t<P.types.size)
  (hctr:bd P f xs (enc true)) (hlaid:gb P W (fun _=>False)) (hv:aH W (lC W) cP xs [v0,v1]) :
  Calls P f #[v0,v1] W fun e W'=>∃ v,e=.returned v∧s.post enc0 P fn false jK handsOn again W #[v0,v1] v W':=by
 subst hds hgs;refine (hctr.2 W (lC W) [v0,v1] hlaid (fun _ _ h=>h) hv).mono fun e W' ⟨v,D',he,hrv,hb,_,_⟩=>⟨v,he,?_⟩
 have hvb:v=.bool true:=lg hrv;subst hvb;have hlt:∀ x∈before,x.block<W.heap.size:=fun x hx=>by simpa using hW.lt x hx
 rw[hbef] at hlt;refine acN (pa:=hE++(p1++[])) (pv:=[]) hW (fun _ _ _ =>?_) (fun sp hsp =>?_) (fun _ _ =>?_) (by rw[hbef];simp) hb ?_
 ·simp only[zw4,hfn,hres];exact trodAll_mk1 (shut_bool htb true)
 ·simp only[zw4,hfn,hpar];rw[hbef] at hsp;have bh:∀ {t:TypeId} {v:Value} {d:DataW H} {p:List MemPlace},t∈[t0,t1]→DataW.Trod enc0 P W 0 (fun _=>true) true t v d p→(∀ x∈p,x∈hE++p1)→DataW.Trod enc0 P W' 0 sp true t v d p:=fun ht h hp =>
   WideElems.Trod_stays ao (hr _ ht).1 (hr _ ht).2 h (fun x hx=>hb.same (hlt x (hp x hx))) (fun x hx=>hsp x (hp x hx))
  exact trodAll_mk2 (bh (by simp) aR fun x hx=>by simp[hx]) (bh (by simp) J fun x hx=>by simp[hx])
 ·simp only[zw4,hfn,hvars];rfl
 ·intro j t r hj hv';rw[hres] at hj hv'
  match j,hj,hv' with
  |0,hj,hv' =>
   simp[Value.resultList] at hj hv';subst hj;subst hv';simp[Value.okWide,htb,Cell.okWide,Cell.ok]
end Go.Abs
namespace Go.Proofs.YthbdbocionnfgaaGreatDoor
open Go Go.Abs
open Go.Abs.Enc (enc)
structure bn where
 kind:Int
 aL:Int
 other:Int
 no:Int
 deriving DecidableEq,Inhabited
instance:Enc bn where
 enc g:=.agg [.int .i64 g.kind,.int .i64 g.aL,.int .i64 g.other,.int .i64 g.no]
 sz:=4
 bg:=.db [.one,.one,.one,.one]
 ij:=true
 done g:=by simp only[I.done,I.iR,Bool.and_self]
 size g:=by simp only[I.size,I.sizes]
 jy g:=by simp only[I.bg,I.de]
 agg _:=rfl
structure er where
 kind:Int
 dw:Int
 to:Int
 aL:Int
 no:Int
 deriving DecidableEq,Inhabited
instance:Enc er where
 enc g:=.agg [.int .i64 g.kind,.int .i64 g.dw,.int .i64 g.to,.int .i64 g.aL,.int .i64 g.no]
 sz:=5
 bg:=.db [.one,.one,.one,.one,.one]
 ij:=true
 done g:=by simp only[I.done,I.iR,Bool.and_self]
 size g:=by simp only[I.size,I.sizes]
 jy g:=by simp only[I.bg,I.de]
 agg _:=rfl
structure dB where
 no:Int
 to:Int
 aL:Int
 dM:Bool
 deriving DecidableEq,Inhabited
instance:Enc dB where
 enc g:=.agg [.int .i64 g.no,.int .i64 g.to,.int .i64 g.aL,.bool g.dM]
 sz:=4
 bg:=.db [.one,.one,.one,.one]
 ij:=true
 done g:=by simp only[I.done,I.iR,Bool.and_self]
 size g:=by simp only[I.size,I.sizes]
 jy g:=by simp only[I.bg,I.de]
 agg _:=rfl
theorem ky{fs:List I}{f off:Nat}{v:I}(J:f<fs.length)(h:I.sizes (fs.take f)=off):du fs f off v=some v:=by simp[du,h,J]
theorem H9 :
  (∀ g:bn,(enc g).ea=some [.int .i64 g.kind,.int .i64 g.aL,.int .i64 g.other,.int .i64 g.no])∧(∀ g:er,(enc g).ea=some [.int .i64 g.kind,.int .i64 g.dw,.int .i64 g.to,.int .i64 g.aL,.int .i64 g.no]) ∧
  (∀ g:dB,(enc g).ea=some [.int .i64 g.no,.int .i64 g.to,.int .i64 g.aL,.bool g.dM]) ∧
  (∀ (a b c d:I) v,(a.size=1∧b.size=1∧c.size=1)→du [a,b,c,d] 0 0 v=some v) ∧
  (∀ (g:bn),ca (some 4) (enc g)=true)∧(∀ (g:er),ca (some 5) (enc g)=true)∧(∀ (g:dB),ca (some 4) (enc g)=true) ∧
  (∀ (fs:List I) x,(x::fs)[0]?=some x)∧(∀ (fs:List I) x n,(x::fs)[n+1]?=fs[n]?)∧(∀ (fs:List I) x,(x::fs)[1]?=fs[0]?)∧(∀ (fs:List I) x,(x::fs)[2]?=fs[1]?)∧(∀ (fs:List I) x,(x::fs)[3]?=fs[2]?)∧(∀ (fs:List I) x,(x::fs)[4]?=fs[3]?) :=
 ⟨fun _=>rfl,fun _=>rfl,fun _=>rfl,fun a b c d v h=>ky (by simp) (by simp[I.sizes]),fun _=>by rw[fB];rfl,fun _=>by rw[fB];rfl,fun _=>by rw[fB];rfl,fun _ _=>rfl,fun _ _ _=>rfl,fun _ _=>rfl,fun _ _=>rfl,fun _ _=>rfl,fun _ _=>rfl⟩
theorem Fl:(∀ (a b c d:Int) v,du [.int .i64 a,.int .i64 b,.int .i64 c,.int .i64 d] 0 0 v=some v)∧(∀ (a b c d:Int) v,du [.int .i64 a,.int .i64 b,.int .i64 c,.int .i64 d] 1 1 v=some v)∧(∀ (a b c d:Int) v,du [.int .i64 a,.int .i64 b,.int .i64 c,.int .i64 d] 2 2 v=some v)∧(∀ (a b c d:Int) v,du [.int .i64 a,.int .i64 b,.int .i64 c,.int .i64 d] 3 3 v=some v) ∧
  (∀ (a b c d e:Int) v,du [.int .i64 a,.int .i64 b,.int .i64 c,.int .i64 d,.int .i64 e] 0 0 v=some v)∧(∀ (a b c d e:Int) v,du [.int .i64 a,.int .i64 b,.int .i64 c,.int .i64 d,.int .i64 e] 1 1 v=some v)∧(∀ (a b c d e:Int) v,du [.int .i64 a,.int .i64 b,.int .i64 c,.int .i64 d,.int .i64 e] 2 2 v=some v)∧(∀ (a b c d e:Int) v,du [.int .i64 a,.int .i64 b,.int .i64 c,.int .i64 d,.int .i64 e] 3 3 v=some v)∧(∀ (a b c d e:Int) v,du [.int .i64 a,.int .i64 b,.int .i64 c,.int .i64 d,.int .i64 e] 4 4 v=some v) ∧
  (∀ (a b c:Int) (d:Bool) v,du [.int .i64 a,.int .i64 b,.int .i64 c,.bool d] 0 0 v=some v)∧(∀ (a b c:Int) (d:Bool) v,du [.int .i64 a,.int .i64 b,.int .i64 c,.bool d] 1 1 v=some v)∧(∀ (a b c:Int) (d:Bool) v,du [.int .i64 a,.int .i64 b,.int .i64 c,.bool d] 2 2 v=some v)∧(∀ (a b c:Int) (d:Bool) v,du [.int .i64 a,.int .i64 b,.int .i64 c,.bool d] 3 3 v=some v) :=
 ⟨fun _ _ _ _ _=>rfl,fun _ _ _ _ _=>rfl,fun _ _ _ _ _=>rfl,fun _ _ _ _ _=>rfl,fun _ _ _ _ _ _=>rfl,fun _ _ _ _ _ _=>rfl,fun _ _ _ _ _ _=>rfl,fun _ _ _ _ _ _=>rfl,fun _ _ _ _ _ _=>rfl,fun _ _ _ _ _=>rfl,fun _ _ _ _ _=>rfl,fun _ _ _ _ _=>rfl,fun _ _ _ _ _=>rfl⟩
theorem az:(type_of% @H9)∧(type_of% @Fl)∧(∀ {α:Type} [Enc α] (aP:Bool) (A:ai) (x:α),br aP A (enc x)=some (enc x))∧(∀ {α:Type} [Enc α] (x:α),(enc x).bX=true)∧(type_of% @nz)∧(type_of% @EX)∧(type_of% @Co)∧(type_of% @kH)∧(type_of% @bF) :=
 ⟨H9,Fl,@ml,@eF,nz,EX,Co,kH,bF⟩
def dJ(lo hi n:Int):Bool:=decide (lo≤n)&&decide (n≤hi)
theorem pn(n lo hi:Int):bd Tryz.prog 105 [enc n,enc lo,enc hi] (enc (dJ lo hi n)):=by
 refine bd.b5 Tryz.func105 KK LS M4 (t7 rfl) (fun hwf W0 bH E1 =>?_);simp only[AW,FX,bM,zz4,Nat.reduceAdd];have R:=y6 @kH @bF
 repeat' ((first |(with_reducible refine .guard (fun hb =>?_) (fun hb =>?_) <;>try simp only[hb])|refine ae.aB (by decide +kernel) rfl fun K hK =>?_|(refine .au [0,1,2,6] hK ?_;clear hK K)|(with_reducible refine .done (hK _ ?_);clear hK K)|refine ae.of rfl ?_|(with_reducible refine av.aA (fun h =>?_) (fun h =>?_) <;>try simp only[h])) <;>try simp only[aC,R,simprocAttr])
 all_goals clear R
 all_goals (simp at *;simp_all[dJ])
 all_goals omega
theorem nd(n:Int):bd Tryz.prog 61 [enc n] (enc (dJ 0 5 n)):=by
 refine bd.b5 Tryz.func61 Lf Mn NL (t7 rfl) (fun hwf W0 bH E1 =>?_);simp only[Bp,GB,bM];have R:=y6 @kH @bF
 repeat' ((first |refine ae.aB (by decide +kernel) rfl fun K hK =>?_|refine .flat _ (pn n 0 5) rfl ?_|(refine .au [0,2] hK ?_;clear hK K)|(with_reducible refine .done (hK _ ?_);clear hK K)|refine ae.of rfl ?_|(with_reducible refine av.aA (fun h =>?_) (fun h =>?_) <;>try simp only[h])) <;>try simp only[aC,R,simprocAttr])
 all_goals clear R
theorem qM(n:Int):bd Tryz.prog 71 [enc n] (enc (dJ 1 9999 n)):=by
 refine bd.b5 Tryz.func71 Ln Mv NT (t7 rfl) (fun hwf W0 bH E1 =>?_);simp only[By,GK,bM];have R:=y6 @kH @bF
 repeat' ((first |refine ae.aB (by decide +kernel) rfl fun K hK =>?_|refine .flat _ (pn n 1 9999) rfl ?_|(refine .au [0,2] hK ?_;clear hK K)|(with_reducible refine .done (hK _ ?_);clear hK K)|refine ae.of rfl ?_|(with_reducible refine av.aA (fun h =>?_) (fun h =>?_) <;>try simp only[h])) <;>try simp only[aC,R,simprocAttr])
 all_goals clear R
theorem Aj(n:Int):bd Tryz.prog 90 [enc n] (enc (dJ 1 200 n)):=by
 refine bd.b5 Tryz.func90 Ly MF N4 (t7 rfl) (fun hwf W0 bH E1 =>?_);simp only[BF,GV,bM];have R:=y6 @kH @bF
 repeat' ((first |refine ae.aB (by decide +kernel) rfl fun K hK =>?_|refine .flat _ (pn n 1 200) rfl ?_|(refine .au [0,2] hK ?_;clear hK K)|(with_reducible refine .done (hK _ ?_);clear hK K)|refine ae.of rfl ?_|(with_reducible refine av.aA (fun h =>?_) (fun h =>?_) <;>try simp only[h])) <;>try simp only[aC,R,simprocAttr])
 all_goals clear R
theorem sU(n lo hi:Int):bd Tryz.prog 68 [enc n,enc lo,enc hi] (enc (dJ lo hi n)):=by
 refine bd.b5 Tryz.func68 Ll Mt NR (t7 rfl) (fun hwf W0 bH E1 =>?_);simp only[Bw,GI,bM,zz4,Nat.reduceAdd];have R:=y6 @kH @bF
 repeat' ((first |(with_reducible refine .guard (fun hb =>?_) (fun hb =>?_) <;>try simp only[hb])|refine ae.aB (by decide +kernel) rfl fun K hK =>?_|(refine .au [0,1,2,6] hK ?_;clear hK K)|(with_reducible refine .done (hK _ ?_);clear hK K)|refine ae.of rfl ?_|(with_reducible refine av.aA (fun h =>?_) (fun h =>?_) <;>try simp only[h])) <;>try simp only[aC,R,simprocAttr])
 all_goals clear R
 all_goals (simp at *;simp_all[dJ])
 all_goals omega
theorem Af(n:Int):bd Tryz.prog 64 [enc n] (enc (dJ 0 5 n)):=by
 refine bd.b5 Tryz.func64 Lh Mp NN (t7 rfl) (fun hwf W0 bH E1 =>?_);simp only[Br,GD,bM];have R:=y6 @kH @bF
 repeat' ((first |refine ae.aB (by decide +kernel) rfl fun K hK =>?_|refine .flat _ (sU n 0 5) rfl ?_|(refine .au [0,2] hK ?_;clear hK K)|(with_reducible refine .done (hK _ ?_);clear hK K)|refine ae.of rfl ?_|(with_reducible refine av.aA (fun h =>?_) (fun h =>?_) <;>try simp only[h])) <;>try simp only[aC,R,simprocAttr])
 all_goals clear R
theorem I3(n:Int):bd Tryz.prog 67 [enc n] (enc (dJ 1 9999 n)):=by
 refine bd.b5 Tryz.func67 Lk Ms NQ (t7 rfl) (fun hwf W0 bH E1 =>?_);simp only[Bv,GH,bM];have R:=y6 @kH @bF
 repeat' ((first |refine ae.aB (by decide +kernel) rfl fun K hK =>?_|refine .flat _ (sU n 1 9999) rfl ?_|(refine .au [0,2] hK ?_;clear hK K)|(with_reducible refine .done (hK _ ?_);clear hK K)|refine ae.of rfl ?_|(with_reducible refine av.aA (fun h =>?_) (fun h =>?_) <;>try simp only[h])) <;>try simp only[aC,R,simprocAttr])
 all_goals clear R
def fZ(x:bn):Bool :=
 if x.kind=1∨x.kind=2 then dJ 1 9999 x.aL&&(x.other==0&&x.no==0)
 else if 3≤x.kind∧x.kind≤8 then dJ 1 9999 x.aL&&(dJ 0 5 x.other&&dJ 1 200 x.no)
 else false
theorem I2(x:bn):bd Tryz.prog 66 [enc x] (enc (fZ x)):=by
 refine bd.b5 Tryz.func66 Lj Mr NP (t7 rfl) (fun hwf W0 bH E1 =>?_);simp only[Bu,GG,bM];have R:=az
 repeat' ((first |(with_reducible refine .guard (fun hb =>?_) (fun hb =>?_) <;>try simp only[hb])|refine ae.aB (by decide +kernel) rfl fun K hK =>?_|refine .flat _ (qM x.aL) rfl ?_|refine .flat _ (nd x.other) rfl ?_|refine .flat _ (Aj x.no) rfl ?_|(refine .au [0,1,2,4,5,21] hK ?_;clear hK K)|(with_reducible refine .done (hK _ ?_);clear hK K)|refine ae.of rfl ?_|(with_reducible refine av.aA (fun h =>?_) (fun h =>?_) <;>try simp only[h])) <;>try simp only[aC,R,simprocAttr])
 all_goals clear R
 all_goals (simp_all[fZ])
 all_goals (intros;exfalso;omega)
theorem IK(x:bn):bd Tryz.prog 22 [enc x] (enc (if fZ x then (0:Int) else 1)):=by
 refine bd.b5 Tryz.func22 K1 L9 Nw (t7 rfl) (fun hwf W0 bH E1 =>?_);simp only[Be,Gm,bM];have R:=az
 repeat' ((first |(with_reducible refine .guard (fun hb =>?_) (fun hb =>?_) <;>try simp only[hb])|refine ae.aB (by decide +kernel) rfl fun K hK =>?_|refine .flat _ (I3 x.aL) rfl ?_|refine .flat _ (Af x.other) rfl ?_|refine .flat _ (sU x.no 1 200) rfl ?_|(refine .au [0,1,2,4,5,20,21,40] hK ?_;clear hK K)|(with_reducible refine .done (hK _ ?_);clear hK K)|refine ae.of rfl ?_|(with_reducible refine av.aA (fun h =>?_) (fun h =>?_) <;>try simp only[h])) <;>try simp only[aC,R,simprocAttr])
 all_goals clear R
 all_goals (simp_all[fZ])
 all_goals (intros;exfalso;omega)
def uG(r:er):Bool:=dJ 1 4 r.kind&&(dJ 0 5 r.dw&&(dJ 0 5 r.to&&((r.dw != r.to)&&(dJ 1 9999 r.aL&&dJ 1 200 r.no))))
theorem I4(r:er):bd Tryz.prog 70 [enc r] (enc (uG r)):=by
 refine bd.b5 Tryz.func70 Lm Mu NS (t7 rfl) (fun hwf W0 bH E1 =>?_);simp only[Bx,GJ,bM];have R:=az
 repeat' ((first |(with_reducible refine .guard (fun hb =>?_) (fun hb =>?_) <;>try simp only[hb])|refine ae.aB (by decide +kernel) rfl fun K hK =>?_|refine .flat _ (pn r.kind 1 4) rfl ?_|refine .flat _ (nd r.dw) rfl ?_|refine .flat _ (nd r.to) rfl ?_|refine .flat _ (qM r.aL) rfl ?_|refine .flat _ (Aj r.no) rfl ?_|(refine .au [0,1,2] hK ?_;clear hK K)|(with_reducible refine .done (hK _ ?_);clear hK K)|refine ae.of rfl ?_|(with_reducible refine av.aA (fun h =>?_) (fun h =>?_) <;>try simp only[h])) <;>try simp only[aC,R,simprocAttr])
 all_goals clear R
 all_goals (simp_all[uG])
theorem fK{i n:Nat}(h:i<n):decide ((i:Int)<(n:Int))=true:=by simp;omega
theorem fR{i n:Nat}(h:¬ i<n):decide ((i:Int)<(n:Int))=false:=by simp;omega
theorem fg{i:Nat}(h:i<9223372036854775807):IntKind.i64.wrap ((i:Int)+1)=((i+1:Nat):Int):=by rw[iy _ (by omega) (by omega)];rfl
theorem Jp(x y:bn):x=y↔x.kind=y.kind∧x.aL=y.aL∧x.other=y.other∧x.no=y.no:=by cases x;cases y;simp
theorem Js(x y:er):x=y↔x.kind=y.kind∧x.dw=y.dw∧x.to=y.to∧x.aL=y.aL∧x.no=y.no:=by cases x;cases y;simp
theorem Ju(x y:dB):x=y↔x.no=y.no∧x.to=y.to∧x.aL=y.aL∧x.dM=y.dM:=by cases x;cases y;simp
theorem Ps(x y:bn):cj (.bh [.i .i64,.i .i64,.i .i64,.i .i64]) (enc x) (enc y)=some (decide (x=y)):=by
 show cj (.bh [.i .i64,.i .i64,.i .i64,.i .i64]) (.agg [.int .i64 x.kind,.int .i64 x.aL,.int .i64 x.other,.int .i64 x.no]) (.agg [.int .i64 y.kind,.int .i64 y.aL,.int .i64 y.other,.int .i64 y.no])=_
 simp[cj,iD,jE,Jp];rfl
theorem CM(x y:er):cj (.bh [.i .i64,.i .i64,.i .i64,.i .i64,.i .i64]) (enc x) (enc y)=some (decide (x=y)):=by
 show cj (.bh [.i .i64,.i .i64,.i .i64,.i .i64,.i .i64]) (.agg [.int .i64 x.kind,.int .i64 x.dw,.int .i64 x.to,.int .i64 x.aL,.int .i64 x.no]) (.agg [.int .i64 y.kind,.int .i64 y.dw,.int .i64 y.to,.int .i64 y.aL,.int .i64 y.no])=_
 simp[cj,iD,jE,Js];rfl
theorem Pt(x y:dB):cj (.bh [.i .i64,.i .i64,.i .i64,.b]) (enc x) (enc y)=some (decide (x=y)):=by
 show cj (.bh [.i .i64,.i .i64,.i .i64,.b]) (.agg [.int .i64 x.no,.int .i64 x.to,.int .i64 x.aL,.bool x.dM]) (.agg [.int .i64 y.no,.int .i64 y.to,.int .i64 y.aL,.bool y.dM])=_
 simp[cj,iD,jE,Ju];rfl
theorem abt(x y:Int):(x != y) = !decide (x=y):=by by_cases h:x=y <;>simp[h]
theorem IP(a b:List Int):bd Tryz.prog 41 [enc a,enc b] (enc (decide (a=b))):=by
 refine bd.b5 Tryz.func41 K8 Mg ND (t7 rfl) (fun hwf W0 bH E1 =>?_);simp only[Bk,Gu,bM,zz4];have hlen:a.length≤maxLen:=((kI a).1 hwf.1).1;simp only[maxLen] at hlen;clear hwf;by_cases ao:a.length=b.length
 case neg =>
  have hn:((a.length:Int) != (b.length:Int))=true:=by simp;omega
  have R:=y6 @hn az
  repeat' ((first |refine ae.aB (by decide +kernel) rfl fun K hK =>?_|(refine .au [0,1,4,5,10,12,13,14,24] hK ?_;clear hK K)|(with_reducible refine .done (hK _ ?_);clear hK K)|refine ae.of rfl ?_|(with_reducible refine av.aA (fun h =>?_) (fun h =>?_) <;>try simp only[h])) <;>try simp only[aC,R,simprocAttr])
  all_goals clear R
  have:¬ a=b:=fun e=>ao (by rw[e]);simp[this]
 have hn:((a.length:Int) != (b.length:Int))=false:=by simp;omega
 have R:=y6 @hn az
 repeat' ((first |refine ae.aB (by decide +kernel) rfl fun K hK =>?_|(refine .au [0,1,4,5,10,12,13,14,24] hK ?_;clear hK K)|(with_reducible refine .done (hK _ ?_);clear hK K)|refine ae.of rfl ?_|(with_reducible refine av.aA (fun h =>?_) (fun h =>?_) <;>try simp only[h])) <;>try simp only[aC,R,simprocAttr])
 all_goals clear R
 refine ae.loop (fun i:Nat=>aw [(0,enc a),(1,enc b),(12,.int .i64 a.length),(13,.int .i64 i)] []) (fun i=>i≤a.length∧∀ k,k<i→a[k]?=b[k]?) (fun i=>a.length-i) 0 ⟨zw1 _,fun k h=>by omega⟩ ?_ (fun i hi =>?_)
 ·refine bp.cG ?_ ?_ ?_ ?_ <;>simp[b6,cF,cn,ct,bY,I.only,b7]
 obtain ⟨hi1,hi2⟩:=hi;by_cases hlt:i<a.length
 ·have hc:=fK hlt;have he:=fun A=>eK (A:=A) 1 hlt rfl;have hlt2:i<b.length:=by omega
  have he2:=fun A=>eK (A:=A) 1 hlt2 rfl;have hw:=fg (i:=i) (by omega);have hq:=abt a[i] b[i];rcases hp:decide (a[i]=b[i])
  ·rw[hp] at hq;have R:=y6 @hc (y6 @he (y6 @he2 (y6 @hq az)))
   repeat' ((first |refine ae.aB (by decide +kernel) rfl fun K hK =>?_|(refine .au [0,1,4,5,10,12,13,14,24] hK ?_;clear hK K)|(with_reducible refine .done (hK _ ?_);clear hK K)|refine ae.of rfl ?_|(with_reducible refine av.aA (fun h =>?_) (fun h =>?_) <;>try simp only[h])) <;>try simp only[aC,R,simprocAttr])
   all_goals clear R
   have:¬ a=b:=fun e=>by subst e;simp at hp
   simp[this]
  ·rw[hp] at hq;have R:=y6 @hc (y6 @he (y6 @he2 (y6 @hq (y6 @hw az))))
   repeat' ((first |refine ae.aB (by decide +kernel) rfl fun K hK =>?_|(refine .au [0,1,4,5,10,12,13,14,24] hK ?_;clear hK K)|(with_reducible refine .done (hK _ ?_);clear hK K)|refine ae.of rfl ?_|(with_reducible refine av.aA (fun h =>?_) (fun h =>?_) <;>try simp only[h])) <;>try simp only[aC,R,simprocAttr])
   all_goals clear R
   refine ⟨i+1,⟨by omega,fun k hk =>?_⟩,by omega,?_⟩
   ·by_cases e:k=i
    ·subst e;have:a[k]=b[k]:=by simpa using hp
     simp[hlt,hlt2,this]
    ·exact hi2 k (by omega)
   ·refine bp.cG ?_ ?_ ?_ ?_ <;>simp[b6,cF,cn,ct,bY,I.only,b7]
 ·have hc:=fR hlt;have R:=y6 @hc az
  repeat' ((first |refine ae.aB (by decide +kernel) rfl fun K hK =>?_|(refine .au [0,1,4,5,10,12,13,14,24] hK ?_;clear hK K)|(with_reducible refine .done (hK _ ?_);clear hK K)|refine ae.of rfl ?_|(with_reducible refine av.aA (fun h =>?_) (fun h =>?_) <;>try simp only[h])) <;>try simp only[aC,R,simprocAttr])
  all_goals clear R
  have:a=b:=List.ext_getElem? fun k=>by
   by_cases hk:k<i
   ·exact hi2 k hk
   ·rw[zv1 (by omega),zv1 (by omega)]
  simp[this]
theorem IS(a b:List bn):bd Tryz.prog 52 [enc a,enc b] (enc (decide (a=b))):=by
 refine bd.b5 Tryz.func52 La Mi NG (t7 rfl) (fun hwf W0 bH E1 =>?_);simp only[Bl,Gw,bM,zz4];have hlen:a.length≤maxLen:=((kI a).1 hwf.1).1;simp only[maxLen] at hlen;clear hwf;by_cases ao:a.length=b.length
 case neg =>
  have hn:((a.length:Int) != (b.length:Int))=true:=by simp;omega
  have R:=y6 @hn az
  repeat' ((first |refine ae.aB (by decide +kernel) rfl fun K hK =>?_|(refine .au [0,1,4,5,10,12,13,14,24] hK ?_;clear hK K)|(with_reducible refine .done (hK _ ?_);clear hK K)|refine ae.of rfl ?_|(with_reducible refine av.aA (fun h =>?_) (fun h =>?_) <;>try simp only[h])) <;>try simp only[aC,R,simprocAttr])
  all_goals clear R
  have:¬ a=b:=fun e=>ao (by rw[e]);simp[this]
 have hn:((a.length:Int) != (b.length:Int))=false:=by simp;omega
 have R:=y6 @hn az
 repeat' ((first |refine ae.aB (by decide +kernel) rfl fun K hK =>?_|(refine .au [0,1,4,5,10,12,13,14,24] hK ?_;clear hK K)|(with_reducible refine .done (hK _ ?_);clear hK K)|refine ae.of rfl ?_|(with_reducible refine av.aA (fun h =>?_) (fun h =>?_) <;>try simp only[h])) <;>try simp only[aC,R,simprocAttr])
 all_goals clear R
 refine ae.loop (fun i:Nat=>aw [(0,enc a),(1,enc b),(12,.int .i64 a.length),(13,.int .i64 i)] []) (fun i=>i≤a.length∧∀ k,k<i→a[k]?=b[k]?) (fun i=>a.length-i) 0 ⟨zw1 _,fun k h=>by omega⟩ ?_ (fun i hi =>?_)
 ·refine bp.cG ?_ ?_ ?_ ?_ <;>simp[b6,cF,cn,ct,bY,I.only,b7]
 obtain ⟨hi1,hi2⟩:=hi;by_cases hlt:i<a.length
 ·have hc:=fK hlt;have he:=fun A=>eK (A:=A) 4 hlt rfl;have hlt2:i<b.length:=by omega
  have he2:=fun A=>eK (A:=A) 4 hlt2 rfl;have hw:=fg (i:=i) (by omega);have hq:=Ps a[i] b[i];rcases hp:decide (a[i]=b[i])
  ·rw[hp] at hq;have R:=y6 @hc (y6 @he (y6 @he2 (y6 @hq az)))
   repeat' ((first |refine ae.aB (by decide +kernel) rfl fun K hK =>?_|(refine .au [0,1,4,5,10,12,13,14,24] hK ?_;clear hK K)|(with_reducible refine .done (hK _ ?_);clear hK K)|refine ae.of rfl ?_|(with_reducible refine av.aA (fun h =>?_) (fun h =>?_) <;>try simp only[h])) <;>try simp only[aC,R,simprocAttr])
   all_goals clear R
   have:¬ a=b:=fun e=>by subst e;simp at hp
   simp[this]
  ·rw[hp] at hq;have R:=y6 @hc (y6 @he (y6 @he2 (y6 @hq (y6 @hw az))))
   repeat' ((first |refine ae.aB (by decide +kernel) rfl fun K hK =>?_|(refine .au [0,1,4,5,10,12,13,14,24] hK ?_;clear hK K)|(with_reducible refine .done (hK _ ?_);clear hK K)|refine ae.of rfl ?_|(with_reducible refine av.aA (fun h =>?_) (fun h =>?_) <;>try simp only[h])) <;>try simp only[aC,R,simprocAttr])
   all_goals clear R
   refine ⟨i+1,⟨by omega,fun k hk =>?_⟩,by omega,?_⟩
   ·by_cases e:k=i
    ·subst e;have:a[k]=b[k]:=by simpa using hp
     simp[hlt,hlt2,this]
    ·exact hi2 k (by omega)
   ·refine bp.cG ?_ ?_ ?_ ?_ <;>simp[b6,cF,cn,ct,bY,I.only,b7]
 ·have hc:=fR hlt;have R:=y6 @hc az
  repeat' ((first |refine ae.aB (by decide +kernel) rfl fun K hK =>?_|(refine .au [0,1,4,5,10,12,13,14,24] hK ?_;clear hK K)|(with_reducible refine .done (hK _ ?_);clear hK K)|refine ae.of rfl ?_|(with_reducible refine av.aA (fun h =>?_) (fun h =>?_) <;>try simp only[h])) <;>try simp only[aC,R,simprocAttr])
  all_goals clear R
  have:a=b:=List.ext_getElem? fun k=>by
   by_cases hk:k<i
   ·exact hi2 k hk
   ·rw[zv1 (by omega),zv1 (by omega)]
  simp[this]
theorem z7(a b:List er):bd Tryz.prog 17 [enc a,enc b] (enc (decide (a=b))):=by
 refine bd.b5 Tryz.func17 KY L6 Nt (t7 rfl) (fun hwf W0 bH E1 =>?_);simp only[Bb,Gj,bM,zz4];have hlen:a.length≤maxLen:=((kI a).1 hwf.1).1;simp only[maxLen] at hlen;clear hwf;by_cases ao:a.length=b.length
 case neg =>
  have hn:((a.length:Int) != (b.length:Int))=true:=by simp;omega
  have R:=y6 @hn az
  repeat' ((first |refine ae.aB (by decide +kernel) rfl fun K hK =>?_|(refine .au [0,1,4,5,10,12,13,14,24] hK ?_;clear hK K)|(with_reducible refine .done (hK _ ?_);clear hK K)|refine ae.of rfl ?_|(with_reducible refine av.aA (fun h =>?_) (fun h =>?_) <;>try simp only[h])) <;>try simp only[aC,R,simprocAttr])
  all_goals clear R
  have:¬ a=b:=fun e=>ao (by rw[e]);simp[this]
 have hn:((a.length:Int) != (b.length:Int))=false:=by simp;omega
 have R:=y6 @hn az
 repeat' ((first |refine ae.aB (by decide +kernel) rfl fun K hK =>?_|(refine .au [0,1,4,5,10,12,13,14,24] hK ?_;clear hK K)|(with_reducible refine .done (hK _ ?_);clear hK K)|refine ae.of rfl ?_|(with_reducible refine av.aA (fun h =>?_) (fun h =>?_) <;>try simp only[h])) <;>try simp only[aC,R,simprocAttr])
 all_goals clear R
 refine ae.loop (fun i:Nat=>aw [(0,enc a),(1,enc b),(12,.int .i64 a.length),(13,.int .i64 i)] []) (fun i=>i≤a.length∧∀ k,k<i→a[k]?=b[k]?) (fun i=>a.length-i) 0 ⟨zw1 _,fun k h=>by omega⟩ ?_ (fun i hi =>?_)
 ·refine bp.cG ?_ ?_ ?_ ?_ <;>simp[b6,cF,cn,ct,bY,I.only,b7]
 obtain ⟨hi1,hi2⟩:=hi;by_cases hlt:i<a.length
 ·have hc:=fK hlt;have he:=fun A=>eK (A:=A) 5 hlt rfl;have hlt2:i<b.length:=by omega
  have he2:=fun A=>eK (A:=A) 5 hlt2 rfl;have hw:=fg (i:=i) (by omega);have hq:=CM a[i] b[i];rcases hp:decide (a[i]=b[i])
  ·rw[hp] at hq;have R:=y6 @hc (y6 @he (y6 @he2 (y6 @hq az)))
   repeat' ((first |refine ae.aB (by decide +kernel) rfl fun K hK =>?_|(refine .au [0,1,4,5,10,12,13,14,24] hK ?_;clear hK K)|(with_reducible refine .done (hK _ ?_);clear hK K)|refine ae.of rfl ?_|(with_reducible refine av.aA (fun h =>?_) (fun h =>?_) <;>try simp only[h])) <;>try simp only[aC,R,simprocAttr])
   all_goals clear R
   have:¬ a=b:=fun e=>by subst e;simp at hp
   simp[this]
  ·rw[hp] at hq;have R:=y6 @hc (y6 @he (y6 @he2 (y6 @hq (y6 @hw az))))
   repeat' ((first |refine ae.aB (by decide +kernel) rfl fun K hK =>?_|(refine .au [0,1,4,5,10,12,13,14,24] hK ?_;clear hK K)|(with_reducible refine .done (hK _ ?_);clear hK K)|refine ae.of rfl ?_|(with_reducible refine av.aA (fun h =>?_) (fun h =>?_) <;>try simp only[h])) <;>try simp only[aC,R,simprocAttr])
   all_goals clear R
   refine ⟨i+1,⟨by omega,fun k hk =>?_⟩,by omega,?_⟩
   ·by_cases e:k=i
    ·subst e;have:a[k]=b[k]:=by simpa using hp
     simp[hlt,hlt2,this]
    ·exact hi2 k (by omega)
   ·refine bp.cG ?_ ?_ ?_ ?_ <;>simp[b6,cF,cn,ct,bY,I.only,b7]
 ·have hc:=fR hlt;have R:=y6 @hc az
  repeat' ((first |refine ae.aB (by decide +kernel) rfl fun K hK =>?_|(refine .au [0,1,4,5,10,12,13,14,24] hK ?_;clear hK K)|(with_reducible refine .done (hK _ ?_);clear hK K)|refine ae.of rfl ?_|(with_reducible refine av.aA (fun h =>?_) (fun h =>?_) <;>try simp only[h])) <;>try simp only[aC,R,simprocAttr])
  all_goals clear R
  have:a=b:=List.ext_getElem? fun k=>by
   by_cases hk:k<i
   ·exact hi2 k hk
   ·rw[zv1 (by omega),zv1 (by omega)]
  simp[this]
structure bI where
 aD:Int
 j:List bn
 di:Int
 deriving DecidableEq,Inhabited
instance:Enc bI where
 enc g:=.agg [.int .i64 g.aD,enc g.j,.int .i64 g.di]
 sz:=3
 bg:=.db [.one,.one,.one]
 ij:=true
 done g:=by simp only[I.done,I.iR,Enc.done,Bool.and_self]
 size g:=by simp only[I.size,I.sizes,lN,kR]
 jy g:=by simp only[I.bg,I.de,eX,oj]
 agg _:=rfl
theorem e6:(∀ g:bI,(enc g).ea=some [.int .i64 g.aD,enc g.j,.int .i64 g.di])∧(∀ (a c:Int) (b:List bn) v,du [.int .i64 a,enc b,.int .i64 c] 0 0 v=some v)∧(∀ (a c:Int) (b:List bn) v,du [.int .i64 a,enc b,.int .i64 c] 1 1 v=some v)∧(∀ (a c:Int) (b:List bn) v,du [.int .i64 a,enc b,.int .i64 c] 2 2 v=some v) ∧
  (∀ (g:bI),ca (some 3) (enc g)=true)∧(∀ (g:List bn),ca none (enc g)=true) :=
 ⟨fun _=>rfl,fun _ _ _ _=>ky (by simp) rfl,fun _ _ _ _=>ky (by simp) rfl,fun _ _ _ _=>ky (by simp) (by simp[I.sizes,I.size,lN,kR]),fun _=>by rw[fB];rfl,fun _=>by simp[mq,mn]⟩
theorem Jr(x y:bI):x=y↔x.aD=y.aD∧x.j=y.j∧x.di=y.di:=by cases x;cases y;simp
theorem II(a b:bI):bd Tryz.prog 16 [enc a,enc b] (enc (decide (a=b))):=by
 refine bd.b5 Tryz.func16 KX L5 Ns (t7 rfl) (fun hwf W0 bH E1 =>?_);simp only[Ba,Gi,bM,zz4];have R:=y6 @e6 az
 repeat' ((first |(with_reducible refine .guard (fun hb =>?_) (fun hb =>?_) <;>try simp only[hb])|refine ae.aB (by decide +kernel) rfl fun K hK =>?_|refine .flat _ (IS a.j b.j) rfl ?_|(refine .au [0,1,2,3,4] hK ?_;clear hK K)|(with_reducible refine .done (hK _ ?_);clear hK K)|refine ae.of rfl ?_|(with_reducible refine av.aA (fun h =>?_) (fun h =>?_) <;>try simp only[h])) <;>try simp only[aC,R,simprocAttr])
 all_goals clear R
 all_goals (simp_all[Jr])
theorem Kx(aD:Int):(dS [.int .i64 0,.nils 4,.int .i64 0] [(0,.int .i64 aD)]).map I.agg=some (I.agg [.int .i64 aD,.nils 4,.int .i64 0]):=by
 simp[dS,I.bX,I.size]
theorem tl:(dS [.int .i64 0,.nils 4,.int .i64 0] []).map I.agg=some (I.agg [.int .i64 0,.nils 4,.int .i64 0]):=by
 simp[dS]
theorem vl(A:ai)(n:Nat)(b:I)(x y u v:Int)(rest:List aJ):c7 A (some 3) n [] b (.agg [.int .i64 x,.nils 4,.int .i64 y]) rest (some (.agg [.int .i64 u,.nils 4,.int .i64 v]))=aE rest (A.aT n (.box (.agg [.int .i64 x,.nils 4,.int .i64 y]))):=dI rfl rfl rfl
def rY(aD:Int):bI×Int:=if dJ 0 5 aD then (⟨aD,[],0⟩,0) else (⟨0,[],0⟩,90)
theorem z8(aD:Int):bd Tryz.prog 19 [enc aD] (.tuple [enc (rY aD).1,enc (rY aD).2]):=by
 refine bd.b5 Tryz.func19 K0 L8 Nv (t7 rfl) (fun hwf W0 bH E1 =>?_);simp only[Bd,Gl,bM];have R:=y6 @e6 (y6 @Kx (y6 @tl (y6 @vl az)))
 repeat' ((first |refine ae.aB (by decide +kernel) rfl fun K hK =>?_|refine .flat _ (nd aD) rfl ?_|(refine .au [0,2,3,6] hK ?_;clear hK K)|(with_reducible refine .done (hK _ ?_);clear hK K)|refine ae.of rfl ?_|(with_reducible refine av.aA (fun h =>?_) (fun h =>?_) <;>try simp only[h])) <;>try simp only[aC,R,simprocAttr])
 all_goals clear R
 all_goals (simp_all[rY];try rfl)
end Go.Proofs.YthbdbocionnfgaaGreatDoor
namespace Go.Abs
open Go Go.RowKit
open Enc (enc)
def xU:Option Nat→Code
 |none=>.ret
 |some id=>.exit id
def CV:Option Nat→Exit
 |none=>.ret
 |some id=>.exit id
def qJ(o:Obj)(A:ai)(os:List (Nat×aq)):Prop:=∀ n x,ak (eI o os) n=some x→A.o n=some x∧x.only (ay (eI o os))=true∧x.eG=true
def Hp(o:Obj)(In:List (Nat×aq)→Prop)(Ix:Option Nat→List (Nat×aq)→Prop):Exit→ai→Prop
 | .normal,A=>∃ os,qJ o A os∧In os
 | .ret,A=>∃ os,qJ o A os∧Ix none os
 | .exit id,A=>∃ os,qJ o A os∧Ix (some id) os
 |_,_=>False
def Jv(P:Program)(nn:Nat)(x y:bx)(ps:List Nat)(tsR:List (Nat×I))(N:Nat)(item:Nat→List I)(aQ:Nat→List (Nat×aq)→Prop)(Ix:Option Nat→List (Nat×aq)→Prop):Prop :=
 ∀ k osb,k<N→aQ k osb→∀ (w:World) (D:aS) (E:bf) (l:Nat) (o1 o2:Obj),
  ae ⟨P,w,D,nn,cN E,E,dA,some l,none⟩ x (ej (fun B=>B.o 1999999=some (.dR o1)∧ae ⟨P,w,D,nn,cN E,E,dA,some l,none⟩ y (Hp o2 (aQ (k+1)) Ix) (B.aT 1999999 (.dR o2))) (fun _ _=>False)) (aw (uR ps (item k) tsR) (eI o1 osb))
section
variable {c:cV} {Q:Exit→ai→Prop}
theorem aao{o:Obj}{A:ai}{os:List (Nat×aq)}(h:qJ o A os)(o':Obj):∀ n x,ak (eI o' os) n=some x→(A.aT 1999999 (.dR o')).o n=some x∧x.only (ay (eI o' os))=true∧x.eG=true:=fun n x hx=>by
 have e:ay (eI o' os)=ay (eI o os):=by funext m;rw[lS,lS]
 rw[e];by_cases hn:n=1999999
 ·subst hn;rw[p8,if_pos rfl,v6] at hx;subst hx;exact ⟨by simp[ai.aT],rfl,rfl⟩
 ·rw[p8,if_neg hn] at hx;obtain ⟨J,U⟩:=h n x (by rw[p8,if_neg hn];exact hx);exact ⟨by simp only[ai.aT,if_neg hn];exact J,U⟩
theorem ae.mS{f:aM}{ps:List Nat}{x y:bx}{ts tsR:List (Nat×I)}{os0 osb0:List (Nat×aq)}{ρ:List (Nat×Nat)}{g:FuncId}{caps:List I}{N:Nat}{item:Nat→List I}
  (aQ:Nat→List (Nat×aq)→Prop) (Ix:Option Nat→List (Nat×aq)→Prop) (hr0:c.kE=none∧c.fx=none) (hn6:c.n≤1000000)
  (hf:aj (aw ts os0) f=.func g caps) (hcl:I.cv caps=true) (hcb:fy c.P g=true) (lR:Al c.P g caps N item) (hlen:∀ k,(item k).length=ps.length)
  (hfree:ak os0 999999=none) (h19:ay osb0 1999999=false) (hρ:bP ρ 1999999=999999)
  (hgv:∀ o,gG ρ (eI o osb0) ((999999,.dR o)::os0)) (hts:nR ρ (ay osb0) ts tsR)
  (hI:∀ k os,aQ k os→fq osb0 os) (hIx:∀ e os,Ix e os→fq osb0 os) (aR:aQ 0 osb0)
  (hround:Jv c.P c.n x y ps tsR N item aQ Ix)
  (hdone:∀ os,aQ N os→Q .normal (aw ts (dN ρ os++os0))) (hexit:∀ e os,Ix e os→Q (CV e) (aw ts (dN ρ os++os0))) :
  ae c (.mS f ps x y) Q (aw ts os0):=by
 obtain ⟨hr,hbase⟩:=hr0;intro code hc a w ab;cases code <;>simp only[eN] at hc <;>try (first | (cases hc;done) | ((repeat' split at hc) <;>cases hc;done))
 rename_i cf cps cx cy;split at hc
 case h_2=>cases hc
 rename_i f' x' y' hcf hcx hcy;split at hc
 case isFalse=>cases hc
 rename_i hpn;simp only[v6,bx.mS.injEq] at hc;obtain ⟨rfl,rfl,rfl,rfl⟩:=hc;obtain ⟨D,E,ab⟩:=ab;have hF:c.bB=Fence.wide:=by unfold cV.bB;rw[hr]
 have hE0:c.cP 999999=none:=ab.jK (.inr (by decide));have hval:∃ vs:List Value,a.eval cf=.func (.func g) #[] vs.toArray∧aH w D E caps vs:=by
  have hv:=bS ab hcf;rw[hf] at hv;obtain ⟨cs,q1,q2⟩:=hv;simp only[al] at q2;obtain ⟨vs,q3,q4⟩:=q2;exact ⟨vs,by rw[←nr (B7 hcb)];simpa[bC,I.isAgg,q3] using q1.symm,q4⟩
 obtain ⟨vs,hval,hvs⟩:=hval;rw[hF];refine wpIn_rangeFunc fun fn hfn =>?_;obtain ⟨rec,hrec⟩:∃ rec:LoopState→Option Code→Loop,rec=fun bh pe => { state:=bh,pending:=pe,fn,tmps:=a.tmps,params:=cps,assign:=cx,body:=cy,defers:=w.heap.size } :=⟨_,rfl⟩
 obtain ⟨E1,hs1,hE1,hup⟩:=ab.enter hbase hfree hE0 (o:=.loop (rec .ready none)) rfl;obtain ⟨W1,hW1⟩:∃ W1,(w.alloc (.deferred (some []))).alloc (.loop (rec .ready none))=W1:=⟨_,rfl⟩
 rw[hW1] at hs1 hup;obtain ⟨l,ao⟩:∃ l,l=w.heap.size+1:=⟨_,rfl⟩
 rw[←ao] at hE1;obtain ⟨yv,hyv⟩:∃ yv:Value,yv=.func (.yield l) #[] #[]:=⟨_,rfl⟩
 obtain ⟨a1,ha1⟩:∃ a1:Act,a1 = { a with defers := { target:=.collected w.heap.size,args := #[] } :: a.defers } :=⟨_,rfl⟩
 rw[←ha1] at hs1;refine ⟨l,[{ target:=.collected w.heap.size,args := #[] }],W1,{ target:=.fn (.func g) vs.toArray,args := #[yv] },W1,g,#[yv]++vs.toArray,W1,?_,?_,?_,?_,fun _=>by decide,?_⟩
 ·rw[←hW1,hrec,ao];exact run_enterLoop_outer _ _ _ _ _
 ·simp only[resolve,hval,hyv];simp[go_sem]
 ·intro f' _;trivial
 ·simp only[invoke,nO hcb]
 ·-- the iterator's own bargain
  have hG0:=hI 0 osb0 aR;obtain ⟨I',hI'⟩:∃ I':Nat→List (Nat×aq)→Prop,I'=fun k os=>∃ osb,os=eI (.loop (rec .ready none)) osb∧aQ k osb:=⟨_,rfl⟩
  obtain ⟨Ix',hIx'⟩:∃ Ix':List (Nat×aq)→Prop,Ix'=fun os=>∃ e osb,os=eI (.loop (rec .done (some (xU e)))) osb∧Ix e osb:=⟨_,rfl⟩
  obtain ⟨os1,hos1⟩:∃ os1,os1=eI (.loop (rec .ready none)) osb0:=⟨_,rfl⟩
  obtain ⟨Y,hY⟩:∃ Y:Value→List I→List (Nat×aq)→cL→Prop,Y=fun v args os post=>v=yv∧∃ k,args=item k∧k<N∧I' k os∧∀ r os2,(r=.bool true∧I' (k+1) os2)∨(r=.bool false∧Ix' os2)→post r os2:=⟨_,rfl⟩
  have jj:∀ k os',I' k os'→fq os1 os':=fun k os' h=>by
   rw[hI'] at h;obtain ⟨osb,rfl,h⟩:=h;rw[hos1];exact (hI k osb h).eI _ _
  have goodx:∀ os',Ix' os'→fq os1 os':=fun os' h=>by
   rw[hIx'] at h;obtain ⟨e,osb,rfl,h⟩:=h;rw[hos1];exact (hIx e osb h).eI _ _
  have hctr:=lR Y yv I' Ix' os1 (by rw[hyv];rfl) (fun k os' post hk J U=>by rw[hY];exact ⟨rfl,k,rfl,hk,J,U⟩) jj goodx (by rw[hI'];exact ⟨osb0,hos1,aR⟩);have hgv1:gG ρ os1 ((999999,.dR (.loop (rec .ready none)))::os0):=by rw[hos1];exact hgv _
  obtain ⟨A0,hA0⟩:∃ A0:ai,A0=aw ts ((999999,.dR (.loop (rec .ready none)))::os0):=⟨_,rfl⟩
  have hand:nY (Calls c.P g) (fun w D E=>∀ n,pt ⟨c.P,w,D,n,cN E,E,Y,none,none⟩) (.raw yv::caps) os1 (fun r os'=>r=.tuple []∧(I' N os'∨Ix' os')):=fun w D E vs hy hlive hheld hv=>by
   refine (hctr.2 w D E vs hy hlive hheld hv).mono fun e w' ⟨v,he,D',E',r,os',q⟩=>⟨v,D',E',r,os',he,q⟩
  have hshare:=hs1.o5;obtain ⟨Dh,hDh⟩:∃ Dh,Dh=oX (aw ts ((999999,.dR (.loop (rec .ready none)))::os0)) D E1:=⟨_,rfl⟩
  rw[←hDh] at hshare;have hsh:=hshare.1;obtain ⟨Eh,hEh⟩:∃ Eh,Eh=aF ρ os1 E1:=⟨_,rfl⟩
  have isrec:ay os1 1999999=true:=by rw[hos1,lS];simp
  have hEl:Eh 1999999=some (.op l):=by rw[hEh];simp only[aF,isrec,if_true,hρ];exact hE1
  have EhIn:∀ n e,Eh n=some e→ay os1 n=true:=fun n e h=>by
   rw[hEh] at h;simp only[aF] at h;split at h
   ·assumption
   ·cases h
  have hyok:∀ n,pt ⟨c.P,W1,Dh,n,cN Eh,Eh,Y,none,none⟩:=by
   refine fun n=>⟨by rw[hEh];exact hs1.p0,?_⟩
   intro v' args os' post' hYv w2 D2 E2 vs2 hsince hlive hheld hrvs;rw[hY] at hYv;obtain ⟨rfl,k,rfl,hkN,hIk,hpost⟩:=hYv;have hIk0:=hIk;rw[hI'] at hIk;obtain ⟨osb,rfl,hIk⟩:=hIk;have gk:=jj k _ hIk0;have gkb:=hI k osb hIk;have in2:∀ m,ay os1 m=true→E2 m≠none:=fun m hm=>by
    rw[←gk.same m] at hm;cases hx:ak (eI (.loop (rec .ready none)) osb) m with
    |none=>simp[ay,hx] at hm
    |some x=>have:=hheld.bU m;rw[hx] at this;exact uB this
   have same2:∀ m e,Eh m=some e→e.eG=true→E2 m=some e:=fun m e he hfx=>by
    rcases hsince.ec m e he with h | ⟨e',h,hle⟩
    ·exact absurd h (in2 m (EhIn m e he))
    ·rw[hle.eq hfx] at h;exact h
   have hEl2:E2 1999999=some (.op l):=same2 _ _ hEl rfl;have hob:=hheld.bU 1999999;rw[p8,if_pos rfl] at hob;obtain ⟨b,j1,_,j3,_,_⟩:=hob;rw[hEl2] at j1;cases j1;have hsz:vs2.toArray.size=cps.size:=by have:=sw hrvs;rw[hlen] at this;simpa using this
   have hyr:=run_yield (P:=c.P) (args:=vs2.toArray) j3 (by rw[hrec];exact hsz);rw[hrec] at hyr;refine ⟨l,hyv,fn,_,cx,cy,hyr,roundIn_of_wpIn trivial ?_⟩;clear hyr
   -- the round's own frame
   obtain ⟨cr,hcr⟩:∃ cr:cV,cr=⟨c.P,w2,D2,c.n,cN E2,E2,dA,some l,none⟩:=⟨_,rfl⟩
   have hFr:cr.bB=Fence.wide.inRound l:=by rw[hcr];rfl
   have hlat:ef W1 Dh Eh w2 D2 E2:=by
    refine ⟨hsince.cX,hsince.fO.cell,fun m b bg he=>same2 m _ he rfl,fun m aK l he =>?_,fun m b he=>same2 m _ he rfl,fun m b he=>same2 m _ he rfl,hsince.fO.jN⟩;rcases hsince.ec m _ he with h | ⟨e',h,hle⟩
    ·exact absurd h (in2 m (EhIn m _ he))
    ·rcases hle with rfl | ⟨_,_,blk',l',e,rfl,k1,k2⟩
     ·exact ⟨aK,l,h,zz3 _,fun _=>rfl⟩
     ·cases e;exact ⟨blk',l',h,k1,k2⟩
   have hslots:nR ρ (ay os1) ts tsR:=by
    have:∀ tsR:List (Nat×I),nR ρ (ay osb0) ts tsR→nR ρ (ay os1) ts tsR:=by
     intro tsR
     induction tsR with
     |nil=>exact fun h=>h
     |cons q r ih =>
      intro h;obtain ⟨J,U,af⟩:=h;exact ⟨J,iI (fun n hn=>by rw[hos1,lS,hn];simp) _ U,ih af⟩
    exact this tsR hts
   have hsr:aX cr (aw tsR (eI (.loop (rec .ready none)) osb)) { tmps:=a.tmps,defers:=[] } w2 D2 E2:=by
    rw[hcr];refine ⟨ab.sz,⟨[],rfl,.nil,fun _ h=>by simp at h⟩,fun t =>?_,ft.refl _ _,fun _ _ h _=>h,hlive,fun m=>(hheld.bU m).iV fun e b he hb=>.inr ⟨m,e,he,hb⟩,hheld.cU,fun _ e h=>.inr ⟨e,h,.refl e⟩,fun m hm =>?_,fun _ _ h=>h,⟨hsince.rN,fun _ _ _ _ h=>h.elim⟩,.refl _ _⟩
    ·rcases HP hslots t with h | ⟨J,U⟩
     ·simp only[aw];rw[h];simp[a8]
     ·have af:=hsh.eb t;rw[ha1] at af;simp only[aw] at af ⊢;rw[J] at af;have ar:=(a8.bu (w:=W1) (D:=Dh) (p:=ay os1) (ρ:=bP ρ) (E:=Eh) (E':=E1) (fun n hn=>by rw[hEh];simp only[aF,hn,if_true]) U).1 af;exact a8.later hlat ar
    ·have hmi:ay os1 m=true:=by
      rw[←gk.same m];have:=hheld.bU m;cases hx:ak (eI (.loop (rec .ready none)) osb) m with
      |none=>rw[hx] at this;exact absurd this hm
      |some x=>simp[ay,hx]
     have:=gk.mA m hmi;exact ⟨zu0 hn6 this,this⟩
   have hsp:=aX.FP cps.toList vs2 (item k) tsR _ hsr (fun p hp=>by rw[hcr];have:=zx5.1 hpn p hp;simpa using this) hrvs (by have:=hsz;simpa using this.symm);have htm:(cps.zip vs2.toArray).foldl (fun t (q:Tmp×Value)=>t.setIfInBounds q.1 q.2) a.tmps=(cps.toList.zip vs2).foldl (fun t q=>t.setIfInBounds q.1 q.2) a.tmps:=by
    rw[←Array.foldl_toList];simp
   have hx:=hround k osb hkN hIk w2 D2 E2 l (.loop (rec .ready none)) (.loop { rec .ready none with state:=.busy });rw[←hcr] at hx;have hx1:=hx cx (by rw[hcr];exact hcx) _ w2 ⟨D2,E2,hsp⟩;rw[hFr] at hx1;simp only[←htm] at hx1;rw[hcr] at hx1;refine wpIn_mono hx1 ?_;rintro e ax wx ⟨B,hq,hsx⟩;rw[←hcr] at hq hsx;cases e <;>simp only[ej] at hq <;>try exact hq.elim
   simp only[Exit.then];obtain ⟨hB1,hB2⟩:=hq;obtain ⟨Dx,Ex,hsx⟩:=hsx;have hElx:Ex 1999999=some (.op l):=by
    have ho:=hsx.bU 1999999;rw[hB1] at ho;rcases hsx.xy (n:=1999999) (by rw[hcr];exact hEl2) rfl with h | h
    ·exact absurd h (uB ho)
    ·exact h
   have hLx:wx.heap[l]?=some (.loop (rec .ready none)):=by
    have ho:=hsx.bU 1999999;rw[hB1] at ho;obtain ⟨b,k1,_,k3,_⟩:=ho;rw[hElx] at k1;cases k1;exact k3
   refine ⟨_,run_beginRound hLx (by rw[hrec]),?_⟩;have hsb:=hsx.zx (o':=.loop { rec .ready none with state:=.busy }) hB1 hElx rfl;have hy1:=hB2 cy (by rw[hcr];exact hcy) _ _ ⟨Dx,Ex,hsb⟩;rw[hFr] at hy1;rw[hcr] at hy1;refine wpIn_mono hy1 ?_;rintro e a3 w3 ⟨A3,hq3,D3,E3,hs3⟩;rw[←hcr] at hs3
   -- the end of the round
   have br:∀ (os:List (Nat×aq)) (jump:Option Code),qJ (.loop { rec .ready none with state:=.busy }) A3 os→(post' (.bool jump.isNone) (eI (.loop (rec (if jump.isNone then .ready else .done) jump)) os)) →
     ∃ v w',(Instr.endRound l jump).run c.P w3=.ok v w'∧(fun e w'=>∃ v D' E' r os',e=Ending.returned v∧post' r os'∧a8 w' D' E' r v∧kh (fun b=>w2.heap.size≤b∨cN E2 b) w' D' E' (ak os') ∧
      ft (fun b=>w2.heap.size≤b∨cN E2 b) w2 w'∧(∀ b o,D2 b o→D' b o)∧(∀ b o,D' b o→b<w'.heap.size)∧(∀ b o,D' b o→b<w2.heap.size→¬ cN E2 b→D2 b o) ∧
      (∀ n e,E2 n=some e→ay os' n=true→∃ e',E' n=some e'∧e.le e')∧hZ w2 D2 w') (.returned v) w':=fun os jump hbk hp=>by
    have hA3:A3.o 1999999=some (.dR (.loop { rec .ready none with state:=.busy })):=(hbk 1999999 _ (by rw[p8,if_pos rfl])).1;have hEl3:E3 1999999=some (.op l):=by
     have ho:=hs3.bU 1999999;rw[hA3] at ho;rcases hs3.xy (n:=1999999) (by rw[hcr];exact hEl2) rfl with h | h
     ·exact absurd h (uB ho)
     ·exact h
    have hL3:w3.heap[l]?=some (.loop { rec .ready none with state:=.busy }):=by
     have ho:=hs3.bU 1999999;rw[hA3] at ho;obtain ⟨b,k1,_,k3,_⟩:=ho;rw[hEl3] at k1;cases k1;exact k3
    have hend:=run_endRound (P:=c.P) jump hL3;have erec:({ rec .ready none with state:=if jump.isNone then LoopState.ready else .done,pending:=jump } : Loop)=rec (if jump.isNone then .ready else .done) jump:=by rw[hrec]
    have hend':(Instr.endRound l jump).run c.P w3=.ok (.bool jump.isNone) (w3.putObj l (.loop (rec (if jump.isNone then .ready else .done) jump))):=by
     rw[hend];rw[hrec]
    have hs4:=hs3.zx (o':=.loop (rec (if jump.isNone then .ready else .done) jump)) hA3 hEl3 rfl;rw[hcr] at hs4;obtain ⟨D',E',_,_,_,q1,q2,q3,q4,q5,q6⟩:=hs4.x3 (aao hbk _);exact ⟨_,_,hend',_,D',E',.bool jump.isNone,_,rfl,hp,⟨[.bool jump.isNone],by simp[bC,I.isAgg],by simp[al]⟩,q1,q2,q3,q4,q5,q6⟩
   cases e with
   |normal =>
    obtain ⟨os,hbk,hin⟩:=hq3;exact br os none hbk (hpost _ _ (.inl ⟨rfl,by rw[hI'];exact ⟨os,rfl,hin⟩⟩))
   |ret =>
    obtain ⟨os,hbk,hin⟩:=hq3;exact br os (some .ret) hbk (hpost _ _ (.inr ⟨rfl,by rw[hIx'];exact ⟨none,os,rfl,hin⟩⟩))
   |exit id =>
    obtain ⟨os,hbk,hin⟩:=hq3;exact br os (some (.exit id)) hbk (hpost _ _ (.inr ⟨rfl,by rw[hIx'];exact ⟨some id,os,rfl,hin⟩⟩))
   |goto t=>exact hq3.elim
   |panic ch=>exact hq3.elim
   |outgrown=>exact hq3.elim
  -- the call
  have hargs:fQ (a8 W1 D E1) (.raw yv::caps) (yv::vs):=by
   exact .cons ⟨[yv],by simp[bC,I.isAgg],by rw[hyv];exact ⟨rfl,rfl⟩⟩ (sv (hup caps vs hvs))
  have hus:=hand.use (ρ:=ρ) hs1 false (fun h=>h.mono) ⟨(fun h=>by cases h),fun _=>by rw[←hDh,←hEh];exact hyok⟩ hgv1 (th _ (by simp[I.cv,I.bG,hcl]))
   (fun r os' hp=>by
    have gg:fq os1 os':=by
     rcases hp.2 with h | h
     ·exact jj _ _ h
     ·exact goodx _ h
    refine ⟨fun m x hx=>⟨(gg.ok m x hx).1,(gg.ok m x hx).2,fun h=>by cases h⟩,fun m m' J U=>hgv1.inj m m' (by rw[←gg.same];exact J) (by rw[←gg.same];exact U),fun m hm=>by rw[gg.same];exact hm,fun m J U=>(by rw[gg.same,U] at J;cases J),(by rw[hp.1];simp[I.only,I.b8]),fun h=>by cases h⟩) hargs
  have ecl : #[yv]++vs.toArray=(yv::vs).toArray:=by simp
  rw[ecl];refine CallsIn.mono (callsIn_wide.2 hus) ?_;rintro e w3 ⟨v,r,os',D2,E2,rfl,hp,hs2,_,hE2⟩;have key:∀ (o3:Obj) (osb:List (Nat×aq)),os'=eI o3 osb→pX o3=true→E2 999999=some (.op l)∧w3.heap[l]?=some o3∧∀ o4,pX o4=true→cd c (aw ts (dN ρ osb++os0)) a1 (w3.putObj l o4):=fun o3 osb he af=>by
   subst he;have hn2:E2 999999=some (.op l):=by
    obtain ⟨e',J,U⟩:=hE2 1999999 (.op l) (by rw[←hEh];exact hEl) (by rw[lS];simp);rw[hρ] at J;rw[J,U.eq rfl]
   have eos:dN ρ (eI o3 osb)=(999999,.dR o3)::dN ρ osb:=by simp only[eI,dN,zz5,hρ,aq.bu]
   rw[eos] at hs2;have ha:(aw ts ((999999,aq.dR o3)::dN ρ osb++(999999,.dR (.loop (rec .ready none)))::os0)).o 999999=some (.dR o3):=by simp[aw,ak]
   have hgb:∀ m,ay osb m=true→bP ρ m≠999999:=fun m hm e=>by
    have h5:ay (eI o3 osb) m=true:=by rw[lS,hm];simp
    have g5:fq os1 (eI o3 osb):=by
     rcases hp.2 with h | h
     ·exact jj _ _ h
     ·exact goodx _ h
    have h6:=hgv1.inj m 1999999 (by rw[←g5.same];exact h5) isrec (by rw[hρ];exact e);subst h6;have h7:fq osb0 osb:=by
     rcases hp.2 with h | h
     ·rw[hI'] at h;obtain ⟨osb',h8,h9⟩:=h;simp only[eI,zw3] at h8;rw[h8.2];exact hI _ _ h9
     ·rw[hIx'] at h;obtain ⟨e,osb',h8,h9⟩:=h;simp only[eI,zw3] at h8;rw[h8.2];exact hIx _ _ h9
    rw[h7.same,h19] at hm;cases hm
   refine ⟨hn2,?_,fun o4 ar =>?_⟩
   ·have ho:=hs2.bU 999999;rw[ha] at ho;obtain ⟨b,k1,_,k3,_⟩:=ho;rw[hn2] at k1;cases k1;exact k3
   ·have h5:=(hs2.zx (o':=o4) ha hn2 ar).Pm hn2;have hst:(⟨((aw ts ((999999,aq.dR o3)::dN ρ osb++(999999,.dR (.loop (rec .ready none)))::os0)).aT 999999 (.dR o4)).t,fun m=>if m=999999 then none else
      ((aw ts ((999999,aq.dR o3)::dN ρ osb++(999999,.dR (.loop (rec .ready none)))::os0)).aT 999999 (.dR o4)).o m⟩:ai)=aw ts (dN ρ osb++os0):=by
     simp only[aw,ai.aT]
     congr 1
     funext m
     by_cases hm:m=999999
     ·subst hm;simp only[if_true,rS];cases hq:pre ρ osb 999999 with
      |none=>exact hfree.symm
      |some k=>exact absurd (lY hq).2 (hgb k (lY hq).1)
     ·simp only[if_neg hm,zy1,ak,rS]
    rw[hst] at h5;exact ⟨D2,_,h5⟩
  rcases hp.2 with h | h
  ·rw[hI'] at h;obtain ⟨osb,he,hin⟩:=h;obtain ⟨k1,k2,k3⟩:=key _ osb he rfl;refine ⟨none,_,(by have:=run_endLoop (P:=c.P) k2 (by rw[hrec];simp);rw[hrec] at this;exact this),_,hdone osb hin,?_⟩;have:=k3 (.loop { rec .ready none with state:=.exhausted }) rfl;rw[ha1] at this;rw[hrec] at this;exact this
  ·rw[hIx'] at h;obtain ⟨e,osb,he,hin⟩:=h;obtain ⟨k1,k2,k3⟩:=key _ osb he rfl;refine ⟨some (xU e),_,(by have:=run_endLoop (P:=c.P) k2 (by rw[hrec];simp);rw[hrec] at this;exact this),?_⟩;have:=k3 (.loop { rec .done (some (xU e)) with state:=.exhausted }) rfl;rw[ha1] at this;rw[hrec] at this;have hq:uk c Q (CV e) { a with defers := { target:=.collected w.heap.size,args := #[] } :: a.defers } _:=⟨_,hexit e osb hin,this⟩
   cases e with
   |none=>exact wpIn_ret hq
   |some id=>exact wpIn_exit hq
end
mutual
theorem kZ{ρ:Nat→Nat}(h:∀ n,ρ n=n):∀ x:I,x.bu ρ=x
 | .agg fs | .tuple fs=>by simp only[I.bu];rw[mO h fs]
 | .slice _ es=>by simp only[I.bu];rw[mO h es]
 | .ref x=>by simp only[I.bu];rw[kZ h x]
 | .func _ caps=>by simp only[I.bu];rw[mO h caps]
 | .iface _ v=>by simp only[I.bu];rw[kZ h v]
 | .ptr _ _ | .own _ _ | .view _ _ _ _ _ | .mref _ | .dC _=>by simp only[I.bu,h]
 | .dx ks vs=>by simp only[I.bu];rw[mO h ks,mO h vs]
 | .bool _ | .int _ _ | .bm _ | .nilp | .dK | .dL | .any | .raw _ | .nils _ | .c0 _ | .undef | .dF=>by simp only[I.bu]
theorem mO{ρ:Nat→Nat}(h:∀ n,ρ n=n):∀ xs:List I,I.ee ρ xs=xs
 | []=>rfl
 |x::xs=>by simp only[I.ee];rw[kZ h x,mO h xs]
end
theorem aq.kZ{ρ:Nat→Nat}(h:∀ n,ρ n=n):∀ x:aq,x.bu ρ=x
 | .box x=>by simp only[aq.bu,Abs.kZ h]
 | .bV _ _ es=>by simp only[aq.bu,mO h]
 | .dR _=>rfl
 | .dT _ _=>rfl
 | .bD _ _=>by simp only[aq.bu,mO h]
 | .it _ _ _ _=>by simp only[aq.bu,mO h]
theorem mN(os:List (Nat×aq)):dN [] os=os:=by
 simp only[dN];have:(fun q:Nat×aq=>(bP [] q.1,q.2.bu (bP [])))=id:=by
  funext q
  rw[aq.kZ (ρ:=bP []) (fun n=>rfl)];rfl
 rw[this,List.map_id]
theorem fY(a b:List (Nat×aq))(n:Nat):ak (a++b) n=match ak a n with
  |some x=>some x
  |none=>ak b n:=by
 induction a with
 |nil=>rfl
 |cons q a ih =>
  obtain ⟨k,v⟩:=q;simp only[zy1,ak];split
  ·rfl
  ·exact ih
theorem fq.none{os os':List (Nat×aq)}(h:fq os os'){n:Nat}(hn:n<1000000):ak os' n=none:=by
 cases hx:ak os' n with
 |none=>rfl
 |some x =>
  have J:ay os' n=true:=by simp[ay,hx]
  rw[h.same] at J;exact absurd (h.mA n J) (by omega)
theorem bp.slots{ts ts':List (Nat×I)}{os os':List (Nat×aq)}(J:b6 ts ts')(U:∀ n,ak os n=ak os' n):bp (aw ts os) (aw ts' os'):=by
 have e:aw ts os=aw ts os':=by
  simp only[aw];congr 1;funext n;exact U n
 rw[e];rintro c a w ⟨D,E,ab⟩;refine ⟨D,E,ab.sz,ab.eS,fun t =>?_,ab.dZ,ab.dh,ab.aU,ab.bU,ab.cU,ab.ec,ab.fe,ab.cX,ab.fp,ab.fO⟩;rcases vr J t with h | h
 ·simp only[aw];rw[h];simp[a8]
 ·have:=ab.eb t;simp only[aw] at *;rw[h];exact this
theorem tj{os osk os2 ow:List (Nat×aq)}{ts:List (Nat×I)}(J:fq os osk)(U:fq os os2)(how:∀ m,ay ow m=true→m<1000000):aw ts (dN [] os2++(ow++osk))=aw ts (ow++os2):=by
 simp only[aw,mN]
 congr 1
 funext n
 simp only[fY];cases hw:ak ow n with
 |none =>
  simp only;cases af:ak os2 n with
  |some x=>rfl
  |none =>
   simp only;cases ar:ak osk n with
   |none=>rfl
   |some x =>
    have h5:ay osk n=true:=by simp[ay,ar]
    rw[J.same,←U.same] at h5;simp[ay,af] at h5
 |some x =>
  simp only;rw[U.none (how n (by simp[ay,hw]))]
theorem gG.jj{os osk ow:List (Nat×aq)}(J:fq os osk)(how:∀ m,ay ow m=true→m<1000000):gG [] osk (ow++osk):=by
 refine ⟨fun m x hx =>?_,fun m m' _ _ h=>h⟩;have hm:ay osk m=true:=by simp[ay,hx]
 have hg:=J.mA m (by rw[←J.same];exact hm);obtain ⟨k1,k2⟩:=J.ok m x hx;refine ⟨?_,k1,k2⟩;rw[aq.kZ (ρ:=bP []) (fun n=>rfl)];simp only[bP,fY];cases hw:ak ow m with
 |none=>exact hx
 |some y=>have:=how m (by simp[ay,hw]);omega
theorem gX.jj{os osk os2 os0:List (Nat×aq)}{r:I}(J:fq os osk)(U:fq os os2)(hr:r.bG=true):gX false [] osk os0 r os2:=by
 refine ⟨fun m x hx=>⟨(U.ok m x hx).1,(U.ok m x hx).2,fun h=>by cases h⟩,fun m m' _ _ h=>h,fun m hm=>by rw[U.same,←J.same];exact hm,fun m af ar =>?_,kW _ r hr,fun h=>by cases h⟩;rw[U.same,←J.same,ar] at af;cases af
theorem aV.sM{P:Program}{Y:Value→List I→List (Nat×aq)→cL→Prop}{K:ai→Prop}{v:Value}{vs:List I}{dst:Option Nat}{rest:List aJ}{ts:List (Nat×I)}{os osk ow:List (Nat×aq)}{In Ix:List (Nat×aq)→Prop}
  (hY:Y v vs osk (fun r os2=>(r=.bool true∧In os2)∨(r=.bool false∧Ix os2))) (hk:fq os osk) (hi:∀ os',In os'→fq os os') (hx:∀ os',Ix os'→fq os os') (hcl:I.cv vs=true) (how:∀ m,ay ow m=true→m<1000000)
  (J:∀ os2,In os2→aV P Y false K (aE rest ((aw ts (ow++os2)).aW dst (.bool true)))) (U:∀ os2,Ix os2→aV P Y false K (aE rest ((aw ts (ow++os2)).aW dst (.bool false)))) :
  aV P Y false K (.lG v vs dst rest (aw ts (ow++osk))):=by
 refine .vz osk vs _ rfl hY (gG.jj hk how) (th vs hcl) ?_ ?_
 ·rintro r os' (⟨rfl,h⟩ | ⟨rfl,h⟩)
  ·exact gX.jj hk (hi _ h) rfl
  ·exact gX.jj hk (hx _ h) rfl
 ·rintro r os' (⟨rfl,h⟩ | ⟨rfl,h⟩)
  ·rw[tj hk (hi _ h) how];exact J os' h
  ·rw[tj hk (hx _ h) how];exact U os' h
theorem tw(A:ai)(d:Option Nat)(args:List I)(rest:List aJ)(v:Value):qY A d args rest (.raw v)=.lG v args d rest A:=rfl
end Go.Abs
namespace Go.Proofs.YthbdbocionnfgaaGreatDoor
open Go Go.Abs
open Go.Abs.Enc (enc)
structure aI where
 aD:Int
 here:List Int
 all:List dB
 aU:List Nat
 bA:List bn
 deriving Inhabited
structure n1 where
 dw:Int
 no:Int
 deriving DecidableEq
instance:Enc n1 where
 enc g:=.agg [.int .i64 g.dw,.int .i64 g.no]
 sz:=2
 bg:=.db [.one,.one]
 ij:=true
 done g:=by simp only[I.done,I.iR,Bool.and_self]
 size g:=by simp only[I.size,I.sizes]
 jy g:=by simp only[I.bg,I.de]
 agg _:=rfl
theorem w7(x y:n1):cj (.bh [.i .i64,.i .i64]) (enc x) (enc y)=some (decide (x=y)):=by
 show cj (.bh [.i .i64,.i .i64]) (.agg [.int .i64 x.dw,.int .i64 x.no]) (.agg [.int .i64 y.dw,.int .i64 y.no])=_
 have:x=y↔x.dw=y.dw∧x.no=y.no:=by cases x;cases y;simp
 simp[cj,iD,jE,this];rfl
theorem fh(a b:Int):cj (.i .i64) (enc a) (enc b)=some (decide (a=b)):=by
 show cj (.i .i64) (.int .i64 a) (.int .i64 b)=_
 simp[cj];rfl
def fU(x:bn):n1:=⟨x.other,x.no⟩
def aI.cw(s:aI)(i:Nat):dB:=s.all.getD i default
def aI.bL(s:aI):List dB:=s.aU.map s.cw
def aI.bK(s:aI):List Int:=s.aU.map fun i:Nat=>((i:Int)+1)
def aI.fD(s:aI)(b:Int):Bool:=s.bL.any fun r=>decide (r.aL=b)
def aI.en(s:aI):List n1:=s.bA.map fU
def aI.unknown(s:aI)(x:bn):Bool:=(x.other != s.aD) && !decide (fU x∈s.en)
def aI.at(s:aI)(no:Int):Option Nat:=s.aU.find? fun i=>decide (no=(i:Int)+1)
def aI.on(s:aI)(x:bn):Option Nat:=match s.at x.no with
 |some i=>if (s.cw i).to=x.other∧(s.cw i).aL=x.aL then some i else none
 |none=>none
def bJ(B i:Nat):Nat:=B+5+i
def gn(B d k i:Nat):Nat:=if i=k then d else B+5+i
def nV(B:Nat)(aD dO:Int):I:=.agg [.int .i64 aD,.mref (B+1),.mref (B+2),.int .i64 dO,.mref (B+3),.mref (B+4)]
def pV(l:List Int):aq:=.bD (l.map enc) (List.replicate l.length (.bool true))
def ed(ν:Nat→Nat)(l:List Nat):List I:=l.map fun i=>.ptr (ν i) []
def oW(ν:Nat→Nat)(s:aI):aq:=.bD (s.bK.map enc) (ed ν s.aU)
def rL(s:aI):aq:=.bD (s.en.map enc) (s.bA.map enc)
def hs:List I:=[.int .i64 1,.int .i64 2,.int .i64 3,.int .i64 4,.int .i64 5,.int .i64 6,.int .i64 7,.int .i64 8]
def pB(B:Nat):aq:=.bD hs [.func 1000125 [.ptr B []],.func 1000126 [.ptr B []],.func 1000127 [.ptr B []],.func 1000128 [.ptr B []],.func 1000129 [.ptr B []],.func 1000130 [.ptr B []],.func 1000131 [.ptr B []],.func 1000132 [.ptr B []]]
def jW(ν:Nat→Nat):Nat→List dB→List (Nat×aq)
 |_,[]=>[]
 |i,r::l=>(ν i,.box (enc r))::jW ν (i+1) l
def eA(B:Nat)(ν:Nat→Nat)(s:aI):List (Nat×aq) :=
 (B,.box (nV B s.aD s.all.length))::(B+1,pV s.here)::(B+2,oW ν s)::(B+3,rL s)::(B+4,pB B)::jW ν 0 s.all
structure gN (B:Nat) (ν:Nat→Nat) (k:Nat):Prop where
 out:∀ i,i<k→ν i<B∨B+5≤ν i
 inj:∀ i j,i<k→j<k→ν i=ν j→i=j
theorem gN.bJ(B k:Nat):gN B (bJ B) k:=⟨fun i _=>.inr (by simp[Go.Proofs.YthbdbocionnfgaaGreatDoor.bJ]),fun i j _ _ h=>by simp[Go.Proofs.YthbdbocionnfgaaGreatDoor.bJ] at h;exact h⟩
theorem gN.gn{B d k m:Nat}(h:d<B)(hm:m≤k+1):gN B (gn B d k) m :=
 ⟨fun i _=>by simp only[Go.Proofs.YthbdbocionnfgaaGreatDoor.gn];split <;>omega,fun i j hi hj h=>by simp only[Go.Proofs.YthbdbocionnfgaaGreatDoor.gn] at h;(repeat' split at h) <;>omega⟩
theorem mH{B d k i:Nat}(h:i<k):gn B d k i=bJ B i:=by simp only[gn,bJ];rw[if_neg (by omega)]
theorem AJ{ν:Nat→Nat} : ∀ (l:List dB) (i k:Nat) (h:k<l.length),(∀ a b,a<i+l.length→b<i+l.length→ν a=ν b→a=b)→ak (jW ν i l) (ν (i+k))=some (.box (enc l[k]))
 | [],_,_,h,_=>by simp at h
 |r::l,i,0,_,_=>by simp[jW,ak]
 |r::l,i,k+1,h,hj=>by
  simp only[zx8] at h hj;simp only[jW,ak];rw[if_neg (fun e=>by have:=hj _ _ (by omega) (by omega) e;omega)];have:=AJ l (i+1) k (by omega) (fun a b ha hb=>hj a b (by omega) (by omega));rw[show i+1+k=i+(k+1) by omega] at this;simpa using this
theorem AL{ν:Nat→Nat}{n:Nat} : ∀ (l:List dB) (i:Nat),(∀ k,k<l.length→n≠ν (i+k))→ak (jW ν i l) n=none
 | [],_,_=>rfl
 |r::l,i,h=>by
  simp only[zx8] at h;simp only[jW,ak];rw[if_neg (by have:=h 0 (by omega);simpa using this)];exact AL l (i+1) fun k hk=>by have:=h (k+1) (by omega);rw[show i+1+k=i+(k+1) by omega];exact this
theorem AK{ν ν':Nat→Nat} : ∀ (l:List dB) (i:Nat),(∀ k,k<i+l.length→ν k=ν' k)→jW ν i l=jW ν' i l
 | [],_,_=>rfl
 |r::l,i,h=>by
  simp only[zx8] at h;simp only[jW,h i (by omega),AK l (i+1) fun k hk=>h k (by omega)]
theorem ad7{B:Nat}{ν ν':Nat→Nat}{s:aI}(ao:∀ i∈s.aU,i<s.all.length)(h:∀ k,k<s.all.length→ν k=ν' k):eA B ν s=eA B ν' s:=by
 have J:ed ν s.aU=ed ν' s.aU:=List.map_congr_left fun i hi=>by rw[h i (ao i hi)]
 simp only[eA,oW,J,AK s.all 0 (by simpa using h)]
section
variable {B:Nat} {ν:Nat→Nat} {s:aI}
theorem zH(B:Nat)(ν:Nat→Nat)(k n:Nat):n=B∨n=B+1∨n=B+2∨n=B+3∨n=B+4∨((n<B∨B+5≤n)∧(∃ i,i<k∧n=ν i))∨((n<B∨B+5≤n)∧∀ i,i<k→n≠ν i):=by
 by_cases J:n=B
 ·exact .inl J
 by_cases U:n=B+1
 ·exact .inr (.inl U)
 by_cases af:n=B+2
 ·exact .inr (.inr (.inl af))
 by_cases ar:n=B+3
 ·exact .inr (.inr (.inr (.inl ar)))
 by_cases h5:n=B+4
 ·exact .inr (.inr (.inr (.inr (.inl h5))))
 have h6:n<B∨B+5≤n:=by omega
 by_cases h7:∃ i,i<k∧n=ν i
 ·exact .inr (.inr (.inr (.inr (.inr (.inl ⟨h6,h7⟩)))))
 ·exact .inr (.inr (.inr (.inr (.inr (.inr ⟨h6,fun i hi e=>h7 ⟨i,hi,e⟩⟩)))))
theorem fN:ak (eA B ν s) B=some (.box (nV B s.aD s.all.length)):=by simp[eA,ak]
theorem gu:ak (eA B ν s) (B+1)=some (pV s.here):=by simp[eA,ak]
theorem gC:ak (eA B ν s) (B+2)=some (oW ν s):=by simp[eA,ak]
theorem gD:ak (eA B ν s) (B+3)=some (rL s):=by simp[eA,ak]
theorem pd:ak (eA B ν s) (B+4)=some (pB B):=by simp[eA,ak]
theorem jS(hg:gN B ν s.all.length){i:Nat}(hi:i<s.all.length):ak (eA B ν s) (ν i)=some (.box (enc s.all[i])):=by
 have J:=hg.out i hi;simp only[eA,ak];rw[if_neg (by omega),if_neg (by omega),if_neg (by omega),if_neg (by omega),if_neg (by omega)];have:=AJ (ν:=ν) s.all 0 i hi (by simpa using hg.inj)
 rwa [zz4] at this
theorem eV{n:Nat}(J:n<B∨B+5≤n)(h:∀ i,i<s.all.length→n≠ν i):ak (eA B ν s) n=none:=by
 simp only[eA,ak];rw[if_neg (by omega),if_neg (by omega),if_neg (by omega),if_neg (by omega),if_neg (by omega)];exact AL s.all 0 (by simpa using h)
theorem dY(hg:gN B ν s.all.length){n:Nat} : ay (eA B ν s) n=true↔(B≤n∧n≤B+4)∨∃ i,i<s.all.length∧n=ν i:=by
 rcases zH B ν s.all.length n with h | h | h | h | h | ⟨h,i,hi,e⟩ | ⟨h,hn⟩
 ·subst h;simp only[ay,fN];simp
 ·subst h;simp only[ay,gu];simp
 ·subst h;simp only[ay,gC];simp
 ·subst h;simp only[ay,gD];simp
 ·subst h;simp only[ay,pd];simp
 ·subst e;simp only[ay,jS hg hi];simp only[Option.isSome_some,true_iff];exact .inr ⟨i,hi,rfl⟩
 ·simp only[ay,eV h hn];simp only[Option.isSome_none,zz2,false_iff];rintro (U | ⟨i,hi,e⟩)
  ·omega
  ·exact hn i hi e
theorem acr(p:Nat→Bool)(h:p B=true):aq.only p (pB B)=true:=by
 simp[pB,hs,aq.only,I.only,I.b8,h]
theorem Ft(p:Nat→Bool):∀ l:List Nat,(∀ i∈l,p (ν i)=true)→I.b8 p (ed ν l)=true
 | [],_=>rfl
 |i::l,h=>by
  have ih:=Ft p l fun j hj=>h j (by simp[hj]);simp only[ed] at ih;simp only[ed,zz5,I.b8,I.only,ih,h i (by simp),Bool.and_self]
theorem Fv(p:Nat→Bool):∀ n:Nat,I.b8 p (List.replicate n (.bool true))=true
 |0=>rfl
 |n+1=>by simp[List.replicate_succ,I.b8,I.only,Fv p n]
theorem mb(hg:gN B ν s.all.length)(ao:∀ i∈s.aU,i<s.all.length){n:Nat}{x:aq}(h:ak (eA B ν s) n=some x):x.only (ay (eA B ν s))=true∧x.eG=true:=by
 have hin:∀ n,(B≤n∧n≤B+4)→ay (eA B ν s) n=true:=fun n hn=>(dY hg).2 (.inl hn);rcases zH B ν s.all.length n with U | U | U | U | U | ⟨U,i,hi,e⟩ | ⟨U,hn⟩
 ·subst U;rw[fN] at h;cases h;simp[aq.only,I.only,I.b8,aq.eG,nV,hin]
 ·subst U;rw[gu] at h;cases h;simp only[pV,aq.only,e8,Fv,Bool.and_self,aq.eG,true_and]
 ·subst U;rw[gC] at h;cases h;refine ⟨?_,rfl⟩;simp only[oW,aq.only,e8,Bool.true_and];exact Ft _ _ fun i hi=>(dY hg).2 (.inr ⟨i,ao i hi,rfl⟩)
 ·subst U;rw[gD] at h;cases h;simp only[rL,aq.only,e8,Bool.and_self,aq.eG,true_and]
 ·subst U;rw[pd] at h;cases h;exact ⟨acr _ (hin _ (by omega)),rfl⟩
 ·subst e;rw[jS hg hi] at h;cases h;exact ⟨b7 _ _,rfl⟩
 ·rw[eV U hn] at h;cases h
theorem ad8(hg:gN 1000000 ν s.all.length)(h:∀ i,i<s.all.length→1000000≤ν i):∀ m,ay (eA 1000000 ν s) m=true→1000000≤m:=fun m hm=>by
 rcases (dY hg).1 hm with U | ⟨i,hi,rfl⟩
 ·omega
 ·exact h i hi
end
def j8(s:aI):I:=.dx (s.bK.map enc) (s.aU.map fun i=>.ref (enc (s.cw i)))
def kp(l:List Int):I:=.dx (l.map enc) (List.replicate l.length (.bool true))
def kT(s:aI):I:=.dx (s.en.map enc) (s.bA.map enc)
def tv:I:=.dx hs (List.replicate 8 .any)
def gq(s:aI):I:=.agg [.int .i64 s.aD,kp s.here,j8 s,.int .i64 s.all.length,kT s,tv]
theorem re:∀ n:Nat,I.cv (List.replicate n (.bool true))=true
 |0=>rfl
 |n+1=>by simp[List.replicate_succ,I.cv,I.bG,re n]
theorem wM{α:Type}[Enc α](f:Nat→α):∀ l:List Nat,I.cv (l.map fun i=>.ref (enc (f i)))=true
 | []=>rfl
 |i::l=>by simp[I.cv,I.bG,lL,wM f l]
theorem Cq(s:aI):(gq s).bG=true:=by
 simp[gq,kp,j8,kT,tv,hs,I.bG,I.cv,ji,re,wM,List.replicate]
theorem xl{A:ai}{m:Nat}{x:I}(h:x.bG=true):c8 A (m+1) x=some x:=by simp[c8,h]
theorem x8{A:ai}{m:Nat} : ∀ {l:List I},I.cv l=true→gm (c8 A (m+1)) l=some l
 | [],_=>rfl
 |x::l,h=>by
  simp only[I.cv,zz0] at h;simp only[gm,xl h.1,x8 h.2]
theorem tL{A:ai}{m n:Nat}{ks vs vs':List I}(ho:A.o n=some (.bD ks vs))(hk:I.cv ks=true)(hv:gm (c8 A m) vs=some vs'):c8 A (m+1) (.mref n)=some (.dx ks vs'):=by
 simp only[c8,I.bG,zz2,if_false,ho,hk,if_true,hv,zz9]
theorem ES{A:ai}{m:Nat}{ν:Nat→Nat}{f:Nat→dB} : ∀ {l:List Nat},(∀ i∈l,A.o (ν i)=some (.box (enc (f i))))→gm (c8 A (m+2)) (ed ν l)=some (l.map fun i=>.ref (enc (f i)))
 | [],_=>rfl
 |i::l,h=>by
  have ih:=ES (m:=m) (l:=l) fun j hj=>h j (by simp[hj]);simp only[ed] at ih;have J:c8 A (m+2) (.ptr (ν i) [])=some (.ref (enc (f i))):=by
   have hcl:(I.ptr (ν i) []).bG=false:=by simp[I.bG]
   rw[c8];simp only[hcl,zz2,if_false,cM,h i (by simp),I.at,xl (lL (f i)),zz9]
  simp only[ed,zz5,gm,J,ih]
structure Ak (A:ai) (B:Nat) (ν:Nat→Nat) (s:aI):Prop where
 aR:A.o B=some (.box (nV B s.aD s.all.length))
 J:A.o (B+1)=some (pV s.here)
 U:A.o (B+2)=some (oW ν s)
 af:A.o (B+3)=some (rL s)
 ar:A.o (B+4)=some (pB B)
 aP:∀ i,i<s.all.length→A.o (ν i)=some (.box (enc (s.cw i)))
 cJ:∀ i∈s.aU,i<s.all.length
theorem ib{A:ai}{B:Nat}{ν:Nat→Nat}{s:aI}(h:Ak A B ν s)(m:Nat):c8 A (m+5) (nV B s.aD s.all.length)=some (gq s):=by
 have i0:∀ (k:IntKind) (v:Int),c8 A (m+4) (.int k v)=some (.int k v):=fun _ _=>xl (m:=m+3) rfl;have i1:c8 A (m+4) (.mref (B+1))=some (kp s.here):=tL h.J (ji _) (x8 (m:=m+2) (re _));have i2:c8 A (m+4) (.mref (B+2))=some (j8 s):=tL h.U (ji _) (ES (m:=m+1) fun i hi=>h.aP i (h.cJ i hi));have i3:c8 A (m+4) (.mref (B+3))=some (kT s):=tL h.af (ji _) (x8 (m:=m+2) (ji _));have i4:c8 A (m+4) (.mref (B+4))=some tv:=tL h.ar (by simp[hs,I.cv,I.bG]) (by
  have hf:∀ k:Nat,1000000≤k→c8 A (m+3) (.func k [.ptr B []])=some .any:=fun k hk=>by
   rw[c8];have hcl:(I.func k [.ptr B []]).bG=false:=by simp[I.bG,I.cv]
   simp only[hcl,zz2,if_false,if_neg (show ¬ k<1000000 by omega)]
  simp only[gm,hf 1000125 (by decide),hf 1000126 (by decide),hf 1000127 (by decide),hf 1000128 (by decide),hf 1000129 (by decide),hf 1000130 (by decide),hf 1000131 (by decide),hf 1000132 (by decide)];rfl)
 rw[nV,c8];simp only[I.bG,I.cv,Bool.and_false,Bool.false_and,zz2,if_false,gm,i0,i1,i2,i3,i4,zz9];rfl
def dP(s:aI):I:=.ref (gq s)
theorem o7(s:aI):(dP s).bG=true:=by simp only[dP,I.bG,Cq]
theorem CW:(∀ A s,jJ A 0 0 (dP s)=some (.ref (.int .i64 s.aD)))∧(∀ A s,jJ A 1 1 (dP s)=some (.ref (kp s.here)))∧(∀ A s,jJ A 2 2 (dP s)=some (.ref (j8 s)))∧(∀ A s,jJ A 3 3 (dP s)=some (.ref (.int .i64 s.all.length))) ∧
  (∀ A s,jJ A 4 4 (dP s)=some (.ref (kT s))):=by
 refine ⟨fun A s =>?_,fun A s =>?_,fun A s =>?_,fun A s =>?_,fun A s =>?_⟩ <;>simp[dP,gq,jJ,I.ea,rl,pP,du,I.sizes,I.size,kp,j8,kT,tv]
theorem aap(l:List Int):(kp l).bG=true:=by simp only[kp,I.bG,ji,re,Bool.and_self]
theorem adw(s:aI):(j8 s).bG=true:=by simp only[j8,I.bG,ji,wM,Bool.and_self]
theorem aaK(s:aI):(kT s).bG=true:=by simp only[kT,I.bG,ji,Bool.and_self]
theorem eU:(type_of% @CW)∧(∀ s,(dP s).bG=true)∧(∀ aP A s,br aP A (dP s)=some (dP s))∧(∀ s,(dP s).bX=true)∧(∀ s,ca none (dP s)=true)∧(∀ s,mG (dP s)=some (dP s))∧(∀ p s,(dP s).only p=true) ∧
  (∀ l,(kp l).bX=true)∧(∀ l,ca none (kp l)=true)∧(∀ l,(j8 l).bX=true)∧(∀ l,ca none (j8 l)=true)∧(∀ l,(kT l).bX=true)∧(∀ l,ca none (kT l)=true)∧(∀ l,(kp l).bG=true)∧(∀ l,(j8 l).bG=true)∧(∀ l,(kT l).bG=true) ∧
  (∀ A l,gy A (kp l)=some (l.map enc,List.replicate l.length (.bool true)))∧(∀ A s,gy A (j8 s)=some (s.bK.map enc,s.aU.map fun i=>.ref (enc (s.cw i))))∧(∀ A s,gy A (kT s)=some (s.en.map enc,s.bA.map enc)) ∧
  (∀ x,ca none (.ref x)=true)∧(∀ x,mG (.ref x)=some (.ref x)) :=
 ⟨CW,o7,fun aP A s=>by
  have h:=o7 s;simp only[dP,I.bG] at h;simp only[dP,br,h,if_true],fun _=>rfl,fun _=>rfl,fun _=>rfl,fun p s=>kW p _ (o7 s),fun _=>rfl,fun _=>rfl,fun _=>rfl,fun _=>rfl,fun _=>rfl,fun _=>rfl,aap,adw,aaK,
  fun _ _=>rfl,fun _ _=>rfl,fun _ _=>rfl,fun _=>rfl,fun _=>rfl⟩
theorem Fi{A:ai}{d:Option Nat}{n:Nat}{rest:List aJ}{ks vs:List I}{cur:Option Nat} : qg A d n rest (some (.it ks vs [] cur))=aE rest (A.aW d (.tuple [.bool false])):=by
 simp only[qg,if_true]
theorem aV.iW{P:Program}{Y:Value→List I→List (Nat×aq)→cL→Prop}{K:ai→Prop}{A:ai}{d:Option Nat}{n:Nat}{rest:List aJ}{ks vs:List I}{left:List Nat}{cur:Option Nat}(ao:left≠[])
  (h:∀ i,i∈left→∃ kk x,ks[i]?=some kk∧vs[i]?=some x∧aV P Y false K (aE rest ((A.aT n (.it ks vs (left.filter (· != i)) (some i))).aW d (.tuple [.bool true,kk,x])))) :
  aV P Y false K (qg A d n rest (some (.it ks vs left cur))):=by
 simp only[qg,if_neg ao];refine .any rfl fun i hi =>?_;obtain ⟨kk,x,J,U,af⟩:=h i hi;simp only[J,U];exact af
theorem EE{n i:Nat}{au left:List Nat}(hC:(au++left).Perm (List.range n))(hi:i∈left):(left.filter (· != i)).length<left.length∧((au++[i])++left.filter (· != i)).Perm (List.range n):=by
 refine ⟨?_,?_⟩
 ·rcases Nat.lt_or_ge (left.filter (· != i)).length left.length with h | h
  ·exact h
  ·have:=List.filter_eq_self.1 (List.Sublist.eq_of_length_le List.filter_sublist h) i hi;simp at this
 have hnd:left.Nodup:=(List.nodup_append.1 (hC.nodup_iff.2 List.nodup_range)).2.1;have J:left.Perm (i::left.filter (· != i)):=by
  have U:(left.filter (· == i)).length=1:=by
   have:=List.nodup_iff_count.1 hnd i;have af:=List.count_pos_iff.2 hi;have ar:left.count i=(left.filter (· == i)).length:=by rw[List.count,List.countP_eq_length_filter]
   omega
  have h5:left.filter (· == i)=[i]:=by
   obtain ⟨a,ha⟩:=List.length_eq_one_iff.1 U;have:a∈left.filter (· == i):=by rw[ha];simp
   have:=(zv2.1 this).2;simp at this;rw[ha,this]
  have h6:=(List.filter_append_perm (· == i) left).symm;rw[h5] at h6;exact h6
 refine List.Perm.trans ?_ hC;rw[zy3];exact (J.symm).append_left au
def Aq(s:aI)(b:Int)(t:List Nat×List Nat×Option Nat):ai :=
 aw [(0,dP s),(1,.int .i64 b),(11,.dC 11)] [(11,.it (s.bK.map enc) (s.aU.map fun i=>.ref (enc (s.cw i))) t.2.1 t.2.2)]
theorem qN(s:aI)(b:Int):bd Tryz.prog 72 [dP s,enc b] (enc (s.fD b)):=by
 refine bd.b5 Tryz.func72 Lo Mw NU (t7 rfl) (fun hwf W0 bH E1 =>?_);simp only[Bz,GL,bM,zz4];clear hwf;refine .fT (by decide +kernel) fun K hK =>?_;simp only[Dr,bF,simprocAttr];refine .done (hK _ ?_);clear hK K;refine ae.seq (ae.seq ?_);refine .j5 (by decide +kernel) fun K hK =>?_;simp only[Ds,bF,simprocAttr]
 try simp only[eU,j8,bj,nz,bF,simprocAttr]
 refine .done (hK _ ?_);clear hK K;try simp only[ej]
 have hlen:s.bK.length=s.aU.length:=by simp[aI.bK]
 refine ae.block (ae.loop (Aq s b) (fun t=>(t.1++t.2.1).Perm (List.range s.aU.length)∧∀ i∈t.1,(s.cw (s.aU.getD i 0)).aL≠b) (fun t=>t.2.1.length) ([],List.range s.aU.length,none) ⟨by simp,by simp⟩ ?_ ?_)
 ·refine bp.slots ?_ (fun n =>?_)
  ·simp[b6,bY]
  ·simp only[cQ,rR,zz6,hlen]
 rintro ⟨au,left,cur⟩ ⟨hC,hA⟩;simp only at hC hA;simp only[Aq];by_cases ao:left=[]
 ·subst ao;have hno:s.fD b=false:=by
   simp only[aI.fD,aI.bL,List.any_map,List.any_eq_false,Function.comp,decide_eq_true_eq];intro i hi e;obtain ⟨k,hk,rfl⟩:=List.mem_iff_getElem.1 hi;have hm:k∈au:=(show au.Perm _ by simpa using hC).mem_iff.2 (zv8.2 hk);have:=hA k hm;simp only[zz1,zy2 hk,Option.getD_some] at this;exact this e
  refine .fT (by decide +kernel) fun K hK =>?_;simp only[xH,bF,simprocAttr]
  try simp only[nz,Fi,bF,simprocAttr]
  refine .done (hK _ ?_);clear hK K;refine ae.seq ?_;refine ae.jZ ?_;simp only[av,bF,simprocAttr];refine ⟨fun h =>?_,fun h =>?_⟩
  case refine_1=>cases h
  refine ae.exit ?_;try simp only[ej,jF,simprocAttr]
  rw[hno];have R:=az
  repeat' ((first |refine ae.aB (by decide +kernel) rfl fun K hK =>?_|(refine .au [0,1,4,6,11,13,21] hK ?_;clear hK K)|(with_reducible refine .done (hK _ ?_);clear hK K)|refine ae.of rfl ?_|(with_reducible refine av.aA (fun h =>?_) (fun h =>?_) <;>try simp only[h])) <;>try simp only[aC,R,simprocAttr])
  all_goals clear R
 ·refine .fT (by decide +kernel) fun K hK =>?_;simp only[xH,bF,simprocAttr]
  try simp only[nz,bF,simprocAttr]
  refine aV.iW ao fun i hi =>?_;have hib:i<s.aU.length:=zv8.1 (hC.mem_iff.1 (by simp[hi]));obtain ⟨hm,hC2⟩:=EE hC hi;have hk1:(s.bK.map (enc (α:=Int)))[i]?=some (enc (((s.aU[i]:Nat):Int)+1)):=by simp[aI.bK,hib]
  have hk2:(s.aU.map fun i=>I.ref (enc (s.cw i)))[i]?=some (.ref (enc (s.cw s.aU[i]))):=by simp[hib]
  refine ⟨_,_,hk1,hk2,?_⟩;have hent:np (s.bK.map enc) (s.aU.map fun i=>I.ref (enc (s.cw i))) (some i)=some (.tuple [enc (((s.aU[i]:Nat):Int)+1),.ref (enc (s.cw s.aU[i]))]):=by
   simp only[np,hk1,hk2]
  have hx:s.aU.getD i 0=s.aU[i]:=by simp[zz1,hib]
  try simp only[bF,simprocAttr]
  refine .done (hK _ ?_);clear hK K;refine ae.seq ?_;refine ae.jZ ?_;simp only[av,bF,simprocAttr];refine ⟨fun h =>?_,fun h =>?_⟩
  case refine_2=>cases h
  refine ae.skip ?_;try simp only[ej,simprocAttr]
  refine ae.block ?_;rcases q:((s.cw s.aU[i]).aL==b)
  ·have R:=y6 @hent (y6 @q az)
   repeat' ((first |refine ae.aB (by decide +kernel) rfl fun K hK =>?_|(refine .au [0,1,4,6,11,13,21] hK ?_;clear hK K)|(with_reducible refine .done (hK _ ?_);clear hK K)|refine ae.of rfl ?_|(with_reducible refine av.aA (fun h =>?_) (fun h =>?_) <;>try simp only[h])) <;>try simp only[aC,R,simprocAttr])
   all_goals clear R
   refine ⟨(au++[i],left.filter (· != i),some i),⟨hC2,fun j hj =>?_⟩,hm,?_⟩
   ·rcases zw0.1 hj with hj | hj
    ·exact hA j hj
    ·rw[zx1.1 hj,hx];simpa using q
   ·simp only[];refine bp.slots ?_ (fun n =>?_)
    ·simp[b6,bY]
    ·simp only[cQ,rR];(repeat' split) <;>simp_all
  ·have hyes:s.fD b=true:=by
    simp only[aI.fD,aI.bL,List.any_map,List.any_eq_true,Function.comp,decide_eq_true_eq];exact ⟨s.aU[i],zw7 hib,by simpa using q⟩
   rw[hyes];have R:=y6 @hent (y6 @q az)
   repeat' ((first |refine ae.aB (by decide +kernel) rfl fun K hK =>?_|(refine .au [0,1,4,6,11,13,21] hK ?_;clear hK K)|(with_reducible refine .done (hK _ ?_);clear hK K)|refine ae.of rfl ?_|(with_reducible refine av.aA (fun h =>?_) (fun h =>?_) <;>try simp only[h])) <;>try simp only[aC,R,simprocAttr])
   all_goals clear R
theorem aa9(s:aI)(x:bn):∃ v:I,v.bX=true∧ca (some 4) v=true∧v.bg=.db [.one,.one,.one,.one]∧fJ (.bh [.i .i64,.i .i64]) (.agg [.int .i64 0,.int .i64 0,.int .i64 0,.int .i64 0]) (.agg [.int .i64 x.other,.int .i64 x.no]) (s.en.map enc) (s.bA.map enc)=some (v,decide (fU x∈s.en)):=by
 have h:=um w7 (.agg [.int .i64 0,.int .i64 0,.int .i64 0,.int .i64 0]) (fU x) s.en (s.bA.map enc);have hm:=rm (k:=fU x) (ks:=s.en);have e:(enc (fU x):I)=.agg [.int .i64 x.other,.int .i64 x.no]:=rfl;rw[e] at h;rw[h,←hm];cases hf:s.en.findIdx? fun y=>decide (fU x=y) with
 |none=>exact ⟨_,rfl,rfl,rfl,rfl⟩
 |some i =>
  have hi:=(List.findIdx?_eq_some_iff_getElem.1 hf).1;have hi2:i<s.bA.length:=by simpa[aI.en] using hi
  refine ⟨enc s.bA[i],eF _,by rw[fB];rfl,eX _,?_⟩;simp[hi2]
theorem sS(s:aI)(x:bn):bd Tryz.prog 152 [dP s,enc x] (enc (s.unknown x)):=by
 refine bd.b5 Tryz.func152 KW L4 Nr (t7 rfl) (fun hwf W0 bH E1 =>?_);simp only[A9,Gh,bM,zz4];clear hwf;obtain ⟨v,hv1,hv2,hv3,hlk⟩:=aa9 s x;have hbld:(dS [.int .i64 0,.int .i64 0] [(0,.int .i64 x.other),(1,.int .i64 x.no)]).map I.agg=some (.agg [.int .i64 x.other,.int .i64 x.no]):=by simp[dS,I.bX,I.size]
 have hst:∀ A rest b,c7 A (some 4) 5 [] b v rest (some (.agg [.int .i64 0,.int .i64 0,.int .i64 0,.int .i64 0]))=aE rest (A.aT 5 (.box v)):=fun A rest b=>dI hv1 hv2 hv3;simp only[aI.unknown];rcases q:(x.other != s.aD) <;>rcases q2:decide (fU x∈s.en)
 all_goals
  rw[q2] at hlk;have R:=y6 @q (y6 @hv1 (y6 @hv2 (y6 @hbld (y6 @hst (y6 @hlk (y6 @eU (y6 @bj az)))))))
  repeat' ((first |(with_reducible refine .guard (fun hb =>?_) (fun hb =>?_) <;>try simp only[hb])|refine ae.aB (by decide +kernel) rfl fun K hK =>?_|(refine .au [0,1,3,4,6] hK ?_;clear hK K)|(with_reducible refine .done (hK _ ?_);clear hK K)|refine ae.of rfl ?_|(with_reducible refine av.aA (fun h =>?_) (fun h =>?_) <;>try simp only[h])) <;>try simp only[aC,R,simprocAttr])
  all_goals clear R
  rfl
theorem CR{α β:Type}(f:α→β):∀ (l:List α) (k:Nat),(l.map f).eraseIdx k=(l.eraseIdx k).map f
 | [],_=>rfl
 |_::_,0=>rfl
 |x::l,k+1=>by simp only[zz5,List.eraseIdx_cons_succ,CR f l k]
section
variable {α ι:Type} [Enc α] [DecidableEq α] [DecidableEq ι] {ty:cK}
omit [Enc α] [DecidableEq ι] in
theorem C9(f:ι→α)(g:ι→I)(z:I)(k:α):∀ l:List ι,(match (l.map f).findIdx? fun x=>decide (k=x) with
   |some i=>((l.map g)[i]?).map fun v=>(v,true)
   |none=>some (z,false))=(match l.find? fun i=>decide (k=f i) with
   |some i=>some (g i,true)
   |none=>some (z,false))
 | []=>rfl
 |x::l=>by
  have ih:=C9 f g z k l;simp only[zz5,List.findIdx?_cons,List.find?_cons];by_cases h:k=f x
  ·simp[h]
  ·simp only[h,decide_false,zz2,if_false];rw[←ih];cases (l.map f).findIdx? fun x=>decide (k=x) with
   |none=>rfl
   |some i=>simp
omit [DecidableEq ι] in
theorem EH(aF:∀ x y:α,cj ty (enc x) (enc y)=some (decide (x=y)))(f:ι→α)(g:ι→I)(z:I)(k:α)(l:List ι) :
  fJ ty z (enc k) ((l.map f).map enc) (l.map g)=match l.find? fun i=>decide (k=f i) with
   |some i=>some (g i,true)
   |none=>some (z,false):=by
 exact (um aF z k _ _).trans (C9 f g z k l)
theorem EY(aF:∀ x y:α,cj ty (enc x) (enc y)=some (decide (x=y)))(f:ι→α)(g:ι→I)(hf:∀ a b,f a=f b→a=b){l:List ι}{i:ι}(hi:i∈l) :
  mE ty (enc (f i)) ((l.map f).map enc) (l.map g)=some (((l.erase i).map f).map enc,(l.erase i).map g):=by
 have hf2:∀ a,(f i=f a)=(i=a):=fun a=>propext ⟨hf i a,fun e=>by rw[e]⟩;have key:∀ l:List ι,i∈l→∃ k,(l.map f).findIdx? (fun x=>decide (f i=x))=some k∧l.eraseIdx k=l.erase i:=by
  intro l
  induction l with
  |nil=>intro h;cases h
  |cons x l ih =>
   intro h;simp only[zz5,List.findIdx?_cons,hf2];by_cases e:i=x
   ·subst e;exact ⟨0,by simp,by simp⟩
   ·obtain ⟨k,J,U⟩:=ih (by simpa[e] using h);refine ⟨k+1,?_,?_⟩
    ·simp only[e,decide_false,zz2,if_false,J,zz9]
    ·rw[List.eraseIdx_cons_succ,U,List.erase_cons_tail (by simpa using fun h=>e h.symm)]
 obtain ⟨k,J,U⟩:=key l hi;simp only[mE,aF,Option.isSome_some,if_true,tQ aF,J,zz9,Nat.add_zero];rw[←U];simp only[CR]
end
theorem Hl(l:List Int):List.replicate l.length (I.bool true)=l.map fun _=>.bool true:=by
 induction l with
 |nil=>rfl
 |cons x l ih=>simp[List.replicate_succ,ih]
theorem EZ{l:List Int}{b:Int}(h:b∈l):mE (.i .i64) (.int .i64 b) (l.map enc) (List.replicate l.length (.bool true))=some ((l.erase b).map enc,List.replicate (l.erase b).length (.bool true)):=by
 have:=EY fh (fun x:Int=>x) (fun _=>.bool true) (fun _ _ h=>h) h;simp only[List.map_id',eP] at this;rw[Hl,Hl];exact this
theorem jV{s:aI}{no:Int}{i:Nat}(h:s.at no=some i):i∈s.aU∧no=(i:Int)+1 :=
 ⟨List.mem_of_find?_eq_some h,by simpa using List.find?_some h⟩
theorem x5{s:aI}(g:Nat→I)(no:Int):fJ (.i .i64) .nilp (.int .i64 no) (s.bK.map enc) (s.aU.map g)=match s.at no with
   |some i=>some (g i,true)
   |none=>some (.nilp,false):=by
 have h:=EH fh (fun i:Nat=>(i:Int)+1) g .nilp no s.aU;rw[eP] at h;refine h.trans ?_;unfold aI.at;generalize s.aU.find? (fun i:Nat=>decide (no=(i:Int)+1))=q;cases q <;>rfl
theorem E0{s:aI}(g:Nat→I){i:Nat}(h:i∈s.aU):mE (.i .i64) (.int .i64 ((i:Int)+1)) (s.bK.map enc) (s.aU.map g)=some (({ s with aU:=s.aU.erase i } : aI).bK.map enc,(s.aU.erase i).map g) :=
 EY fh (fun i:Nat=>(i:Int)+1) g (fun a b h=>by omega) h
theorem qm{s:aI}{x:bn}{i:Nat}(h:s.on x=some i):s.at x.no=some i∧(s.cw i).to=x.other∧(s.cw i).aL=x.aL:=by
 simp only[aI.on] at h;split at h
 ·rename_i j hj;split at h
  ·rename_i bz;cases h;exact ⟨hj,bz⟩
  ·cases h
 ·cases h
def ff(s:aI)(x:bn):Option aI :=
 if x.kind=1 then if x.aL∈s.here∨s.fD x.aL=true then none else some { s with here:=h0 s.here x.aL }
 else if x.kind=2 then if x.aL∈s.here then some { s with here:=s.here.erase x.aL } else none
 else if x.kind=3 then if x.aL∈s.here∧x.other≠s.aD∧x.no=(s.all.length:Int)+1 then
  some { s with here:=s.here.erase x.aL,all:=s.all++[⟨x.no,x.other,x.aL,false⟩],aU:=s.aU++[s.all.length] } else none
 else if x.kind=4 then match s.on x with
  |some i=>if (s.cw i).dM then none else some { s with all:=s.all.set i { s.cw i with dM:=true } }
  |none=>none
 else if x.kind=5 then match s.on x with
  |some i=>some { s with aU:=s.aU.erase i }
  |none=>none
 else if x.kind=6 then match s.on x with
  |some i=>if (s.cw i).dM then some { s with aU:=s.aU.erase i,here:=h0 s.here x.aL } else none
  |none=>none
 else if x.kind=7 then if s.unknown x=true∧x.aL∉s.here∧s.fD x.aL=false then some { s with bA:=s.bA++[x],here:=h0 s.here x.aL } else none
 else if x.kind=8 then if s.unknown x=true then some { s with bA:=s.bA++[x] } else none
 else none
def gW(s:aI)(x:bn):Option aI:=if fZ x then ff s x else none
structure cI (s:aI):Prop where
 cJ:∀ i∈s.aU,i<s.all.length
 jr:s.aU.Nodup
 ah:s.here.Nodup
theorem n2{l:List Int}{b:Int}(h:l.Nodup):(h0 l b).Nodup:=by
 unfold h0;split
 ·exact h
 ·rename_i hb;exact List.nodup_append.2 ⟨h,by simp,fun a ha c hc e=>by rw[zx1.1 hc] at e;exact hb (e▸ha)⟩
theorem cI.next{s s':aI}{x:bn}(h:cI s)(hn:ff s x=some s'):cI s'∧s'.aD=s.aD∧s'.all.length≤s.all.length+1∧(x.kind≠3→s'.all.length=s.all.length):=by
 obtain ⟨J,U,af⟩:=h;simp only[ff] at hn;split at hn
 ·split at hn <;>cases hn
  exact ⟨⟨J,U,n2 af⟩,rfl,by simp,fun _=>rfl⟩
 split at hn
 ·split at hn <;>cases hn
  exact ⟨⟨J,U,af.erase _⟩,rfl,by simp,fun _=>rfl⟩
 split at hn
 ·rename_i hk;split at hn <;>cases hn
  refine ⟨⟨fun i hi =>?_,?_,af.erase _⟩,rfl,by simp,fun h=>absurd hk h⟩
  ·simp only[zw0,zx1] at hi;simp only[zz8,zw6];rcases hi with hi | hi
   ·have:=J i hi;omega
   ·omega
  ·exact List.nodup_append.2 ⟨U,by simp,fun a ha c hc e=>by rw[zx1.1 hc] at e;have:=J a ha;omega⟩
 split at hn
 ·split at hn
  ·split at hn <;>cases hn
   exact ⟨⟨fun i hi=>by simpa using J i hi,U,af⟩,rfl,by simp,fun _=>by simp⟩
  ·cases hn
 split at hn
 ·split at hn <;>cases hn
  exact ⟨⟨fun i hi=>J i (List.mem_of_mem_erase hi),U.erase _,af⟩,rfl,by simp,fun _=>rfl⟩
 split at hn
 ·split at hn
  ·split at hn <;>cases hn
   exact ⟨⟨fun i hi=>J i (List.mem_of_mem_erase hi),U.erase _,n2 af⟩,rfl,by simp,fun _=>rfl⟩
  ·cases hn
 split at hn
 ·split at hn <;>cases hn
  exact ⟨⟨J,U,n2 af⟩,rfl,by simp,fun _=>rfl⟩
 split at hn
 ·split at hn <;>cases hn
  exact ⟨⟨J,U,af⟩,rfl,by simp,fun _=>rfl⟩
 cases hn
theorem ik{ts:List (Nat×I)}{os:List (Nat×aq)}{B:Nat}{ν:Nat→Nat}{s:aI}(hg:gN B ν s.all.length)(ao:∀ i∈s.aU,i<s.all.length)(h:∀ n,ay (eA B ν s) n=true→ak os n=ak (eA B ν s) n):Ak (aw ts os) B ν s:=by
 have go:∀ n x,ak (eA B ν s) n=some x→(aw ts os).o n=some x:=fun n x hx=>(h n (by simp[ay,hx])).trans hx;refine ⟨go _ _ fN,go _ _ gu,go _ _ gC,go _ _ gD,go _ _ pd,fun i hi =>?_,ao⟩;rw[go _ _ (jS hg hi)];simp[aI.cw,zz1,hi]
def fP:List PanicEntry:=[{ v:=.iface 144 (.agg #[]),recovered:=false }]
theorem abj(w:World):Calls Tryz.prog 114 #[.bool false] w fun e w'=>e=.panicked fP∧w'=w:=by
 go_enter Tryz.func114,Tryz.ntmps114
 go_wp2
 exact ⟨rfl,rfl,rfl⟩
theorem Ip:fF Tryz.prog 114 fP [enc false] [] (fun os'=>os'=[]) :=
 fF.acI BO (fun w D vs hv=>by
  have hv':aH w D cP [.bool false] vs:=hv;simp only[aH] at hv';obtain ⟨v,rest,cs,rfl,J,U,rfl⟩:=hv';have:v=.bool false:=lg (gL J U);subst this;exact abj w) rfl
theorem lx:bd Tryz.prog 114 [enc true] (.tuple []):=by
 refine bd.b5 Tryz.func114 BO L1 Nc (t7 rfl) (fun hwf W0 bH E1 =>?_);simp only[A6,F5,bM];have R:=y6 @kH @bF
 repeat' ((first |refine ae.aB (by decide +kernel) rfl fun K hK =>?_|(refine .au [0,3] hK ?_;clear hK K)|(with_reducible refine .done (hK _ ?_);clear hK K)|refine ae.of rfl ?_|(with_reducible refine av.aA (fun h =>?_) (fun h =>?_) <;>try simp only[h])) <;>try simp only[aC,R,simprocAttr])
 all_goals clear R
 all_goals rfl
theorem ac8:sV Tryz.prog 113:=⟨BN,fun b T w x hb=>by
 refine callsDIn_of_wpSIn Tryz.func113 rfl trivial fun c₀ cs hu =>?_;apply wpSIn_seq;apply wpSIn_region;simp[wpOpsSIn,go_sem,recoverD,hu,Tryz.ntmps113,Exit.thenS];apply wpSIn_seq;apply wpSIn_region;simp[wpOpsSIn,go_sem,Exit.thenS];refine wpSIn_cond (t:=false) (by simp[Act.eval,Array.replicate]) ?_;simp only[zz2,if_false];refine wpSIn_of_wpIn rfl (wpIn_skip ?_);cases c₀
 simp_all[bodyPostS,results,Tryz.results113]⟩
theorem ac7:sP Tryz.prog 113 fP:=⟨BN,fun b T w x hb=>by
 have hc:w.cell? ⟨b,0,none⟩=some (.bool x):=by simp[World.cell?,hb]
 have hz:w.frozen? ⟨b,0,none⟩=false:=by simp[World.frozen?,hb]
 have hta:∀ W,(Instr.typeAssert (.iface 144 (.agg #[])) 20 144 true).run Tryz.prog W=.ok (.tuple #[.agg #[],.bool true]) W:=fun W=>by
  simp[Instr.typeAssert,run_underlying Tryz.underlying144]
 refine callsDIn_of_wpSIn Tryz.func113 rfl trivial fun c₀ cs hu =>?_;apply wpSIn_seq;apply wpSIn_region;simp[wpOpsSIn,go_sem,recoverD,hu,Tryz.ntmps113,Exit.thenS,fP];apply wpSIn_seq;apply wpSIn_region;simp[wpOpsSIn,go_sem,Exit.thenS];refine wpSIn_cond (t:=true) (by simp[Act.eval,Array.replicate]) ?_;simp only[if_true];apply wpSIn_seq;apply wpSIn_seq;apply wpSIn_region;simp[wpOpsSIn,go_sem,Exit.thenS,hta];apply wpSIn_seq;apply wpSIn_region;simp[wpOpsSIn,go_sem,Exit.thenS];refine wpSIn_cond (t:=false) (by simp[Act.eval,Array.replicate]) ?_;simp only[zz2,if_false];refine wpSIn_of_wpIn rfl (wpIn_skip ?_);simp only[Exit.thenS];have hb2:(w.alloc (.cells #[] 144)).heap[b]?=some (.cells #[.bool x] T (0,0)):=(RowKit.Below.heap_alloc _ _ _ (fX hb)).trans hb;have hc2:(w.alloc (.cells #[] 144)).cell? ⟨b,0,none⟩=some (.bool x):=by simp[World.cell?,hb2]
 have hz2:(w.alloc (.cells #[] 144)).frozen? ⟨b,0,none⟩=false:=by simp[World.frozen?,hb2]
 apply wpSIn_region;simp[wpOpsSIn,go_sem,hc2,hz2,bodyPostS,results,Tryz.results113];exact ⟨rfl,_,qT _ _,rfl⟩⟩
abbrev aO(s:aI):List (Nat×aq):=eA 1000000 (bJ 1000000) s
def nF(s:aI):cL:=fun r os'=>r=.tuple []∧os'=aO s
def kC(s:aI)(os':List (Nat×aq)):Prop:=os'=aO s
theorem dQ(k:Nat):gN 1000000 (bJ 1000000) k:=gN.bJ _ _
theorem dH{s:aI} : ∀ m,ay (aO s) m=true→1000000≤m:=ad8 (dQ _) fun i _=>by simp[bJ];omega
theorem jc{s:aI}(hk:cI s){n:Nat}{x:aq}(h:ak (aO s) n=some x):x.only (ay (aO s))=true∧x.eG=true:=mb (dQ _) hk.cJ h
theorem mQ{ts:List (Nat×I)}{os os':List (Nat×aq)}{post:cL}(ho:∀ n,ay os' n=true→ak os n=ak os' n)(hg:∀ n x,ak os' n=some x→x.only (ay os')=true∧x.eG=true)(hp:post (kB []) os'):jD [] post (aw ts os) :=
 ⟨os',[],fun n x hx=>⟨by show ak os n=some x;rw[ho n (by simp[ay,hx])];exact hx,hg n x hx⟩,trivial,hp⟩
theorem mR(rs post)(A:ai):oT rs post .normal A=jD rs post A:=rfl
theorem iZ{Q:Exit→ai→Prop}{ts:List (Nat×I)}{os0:List (Nat×aq)}(hq:Q (.panic fP) (aw ts os0)):n0 Tryz.prog Q 114 [.bool false] (aw ts os0) :=
 .mk false [] [] [enc false] fP _ Ip ⟨fun m x h=>by simp[ak] at h,fun m m' h=>by simp[ay,ak] at h⟩ ⟨.inl ⟨rfl,rfl,rfl⟩,trivial⟩
  (fun os' h=>by subst h;exact ⟨fun m x h=>by simp[ak] at h,fun m m' h=>by simp[ay,ak] at h,fun m h=>h,fun m h=>by simp[ay,ak] at h,rfl,fun h=>by cases h⟩) (fun os' h=>by subst h;exact hq)
theorem iu{s:aI}(hk:cI s){ts:List (Nat×I)}{z:aq} : yM fP (kC s) (.panic fP) (aw ts ((3,z)::aO s)) :=
 ⟨rfl,mQ (fun n hn=>by have:=dH n hn;simp only[ak];rw[if_neg (by omega)]) (fun _ _ h=>jc hk h) ⟨rfl,rfl⟩⟩
theorem bl:(∀ (a b:Int) v,du [.int .i64 a,.mref 1000001,.mref 1000002,.int .i64 b,.mref 1000003,.mref 1000004] 0 0 v=some v)∧(∀ (a b:Int) v,du [.int .i64 a,.mref 1000001,.mref 1000002,.int .i64 b,.mref 1000003,.mref 1000004] 1 1 v=some v)∧(∀ (a b:Int) v,du [.int .i64 a,.mref 1000001,.mref 1000002,.int .i64 b,.mref 1000003,.mref 1000004] 2 2 v=some v)∧(∀ (a b:Int) v,du [.int .i64 a,.mref 1000001,.mref 1000002,.int .i64 b,.mref 1000003,.mref 1000004] 3 3 v=some v)∧(∀ (a b:Int) v,du [.int .i64 a,.mref 1000001,.mref 1000002,.int .i64 b,.mref 1000003,.mref 1000004] 4 4 v=some v)∧(∀ (a b:Int) v,du [.int .i64 a,.mref 1000001,.mref 1000002,.int .i64 b,.mref 1000003,.mref 1000004] 5 5 v=some v)∧(∀ a b c d e:I,(I.agg [a,.mref 1000001,b,c,d,e]).bG=false) :=
 ⟨fun _ _ _=>rfl,fun _ _ _=>rfl,fun _ _ _=>rfl,fun _ _ _=>rfl,fun _ _ _=>rfl,fun _ _ _=>rfl,fun a b c d e=>by simp[I.bG,I.cv]⟩
theorem Is(s:aI)(hk:cI s)(x:bn)(hy:x.aL∉s.here∧s.fD x.aL=false):cY Tryz.prog 125 [.ptr 1000000 [],enc x] (aO s) (nF { s with here:=h0 s.here x.aL }):=by
 refine cY.b5 Tryz.func125 BQ Ca Nf (t7 rfl) (t7 rfl) dH (fun hwf W0 bH E1 =>?_);simp only[wo,F7,bM,zz4];clear hwf;have n3:ak (aO s) 3=none:=eV (.inl (by omega)) fun i _=>by simp[bJ];omega
 have aR:ak (aO s) 1000000=some (.box (.agg [.int .i64 s.aD,.mref 1000001,.mref 1000002,.int .i64 s.all.length,.mref 1000003,.mref 1000004])):=fN;have J:ak (aO s) 1000001=some (.bD (s.here.map enc) (List.replicate s.here.length (.bool true))):=gu;have U:ak (aO s) 1000002=some (.bD (s.bK.map enc) (ed (bJ 1000000) s.aU)):=gC;have af:ak (aO s) 1000003=some (.bD (s.en.map enc) (s.bA.map enc)):=gD;have hfin:∀ ts,c8 (aw ts ((3,.box (enc x))::aO s)) 9 (.agg [.int .i64 s.aD,.mref 1000001,.mref 1000002,.int .i64 s.all.length,.mref 1000003,.mref 1000004])=some (gq s):=fun ts =>
  ib (ik (dQ _) hk.cJ fun n hn=>by have:=dH n hn;simp only[ak];rw[if_neg (by omega)]) 4
 have hlk:=gK fh x.aL s.here;rw[eP] at hlk;have q1:decide (x.aL∈s.here)=false:=decide_eq_false hy.1;have hF:=qN s x.aL;rw[hy.2] at hF;have hup:=yk fh x.aL s.here;rw[eP] at hup;have R:=y6 @n3 (y6 @aR (y6 @J (y6 @hfin (y6 @hlk (y6 @q1 (y6 @hup (y6 @bl (y6 @bj az))))))))
 repeat' ((first |(with_reducible refine .guard (fun hb =>?_) (fun hb =>?_) <;>try simp only[hb])|refine ae.aB (by decide +kernel) rfl fun K hK =>?_|refine .flat _ (hF) rfl ?_|refine .flat _ (lx) rfl ?_|(refine .au [0,1,3] hK ?_;clear hK K)|(with_reducible refine .done (hK _ ?_);clear hK K)|refine ae.of rfl ?_|(with_reducible refine av.aA (fun h =>?_) (fun h =>?_) <;>try simp only[h])) <;>try simp only[aC,R,simprocAttr])
 all_goals clear R
 rw[mR];refine mQ (fun n hn =>?_) (fun _ _ h=>jc (s := { s with here:=h0 s.here x.aL }) ⟨hk.cJ,hk.jr,n2 hk.ah⟩ h) ⟨rfl,rfl⟩;have:=dH n hn;simp only[aO,eA,ak];rw[if_neg (show ¬ n=3 by omega)]
 (repeat' split) <;>first | rfl | omega
theorem It(s:aI)(hk:cI s)(x:bn)(hy:x.aL∈s.here∨s.fD x.aL=true):fF Tryz.prog 125 fP [.ptr 1000000 [],enc x] (aO s) (kC s):=by
 refine fF.mk Tryz.func125 BQ Ca (t7 rfl) (t7 rfl) dH (fun hwf W0 bH E1 =>?_);simp only[wo,bM,zz4];clear hwf;have n3:ak (aO s) 3=none:=eV (.inl (by omega)) fun i _=>by simp[bJ];omega
 have aR:ak (aO s) 1000000=some (.box (.agg [.int .i64 s.aD,.mref 1000001,.mref 1000002,.int .i64 s.all.length,.mref 1000003,.mref 1000004])):=fN;have J:ak (aO s) 1000001=some (.bD (s.here.map enc) (List.replicate s.here.length (.bool true))):=gu;have U:ak (aO s) 1000002=some (.bD (s.bK.map enc) (ed (bJ 1000000) s.aU)):=gC;have af:ak (aO s) 1000003=some (.bD (s.en.map enc) (s.bA.map enc)):=gD;have hfin:∀ ts,c8 (aw ts ((3,.box (enc x))::aO s)) 9 (.agg [.int .i64 s.aD,.mref 1000001,.mref 1000002,.int .i64 s.all.length,.mref 1000003,.mref 1000004])=some (gq s):=fun ts =>
  ib (ik (dQ _) hk.cJ fun n hn=>by have:=dH n hn;simp only[ak];rw[if_neg (by omega)]) 4
 have hlk:=gK fh x.aL s.here;rw[eP] at hlk;have hF:=qN s x.aL;rcases q1:decide (x.aL∈s.here)
 ·have q2:s.fD x.aL=true:=hy.resolve_left (by simpa using q1);rw[q2] at hF;have R:=y6 @n3 (y6 @aR (y6 @J (y6 @hfin (y6 @hlk (y6 @q1 (y6 @bl (y6 @bj az)))))))
  repeat' ((first |(with_reducible refine .guard (fun hb =>?_) (fun hb =>?_) <;>try simp only[hb])|(refine ae.j6 (gs:=ru) 15 [] [] [0,1,2,3,4,5,6,7,8,9,10,11,12,13,14] (by decide +kernel) rfl (cZ.of (by simp[fG])) fun K hK =>?_;simp only[fm,ru,gQ,zy1,zw2,List.take_zero,zy7,zy8,R,simprocAttr])|refine ae.aB (by decide +kernel) rfl fun K hK =>?_|refine .flat _ (hF) rfl ?_|(refine .au [0,1,3] hK ?_;clear hK K)|(with_reducible refine .done (hK _ ?_);clear hK K)|refine ae.of rfl ?_|(with_reducible refine av.aA (fun h =>?_) (fun h =>?_) <;>try simp only[h])) <;>try simp only[aC,R,simprocAttr])
  all_goals clear R
  exact .call (iZ (iu hk))
 ·have R:=y6 @n3 (y6 @aR (y6 @J (y6 @hfin (y6 @hlk (y6 @q1 (y6 @bl (y6 @bj az)))))))
  repeat' ((first |(with_reducible refine .guard (fun hb =>?_) (fun hb =>?_) <;>try simp only[hb])|(refine ae.j6 (gs:=ru) 15 [] [] [0,1,2,3,4,5,6,7,8,9,10,11,12,13,14] (by decide +kernel) rfl (cZ.of (by simp[fG])) fun K hK =>?_;simp only[fm,ru,gQ,zy1,zw2,List.take_zero,zy7,zy8,R,simprocAttr])|refine ae.aB (by decide +kernel) rfl fun K hK =>?_|refine .flat _ (hF) rfl ?_|(refine .au [0,1,3] hK ?_;clear hK K)|(with_reducible refine .done (hK _ ?_);clear hK K)|refine ae.of rfl ?_|(with_reducible refine av.aA (fun h =>?_) (fun h =>?_) <;>try simp only[h])) <;>try simp only[aC,R,simprocAttr])
  all_goals clear R
  exact .call (iZ (iu hk))
theorem Iu(s:aI)(hk:cI s)(x:bn)(hy:x.aL∈s.here):cY Tryz.prog 126 [.ptr 1000000 [],enc x] (aO s) (nF { s with here:=s.here.erase x.aL }):=by
 refine cY.b5 Tryz.func126 BR Cb Ng (t7 rfl) (t7 rfl) dH (fun hwf W0 bH E1 =>?_);simp only[wq,F8,bM,zz4];clear hwf;have n3:ak (aO s) 3=none:=eV (.inl (by omega)) fun i _=>by simp[bJ];omega
 have aR:ak (aO s) 1000000=some (.box (.agg [.int .i64 s.aD,.mref 1000001,.mref 1000002,.int .i64 s.all.length,.mref 1000003,.mref 1000004])):=fN;have J:ak (aO s) 1000001=some (.bD (s.here.map enc) (List.replicate s.here.length (.bool true))):=gu;have U:ak (aO s) 1000002=some (.bD (s.bK.map enc) (ed (bJ 1000000) s.aU)):=gC;have af:ak (aO s) 1000003=some (.bD (s.en.map enc) (s.bA.map enc)):=gD;have hfin:∀ ts,c8 (aw ts ((3,.box (enc x))::aO s)) 9 (.agg [.int .i64 s.aD,.mref 1000001,.mref 1000002,.int .i64 s.all.length,.mref 1000003,.mref 1000004])=some (gq s):=fun ts =>
  ib (ik (dQ _) hk.cJ fun n hn=>by have:=dH n hn;simp only[ak];rw[if_neg (by omega)]) 4
 have hlk:=gK fh x.aL s.here;rw[eP] at hlk;have q1:decide (x.aL∈s.here)=true:=decide_eq_true hy;have hdl:=EZ hy;have R:=y6 @n3 (y6 @aR (y6 @J (y6 @hfin (y6 @hlk (y6 @q1 (y6 @hdl (y6 @bl (y6 @bj az))))))))
 repeat' ((first |refine ae.aB (by decide +kernel) rfl fun K hK =>?_|refine .flat _ (lx) rfl ?_|(refine .au [0,1,3] hK ?_;clear hK K)|(with_reducible refine .done (hK _ ?_);clear hK K)|refine ae.of rfl ?_|(with_reducible refine av.aA (fun h =>?_) (fun h =>?_) <;>try simp only[h])) <;>try simp only[aC,R,simprocAttr])
 all_goals clear R
 rw[mR];refine mQ (fun n hn =>?_) (fun _ _ h=>jc (s := { s with here:=s.here.erase x.aL }) ⟨hk.cJ,hk.jr,hk.ah.erase _⟩ h) ⟨rfl,rfl⟩;have:=dH n hn;simp only[aO,eA,ak];rw[if_neg (show ¬ n=3 by omega)]
 (repeat' split) <;>first | rfl | omega
theorem Iv(s:aI)(hk:cI s)(x:bn)(hy:x.aL∉s.here):fF Tryz.prog 126 fP [.ptr 1000000 [],enc x] (aO s) (kC s):=by
 refine fF.mk Tryz.func126 BR Cb (t7 rfl) (t7 rfl) dH (fun hwf W0 bH E1 =>?_);simp only[wq,bM,zz4];clear hwf;have n3:ak (aO s) 3=none:=eV (.inl (by omega)) fun i _=>by simp[bJ];omega
 have aR:ak (aO s) 1000000=some (.box (.agg [.int .i64 s.aD,.mref 1000001,.mref 1000002,.int .i64 s.all.length,.mref 1000003,.mref 1000004])):=fN;have J:ak (aO s) 1000001=some (.bD (s.here.map enc) (List.replicate s.here.length (.bool true))):=gu;have U:ak (aO s) 1000002=some (.bD (s.bK.map enc) (ed (bJ 1000000) s.aU)):=gC;have af:ak (aO s) 1000003=some (.bD (s.en.map enc) (s.bA.map enc)):=gD;have hfin:∀ ts,c8 (aw ts ((3,.box (enc x))::aO s)) 9 (.agg [.int .i64 s.aD,.mref 1000001,.mref 1000002,.int .i64 s.all.length,.mref 1000003,.mref 1000004])=some (gq s):=fun ts =>
  ib (ik (dQ _) hk.cJ fun n hn=>by have:=dH n hn;simp only[ak];rw[if_neg (by omega)]) 4
 have hlk:=gK fh x.aL s.here;rw[eP] at hlk;have q1:decide (x.aL∈s.here)=false:=decide_eq_false hy;have R:=y6 @n3 (y6 @aR (y6 @J (y6 @hfin (y6 @hlk (y6 @q1 (y6 @bl (y6 @bj az)))))))
 repeat' ((first |(refine ae.j6 (gs:=xB) 7 [] [] [0,1,2,3,4,5,6] (by decide +kernel) rfl (cZ.of (by simp[fG])) fun K hK =>?_;simp only[fm,xB,gQ,zy1,zw2,List.take_zero,zy7,zy8,R,simprocAttr])|refine ae.aB (by decide +kernel) rfl fun K hK =>?_|(refine .au [0,1,3] hK ?_;clear hK K)|(with_reducible refine .done (hK _ ?_);clear hK K)|refine ae.of rfl ?_|(with_reducible refine av.aA (fun h =>?_) (fun h =>?_) <;>try simp only[h])) <;>try simp only[aC,R,simprocAttr])
 all_goals clear R
 exact .call (iZ (iu hk))
def FI(s:aI)(i:Nat):cL:=fun r os'=>r=.ptr (bJ 1000000 i) []∧os'=aO s
theorem kv:(∀ i,(3=bJ 1000000 i)=False)∧(∀ i,(bJ 1000000 i=3)=False):=⟨fun i=>by simp[bJ];omega,fun i=>by simp[bJ];omega⟩
theorem qK(s:aI)(hk:cI s)(x:bn)(i:Nat)(hy:s.on x=some i):cY Tryz.prog 151 [.ptr 1000000 [],enc x] (aO s) (FI s i):=by
 refine cY.b5 Tryz.func151 BY Ci Nq (t7 rfl) (t7 rfl) dH (fun hwf W0 bH E1 =>?_);simp only[wB,Gg,bM,zz4];clear hwf;have n3:ak (aO s) 3=none:=eV (.inl (by omega)) fun i _=>by simp[bJ];omega
 have aR:ak (aO s) 1000000=some (.box (.agg [.int .i64 s.aD,.mref 1000001,.mref 1000002,.int .i64 s.all.length,.mref 1000003,.mref 1000004])):=fN;have J:ak (aO s) 1000001=some (.bD (s.here.map enc) (List.replicate s.here.length (.bool true))):=gu;have U:ak (aO s) 1000002=some (.bD (s.bK.map enc) (ed (bJ 1000000) s.aU)):=gC;have af:ak (aO s) 1000003=some (.bD (s.en.map enc) (s.bA.map enc)):=gD;have hfin:∀ ts,c8 (aw ts ((3,.box (enc x))::aO s)) 9 (.agg [.int .i64 s.aD,.mref 1000001,.mref 1000002,.int .i64 s.all.length,.mref 1000003,.mref 1000004])=some (gq s):=fun ts =>
  ib (ik (dQ _) hk.cJ fun n hn=>by have:=dH n hn;simp only[ak];rw[if_neg (by omega)]) 4
 have hlk:=gK fh x.aL s.here;rw[eP] at hlk;obtain ⟨ha,hb1,hb2⟩:=qm hy;have hil:=(jV ha).1;have hlt:=hk.cJ i hil;have hlr:=x5 (s:=s) (fun i=>.ptr (bJ 1000000 i) []) x.no;have hpt:(s.aU.map fun i=>I.ptr (bJ 1000000 i) [])=ed (bJ 1000000) s.aU:=rfl;rw[hpt] at hlr;rw[ha] at hlr;simp only at hlr;have hb:ak (aO s) (bJ 1000000 i)=some (.box (enc (s.cw i))):=by
  have:=jS (dQ s.all.length) (B:=1000000) hlt;rw[this];simp[aI.cw,zz1,hlt]
 have q1:((s.cw i).to==x.other)=true:=by simpa using hb1
 have q2:((s.cw i).aL==x.aL)=true:=by simpa using hb2
 have R:=y6 @n3 (y6 @aR (y6 @U (y6 @hb (y6 @hlr (y6 @q1 (y6 @q2 (y6 @kv (y6 @bl (y6 @bj az)))))))))
 repeat' ((first |(with_reducible refine .guard (fun hb =>?_) (fun hb =>?_) <;>try simp only[hb])|refine ae.aB (by decide +kernel) rfl fun K hK =>?_|refine .flat _ (lx) rfl ?_|(refine .au [0,1,3,4,5,6] hK ?_;clear hK K)|(with_reducible refine .done (hK _ ?_);clear hK K)|refine ae.of rfl ?_|(with_reducible refine av.aA (fun h =>?_) (fun h =>?_) <;>try simp only[h])) <;>try simp only[aC,R,simprocAttr])
 all_goals clear R
 refine ⟨aO s,[.ptr (bJ 1000000 i) []],fun n y hy=>⟨?_,jc hk hy⟩,⟨⟨_,rfl,.inl ⟨rfl,rfl,?_⟩⟩,trivial⟩,rfl,rfl⟩
 ·have:=dH (s:=s) n (by simp[ay,hy])
  show ak ((3,_)::aO s) n=_
  simp only[ak];rw[if_neg (by omega)];exact hy
 ·exact (dY (dQ _)).2 (.inr ⟨i,hlt,rfl⟩)
theorem IH(s:aI)(hk:cI s)(x:bn)(hy:s.on x=none):fF Tryz.prog 151 fP [.ptr 1000000 [],enc x] (aO s) (kC s):=by
 refine fF.mk Tryz.func151 BY Ci (t7 rfl) (t7 rfl) dH (fun hwf W0 bH E1 =>?_);simp only[wB,bM,zz4];clear hwf;have n3:ak (aO s) 3=none:=eV (.inl (by omega)) fun i _=>by simp[bJ];omega
 have aR:ak (aO s) 1000000=some (.box (.agg [.int .i64 s.aD,.mref 1000001,.mref 1000002,.int .i64 s.all.length,.mref 1000003,.mref 1000004])):=fN;have J:ak (aO s) 1000001=some (.bD (s.here.map enc) (List.replicate s.here.length (.bool true))):=gu;have U:ak (aO s) 1000002=some (.bD (s.bK.map enc) (ed (bJ 1000000) s.aU)):=gC;have af:ak (aO s) 1000003=some (.bD (s.en.map enc) (s.bA.map enc)):=gD;have hfin:∀ ts,c8 (aw ts ((3,.box (enc x))::aO s)) 9 (.agg [.int .i64 s.aD,.mref 1000001,.mref 1000002,.int .i64 s.all.length,.mref 1000003,.mref 1000004])=some (gq s):=fun ts =>
  ib (ik (dQ _) hk.cJ fun n hn=>by have:=dH n hn;simp only[ak];rw[if_neg (by omega)]) 4
 have hlk:=gK fh x.aL s.here;rw[eP] at hlk;have hlr:=x5 (s:=s) (fun i=>.ptr (bJ 1000000 i) []) x.no;have hpt:(s.aU.map fun i=>I.ptr (bJ 1000000 i) [])=ed (bJ 1000000) s.aU:=rfl;rw[hpt] at hlr;cases ha:s.at x.no with
 |none =>
  rw[ha] at hlr;simp only at hlr;have R:=y6 @n3 (y6 @aR (y6 @U (y6 @hlr (y6 @kv (y6 @bl (y6 @bj az))))))
  repeat' ((first |(with_reducible refine .guard (fun hb =>?_) (fun hb =>?_) <;>try simp only[hb])|(refine ae.j6 (gs:=oz) 19 [] [] [0,1,2,3,4,5,6,7,8,9,10,11,12,13,14,15,16,17,18] (by decide +kernel) rfl (cZ.of (by simp[fG])) fun K hK =>?_;simp only[fm,oz,gQ,zy1,zw2,List.take_zero,zy7,zy8,R,simprocAttr])|refine ae.aB (by decide +kernel) rfl fun K hK =>?_|(refine .au [0,1,3,4,5,6] hK ?_;clear hK K)|(with_reducible refine .done (hK _ ?_);clear hK K)|refine ae.of rfl ?_|(with_reducible refine av.aA (fun h =>?_) (fun h =>?_) <;>try simp only[h])) <;>try simp only[aC,R,simprocAttr])
  all_goals clear R
  exact .call (iZ (iu hk))
 |some i =>
  have hil:=(jV ha).1;have hlt:=hk.cJ i hil;rw[ha] at hlr;simp only at hlr;have hb:ak (aO s) (bJ 1000000 i)=some (.box (enc (s.cw i))):=by
   have:=jS (dQ s.all.length) (B:=1000000) hlt;rw[this];simp[aI.cw,zz1,hlt]
  rcases q1:((s.cw i).to==x.other)
  ·have R:=y6 @n3 (y6 @aR (y6 @U (y6 @hb (y6 @hlr (y6 @q1 (y6 @kv (y6 @bl (y6 @bj az))))))))
   repeat' ((first |(with_reducible refine .guard (fun hb =>?_) (fun hb =>?_) <;>try simp only[hb])|(refine ae.j6 (gs:=oz) 19 [] [] [0,1,2,3,4,5,6,7,8,9,10,11,12,13,14,15,16,17,18] (by decide +kernel) rfl (cZ.of (by simp[fG])) fun K hK =>?_;simp only[fm,oz,gQ,zy1,zw2,List.take_zero,zy7,zy8,R,simprocAttr])|refine ae.aB (by decide +kernel) rfl fun K hK =>?_|(refine .au [0,1,3,4,5,6] hK ?_;clear hK K)|(with_reducible refine .done (hK _ ?_);clear hK K)|refine ae.of rfl ?_|(with_reducible refine av.aA (fun h =>?_) (fun h =>?_) <;>try simp only[h])) <;>try simp only[aC,R,simprocAttr])
   all_goals clear R
   exact .call (iZ (iu hk))
  ·have q2:((s.cw i).aL==x.aL)=false:=by
    simp only[aI.on,ha] at hy;split at hy
    ·cases hy
    ·rename_i h;simp only[beq_iff_eq] at q1;simp only[beq_eq_false_iff_ne,ne_eq];exact fun e=>h ⟨q1,e⟩
   have R:=y6 @n3 (y6 @aR (y6 @U (y6 @hb (y6 @hlr (y6 @q1 (y6 @q2 (y6 @kv (y6 @bl (y6 @bj az)))))))))
   repeat' ((first |(with_reducible refine .guard (fun hb =>?_) (fun hb =>?_) <;>try simp only[hb])|(refine ae.j6 (gs:=oz) 19 [] [] [0,1,2,3,4,5,6,7,8,9,10,11,12,13,14,15,16,17,18] (by decide +kernel) rfl (cZ.of (by simp[fG])) fun K hK =>?_;simp only[fm,oz,gQ,zy1,zw2,List.take_zero,zy7,zy8,R,simprocAttr])|refine ae.aB (by decide +kernel) rfl fun K hK =>?_|(refine .au [0,1,3,4,5,6] hK ?_;clear hK K)|(with_reducible refine .done (hK _ ?_);clear hK K)|refine ae.of rfl ?_|(with_reducible refine av.aA (fun h =>?_) (fun h =>?_) <;>try simp only[h])) <;>try simp only[aC,R,simprocAttr])
   all_goals clear R
   exact .call (iZ (iu hk))
theorem AD{ts:List (Nat×I)}{s:aI}{z:aq} : aw ts (aO s++((3,z)::aO s))=aw ts ((3,z)::aO s):=by
 simp only[aw,ai.mk.injEq,true_and]
 funext n
 rw[fY];cases h:ak (aO s) n with
 |none=>rfl
 |some y =>
  have:=dH (s:=s) n (by simp[ay,h]);simp only[ak];rw[if_neg (by omega),h]
theorem D7{s:aI}(hk:cI s){z:aq} : gG [] (aO s) ((3,z)::aO s):=by
 refine ⟨fun m y hy=>⟨?_,jc hk hy⟩,fun m m' _ _ h=>h⟩;have hm:=dH (s:=s) m (by simp[ay,hy]);rw[aq.kZ (ρ:=bP []) (fun n=>rfl)]
 show ak ((3,z)::aO s) m=some y
 simp only[ak];rw[if_neg (by omega)];exact hy
theorem wi{s:aI}(hk:cI s){os0:List (Nat×aq)}{r:I}(hr:r.only (ay (aO s))=true):gX false [] (aO s) os0 r (aO s) :=
 ⟨fun _ _ hy=>⟨(jc hk hy).1,(jc hk hy).2,fun h=>by cases h⟩,fun m m' _ _ h=>h,fun m hm=>hm,(fun m a b=>by rw[a] at b;cases b),hr,(fun h=>by cases h)⟩
theorem tg{s:aI}{x:bn}{A:ai} : h1 false A [] (aO s) [.ptr 1000000 [],enc x] [.ptr 1000000 [],enc x] :=
 ⟨.inl ⟨rfl,(dY (dQ _)).2 (.inl (by omega)),rfl⟩,.inl ⟨(lM _ _).symm,b7 _ _,eF _⟩,trivial⟩
theorem aV.sr{K:ai→Prop}{s:aI}{x:bn}{i:Nat}{avs:List I}{a1 a2:Option (List I)}{dst:Option Nat}{rest:List aJ}{ts:List (Nat×I)}{z:aq}(hk:cI s)(hil:i<s.all.length)(hc:cY Tryz.prog 151 [.ptr 1000000 [],enc x] (aO s) (FI s i))(hav:avs=[.ptr 1000000 [],enc x])
  (h:aV Tryz.prog dA false K (aE rest ((aw ts ((3,z)::aO s)).aW dst (.ptr (bJ 1000000 i) [])))):aV Tryz.prog dA false K (.call 151 avs a1 a2 dst rest (aw ts ((3,z)::aO s))):=by
 subst hav;refine .bU false [] (aO s) [.ptr 1000000 [],enc x] _ rfl hc (D7 hk) tg ?_ ?_
 ·rintro r os' ⟨rfl,rfl⟩;exact wi hk ((dY (dQ _)).2 (.inr ⟨i,hil,rfl⟩))
 ·rintro r os' ⟨rfl,rfl⟩;rw[mN,AD];exact h
theorem yN{Q:Exit→ai→Prop}{s:aI}(hk:cI s){x:bn}(hy:s.on x=none){ts:List (Nat×I)}{z:aq}(hq:Q (.panic fP) (aw ts ((3,z)::aO s))):n0 Tryz.prog Q 151 [.ptr 1000000 [],enc x] (aw ts ((3,z)::aO s)) :=
 .mk false [] (aO s) [.ptr 1000000 [],enc x] fP _ (IH s hk x hy) (D7 hk) tg (fun os' h=>by cases h;exact wi hk rfl) (fun os' h=>by cases h;rw[mN,AD];exact hq)
theorem IA(s:aI)(hk:cI s)(x:bn)(i:Nat)(hy:s.on x=some i):cY Tryz.prog 129 [.ptr 1000000 [],enc x] (aO s) (nF { s with aU:=s.aU.erase i }):=by
 refine cY.b5 Tryz.func129 BU Ce Nj (t7 rfl) (t7 rfl) dH (fun hwf W0 bH E1 =>?_);simp only[wv,Gb,bM,zz4];clear hwf;have n3:ak (aO s) 3=none:=eV (.inl (by omega)) fun i _=>by simp[bJ];omega
 have aR:ak (aO s) 1000000=some (.box (.agg [.int .i64 s.aD,.mref 1000001,.mref 1000002,.int .i64 s.all.length,.mref 1000003,.mref 1000004])):=fN;have J:ak (aO s) 1000001=some (.bD (s.here.map enc) (List.replicate s.here.length (.bool true))):=gu;have U:ak (aO s) 1000002=some (.bD (s.bK.map enc) (ed (bJ 1000000) s.aU)):=gC;have af:ak (aO s) 1000003=some (.bD (s.en.map enc) (s.bA.map enc)):=gD;have hfin:∀ ts,c8 (aw ts ((3,.box (enc x))::aO s)) 9 (.agg [.int .i64 s.aD,.mref 1000001,.mref 1000002,.int .i64 s.all.length,.mref 1000003,.mref 1000004])=some (gq s):=fun ts =>
  ib (ik (dQ _) hk.cJ fun n hn=>by have:=dH n hn;simp only[ak];rw[if_neg (by omega)]) 4
 have hlk:=gK fh x.aL s.here;rw[eP] at hlk;obtain ⟨ha,hb1,hb2⟩:=qm hy;have hil:=(jV ha).1;have hno:=(jV ha).2;have hlt:=hk.cJ i hil;have hb:ak (aO s) (bJ 1000000 i)=some (.box (enc (s.cw i))):=by
  have:=jS (dQ s.all.length) (B:=1000000) hlt;rw[this];simp[aI.cw,zz1,hlt]
 have hdl:=E0 (s:=s) (fun i=>.ptr (bJ 1000000 i) []) hil;rw[←hno] at hdl;have hpt:(s.aU.map fun i=>I.ptr (bJ 1000000 i) [])=ed (bJ 1000000) s.aU:=rfl;rw[hpt] at hdl;have R:=y6 @n3 (y6 @aR (y6 @U (y6 @hb (y6 @hdl (y6 @kv (y6 @bl (y6 @bj az)))))))
 repeat' ((first |refine ae.aB (by decide +kernel) rfl fun K hK =>?_|refine aV.sr hk hlt (qK s hk x i hy) rfl ?_|(refine .au [0,1,3] hK ?_;clear hK K)|(with_reducible refine .done (hK _ ?_);clear hK K)|refine ae.of rfl ?_|(with_reducible refine av.aA (fun h =>?_) (fun h =>?_) <;>try simp only[h])) <;>try simp only[aC,R,simprocAttr])
 all_goals clear R
 rw[mR];refine mQ (fun n hn =>?_) (fun _ _ h=>jc (s := { s with aU:=s.aU.erase i }) ⟨fun j hj=>hk.cJ j (List.mem_of_mem_erase hj),hk.jr.erase _,hk.ah⟩ h) ⟨rfl,rfl⟩;have:=dH n hn;simp only[aO,eA,ak];rw[if_neg (show ¬ n=3 by omega)]
 (repeat' split) <;>first | rfl | omega
theorem IB(s:aI)(hk:cI s)(x:bn)(hy:s.on x=none):fF Tryz.prog 129 fP [.ptr 1000000 [],enc x] (aO s) (kC s):=by
 refine fF.mk Tryz.func129 BU Ce (t7 rfl) (t7 rfl) dH (fun hwf W0 bH E1 =>?_);simp only[wv,bM,zz4];clear hwf;have n3:ak (aO s) 3=none:=eV (.inl (by omega)) fun i _=>by simp[bJ];omega
 have aR:ak (aO s) 1000000=some (.box (.agg [.int .i64 s.aD,.mref 1000001,.mref 1000002,.int .i64 s.all.length,.mref 1000003,.mref 1000004])):=fN;have J:ak (aO s) 1000001=some (.bD (s.here.map enc) (List.replicate s.here.length (.bool true))):=gu;have U:ak (aO s) 1000002=some (.bD (s.bK.map enc) (ed (bJ 1000000) s.aU)):=gC;have af:ak (aO s) 1000003=some (.bD (s.en.map enc) (s.bA.map enc)):=gD;have hfin:∀ ts,c8 (aw ts ((3,.box (enc x))::aO s)) 9 (.agg [.int .i64 s.aD,.mref 1000001,.mref 1000002,.int .i64 s.all.length,.mref 1000003,.mref 1000004])=some (gq s):=fun ts =>
  ib (ik (dQ _) hk.cJ fun n hn=>by have:=dH n hn;simp only[ak];rw[if_neg (by omega)]) 4
 have hlk:=gK fh x.aL s.here;rw[eP] at hlk;have R:=y6 @n3 (y6 @aR (y6 @U (y6 @kv (y6 @bl (y6 @bj az)))))
 repeat' ((first |(refine ae.oR (gs:=Dg) (gs1:=[_,_]) rfl fun K hK =>?_)|refine ae.aB (by decide +kernel) rfl fun K hK =>?_|(refine .au [0,1,3] hK ?_;clear hK K)|(with_reducible refine .done (hK _ ?_);clear hK K)|refine ae.of rfl ?_|(with_reducible refine av.aA (fun h =>?_) (fun h =>?_) <;>try simp only[h])) <;>try simp only[aC,R,simprocAttr])
 all_goals clear R
 exact .call (yN hk hy (iu hk))
theorem LG{s:aI}{i:Nat}(hlt:i<s.all.length)(r:dB){z:aq} : ∀ n,1000000≤n→ak ((bJ 1000000 i,.box (enc r))::(3,z)::aO s) n=ak (aO { s with all:=s.all.set i r }) n:=by
 intro n hn;have hlen:(s.all.set i r).length=s.all.length:=List.length_set;simp only[ak];rw[if_neg (show ¬ n=3 by omega)];rcases zH 1000000 (bJ 1000000) s.all.length n with h | h | h | h | h | ⟨h,j,hj,e⟩ | ⟨h,hno⟩
 ·subst h;rw[if_neg (by simp[bJ];omega)];simp only[aO,fN,hlen]
 ·subst h;rw[if_neg (by simp[bJ];omega)];simp only[aO,gu]
 ·subst h;rw[if_neg (by simp[bJ];omega)];simp only[aO,gC];rfl
 ·subst h;rw[if_neg (by simp[bJ];omega)];simp only[aO,gD];rfl
 ·subst h;rw[if_neg (by simp[bJ];omega)];simp only[aO,pd]
 ·subst e;have J:=jS (B:=1000000) (ν:=bJ 1000000) (s:=s) (dQ _) hj;have U:=jS (B:=1000000) (ν:=bJ 1000000) (s := { s with all:=s.all.set i r }) (dQ _) (i:=j) (by simpa using hj);simp only[aO,J,U];by_cases e:j=i
  ·subst e;simp
  ·have:¬ bJ 1000000 j=bJ 1000000 i:=by simp[bJ];omega
   rw[if_neg this];simp[Ne.symm e]
 ·have J:=eV (B:=1000000) (ν:=bJ 1000000) (s:=s) h hno;have U:=eV (B:=1000000) (ν:=bJ 1000000) (s := { s with all:=s.all.set i r }) h (by simpa using hno);simp only[aO,J,U];rw[if_neg (hno i hlt)]
theorem Iz(s:aI)(hk:cI s)(x:bn)(i:Nat)(hy:s.on x=some i)(hc:(s.cw i).dM=false):cY Tryz.prog 128 [.ptr 1000000 [],enc x] (aO s) (nF { s with all:=s.all.set i { s.cw i with dM:=true } }):=by
 refine cY.b5 Tryz.func128 BT Cd Ni (t7 rfl) (t7 rfl) dH (fun hwf W0 bH E1 =>?_);simp only[wu,Ga,bM,zz4];clear hwf;have n3:ak (aO s) 3=none:=eV (.inl (by omega)) fun i _=>by simp[bJ];omega
 have aR:ak (aO s) 1000000=some (.box (.agg [.int .i64 s.aD,.mref 1000001,.mref 1000002,.int .i64 s.all.length,.mref 1000003,.mref 1000004])):=fN;have J:ak (aO s) 1000001=some (.bD (s.here.map enc) (List.replicate s.here.length (.bool true))):=gu;have U:ak (aO s) 1000002=some (.bD (s.bK.map enc) (ed (bJ 1000000) s.aU)):=gC;have af:ak (aO s) 1000003=some (.bD (s.en.map enc) (s.bA.map enc)):=gD;have hfin:∀ ts,c8 (aw ts ((3,.box (enc x))::aO s)) 9 (.agg [.int .i64 s.aD,.mref 1000001,.mref 1000002,.int .i64 s.all.length,.mref 1000003,.mref 1000004])=some (gq s):=fun ts =>
  ib (ik (dQ _) hk.cJ fun n hn=>by have:=dH n hn;simp only[ak];rw[if_neg (by omega)]) 4
 have hlk:=gK fh x.aL s.here;rw[eP] at hlk;obtain ⟨ha,hb1,hb2⟩:=qm hy;have hil:=(jV ha).1;have hno:=(jV ha).2;have hlt:=hk.cJ i hil;have hb:ak (aO s) (bJ 1000000 i)=some (.box (enc (s.cw i))):=by
  have:=jS (dQ s.all.length) (B:=1000000) hlt;rw[this];simp[aI.cw,zz1,hlt]
 have hst:∀ A rest,c7 A none (bJ 1000000 i) [3] (enc (s.cw i)) (.bool true) rest (some (.bool false))=aE rest (A.aT (bJ 1000000 i) (.box (enc { s.cw i with dM:=true }))):=fun A rest=>dI rfl rfl rfl;have R:=y6 @n3 (y6 @aR (y6 @U (y6 @hb (y6 @hc (y6 @hst (y6 @kv (y6 @bl (y6 @bj az))))))))
 repeat' ((first |refine ae.aB (by decide +kernel) rfl fun K hK =>?_|refine aV.sr hk hlt (qK s hk x i hy) rfl ?_|refine .flat _ (lx) rfl ?_|(refine .au [0,1,3,4] hK ?_;clear hK K)|(with_reducible refine .done (hK _ ?_);clear hK K)|refine ae.of rfl ?_|(with_reducible refine av.aA (fun h =>?_) (fun h =>?_) <;>try simp only[h])) <;>try simp only[aC,R,simprocAttr])
 all_goals clear R
 rw[mR];exact mQ (fun n hn=>LG hlt _ n (dH n hn)) (fun _ _ h=>jc (s := { s with all:=s.all.set i { s.cw i with dM:=true } }) ⟨fun j hj=>by simpa using hk.cJ j hj,hk.jr,hk.ah⟩ h) ⟨rfl,rfl⟩
theorem zY(s:aI)(hk:cI s)(x:bn)(hy:∀ i,s.on x=some i→(s.cw i).dM=true):fF Tryz.prog 128 fP [.ptr 1000000 [],enc x] (aO s) (kC s):=by
 refine fF.mk Tryz.func128 BT Cd (t7 rfl) (t7 rfl) dH (fun hwf W0 bH E1 =>?_);simp only[wu,bM,zz4];clear hwf;have n3:ak (aO s) 3=none:=eV (.inl (by omega)) fun i _=>by simp[bJ];omega
 have aR:ak (aO s) 1000000=some (.box (.agg [.int .i64 s.aD,.mref 1000001,.mref 1000002,.int .i64 s.all.length,.mref 1000003,.mref 1000004])):=fN;have J:ak (aO s) 1000001=some (.bD (s.here.map enc) (List.replicate s.here.length (.bool true))):=gu;have U:ak (aO s) 1000002=some (.bD (s.bK.map enc) (ed (bJ 1000000) s.aU)):=gC;have af:ak (aO s) 1000003=some (.bD (s.en.map enc) (s.bA.map enc)):=gD;have hfin:∀ ts,c8 (aw ts ((3,.box (enc x))::aO s)) 9 (.agg [.int .i64 s.aD,.mref 1000001,.mref 1000002,.int .i64 s.all.length,.mref 1000003,.mref 1000004])=some (gq s):=fun ts =>
  ib (ik (dQ _) hk.cJ fun n hn=>by have:=dH n hn;simp only[ak];rw[if_neg (by omega)]) 4
 have hlk:=gK fh x.aL s.here;rw[eP] at hlk;cases hy2:s.on x with
 |none =>
  have R:=y6 @n3 (y6 @aR (y6 @U (y6 @kv (y6 @bl (y6 @bj az)))))
  repeat' ((first |(refine ae.oR (gs:=De) (gs1:=[_,_]) rfl fun K hK =>?_)|refine ae.aB (by decide +kernel) rfl fun K hK =>?_|(refine .au [0,1,3,4] hK ?_;clear hK K)|(with_reducible refine .done (hK _ ?_);clear hK K)|refine ae.of rfl ?_|(with_reducible refine av.aA (fun h =>?_) (fun h =>?_) <;>try simp only[h])) <;>try simp only[aC,R,simprocAttr])
  all_goals clear R
  exact .call (yN hk hy2 (iu hk))
 |some i =>
  have hc:=hy i hy2;have hy:=hy2;obtain ⟨ha,hb1,hb2⟩:=qm hy;have hil:=(jV ha).1;have hno:=(jV ha).2;have hlt:=hk.cJ i hil;have hb:ak (aO s) (bJ 1000000 i)=some (.box (enc (s.cw i))):=by
   have:=jS (dQ s.all.length) (B:=1000000) hlt;rw[this];simp[aI.cw,zz1,hlt]
  have R:=y6 @n3 (y6 @aR (y6 @U (y6 @hb (y6 @hc (y6 @kv (y6 @bl (y6 @bj az)))))))
  repeat' ((first |(refine ae.oR (gs:=Df) (gs1:=[_,_,_,_,_]) rfl fun K hK =>?_)|refine ae.aB (by decide +kernel) rfl fun K hK =>?_|refine aV.sr hk hlt (qK s hk x i hy) rfl ?_|(refine .au [0,1,3,4] hK ?_;clear hK K)|(with_reducible refine .done (hK _ ?_);clear hK K)|refine ae.of rfl ?_|(with_reducible refine av.aA (fun h =>?_) (fun h =>?_) <;>try simp only[h])) <;>try simp only[aC,R,simprocAttr])
  all_goals clear R
  exact .call (iZ (iu hk))
theorem IC(s:aI)(hk:cI s)(x:bn)(i:Nat)(hy:s.on x=some i)(hc:(s.cw i).dM=true):cY Tryz.prog 130 [.ptr 1000000 [],enc x] (aO s) (nF { s with aU:=s.aU.erase i,here:=h0 s.here x.aL }):=by
 refine cY.b5 Tryz.func130 BV Cf Nk (t7 rfl) (t7 rfl) dH (fun hwf W0 bH E1 =>?_);simp only[wy,Gc,bM,zz4];clear hwf;have n3:ak (aO s) 3=none:=eV (.inl (by omega)) fun i _=>by simp[bJ];omega
 have aR:ak (aO s) 1000000=some (.box (.agg [.int .i64 s.aD,.mref 1000001,.mref 1000002,.int .i64 s.all.length,.mref 1000003,.mref 1000004])):=fN;have J:ak (aO s) 1000001=some (.bD (s.here.map enc) (List.replicate s.here.length (.bool true))):=gu;have U:ak (aO s) 1000002=some (.bD (s.bK.map enc) (ed (bJ 1000000) s.aU)):=gC;have af:ak (aO s) 1000003=some (.bD (s.en.map enc) (s.bA.map enc)):=gD;have hfin:∀ ts,c8 (aw ts ((3,.box (enc x))::aO s)) 9 (.agg [.int .i64 s.aD,.mref 1000001,.mref 1000002,.int .i64 s.all.length,.mref 1000003,.mref 1000004])=some (gq s):=fun ts =>
  ib (ik (dQ _) hk.cJ fun n hn=>by have:=dH n hn;simp only[ak];rw[if_neg (by omega)]) 4
 have hlk:=gK fh x.aL s.here;rw[eP] at hlk;obtain ⟨ha,hb1,hb2⟩:=qm hy;have hil:=(jV ha).1;have hno:=(jV ha).2;have hlt:=hk.cJ i hil;have hb:ak (aO s) (bJ 1000000 i)=some (.box (enc (s.cw i))):=by
  have:=jS (dQ s.all.length) (B:=1000000) hlt;rw[this];simp[aI.cw,zz1,hlt]
 have hdl:=E0 (s:=s) (fun i=>.ptr (bJ 1000000 i) []) hil;rw[←hno] at hdl;have hpt:(s.aU.map fun i=>I.ptr (bJ 1000000 i) [])=ed (bJ 1000000) s.aU:=rfl;rw[hpt] at hdl;have hup:=yk fh x.aL s.here;rw[eP] at hup;have R:=y6 @n3 (y6 @aR (y6 @J (y6 @U (y6 @hb (y6 @hc (y6 @hdl (y6 @hup (y6 @kv (y6 @bl (y6 @bj az))))))))))
 repeat' ((first |refine ae.aB (by decide +kernel) rfl fun K hK =>?_|refine aV.sr hk hlt (qK s hk x i hy) rfl ?_|refine .flat _ (lx) rfl ?_|(refine .au [0,1,3] hK ?_;clear hK K)|(with_reducible refine .done (hK _ ?_);clear hK K)|refine ae.of rfl ?_|(with_reducible refine av.aA (fun h =>?_) (fun h =>?_) <;>try simp only[h])) <;>try simp only[aC,R,simprocAttr])
 all_goals clear R
 rw[mR];refine mQ (fun n hn =>?_) (fun _ _ h=>jc (s := { s with aU:=s.aU.erase i,here:=h0 s.here x.aL }) ⟨fun j hj=>hk.cJ j (List.mem_of_mem_erase hj),hk.jr.erase _,n2 hk.ah⟩ h) ⟨rfl,rfl⟩;have:=dH n hn;simp only[aO,eA,ak];rw[if_neg (show ¬ n=3 by omega)]
 (repeat' split) <;>first | rfl | omega
theorem zZ(s:aI)(hk:cI s)(x:bn)(hy:∀ i,s.on x=some i→(s.cw i).dM=false):fF Tryz.prog 130 fP [.ptr 1000000 [],enc x] (aO s) (kC s):=by
 refine fF.mk Tryz.func130 BV Cf (t7 rfl) (t7 rfl) dH (fun hwf W0 bH E1 =>?_);simp only[wy,bM,zz4];clear hwf;have n3:ak (aO s) 3=none:=eV (.inl (by omega)) fun i _=>by simp[bJ];omega
 have aR:ak (aO s) 1000000=some (.box (.agg [.int .i64 s.aD,.mref 1000001,.mref 1000002,.int .i64 s.all.length,.mref 1000003,.mref 1000004])):=fN;have J:ak (aO s) 1000001=some (.bD (s.here.map enc) (List.replicate s.here.length (.bool true))):=gu;have U:ak (aO s) 1000002=some (.bD (s.bK.map enc) (ed (bJ 1000000) s.aU)):=gC;have af:ak (aO s) 1000003=some (.bD (s.en.map enc) (s.bA.map enc)):=gD;have hfin:∀ ts,c8 (aw ts ((3,.box (enc x))::aO s)) 9 (.agg [.int .i64 s.aD,.mref 1000001,.mref 1000002,.int .i64 s.all.length,.mref 1000003,.mref 1000004])=some (gq s):=fun ts =>
  ib (ik (dQ _) hk.cJ fun n hn=>by have:=dH n hn;simp only[ak];rw[if_neg (by omega)]) 4
 have hlk:=gK fh x.aL s.here;rw[eP] at hlk;cases hy2:s.on x with
 |none =>
  have R:=y6 @n3 (y6 @aR (y6 @U (y6 @kv (y6 @bl (y6 @bj az)))))
  repeat' ((first |(refine ae.oR (gs:=xC) (gs1:=[_,_]) rfl fun K hK =>?_)|refine ae.aB (by decide +kernel) rfl fun K hK =>?_|(refine .au [0,1,3] hK ?_;clear hK K)|(with_reducible refine .done (hK _ ?_);clear hK K)|refine ae.of rfl ?_|(with_reducible refine av.aA (fun h =>?_) (fun h =>?_) <;>try simp only[h])) <;>try simp only[aC,R,simprocAttr])
  all_goals clear R
  exact .call (yN hk hy2 (iu hk))
 |some i =>
  have hc:=hy i hy2;have hy:=hy2;obtain ⟨ha,hb1,hb2⟩:=qm hy;have hil:=(jV ha).1;have hno:=(jV ha).2;have hlt:=hk.cJ i hil;have hb:ak (aO s) (bJ 1000000 i)=some (.box (enc (s.cw i))):=by
   have:=jS (dQ s.all.length) (B:=1000000) hlt;rw[this];simp[aI.cw,zz1,hlt]
  have R:=y6 @n3 (y6 @aR (y6 @U (y6 @hb (y6 @hc (y6 @kv (y6 @bl (y6 @bj az)))))))
  repeat' ((first |(refine ae.oR (gs:=xC) (gs1:=[_,_,_,_,_,_]) rfl fun K hK =>?_)|refine ae.aB (by decide +kernel) rfl fun K hK =>?_|refine aV.sr hk hlt (qK s hk x i hy) rfl ?_|(refine .au [0,1,3] hK ?_;clear hK K)|(with_reducible refine .done (hK _ ?_);clear hK K)|refine ae.of rfl ?_|(with_reducible refine av.aA (fun h =>?_) (fun h =>?_) <;>try simp only[h])) <;>try simp only[aC,R,simprocAttr])
  all_goals clear R
  exact .call (iZ (iu hk))
theorem Fc{s:aI}{x:bn}(h:fU x∉s.en):fL (.bh [.i .i64,.i .i64]) (.agg [.int .i64 x.other,.int .i64 x.no]) (enc x) (s.en.map enc) (s.bA.map enc)=some ((({ s with bA:=s.bA++[x] } : aI).en).map enc,(s.bA++[x]).map enc):=by
 have hm:=yj w7 (fU x) (enc x) (eF x) s.en (s.bA.map enc);have hf:=rm (k:=fU x) (ks:=s.en);rw[decide_eq_false h] at hf;have e:(enc (fU x):I)=.agg [.int .i64 x.other,.int .i64 x.no]:=rfl;rw[e] at hm;rw[hm];cases hq:s.en.findIdx? fun y=>decide (fU x=y) with
 |none=>simp[aI.en]
 |some i=>rw[hq] at hf;cases hf
theorem Ia{s:aI}{x:bn}(h:s.unknown x=true):fU x∉s.en:=by
 simp only[aI.unknown,zz0,Bool.not_eq_true',decide_eq_false_iff_not] at h;exact h.2
theorem AI(x:bn):(dS [.int .i64 0,.int .i64 0] [(0,.int .i64 x.other),(1,.int .i64 x.no)]).map I.agg=some (.agg [.int .i64 x.other,.int .i64 x.no]):=by simp[dS,I.bX,I.size]
theorem IF(s:aI)(hk:cI s)(x:bn)(hy:s.unknown x=true):cY Tryz.prog 132 [.ptr 1000000 [],enc x] (aO s) (nF { s with bA:=s.bA++[x] }):=by
 refine cY.b5 Tryz.func132 BX Ch Nn (t7 rfl) (t7 rfl) dH (fun hwf W0 bH E1 =>?_);simp only[wA,Ge,bM,zz4];clear hwf;have n3:ak (aO s) 3=none:=eV (.inl (by omega)) fun i _=>by simp[bJ];omega
 have aR:ak (aO s) 1000000=some (.box (.agg [.int .i64 s.aD,.mref 1000001,.mref 1000002,.int .i64 s.all.length,.mref 1000003,.mref 1000004])):=fN;have J:ak (aO s) 1000001=some (.bD (s.here.map enc) (List.replicate s.here.length (.bool true))):=gu;have U:ak (aO s) 1000002=some (.bD (s.bK.map enc) (ed (bJ 1000000) s.aU)):=gC;have af:ak (aO s) 1000003=some (.bD (s.en.map enc) (s.bA.map enc)):=gD;have hfin:∀ ts,c8 (aw ts ((3,.box (enc x))::aO s)) 9 (.agg [.int .i64 s.aD,.mref 1000001,.mref 1000002,.int .i64 s.all.length,.mref 1000003,.mref 1000004])=some (gq s):=fun ts =>
  ib (ik (dQ _) hk.cJ fun n hn=>by have:=dH n hn;simp only[ak];rw[if_neg (by omega)]) 4
 have hlk:=gK fh x.aL s.here;rw[eP] at hlk;have hF:=sS s x;rw[hy] at hF;have hup:=Fc (Ia hy);have R:=y6 @n3 (y6 @aR (y6 @af (y6 @hfin (y6 @hup (y6 @AI (y6 @bl (y6 @bj az)))))))
 repeat' ((first |refine ae.aB (by decide +kernel) rfl fun K hK =>?_|refine .flat _ (hF) rfl ?_|refine .flat _ (lx) rfl ?_|(refine .au [0,1,3] hK ?_;clear hK K)|(with_reducible refine .done (hK _ ?_);clear hK K)|refine ae.of rfl ?_|(with_reducible refine av.aA (fun h =>?_) (fun h =>?_) <;>try simp only[h])) <;>try simp only[aC,R,simprocAttr])
 all_goals clear R
 rw[mR];refine mQ (fun n hn =>?_) (fun _ _ h=>jc (s := { s with bA:=s.bA++[x] }) ⟨hk.cJ,hk.jr,hk.ah⟩ h) ⟨rfl,rfl⟩;have:=dH n hn;simp only[aO,eA,ak];rw[if_neg (show ¬ n=3 by omega)]
 (repeat' split) <;>first | rfl | omega
theorem IG(s:aI)(hk:cI s)(x:bn)(hy:s.unknown x=false):fF Tryz.prog 132 fP [.ptr 1000000 [],enc x] (aO s) (kC s):=by
 refine fF.mk Tryz.func132 BX Ch (t7 rfl) (t7 rfl) dH (fun hwf W0 bH E1 =>?_);simp only[wA,bM,zz4];clear hwf;have n3:ak (aO s) 3=none:=eV (.inl (by omega)) fun i _=>by simp[bJ];omega
 have aR:ak (aO s) 1000000=some (.box (.agg [.int .i64 s.aD,.mref 1000001,.mref 1000002,.int .i64 s.all.length,.mref 1000003,.mref 1000004])):=fN;have J:ak (aO s) 1000001=some (.bD (s.here.map enc) (List.replicate s.here.length (.bool true))):=gu;have U:ak (aO s) 1000002=some (.bD (s.bK.map enc) (ed (bJ 1000000) s.aU)):=gC;have af:ak (aO s) 1000003=some (.bD (s.en.map enc) (s.bA.map enc)):=gD;have hfin:∀ ts,c8 (aw ts ((3,.box (enc x))::aO s)) 9 (.agg [.int .i64 s.aD,.mref 1000001,.mref 1000002,.int .i64 s.all.length,.mref 1000003,.mref 1000004])=some (gq s):=fun ts =>
  ib (ik (dQ _) hk.cJ fun n hn=>by have:=dH n hn;simp only[ak];rw[if_neg (by omega)]) 4
 have hlk:=gK fh x.aL s.here;rw[eP] at hlk;have hF:=sS s x;rw[hy] at hF;have R:=y6 @n3 (y6 @aR (y6 @af (y6 @hfin (y6 @bl (y6 @bj az)))))
 repeat' ((first |(refine ae.oR (gs:=Di) (gs1:=[_,_,_]) rfl fun K hK =>?_)|refine ae.aB (by decide +kernel) rfl fun K hK =>?_|refine .flat _ (hF) rfl ?_|(refine .au [0,1,3] hK ?_;clear hK K)|(with_reducible refine .done (hK _ ?_);clear hK K)|refine ae.of rfl ?_|(with_reducible refine av.aA (fun h =>?_) (fun h =>?_) <;>try simp only[h])) <;>try simp only[aC,R,simprocAttr])
 all_goals clear R
 exact .call (iZ (iu hk))
theorem ID(s:aI)(hk:cI s)(x:bn)(hy:s.unknown x=true∧x.aL∉s.here∧s.fD x.aL=false):cY Tryz.prog 131 [.ptr 1000000 [],enc x] (aO s) (nF { s with bA:=s.bA++[x],here:=h0 s.here x.aL }):=by
 refine cY.b5 Tryz.func131 BW Cg Nl (t7 rfl) (t7 rfl) dH (fun hwf W0 bH E1 =>?_);simp only[wz,Gd,bM,zz4];clear hwf;have n3:ak (aO s) 3=none:=eV (.inl (by omega)) fun i _=>by simp[bJ];omega
 have aR:ak (aO s) 1000000=some (.box (.agg [.int .i64 s.aD,.mref 1000001,.mref 1000002,.int .i64 s.all.length,.mref 1000003,.mref 1000004])):=fN;have J:ak (aO s) 1000001=some (.bD (s.here.map enc) (List.replicate s.here.length (.bool true))):=gu;have U:ak (aO s) 1000002=some (.bD (s.bK.map enc) (ed (bJ 1000000) s.aU)):=gC;have af:ak (aO s) 1000003=some (.bD (s.en.map enc) (s.bA.map enc)):=gD;have hfin:∀ ts,c8 (aw ts ((3,.box (enc x))::aO s)) 9 (.agg [.int .i64 s.aD,.mref 1000001,.mref 1000002,.int .i64 s.all.length,.mref 1000003,.mref 1000004])=some (gq s):=fun ts =>
  ib (ik (dQ _) hk.cJ fun n hn=>by have:=dH n hn;simp only[ak];rw[if_neg (by omega)]) 4
 have hlk:=gK fh x.aL s.here;rw[eP] at hlk;have hF:=sS s x;rw[hy.1] at hF;have hF2:=qN s x.aL;rw[hy.2.2] at hF2;have q1:decide (x.aL∈s.here)=false:=decide_eq_false hy.2.1;have hup:=Fc (Ia hy.1);have hup2:=yk fh x.aL s.here;rw[eP] at hup2;have R:=y6 @n3 (y6 @aR (y6 @J (y6 @af (y6 @hfin (y6 @hlk (y6 @q1 (y6 @hup (y6 @hup2 (y6 @AI (y6 @bl (y6 @bj az)))))))))))
 repeat' ((first |(with_reducible refine .guard (fun hb =>?_) (fun hb =>?_) <;>try simp only[hb])|refine ae.aB (by decide +kernel) rfl fun K hK =>?_|refine .flat _ (hF) rfl ?_|refine .flat _ (hF2) rfl ?_|refine .flat _ (lx) rfl ?_|(refine .au [0,1,3] hK ?_;clear hK K)|(with_reducible refine .done (hK _ ?_);clear hK K)|refine ae.of rfl ?_|(with_reducible refine av.aA (fun h =>?_) (fun h =>?_) <;>try simp only[h])) <;>try simp only[aC,R,simprocAttr])
 all_goals clear R
 rw[mR];refine mQ (fun n hn =>?_) (fun _ _ h=>jc (s := { s with bA:=s.bA++[x],here:=h0 s.here x.aL }) ⟨hk.cJ,hk.jr,n2 hk.ah⟩ h) ⟨rfl,rfl⟩;have:=dH n hn;simp only[aO,eA,ak];rw[if_neg (show ¬ n=3 by omega)]
 (repeat' split) <;>first | rfl | omega
theorem IE(s:aI)(hk:cI s)(x:bn)(hy:¬ (s.unknown x=true∧x.aL∉s.here∧s.fD x.aL=false)):fF Tryz.prog 131 fP [.ptr 1000000 [],enc x] (aO s) (kC s):=by
 refine fF.mk Tryz.func131 BW Cg (t7 rfl) (t7 rfl) dH (fun hwf W0 bH E1 =>?_);simp only[wz,bM,zz4];clear hwf;have n3:ak (aO s) 3=none:=eV (.inl (by omega)) fun i _=>by simp[bJ];omega
 have aR:ak (aO s) 1000000=some (.box (.agg [.int .i64 s.aD,.mref 1000001,.mref 1000002,.int .i64 s.all.length,.mref 1000003,.mref 1000004])):=fN;have J:ak (aO s) 1000001=some (.bD (s.here.map enc) (List.replicate s.here.length (.bool true))):=gu;have U:ak (aO s) 1000002=some (.bD (s.bK.map enc) (ed (bJ 1000000) s.aU)):=gC;have af:ak (aO s) 1000003=some (.bD (s.en.map enc) (s.bA.map enc)):=gD;have hfin:∀ ts,c8 (aw ts ((3,.box (enc x))::aO s)) 9 (.agg [.int .i64 s.aD,.mref 1000001,.mref 1000002,.int .i64 s.all.length,.mref 1000003,.mref 1000004])=some (gq s):=fun ts =>
  ib (ik (dQ _) hk.cJ fun n hn=>by have:=dH n hn;simp only[ak];rw[if_neg (by omega)]) 4
 have hlk:=gK fh x.aL s.here;rw[eP] at hlk;have hF:=sS s x;have hF2:=qN s x.aL;rcases q0:s.unknown x
 ·rw[q0] at hF;have R:=y6 @n3 (y6 @aR (y6 @J (y6 @af (y6 @hfin (y6 @hlk (y6 @bl (y6 @bj az)))))))
  repeat' ((first |(with_reducible refine .guard (fun hb =>?_) (fun hb =>?_) <;>try simp only[hb])|(refine ae.j6 (gs:=oy) 20 [] [] [0,1,2,3,4,5,6,7,8,9,10,11,12,13,14,15,16,17,18,19] (by decide +kernel) rfl (cZ.of (by simp[fG])) fun K hK =>?_;simp only[fm,oy,gQ,zy1,zw2,List.take_zero,zy7,zy8,R,simprocAttr])|refine ae.aB (by decide +kernel) rfl fun K hK =>?_|refine .flat _ (hF) rfl ?_|(refine .au [0,1,3] hK ?_;clear hK K)|(with_reducible refine .done (hK _ ?_);clear hK K)|refine ae.of rfl ?_|(with_reducible refine av.aA (fun h =>?_) (fun h =>?_) <;>try simp only[h])) <;>try simp only[aC,R,simprocAttr])
  all_goals clear R
  exact .call (iZ (iu hk))
 rw[q0] at hF;rcases q1:decide (x.aL∈s.here)
 ·have q2:s.fD x.aL=true:=by
   rcases q2:s.fD x.aL
   ·exact absurd ⟨q0,of_decide_eq_false q1,q2⟩ hy
   ·rfl
  rw[q2] at hF2;have R:=y6 @n3 (y6 @aR (y6 @J (y6 @af (y6 @hfin (y6 @hlk (y6 @q1 (y6 @bl (y6 @bj az))))))))
  repeat' ((first |(with_reducible refine .guard (fun hb =>?_) (fun hb =>?_) <;>try simp only[hb])|(refine ae.j6 (gs:=oy) 20 [] [] [0,1,2,3,4,5,6,7,8,9,10,11,12,13,14,15,16,17,18,19] (by decide +kernel) rfl (cZ.of (by simp[fG])) fun K hK =>?_;simp only[fm,oy,gQ,zy1,zw2,List.take_zero,zy7,zy8,R,simprocAttr])|refine ae.aB (by decide +kernel) rfl fun K hK =>?_|refine .flat _ (hF) rfl ?_|refine .flat _ (hF2) rfl ?_|(refine .au [0,1,3] hK ?_;clear hK K)|(with_reducible refine .done (hK _ ?_);clear hK K)|refine ae.of rfl ?_|(with_reducible refine av.aA (fun h =>?_) (fun h =>?_) <;>try simp only[h])) <;>try simp only[aC,R,simprocAttr])
  all_goals clear R
  exact .call (iZ (iu hk))
 ·have R:=y6 @n3 (y6 @aR (y6 @J (y6 @af (y6 @hfin (y6 @hlk (y6 @q1 (y6 @bl (y6 @bj az))))))))
  repeat' ((first |(with_reducible refine .guard (fun hb =>?_) (fun hb =>?_) <;>try simp only[hb])|(refine ae.j6 (gs:=oy) 20 [] [] [0,1,2,3,4,5,6,7,8,9,10,11,12,13,14,15,16,17,18,19] (by decide +kernel) rfl (cZ.of (by simp[fG])) fun K hK =>?_;simp only[fm,oy,gQ,zy1,zw2,List.take_zero,zy7,zy8,R,simprocAttr])|refine ae.aB (by decide +kernel) rfl fun K hK =>?_|refine .flat _ (hF) rfl ?_|(refine .au [0,1,3] hK ?_;clear hK K)|(with_reducible refine .done (hK _ ?_);clear hK K)|refine ae.of rfl ?_|(with_reducible refine av.aA (fun h =>?_) (fun h =>?_) <;>try simp only[h])) <;>try simp only[aC,R,simprocAttr])
  all_goals clear R
  exact .call (iZ (iu hk))
abbrev gU(k:Nat)(s:aI):List (Nat×aq):=eA 1000000 (gn 1000000 57 k) s
def uP(k:Nat)(s:aI):cL:=fun r os'=>r=.tuple []∧os'=gU k s
theorem hl{k m:Nat}(h:m≤k+1):gN 1000000 (gn 1000000 57 k) m:=gN.gn (by omega) h
theorem vj{s:aI}(hk:cI s){k:Nat}(h:s.all.length≤k):gU k s=aO s:=ad7 hk.cJ fun i hi=>mH (by omega)
def jx(s:aI)(x:bn):aI := { s with here:=s.here.erase x.aL,all:=s.all++[⟨x.no,x.other,x.aL,false⟩],aU:=s.aU++[s.all.length] }
theorem adJ{s:aI}(hk:cI s)(x:bn):cI (jx s x):=by
 refine ⟨fun i hi =>?_,?_,hk.ah.erase _⟩
 ·simp only[jx,zw0,zx1] at hi;simp only[jx,zz8,zw6];rcases hi with hi | hi
  ·have:=hk.cJ i hi;omega
  ·omega
 ·exact List.nodup_append.2 ⟨hk.jr,by simp,fun a ha c hc e=>by rw[zx1.1 hc] at e;have:=hk.cJ a ha;omega⟩
theorem abr{s:aI}(hk:cI s){no:Int}(hno:no=(s.all.length:Int)+1)(v:I)(hv:v.bX=true):fL (.i .i64) (.int .i64 no) v (s.bK.map enc) (ed (bJ 1000000) s.aU)=some ((s.bK++[no]).map enc,ed (bJ 1000000) s.aU++[v]):=by
 have hm:=yj fh no v hv s.bK (ed (bJ 1000000) s.aU);rw[eP] at hm;rw[hm];have hf:=rm (k:=no) (ks:=s.bK);have:no∉s.bK:=fun h=>by
  obtain ⟨i,hi,e⟩:=zy9.1 h;have:=hk.cJ i hi;omega
 rw[decide_eq_false this] at hf;cases hq:s.bK.findIdx? fun y=>decide (no=y) with
 |none=>rfl
 |some i=>rw[hq] at hf;cases hf
theorem Iw(s:aI)(hk:cI s)(hlen:s.all.length≤100000)(x:bn)(hy:x.aL∈s.here∧x.other≠s.aD∧x.no=(s.all.length:Int)+1):cY Tryz.prog 127 [.ptr 1000000 [],enc x] (aO s) (uP s.all.length (jx s x)):=by
 refine cY.b5 Tryz.func127 BS Cc Nh (t7 rfl) (t7 rfl) dH (fun hwf W0 bH E1 =>?_);simp only[c127,F9,bM,zz4];clear hwf;have n3:ak (aO s) 3=none:=eV (.inl (by omega)) fun i _=>by simp[bJ];omega
 have n57:ak (aO s) 57=none:=eV (.inl (by omega)) fun i _=>by simp[bJ];omega
 have aR:ak (aO s) 1000000=some (.box (.agg [.int .i64 s.aD,.mref 1000001,.mref 1000002,.int .i64 s.all.length,.mref 1000003,.mref 1000004])):=fN;have J:ak (aO s) 1000001=some (.bD (s.here.map enc) (List.replicate s.here.length (.bool true))):=gu;have U:ak (aO s) 1000002=some (.bD (s.bK.map enc) (ed (bJ 1000000) s.aU)):=gC;have hlk:=gK fh x.aL s.here;rw[eP] at hlk;have q1:decide (x.aL∈s.here)=true:=decide_eq_true hy.1;have q2:(x.other != s.aD)=true:=by simpa using hy.2.1
 have hw:IntKind.i64.wrap ((s.all.length:Int)+1)=(s.all.length:Int)+1:=iy _ (by omega) (by omega);have q3:(x.no==(s.all.length:Int)+1)=true:=by simpa using hy.2.2
 have hdl:=EZ hy.1;have hup:=abr hk hy.2.2 (.ptr 57 []) rfl;have hst:∀ A rest,c7 A none 1000000 [3] (.agg [.int .i64 s.aD,.mref 1000001,.mref 1000002,.int .i64 s.all.length,.mref 1000003,.mref 1000004]) (.int .i64 ((s.all.length:Int)+1)) rest (some (.int .i64 s.all.length)) =
   aE rest (A.aT 1000000 (.box (.agg [.int .i64 s.aD,.mref 1000001,.mref 1000002,.int .i64 ((s.all.length:Int)+1),.mref 1000003,.mref 1000004]))):=fun A rest=>dI rfl rfl rfl
 have hbld:(dS [.int .i64 0,.int .i64 0,.int .i64 0,.bool false] [(0,.int .i64 x.no),(1,.int .i64 x.other),(2,.int .i64 x.aL)]).map I.agg=some (enc (⟨x.no,x.other,x.aL,false⟩:dB)):=by simp[dS,I.bX,I.size];rfl
 have offT:∀ (a b:Int) v,du [.int .i64 a,.mref 1000001,.mref 1000002,.int .i64 (b+1),.mref 1000003,.mref 1000004] 2 2 v=some v:=fun a b v=>rfl;have R:=y6 @n3 (y6 @n57 (y6 @aR (y6 @J (y6 @U (y6 @hlk (y6 @q1 (y6 @q2 (y6 @hw (y6 @q3 (y6 @hdl (y6 @hup (y6 @hst (y6 @hbld (y6 @offT (y6 @bl (y6 @bj az))))))))))))))))
 repeat' ((first |(with_reducible refine .guard (fun hb =>?_) (fun hb =>?_) <;>try simp only[hb])|refine ae.aB (by decide +kernel) rfl fun K hK =>?_|refine .flat _ (lx) rfl ?_|(refine .au [0,1,3] hK ?_;clear hK K)|(with_reducible refine .done (hK _ ?_);clear hK K)|refine ae.of rfl ?_|(with_reducible refine av.aA (fun h =>?_) (fun h =>?_) <;>try simp only[h])) <;>try simp only[aC,R,simprocAttr])
 all_goals clear R
 rw[mR];have hg:=hl (k:=s.all.length) (m:=(jx s x).all.length) (by simp[jx]);refine mQ (fun n hn =>?_) (fun _ _ h=>mb hg (adJ hk x).cJ h) ⟨rfl,rfl⟩;have hl1:(jx s x).all.length=s.all.length+1:=by simp[jx]
 have hp:ed (gn 1000000 57 s.all.length) (s.aU++[s.all.length])=ed (bJ 1000000) s.aU++[.ptr 57 []]:=by
  simp only[ed,zy5,zz5,zx7]
  congr 1
  ·exact List.map_congr_left fun i hi=>by rw[mH (hk.cJ i hi)]
  ·simp[gn]
 have hnu:(jx s x).bK=s.bK++[x.no]:=by simp[aI.bK,jx,hy.2.2]
 rcases (dY hg).1 hn with hb | ⟨j,hj,rfl⟩
 ·have hc:n=1000000∨n=1000001∨n=1000002∨n=1000003∨n=1000004:=by omega
  rcases hc with rfl | rfl | rfl | rfl | rfl
  ·rw[fN];simp[ak,nV,jx]
  ·rw[show (1000001:Nat)=1000000+1 from rfl,gu];simp[ak,pV,jx]
  ·rw[show (1000002:Nat)=1000000+2 from rfl,gC];simp only[oW,hnu];simp only[jx,hp];simp[ak]
  ·rw[show (1000003:Nat)=1000000+3 from rfl,gD];have:=gD (B:=1000000) (ν:=bJ 1000000) (s:=s);simp only[ak,Nat.reduceAdd,Nat.reduceEqDiff,if_false];exact this
  ·rw[show (1000004:Nat)=1000000+4 from rfl,pd];have:=pd (B:=1000000) (ν:=bJ 1000000) (s:=s);simp only[ak,Nat.reduceAdd,Nat.reduceEqDiff,if_false];exact this
 ·rw[jS hg hj];by_cases e:j=s.all.length
  ·subst e;simp[ak,gn,jx]
  ·have hj2:j<s.all.length:=by omega
   rw[mH hj2];have:=jS (B:=1000000) (ν:=bJ 1000000) (s:=s) (dQ _) hj2;simp only[ak];rw[if_neg (by simp[bJ];omega),if_neg (by simp[bJ];omega),if_neg (by simp[bJ];omega),if_neg (by simp[bJ];omega),if_neg (by simp[bJ];omega),this];simp[jx,List.getElem_append_left hj2]
theorem Iy(s:aI)(hk:cI s)(hlen:s.all.length≤100000)(x:bn)(hy:¬ (x.aL∈s.here∧x.other≠s.aD∧x.no=(s.all.length:Int)+1)):fF Tryz.prog 127 fP [.ptr 1000000 [],enc x] (aO s) (kC s):=by
 refine fF.mk Tryz.func127 BS Cc (t7 rfl) (t7 rfl) dH (fun hwf W0 bH E1 =>?_);simp only[c127,bM,zz4];clear hwf;have n3:ak (aO s) 3=none:=eV (.inl (by omega)) fun i _=>by simp[bJ];omega
 have aR:ak (aO s) 1000000=some (.box (.agg [.int .i64 s.aD,.mref 1000001,.mref 1000002,.int .i64 s.all.length,.mref 1000003,.mref 1000004])):=fN;have J:ak (aO s) 1000001=some (.bD (s.here.map enc) (List.replicate s.here.length (.bool true))):=gu;have hlk:=gK fh x.aL s.here;rw[eP] at hlk;have hw:IntKind.i64.wrap ((s.all.length:Int)+1)=(s.all.length:Int)+1:=iy _ (by omega) (by omega);rcases q1:decide (x.aL∈s.here)
 ·have R:=y6 @n3 (y6 @aR (y6 @J (y6 @hlk (y6 @q1 (y6 @bl (y6 @bj az))))))
  repeat' ((first |(with_reducible refine .guard (fun hb =>?_) (fun hb =>?_) <;>try simp only[hb])|(refine ae.j6 (gs:=ox) 26 [] [] [0,1,2,3,4,5,6,7,8,9,10,11,12,13,14,15,16,17,18,19,20,21,22,23,24,25] (by decide +kernel) rfl (cZ.of (by simp[fG])) fun K hK =>?_;simp only[fm,ox,gQ,zy1,zw2,List.take_zero,zy7,zy8,R,simprocAttr])|refine ae.aB (by decide +kernel) rfl fun K hK =>?_|(refine .au [0,1,3] hK ?_;clear hK K)|(with_reducible refine .done (hK _ ?_);clear hK K)|refine ae.of rfl ?_|(with_reducible refine av.aA (fun h =>?_) (fun h =>?_) <;>try simp only[h])) <;>try simp only[aC,R,simprocAttr])
  all_goals clear R
  exact .call (iZ (iu hk))
 rcases q2:(x.other != s.aD)
 ·have R:=y6 @n3 (y6 @aR (y6 @J (y6 @hlk (y6 @q1 (y6 @q2 (y6 @bl (y6 @bj az)))))))
  repeat' ((first |(with_reducible refine .guard (fun hb =>?_) (fun hb =>?_) <;>try simp only[hb])|(refine ae.j6 (gs:=ox) 26 [] [] [0,1,2,3,4,5,6,7,8,9,10,11,12,13,14,15,16,17,18,19,20,21,22,23,24,25] (by decide +kernel) rfl (cZ.of (by simp[fG])) fun K hK =>?_;simp only[fm,ox,gQ,zy1,zw2,List.take_zero,zy7,zy8,R,simprocAttr])|refine ae.aB (by decide +kernel) rfl fun K hK =>?_|(refine .au [0,1,3] hK ?_;clear hK K)|(with_reducible refine .done (hK _ ?_);clear hK K)|refine ae.of rfl ?_|(with_reducible refine av.aA (fun h =>?_) (fun h =>?_) <;>try simp only[h])) <;>try simp only[aC,R,simprocAttr])
  all_goals clear R
  exact .call (iZ (iu hk))
 have q3:(x.no==(s.all.length:Int)+1)=false:=by
  rcases q3:(x.no==(s.all.length:Int)+1)
  ·rfl
  ·exact absurd ⟨of_decide_eq_true q1,by simpa using q2,by simpa using q3⟩ hy
 have R:=y6 @n3 (y6 @aR (y6 @J (y6 @hlk (y6 @q1 (y6 @q2 (y6 @hw (y6 @q3 (y6 @bl (y6 @bj az)))))))))
 repeat' ((first |(with_reducible refine .guard (fun hb =>?_) (fun hb =>?_) <;>try simp only[hb])|(refine ae.j6 (gs:=ox) 26 [] [] [0,1,2,3,4,5,6,7,8,9,10,11,12,13,14,15,16,17,18,19,20,21,22,23,24,25] (by decide +kernel) rfl (cZ.of (by simp[fG])) fun K hK =>?_;simp only[fm,ox,gQ,zy1,zw2,List.take_zero,zy7,zy8,R,simprocAttr])|refine ae.aB (by decide +kernel) rfl fun K hK =>?_|(refine .au [0,1,3] hK ?_;clear hK K)|(with_reducible refine .done (hK _ ?_);clear hK K)|refine ae.of rfl ?_|(with_reducible refine av.aA (fun h =>?_) (fun h =>?_) <;>try simp only[h])) <;>try simp only[aC,R,simprocAttr])
 all_goals clear R
 exact .call (iZ (iu hk))
def eB(s:aI)(x:bn):aI×Bool:=match gW s x with
 |some s'=>(s',true)
 |none=>(s,false)
def FJ(s:aI)(x:bn):cL:=fun r os'=>r=.bool (eB s x).2∧os'=gU s.all.length (eB s x).1
def jX(B:Nat):List I:=[.func 1000125 [.ptr B []],.func 1000126 [.ptr B []],.func 1000127 [.ptr B []],.func 1000128 [.ptr B []],.func 1000129 [.ptr B []],.func 1000130 [.ptr B []],.func 1000131 [.ptr B []],.func 1000132 [.ptr B []]]
def lv(s:aI)(x:bn)(f:FuncId):Prop:=match ff s x with
 |some s'=>cY Tryz.prog f [.ptr 1000000 [],enc x] (aO s) (uP s.all.length s')
 |none=>fF Tryz.prog f fP [.ptr 1000000 [],enc x] (aO s) (kC s)
theorem cY.post{P:Program}{f:FuncId}{args:List I}{os:List (Nat×aq)}{post post':cL}(h:cY P f args os post)(hp:∀ r os',post r os'→post' r os'):cY P f args os post' :=
 ⟨h.1,fun w D E vs ab hD ho hv=>(h.2 w D E vs ab hD ho hv).mono fun _ _ ⟨v,D',E',r,os',k1,k2,k⟩=>⟨v,D',E',r,os',k1,hp _ _ k2,k⟩⟩
theorem oO{s s':aI}{x:bn}(hk:cI s)(hn:ff s x=some s')(hx:x.kind≠3):∀ r os',nF s' r os'→uP s.all.length s' r os':=by
 rintro r os' ⟨rfl,rfl⟩;obtain ⟨J,_,_,ar⟩:=hk.next hn
 exact ⟨rfl,(vj J (Nat.le_of_eq (ar hx))).symm⟩
theorem yd{s:aI}(hk:cI s)(hlen:s.all.length≤100000){x:bn}(hx:fZ x=true) :
  ∃ f:Nat,fJ (.i .i64) .dK (.int .i64 x.kind) hs (jX 1000000)=some (.func (f+1000000) [.ptr 1000000 []],true)∧[125,126,127,128,129,130,131,132].contains f=true∧lv s x f:=by
 have ar:x.kind=1∨x.kind=2∨x.kind=3∨x.kind=4∨x.kind=5∨x.kind=6∨x.kind=7∨x.kind=8:=by
  simp only[fZ] at hx;split at hx
  ·omega
  ·split at hx
   ·omega
   ·cases hx
 have lk:∀ n:Int,x.kind=n→fJ (.i .i64) .dK (.int .i64 x.kind) hs (jX 1000000)=fJ (.i .i64) .dK (.int .i64 n) hs (jX 1000000):=fun n h=>by rw[h]
 rcases ar with h | h | h | h | h | h | h | h
 ·refine ⟨125,by rw[h];simp[fJ,eT,cj,hs,jX],rfl,?_⟩;simp only[lv,ff,h,if_true];split
  ·rename_i s' ab;split at ab
   ·cases ab
   ·rename_i bz;cases ab;have hy:x.aL∉s.here∧s.fD x.aL=false:=⟨fun h=>bz (.inl h),by rcases q:s.fD x.aL;rfl;exact absurd (.inr q) bz⟩
    exact cY.post (Is s hk x hy) (oO (x:=x) hk (by simp[ff,h,hy.1,hy.2]) (by omega))
  ·rename_i ab;split at ab
   ·rename_i bz;exact It s hk x bz
   ·cases ab
 ·refine ⟨126,by rw[h];simp[fJ,eT,cj,hs,jX],rfl,?_⟩;simp only[lv,ff,h,Int.reduceEq,if_false,if_true];split
  ·rename_i s' ab;split at ab
   ·rename_i bz;cases ab;exact cY.post (Iu s hk x bz) (oO (x:=x) hk (by simp[ff,h,bz]) (by omega))
   ·cases ab
  ·rename_i ab;split at ab
   ·cases ab
   ·rename_i bz;exact Iv s hk x bz
 ·refine ⟨127,by rw[h];simp[fJ,eT,cj,hs,jX],rfl,?_⟩;simp only[lv,ff,h,Int.reduceEq,if_false,if_true];split
  ·rename_i s' ab;split at ab
   ·rename_i bz;cases ab;exact Iw s hk hlen x bz
   ·cases ab
  ·rename_i ab;split at ab
   ·cases ab
   ·rename_i bz;exact Iy s hk hlen x bz
 ·refine ⟨128,by rw[h];simp[fJ,eT,cj,hs,jX],rfl,?_⟩;simp only[lv,ff,h,Int.reduceEq,if_false,if_true];cases ho:s.on x with
  |none=>exact zY s hk x fun i hi=>by rw[ho] at hi;cases hi
  |some i =>
   cases hc:(s.cw i).dM with
   |true =>
    simp only[hc,if_true];exact zY s hk x fun j hj=>by rw[ho] at hj;cases hj;exact hc
   |false =>
    simp only[hc,zz2,if_false];exact cY.post (Iz s hk x i ho hc) (oO (x:=x) hk (by simp[ff,h,ho,hc]) (by omega))
 ·refine ⟨129,by rw[h];simp[fJ,eT,cj,hs,jX],rfl,?_⟩;simp only[lv,ff,h,Int.reduceEq,if_false,if_true];cases ho:s.on x with
  |none=>exact IB s hk x ho
  |some i=>exact cY.post (IA s hk x i ho) (oO (x:=x) hk (by simp[ff,h,ho]) (by omega))
 ·refine ⟨130,by rw[h];simp[fJ,eT,cj,hs,jX],rfl,?_⟩;simp only[lv,ff,h,Int.reduceEq,if_false,if_true];cases ho:s.on x with
  |none=>exact zZ s hk x fun i hi=>by rw[ho] at hi;cases hi
  |some i =>
   cases hc:(s.cw i).dM with
   |false =>
    simp only[hc,zz2,if_false];exact zZ s hk x fun j hj=>by rw[ho] at hj;cases hj;exact hc
   |true =>
    simp only[hc,if_true];exact cY.post (IC s hk x i ho hc) (oO (x:=x) hk (by simp[ff,h,ho,hc]) (by omega))
 ·refine ⟨131,by rw[h];simp[fJ,eT,cj,hs,jX],rfl,?_⟩;simp only[lv,ff,h,Int.reduceEq,if_false,if_true];split
  ·rename_i s' ab;split at ab
   ·rename_i bz;cases ab;exact cY.post (ID s hk x bz) (oO (x:=x) hk (by simp[ff,h,bz.1,bz.2.1,bz.2.2]) (by omega))
   ·cases ab
  ·rename_i ab;split at ab
   ·cases ab
   ·rename_i bz;exact IE s hk x bz
 ·refine ⟨132,by rw[h];simp[fJ,eT,cj,hs,jX],rfl,?_⟩;simp only[lv,ff,h,Int.reduceEq,if_false,if_true];cases hu:s.unknown x with
  |true =>
   simp only[if_true];exact cY.post (IF s hk x hu) (oO (x:=x) hk (by simp[ff,h,hu]) (by omega))
  |false =>
   simp only[zz2,if_false];exact IG s hk x hu
def dW(x:bn)(b:Bool)(l:List (Nat×aq)):List (Nat×aq):=(1900004,.box (.bool b))::(1900003,.box (enc x))::l
def mJ(s:aI)(x:bn):cL:=fun r os'=>r=.bool (eB s x).2∧os'=dW x (eB s x).2 (gU s.all.length (eB s x).1)
def l4:List (Nat×Nat):=[(1900003,3),(1900004,4)]
theorem sC{s:aI}(hk:cI s)(x:bn):cI (eB s x).1∧(eB s x).1.aD=s.aD∧s.all.length≤(eB s x).1.all.length∧(eB s x).1.all.length≤s.all.length+1:=by
 simp only[eB];cases h:gW s x with
 |none=>exact ⟨hk,rfl,zz3 _,by simp⟩
 |some s' =>
  simp only[gW] at h;split at h
  ·obtain ⟨J,U,af,ar⟩:=hk.next h
   refine ⟨J,U,?_,af⟩;by_cases hk3:x.kind=3
   ·simp only[ff,hk3,Int.reduceEq,if_false,if_true] at h;split at h <;>cases h
    simp
   ·exact Nat.le_of_eq (ar hk3).symm
  ·cases h
theorem vi{s:aI}{k:Nat}(h:s.all.length≤k+1){n:Nat}(hn:ay (gU k s) n=true):n=57∨(1000000≤n∧n<1000006+k):=by
 rcases (dY (hl h)).1 hn with U | ⟨i,hi,rfl⟩
 ·omega
 ·simp only[gn];split <;>omega
theorem l9{s:aI}{n:Nat}(hn:ay (aO s) n=true):1000000≤n∧n<1000005+s.all.length:=by
 rcases (dY (dQ _)).1 hn with U | ⟨i,hi,rfl⟩
 ·omega
 ·simp only[bJ];omega
theorem j4{x:bn}{b:Bool}{l:List (Nat×aq)}{n:Nat} : ay (dW x b l) n=true↔n=1900004∨n=1900003∨ay l n=true:=by
 simp only[ay,dW,ak];by_cases J:n=1900004
 ·simp[J]
 by_cases U:n=1900003
 ·simp[U]
 simp[J,U]
theorem r5{x:bn}{b:Bool}{l:List (Nat×aq)}(ao:∀ m y,ak l m=some y→y.only (ay l)=true∧y.eG=true){n:Nat}{y:aq}(h:ak (dW x b l) n=some y):y.only (ay (dW x b l))=true∧y.eG=true:=by
 simp only[dW,ak] at h;split at h
 ·cases h;exact ⟨rfl,rfl⟩
 split at h
 ·cases h;exact ⟨b7 _ _,rfl⟩
 obtain ⟨J,U⟩:=ao n y h;refine ⟨aq.iI (fun m hm=>j4.2 (.inr (.inr hm))) y J,U⟩
theorem za(ρ:List (Nat×Nat))(k:Nat)(v:aq)(os:List (Nat×aq)):dN ρ ((k,v)::os)=(bP ρ k,v.bu (bP ρ))::dN ρ os:=rfl
theorem Hf{ρ:List (Nat×Nat)}{ν ν':Nat→Nat} : ∀ (l:List dB) (i:Nat),(∀ k,k<i+l.length→bP ρ (ν k)=ν' k)→dN ρ (jW ν i l)=jW ν' i l
 | [],_,_=>rfl
 |r::l,i,h=>by
  simp only[zx8] at h;simp only[jW,za,h i (by omega),aq.bu,lM,Hf l (i+1) fun k hk=>h k (by omega)]
theorem Hi{ρ:Nat→Nat}{ν ν':Nat→Nat} : ∀ l:List Nat,(∀ i∈l,ρ (ν i)=ν' i)→I.ee ρ (ed ν l)=ed ν' l
 | [],_=>rfl
 |i::l,h=>by
  have ih:=Hi (ρ:=ρ) l fun j hj=>h j (by simp[hj]);simp only[ed] at ih;simp only[ed,zz5,I.ee,I.bu,h i (by simp),ih]
theorem Hh{ρ:List (Nat×Nat)}{B B':Nat}{ν ν':Nat→Nat}{s:aI}(ao:∀ i∈s.aU,i<s.all.length)(aR:∀ j,j<5→bP ρ (B+j)=B'+j)(h:∀ k,k<s.all.length→bP ρ (ν k)=ν' k):dN ρ (eA B ν s)=eA B' ν' s:=by
 have hB:bP ρ B=B':=aR 0 (by omega);have J:=aR 1 (by omega);have U:=aR 2 (by omega);have af:=aR 3 (by omega);have ar:=aR 4 (by omega);have hp:=Hi (ρ:=bP ρ) s.aU fun i hi=>h i (ao i hi);have hr:I.ee (bP ρ) (List.replicate s.here.length (.bool true))=List.replicate s.here.length (.bool true):=nL _ _ (re _);simp only[eA,za,hB,J,U,af,ar,Hf s.all 0 (by simpa using h),nV,pV,oW,rL,pB,hs,aq.bu,I.bu,I.ee,u3,hp,hr]
theorem EP{ρ:List (Nat×Nat)}{os:List (Nat×aq)}{m:Nat}{y:aq}(inj:∀ m',ay os m'=true→bP ρ m'=bP ρ m→m'=m)(h:ak os m=some y):ak (dN ρ os) (bP ρ m)=some (y.bu (bP ρ)):=by
 have J:=rS ρ os [] (bP ρ m);rw[zw4] at J;rw[J];cases hp:pre ρ os (bP ρ m) with
 |none=>exact absurd rfl (yQ hp (by simp[ay,h]))
 |some m' =>
  obtain ⟨k1,k2⟩:=lY hp;have:=inj m' k1 k2;subst this;simp only[h,zz9]
theorem mT(m:Nat):bP l4 m=if m=1900003 then 3 else if m=1900004 then 4 else m:=rfl
theorem He{s:aI}(hk:cI s){k:Nat}(h:s.all.length≤k+1)(hlen:k≤100000):dN l4 (gU k s)=gU k s :=
 Hh hk.cJ (fun j hj=>by rw[mT,if_neg (by omega),if_neg (by omega)]) fun i hi=>by
  have:gn 1000000 57 k i=57∨(1000000≤gn 1000000 57 k i∧gn 1000000 57 k i<1000006+k):=by simp only[gn];split <;>omega
  rw[mT,if_neg (by omega),if_neg (by omega)]
theorem adh{s:aI}(hk:cI s)(hlen:s.all.length≤100000):dN l4 (aO s)=aO s:=by
 rw[←vj hk (zz3 _)];exact He hk (by omega) hlen
def ze:bx:=.seq (.cg none Dz) (.seq (.cg OU rz) (.seq (.cg none Yt) .ret))
theorem O2:Tryz.f81.body.bind (wU Tryz.prog Tryz.f81.ntmps)=some (.cg none Dy,113,4,5,ze):=by kernel_rfl
def qo(s:aI)(x:bn):List (Nat×aq):=(4,.box (.bool false))::(3,.box (enc x))::aO s
theorem aam{s:aI}(hk:cI s)(hlen:s.all.length≤100000)(x:bn):gG l4 (dW x false (aO s)) (qo s x):=by
 refine ⟨fun m y hy=>⟨?_,r5 (fun _ _ h=>jc hk h) hy⟩,fun m m' hm hm' e =>?_⟩
 ·simp only[dW,ak] at hy;split at hy
  ·rename_i h;subst h;cases hy;rfl
  split at hy
  ·rename_i h;subst h;cases hy;simp only[aq.bu,lM];rfl
  ·have hm:=l9 (s:=s) (n:=m) (by simp[ay,hy]);have e:bP l4 m=m:=by rw[mT,if_neg (by omega),if_neg (by omega)]
   have:=EP (ρ:=l4) (os:=aO s) (m:=m) (fun m' hm' he=>by
    have:=l9 hm';rw[e,mT,if_neg (by omega),if_neg (by omega)] at he;exact he) hy
   rw[adh hk hlen] at this;rw[e] at this ⊢;simp only[qo,ak];rw[if_neg (by omega),if_neg (by omega)];exact this
 ·have key:∀ m,ay (dW x false (aO s)) m=true→m=1900004∨m=1900003∨(1000000≤m∧m<1900000):=fun m hm=>by
   rcases j4.1 hm with h | h | h
   ·exact .inl h
   ·exact .inr (.inl h)
   ·have:=l9 h;exact .inr (.inr (by omega))
  have k1:=key m hm;have k2:=key m' hm';rw[mT,mT] at e
  (repeat' split at e) <;>omega
theorem J7{s:aI}(hk:cI s)(hlen:s.all.length≤100000)(x:bn):∀ r os',mJ s x r os'→gX false l4 (dW x false (aO s)) (qo s x) r os':=by
 rintro r os' ⟨rfl,rfl⟩;obtain ⟨J,U,af,ar⟩:=sC hk x;have hon:∀ m y,ak (gU s.all.length (eB s x).1) m=some y→y.only (ay (gU s.all.length (eB s x).1))=true∧y.eG=true:=fun m y h=>mb (hl ar) J.cJ h;have key:∀ m,ay (dW x (eB s x).2 (gU s.all.length (eB s x).1)) m=true→m=1900004∨m=1900003∨m=57∨(1000000≤m∧m<1900000):=fun m hm=>by
  rcases j4.1 hm with h | h | h
  ·exact .inl h
  ·exact .inr (.inl h)
  ·have:=vi ar h;omega
 refine ⟨fun m y hy=>⟨(r5 hon hy).1,(r5 hon hy).2,fun h=>by cases h⟩,fun m m' hm hm' e =>?_,fun m hm =>?_,fun m hm hno =>?_,rfl,fun h=>by cases h⟩
 ·have k1:=key m hm;have k2:=key m' hm';rw[mT,mT] at e
  (repeat' split at e) <;>omega
 ·rcases j4.1 hm with h | h | h
  ·exact j4.2 (.inl h)
  ·exact j4.2 (.inr (.inl h))
  ·refine j4.2 (.inr (.inr ?_));rcases (dY (dQ _)).1 h with h5 | ⟨i,hi,rfl⟩
   ·exact (dY (hl ar)).2 (.inl h5)
   ·exact (dY (hl ar)).2 (.inr ⟨i,by omega,(mH hi).symm⟩)
 ·have hno2:¬ (m=1900004∨m=1900003∨ay (aO s) m=true):=fun h=>by
   rw[j4.2 h] at hno;cases hno
  rcases j4.1 hm with h | h | h
  ·exact absurd (.inl h) hno2
  ·exact absurd (.inr (.inl h)) hno2
  ·have h57:m=57:=by
    rcases (dY (hl ar)).1 h with h5 | ⟨i,hi,e⟩
    ·exact absurd (.inr (.inr ((dY (dQ _)).2 (.inl h5)))) hno2
    ·by_cases hi2:i=s.all.length
     ·subst hi2;simpa[gn] using e
     ·exact absurd (.inr (.inr ((dY (dQ _)).2 (.inr ⟨i,by omega,by rw[e,mH (by omega)]⟩)))) hno2
   subst h57;refine ⟨?_,by decide⟩
   show ak (qo s x) 57=none
   simp only[qo,ak,Nat.reduceEqDiff,if_false];exact eV (.inl (by omega)) fun i _=>by simp[bJ];omega
theorem J6{s:aI}(hk:cI s)(hlen:s.all.length≤100000)(x:bn):∀ r os',mJ s x r os'→∃ osF,r.flat=true∧r.bu (bP l4)=r∧(∀ m z,ak osF m=some z→ak (dN l4 os'++qo s x) m=some z∧z.only (ay osF)=true∧z.eG=true)∧FJ s x r osF:=by
 rintro r os' ⟨rfl,rfl⟩;obtain ⟨J,U,af,ar⟩:=sC hk x;refine ⟨gU s.all.length (eB s x).1,rfl,rfl,fun m z hz=>⟨?_,mb (hl ar) J.cJ hz⟩,rfl,rfl⟩;have hm:=vi ar (n:=m) (by simp[ay,hz]);simp only[dW,za,He J ar hlen,zy1,ak,mT];rw[if_neg (by simp only[Nat.reduceEqDiff,if_false,if_true];omega),if_neg (by simp only[if_true];omega),fY,hz]
theorem aba(f:Nat):(f+1000000<1000000)=False:=by simp
theorem D6{s:aI}(hk:cI s)(hlen:s.all.length≤100000)(x:bn)(b:Bool):gG [] (aO s) (dW x b (aO s)):=by
 refine ⟨fun m y hy=>⟨?_,jc hk hy⟩,fun m m' _ _ h=>h⟩;have hm:=l9 (s:=s) (n:=m) (by simp[ay,hy]);rw[aq.kZ (ρ:=bP []) (fun n=>rfl)]
 show ak (dW x b (aO s)) m=some y
 simp only[dW,ak];rw[if_neg (by omega),if_neg (by omega)];exact hy
theorem adZ{s s':aI}(hk':cI s')(af:s.all.length≤s'.all.length)(ar:s'.all.length≤s.all.length+1)(x:bn):gX false [] (aO s) (dW x false (aO s)) (.tuple []) (gU s.all.length s'):=by
 refine ⟨fun m y hy=>⟨(mb (hl ar) hk'.cJ hy).1,(mb (hl ar) hk'.cJ hy).2,fun h=>by cases h⟩,fun m m' _ _ h=>h,fun m hm =>?_,fun m hm hno =>?_,rfl,fun h=>by cases h⟩
 ·rcases (dY (dQ _)).1 hm with h5 | ⟨i,hi,rfl⟩
  ·exact (dY (hl ar)).2 (.inl h5)
  ·exact (dY (hl ar)).2 (.inr ⟨i,by omega,(mH hi).symm⟩)
 ·have h57:m=57:=by
   rcases (dY (hl ar)).1 hm with h5 | ⟨i,hi,e⟩
   ·rw[(dY (dQ _)).2 (.inl h5)] at hno;cases hno
   ·by_cases hi2:i=s.all.length
    ·subst hi2;simpa[gn] using e
    ·rw[(dY (dQ _)).2 (.inr ⟨i,by omega,by rw[e,mH (by omega)]⟩)] at hno;cases hno
  subst h57;refine ⟨?_,by decide⟩
  show ak (dW x false (aO s)) 57=none
  simp only[dW,ak,Nat.reduceEqDiff,if_false];exact eV (.inl (by omega)) fun i _=>by simp[bJ];omega
theorem bT.yd{ab:List FuncId}{K:ai→Prop}{f:FuncId}{s s':aI}{x:bn}{avs:List I}{a1 a2:Option (List I)}{dst:Option Nat}{rest:List aJ}{ts:List (Nat×I)}(hk:cI s)(hlen:s.all.length≤100000)(hk':cI s')(af:s.all.length≤s'.all.length)(ar:s'.all.length≤s.all.length+1)
  (hf:ab.contains f=true) (hc:cY Tryz.prog f [.ptr 1000000 [],enc x] (aO s) (uP s.all.length s')) (hav:avs=[.ptr 1000000 [],enc x])
  (h:bT Tryz.prog dA ab K (aE rest ((aw ts (gU s.all.length s'++dW x false (aO s))).aW dst (.tuple [])))):bT Tryz.prog dA ab K (.call f avs a1 a2 dst rest (aw ts (dW x false (aO s)))):=by
 subst hav;refine .yB false [] (aO s) [.ptr 1000000 [],enc x] _ hf hc (D6 hk hlen x false) tg ?_ ?_
 ·rintro r os' ⟨rfl,rfl⟩;exact adZ hk' af ar x
 ·rintro r os' ⟨rfl,rfl⟩;rw[mN];exact h
theorem acC{Q:Exit→ai→Prop}{f:FuncId}{s:aI}{x:bn}(hk:cI s)(hlen:s.all.length≤100000)(hc:fF Tryz.prog f fP [.ptr 1000000 [],enc x] (aO s) (kC s)){ts:List (Nat×I)}(hq:Q (.panic fP) (aw ts (aO s++dW x false (aO s)))):n0 Tryz.prog Q f [.ptr 1000000 [],enc x] (aw ts (dW x false (aO s))) :=
 .mk false [] (aO s) [.ptr 1000000 [],enc x] fP _ hc (D6 hk hlen x false) tg (fun os' h=>by cases h;exact wi hk rfl) (fun os' h=>by cases h;rw[mN];exact hq)
theorem J5{ts:List (Nat×I)}{s:aI}{x:bn}(hlen:s.all.length≤100000):aw ts (aO s++dW x false (aO s))=aw ts (dW x false (aO s)):=by
 simp only[aw,ai.mk.injEq,true_and]
 funext n
 rw[fY];cases h:ak (aO s) n with
 |none=>rfl
 |some y =>
  have:=l9 (s:=s) (n:=n) (by simp[ay,h]);simp only[dW,ak];rw[if_neg (by omega),if_neg (by omega),h]
theorem Ha{s:aI}{x:bn}(hk:cI s)(hlen:s.all.length≤100000)(hn:eB s x=(s,false)){ts:List (Nat×I)}(ht:Abs.b9 ts 4=.ptr 1900004 []):sf [.cell 4 none] (mJ s x) fP 1900004 (.panic fP) (aw ts (dW x false (aO s))):=by
 refine ⟨rfl,⟨false,rfl⟩,dW x false (aO s),[.bool false],fun m z hz=>⟨?_,r5 (fun _ _ h=>jc hk h) hz⟩,⟨⟨.bool false,?_,.inl ⟨rfl,rfl,rfl⟩⟩,trivial⟩,?_⟩
 ·show ak ((1900004,.box (.bool false))::dW x false (aO s)) m=some z
  simp only[ak];split
  ·rename_i h;subst h;exact hz
  ·exact hz
 ·show (match cM _ (Abs.b9 ts 4) with | some x=>if ca none x=true then some x else none | none=>none)=some (I.bool false)
  rw[ht];rfl
 ·show mJ s x (.bool false) (dW x false (aO s))
  simp only[mJ];rw[hn];exact ⟨rfl,congrArg _ (vj hk (zz3 _)).symm⟩
theorem ado{s:aI}(hk:cI s)(hlen:s.all.length≤100000)(x:bn)(W:World)(D:aS)(E:bf)(n:Nat)(d:Deferred) :
  ae ⟨Tryz.prog,W,D,n,cN E,E,dA,none,some [d]⟩ ze (sf [.cell 4 none] (mJ s x) fP 1900004) (aw [(0,.ptr 1000000 []),(3,.ptr 1900003 []),(4,.ptr 1900004 [])] (dW x false (aO s))):=by
 have aR:ak (dW x false (aO s)) 1000000=some (.box (.agg [.int .i64 s.aD,.mref 1000001,.mref 1000002,.int .i64 s.all.length,.mref 1000003,.mref 1000004])):=by
  simp only[dW,ak,Nat.reduceEqDiff,if_false];exact fN
 have ar:ak (dW x false (aO s)) 1000004=some (.bD hs (jX 1000000)):=by
  simp only[dW,ak,Nat.reduceEqDiff,if_false];exact pd
 have hb3:ak (dW x false (aO s)) 1900003=some (.box (enc x)):=rfl;have hb4:ak (dW x false (aO s)) 1900004=some (.box (.bool false)):=rfl;have hF:=I2 x;simp only[ze];rcases hx:fZ x
 ·rw[hx] at hF;have hn:eB s x=(s,false):=by simp[eB,gW,hx]
  have R:=y6 @aR (y6 @ar (y6 @hb3 (y6 @hb4 (y6 @bl (y6 @bj az)))))
  repeat' ((first |(with_reducible refine .guard (fun hb =>?_) (fun hb =>?_) <;>try simp only[hb])|(refine ae.oR (gs:=Dz) (gs1:=[_,_]) rfl fun K hK =>?_)|refine ae.aB (by decide +kernel) rfl fun K hK =>?_|refine .flat _ (hF) rfl ?_|(refine .au [0,1,3,4] hK ?_;clear hK K)|(with_reducible refine .done (hK _ ?_);clear hK K)|refine ae.of rfl ?_|(with_reducible refine av.aA (fun h =>?_) (fun h =>?_) <;>try simp only[h])) <;>try simp only[aC,R,simprocAttr])
  all_goals clear R
  exact .call (iZ (Ha hk hlen hn rfl))
 rw[hx] at hF;obtain ⟨f,hlk,hfc,hdo⟩:=yd hk hlen hx;have hfl:=tK f;have hlm:=aba f;have hkd:(enc x:I).ea=some [.int .i64 x.kind,.int .i64 x.aL,.int .i64 x.other,.int .i64 x.no]:=rfl;simp only[lv] at hdo;cases hn:ff s x with
 |none =>
  rw[hn] at hdo;have hn2:eB s x=(s,false):=by simp[eB,gW,hx,hn]
  have R:=y6 @aR (y6 @ar (y6 @hb3 (y6 @hb4 (y6 @hlk (y6 @hfl (y6 @hlm (y6 @bl (y6 @bj az))))))))
  repeat' ((first |(with_reducible refine .guard (fun hb =>?_) (fun hb =>?_) <;>try simp only[hb])|(refine ae.j6 (gs:=rz) 8 [] [] [0,1,2,3,4,5,6,7] (by decide +kernel) rfl (cZ.of (by simp[fG])) fun K hK =>?_;simp only[fm,rz,gQ,zy1,zw2,List.take_zero,zy7,zy8,R,simprocAttr])|refine ae.aB (by decide +kernel) rfl fun K hK =>?_|refine .flat _ (hF) rfl ?_|refine .flat _ (lx) rfl ?_|(refine .au [0,1,3,4] hK ?_;clear hK K)|(with_reducible refine .done (hK _ ?_);clear hK K)|refine ae.of rfl ?_|(with_reducible refine av.aA (fun h =>?_) (fun h =>?_) <;>try simp only[h])) <;>try simp only[aC,R,simprocAttr])
  all_goals clear R
  refine .gi (f:=f+1000000) (caps:=[.ptr 1000000 []]) rfl ?_;rw[tK,xh];exact acC hk hlen hdo (by rw[J5 hlen];exact Ha hk hlen hn2 rfl)
 |some s' =>
  rw[hn] at hdo;have hn2:eB s x=(s',true):=by simp[eB,gW,hx,hn]
  have hso:=sC hk x;rw[hn2] at hso;simp only at hso;obtain ⟨k1,k2,k3,k4⟩:=hso;have e4:∀ n,n=1900004∨n=1900003→ak (gU s.all.length s') n=none:=fun n hn=>by
   rcases hn with rfl | rfl <;>exact eV (.inr (by omega)) fun i hi=>by simp only[gn];split <;>omega
  have hb4':ak (gU s.all.length s'++dW x false (aO s)) 1900004=some (.box (.bool false)):=by
   rw[fY,e4 _ (.inl rfl)];exact hb4
  have hst:∀ A rest,c7 A none 1900004 [] (.bool false) (.bool true) rest (some (.bool false))=aE rest (A.aT 1900004 (.box (.bool true))):=fun A rest=>dI rfl rfl rfl;have R:=y6 @aR (y6 @ar (y6 @hb3 (y6 @hb4 (y6 @hb4' (y6 @hst (y6 @hlk (y6 @hfl (y6 @hlm (y6 @bl (y6 @bj az))))))))))
  repeat' ((first |(with_reducible refine .guard (fun hb =>?_) (fun hb =>?_) <;>try simp only[hb])|(refine ae.qw (gs:=rz) [125,126,127,128,129,130,131,132] [] [0,1,2,3,4,5,6,7,8] (by decide +kernel) (cZ.of (by simp[fG])) fun K hK =>?_;simp only[fm,rz,zy7,zy8,R,simprocAttr])|refine ae.aB (by decide +kernel) rfl fun K hK =>?_|refine .flat _ (hF) rfl ?_|refine .flat _ (lx) rfl ?_|refine bT.yd hk hlen k1 k3 k4 hfc hdo rfl ?_|(refine .au [0,1,3,4] hK ?_;clear hK K)|(with_reducible refine .done (hK _ ?_);clear hK K)|refine ae.of rfl ?_|(with_reducible refine av.aA (fun h =>?_) (fun h =>?_) <;>try simp only[h])) <;>try simp only[aC,R,simprocAttr])
  all_goals clear R
  refine ⟨⟨true,rfl⟩,dW x true (gU s.all.length s'),[.bool true],fun m z hz=>⟨?_,r5 (fun _ _ h=>mb (hl k4) k1.cJ h) hz⟩,⟨⟨.bool true,rfl,.inl ⟨rfl,rfl,rfl⟩⟩,trivial⟩,?_⟩
  ·show ak ((1900004,.box (.bool true))::(gU s.all.length s'++dW x false (aO s))) m=some z
   simp only[dW,ak] at hz ⊢;split
   ·rename_i h;rw[if_pos h] at hz;exact hz
   rename_i h;rw[if_neg h] at hz;rw[fY];split at hz
   ·rename_i U;rw[U,e4 _ (.inr rfl),←U];simp only[ak,if_neg h];exact hz
   ·rw[hz]
  ·show mJ s x (.bool true) (dW x true (gU s.all.length s'))
   simp only[mJ];rw[hn2];exact ⟨rfl,rfl⟩
theorem Jh(s:aI)(hk:cI s)(hlen:s.all.length≤100000)(x:bn):cY Tryz.prog 81 [.ptr 1000000 [],enc x] (aO s) (FJ s x):=by
 refine cY.aci Tryz.func81 Lt O2 NZ (t7 rfl) (t7 rfl) dH ac8 ac7 (by decide) fun hwf W0 bH E1 =>?_;simp only[bM,zz4];clear hwf;have n3:ak (aO s) 3=none:=eV (.inl (by omega)) fun i _=>by simp[bJ];omega
 have n4:ak (aO s) 4=none:=eV (.inl (by omega)) fun i _=>by simp[bJ];omega
 refine .j5 (by decide +kernel) fun K hK =>?_
 try simp only[Dy,n3,n4,az,bF,simprocAttr]
 refine .done (hK _ ?_);simp only[ej];refine ⟨_,_,l4,dW x false (aO s),[0,3,4],[.ptr 1000000 [],.ptr 1900003 [],.ptr 1900004 []],1900004,false,mJ s x,rfl,?_⟩;exact {
  fV:=rfl
  D5:=aam hk hlen x
  arg:=⟨.inl ⟨rfl,j4.2 (.inr (.inr ((dY (dQ _)).2 (.inl (by omega))))),rfl⟩,.inl ⟨rfl,j4.2 (.inr (.inl rfl)),rfl⟩,.inl ⟨rfl,j4.2 (.inl rfl),rfl⟩,trivial⟩
  AE:=J7 hk hlen x
  HO:=rfl
  box:=rfl
  mA:=fun m hm=>by
   have:1000000≤m:=by
    rcases j4.1 hm with h | h | h
    ·omega
    ·omega
    ·exact (l9 h).1
   exact ⟨zu0 (t7 rfl) this,this⟩
  rest:=fun W D E d=>ado hk hlen x W D E _ d
  je:=J6 hk hlen x }
end Go.Proofs.YthbdbocionnfgaaGreatDoor
namespace Go.Abs
open Go Go.RowKit
theorem bp.fn{ts ts':List (Nat×I)}{os os':List (Nat×aq)}(J:b6 ts ts')(U:∀ n,ak os' n=none∨ak os' n=ak os n)(af:cn (ay os') ts')(ar:∀ n x,ak os' n=some x→x.only (ay os')=true):bp (aw ts os) (aw ts' os'):=by
 rintro c a w ⟨D,E,ab⟩;have hp:∀ n,ay os' n=true→(if ay os' n then E n else none)=E n:=fun n hn=>by simp[hn]
 refine ⟨D,fun n=>if ay os' n then E n else none,ab.sz,ab.eS,fun t =>?_,ab.dZ,ab.dh,ab.aU,fun n =>?_,fun n m e e' b J U af ar =>?_,fun n e hn =>?_,ab.fe,ab.cX,ab.fp,ab.fO⟩
 ·have:=vr J t;rcases this with h | h
  ·simp only[aw];rw[h];simp[a8]
  ·refine a8.dq (p:=ay os') hp (yI af t) ?_;have:=ab.eb t;simp only[aw] at *;rw[h];exact this
 ·have ho:=ab.bU n;simp only[aw] at *;rcases U n with h | h
  ·rw[h];simp[dc,ay,h]
  ·rw[h];by_cases hin:ak os n=none
   ·rw[hin];simp[dc,ay,h,hin]
   ·have aF:(if ay os' n then E n else none)=E n:=hp n (by simp[ay,h];cases bz:ak os n <;>simp_all);cases hx:ak os n with
    |none=>exact absurd hx hin
    |some x =>
     have hon:=ar n x (h.trans hx);rw[hx] at ho;cases x with
     |box x =>
      obtain ⟨b,cs,T,k1,k2,k3,k4,k5⟩:=ho;exact ⟨b,cs,T,aF.trans k1,k2,k3,al.dq hp _ _ (by simpa[aq.only] using hon) k4,k5⟩
     |bV T sz es =>
      obtain ⟨aK,k1,k2,k3⟩:=ho;refine ⟨aK,aF.trans k1,k2,?_⟩;cases aK with
      |none=>exact k3
      |some bc =>
       obtain ⟨b,cap⟩:=bc;obtain ⟨cs,pre,rest,q1,q2,q3,q4,q5⟩:=k3;exact ⟨cs,pre,rest,q1,q2,q3,aN.dq hp _ _ (by simpa[aq.only] using hon) q4,q5⟩
     |dT T xs =>
      obtain ⟨aK,k1,k2,k3⟩:=ho;exact ⟨aK,aF.trans k1,k2,k3⟩
     |dR x =>
      obtain ⟨b,k1,k2⟩:=ho;exact ⟨b,aF.trans k1,k2⟩
     |bD ks vs =>
      obtain ⟨b,es,ck,k1,k2,k3,k4,k5,k6,k7⟩:=ho;simp only[aq.only,zz0] at hon;exact ⟨b,es,ck,aF.trans k1,k2,k3,k4,aH.dq hp _ _ hon.1 k5,aH.dq hp _ _ hon.2 k6,k7⟩
     |it ks vs left cur =>
      obtain ⟨r,b,es,ck,eZ,se,la,k1,k2,k3,k4,k5,k6,k7⟩:=ho;simp only[aq.only,zz0] at hon;exact ⟨r,b,es,ck,eZ,se,la,aF.trans k1,k2,k3,k4,aH.dq hp _ _ hon.1 k5,aH.dq hp _ _ hon.2 k6,k7⟩
 ·refine ab.cU n m e e' b ?_ ?_ af ar
  ·split at J
   ·exact J
   ·cases J
  ·split at U
   ·exact U
   ·cases U
 ·by_cases hi:ay os' n=true
  ·simp only[hi,if_true];exact ab.ec n e hn
  ·simp only[hi];exact .inl rfl
end Go.Abs
namespace Go.Proofs.YthbdbocionnfgaaGreatDoor
open Go Go.Abs
open Go.Abs.Enc (enc)
theorem Fb:(∀ v:I,v.bX=true→fL (.i .i64) (.int .i64 1) v [] []=some ([.int .i64 1],[v]))∧(∀ a1 v:I,v.bX=true→fL (.i .i64) (.int .i64 2) v [.int .i64 1] [a1]=some ([.int .i64 1,.int .i64 2],[a1,v]))∧(∀ a1 a2 v:I,v.bX=true→fL (.i .i64) (.int .i64 3) v [.int .i64 1,.int .i64 2] [a1,a2]=some ([.int .i64 1,.int .i64 2,.int .i64 3],[a1,a2,v]))∧(∀ a1 a2 a3 v:I,v.bX=true→fL (.i .i64) (.int .i64 4) v [.int .i64 1,.int .i64 2,.int .i64 3] [a1,a2,a3]=some ([.int .i64 1,.int .i64 2,.int .i64 3,.int .i64 4],[a1,a2,a3,v]))∧(∀ a1 a2 a3 a4 v:I,v.bX=true→fL (.i .i64) (.int .i64 5) v [.int .i64 1,.int .i64 2,.int .i64 3,.int .i64 4] [a1,a2,a3,a4]=some ([.int .i64 1,.int .i64 2,.int .i64 3,.int .i64 4,.int .i64 5],[a1,a2,a3,a4,v]))∧(∀ a1 a2 a3 a4 a5 v:I,v.bX=true→fL (.i .i64) (.int .i64 6) v [.int .i64 1,.int .i64 2,.int .i64 3,.int .i64 4,.int .i64 5] [a1,a2,a3,a4,a5]=some ([.int .i64 1,.int .i64 2,.int .i64 3,.int .i64 4,.int .i64 5,.int .i64 6],[a1,a2,a3,a4,a5,v]))∧(∀ a1 a2 a3 a4 a5 a6 v:I,v.bX=true→fL (.i .i64) (.int .i64 7) v [.int .i64 1,.int .i64 2,.int .i64 3,.int .i64 4,.int .i64 5,.int .i64 6] [a1,a2,a3,a4,a5,a6]=some ([.int .i64 1,.int .i64 2,.int .i64 3,.int .i64 4,.int .i64 5,.int .i64 6,.int .i64 7],[a1,a2,a3,a4,a5,a6,v]))∧(∀ a1 a2 a3 a4 a5 a6 a7 v:I,v.bX=true→fL (.i .i64) (.int .i64 8) v [.int .i64 1,.int .i64 2,.int .i64 3,.int .i64 4,.int .i64 5,.int .i64 6,.int .i64 7] [a1,a2,a3,a4,a5,a6,a7]=some ([.int .i64 1,.int .i64 2,.int .i64 3,.int .i64 4,.int .i64 5,.int .i64 6,.int .i64 7,.int .i64 8],[a1,a2,a3,a4,a5,a6,a7,v])) :=
 ⟨fun  v h=>by simp[fL,eT,cj,I.bX];try exact h,fun a1 v h=>by simp[fL,eT,cj,I.bX];try exact h,fun a1 a2 v h=>by simp[fL,eT,cj,I.bX];try exact h,fun a1 a2 a3 v h=>by simp[fL,eT,cj,I.bX];try exact h,fun a1 a2 a3 a4 v h=>by simp[fL,eT,cj,I.bX];try exact h,fun a1 a2 a3 a4 a5 v h=>by simp[fL,eT,cj,I.bX];try exact h,fun a1 a2 a3 a4 a5 a6 v h=>by simp[fL,eT,cj,I.bX];try exact h,fun a1 a2 a3 a4 a5 a6 a7 v h=>by simp[fL,eT,cj,I.bX];try exact h⟩
theorem bw:(∀ f c,(I.func f c).bX=true)∧(∀ n,(I.mref n).bX=true)∧(∀ n p,(I.ptr n p).bX=true):=⟨fun _ _=>rfl,fun _=>rfl,fun _ _=>rfl⟩
def oH(aD:Int):List (Nat×aq):=[(9,.box (.agg [.int .i64 aD,.mref 5,.mref 6,.int .i64 0,.mref 7,.mref 11])),(5,.bD [] []),(6,.bD [] []),(7,.bD [] []),(11,.bD hs (jX 9))]
def fk(aD:Int):aI:=⟨aD,[],[],[],[]⟩
def acM(aD:Int):cL:=fun r os'=>r=.ptr 9 []∧os'=oH aD
theorem Im(aD:Int):cY Tryz.prog 106 [enc aD] [] (acM aD):=by
 refine cY.b5 Tryz.func106 KL LU M5 (t7 rfl) (t7 rfl) (fun m hm=>by simp[ay,ak] at hm) (fun hwf W0 bH E1 =>?_);simp only[AX,FY,bM];clear hwf;have hbld:(dS [.int .i64 0,.raw (.map none),.raw (.map none),.int .i64 0,.raw (.map none),.raw (.map none)] [(0,.int .i64 aD),(1,.mref 5),(2,.mref 6),(4,.mref 7)]).map I.agg=some (.agg [.int .i64 aD,.mref 5,.mref 6,.int .i64 0,.mref 7,.raw (.map none)]):=by simp[dS,I.bX,I.size]
 have hst:∀ A rest,c7 A none 9 [5] (.agg [.int .i64 aD,.mref 5,.mref 6,.int .i64 0,.mref 7,.raw (.map none)]) (.mref 11) rest (some (.raw (.map none)))=aE rest (A.aT 9 (.box (.agg [.int .i64 aD,.mref 5,.mref 6,.int .i64 0,.mref 7,.mref 11]))):=fun A rest=>dI rfl rfl rfl;have hval:∀ a b c d e f:I,(I.agg [a,b,c,d,e,f]).bX=true:=fun _ _ _ _ _ _=>rfl;have hoff:∀ v,du [.int .i64 aD,.mref 5,.mref 6,.int .i64 0,.mref 7,.raw (.map none)] 5 5 v=some v:=fun _=>rfl;have hall:([I.ptr 9 []].all fun y=>y.bX)=true:=rfl;have R:=y6 @hall (y6 @hbld (y6 @hst (y6 @hval (y6 @hoff (y6 @Fb (y6 @bw (y6 @bl (y6 @bj az))))))))
 repeat' ((first |refine ae.aB (by decide +kernel) rfl fun K hK =>?_|(refine .au [0,2,3] hK ?_;clear hK K)|(with_reducible refine .done (hK _ ?_);clear hK K)|refine ae.of rfl ?_|(with_reducible refine av.aA (fun h =>?_) (fun h =>?_) <;>try simp only[h])) <;>try simp only[aC,R,simprocAttr])
 all_goals clear R
 refine ⟨oH aD,[.ptr 9 []],fun n x hx =>?_,⟨⟨_,rfl,.inl ⟨rfl,rfl,rfl⟩⟩,trivial⟩,rfl,rfl⟩;simp only[oH,ak] at hx
 (repeat' split at hx) <;>first
  |(cases hx;done)
  |(rename_i h;subst h;cases hx;exact ⟨rfl,rfl,rfl⟩)
abbrev dE(s:aI):List (Nat×aq):=eA 2000 (bJ 2000) s
def zf:List (Nat×Nat):=[(9,2000),(5,2001),(6,2002),(7,2003),(11,2004)]
theorem adj(aD:Int):dN zf (oH aD)=dE (fk aD):=rfl
theorem lU(aD:Int):cI (fk aD):=⟨fun i hi=>by simp[fk] at hi,by simp[fk],by simp[fk]⟩
theorem aV.fk{K:ai→Prop}{aD:Int}{avs:List I}{a1 a2:Option (List I)}{dst:Option Nat}{rest:List aJ}{ts:List (Nat×I)}{os0:List (Nat×aq)}(hav:avs=[enc aD])(hno:∀ m,2000≤m→m<1000000→ak os0 m=none)
  (h:aV Tryz.prog dA false K (aE rest ((aw ts (dE (Go.Proofs.YthbdbocionnfgaaGreatDoor.fk aD)++os0)).aW dst (.ptr 2000 [])))):aV Tryz.prog dA false K (.call 106 avs a1 a2 dst rest (aw ts os0)):=by
 subst hav;have key:∀ m,ay (oH aD) m=true→m=9∨m=5∨m=6∨m=7∨m=11:=fun m hm=>by
  simp only[ay,oH,ak] at hm
  (repeat' split at hm) <;>first | omega | (simp at hm;done)
 refine .bU false zf [] [enc aD] _ rfl (Im aD) ⟨fun m x hx=>by simp[ak] at hx,fun m m' hm=>by simp[ay,ak] at hm⟩ ⟨.inl ⟨(lM _ _).symm,b7 _ _,eF _⟩,trivial⟩ ?_ ?_
 ·rintro r os' ⟨rfl,rfl⟩;refine ⟨fun m y hy =>?_,fun m m' hm hm' e =>?_,fun m hm=>by simp[ay,ak] at hm,fun m hm _ =>?_,rfl,fun h=>by cases h⟩
  ·simp only[oH,ak] at hy
   (repeat' split at hy) <;>first
    |(cases hy;done)
    |(rename_i h;subst h;cases hy;exact ⟨rfl,rfl,fun h=>by cases h⟩)
  ·rcases key m hm with rfl | rfl | rfl | rfl | rfl <;>rcases key m' hm' with rfl | rfl | rfl | rfl | rfl <;>first | rfl | (simp[zf,bP] at e;done)
  ·rcases key m hm with rfl | rfl | rfl | rfl | rfl <;>exact ⟨hno _ (by decide) (by decide),by decide⟩
 ·rintro r os' ⟨rfl,rfl⟩;rw[adj];exact h
def qx(k:Nat):List (Nat×Nat):=(57,2005+k)::(List.range' 0 400).map fun j=>(1000000+j,2000+j)
theorem Ho(m:Nat):∀ k a,bP ((List.range' a k).map fun j=>(1000000+j,2000+j)) m=if 1000000+a≤m∧m<1000000+a+k then m-998000 else m
 |0,a=>by
  rw[if_neg (by omega)];rfl
 |k+1,a=>by
  rw[List.range'_succ,zz5,bP,Ho m k (a+1)];by_cases h:m=1000000+a
  ·rw[if_pos h,if_pos (by omega)];omega
  ·rw[if_neg h];by_cases U:1000000+(a+1)≤m∧m<1000000+(a+1)+k
   ·rw[if_pos U,if_pos (by omega)]
   ·rw[if_neg U,if_neg (by omega)]
theorem kF(k m:Nat):bP (qx k) m=if m=57 then 2005+k else if 1000000≤m∧m<1000400 then m-998000 else m:=by
 simp only[qx,bP,Ho,Nat.add_zero,Nat.reduceAdd]
theorem jl(k:Nat):gN 2000 (bJ 2000) k:=gN.bJ _ _
theorem ma{s:aI}(hk:cI s){n:Nat}{x:aq}(h:ak (dE s) n=some x):x.only (ay (dE s))=true∧x.eG=true:=mb (jl _) hk.cJ h
theorem zF{s:aI}{n:Nat}(hn:ay (dE s) n=true):2000≤n∧n<2005+s.all.length:=by
 rcases (dY (jl _)).1 hn with U | ⟨i,hi,rfl⟩
 ·omega
 ·simp only[bJ];omega
theorem Hd{s:aI}(hk:cI s){k:Nat}(h:s.all.length≤k+1)(hlen:k≤300):dN (qx k) (gU k s)=dE s :=
 Hh hk.cJ (fun j hj=>by rw[kF,if_neg (by omega),if_pos (by omega)];omega) fun i hi=>by
  simp only[gn,bJ];split
  ·rename_i e;rw[kF,if_pos rfl];omega
  ·rw[kF,if_neg (by omega),if_pos (by omega)];omega
theorem adg{s:aI}(hk:cI s){k:Nat}(h:s.all.length≤k)(hlen:k≤300):dN (qx k) (aO s)=dE s:=by
 rw[←vj hk h];exact Hd hk (by omega) hlen
theorem aV.sG{K:ai→Prop}{s s2:aI}{b:Bool}{x:bn}{avs:List I}{a1 a2:Option (List I)}{dst:Option Nat}{rest:List aJ}{ts:List (Nat×I)}{ow:List (Nat×aq)}(hk:cI s)(hlen:s.all.length≤300)(hav:avs=[.ptr 2000 [],enc x])(how:∀ m,2000≤m→ak ow m=none)(hst:eB s x=(s2,b))
  (h:aV Tryz.prog dA false K (aE rest ((aw ts (dE s2++(ow++dE s))).aW dst (.bool b)))):aV Tryz.prog dA false K (.call 81 avs a1 a2 dst rest (aw ts (ow++dE s))):=by
 subst hav;obtain ⟨J,U,af,ar⟩:=sC hk x;refine .bU false (qx s.all.length) (aO s) [.ptr 1000000 [],enc x] _ rfl (Jh s hk (by omega) x) ⟨fun m y hy=>⟨?_,jc hk hy⟩,fun m m' hm hm' e =>?_⟩ ⟨.inl ⟨?_,(dY (dQ _)).2 (.inl (by omega)),rfl⟩,.inl ⟨(lM _ _).symm,b7 _ _,eF _⟩,trivial⟩ ?_ ?_
 ·have hm:=l9 (s:=s) (n:=m) (by simp[ay,hy]);have:=EP (ρ:=qx s.all.length) (os:=aO s) (m:=m) (fun m' hm' he=>by
   have:=l9 hm';rw[kF,kF] at he
   (repeat' split at he) <;>omega) hy
  rw[adg hk (zz3 _) hlen] at this;rw[fY,how]
  ·exact this
  ·rw[kF,if_neg (by omega),if_pos (by omega)];omega
 ·have k1:=l9 hm;have k2:=l9 hm';rw[kF,kF] at e
  (repeat' split at e) <;>omega
 ·simp only[I.bu,kF];rfl
 ·rintro r os' ⟨rfl,rfl⟩;refine ⟨fun m y hy=>⟨(mb (hl ar) J.cJ hy).1,(mb (hl ar) J.cJ hy).2,fun h=>by cases h⟩,fun m m' hm hm' e =>?_,fun m hm =>?_,fun m hm hno =>?_,rfl,fun h=>by cases h⟩
  ·have k1:=vi ar hm;have k2:=vi ar hm';have e1:∀ m,m=57∨(1000000≤m∧m<1000005+s.all.length)→True:=fun _ _=>trivial;have key:∀ m,ay (gU s.all.length (eB s x).1) m=true→m=57∨(1000000≤m∧m<1000005+s.all.length):=fun m hm=>by
    rcases (dY (hl ar)).1 hm with h5 | ⟨i,hi,rfl⟩
    ·omega
    ·simp only[gn];split <;>omega
   have k1:=key m hm;have k2:=key m' hm';rw[kF,kF] at e
   (repeat' split at e) <;>omega
  ·rcases (dY (dQ _)).1 hm with h5 | ⟨i,hi,rfl⟩
   ·exact (dY (hl ar)).2 (.inl h5)
   ·exact (dY (hl ar)).2 (.inr ⟨i,by omega,(mH hi).symm⟩)
  ·have h57:m=57:=by
    rcases (dY (hl ar)).1 hm with h5 | ⟨i,hi,e⟩
    ·rw[(dY (dQ _)).2 (.inl h5)] at hno;cases hno
    ·by_cases hi2:i=s.all.length
     ·subst hi2;simpa[gn] using e
     ·rw[(dY (dQ _)).2 (.inr ⟨i,by omega,by rw[e,mH (by omega)]⟩)] at hno;cases hno
   subst h57;rw[kF,if_pos rfl];refine ⟨?_,by omega⟩;rw[fY,how _ (by omega)];exact eV (.inr (by omega)) fun i hi=>by simp only[bJ];omega
 ·rintro r os' ⟨rfl,rfl⟩;rw[Hd J ar hlen,hst];exact h
def gA:aI→List bn→Option aI
 |s,[]=>some s
 |s,x::l=>match gW s x with
  |some s'=>gA s' l
  |none=>none
theorem qz:∀ (l:List bn) (s:aI) (l2:List bn),gA s (l++l2)=(gA s l).bind fun s'=>gA s' l2
 | [],s,l2=>rfl
 |x::l,s,l2=>by
  simp only[zy1,gA];cases gW s x with
  |none=>rfl
  |some s'=>exact qz l s' l2
theorem zJ{s s':aI}{x:bn}(hk:cI s)(h:gW s x=some s'):cI s'∧s'.aD=s.aD∧s'.all.length≤s.all.length+1:=by
 simp only[gW] at h;split at h
 ·obtain ⟨J,U,af,_⟩:=hk.next h
  exact ⟨J,U,af⟩
 ·cases h
theorem nN:∀ {l:List bn} {s s':aI},cI s→gA s l=some s'→cI s'∧s'.aD=s.aD∧s'.all.length≤s.all.length+l.length
 | [],s,s',hk,h=>by cases h;exact ⟨hk,rfl,zz3 _⟩
 |x::l,s,s',hk,h=>by
  simp only[gA] at h;cases hx:gW s x with
  |none=>rw[hx] at h;cases h
  |some s2 =>
   rw[hx] at h;obtain ⟨J,U,af⟩:=zJ hk hx;obtain ⟨k1,k2,k3⟩:=nN J h;exact ⟨k1,k2.trans U,by simp only[zx8];omega⟩
def ga(aD:Int)(l:List bn):Option aI:=gA (fk aD) l
def r8(aD:Int)(l:List bn):cL:=fun r os'=>match ga aD l with
 |some s=>r=.tuple [.ptr 2000 [],.bool true]∧os'=dE s
 |none=>r=.tuple [.nilp,.bool false]∧os'=[]
def s7(l:List bn)(t:Nat×aI):ai:=aw [(6,.ptr 2000 []),(11,enc l),(12,.int .i64 l.length),(13,.int .i64 t.1)] (dE t.2)
theorem IY(aD:Int)(l:List bn)(ao:l.length≤200):cY Tryz.prog 62 [enc aD,enc l] [] (r8 aD l):=by
 refine cY.b5 Tryz.func62 B3 Cl Cv (t7 rfl) (t7 rfl) (fun m hm=>by simp[ay,ak] at hm) (fun hwf W0 bH E1 =>?_);simp only[wE,yZ,bM,zz4];clear hwf;have R:=y6 @bw (y6 @bl (y6 @bj az))
 repeat' ((first |refine ae.aB (by decide +kernel) rfl fun K hK =>?_|refine aV.fk rfl (fun _ _ _=>rfl) ?_|(refine .au [0,1,4,5,6,8,11,12,13,14,20] hK ?_;clear hK K)|(with_reducible refine .done (hK _ ?_);clear hK K)|refine ae.of rfl ?_|(with_reducible refine av.aA (fun h =>?_) (fun h =>?_) <;>try simp only[h])) <;>try simp only[aC,R,simprocAttr])
 all_goals clear R
 refine ae.loop (s7 l) (fun t=>t.1≤l.length∧gA (fk aD) (l.take t.1)=some t.2) (fun t=>l.length-t.1) (0,fk aD) ⟨zw1 _,rfl⟩ ?_ ?_
 ·rw[zw4];refine bp.fn ?_ (fun n=>.inr rfl) ?_ (fun n x h=>(ma (lU aD) h).1)
  ·simp[b6,bY]
  ·have:=(dY (jl (fk aD).all.length) (n:=2000)).2 (.inl (by omega));simp[cn,I.only,b7,this]
 rintro ⟨i,s⟩ ⟨hi,hrun⟩;simp only at hi hrun;obtain ⟨hk,hme,hln⟩:=nN (lU aD) hrun;have hln2:s.all.length≤i:=by simpa[fk,hi] using hln
 have n8:ak (dE s) 8=none:=eV (.inl (by omega)) fun i _=>by simp[bJ];omega
 simp only[s7];by_cases hlt:i<l.length
 ·have hc:=fK hlt;have he:=fun A=>eK (A:=A) 4 hlt rfl;have hw:=fg (i:=i) (by omega);have hst:∀ A rest,c7 A (some 4) 8 [] (.agg [.int .i64 0,.int .i64 0,.int .i64 0,.int .i64 0]) (enc l[i]) rest (some (.agg [.int .i64 0,.int .i64 0,.int .i64 0,.int .i64 0]))=aE rest (A.aT 8 (.box (enc l[i]))):=fun A rest=>dI (eF _) (by rw[fB];rfl) (eX _);have how:∀ (a b:aq) m,2000≤m→ak [(8,a),(8,b)] m=none:=fun a b m hm=>by simp only[ak];rw[if_neg (by omega),if_neg (by omega)]
  have hsp:l=l.take i++l[i]::l.drop (i+1):=by simp
  cases hn:gW s l[i] with
  |none =>
   have ab:eB s l[i]=(s,false):=by simp[eB,hn]
   have R:=y6 @hc (y6 @he (y6 @hst (y6 @n8 (y6 @bw (y6 @bl (y6 @bj az))))))
   repeat' ((first |refine ae.aB (by decide +kernel) rfl fun K hK =>?_|refine aV.sG (ow:=[(8,_),(8,_)]) hk (by omega) rfl (how _ _) ab ?_|(refine .au [0,1,4,5,6,8,11,12,13,14,20] hK ?_;clear hK K)|(with_reducible refine .done (hK _ ?_);clear hK K)|refine ae.of rfl ?_|(with_reducible refine av.aA (fun h =>?_) (fun h =>?_) <;>try simp only[h])) <;>try simp only[aC,R,simprocAttr])
   all_goals clear R
   have hno:ga aD l=none:=by
    rw[ga,hsp,qz,hrun];simp only[zv9,gA,hn]
   refine ⟨[],[.nilp,.bool false],fun n x hx=>by simp[ak] at hx,⟨⟨_,rfl,.inl ⟨rfl,rfl,rfl⟩⟩,⟨_,rfl,.inl ⟨rfl,rfl,rfl⟩⟩,trivial⟩,?_⟩;unfold r8;rw[hno];exact ⟨rfl,rfl⟩
  |some s2 =>
   have ab:eB s l[i]=(s2,true):=by simp[eB,hn]
   have R:=y6 @hc (y6 @he (y6 @hst (y6 @hw (y6 @n8 (y6 @bw (y6 @bl (y6 @bj az)))))))
   repeat' ((first |refine ae.aB (by decide +kernel) rfl fun K hK =>?_|refine aV.sG (ow:=[(8,_),(8,_)]) hk (by omega) rfl (how _ _) ab ?_|(refine .au [0,1,4,5,6,8,11,12,13,14,20] hK ?_;clear hK K)|(with_reducible refine .done (hK _ ?_);clear hK K)|refine ae.of rfl ?_|(with_reducible refine av.aA (fun h =>?_) (fun h =>?_) <;>try simp only[h])) <;>try simp only[aC,R,simprocAttr])
   all_goals clear R
   obtain ⟨hk2,hme2,hln3⟩:=zJ hk hn;refine ⟨(i+1,s2),⟨by simp only;omega,?_⟩,by simp only;omega,?_⟩
   ·rw[zy0 hlt,qz,hrun];simp only[zv9,gA,hn]
   ·refine bp.fn ?_ (fun n =>?_) ?_ (fun n x h=>(ma hk2 h).1)
    ·simp[b6,bY]
    ·simp only[fY];cases ak (dE s2) n with
     |none=>exact .inl rfl
     |some y=>exact .inr rfl
    ·have:=(dY (jl s2.all.length) (n:=2000)).2 (.inl (by omega));simp[cn,I.only,b7,this]
 ·have hge:i=l.length:=by omega
  have hc:=fR hlt;subst hge;rw[zv5] at hrun;have R:=y6 @hc (y6 @bw (y6 @bl (y6 @bj az)))
  repeat' ((first |refine ae.aB (by decide +kernel) rfl fun K hK =>?_|(refine .au [0,1,4,5,6,8,11,12,13,14,20] hK ?_;clear hK K)|(with_reducible refine .done (hK _ ?_);clear hK K)|refine ae.of rfl ?_|(with_reducible refine av.aA (fun h =>?_) (fun h =>?_) <;>try simp only[h])) <;>try simp only[aC,R,simprocAttr])
  all_goals clear R
  refine ⟨dE s,[.ptr 2000 [],.bool true],fun n x hx=>⟨hx,ma hk hx⟩,⟨⟨_,rfl,.inl ⟨rfl,rfl,?_⟩⟩,⟨_,rfl,.inl ⟨rfl,rfl,rfl⟩⟩,trivial⟩,?_⟩
  ·exact (dY (jl s.all.length) (n:=2000)).2 (.inl (by omega))
  ·unfold r8 ga;rw[hrun];exact ⟨rfl,rfl⟩
end Go.Proofs.YthbdbocionnfgaaGreatDoor
namespace Go.Proofs.YthbdbocionnfgaaGreatDoor
open Go Go.Abs Go.ChangeShapes Go.WideShapes Go.RowKit
open Go.Abs.Enc (enc)
theorem Tryz.own:ownKnob Tryz.prog.godebug=none:=by kernel_rfl
theorem Tryz.aaN:laidOutB Tryz.prog=true:=by kernel_rfl
theorem qh:jU Tryz.prog 3 Int:=acx (by kernel_rfl) (by kernel_rfl)
theorem abB:jU Tryz.prog 37 bn:=⟨by kernel_rfl,by decide,fun h=>by
 obtain ⟨vs,hv,hr⟩:=acz [(3,0),(3,1),(3,2),(3,3)]
  [(1,fun v=>∃ a:Int,v=enc a),(1,fun v=>∃ a:Int,v=enc a),(1,fun v=>∃ a:Int,v=enc a),(1,fun v=>∃ a:Int,v=enc a)]
  (by kernel_rfl) (by simp only[r2];exact ⟨trivial,qh.aY,trivial,qh.aY,trivial,qh.aY,trivial,qh.aY,trivial⟩) (by kernel_rfl) h
 obtain ⟨v0,vs0,e0,aR,hv0⟩:=tc hv;obtain ⟨a0,f0⟩:∃ a:Int,v0=enc a:=aR;obtain ⟨v1,vs1,e1,J,hv1⟩:=tc hv0;obtain ⟨a1,f1⟩:∃ a:Int,v1=enc a:=J;obtain ⟨v2,vs2,e2,U,hv2⟩:=tc hv1;obtain ⟨a2,f2⟩:∃ a:Int,v2=enc a:=U;obtain ⟨v3,vs3,e3,af,hv3⟩:=tc hv2;obtain ⟨a3,f3⟩:∃ a:Int,v3=enc a:=af;have e4:=JF hv3;rw[e0,e1,e2,e3,e4,f0,f1,f2,f3] at hr;exact ⟨⟨a0,a1,a2,a3⟩,hr⟩⟩
theorem abC:jU Tryz.prog 22 (List bn):=acy (by kernel_rfl) abB (by kernel_rfl)
theorem abD:jU Tryz.prog 24 bI:=⟨by kernel_rfl,by decide,fun h=>by
 obtain ⟨a,b,c,hab⟩:=acA (α:=Int) (β:=List bn) (γ:=Int) (u0:=3) (u1:=22) (u2:=3) (by kernel_rfl) qh abC qh (by kernel_rfl) h;exact ⟨⟨a,b,c⟩,hab⟩⟩
def kr : List (String × DataW Unit) := [("math/bits.deBruijn32tab", Rows.laid_math_bits_deBruijn32tab), ("math/bits.deBruijn64tab", Rows.laid_math_bits_deBruijn64tab), ("internal/strconv.uint64pow10", Rows.laid_internal_strconv_uint64pow10), ("unicode/utf8.acceptRanges", Rows.laid_unicode_utf8_acceptRanges), ("strconv.ErrRange", Rows.laid_strconv_ErrRange), ("strconv.ErrSyntax", Rows.laid_strconv_ErrSyntax), ("unicode/utf8.first", Rows.laid_unicode_utf8_first)]
def Ik:List Int:=[1,10,100,1000,10000,100000,1000000,10000000,100000000,1000000000,10000000000,100000000000,1000000000000,10000000000000,100000000000000,1000000000000000,10000000000000000,100000000000000000,1000000000000000000,10000000000000000000]
theorem Zh : Tryz.prog.globalNamed "internal/strconv.uint64pow10" = some 3 := by kernel_rfl
theorem aed:(Tryz.prog.globals[3]?).map (·.type)=some 209:=by kernel_rfl
theorem Zg : Tryz.prog.globalNamed "internal/bytealg.MaxLen" = some 0 := by kernel_rfl
theorem G0:((begin Tryz.prog (fun _ _=>0) default).world.heap[0]?).bind Obj.row?=some (#[.int .i64 0],3):=by kernel_rfl
theorem Zl : Tryz.prog.globalNamed "strconv.ErrSyntax" = some 1 := by kernel_rfl
theorem Zj : Tryz.prog.globalNamed "strconv.ErrRange" = some 2 := by kernel_rfl
theorem H4:(Tryz.prog.globals[1]?).map (·.type)=some 156∧(Tryz.prog.globals[2]?).map (·.type)=some 156:=⟨by kernel_rfl,by kernel_rfl⟩
theorem Ed:(match Tryz.prog.underlying 156 with | some (.interface _)=>true | _=>false)=true:=by kernel_rfl
theorem abi {W : World} (hsh : W.ShapedOpen Tryz.prog) : ∃ v, W.var? Tryz.prog "internal/bytealg.MaxLen" = some v ∧ rO .int v := by
 obtain ⟨m,hm⟩:=cell_of_shapedOpen_int (k:=.i64) hsh (show 0<Tryz.prog.globals.size from of_decide_eq_true (by kernel_rfl)) G0 rfl (by kernel_rfl) (by kernel_rfl) (by kernel_rfl);obtain ⟨cs,bz,ab,_⟩:=hsh.1 0 _ _ (show 0<Tryz.prog.globals.size from of_decide_eq_true (by kernel_rfl)) G0;refine ⟨cs,?_,m,?_⟩
 ·unfold World.var?;rw[Zg];simp only[zv9];revert bz;cases hb:W.heap[0]? with
  |none=>intro bz;simp at bz
  |some o =>
   intro bz;cases o <;>simp[] at bz
   simp[bz]
 ·have J:cs.size=1:=ab;have hcell:W.cell? ⟨0,0,none⟩=cs[0]?:=by
   unfold World.cell?;revert bz;cases hb:W.heap[0]? with
   |none=>intro bz;simp at bz
   |some o =>
    intro bz;cases o <;>simp[] at bz
    rw[←bz.1];rfl
  rw[hcell] at hm;apply Array.ext
  ·simp[J]
  ·intro i U af;obtain rfl:i=0:=by simp at af;omega
   have:=(zy4.1 hm).2;simpa using this
theorem CS {W : World} (h : laidMet Tryz.prog kr W) {n : String} {text : List UInt8} {g : Nat} (hn : (n, DataW.iface "*errors.errorString" (.ptr (.agg [.lit (.string text)]))) ∈ kr) (hg : Tryz.prog.globalNamed n = some g) (ht : (Tryz.prog.globals[g]?).map (·.type) = some 156) :
  ∃ v,W.var? Tryz.prog n=some v∧rO .pK v:=by
 obtain ⟨g',t',cs,fuel,p,hg',ht',hvar,ah⟩:=Lib.laidMet.reads h hn;obtain rfl:=Option.some.inj (hg.symm.trans hg');obtain rfl:=Option.some.inj (ht.symm.trans ht');cases hi:Tryz.prog.underlying 156 with
 |none=>have:=Ed;rw[hi] at this;cases this
 |some d =>
  cases d <;>(try (have:=Ed;rw[hi] at this;cases this;done))
  obtain ⟨_,u,v,hcs,_,_⟩:=iface_of_trod hi ah;refine ⟨cs,hvar,u,v,?_⟩;apply Array.ext';simpa using hcs
theorem ack{W:World}(h:laidMetH Tryz.prog kr W)(hsh:W.ShapedOpen Tryz.prog):gb Tryz.prog W (fun _=>False):=by
 rw[MakeChecks.laidMetH_plain _ _ _ (by kernel_rfl)] at h;intro q hq g hg;refine ⟨id,?_⟩;simp only[ny,zx3,List.not_mem_nil,or_false] at hq;rcases hq with rfl | rfl | rfl | rfl
 ·obtain ⟨g', t', cs, fuel, p, hg', ht', hvar, ah⟩ := Lib.laidMet.reads h (n := "internal/strconv.uint64pow10") (d := Rows.laid_internal_strconv_uint64pow10) (by simp [kr])
  obtain rfl:=Option.some.inj (Zh.symm.trans hg');obtain rfl:=Option.some.inj (aed.symm.trans ht');have hd':DataW.trod (fun _=>()) Tryz.prog W 0 (fun _=>true) false fuel 209 cs.toList=some (Lib.tabData .u64 Ik,p):=ah;have hc:=Lib.cells_of_tab (n:=20) (e:=171) (aas (by kernel_rfl)) (by kernel_rfl) (by kernel_rfl) (by kernel_rfl) hd';refine ⟨cs,hvar,?_⟩
  show cs=Ev
  have:cs=(Ik.map fun z=>Value.int .u64 z).toArray:=by rw[←hc]
  rw[this];rfl
 ·exact abi hsh
 ·exact CS h (n := "strconv.ErrSyntax") (text := [105, 110, 118, 97, 108, 105, 100, 32, 115, 121, 110, 116, 97, 120]) (by simp [kr, Rows.laid_strconv_ErrSyntax]) Zl H4.1
 ·exact CS h (n := "strconv.ErrRange") (text := [118, 97, 108, 117, 101, 32, 111, 117, 116, 32, 111, 102, 32, 114, 97, 110, 103, 101]) (by simp [kr, Rows.laid_strconv_ErrRange]) Zj H4.2
theorem adt{H:Type}{enc0:TypeId×Value→H}{a:Assume}{C:Checked}{os:Os}{f:FuncId}{fn:Func}{s:ChangeSpec}{conds:List PathCond}{apart jK handsOn again:Bool}{X:World→Array Value→Prop}
  (hX:∀ (w w':World) (args:Array Value),w.heap=w'.heap→X w args→X w' args)
  (own:ownKnob C.prog.godebug=none) (started:os.Started) (noInit:C.prog.inits.idxOf? f=none) (hfn:C.prog.funcs[f]?=some fn)
  (witness:∃ (w:World) (tape:Tape) (i:Input),w.os=os∧(w.forCall tape i).Shaped C.prog∧i.vars=[]∧Input.okWide C.prog (w.forCall tape i) .any w.heap.size f i ∧
   ((s.pre enc0 C.prog fn conds apart (w.forCall tape i).memory i.args∧X (w.forCall tape i).memory i.args)∧sizedMet enc0 C.prog fn (OpenSpec.ofChange s) apart (w.forCall tape i).memory i.args)∧a.holds C.prog (lone (Frame.enter C.prog f i.args .normal) [] (w.forCall tape i)))
  (contract:∀ (W:World) (fx:Nat) (args:Array Value) (ds gs:List (DataW H)) (before:List MemPlace),
   (∀ (j:Nat) t v,fn.params[j]?=some t→args[j]?=some v→Value.okWide C.prog W .any fx t v) →
   DataW.Whole enc0 C.prog fn.params.toList s.vars apart W args.toList ds gs before →
   X W args→W.ShapedOpen C.prog →
   Calls C.prog f args W fun e W'=>∃ v,e=.returned v∧s.post enc0 C.prog fn apart jK handsOn again W args v W') :
  ReturnsInHanded a C os f .any (fun w args=>(s.pre enc0 C.prog fn conds apart w args∧X w args)∧sizedMet enc0 C.prog fn (OpenSpec.ofChange s) apart w args) (s.post enc0 C.prog fn apart jK handsOn again):=by
 refine returnsInHanded_of_calls own started noInit witness ?_;intro w tape i _ hsh _ hok hpre _;obtain ⟨_,_,_,fn',hfn',_,_,_,_,hval⟩:=hok;have e:fn'=fn:=Option.some.inj (hfn'.symm.trans hfn);subst e;obtain ⟨⟨⟨ds,gs,before,hw,_⟩,hx⟩,_⟩:=hpre;have hw':=DataW.Whole.of_heap (w':=w.forCall tape i) (by rfl) hw;refine (contract (w.forCall tape i) w.heap.size i.args ds gs before hval hw' (hX _ _ _ (by rfl) hx) hsh).mono fun e W' ⟨v,he,hp⟩ =>?_;subst he;exact ChangeSpec.post_blind hp
end Go.Proofs.YthbdbocionnfgaaGreatDoor
namespace Go.Abs
open Go Go.RowKit
open Enc (enc)
structure aG where
 b:ByteArray
 deriving DecidableEq,Inhabited
instance:Enc aG where
 enc s:=.bm s.b
 sz:=1
 bg:=.one
 ij:=false
 done _:=rfl
 size _:=by simp[I.size]
 jy _:=by simp[I.bg]
 agg _:=rfl
def aG.l(s:aG):List UInt8:=s.b.data.toList
def aG.of(l:List UInt8):aG:=⟨⟨l.toArray⟩⟩
theorem aG.qi(s:aG):aG.of s.l=s:=by obtain ⟨⟨⟨l⟩⟩⟩:=s;rfl
theorem aG.iU(l:List UInt8):(aG.of l).l=l:=rfl
theorem aG.pO{s t:aG}(h:s.l=t.l):s=t:=by rw[←aG.qi s,←aG.qi t,h]
theorem aG.acj{s t:List UInt8} : aG.of s=aG.of t↔s=t:=⟨fun h=>by rw[←aG.iU s,h,aG.iU],fun h=>by rw[h]⟩
theorem aG.size(s:aG):s.b.size=s.l.length:=Lib.size_eq s.b
theorem HV(s t:ByteArray):(s.toList==t.toList)=decide ((⟨s⟩:aG)=⟨t⟩):=by
 obtain ⟨⟨l⟩⟩:=s;obtain ⟨⟨m⟩⟩:=t;simp;by_cases h:l=m <;>simp[h]
def mV(a b:aG):aG:=⟨a.b++b.b⟩
theorem zp(a b:aG):(mV a b).l=a.l++b.l:=by
 obtain ⟨⟨⟨l⟩⟩⟩:=a;obtain ⟨⟨⟨m⟩⟩⟩:=b;simp[mV,aG.l]
theorem ve(s:aG):enc s=I.bm s.b:=rfl
theorem adG(a b:aG)(h:a.l.length+b.l.length≤9223372036854775807):cu .add (enc a) (enc b)=some (enc (mV a b)):=by
 rw[←aG.size,←aG.size] at h;simp only[ve,cu,if_pos h,mV]
theorem HG(a b:aG):cu .eql (enc a) (enc b)=some (.bool (decide (a=b))):=by
 simp only[ve,cu,HV]
theorem HK(a b:aG):cu .neq (enc a) (enc b)=some (.bool (!decide (a=b))):=by
 simp only[ve,cu,HV]
theorem HJ(a:aG):uj (enc a)=some (.int .i64 a.l.length):=by
 simp only[ve,uj,aG.size]
theorem vf(a:aG){i:Nat}(h:i<a.l.length):iv .eZ [enc a,.int .i64 (i:Int)]=some (.int .u8 (a.l[i].toNat:Int)):=by
 show (if 0≤(i:Int) then (a.b.data.toList[(i:Int).toNat]?).map fun b=>I.int .u8 b.toNat else none)=_
 rw[if_pos (by omega),Int.toNat_natCast,zy2 (show i<a.b.data.toList.length from h)];rfl
theorem PO(s:ByteArray)(i j:Nat):(⟨s.extract i j⟩:aG)=aG.of ((s.data.toList.drop i).take (j-i)):=aG.pO (Lib.extract_data s i j)
theorem zq(a:aG){i j:Nat}(h:i≤j)(U:j≤a.l.length):iv (.ss true true) [enc a,.int .i64 (i:Int),.int .i64 (j:Int)]=some (enc (aG.of ((a.l.drop i).take (j-i)))):=by
 show (if 0≤(i:Int)∧(i:Int)≤j∧(j:Int)≤a.b.size then some (I.bm (a.b.extract (i:Int).toNat (j:Int).toNat)) else none)=_
 rw[if_pos ⟨by omega,by omega,by rw[aG.size];omega⟩,Int.toNat_natCast,Int.toNat_natCast];exact congrArg (fun s:aG=>some (enc s)) (PO a.b i j)
theorem HF(n:Int):eW 1 (some [.int .u8 n])=some (.slice 1 [.int .u8 n]):=by
 simp[eW,I.size,I.cv,I.bG]
theorem HE(A:ai)(n:Int):oc (dX A 1 (.slice 1 [.int .u8 n]))=some (enc (aG.of [UInt8.ofNat n.toNat])):=rfl
theorem HI(a:aG):ca none (enc a)=true:=rfl
theorem cz :
  (∀ d rest A p xs,bO A d (.prim p xs) rest=cT (iv p (xs.map (aj A))) (dn d rest A))∧(∀ d rest A x,bO A d (.b2s x) rest=cT (oc (dX A 1 (aj A x))) (dn d rest A)) ∧
  (∀ b,iv (.oI b) [.dL]=some (.bool (!b)))∧(∀ b t v,iv (.oI b) [.iface t v]=some (.bool b))∧(type_of% @HG)∧(type_of% @HK)∧(type_of% @HJ)∧(type_of% @HF)∧(type_of% @HE)∧(type_of% @HI) ∧
  (∀ a b,cu .eql (.int .u8 a) (.int .u8 b)=some (.bool (a==b)))∧(∀ a b,cu .neq (.int .u8 a) (.int .u8 b)=some (.bool (a != b)))∧(∀ a b,cu .lss (.int .u8 a) (.int .u8 b)=some (.bool (decide (a<b))))∧(∀ a b,cu .gtr (.int .u8 a) (.int .u8 b)=some (.bool (decide (a>b)))) ∧
  (∀ a b,cu .leq (.int .u8 a) (.int .u8 b)=some (.bool (decide (a≤b))))∧(∀ a b,cu .geq (.int .u8 a) (.int .u8 b)=some (.bool (decide (a≥b))))∧(∀ a b,cu .sub (.int .u8 a) (.int .u8 b)=some (.int .u8 (IntKind.u8.wrap (a-b)))) :=
 ⟨fun _ _ _ _ _=>rfl,fun _ _ _ _=>rfl,fun _=>rfl,fun _ _ _=>rfl,HG,HK,HJ,HF,HE,HI,fun _ _=>rfl,fun _ _=>rfl,fun _ _=>rfl,fun _ _=>rfl,fun _ _=>rfl,fun _ _=>rfl,fun _ _=>rfl⟩
end Go.Abs
namespace Go.Proofs.YthbdbocionnfgaaGreatDoor
open Go Go.Abs Go.Shelf
open Go.Abs.Enc (enc)
def aaY:Go.Shelf.Ren:=⟨fun | 171=>119 | 243=>144 | 246=>159 | 283=>170 | 284=>171 | 285=>172 | 286=>173 | 129=>143 | 317=>182 | 318=>183 | 319=>184 | 320=>185 | 337=>190 | 338=>191 | n=>n,fun | 3=>3 | 9=>9 | 2=>2 | 4=>4 | 171=>198 | 0=>0 | 53=>171 | 37=>172 | 5=>5 | 173=>200 | 212=>209 | 51=>169 | 20=>20 | 213=>210 | 46=>151 | 232=>223 | 233=>224 | n=>n,fun | 17=>3 | 18=>6 | 19=>7 | n=>n⟩
theorem aaX:Go.Proofs.LaysM.n171 Tryz.prog aaY := {
 mixed:=by kernel_rfl
 f129:=Tryz.func143.trans (congrArg some (by kernel_rfl))
 f171:=Tryz.func119.trans (congrArg some (by kernel_rfl))
 f243:=Tryz.func144.trans (congrArg some (by kernel_rfl))
 f246:=Tryz.func159.trans (congrArg some (by kernel_rfl))
 f283:=Tryz.func170.trans (congrArg some (by kernel_rfl))
 f284:=Tryz.func171.trans (congrArg some (by kernel_rfl))
 f285:=Tryz.func172.trans (congrArg some (by kernel_rfl))
 f286:=Tryz.func173.trans (congrArg some (by kernel_rfl))
 f317:=Tryz.func182.trans (congrArg some (by kernel_rfl))
 f318:=Tryz.func183.trans (congrArg some (by kernel_rfl))
 f319:=Tryz.func184.trans (congrArg some (by kernel_rfl))
 f320:=Tryz.func185.trans (congrArg some (by kernel_rfl))
 f337:=Tryz.func190.trans (congrArg some (by kernel_rfl))
 f338:=Tryz.func191.trans (congrArg some (by kernel_rfl))
 t0:=Tryz.underlying0
 a0:=Tryz.isAgg0
 z0:=Tryz.sizeOf0
 v0:=Tryz.zeroValue0
 t2:=Tryz.underlying2
 a2:=Tryz.isAgg2
 z2:=Tryz.sizeOf2
 v2:=Tryz.zeroValue2
 t3:=Tryz.underlying3
 a3:=Tryz.isAgg3
 z3:=Tryz.sizeOf3
 v3:=Tryz.zeroValue3
 t4:=Tryz.underlying4
 a4:=Tryz.isAgg4
 z4:=Tryz.sizeOf4
 v4:=Tryz.zeroValue4
 t5:=Tryz.underlying5
 a5:=Tryz.isAgg5
 z5:=Tryz.sizeOf5
 v5:=Tryz.zeroValue5
 t9:=Tryz.underlying9
 a9:=Tryz.isAgg9
 z9:=Tryz.sizeOf9
 v9:=Tryz.zeroValue9
 t20:=Tryz.underlying20
 a20:=Tryz.isAgg20
 z20:=Tryz.sizeOf20
 v20:=Tryz.zeroValue20
 t37:=Tryz.underlying172
 a37:=Tryz.isAgg172
 z37:=Tryz.sizeOf172
 v37:=Tryz.zeroValue172
 t46:=Tryz.underlying151
 a46:=Tryz.isAgg151
 z46:=Tryz.sizeOf151
 v46:=Tryz.zeroValue151
 t51:=Tryz.underlying169
 a51:=Tryz.isAgg169
 z51:=Tryz.sizeOf169
 v51:=Tryz.zeroValue169
 t53:=Tryz.underlying171
 a53:=Tryz.isAgg171
 z53:=Tryz.sizeOf171
 v53:=Tryz.zeroValue171
 t171:=Tryz.underlying198
 a171:=Tryz.isAgg198
 z171:=Tryz.sizeOf198
 v171:=Tryz.zeroValue198
 t173:=Tryz.underlying200
 a173:=Tryz.isAgg200
 z173:=Tryz.sizeOf200
 v173:=Tryz.zeroValue200
 t212:=Tryz.underlying209
 a212:=Tryz.isAgg209
 z212:=Tryz.sizeOf209
 v212:=Tryz.zeroValue209
 t213:=Tryz.underlying210
 a213:=Tryz.isAgg210
 z213:=Tryz.sizeOf210
 t232:=Tryz.underlying223
 a232:=Tryz.isAgg223
 z232:=Tryz.sizeOf223
 v232:=Tryz.zeroValue223
 t233:=Tryz.underlying224
 a233:=Tryz.isAgg224
 z233:=Tryz.sizeOf224
 v233:=Tryz.zeroValue224
 g17:=by kernel_rfl
 g18:=by kernel_rfl
 g19:=by kernel_rfl
 i0:=by kernel_rfl
 i2:=by kernel_rfl
 i3:=by kernel_rfl
 i4:=by kernel_rfl
 i5:=by kernel_rfl
 i9:=by kernel_rfl
 i20:=by kernel_rfl
 i37:=by kernel_rfl
 i46:=by kernel_rfl
 i51:=by kernel_rfl
 i53:=by kernel_rfl
 i171:=by kernel_rfl
 i173:=by kernel_rfl
 i212:=by kernel_rfl
 i232:=by kernel_rfl
 i233:=by kernel_rfl
 m17:=by kernel_rfl
 m18:=by kernel_rfl
 m19:=by kernel_rfl }
open Go.RowKit Go.Sort Go.Lib in
theorem strconv_Itoa (n : Int) (aR : -9223372036854775808 ≤ n) (J : n ≤ 9223372036854775807) (w : World) (htab : Lib.TabIs Tryz.prog w "internal/strconv.uint64pow10" .u64 Lib.pow10Tab) :
  Calls Tryz.prog 119 #[.int .i64 n] w fun e w'=>e=.returned (.string ⟨(Lib.itoa n).toArray⟩)∧∃ k os,w'=grow (w.drewN k) os:=Any.strconv_Itoa aaX n aR J w htab
def gI(n:Int):aG:=⟨⟨(Lib.itoa n).toArray⟩⟩
open Go.Sort Go.RowKit in
theorem AG(w:World)(k:Nat)(os:Array Obj):Go.RowKit.Below w.heap.size w (grow (w.drewN k) os) :=
 ⟨rfl,rfl,rfl,by simp,fun i hi=>by rw[heap_grow_old _ _ (by simpa using hi)];rfl⟩
theorem vG(n:Int):bd Tryz.prog 119 [enc n] (enc (gI n)):=by
 refine ⟨KR,fun w D vs ao hD hv =>?_⟩;have hv':aH w D cP [.int .i64 n] vs:=hv;simp only[aH] at hv';obtain ⟨v,rest,cs,rfl,J,U,rfl⟩:=hv';obtain ⟨rfl,af,ar⟩:=eJ (gL J U);have h3':-9223372036854775808≤n:=af;have h4':n≤9223372036854775807:=ar;have hg:Tryz.prog.globalNamed xX=some 3:=by kernel_rfl
 obtain ⟨_,htab,rfl⟩:=ao.tV (n:=xX) (k:=.yP) (by simp[ny]) hg;refine (strconv_Itoa n h3' h4' w htab).mono ?_;rintro e w' ⟨rfl,k,os,rfl⟩;refine ⟨_,D,rfl,⟨[.string ⟨(Lib.itoa n).toArray⟩],by simp[bC,I.isAgg,enc],?_⟩,AG w k os,fun b o ah=>Nat.lt_of_lt_of_le (hD b o ah) (AG w k os).size,fun _ _ h _=>h⟩;have hlen:=Lib.itoa_length_le n h3' h4'
 show al _ _ _ (.bm _) _
 simp only[al];refine ⟨rfl,?_⟩
 show (Lib.itoa n).toArray.size≤maxLen
 simp only[List.size_toArray,maxLen];omega
end Go.Proofs.YthbdbocionnfgaaGreatDoor
namespace Go.Proofs.YthbdbocionnfgaaGreatDoor
open Go Go.Abs
open Go.Abs.Enc (enc)
def dz(c:UInt8)(df:Bool):List UInt8→List (List UInt8)
 | []=>[[]]
 |b::l=>if b=c then (if df then [b] else [])::dz c df l else match dz c df l with
  |h::t=>(b::h)::t
  | []=>[[b]]
theorem oh(c:UInt8)(df:Bool)(l:List UInt8):dz c df l≠[]:=by
 cases l with
 |nil=>simp[dz]
 |cons b l =>
  simp only[dz];split
  ·simp
  ·split <;>simp
theorem tB{c:UInt8}{df:Bool} : ∀ {l:List UInt8},(∀ b∈l,b≠c)→dz c df l=[l]
 | [],_=>rfl
 |b::l,h=>by
  simp only[dz,if_neg (h b (by simp)),tB (l:=l) fun x hx=>h x (by simp[hx])]
theorem pH{c:UInt8}{df:Bool} : ∀ {x:List UInt8} (y:List UInt8),(∀ b∈x,b≠c)→dz c df (x++c::y)=(x++if df then [c] else [])::dz c df y
 | [],y,_=>by cases df <;>simp[dz]
 |b::x,y,h=>by
  simp only[zy1,dz,if_neg (h b (by simp)),pH (x:=x) y fun z hz=>h z (by simp[hz])]
theorem wR(c:UInt8)(df:Bool):∀ l:List UInt8,(dz c df l).length=l.count c+1
 | []=>rfl
 |b::l=>by
  have ih:=wR c df l;simp only[dz];split
  ·rename_i h;subst h;simp[ih]
  ·rename_i h;rw[List.count_cons_of_ne h];cases hc:dz c df l with
   |nil=>exact absurd hc (oh c df l)
   |cons x t=>rw[hc] at ih;simpa using ih
theorem Eg(b c:UInt8)(l:List UInt8)(h:b≠c):Lib.index (b::l) [c]=if Lib.index l [c]==-1 then -1 else Lib.index l [c]+1:=by
 have hp:([c]:List UInt8).isPrefixOf (b::l)=false:=by simp[List.isPrefixOf,Ne.symm h]
 rw[Lib.index,hp];simp
theorem Ei(c:UInt8)(l:List UInt8):Lib.index (c::l) [c]=0:=by rw[Lib.index];simp[List.isPrefixOf]
theorem Cr{c:UInt8} : ∀ {l:List UInt8} {k:Nat},l.count c=k+1→∃ i:Nat,Lib.index l [c]=i
 | [],k,h=>by simp at h
 |b::l,k,h=>by
  by_cases hb:b=c
  ·subst hb;exact ⟨0,Ei _ _⟩
  ·rw[List.count_cons_of_ne hb] at h;obtain ⟨i,hi⟩:=Cr h;refine ⟨i+1,?_⟩;rw[Eg b c l hb,hi];have:¬ ((i:Int)==-1)=true:=by simp
   rw[if_neg this];omega
theorem HQ(c:UInt8)(df:Bool):∀ l:List UInt8,Lib.splitK [c] (if df then 1 else 0) (l.count c) l=dz c df l
 | []=>by simp[Lib.splitK,dz]
 |b::l=>by
  have ih:=HQ c df l;by_cases hb:b=c
  ·subst hb;rw[List.count_cons_self];simp only[Lib.splitK,dz,if_true,Ei];have aR:¬ ((0:Int)==-1)=true:=by decide
   rw[if_neg aR];simp only[Int.toNat_zero,zz4,zw6,List.drop_succ_cons,List.drop_zero,ih];cases df <;>simp
  ·rw[List.count_cons_of_ne hb];simp only[dz,if_neg hb];cases hk:l.count c with
   |zero =>
    rw[hk] at ih;simp only[Lib.splitK] at ih ⊢;rw[←ih]
   |succ k =>
    rw[hk] at ih;obtain ⟨i,hi⟩:=Cr hk;simp only[Lib.splitK] at ih ⊢;have hm:¬ ((i:Int)==-1)=true:=by simp
    have hm2:¬ ((i:Int)+1==-1)=true:=by simp;omega
    rw[hi,if_neg hm] at ih;rw[Eg b c l hb,hi,if_neg hm,if_neg hm2,←ih];have e:((i:Int)+1).toNat=i+1:=by omega
    rw[e,Int.toNat_natCast];simp only[zw6,List.drop_succ_cons];rw[show i+1+(if df then 1 else 0)=(i+if df then 1 else 0)+1 by omega,zw2]
def iQ(b:UInt8):Bool:=decide (48≤b.toNat∧b.toNat≤57)
def fb(acc:Nat):List UInt8→Option Nat
 | []=>some acc
 |b::l=>if iQ b then fb (acc*10+(b.toNat-48)) l else none
def gz(w:List UInt8):Option Nat:=if w=[]∨5<w.length∨(w.head?=some 48∧1<w.length) then none else fb 0 w
def eY:List (List UInt8)→Option (List Int)
 | []=>some []
 |w::l=>match gz w,eY l with
  |some n,some ns=>some ((n:Int)::ns)
  |_,_=>none
theorem tF(x y:List UInt8):∀ acc,fb acc (x++y)=(fb acc x).bind fun n=>fb n y:=by
 induction x with
 |nil=>intro acc;rfl
 |cons b x ih =>
  intro acc;simp only[zy1,fb];split
  ·exact ih _
  ·rfl
theorem CA:∀ (l:List UInt8) (acc n:Nat),fb acc l=some n→n<(acc+1)*10^l.length
 | [],acc,n,h=>by simp only[fb,v6] at h;simp;omega
 |b::l,acc,n,h=>by
  simp only[fb] at h;split at h
  case isFalse=>cases h
  rename_i ah;simp only[iQ,decide_eq_true_eq] at ah;have:=CA l _ n h;have U:(acc*10+(b.toNat-48)+1)*10^l.length≤((acc+1)*10)*10^l.length:=Nat.mul_le_mul_right _ (by omega);rw[zx8,Nat.pow_succ]
  calc n<_:=this
   _≤_:=U
   _=_:=by rw[Nat.mul_assoc,Nat.mul_comm 10 (10^l.length)]
theorem CB{l:List UInt8}{n:Nat}(h:fb 0 l=some n)(ao:l.length≤5):n<100000:=by
 have:=CA l 0 n h;have U:10^l.length≤10^5:=Nat.pow_le_pow_right (by omega) ao;omega
theorem FB:∀ (l:List UInt8) (acc:Nat),(acc+1)*10^l.length≤1000000→Lib.parseUint10 acc l=match fb acc l with | some n=>.ok n | none=>.syntax
 | [],acc,_=>rfl
 |b::l,acc,h=>by
  have hp:1≤10^l.length:=Nat.one_le_pow _ _ (by decide);rw[zx8,Nat.pow_succ] at h;have hacc:(acc+1)*10≤1000000:=by
   calc (acc+1)*10=(acc+1)*(1*10):=by omega
    _≤(acc+1)*(10^l.length*10):=Nat.mul_le_mul_left _ (Nat.mul_le_mul_right _ hp)
    _≤_:=h
  simp only[Lib.parseUint10,fb,iQ,decide_eq_true_eq];split
  ·rename_i ah;rw[if_neg (by omega),if_neg (by omega)];refine FB l _ ?_
   calc (acc*10+(b.toNat-48)+1)*10^l.length≤((acc+1)*10)*10^l.length:=Nat.mul_le_mul_right _ (by omega)
    _=(acc+1)*(10^l.length*10):=by rw[Nat.mul_assoc,Nat.mul_comm 10 (10^l.length)]
    _≤_:=h
  ·rfl
theorem D9{x y:List UInt8}(h:x≠[]):(x++y).head?=x.head?:=by cases x with
 |nil=>exact absurd rfl h
 |cons _ _=>rfl
theorem CF(d:Nat)(h:d<10):(UInt8.ofNat (48+d)).toNat=48+d:=by simp;omega
theorem wT{u:Nat}(h:¬ u<10):Lib.decDigits u=Lib.decDigits (u / 10)++[UInt8.ofNat (48+u%10)]:=by
 rw[Lib.decDigits,dif_neg h]
theorem tG:∀ u:Nat,fb 0 (Lib.decDigits u)=some u∧Lib.decDigits u≠[]∧((Lib.decDigits u).head?=some 48→u=0)
 |u=>by
  by_cases h:u<10
  ·rw[Lib.decDigits_one h];have e:=CF u h;refine ⟨?_,by simp,fun aR =>?_⟩
   ·have ah:iQ (UInt8.ofNat (48+u))=true:=by simp only[iQ,e,decide_eq_true_eq];omega
    simp only[fb,ah,if_true,e]
    congr 1;omega
   ·simp only[List.head?_cons,v6] at aR;have:=congrArg UInt8.toNat aR;rw[e] at this;simpa using this
  ·obtain ⟨J,U,af⟩:=tG (u / 10);rw[wT h];have e:=CF (u%10) (by omega);refine ⟨?_,by simp,fun aR =>?_⟩
   ·rw[tF,J];have ah:iQ (UInt8.ofNat (48+u%10))=true:=by simp only[iQ,e,decide_eq_true_eq];omega
    simp only[zv9,fb,ah,if_true,e]
    congr 1;omega
   ·rw[D9 U] at aR;have:=af aR;omega
termination_by u=>u
decreasing_by omega
theorem CD:∀ (k:Nat) (w:List UInt8) (n:Nat),w.length≤k→w≠[]→¬ (w.head?=some 48∧1<w.length)→fb 0 w=some n→Lib.decDigits n=w
 |0,w,n,hk,hne,_,_=>absurd (List.eq_nil_of_length_eq_zero (by omega)) hne
 |k+1,w,n,hk,hne,hz,h=>by
  have hw:=List.dropLast_concat_getLast hne;generalize w.getLast hne=b at hw;generalize w.dropLast=x at hw;subst hw;rw[tF] at h;cases hx:fb 0 x with
  |none=>rw[hx] at h;cases h
  |some m =>
   rw[hx] at h;simp only[zv9,fb] at h;split at h
   case isFalse=>cases h
   rename_i ah;simp only[v6] at h;simp only[iQ,decide_eq_true_eq] at ah;have hb:UInt8.ofNat (48+(b.toNat-48))=b:=by
    rw[show 48+(b.toNat-48)=b.toNat by omega];simp
   by_cases hx0:x=[]
   ·subst hx0;simp only[fb,v6] at hx;subst hx;have hn:n=b.toNat-48:=by omega
    rw[Lib.decDigits_one (show n<10 by omega),hn,hb];rfl
   ·have ao:x.length+1≤k+1:=by simpa using hk
    have hz':¬ (x.head?=some 48):=fun e=>hz ⟨by rw[D9 hx0];exact e,by have:=zv4.2 hx0;simp;omega⟩;have ih:=CD k x m (by omega) hx0 (fun e=>hz' e.1) hx;have hm:m≠0:=fun e=>by
     subst e;rw[Lib.decDigits_one (by omega)] at ih;rw[←ih] at hz';exact hz' rfl
    rw[wT (show ¬ n<10 by omega),show n / 10=m by omega,ih,show n%10=b.toNat-48 by omega,hb]
theorem abA{w:List UInt8}{n:Int}(h:Lib.atoiAll w=.ok n)(aR:0≤n)(ao:w.length≤5)(hw:Lib.itoa n=w):gz w=some n.toNat:=by
 obtain ⟨m,rfl⟩:=zx9 aR;rw[Lib.itoa_nonneg] at hw;obtain ⟨J,U,af⟩:=tG m;rw[hw] at J U af;simp only[gz];rw[if_neg,J];· rfl
 rintro (h | h | ⟨ar,h5⟩)
 ·exact U h
 ·omega
 ·have:=af ar;subst this;rw[Lib.decDigits_one (by omega)] at hw;rw[←hw] at h5;simp at h5
theorem yr{w:List UInt8}{n:Nat}(h:gz w=some n):Lib.atoiAll w=.ok (n:Int)∧w.length≤5∧Lib.itoa (n:Int)=w∧n<100000:=by
 simp only[gz] at h;split at h
 ·cases h
 rename_i hc;rw[not_or,not_or] at hc;obtain ⟨J,U,af⟩:=hc;have ab:=CB h (by omega);have ah:=CD w.length w n (zz3 _) J af h;refine ⟨?_,by omega,by rw[Lib.itoa_nonneg];exact ah,ab⟩;cases w with
 |nil=>exact absurd rfl J
 |cons c r =>
  have hdc:iQ c=true:=by
   simp only[fb] at h;split at h
   ·assumption
   ·cases h
  simp only[iQ,decide_eq_true_eq] at hdc;have hp:=FB (c::r) 0 (by
   have:10^(c::r).length≤10^5:=Nat.pow_le_pow_right (by omega) (by omega);omega)
  rw[h] at hp;simp only[Lib.atoiAll];rw[if_neg (by omega),Lib.parseMag,if_neg (by simp),hp];simp only;rw[if_neg (by omega),if_neg (by omega),if_neg (by omega)]
theorem Fg{n:Nat}(h:n<100000):gz (Lib.itoa (n:Int))=some n:=by
 rw[Lib.itoa_nonneg];obtain ⟨J,U,af⟩:=tG n;have ao:(Lib.decDigits n).length≤5:=by
  rw[Lib.decDigits_length];rcases Nat.lt_or_ge n 10 with q | q
  ·rw[Lib.nDigits_small q];omega
  have e:∀ k,10^k≤n→n<10^(k+1)→Lib.nDigits n=k+1:=fun k=>Lib.nDigits_unique k n;rcases Nat.lt_or_ge n 100 with q2 | q2
  ·rw[e 1 (by omega) (by omega)];omega
  rcases Nat.lt_or_ge n 1000 with q3 | q3
  ·rw[e 2 (by omega) (by omega)];omega
  rcases Nat.lt_or_ge n 10000 with q4 | q4
  ·rw[e 3 (by omega) (by omega)];omega
  ·rw[e 4 (by omega) (by omega)];omega
 simp only[gz];rw[if_neg,J];rintro (h | h | ⟨ar,h5⟩)
 ·exact U h
 ·omega
 ·have:=af ar;subst this;rw[Lib.decDigits_one (by omega)] at h5;simp at h5
theorem CE{n:Int}(h:0≤n){c:UInt8}(hc:c.toNat<48):∀ b∈Lib.itoa n,b≠c:=by
 obtain ⟨m,rfl⟩:=zx9 h;rw[Lib.itoa_nonneg];have key:∀ (l:List UInt8) (acc:Nat),fb acc l≠none→∀ b∈l,b≠c:=by
  intro l
  induction l with
  |nil=>intro _ _ b hb;cases hb
  |cons x l ih =>
   intro acc hne b hb;simp only[fb] at hne;split at hne
   case isFalse=>exact absurd rfl hne
   rename_i ah;simp only[iQ,decide_eq_true_eq] at ah;rcases zx3.1 hb with rfl | hb
   ·intro e;rw[e] at ah;omega
   ·exact ih _ hne b hb
 exact key _ 0 (by rw[(tG m).1];simp)
end Go.Proofs.YthbdbocionnfgaaGreatDoor
namespace Go.Proofs.YthbdbocionnfgaaGreatDoor
open Go Go.Abs Go.Shelf
open Go.Abs.Enc (enc)
def aaW:Go.Shelf.Ren:=⟨fun | 221=>122 | 268=>145 | 138=>146 | 143=>147 | 195=>160 | 197=>161 | 218=>162 | 219=>163 | 260=>174 | 217=>175 | 225=>176 | 224=>177 | 267=>178 | 266=>186 | 314=>187 | n=>n,fun | 9=>9 | 3=>3 | 31=>124 | 4=>4 | 0=>0 | 105=>186 | 21=>21 | 5=>5 | 46=>151 | 119=>211 | 139=>214 | 138=>213 | 146=>215 | 51=>169 | n=>n,fun | 1=>0 | 3=>4 | 4=>5 | n=>n⟩
theorem aaV:Go.Proofs.Lays.n221 Tryz.prog aaW := {
 mixed:=by kernel_rfl
 f138:=Tryz.func146.trans (congrArg some (by kernel_rfl))
 f143:=Tryz.func147.trans (congrArg some (by kernel_rfl))
 f195:=Tryz.func160.trans (congrArg some (by kernel_rfl))
 f197:=Tryz.func161.trans (congrArg some (by kernel_rfl))
 f217:=Tryz.func175.trans (congrArg some (by kernel_rfl))
 f218:=Tryz.func162.trans (congrArg some (by kernel_rfl))
 f219:=Tryz.func163.trans (congrArg some (by kernel_rfl))
 f221:=Tryz.func122.trans (congrArg some (by kernel_rfl))
 f224:=Tryz.func177.trans (congrArg some (by kernel_rfl))
 f225:=Tryz.func176.trans (congrArg some (by kernel_rfl))
 f260:=Tryz.func174.trans (congrArg some (by kernel_rfl))
 f266:=Tryz.func186.trans (congrArg some (by kernel_rfl))
 f267:=Tryz.func178.trans (congrArg some (by kernel_rfl))
 f268:=Tryz.func145.trans (congrArg some (by kernel_rfl))
 f314:=Tryz.func187.trans (congrArg some (by kernel_rfl))
 t0:=Tryz.underlying0
 a0:=Tryz.isAgg0
 z0:=Tryz.sizeOf0
 v0:=Tryz.zeroValue0
 t3:=Tryz.underlying3
 a3:=Tryz.isAgg3
 z3:=Tryz.sizeOf3
 v3:=Tryz.zeroValue3
 t4:=Tryz.underlying4
 a4:=Tryz.isAgg4
 z4:=Tryz.sizeOf4
 v4:=Tryz.zeroValue4
 t5:=Tryz.underlying5
 a5:=Tryz.isAgg5
 z5:=Tryz.sizeOf5
 v5:=Tryz.zeroValue5
 t9:=Tryz.underlying9
 a9:=Tryz.isAgg9
 z9:=Tryz.sizeOf9
 v9:=Tryz.zeroValue9
 t21:=Tryz.underlying21
 a21:=Tryz.isAgg21
 z21:=Tryz.sizeOf21
 v21:=Tryz.zeroValue21
 t31:=Tryz.underlying124
 a31:=Tryz.isAgg124
 z31:=Tryz.sizeOf124
 v31:=Tryz.zeroValue124
 t46:=Tryz.underlying151
 a46:=Tryz.isAgg151
 z46:=Tryz.sizeOf151
 v46:=Tryz.zeroValue151
 t51:=Tryz.underlying169
 a51:=Tryz.isAgg169
 z51:=Tryz.sizeOf169
 v51:=Tryz.zeroValue169
 t105:=Tryz.underlying186
 a105:=Tryz.isAgg186
 z105:=Tryz.sizeOf186
 v105:=Tryz.zeroValue186
 t119:=Tryz.underlying211
 a119:=Tryz.isAgg211
 z119:=Tryz.sizeOf211
 t138:=Tryz.underlying213
 a138:=Tryz.isAgg213
 z138:=Tryz.sizeOf213
 v138:=Tryz.zeroValue213
 t139:=Tryz.underlying214
 a139:=Tryz.isAgg214
 z139:=Tryz.sizeOf214
 v139:=Tryz.zeroValue214
 t146:=Tryz.underlying215
 a146:=Tryz.isAgg215
 z146:=Tryz.sizeOf215
 v146:=Tryz.zeroValue215
 g1:=by kernel_rfl
 g3:=by kernel_rfl
 g4:=by kernel_rfl }
def aaU:Go.Shelf.Ren:=⟨fun | 146=>99 | 221=>122 | 268=>145 | 138=>146 | 143=>147 | 195=>160 | 197=>161 | 218=>162 | 219=>163 | 260=>174 | 217=>175 | 225=>176 | 224=>177 | 267=>178 | 266=>186 | 314=>187 | n=>n,fun | 9=>9 | 31=>124 | 3=>3 | 4=>4 | 0=>0 | 105=>186 | 21=>21 | 5=>5 | 46=>151 | 119=>211 | 139=>214 | 138=>213 | 146=>215 | 51=>169 | n=>n,fun | 1=>0 | 3=>4 | 4=>5 | n=>n⟩
theorem aaT:Go.Proofs.Lays.n146 Tryz.prog aaU := {
 mixed:=by kernel_rfl
 f138:=Tryz.func146.trans (congrArg some (by kernel_rfl))
 f143:=Tryz.func147.trans (congrArg some (by kernel_rfl))
 f146:=Tryz.func99.trans (congrArg some (by kernel_rfl))
 f195:=Tryz.func160.trans (congrArg some (by kernel_rfl))
 f197:=Tryz.func161.trans (congrArg some (by kernel_rfl))
 f217:=Tryz.func175.trans (congrArg some (by kernel_rfl))
 f218:=Tryz.func162.trans (congrArg some (by kernel_rfl))
 f219:=Tryz.func163.trans (congrArg some (by kernel_rfl))
 f221:=Tryz.func122.trans (congrArg some (by kernel_rfl))
 f224:=Tryz.func177.trans (congrArg some (by kernel_rfl))
 f225:=Tryz.func176.trans (congrArg some (by kernel_rfl))
 f260:=Tryz.func174.trans (congrArg some (by kernel_rfl))
 f266:=Tryz.func186.trans (congrArg some (by kernel_rfl))
 f267:=Tryz.func178.trans (congrArg some (by kernel_rfl))
 f268:=Tryz.func145.trans (congrArg some (by kernel_rfl))
 f314:=Tryz.func187.trans (congrArg some (by kernel_rfl))
 t0:=Tryz.underlying0
 a0:=Tryz.isAgg0
 z0:=Tryz.sizeOf0
 v0:=Tryz.zeroValue0
 t3:=Tryz.underlying3
 a3:=Tryz.isAgg3
 z3:=Tryz.sizeOf3
 v3:=Tryz.zeroValue3
 t4:=Tryz.underlying4
 a4:=Tryz.isAgg4
 z4:=Tryz.sizeOf4
 v4:=Tryz.zeroValue4
 t5:=Tryz.underlying5
 a5:=Tryz.isAgg5
 z5:=Tryz.sizeOf5
 v5:=Tryz.zeroValue5
 t9:=Tryz.underlying9
 a9:=Tryz.isAgg9
 z9:=Tryz.sizeOf9
 v9:=Tryz.zeroValue9
 t21:=Tryz.underlying21
 a21:=Tryz.isAgg21
 z21:=Tryz.sizeOf21
 v21:=Tryz.zeroValue21
 t31:=Tryz.underlying124
 a31:=Tryz.isAgg124
 z31:=Tryz.sizeOf124
 v31:=Tryz.zeroValue124
 t46:=Tryz.underlying151
 a46:=Tryz.isAgg151
 z46:=Tryz.sizeOf151
 v46:=Tryz.zeroValue151
 t51:=Tryz.underlying169
 a51:=Tryz.isAgg169
 z51:=Tryz.sizeOf169
 v51:=Tryz.zeroValue169
 t105:=Tryz.underlying186
 a105:=Tryz.isAgg186
 z105:=Tryz.sizeOf186
 v105:=Tryz.zeroValue186
 t119:=Tryz.underlying211
 a119:=Tryz.isAgg211
 z119:=Tryz.sizeOf211
 t138:=Tryz.underlying213
 a138:=Tryz.isAgg213
 z138:=Tryz.sizeOf213
 v138:=Tryz.zeroValue213
 t139:=Tryz.underlying214
 a139:=Tryz.isAgg214
 z139:=Tryz.sizeOf214
 v139:=Tryz.zeroValue214
 t146:=Tryz.underlying215
 a146:=Tryz.isAgg215
 z146:=Tryz.sizeOf215
 v146:=Tryz.zeroValue215
 g1:=by kernel_rfl
 g3:=by kernel_rfl
 g4:=by kernel_rfl }
def aaS:Go.Shelf.Ren:=⟨fun | 104=>98 | 211=>123 | 207=>148 | n=>n,fun | 9=>9 | 4=>4 | 24=>129 | 3=>3 | n=>n,fun | n=>n⟩
theorem aaR:Go.Proofs.Lays.n104 Tryz.prog aaS := {
 mixed:=by kernel_rfl
 f104:=Tryz.func98.trans (congrArg some (by kernel_rfl))
 f207:=Tryz.func148.trans (congrArg some (by kernel_rfl))
 f211:=Tryz.func123.trans (congrArg some (by kernel_rfl))
 t3:=Tryz.underlying3
 a3:=Tryz.isAgg3
 z3:=Tryz.sizeOf3
 v3:=Tryz.zeroValue3
 t4:=Tryz.underlying4
 a4:=Tryz.isAgg4
 z4:=Tryz.sizeOf4
 v4:=Tryz.zeroValue4
 t9:=Tryz.underlying9
 a9:=Tryz.isAgg9
 z9:=Tryz.sizeOf9
 v9:=Tryz.zeroValue9
 t24:=Tryz.underlying129
 a24:=Tryz.isAgg129
 z24:=Tryz.sizeOf129
 v24:=Tryz.zeroValue129 }
def aaQ:Go.Shelf.Ren:=⟨fun | 172=>124 | 244=>149 | 245=>150 | 247=>164 | 279=>165 | 280=>166 | 281=>167 | 282=>168 | 287=>179 | 316=>180 | 171=>119 | 205=>181 | 321=>188 | 322=>189 | 243=>144 | 246=>159 | 283=>170 | 284=>171 | 285=>172 | 286=>173 | 129=>143 | 317=>182 | 318=>183 | 319=>184 | 320=>185 | 337=>190 | 338=>191 | n=>n,fun | 9=>9 | 3=>3 | 75=>156 | 76=>157 | 4=>4 | 5=>5 | 167=>189 | 37=>172 | 0=>0 | 85=>190 | 2=>2 | 168=>192 | 53=>171 | 175=>202 | 46=>151 | 210=>206 | 127=>219 | 145=>222 | 143=>220 | 21=>21 | 171=>198 | 173=>200 | 212=>209 | 51=>169 | 20=>20 | 213=>210 | 232=>223 | 233=>224 | 80=>225 | n=>n,fun | 15=>1 | 16=>2 | 17=>3 | 18=>6 | 19=>7 | n=>n⟩
theorem xY:Go.Proofs.LaysC.n172 Tryz.prog aaQ := {
 mixed:=by kernel_rfl
 f129:=Tryz.func143.trans (congrArg some (by kernel_rfl))
 f171:=Tryz.func119.trans (congrArg some (by kernel_rfl))
 f172:=Tryz.func124.trans (congrArg some (by kernel_rfl))
 f205:=Tryz.func181.trans (congrArg some (by kernel_rfl))
 f243:=Tryz.func144.trans (congrArg some (by kernel_rfl))
 f244:=Tryz.func149.trans (congrArg some (by kernel_rfl))
 f245:=Tryz.func150.trans (congrArg some (by kernel_rfl))
 f246:=Tryz.func159.trans (congrArg some (by kernel_rfl))
 f247:=Tryz.func164.trans (congrArg some (by kernel_rfl))
 f279:=Tryz.func165.trans (congrArg some (by kernel_rfl))
 f280:=Tryz.func166.trans (congrArg some (by kernel_rfl))
 f281:=Tryz.func167.trans (congrArg some (by kernel_rfl))
 f282:=Tryz.func168.trans (congrArg some (by kernel_rfl))
 f283:=Tryz.func170.trans (congrArg some (by kernel_rfl))
 f284:=Tryz.func171.trans (congrArg some (by kernel_rfl))
 f285:=Tryz.func172.trans (congrArg some (by kernel_rfl))
 f286:=Tryz.func173.trans (congrArg some (by kernel_rfl))
 f287:=Tryz.func179.trans (congrArg some (by kernel_rfl))
 f316:=Tryz.func180.trans (congrArg some (by kernel_rfl))
 f317:=Tryz.func182.trans (congrArg some (by kernel_rfl))
 f318:=Tryz.func183.trans (congrArg some (by kernel_rfl))
 f319:=Tryz.func184.trans (congrArg some (by kernel_rfl))
 f320:=Tryz.func185.trans (congrArg some (by kernel_rfl))
 f321:=Tryz.func188.trans (congrArg some (by kernel_rfl))
 f322:=Tryz.func189.trans (congrArg some (by kernel_rfl))
 f337:=Tryz.func190.trans (congrArg some (by kernel_rfl))
 f338:=Tryz.func191.trans (congrArg some (by kernel_rfl))
 t0:=Tryz.underlying0
 a0:=Tryz.isAgg0
 z0:=Tryz.sizeOf0
 v0:=Tryz.zeroValue0
 t2:=Tryz.underlying2
 a2:=Tryz.isAgg2
 z2:=Tryz.sizeOf2
 v2:=Tryz.zeroValue2
 t3:=Tryz.underlying3
 a3:=Tryz.isAgg3
 z3:=Tryz.sizeOf3
 v3:=Tryz.zeroValue3
 t4:=Tryz.underlying4
 a4:=Tryz.isAgg4
 z4:=Tryz.sizeOf4
 v4:=Tryz.zeroValue4
 t5:=Tryz.underlying5
 a5:=Tryz.isAgg5
 z5:=Tryz.sizeOf5
 v5:=Tryz.zeroValue5
 t9:=Tryz.underlying9
 a9:=Tryz.isAgg9
 z9:=Tryz.sizeOf9
 v9:=Tryz.zeroValue9
 t20:=Tryz.underlying20
 a20:=Tryz.isAgg20
 z20:=Tryz.sizeOf20
 v20:=Tryz.zeroValue20
 t21:=Tryz.underlying21
 a21:=Tryz.isAgg21
 z21:=Tryz.sizeOf21
 v21:=Tryz.zeroValue21
 t37:=Tryz.underlying172
 a37:=Tryz.isAgg172
 z37:=Tryz.sizeOf172
 v37:=Tryz.zeroValue172
 t46:=Tryz.underlying151
 a46:=Tryz.isAgg151
 z46:=Tryz.sizeOf151
 v46:=Tryz.zeroValue151
 t51:=Tryz.underlying169
 a51:=Tryz.isAgg169
 z51:=Tryz.sizeOf169
 v51:=Tryz.zeroValue169
 t53:=Tryz.underlying171
 a53:=Tryz.isAgg171
 z53:=Tryz.sizeOf171
 v53:=Tryz.zeroValue171
 t75:=Tryz.underlying156
 a75:=Tryz.isAgg156
 z75:=Tryz.sizeOf156
 v75:=Tryz.zeroValue156
 t76:=Tryz.underlying157
 a76:=Tryz.isAgg157
 z76:=Tryz.sizeOf157
 v76:=Tryz.zeroValue157
 t85:=Tryz.underlying190
 a85:=Tryz.isAgg190
 z85:=Tryz.sizeOf190
 v85:=Tryz.zeroValue190
 t127:=Tryz.underlying219
 a127:=Tryz.isAgg219
 z127:=Tryz.sizeOf219
 v127:=Tryz.zeroValue219
 t143:=Tryz.underlying220
 a143:=Tryz.isAgg220
 z143:=Tryz.sizeOf220
 v143:=Tryz.zeroValue220
 t145:=Tryz.underlying222
 a145:=Tryz.isAgg222
 z145:=Tryz.sizeOf222
 v145:=Tryz.zeroValue222
 t167:=Tryz.underlying189
 a167:=Tryz.isAgg189
 z167:=Tryz.sizeOf189
 v167:=Tryz.zeroValue189
 t168:=Tryz.underlying192
 a168:=Tryz.isAgg192
 z168:=Tryz.sizeOf192
 v168:=Tryz.zeroValue192
 t171:=Tryz.underlying198
 a171:=Tryz.isAgg198
 z171:=Tryz.sizeOf198
 v171:=Tryz.zeroValue198
 t173:=Tryz.underlying200
 a173:=Tryz.isAgg200
 z173:=Tryz.sizeOf200
 v173:=Tryz.zeroValue200
 t175:=Tryz.underlying202
 a175:=Tryz.isAgg202
 z175:=Tryz.sizeOf202
 v175:=Tryz.zeroValue202
 t210:=Tryz.underlying206
 a210:=Tryz.isAgg206
 z210:=Tryz.sizeOf206
 v210:=Tryz.zeroValue206
 t212:=Tryz.underlying209
 a212:=Tryz.isAgg209
 z212:=Tryz.sizeOf209
 v212:=Tryz.zeroValue209
 t213:=Tryz.underlying210
 a213:=Tryz.isAgg210
 z213:=Tryz.sizeOf210
 t232:=Tryz.underlying223
 a232:=Tryz.isAgg223
 z232:=Tryz.sizeOf223
 v232:=Tryz.zeroValue223
 t233:=Tryz.underlying224
 a233:=Tryz.isAgg224
 z233:=Tryz.sizeOf224
 v233:=Tryz.zeroValue224
 g15:=by kernel_rfl
 g16:=by kernel_rfl
 g17:=by kernel_rfl
 g18:=by kernel_rfl
 g19:=by kernel_rfl
 t80:=Tryz.underlying225
 a80:=Tryz.isAgg225
 z80:=Tryz.sizeOf225
 v80:=Tryz.zeroValue225
 i0:=by kernel_rfl
 i2:=by kernel_rfl
 i3:=by kernel_rfl
 i4:=by kernel_rfl
 i5:=by kernel_rfl
 i9:=by kernel_rfl
 i20:=by kernel_rfl
 i21:=by kernel_rfl
 i37:=by kernel_rfl
 i46:=by kernel_rfl
 i51:=by kernel_rfl
 i53:=by kernel_rfl
 i75:=by kernel_rfl
 i76:=by kernel_rfl
 i80:=by kernel_rfl
 i85:=by kernel_rfl
 i127:=by kernel_rfl
 i143:=by kernel_rfl
 i145:=by kernel_rfl
 i167:=by kernel_rfl
 i168:=by kernel_rfl
 i171:=by kernel_rfl
 i173:=by kernel_rfl
 i175:=by kernel_rfl
 i210:=by kernel_rfl
 i212:=by kernel_rfl
 i232:=by kernel_rfl
 i233:=by kernel_rfl
 m15:=by kernel_rfl
 m16:=by kernel_rfl
 m17:=by kernel_rfl
 m18:=by kernel_rfl
 m19:=by kernel_rfl
 c0:=by kernel_rfl
 c2:=by kernel_rfl
 c3:=by kernel_rfl
 c4:=by kernel_rfl
 c5:=by kernel_rfl
 c9:=by kernel_rfl
 c20:=by kernel_rfl
 c21:=by kernel_rfl
 c37:=by kernel_rfl
 c46:=by kernel_rfl
 c51:=by kernel_rfl
 c53:=by kernel_rfl
 c75:=by kernel_rfl
 c76:=by kernel_rfl
 c80:=by kernel_rfl
 c85:=by kernel_rfl
 c127:=by kernel_rfl
 c143:=by kernel_rfl
 c145:=by kernel_rfl
 c167:=by kernel_rfl
 c168:=by kernel_rfl
 c171:=by kernel_rfl
 c173:=by kernel_rfl
 c175:=by kernel_rfl
 c210:=by kernel_rfl
 c212:=by kernel_rfl
 c213:=by kernel_rfl
 c232:=by kernel_rfl
 c233:=by kernel_rfl }
theorem wQ(c:UInt8)(df:Bool):∀ (l:List UInt8),∀ x∈dz c df l,x.length≤l.length
 | [],x,hx=>by simp[dz] at hx;subst hx;simp
 |b::l,x,hx=>by
  have ih:=wQ c df l;simp only[dz] at hx;split at hx
  ·rcases zx3.1 hx with rfl | hx
   ·split <;>simp
   ·have:=ih x hx;simp;omega
  ·split at hx
   ·rename_i h t he;rw[he] at ih;rcases zx3.1 hx with rfl | hx
    ·have:=ih h (by simp);simpa using this
    ·have:=ih x (by simp[hx]);simp;omega
   ·simp at hx;subst hx;simp
theorem G5{w:World}{D:aS}{E:bf} : ∀ {l:List ByteArray},(∀ x∈l,x.size≤maxLen)→aN w D E ((l.map aG.mk).map enc) (l.map Value.string)
 | [],_=>by simp[aN]
 |y::l,h=>by
  simp only[zz5,aN];refine ⟨[.string y],l.map Value.string,by simp,?_,G5 fun z hz=>h z (by simp[hz])⟩
  show al _ _ _ (.bm y) _
  simp only[al,true_and];exact h y (by simp)
theorem adD(w:World)(D:aS)(T:TypeId)(l:List ByteArray)(J:∀ x∈l,x.size≤maxLen)(U:l.length≤maxLen) :
  a8 (w.alloc (.cells (l.map Value.string).toArray T)) (fun b o=>D b o∨(b=w.heap.size∧o<l.length)) cP (enc (l.map aG.mk)) (.slice (some ⟨w.heap.size,0,none⟩) l.length l.length):=by
 have hnew:(w.alloc (.cells (l.map Value.string).toArray T)).heap[w.heap.size]?=some (.cells (l.map Value.string).toArray T (0,0)):=World.alloc_heap_new w _;refine ⟨_,by simp[bC,I.isAgg,enc];rfl,?_⟩
 show al _ _ _ (.slice 1 ((l.map aG.mk).map enc)) _
 simp only[al];refine ⟨some ⟨w.heap.size,0,none⟩,l.length,by simp,by simp,by simpa using U,.inr ⟨w.heap.size,0,l.map Value.string,rfl,?_,?_⟩,fun e he =>?_⟩
 ·intro j v hj;have hjl:=(zz7.1 hj).1;refine ⟨?_,.inr ⟨rfl,by simpa using hjl⟩⟩;simp only[World.cell?,hnew,zz4,List.getElem?_toArray];exact hj
 ·exact G5 J
 ·obtain ⟨s,_,rfl⟩:=zy9.1 he;rfl
theorem abq(l:List ByteArray):l.map aG.mk=(l.map fun x=>x.data.toList).map aG.of:=by
 rw[List.map_map];exact List.map_congr_left fun x _=>(aG.qi ⟨x⟩).symm
theorem acm{l:List ByteArray}{k:Nat}(h:∀ x∈l.map (fun x=>x.data.toList),x.length≤k):∀ x∈l,x.size≤k:=fun x hx=>by
 rw[Lib.size_eq];exact h _ (zy9.2 ⟨x,hx,rfl⟩)
def cH(c:UInt8)(df:Bool)(s:aG):List aG:=(dz c df s.l).map aG.of
theorem adW(c:UInt8)(df:Bool)(s:ByteArray):(Lib.splitB ⟨#[c]⟩ (if df then 1 else 0) (Lib.countB s ⟨#[c]⟩) s).map (fun x=>x.data.toList)=dz c df s.data.toList:=by
 rw[Lib.splitB_data];have:Lib.countB s ⟨#[c]⟩=s.data.toList.count c:=Lib.count_one c s.data.toList;rw[this];exact HQ c df s.data.toList
theorem Ec:(Tryz.prog.info? 9).map (fun i=>(i.zero,i.size,i.bytes))=some (some (.string ByteArray.empty),1,16):=by kernel_rfl
theorem Zf : Tryz.prog.globalNamed "internal/bytealg.MaxLen" = some 0 := by kernel_rfl
theorem Zk : Tryz.prog.globalNamed "strconv.ErrSyntax" = some 1 := by kernel_rfl
theorem Zi : Tryz.prog.globalNamed "strconv.ErrRange" = some 2 := by kernel_rfl
theorem AA{w:World}{D:aS}{x y:aG}{vs:List Value}(hv:aH w D cP [enc x,enc y] vs):vs=[.string x.b,.string y.b]:=by
 have hv':aH w D cP [.bm x.b,.bm y.b] vs:=hv;simp only[aH] at hv';obtain ⟨v,rest,cs,rfl,J,U,v2,rest2,cs2,rfl,af,ar,rfl⟩:=hv';rw[(iw (gL J U)).1,(iw (gL af ar)).1]
theorem EW{w:World}(ao:gb Tryz.prog w (fun _=>False)):∃ m:Int,w.cell? ⟨0,0,none⟩=some (.int .i64 m):=by
 obtain ⟨v, J, m, rfl⟩ := ao.cell (n := "internal/bytealg.MaxLen") (k := .int) (by simp [ny]) Zf
 exact ⟨m,by rw[J];rfl⟩
theorem Ht{w:World}{D:aS}(hD:∀ b o,D b o→b<w.heap.size)(c:UInt8)(df:Bool)(s:ByteArray)(ab:s.size<4294967281)(T:TypeId) :
  ∃ v D',(Ending.returned (.slice (some ⟨w.heap.size,0,none⟩) (Lib.countB s ⟨#[c]⟩+1) (Lib.countB s ⟨#[c]⟩+1))=.returned v) ∧
   a8 (w.alloc (.cells ((Lib.splitB ⟨#[c]⟩ (if df then 1 else 0) (Lib.countB s ⟨#[c]⟩) s).map Value.string).toArray T)) D' cP (enc (cH c df ⟨s⟩)) v∧Go.RowKit.Below w.heap.size w (w.alloc (.cells ((Lib.splitB ⟨#[c]⟩ (if df then 1 else 0) (Lib.countB s ⟨#[c]⟩) s).map Value.string).toArray T)) ∧
   (∀ b o,D' b o→b<(w.alloc (.cells ((Lib.splitB ⟨#[c]⟩ (if df then 1 else 0) (Lib.countB s ⟨#[c]⟩) s).map Value.string).toArray T)).heap.size)∧∀ b o,D' b o→b<w.heap.size→D b o:=by
 have e:=adW c df s;have hlen:=Lib.splitB_all ⟨#[c]⟩ (show 1≤(⟨#[c]⟩:ByteArray).size from zz3 1) (if df then 1 else 0) _ s rfl;have hle:=Lib.countB_le ⟨#[c]⟩ (show 1≤(⟨#[c]⟩:ByteArray).size from zz3 1) s.size s (zz3 _);rw[←hlen];generalize Lib.splitB ⟨#[c]⟩ (if df then 1 else 0) (Lib.countB s ⟨#[c]⟩) s=l at *;have e2:cH c df ⟨s⟩=l.map aG.mk:=by rw[abq,e];rfl
 rw[e2];have hsz:∀ x∈l,x.size≤maxLen:=acm fun x hx=>by
  rw[e] at hx;have:=wQ c df _ x hx;have U:=Lib.size_eq s;unfold maxLen;omega
 refine ⟨_,_,rfl,adD w D T l hsz (by unfold maxLen;omega),(Go.RowKit.Below.refl _ w).alloc (zz3 _) _,fun b o ah =>?_,fun b o ah hb =>?_⟩
 ·rcases ah with ah | ⟨rfl,_⟩
  ·have:=hD b o ah;simp;omega
  ·simp
 ·rcases ah with ah | ⟨rfl,_⟩
  ·exact ah
  ·omega
theorem Jo(s:aG)(c:UInt8)(ab:s.l.length<4294967281):bd Tryz.prog 99 [enc s,enc (aG.of [c])] (enc (cH c false s)):=by
 refine ⟨LF,fun w D vs ao hD hv =>?_⟩;rw[AA hv];obtain ⟨m,hm⟩:=EW ao;rw[←aG.size] at ab;refine (Any.strings_Split aaT Ec s.b ⟨#[c]⟩ m w ab hm (zz3 1)).mono ?_;rintro e w' ⟨rfl,rfl⟩;exact Ht hD c false s.b ab 9
theorem Iq(s:aG)(c:UInt8)(ab:s.l.length<4294967281):bd Tryz.prog 122 [enc s,enc (aG.of [c]),.int .i64 1,.int .i64 (-1)] (enc (cH c true s)):=by
 refine ⟨KT,fun w D vs ao hD hv =>?_⟩;have hv':aH w D cP [.bm s.b,.bm ⟨#[c]⟩,.int .i64 1,.int .i64 (-1)] vs:=hv;simp only[aH] at hv';obtain ⟨v,rest,cs,rfl,J,U,v2,rest2,cs2,rfl,af,ar,v3,rest3,cs3,rfl,h5,h6,v4,rest4,cs4,rfl,h7,h8,rfl⟩:=hv';rw[(iw (gL J U)).1,(iw (gL af ar)).1,(eJ (gL h5 h6)).1,(eJ (gL h7 h8)).1];obtain ⟨m,hm⟩:=EW ao;rw[←aG.size] at ab;have hle:=Lib.countB_le ⟨#[c]⟩ (show 1≤(⟨#[c]⟩:ByteArray).size from zz3 1) s.b.size s.b (zz3 _);have hlen:=Lib.splitB_all ⟨#[c]⟩ (show 1≤(⟨#[c]⟩:ByteArray).size from zz3 1) 1 _ s.b rfl;have key:=Any.strings_genSplit aaV Ec s.b ⟨#[c]⟩ 1 (-1) (Lib.countB s.b ⟨#[c]⟩+1) m w ab hm (zz3 1) (zz3 1) (by decide) (by decide) (by rw[if_pos (by decide)];omega);rw[Nat.add_sub_cancel,hlen] at key;have e2:Lib.cellsOf (Lib.splitB ⟨#[c]⟩ 1 (Lib.countB s.b ⟨#[c]⟩) s.b) (Lib.countB s.b ⟨#[c]⟩+1)=((Lib.splitB ⟨#[c]⟩ 1 (Lib.countB s.b ⟨#[c]⟩) s.b).map Value.string).toArray:=by rw[←hlen];exact Lib.cellsOf_full _
 rw[e2] at key;refine Calls.mono key ?_;rintro e w' ⟨rfl,rfl⟩;exact Ht hD c true s.b ab 9
theorem Jn(s p:aG):bd Tryz.prog 98 [enc s,enc p] (.tuple [enc (aG.of (Lib.trimSuffix s.l p.l)),enc (Lib.hasSuffix s.l p.l)]):=by
 refine ⟨LD,fun w D vs ao hD hv =>?_⟩;have hsz:s.b.size≤maxLen:=by
  have hv':aH w D cP [.bm s.b,.bm p.b] vs:=hv;simp only[aH] at hv';obtain ⟨v,rest,cs,rfl,J,U,_⟩:=hv';exact (iw (gL J U)).2
 rw[AA hv];refine (Any.strings_CutSuffix aaR s.b p.b w (by unfold maxLen at hsz;omega)).mono ?_;rintro e w' ⟨rfl,rfl⟩;refine ⟨_,D,rfl,⟨[_,_],rfl,?_⟩,Go.RowKit.Below.refl _ w',hD,fun _ _ h _=>h⟩;simp only[aH];refine ⟨_,_,[_],rfl,by simp[bC,I.isAgg,enc];rfl,?_,_,_,[_],rfl,by simp[bC,I.isAgg,enc];rfl,?_,rfl⟩
 ·show al _ _ _ (.bm _) _
  simp only[al];refine ⟨rfl,?_⟩
  show (Lib.trimSuffix s.l p.l).toArray.size≤maxLen
  have J:(Lib.trimSuffix s.l p.l).length≤s.l.length:=by unfold Lib.trimSuffix;split <;>simp
  rw[aG.size] at hsz;simp only[List.size_toArray];omega
 ·show al _ _ _ (.bool _) _
  simp only[al];rfl
def kM(l:List UInt8):I:=match Lib.atoiAll l with
 | .ok v=>.tuple [enc v,.dL]
 | .«syntax» =>.tuple [enc (0:Int),.iface 192 .any]
 | .range=>.tuple [enc (Lib.atoiSat l),.iface 192 .any]
theorem Ir(s:aG)(ab:s.l.length≤281474976710656):bd Tryz.prog 124 [enc s] (kM s.l):=by
 refine ⟨KU,fun w D vs ao hD hv =>?_⟩;have hv':aH w D cP [.bm s.b] vs:=hv;simp only[aH] at hv';obtain ⟨v,rest,cs,rfl,J,U,rfl⟩:=hv';rw[(iw (gL J U)).1];rw[←aG.size] at ab;obtain ⟨_, hv1, t1, p1, rfl⟩ := ao.tV (n := "strconv.ErrSyntax") (k := .pK) (by simp [ny]) Zk
 obtain ⟨_, hv2, t2, p2, rfl⟩ := ao.tV (n := "strconv.ErrRange") (k := .pK) (by simp [ny]) Zi
 have fail:∀ (n:Int) (w':World) (N:Nat),IntKind.i64.min≤n∧n≤IntKind.i64.max→Go.RowKit.Below w.heap.size w w' →
   ∃ v D',(Ending.returned (.tuple #[.int .i64 n,.iface 192 (.pointer (some ⟨N,0,none⟩))])=.returned v)∧a8 w' D' cP (.tuple [enc n,.iface 192 .any]) v∧Go.RowKit.Below w.heap.size w w'∧(∀ b o,D' b o→b<w'.heap.size)∧∀ b o,D' b o→b<w.heap.size→D b o:=by
  intro n w' N hn hb;refine ⟨_,D,rfl,⟨[_,_],rfl,?_⟩,hb,fun b o ah=>Nat.lt_of_lt_of_le (hD b o ah) hb.size,fun _ _ h _=>h⟩;simp only[aH];refine ⟨_,_,[_],rfl,by simp[bC,I.isAgg,enc];rfl,?_,_,_,[_],rfl,by simp[bC,I.isAgg];rfl,?_,rfl⟩
  ·show al _ _ _ (.int .i64 n) _
   simp only[al,true_and];exact hn
  ·simp only[al];exact ⟨_,[_],rfl,by simp[bC,I.isAgg];rfl,_,rfl,rfl⟩
 have hmin:IntKind.i64.min=-9223372036854775808:=by decide
 have hmax:IntKind.i64.max=9223372036854775807:=by decide
 cases hr:Lib.atoiAll s.b.data.toList with
 |ok n =>
  refine (Any.strconv_Atoi_ok xY s.b (by omega) n hr w).mono ?_;rintro e w' ⟨rfl,hw⟩;have hb:Go.RowKit.Below w.heap.size w w':=by
   rcases hw with rfl | ⟨t,rfl⟩
   ·exact Go.RowKit.Below.refl _ _
   ·exact Lib.bytesWorld_below _ _ _
  have hn:=Lib.atoiAll_bounds hr;have e0:kM s.l=.tuple [enc n,.dL]:=by
   show kM s.b.data.toList=_
   simp only[kM,hr]
  rw[e0];refine ⟨_,D,rfl,⟨[_,_],rfl,?_⟩,hb,fun b o ah=>Nat.lt_of_lt_of_le (hD b o ah) hb.size,fun _ _ h _=>h⟩;simp only[aH];refine ⟨_,_,[_],rfl,by simp[bC,I.isAgg,enc];rfl,?_,_,_,[_],rfl,by simp[bC,I.isAgg];rfl,?_,rfl⟩
  ·show al _ _ _ (.int .i64 n) _
   simp only[al,true_and];rw[hmin,hmax];omega
  ·simp only[al]
 | «syntax» =>
  have e0:kM s.l=.tuple [enc (0:Int),.iface 192 .any]:=by
   show kM s.b.data.toList=_
   simp only[kM,hr]
  rw[e0];refine (Any.strconv_Atoi_syntax_var xY s.b ab hr t1 p1 w hv1).mono ?_;rintro e w' ⟨N,rfl,_,_,hb⟩;exact fail 0 w' N (by rw[hmin,hmax];omega) hb
 |range =>
  have e0:kM s.l=.tuple [enc (Lib.atoiSat s.l),.iface 192 .any]:=by
   show kM s.b.data.toList=_
   simp only[kM,hr];rfl
  rw[e0];refine (Any.strconv_Atoi_range_var xY s.b ab hr t2 p2 w hv2).mono ?_;rintro e w' ⟨N,rfl,_,_,hb⟩;have hn:=Lib.atoiSat_bounds s.b.data.toList;exact fail _ w' N (by rw[hmin,hmax];exact hn) hb
end Go.Proofs.YthbdbocionnfgaaGreatDoor
namespace Go.Proofs.YthbdbocionnfgaaGreatDoor
open Go Go.Abs
open Go.Abs.Enc (enc)
theorem aV.G7{K:ai→Prop}{aD:Int}{l:List bn}{avs:List I}{a1 a2:Option (List I)}{dst:Option Nat}{rest:List aJ}{ts:List (Nat×I)}{os0:List (Nat×aq)}(ao:l.length≤200)(hav:avs=[enc aD,enc l])(hno:∀ m,2000≤m→m<1000000→ak os0 m=none)
  (J:ga aD l=none→aV Tryz.prog dA false K (aE rest ((aw ts os0).aW dst (.tuple [.nilp,.bool false]))))
  (U:∀ s,ga aD l=some s→aV Tryz.prog dA false K (aE rest ((aw ts (dE s++os0)).aW dst (.tuple [.ptr 2000 [],.bool true])))):aV Tryz.prog dA false K (.call 62 avs a1 a2 dst rest (aw ts os0)):=by
 subst hav;refine .bU false [] [] [enc aD,enc l] _ rfl (IY aD l ao) ⟨fun m x hx=>by simp[ak] at hx,fun m m' hm=>by simp[ay,ak] at hm⟩ ⟨.inl ⟨(lM _ _).symm,b7 _ _,eF _⟩,.inl ⟨(lM _ _).symm,b7 _ _,eF _⟩,trivial⟩ ?_ ?_
 ·intro r os' hp;unfold r8 at hp;cases hr:ga aD l with
  |none =>
   rw[hr] at hp;obtain ⟨rfl,rfl⟩:=hp;exact ⟨fun m y hy=>by simp[ak] at hy,fun m m' hm=>by simp[ay,ak] at hm,fun m hm=>hm,fun m hm=>by simp[ay,ak] at hm,rfl,fun h=>by cases h⟩
  |some s =>
   rw[hr] at hp;obtain ⟨rfl,rfl⟩:=hp;obtain ⟨hk,hme,hln⟩:=nN (lU aD) hr;have hln2:s.all.length≤200:=by have:(Go.Proofs.YthbdbocionnfgaaGreatDoor.fk aD).all.length=0:=rfl;omega
   refine ⟨fun m y hy=>⟨(ma hk hy).1,(ma hk hy).2,fun h=>by cases h⟩,fun m m' _ _ h=>h,fun m hm=>by simp[ay,ak] at hm,fun m hm _ =>?_,?_,fun h=>by cases h⟩
   ·have:=zF hm;exact ⟨hno m (by omega) (by omega),by simp only[bP];omega⟩
   ·have:=(dY (jl s.all.length) (n:=2000)).2 (.inl (by omega));simp[I.only,I.b8,this]
 ·intro r os' hp;unfold r8 at hp;cases hr:ga aD l with
  |none =>
   rw[hr] at hp;obtain ⟨rfl,rfl⟩:=hp;exact J hr
  |some s =>
   rw[hr] at hp;obtain ⟨rfl,rfl⟩:=hp;rw[mN];exact U s hr
theorem aV.G8{K:ai→Prop}{aD:Int}{l:List bn}{avs:List I}{a1 a2:Option (List I)}{dst:Option Nat}{rest:List aJ}{ts:List (Nat×I)}{os0:List (Nat×aq)}(ao:l.length≤200)(hr:ga aD l=none)(hav:avs=[enc aD,enc l])(hno:∀ m,2000≤m→m<1000000→ak os0 m=none)
  (J:aV Tryz.prog dA false K (aE rest ((aw ts os0).aW dst (.tuple [.nilp,.bool false])))):aV Tryz.prog dA false K (.call 62 avs a1 a2 dst rest (aw ts os0)) :=
 aV.G7 ao hav hno (fun _=>J) fun s h=>by rw[hr] at h;cases h
theorem aV.G9{K:ai→Prop}{aD:Int}{l:List bn}{s:aI}{avs:List I}{a1 a2:Option (List I)}{dst:Option Nat}{rest:List aJ}{ts:List (Nat×I)}{os0:List (Nat×aq)}(ao:l.length≤200)(hr:ga aD l=some s)(hav:avs=[enc aD,enc l])(hno:∀ m,2000≤m→m<1000000→ak os0 m=none)
  (J:aV Tryz.prog dA false K (aE rest ((aw ts (dE s++os0)).aW dst (.tuple [.ptr 2000 [],.bool true])))):aV Tryz.prog dA false K (.call 62 avs a1 a2 dst rest (aw ts os0)) :=
 aV.G7 ao hav hno (fun h=>by rw[hr] at h;cases h) fun s' h=>by rw[hr] at h;cases h;exact J
theorem uz(k:Nat)(hk:k<2000)(z:aq):∀ m,2000≤m→m<1000000→ak [(k,z)] m=none:=fun m h _=>by simp only[ak];rw[if_neg (by omega)]
theorem aZ:(∀ aP A,br aP A .nilp=some .nilp)∧(∀ aP A (x:I),x.bG=true→br aP A (.ref x)=some (.ref x)):=⟨fun _ _=>by simp only[br],fun _ _ x h=>by simp only[br,h,if_true]⟩
def iG(p:bI):Bool:=dJ 0 5 p.aD&&(decide (p.j.length≤200)&&dJ 0 p.j.length p.di)
def dD(p:bI):Option aI:=if iG p then ga p.aD p.j else none
def kX(o:Option aI):I:=match o with
 |some s=>.tuple [dP s,.int .i64 0]
 |none=>.tuple [.nilp,.int .i64 91]
def nG(p:bI):cL:=fun r os'=>match dD p with
 |some s=>r=.tuple [.ptr 2000 [],.int .i64 0]∧os'=dE s
 |none=>r=.tuple [.nilp,.int .i64 91]∧os'=[]
theorem iJ{p:bI}{s:aI}(h:dD p=some s):cI s∧s.aD=p.aD∧s.all.length≤p.j.length∧p.j.length≤200∧iG p=true∧ga p.aD p.j=some s:=by
 simp only[dD] at h;split at h
 ·rename_i bz;obtain ⟨hk,hme,hln⟩:=nN (lU p.aD) h;refine ⟨hk,hme,by simpa[fk] using hln,?_,bz,h⟩;simp only[iG,zz0,decide_eq_true_eq] at bz;exact bz.2.1
 ·cases h
theorem PT{s:aI}(hk:cI s)(z:aq):∀ ts,c8 (aw ts (dE s++[(1,z)])) 9 (.agg [.int .i64 s.aD,.mref 2001,.mref 2002,.int .i64 s.all.length,.mref 2003,.mref 2004])=some (gq s):=fun ts =>
 ib (ik (jl _) hk.cJ fun n hn=>by
  rw[fY];cases h:ak (dE s) n with
  |none=>simp[ay,h] at hn
  |some y=>rfl) 4
theorem yl:∀ a b c d e:I,(I.agg [a,.mref 2001,b,c,d,e]).bG=false:=fun a b c d e=>by simp[I.bG,I.cv]
theorem EK(s:aI)(z:aq):ak (dE s++[(1,z)]) 2000=some (.box (.agg [.int .i64 s.aD,.mref 2001,.mref 2002,.int .i64 s.all.length,.mref 2003,.mref 2004])):=by
 rw[fY,fN];rfl
theorem EL(s:aI)(z:aq):ak (dE s++[(1,z)]) 1=some z:=by
 rw[fY,eV (.inl (by omega)) fun i _=>by simp only[bJ];omega];rfl
theorem FH{p:bI}(h:I.gE [enc p]):p.j.length≤maxLen :=
 ((kI p.j).1 (by have:=h.1;simp only[enc,I.wf,I.gE] at this;exact this.2.1)).1
theorem qL(p:bI):bd Tryz.prog 69 [enc p] (kX (dD p)):=by
 refine bd.b5 Tryz.func69 B4 Cm Cw (t7 rfl) (fun hwf W0 bH E1 =>?_);simp only[wF,y5,bM];have hlen:=FH hwf;clear hwf;have hg:decide ((p.j.length:Int)>200) = !decide (p.j.length≤200):=by by_cases h:p.j.length≤200 <;>simp[h] <;>omega
 have hF1:=nd p.aD;have hF2:=pn p.di 0 p.j.length;rcases q1:dJ 0 5 p.aD <;>rcases q2:decide (p.j.length≤200) <;>rcases q3:dJ 0 p.j.length p.di
 case true.true.true =>
  have hok:iG p=true:=by simp[iG,q1,q2,q3]
  have ao:p.j.length≤200:=of_decide_eq_true q2;have hop:dD p=ga p.aD p.j:=by simp[dD,hok]
  rw[q1] at hF1;rw[q3] at hF2;rw[q2] at hg;rw[hop];cases hr:ga p.aD p.j with
  |none =>
   have R:=y6 @hg (y6 @aZ (y6 @e6 (y6 @bw (y6 @bl (y6 @bj az)))))
   repeat' ((first |(with_reducible refine .guard (fun hb =>?_) (fun hb =>?_) <;>try simp only[hb])|refine ae.aB (by decide +kernel) rfl fun K hK =>?_|refine .flat _ (hF1) rfl ?_|refine .flat _ (hF2) rfl ?_|refine aV.G8 ao hr rfl (uz 1 (by decide) _) ?_|(refine .au [0,1,2,3,4,5,24,34] hK ?_;clear hK K)|(with_reducible refine .done (hK _ ?_);clear hK K)|refine ae.of rfl ?_|(with_reducible refine av.aA (fun h =>?_) (fun h =>?_) <;>try simp only[h])) <;>try simp only[aC,R,simprocAttr])
   all_goals clear R
   rfl
  |some s =>
   have hfin:=PT (nN (lU p.aD) hr).1 (.box (enc p));have hla:=EK s (.box (enc p));have hlb:=EL s (.box (enc p));have R:=y6 @hg (y6 @hfin (y6 @hla (y6 @hlb (y6 @yl (y6 @aZ (y6 @e6 (y6 @bw (y6 @bl (y6 @bj az)))))))))
   repeat' ((first |(with_reducible refine .guard (fun hb =>?_) (fun hb =>?_) <;>try simp only[hb])|refine ae.aB (by decide +kernel) rfl fun K hK =>?_|refine .flat _ (hF1) rfl ?_|refine .flat _ (hF2) rfl ?_|refine aV.G9 ao hr rfl (uz 1 (by decide) _) ?_|(refine .au [0,1,2,3,4,5,24,34] hK ?_;clear hK K)|(with_reducible refine .done (hK _ ?_);clear hK K)|refine ae.of rfl ?_|(with_reducible refine av.aA (fun h =>?_) (fun h =>?_) <;>try simp only[h])) <;>try simp only[aC,R,simprocAttr])
   all_goals clear R
   rfl
 all_goals
  have hop:dD p=none:=by simp[dD,iG,q1,q2,q3]
  rw[q1] at hF1;rw[q3] at hF2;rw[q2] at hg;rw[hop];have R:=y6 @hg (y6 @aZ (y6 @e6 (y6 @bw (y6 @bl (y6 @bj az)))))
  repeat' ((first |(with_reducible refine .guard (fun hb =>?_) (fun hb =>?_) <;>try simp only[hb])|refine ae.aB (by decide +kernel) rfl fun K hK =>?_|refine .flat _ (hF1) rfl ?_|refine .flat _ (hF2) rfl ?_|(refine .au [0,1,2,3,4,5,24,34] hK ?_;clear hK K)|(with_reducible refine .done (hK _ ?_);clear hK K)|refine ae.of rfl ?_|(with_reducible refine av.aA (fun h =>?_) (fun h =>?_) <;>try simp only[h])) <;>try simp only[aC,R,simprocAttr])
  all_goals clear R
  rfl
theorem Ag(p:bI):cY Tryz.prog 69 [enc p] [] (nG p):=by
 refine cY.b5 Tryz.func69 B4 Cm Cw (t7 rfl) (t7 rfl) (fun m hm=>by simp[ay,ak] at hm) (fun hwf W0 bH E1 =>?_);simp only[wF,y5,bM];have hlen:=FH hwf;clear hwf;have hg:decide ((p.j.length:Int)>200) = !decide (p.j.length≤200):=by by_cases h:p.j.length≤200 <;>simp[h] <;>omega
 have hF1:=nd p.aD;have hF2:=pn p.di 0 p.j.length;have fail:∀ ts os,dD p=none→Abs.b9 ts 2=.nilp→Abs.b9 ts 3=.int .i64 91→jD [.tmp 2,.tmp 3] (nG p) (aw ts os):=fun ts os hop U af=>by
  refine ⟨[],[.nilp,.int .i64 91],fun n x hx=>by simp[ak] at hx,⟨⟨.nilp,congrArg some U,.inl ⟨rfl,rfl,rfl⟩⟩,⟨.int .i64 91,congrArg some af,.inl ⟨rfl,rfl,rfl⟩⟩,trivial⟩,?_⟩;unfold nG;rw[hop];exact ⟨rfl,rfl⟩
 rcases q1:dJ 0 5 p.aD <;>rcases q2:decide (p.j.length≤200) <;>rcases q3:dJ 0 p.j.length p.di
 case true.true.true =>
  have hok:iG p=true:=by simp[iG,q1,q2,q3]
  have ao:p.j.length≤200:=of_decide_eq_true q2;have hop:dD p=ga p.aD p.j:=by simp[dD,hok]
  rw[q1] at hF1;rw[q3] at hF2;rw[q2] at hg;cases hr:ga p.aD p.j with
  |none =>
   rw[hr] at hop;have R:=y6 @hg (y6 @aZ (y6 @e6 (y6 @bw (y6 @bl (y6 @bj az)))))
   repeat' ((first |(with_reducible refine .guard (fun hb =>?_) (fun hb =>?_) <;>try simp only[hb])|refine ae.aB (by decide +kernel) rfl fun K hK =>?_|refine .flat _ (hF1) rfl ?_|refine .flat _ (hF2) rfl ?_|refine aV.G8 ao hr rfl (uz 1 (by decide) _) ?_|(refine .au [0,1,2,3,4,5,24,34] hK ?_;clear hK K)|(with_reducible refine .done (hK _ ?_);clear hK K)|refine ae.of rfl ?_|(with_reducible refine av.aA (fun h =>?_) (fun h =>?_) <;>try simp only[h])) <;>try simp only[aC,R,simprocAttr])
   all_goals clear R
   exact fail _ _ hop rfl rfl
  |some s =>
   have hk:=(nN (lU p.aD) hr).1;rw[hr] at hop;have hla:=EK s (.box (enc p));have hlb:=EL s (.box (enc p));have R:=y6 @hg (y6 @hla (y6 @hlb (y6 @yl (y6 @aZ (y6 @e6 (y6 @bw (y6 @bl (y6 @bj az))))))))
   repeat' ((first |(with_reducible refine .guard (fun hb =>?_) (fun hb =>?_) <;>try simp only[hb])|refine ae.aB (by decide +kernel) rfl fun K hK =>?_|refine .flat _ (hF1) rfl ?_|refine .flat _ (hF2) rfl ?_|refine aV.G9 ao hr rfl (uz 1 (by decide) _) ?_|(refine .au [0,1,2,3,4,5,24,34] hK ?_;clear hK K)|(with_reducible refine .done (hK _ ?_);clear hK K)|refine ae.of rfl ?_|(with_reducible refine av.aA (fun h =>?_) (fun h =>?_) <;>try simp only[h])) <;>try simp only[aC,R,simprocAttr])
   all_goals clear R
   refine ⟨dE s,[.ptr 2000 [],.int .i64 0],fun n x hx=>⟨?_,ma hk hx⟩,⟨⟨_,rfl,.inl ⟨rfl,rfl,?_⟩⟩,⟨_,rfl,.inl ⟨rfl,rfl,rfl⟩⟩,trivial⟩,?_⟩
   ·show ak (dE s++_) n=some x
    rw[fY,hx]
   ·exact (dY (jl s.all.length) (n:=2000)).2 (.inl (by omega))
   ·unfold nG;rw[hop];exact ⟨rfl,rfl⟩
 all_goals
  have hop:dD p=none:=by simp[dD,iG,q1,q2,q3]
  rw[q1] at hF1;rw[q3] at hF2;rw[q2] at hg;have R:=y6 @hg (y6 @aZ (y6 @e6 (y6 @bw (y6 @bl (y6 @bj az)))))
  repeat' ((first |(with_reducible refine .guard (fun hb =>?_) (fun hb =>?_) <;>try simp only[hb])|refine ae.aB (by decide +kernel) rfl fun K hK =>?_|refine .flat _ (hF1) rfl ?_|refine .flat _ (hF2) rfl ?_|(refine .au [0,1,2,3,4,5,24,34] hK ?_;clear hK K)|(with_reducible refine .done (hK _ ?_);clear hK K)|refine ae.of rfl ?_|(with_reducible refine av.aA (fun h =>?_) (fun h =>?_) <;>try simp only[h])) <;>try simp only[aC,R,simprocAttr])
  all_goals clear R
  exact fail _ _ hop rfl rfl
def iB(p:bI):Int:=match dD p with
 |some _=>0
 |none=>91
theorem sT(p:bI):bd Tryz.prog 23 [enc p] (enc (iB p)):=by
 refine bd.b5 Tryz.func23 K2 Ma Nx (t7 rfl) (fun hwf W0 bH E1 =>?_);simp only[Bf,Gn,bM];have hF:=qL p;simp only[iB];cases ho:dD p with
 |none =>
  rw[ho] at hF;simp only[kX] at hF;have R:=y6 @aZ (y6 @e6 (y6 @bw (y6 @bl (y6 @bj az))))
  repeat' ((first |refine ae.aB (by decide +kernel) rfl fun K hK =>?_|refine .lead _ (hF) ?_|(refine .au [0,1,2,4] hK ?_;clear hK K)|(with_reducible refine .done (hK _ ?_);clear hK K)|refine ae.of rfl ?_|(with_reducible refine av.aA (fun h =>?_) (fun h =>?_) <;>try simp only[h])) <;>try simp only[aC,R,simprocAttr])
  all_goals clear R
  all_goals rfl
 |some s =>
  rw[ho] at hF;simp only[kX] at hF;have R:=y6 @eU (y6 @aZ (y6 @e6 (y6 @bw (y6 @bl (y6 @bj az)))))
  repeat' ((first |refine ae.aB (by decide +kernel) rfl fun K hK =>?_|refine .lead _ (hF) ?_|(refine .au [0,1,2,4] hK ?_;clear hK K)|(with_reducible refine .done (hK _ ?_);clear hK K)|refine ae.of rfl ?_|(with_reducible refine av.aA (fun h =>?_) (fun h =>?_) <;>try simp only[h])) <;>try simp only[aC,R,simprocAttr])
  all_goals clear R
  all_goals rfl
end Go.Proofs.YthbdbocionnfgaaGreatDoor
