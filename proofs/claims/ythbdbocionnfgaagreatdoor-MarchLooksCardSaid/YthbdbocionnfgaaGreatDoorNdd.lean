/-
  A part of the proof that the law MarchLooks returns true for every input; three tables of Go's library start as the text lays them (the card ties them); conditions: none beyond the statement's own. (part 4 of 7)
-/
import Derived.ProofKit
import Derived.SizedLaws
import Derived.WalkKit
import Derived.Tactics
import Derived.Tactics2
import Derived.RecoverIn
import Derived.Test.YthbdbocionnfgaaGreatDoorRows
import Derived.Test.YthbdbocionnfgaaGreatDoorCards
import Derived.Test.YthbdbocionnfgaaGreatDoorTie
import Derived.LaidMore
import Derived.MakeChecks
import Derived.Lib.LaidTab
import Derived.Lib.LaidU8
import Derived.Test.YthbdbocionnfgaaGreatDoorNdc
set_option linter.unusedSimpArgs false
set_option linter.unusedVariables false
set_option maxHeartbeats 16000000
set_option maxRecDepth 100000
namespace Go.Abs
open Go Go.RowKit
def gz:aI:=⟨none,.mv (.c (.bool true)),none⟩
theorem Ik{l:List Oper}{cl:List Nat}(h7:∀ i,i<l.length→(((l.map cq).getD i []).all (fun k=>decide (k<i))&&Nat.beq (cl.getD i 0) (lC cl ((l.map cq).getD i [])))=true)
  {S:Nat→Prop} (hS:∀ i o,l[i]?=some o→S i→∀ k∈cq o,S k):∀ n i o,i≤n→l[i]?=some o→(∀ k∈cq o,S k)→∀ j,(cl.getD i 0).testBit j=true→S j:=by
 have fB:∀ i o,l[i]?=some o→(∀ k∈cq o,k<i)∧(∀ j,(cl.getD i 0).testBit j=true→j∈cq o∨∃ k∈cq o,(cl.getD k 0).testBit j=true):=by
  intro i o ho;have hi:i<l.length:=(zz6.1 ho).1;have h8:=h7 i hi;have hon:(l.map cq).getD i []=cq o:=by simp[zz0,ho]
  rw[hon] at h8;simp only[t8,zx0,decide_eq_true_eq] at h8;have hb:=Nat.eq_of_beq_eq_true h8.2;exact ⟨h8.1,fun j hj=>rZ (by rw[←hb];exact hj)⟩
 intro n
 induction n with
 |zero =>
  intro i o hi ho hon j hj;obtain ⟨h8,h9⟩:=fB i o ho;rcases h9 j hj with h | ⟨k,hk,_⟩
  ·exact hon j h
  ·have:=h8 k hk;omega
 |succ n ih =>
  intro i o hi ho hon j hj;obtain ⟨h8,h9⟩:=fB i o ho;rcases h9 j hj with h | ⟨k,hk,hjk⟩
  ·exact hon j h
  ·have hki:=h8 k hk;have hkl:k<l.length:=Nat.lt_trans hki (zz6.1 ho).1;obtain ⟨ok,hok⟩:∃ ok,l[k]?=some ok:=⟨l[k],zy3 hkl⟩
   exact ih k ok (by omega) hok (hS k ok hok (hon k hk)) j hjk
def Dm(ab:List FuncId)(L:dZ)(on:List (List Nat))(gs:List aI)(σ:List Nat)(m:Nat):Bool :=
 pN ab L on (gs.take m++[gz]) (ka on) (σ++[m])&&(td (m+1) (ka on) m&&Nat.beq gs.length (m+1))
section
variable {c:cV}
theorem Hy{K:ai→Prop}{fs:List FuncId}{L:dZ}{aW:Array Oper}{gs0 gs:List aI}{σ:List Nat}{Q:Exit→Act→World→Prop}{m:Nat}(hm:m<aW.size)(hQ:∀ (B:ai) (a:Act) (w:World) (Kw:Act→World→Prop),K B→b6 c B a w→wpOpIn c.bC 9 c.P aW Q m Kw a w)
  (hgs:fM c.P c.n aW aW.toList=some gs0) (hsame:∀ i,i≠m→gs[i]?=gs0[i]?) (hgm:gs[m]?=some gz) (hgl:gs.length=aW.size) (af:uE fs L aW.toList gs σ)
  (hlast:∀ (S:Nat→Prop),(∀ i o,aW.toList[i]?=some o→S i→∀ k∈cq o,S k)→∀ o,aW.toList[m]?=some o→(∀ k∈cq o,S k)→∀ j,j<gs.length→j≠m→S j) :
  ∀ (fuel:Nat) (listed:Array Bool) (A:ai) (a:Act) (w:World),listed.size=aW.size→(∀ i o,aW.toList[i]?=some o→listed.getD i false=true→∀ k∈cq o,listed.getD k false=true)→(dX σ listed).length≤fuel →
   cW L A→listed.getD m true=false→bO c.P c.Y fs K (aB (gB gs σ listed) A)→b6 c A a w→wpAnyIn c.bC 9 c.P .any aW Q fuel listed a w:=by
 obtain ⟨hlen,hat⟩:=iz hgs;have onOf_mem:∀ (o:Oper) (e:Edge),e∈o.after→Region.binds .any e=true→e.on∈cq o:=fun o e he hb=>by
  simp only[cq,zx1,zw3];exact ⟨e,⟨by simpa using he,hb⟩,rfl⟩
 have of_onOf:∀ (o:Oper) (k:Nat),k∈cq o→∃ e∈o.after,Region.binds .any e=true∧e.on=k:=fun o k hk=>by
  simp only[cq,zx1,zw3] at hk;obtain ⟨e,⟨J,U⟩,ah⟩:=hk;exact ⟨e,by simpa using J,U,ah⟩
 have last:∀ (listed:Array Bool),listed.size=aW.size→Region.ready .any aW listed=[]→listed.getD m true=false→False:=by
  intro listed hsz hr hml;have all:∀ n,∀ i,i<n→i<aW.size→listed.getD i true=true:=by
   intro n
   induction n with
   |zero=>intro i hi;omega
   |succ n ih =>
    intro i hi his;cases hb:listed.getD i true with
    |true=>rfl
    |false =>
     exfalso
     have ho:aW[i]?=some aW[i]:=zw7 his;have:i∈Region.ready .any aW listed:=mem_ready.2 ⟨hb,aW[i],ho,fun e he hbd=>by
      have hlt:=af.iw i aW[i] (by simp) e.on (onOf_mem _ e he hbd);have J:=ih e.on (by omega) (by omega);have U:e.on<listed.size:=by omega
      simpa[Array.getD_eq_getD_getElem?,U] using J⟩
     rw[hr] at this;cases this
  have:=all (m+1) m (by omega) hm;rw[hml] at this;cases this
 intro fuel
 induction fuel with
 |zero =>
  intro listed A a w hsz hcl hcnt hinv hml hwp ab;have hnone:dX σ listed=[]:=List.length_eq_zero_iff.1 (by omega);have:m∈dX σ listed:=by
   simp only[dX,zw3,hml,Bool.not_false,and_true];exact af.all m (by omega)
  rw[hnone] at this;cases this
 |succ fuel ih =>
  intro listed A a w hsz hcl hcnt hinv hml hwp ab;refine ⟨fun hr=>(last listed hsz hr hml).elim,fun i hi =>?_⟩;obtain ⟨hun,o,ho,hall⟩:=mem_ready.1 hi;have hin:i<aW.size:=(zy1.1 ho).1;obtain ⟨s1,s2,hσ,e1,e2⟩:=xv af.nW (af.all i (by omega)) (by omega) hun;have hol:aW.toList[i]?=some o:=by simpa using ho
  obtain ⟨g,hgi0,hcg⟩:=hat i o hol;have hon:∀ k∈cq o,listed.getD k false=true:=fun k hk=>by
   obtain ⟨e,J,U,ah⟩:=of_onOf o k hk;exact ah▸hall e J U
  by_cases him:i=m
  ·subst him;have hnil:dX σ listed=[i]:=by
    have hz:∀ j∈s1++s2,(!listed.getD j true)=false:=fun j hj=>by
     have hjσ:j∈σ:=by rw[hσ];rcases zx7.1 hj with h | h <;>simp[h]
     have hjl:=af.lt j hjσ;have hji:j≠i:=fun e=>by
      subst e;have hnd:=af.nW;rw[hσ] at hnd;rcases zx7.1 hj with h | h
      ·exact (List.nodup_append.1 hnd).2.2 j h j (by simp) rfl
      ·exact (List.nodup_cons.1 (List.nodup_append.1 hnd).2.1).1 h
     have h5:=hlast (fun k=>listed.getD k false=true) hcl o hol hon j hjl hji;have hjs:j<listed.size:=by omega
     simp[Array.getD_eq_getD_getElem?,hjs] at h5 ⊢;exact h5
    rw[e1];have f1:(s1.filter fun j => !listed.getD j true)=[]:=List.filter_eq_nil_iff.2 fun j hj=>by rw[hz j (List.mem_append_left _ hj)];simp
    have f2:(s2.filter fun j => !listed.getD j true)=[]:=List.filter_eq_nil_iff.2 fun j hj=>by rw[hz j (List.mem_append_right _ hj)];simp
    rw[f1,f2];rfl
   have hgd:gs.getD i default=gz:=by simp[zz0,hgm]
   simp only[gB,hnil,zz3,zx4,hgd] at hwp;have e:aB [gz] A=.done A:=rfl;rw[e] at hwp;cases hwp with
   |done hk=>exact hQ A a w _ hk ab
  have hgi:gs[i]?=some g:=by rw[hsame i him];exact hgi0
  have hgd:gs.getD i default=g:=by simp[zz0,hgi]
  have hwp':bO c.P c.Y fs K (aB (g::gB gs σ (listed.setIfInBounds i true)) A):=by
   simp only[gB,e1,zy5,zz3,hgd] at hwp;simp only[gB,e2,zy5];refine bO.nz hinv (fun j hj =>?_) hwp;obtain ⟨k,hk,rfl⟩:=zx1.1 hj;obtain ⟨hk1,hk2⟩:=zw3.1 hk;have:=af.pk (fun k=>listed.getD k false=true) hcl s1 i s2 o hσ hol hon k hk1 (by
    have hks:k<listed.size:=by
     have:=af.lt k (by rw[hσ];exact List.mem_append_left _ hk1);omega
    simp[Array.getD_eq_getD_getElem?,hks] at hk2 ⊢;exact hk2)
   rw[hgd] at this;have hkl:=af.lt k (by rw[hσ];exact List.mem_append_left _ hk1);have hks:k<aW.size:=by omega
   refine ⟨this,?_⟩;rcases af.qR k aW[k] (by simp) with h | h
   ·exact h
   ·exfalso
    have h9:=h.1;rw[hσ,List.getLast?_append] at h9;have hne:(i::s2).getLast?=some k:=by
     cases h10:(i::s2).getLast? with
     |none=>simp at h10
     |some q=>rw[h10] at h9;simpa using h9
    have hk2:k∈i::s2:=List.mem_of_getLast? hne;have hnd:=af.nW;rw[hσ] at hnd;exact (List.nodup_append.1 hnd).2.2 k hk1 k hk2 rfl
  unfold wpOpIn;rw[ho];have hokg:mQ g.op=true:=by
   have:=af.ok i (by omega)
   rwa [hgd] at this
  have hcl':∀ m om,aW.toList[m]?=some om→(listed.setIfInBounds i true).getD m false=true→∀ k∈cq om,(listed.setIfInBounds i true).getD k false=true:=by
   intro m om hom hm k hk;by_cases hmi:m=i
   ·subst hmi;rw[hol,v6] at hom;subst hom;exact getD_set_true (hon k hk)
   ·rw[getD_set_ne false (Ne.symm hmi)] at hm;exact getD_set_true (hcl m om hom hm k hk)
  have hfu:(dX σ (listed.setIfInBounds i true)).length≤fuel:=by
   have:(dX σ listed).length=(dX σ (listed.setIfInBounds i true)).length+1:=by
    rw[e1,e2];simp;omega
   omega
  have hml':(listed.setIfInBounds i true).getD m true=false:=by rw[getD_set_ne true him];exact hml
  rcases af.qR i o hol with hlb | ⟨hla,hlb⟩
  ·rw[hgd] at hlb;exact sU hcg hinv ⟨hokg,hlb⟩ hwp' ab fun B a' w' hw hiB hs'=>ih _ B a' w' (by simpa using hsz) hcl' hfu hiB hml' hw hs'
  ·exfalso
   have h5:=hlb (fun k=>listed.getD k false=true) hcl hon m (by omega) (Ne.symm him);have hms:m<listed.size:=by omega
   simp[Array.getD_eq_getD_getElem?,hms] at h5 hml;rw[hml] at h5;cases h5
theorem ae.jE{Q:Exit→ai→Prop}{A:ai}{on:List (List Nat)}{gs:List aI}(m:Nat)(ab:List FuncId)(L:dZ)(σ:List Nat){g:bT}{dst:Option Nat}(af:Dm ab L on gs σ m=true)(hk:gs[m]?=some ⟨dst,g,none⟩)(hi:cW L A)
  (h:∀ K:ai→Prop,(∀ B,mD c.P Q g B→K B)→bO c.P c.Y ab K (aB (e8 (σ++[m]) (gs.take m++[gz])) A)):ae c (.cw (some on) gs) Q A:=by
 intro code hc a w hs';cases code <;>simp only[eA] at hc <;>try (first | (cases hc;done) | ((repeat' split at hc) <;>cases hc;done))
 rename_i id aW draw;split at hc
 case h_2=>cases hc
 rename_i gs' hgs;split at hc
 case isFalse=>cases hc
 rename_i hok;simp only[v6,bp.cw.injEq] at hc;obtain ⟨he,rfl⟩:=hc;cases draw with
 |false=>cases he
 |true =>
  simp only[cond_true,v6] at he;subst he;simp only[Bool.not_true,Bool.false_or] at hok;simp only[Dm,t8] at af;obtain ⟨hd1,hd2,hd3⟩:=af;have hglen:=Nat.eq_of_beq_eq_true hd3;have hops:gs'.length=aW.size:=by rw[(iz hgs).1,zx2]
  have hXl:(gs'.take m++[gz]).length=aW.size:=by simp;omega
  have hp:=Dr (l:=aW.toList) (by rw[hXl,zx2]) hd1;have h7:∀ i,i<aW.toList.length→(((aW.toList.map cq).getD i []).all (fun k=>decide (k<i))&&Nat.beq ((ka (aW.toList.map cq)).getD i 0) (lC (ka (aW.toList.map cq)) ((aW.toList.map cq).getD i [])))=true:=by
   simp only[pN,t8,zx0,zw5] at hd1;intro i hi;have:=hd1.2.2 i (by rw[hXl];simpa using hi);simpa only[t8,zx0] using this
  have hmlt:m<aW.size:=by omega
  refine wpIn_region_any hok (Hy (K:=mD c.P Q g) (m:=m) hmlt (fun B a' w' Kw hpn hs2 =>?_) hgs (gs:=gs'.take m++[gz]) (fun i him =>?_) ?_ hXl hp (fun S hS o ho hon j hj hjm =>?_) aW.size (Array.replicate aW.size false) A a _ (by simp) ?_ ?_ hi (by simp[Array.getD_eq_getD_getElem?,hmlt]) ?_ ?_)
  ·obtain ⟨g1,hg1,hg2⟩:=(iz hgs).2 m aW[m] (by simp[hmlt]);rw[hk,v6] at hg1;subst hg1;obtain ⟨q1,q2,q3,q4⟩:=nA hg2;have wn:Region.wanted aW[m] (yielded aW a'.tmps)=true:=by
    rcases q4 with ⟨a5,_⟩ | ⟨_,_,_,_,_,a5⟩
    ·simp[Region.wanted,a5]
    ·simp at a5
   unfold wpOpIn;rw[zw7 hmlt];simp only[wn,if_true];exact Dn q1 hpn hs2
  ·rcases Nat.lt_or_ge i m with ao | ao
   ·rw[zy4 (by simp;omega),List.getElem?_take,if_pos ao]
   ·rw[zx9 (by rw[hXl];omega),zx9 (by omega)]
  ·rw[zw4 (by simp;omega)];simp[show min m gs'.length=m by omega]
  ·have hb:(ka (aW.toList.map cq)).getD m 0 |>.testBit j:=by
    simp only[td,zx0,zw5,Bool.or_eq_true,beq_iff_eq] at hd2;rcases hd2 j (by omega) with e | e
    ·exact absurd e hjm
    ·exact e
   exact Ik h7 hS m m o (zz4 _) ho hon j hb
  ·intro i o _ h
   exfalso
   simp only[Array.getD_eq_getD_getElem?,Array.getElem?_replicate] at h;split at h <;>simp at h
  ·refine zw9 (List.length_filter_le _ _) ?_;rw[hp.len,hXl];exact zz4 _
  ·have hall:dX (σ++[m]) (Array.replicate aW.size false)=σ++[m]:=by
    simp only[dX];refine List.filter_eq_self.2 fun i hi =>?_;have J:=hp.lt i hi;rw[hXl] at J;simp[J]
   simp only[gB,hall];exact h _ fun _ hb=>hb
  ·obtain ⟨D,E,hs'⟩:=hs';exact ⟨D,E,hs'.grow (w' := { w with drawn:=w.drawn+1 }) ⟨rfl,rfl,rfl,zz4 _,fun _ _=>rfl⟩ (fun _ _ h=>h) (fun _ _ h _=>h) (fun b o h=>hs'.aR b o h)⟩
end
end Go.Abs
namespace Go.Abs
open Go Go.RowKit
open Enc (enc)
def lH(w:World):aP:=fun b _=>b<w.heap.size
structure iZ (P:Program) (t:TypeId) (α:Type) [Enc α]:Prop where
 cells:P.cellsOf t=Enc.sz α
 Y5:0<Enc.sz α
 pJ:∀ {H:Type} {enc0:TypeId×Value→H} {w:World} {fuel:Nat} {cs:List Value} {x:DataW H×List MemPlace},DataW.trod enc0 P w 0 (fun _=>true) true fuel t cs=some x→∃ a:α,al w (lH w) di (enc a) cs
theorem YY{P:Program}{t:TypeId}(ht:P.underlying t=some (.int .i64))(hc:P.cellsOf t=1):iZ P t Int :=
 ⟨hc,by decide,fun h=>by
  obtain ⟨n,rfl,_,hw⟩:=DataW.trod_int ht h;refine ⟨n,?_⟩;rw[eG,al];simp only[Lit.wf,t8,decide_eq_true_eq] at hw;exact ⟨rfl,hw.1,hw.2⟩⟩
theorem Hq(a:Addr)(i j:Nat):(a.add i).add j=a.add (i+j):=by
 unfold Addr.add;by_cases hi:i=0 <;>by_cases hj:j=0 <;>simp[hi,hj,Nat.add_assoc]
theorem YZ{P:Program}{t e:TypeId}{α:Type}[Enc α](ht:P.underlying t=some (.slice e))(he:iZ P e α)(hc:P.cellsOf t=1):iZ P t (List α) :=
 ⟨hc,by rw[jy];exact Nat.one_pos,fun {H enc0 w fuel cs x} h=>by
  rcases DataW.trod_slice ht h with ⟨rfl,_⟩ | ⟨a,len,cap,elems,rest,n,_,rfl,_,hb,ao,hm,hlen,hel,_⟩
  ·refine ⟨[],?_⟩;simp only[hs,zx4];rw[al];exact ⟨none,0,rfl,zz4 _,by decide,.inl rfl,by simp⟩
  ·have key:∀ k,k≤len→∃ (l:List α) (cs':List Value),l.length=k∧aN w (lH w) di (l.map enc) cs'∧cs'.length=k*Enc.sz α∧∀ j v,cs'[j]?=some v→w.cell? (a.add j)=some v:=by
    intro k
    induction k with
    |zero=>exact fun _=>⟨[],[],rfl,by simp[aN],by simp,by simp⟩
    |succ k ih =>
     intro hk;obtain ⟨l,cs',J,U,ah,ar⟩:=ih (by omega);have h5:=hel k (by omega);have h6:k<elems.length:=by omega
     rw[zy3 h6] at h5;obtain ⟨ce,h7,h8⟩:=zw6.1 h5;obtain ⟨y,hy⟩:=he.pJ h8;rw[he.cells] at h7;obtain ⟨_,h9,h10⟩:=World.cells?_some h7;refine ⟨l++[y],cs'++ce,by simp[J],?_,by rw[zz7,ah,h9,Nat.succ_mul],fun j v hj =>?_⟩
     ·rw[zy5];refine jZ _ _ _ _ U ?_;simp only[zz3,zx4,aN];exact ⟨ce,[],by simp,hy,rfl⟩
     ·rcases Nat.lt_or_ge j cs'.length with hlt | hge
      ·rw[zy4 hlt] at hj;exact ar j v hj
      ·rw[zw4 hge] at hj;have hlt:j-cs'.length<Enc.sz α:=by
        have:=(zz6.1 hj).1;omega
       have:=h10 (j-cs'.length) hlt;rw[Hq,←ah,Nat.add_sub_cancel' hge] at this;rw[this];exact hj
   obtain ⟨l,cs',J,U,ah,ar⟩:=key len (zz4 _);refine ⟨l,?_⟩;simp only[hs,al,zz8];refine ⟨some a,cap,by rw[J],by omega,hm,?_,Hx l⟩;by_cases hz:len=0
   ·left;have:l=[]:=List.length_eq_zero_iff.1 (by omega);rw[this];rfl
   right
   have hpos:0<cs'.length:=by rw[ah];exact Nat.mul_pos (Nat.pos_of_ne_zero hz) he.Y5
   have aY:=ar 0 cs'[0] (zy3 hpos);have hsp:a.spot=none:=by
    simp only[Addr.add,if_true] at aY;unfold World.cell? at aY;split at aY
    ·split at aY
     ·cases aY
     ·rename_i ab;cases bM:a.spot <;>simp_all
    ·cases aY
   have ha:∀ j,a.add j=⟨a.block,a.off+j,none⟩:=fun j=>by
    unfold Addr.add;split
    ·rename_i hj;subst hj;cases a;simp_all
    ·rfl
   refine ⟨a.block,a.off,cs',by cases a;simp_all,fun j v hj =>?_,U⟩;have h5:=ar j v hj;rw[ha] at h5;refine ⟨h5,?_⟩
   show (⟨a.block,a.off+j,none⟩:Addr).block<_
   exact World.block_lt_of_cell? w _ h5⟩
end Go.Abs
namespace Go.Abs
open Go Go.RowKit Go.ChangeShapes
open Enc (enc)
def qK(P:Program)(t:TypeId)(l:List (TypeId×Nat)):Bool:=match P.underlying t with
 |some (.struct fs)=>fs.toList.map (fun f=>(f.type,f.offset))==l
 |_=>false
def Ck(P:Program)(t:TypeId)(n:Nat)(e:TypeId):Bool:=match P.underlying t with
 |some (.array n' e')=>n'==n&&e'==e
 |_=>false
theorem Xf{P:Program}{t:TypeId}{n:Nat}{e:TypeId}(h:Ck P t n e=true):P.underlying t=some (.array n e):=by
 unfold Ck at h;split at h
 ·rename_i n' e' ht;simp only[t8,beq_iff_eq] at h;rw[ht,h.1,h.2]
 ·cases h
theorem Xj{P:Program}{t:TypeId}{l:List (TypeId×Nat)}(h:qK P t l=true):∃ fs,P.underlying t=some (.struct fs)∧fs.toList.map (fun f=>(f.type,f.offset))=l:=by
 unfold qK at h;split at h
 ·rename_i fs ht;exact ⟨fs,ht,by simpa using h⟩
 ·cases h
theorem FO{H:Type}{enc0:TypeId×Value→H}{P:Program}{w:World}{fuel:Nat}{t:TypeId}{l:List (TypeId×Nat)}{cs:List Value}{x:DataW H×List MemPlace}(ht:qK P t l=true)(h:DataW.trod enc0 P w 0 (fun _=>true) true fuel t cs=some x) :
  cs.length=P.cellsOf t∧∃ m:Nat,∀ (i:Nat) (u:TypeId) (o:Nat),l[i]?=some (u,o)→∃ y,DataW.trod enc0 P w 0 (fun _=>true) true m u ((cs.drop o).take (P.cellsOf u))=some y:=by
 obtain ⟨fs,J,U⟩:=Xj ht;obtain ⟨xs,m,_,_,ah,ar,h5⟩:=DataW.trod_struct J h;refine ⟨ah,m,fun i u o hi =>?_⟩;rw[←U] at hi;simp only[zy9,t7,Prod.mk.injEq] at hi;obtain ⟨f,hf,rfl,rfl⟩:=hi;have hf':fs[i]?=some f:=by simpa using hf
 have h6:=h5 i f hf';have hlt:i<fs.size:=(zy1.1 hf').1;rw[zy3 (by omega)] at h6;exact ⟨_,h6⟩
section
variable {P:Program} {t:TypeId} {α β γ:Type} [Enc α] [Enc β] [Enc γ] {H:Type} {enc0:TypeId×Value→H} {w:World} {fuel:Nat} {cs:List Value} {x:DataW H×List MemPlace}
theorem Dj{u0 u1 u2:TypeId}(ht:qK P t [(u0,0),(u1,Enc.sz α),(u2,Enc.sz α+Enc.sz β)]=true)(aY:iZ P u0 α)(J:iZ P u1 β)(U:iZ P u2 γ)(hc:P.cellsOf t=Enc.sz α+Enc.sz β+Enc.sz γ)(h:DataW.trod enc0 P w 0 (fun _=>true) true fuel t cs=some x) :
  ∃ (a:α) (b:β) (c:γ),al w (lH w) di (.agg [enc a,enc b,enc c]) cs:=by
 obtain ⟨ao,m,hf⟩:=FO ht h;obtain ⟨y0,k0⟩:=hf 0 u0 0 rfl;obtain ⟨y1,k1⟩:=hf 1 u1 (Enc.sz α) rfl;obtain ⟨y2,k2⟩:=hf 2 u2 (Enc.sz α+Enc.sz β) rfl;obtain ⟨a,ha⟩:=aY.pJ k0;obtain ⟨b,hb⟩:=J.pJ k1;obtain ⟨c,hcc⟩:=U.pJ k2;rw[aY.cells,List.drop_zero] at ha;rw[J.cells] at hb;rw[U.cells,List.take_of_length_le (by rw[List.length_drop];omega)] at hcc;refine ⟨a,b,c,?_⟩;simp only[al,aN];refine ⟨_,_,(List.take_append_drop (Enc.sz α) cs).symm,ha,(cs.drop (Enc.sz α)).take (Enc.sz β),(cs.drop (Enc.sz α)).drop (Enc.sz β),(List.take_append_drop _ _).symm,hb,(cs.drop (Enc.sz α)).drop (Enc.sz β),[],by simp,?_,rfl⟩;rw[List.drop_drop];exact hcc
theorem Dg{fk:Nat}{v:Value}{d:DataW H}{p:List MemPlace}(ho:iZ P t α)(hA:Enc.gI α=true)(hst:(match P.underlying t with | some (.struct _) | some (.array _ _)=>true | _=>false)=true)(hv:Value.okWide P w .any fk t v)
  (h:DataW.Trod enc0 P w 0 (fun _=>true) true t v d p):∃ (a:α) (cs:List Value),bE (enc a) v cs∧al w (lH w) di (enc a) cs:=by
 obtain ⟨fuel,h⟩:=h;have hagg:∃ cs,v=.agg cs:=by
  unfold Value.okWide at hv;split at hst
  ·rename_i fs ht;rw[ht] at hv;obtain ⟨cs,J,_⟩:=hv;exact ⟨cs,J⟩
  ·rename_i n e ht;rw[ht] at hv;obtain ⟨cs,J,_⟩:=hv;exact ⟨cs,J⟩
  ·cases hst
 obtain ⟨cs,rfl⟩:=hagg;have e:(Value.agg cs).cells.toList=cs.toList:=rfl;rw[e] at h;obtain ⟨a,ha⟩:=ho.pJ h;exact ⟨a,cs.toList,by simp[bE,Enc.agg,hA],ha⟩
end
theorem Y9{H:Type}{enc0:TypeId×Value→H}{P:Program}{f:Func}{s:ChangeSpec}{apart km handsOn again:Bool}{W W':World}{args:Array Value}{v:Value}{ds gs:List (DataW H)}{before pa pv:List MemPlace}
  (hW:DataW.Whole enc0 P f.params.toList s.vars apart W args.toList ds gs before)
  (hres:∀ (b:Nat) (sp:Nat→Bool) (af:Bool),DataW.TrodAll enc0 P W' b sp af f.resultTypes.toList (v.resultList f.resultTypes.size) (s.fn H (ds++gs)).results [])
  (hargs:∀ sp:Nat→Bool,(∀ p∈before,sp p.block=true)→DataW.TrodAll enc0 P W' 0 sp true f.params.toList args.toList (s.fn H (ds++gs)).args pa)
  (hvars:∀ sp:Nat→Bool,(∀ p∈before,sp p.block=true)→DataW.TrodVars enc0 P W' sp s.vars (s.fn H (ds++gs)).vars pv)
  (hps:before=pa++pv) (hb:Below W.heap.size W W')
  (hok:∀ (j:Nat) (t:TypeId) (r:Value),f.resultTypes[j]?=some t→(v.resultList f.resultTypes.size)[j]?=some r→Value.okWide P W' .any 0 t r) :
  s.post enc0 P f apart km handsOn again W args v W':=by
 have hlt:∀ p∈before,p.block<W.heap.size:=fun p hp=>by simpa using hW.lt p hp
 have hold:∀ p∈before,(fun b=>decide (b<W.heap.size)) p.block=true:=fun p hp=>by simpa using hlt p hp
 refine ⟨ds,gs,before,[],pa,pv,hW,hres _ _ _,hargs _ hold,hvars _ hold,World.keptBut_mono (fun p hp=>⟨hp,?_⟩) (hb.frame (· ∈ before)),fun _ =>?_⟩
 ·rw[hps,zx7] at hp;exact Or.inr hp
 ·obtain ⟨_,_,_,_,_,hz,hn⟩:=hW;refine ⟨hok,_,_,([]++pa)++pv,⟨[]++pa,pv,trodAll_append (hargs _ (fun _ _=>rfl)) (hres _ _ _),hvars _ (fun _ _=>rfl),rfl,?_,?_⟩,?_⟩
  ·intro b off hp;have hp':MemPlace.cell b off∈before:=by rw[hps];simpa using hp
   rw[hb.frozen (p:=⟨b,off,none⟩) (hlt _ hp')];exact hz b off hp'
  ·intro ha;have:=hn ha;rw[hps] at this;simpa using this
  ·intro p hp _;rw[hps];simpa using hp
def yu(P:Program)(u:TypeId)(n:Nat)(S:I→Prop):Prop:=P.cellsOf u=n ∧
 ∀ {H:Type} {enc0:TypeId×Value→H} {w:World} {fuel:Nat} {cs:List Value} {x:DataW H×List MemPlace},DataW.trod enc0 P w 0 (fun _=>true) true fuel u cs=some x→∃ v,S v∧al w (lH w) di v cs
theorem iZ.aW{P:Program}{u:TypeId}{α:Type}[Enc α](h:iZ P u α):yu P u (Enc.sz α) fun v=>∃ a:α,v=enc a :=
 ⟨h.cells,fun hx=>by obtain ⟨a,ha⟩:=h.pJ hx;exact ⟨enc a,⟨a,rfl⟩,ha⟩⟩
def rm(P:Program):Nat→List (TypeId×Nat)→List (Nat×(I→Prop))→Prop
 |_,[],[]=>True
 |o,(u,off)::l,(n,S)::Ss=>off=o∧yu P u n S∧rm P (o+n) l Ss
 |_,_,_=>False
def oL:List (Nat×(I→Prop))→List I→Prop
 | [],[]=>True
 |(_,S)::Ss,v::vs=>S v∧oL Ss vs
 |_,_=>False
theorem su{n:Nat}{S:I→Prop}{Ss:List (Nat×(I→Prop))} : ∀ {vs:List I},oL ((n,S)::Ss) vs→∃ v vs',vs=v::vs'∧S v∧oL Ss vs'
 | [],h=>h.elim
 |v::vs,h=>⟨v,vs,rfl,h.1,h.2⟩
theorem Hv:∀ {vs:List I},oL [] vs→vs=[]
 | [],_=>rfl
 |_::_,h=>h.elim
def rU:List (Nat×(I→Prop))→Nat
 | []=>0
 |(n,_)::Ss=>n+rU Ss
theorem Bl{P:Program}{H:Type}{enc0:TypeId×Value→H}{w:World}{m:Nat}{cs:List Value} : ∀ (l:List (TypeId×Nat)) (Ss:List (Nat×(I→Prop))) (o:Nat),rm P o l Ss→cs.length=o+rU Ss →
  (∀ (i:Nat) (u:TypeId) (off:Nat),l[i]?=some (u,off)→∃ y,DataW.trod enc0 P w 0 (fun _=>true) true m u ((cs.drop off).take (P.cellsOf u))=some y)→∃ vs,oL Ss vs∧aN w (lH w) di vs (cs.drop o)
 | [],[],o,_,ao,_=>⟨[],trivial,by simp only[aN];exact List.drop_eq_nil_of_le (by simp only[rU] at ao;omega)⟩
 |(u,off)::l,(n,S)::Ss,o,h,ao,hf=>by
  obtain ⟨rfl,U,ah⟩:=h;obtain ⟨y,hy⟩:=hf 0 u off rfl;obtain ⟨v,hv1,hv2⟩:=U.2 hy;obtain ⟨vs,k1,k2⟩:=Bl l Ss (off+n) ah (by simp only[rU] at ao;omega) fun i u' o' hi=>hf (i+1) u' o' hi;refine ⟨v::vs,⟨hv1,k1⟩,?_⟩;simp only[aN];rw[U.1] at hv2;exact ⟨_,(cs.drop off).drop n,(List.take_append_drop n _).symm,hv2,by rw[List.drop_drop];exact k2⟩
 | [],_::_,_,h,_,_=>h.elim
 |_::_,[],_,h,_,_=>by simp[rm] at h
theorem Y0{P:Program}{t:TypeId}{H:Type}{enc0:TypeId×Value→H}{w:World}{fuel:Nat}{cs:List Value}{x:DataW H×List MemPlace}(l:List (TypeId×Nat))(Ss:List (Nat×(I→Prop)))(ht:qK P t l=true)(hok:rm P 0 l Ss)(hc:P.cellsOf t=rU Ss)(h:DataW.trod enc0 P w 0 (fun _=>true) true fuel t cs=some x) :
  ∃ vs,oL Ss vs∧al w (lH w) di (.agg vs) cs:=by
 obtain ⟨ao,m,hf⟩:=FO ht h;obtain ⟨vs,k1,k2⟩:=Bl l Ss 0 hok (by rw[ao,hc];omega) hf;exact ⟨vs,k1,by simpa only[al,List.drop_zero] using k2⟩
theorem Xw{P:Program}{f:FuncId}{fn:Func}{s:ChangeSpec}{H:Type}{enc0:TypeId×Value→H}{W:World}{ds gs:List (DataW H)}{before:List MemPlace}{xs:List I}{tb:TypeId}{v0 v1:Value}{t0 t1:TypeId}{d0 d1:DataW H}{gL p1:List MemPlace}{again handsOn km:Bool}
  (ao:laidOutB P=true) (hpar:fn.params.toList=[t0,t1]) (hds:ds=[d0,d1]) (hgs:gs=[]) (hbef:before=gL++p1)
  (hvars:s.vars=[]) (hfn:s.fn H [d0,d1] = { results:=[.lit (.bool true)],args:=[d0,d1] }) (hres:fn.resultTypes = #[tb]) (htb:P.underlying tb=some .bool)
  (hW:DataW.Whole enc0 P fn.params.toList s.vars false W #[v0,v1].toList ds gs before)
  (aY:DataW.Trod enc0 P W 0 (fun _=>true) true t0 v0 d0 gL) (J:DataW.Trod enc0 P W 0 (fun _=>true) true t1 v1 d1 p1)
  (hr:∀ t∈[t0,t1],P.readableRec t=true∧t<P.types.size)
  (hctr:aZ P f xs (enc true)) (hlaid:gM P W (fun _=>False)) (hv:aJ W (lH W) di xs [v0,v1]) :
  Calls P f #[v0,v1] W fun e W'=>∃ v,e=.returned v∧s.post enc0 P fn false km handsOn again W #[v0,v1] v W':=by
 subst hds hgs;refine (hctr.2 W (lH W) [v0,v1] hlaid (fun _ _ h=>h) hv).mono fun e W' ⟨v,D',he,hrv,hb,_,_⟩=>⟨v,he,?_⟩
 have hvb:v=.bool true:=ky hrv;subst hvb;have hlt:∀ x∈before,x.block<W.heap.size:=fun x hx=>by simpa using hW.lt x hx
 rw[hbef] at hlt;refine Y9 (pa:=gL++(p1++[])) (pv:=[]) hW (fun _ _ _ =>?_) (fun sp hsp =>?_) (fun _ _ =>?_) (by rw[hbef];simp) hb ?_
 ·simp only[zv2,hfn,hres];exact trodAll_mk1 (shut_bool htb true)
 ·simp only[zv2,hfn,hpar];rw[hbef] at hsp;have bg:∀ {t:TypeId} {v:Value} {d:DataW H} {p:List MemPlace},t∈[t0,t1]→DataW.Trod enc0 P W 0 (fun _=>true) true t v d p→(∀ x∈p,x∈gL++p1)→DataW.Trod enc0 P W' 0 sp true t v d p:=fun ht h hp =>
   WideElems.Trod_stays ao (hr _ ht).1 (hr _ ht).2 h (fun x hx=>hb.same (hlt x (hp x hx))) (fun x hx=>hsp x (hp x hx))
  exact trodAll_mk2 (bg (by simp) aY fun x hx=>by simp[hx]) (bg (by simp) J fun x hx=>by simp[hx])
 ·simp only[zv2,hfn,hvars];rfl
 ·intro j t r hj hv';rw[hres] at hj hv'
  match j,hj,hv' with
  |0,hj,hv' =>
   simp[Value.resultList] at hj hv';subst hj;subst hv';simp[Value.okWide,htb,Cell.okWide,Cell.ok]
end Go.Abs
namespace Go.Proofs.YthbdbocionnfgaaGreatDoor
open Go Go.Abs
open Go.Abs.Enc (enc)
structure aU where
 kind:Int
 aH:Int
 other:Int
 no:Int
 deriving DecidableEq,Inhabited
instance:Enc aU where
 enc g:=.agg [.int .i64 g.kind,.int .i64 g.aH,.int .i64 g.other,.int .i64 g.no]
 sz:=4
 aX:=.eE [.one,.one,.one,.one]
 gI:=true
 done g:=by simp only[I.done,I.fZ,Bool.and_self]
 size g:=by simp only[I.size,I.sizes]
 iq g:=by simp only[I.aX,I.cQ]
 agg _:=rfl
structure ea where
 kind:Int
 bR:Int
 to:Int
 aH:Int
 no:Int
 deriving DecidableEq,Inhabited
instance:Enc ea where
 enc g:=.agg [.int .i64 g.kind,.int .i64 g.bR,.int .i64 g.to,.int .i64 g.aH,.int .i64 g.no]
 sz:=5
 aX:=.eE [.one,.one,.one,.one,.one]
 gI:=true
 done g:=by simp only[I.done,I.fZ,Bool.and_self]
 size g:=by simp only[I.size,I.sizes]
 iq g:=by simp only[I.aX,I.cQ]
 agg _:=rfl
structure cZ where
 no:Int
 to:Int
 aH:Int
 dz:Bool
 deriving DecidableEq,Inhabited
instance:Enc cZ where
 enc g:=.agg [.int .i64 g.no,.int .i64 g.to,.int .i64 g.aH,.bool g.dz]
 sz:=4
 aX:=.eE [.one,.one,.one,.one]
 gI:=true
 done g:=by simp only[I.done,I.fZ,Bool.and_self]
 size g:=by simp only[I.size,I.sizes]
 iq g:=by simp only[I.aX,I.cQ]
 agg _:=rfl
theorem iK{fs:List I}{f off:Nat}{v:I}(J:f<fs.length)(h:I.sizes (fs.take f)=off):db fs f off v=some v:=by simp[db,h,J]
theorem F1 :
  (∀ g:aU,(enc g).dH=some [.int .i64 g.kind,.int .i64 g.aH,.int .i64 g.other,.int .i64 g.no])∧(∀ g:ea,(enc g).dH=some [.int .i64 g.kind,.int .i64 g.bR,.int .i64 g.to,.int .i64 g.aH,.int .i64 g.no]) ∧
  (∀ g:cZ,(enc g).dH=some [.int .i64 g.no,.int .i64 g.to,.int .i64 g.aH,.bool g.dz]) ∧
  (∀ (a b c d:I) v,(a.size=1∧b.size=1∧c.size=1)→db [a,b,c,d] 0 0 v=some v) ∧
  (∀ (g:aU),b8 (some 4) (enc g)=true)∧(∀ (g:ea),b8 (some 5) (enc g)=true)∧(∀ (g:cZ),b8 (some 4) (enc g)=true) ∧
  (∀ (fs:List I) x,(x::fs)[0]?=some x)∧(∀ (fs:List I) x n,(x::fs)[n+1]?=fs[n]?)∧(∀ (fs:List I) x,(x::fs)[1]?=fs[0]?)∧(∀ (fs:List I) x,(x::fs)[2]?=fs[1]?)∧(∀ (fs:List I) x,(x::fs)[3]?=fs[2]?)∧(∀ (fs:List I) x,(x::fs)[4]?=fs[3]?) :=
 ⟨fun _=>rfl,fun _=>rfl,fun _=>rfl,fun a b c d v h=>iK (by simp) (by simp[I.sizes]),fun _=>by rw[e7];rfl,fun _=>by rw[e7];rfl,fun _=>by rw[e7];rfl,fun _ _=>rfl,fun _ _ _=>rfl,fun _ _=>rfl,fun _ _=>rfl,fun _ _=>rfl,fun _ _=>rfl⟩
theorem C6:(∀ (a b c d:Int) v,db [.int .i64 a,.int .i64 b,.int .i64 c,.int .i64 d] 0 0 v=some v)∧(∀ (a b c d:Int) v,db [.int .i64 a,.int .i64 b,.int .i64 c,.int .i64 d] 1 1 v=some v)∧(∀ (a b c d:Int) v,db [.int .i64 a,.int .i64 b,.int .i64 c,.int .i64 d] 2 2 v=some v)∧(∀ (a b c d:Int) v,db [.int .i64 a,.int .i64 b,.int .i64 c,.int .i64 d] 3 3 v=some v) ∧
  (∀ (a b c d e:Int) v,db [.int .i64 a,.int .i64 b,.int .i64 c,.int .i64 d,.int .i64 e] 0 0 v=some v)∧(∀ (a b c d e:Int) v,db [.int .i64 a,.int .i64 b,.int .i64 c,.int .i64 d,.int .i64 e] 1 1 v=some v)∧(∀ (a b c d e:Int) v,db [.int .i64 a,.int .i64 b,.int .i64 c,.int .i64 d,.int .i64 e] 2 2 v=some v)∧(∀ (a b c d e:Int) v,db [.int .i64 a,.int .i64 b,.int .i64 c,.int .i64 d,.int .i64 e] 3 3 v=some v)∧(∀ (a b c d e:Int) v,db [.int .i64 a,.int .i64 b,.int .i64 c,.int .i64 d,.int .i64 e] 4 4 v=some v) ∧
  (∀ (a b c:Int) (d:Bool) v,db [.int .i64 a,.int .i64 b,.int .i64 c,.bool d] 0 0 v=some v)∧(∀ (a b c:Int) (d:Bool) v,db [.int .i64 a,.int .i64 b,.int .i64 c,.bool d] 1 1 v=some v)∧(∀ (a b c:Int) (d:Bool) v,db [.int .i64 a,.int .i64 b,.int .i64 c,.bool d] 2 2 v=some v)∧(∀ (a b c:Int) (d:Bool) v,db [.int .i64 a,.int .i64 b,.int .i64 c,.bool d] 3 3 v=some v) :=
 ⟨fun _ _ _ _ _=>rfl,fun _ _ _ _ _=>rfl,fun _ _ _ _ _=>rfl,fun _ _ _ _ _=>rfl,fun _ _ _ _ _ _=>rfl,fun _ _ _ _ _ _=>rfl,fun _ _ _ _ _ _=>rfl,fun _ _ _ _ _ _=>rfl,fun _ _ _ _ _ _=>rfl,fun _ _ _ _ _=>rfl,fun _ _ _ _ _=>rfl,fun _ _ _ _ _=>rfl,fun _ _ _ _ _=>rfl⟩
theorem aC:(type_of% @F1)∧(type_of% @C6)∧(∀ {α:Type} [Enc α] (aL:Bool) (A:ai) (x:α),bj aL A (enc x)=some (enc x))∧(∀ {α:Type} [Enc α] (x:α),(enc x).bS=true)∧(type_of% @kZ)∧(type_of% @CQ)∧(type_of% @oT)∧(type_of% @kB)∧(type_of% @bq) :=
 ⟨F1,C6,@kR,@eg,kZ,CQ,oT,kB,bq⟩
def cT(lo hi n:Int):Bool:=decide (lo≤n)&&decide (n≤hi)
theorem oH(n lo hi:Int):aZ Tryz.prog 105 [enc n,enc lo,enc hi] (enc (cT lo hi n)):=by
 refine aZ.b5 Tryz.func105 IA JF KR (u8 rfl) (fun hwf W0 bG E1 =>?_);simp only[yZ,DJ,bI,zz1,Nat.reduceAdd];have R:=y6 @kB @bq
 repeat' ((first |(with_reducible refine .guard (fun hb =>?_) (fun hb =>?_) <;>try simp only[hb])|refine ae.aE (by decide +kernel) rfl fun K hK =>?_|(refine .av [0,1,2,6] hK ?_;clear hK K)|(with_reducible refine .done (hK _ ?_);clear hK K)|refine ae.of rfl ?_|(with_reducible refine ay.aD (fun h =>?_) (fun h =>?_) <;>try simp only[h])) <;>try simp only[aF,R,simprocAttr])
 all_goals clear R
 all_goals (simp at *;simp_all[cT])
 all_goals omega
theorem lF(n:Int):aZ Tryz.prog 61 [enc n] (enc (cT 0 5 n)):=by
 refine aZ.b5 Tryz.func61 Ja Ke Lz (u8 rfl) (fun hwf W0 bG E1 =>?_);simp only[zH,Ey,bI];have R:=y6 @kB @bq
 repeat' ((first |refine ae.aE (by decide +kernel) rfl fun K hK =>?_|refine .flat _ (oH n 0 5) rfl ?_|(refine .av [0,2] hK ?_;clear hK K)|(with_reducible refine .done (hK _ ?_);clear hK K)|refine ae.of rfl ?_|(with_reducible refine ay.aD (fun h =>?_) (fun h =>?_) <;>try simp only[h])) <;>try simp only[aF,R,simprocAttr])
 all_goals clear R
theorem oI(n:Int):aZ Tryz.prog 71 [enc n] (enc (cT 1 9999 n)):=by
 refine aZ.b5 Tryz.func71 Ji Km LI (u8 rfl) (fun hwf W0 bG E1 =>?_);simp only[zP,EG,bI];have R:=y6 @kB @bq
 repeat' ((first |refine ae.aE (by decide +kernel) rfl fun K hK =>?_|refine .flat _ (oH n 1 9999) rfl ?_|(refine .av [0,2] hK ?_;clear hK K)|(with_reducible refine .done (hK _ ?_);clear hK K)|refine ae.of rfl ?_|(with_reducible refine ay.aD (fun h =>?_) (fun h =>?_) <;>try simp only[h])) <;>try simp only[aF,R,simprocAttr])
 all_goals clear R
theorem uC(n:Int):aZ Tryz.prog 90 [enc n] (enc (cT 1 200 n)):=by
 refine aZ.b5 Tryz.func90 Jv Kz LW (u8 rfl) (fun hwf W0 bG E1 =>?_);simp only[z8,ET,bI];have R:=y6 @kB @bq
 repeat' ((first |refine ae.aE (by decide +kernel) rfl fun K hK =>?_|refine .flat _ (oH n 1 200) rfl ?_|(refine .av [0,2] hK ?_;clear hK K)|(with_reducible refine .done (hK _ ?_);clear hK K)|refine ae.of rfl ?_|(with_reducible refine ay.aD (fun h =>?_) (fun h =>?_) <;>try simp only[h])) <;>try simp only[aF,R,simprocAttr])
 all_goals clear R
theorem p7(n lo hi:Int):aZ Tryz.prog 68 [enc n,enc lo,enc hi] (enc (cT lo hi n)):=by
 refine aZ.b5 Tryz.func68 Jg Kk LG (u8 rfl) (fun hwf W0 bG E1 =>?_);simp only[zN,EE,bI,zz1,Nat.reduceAdd];have R:=y6 @kB @bq
 repeat' ((first |(with_reducible refine .guard (fun hb =>?_) (fun hb =>?_) <;>try simp only[hb])|refine ae.aE (by decide +kernel) rfl fun K hK =>?_|(refine .av [0,1,2,6] hK ?_;clear hK K)|(with_reducible refine .done (hK _ ?_);clear hK K)|refine ae.of rfl ?_|(with_reducible refine ay.aD (fun h =>?_) (fun h =>?_) <;>try simp only[h])) <;>try simp only[aF,R,simprocAttr])
 all_goals clear R
 all_goals (simp at *;simp_all[cT])
 all_goals omega
theorem uy(n:Int):aZ Tryz.prog 64 [enc n] (enc (cT 0 5 n)):=by
 refine aZ.b5 Tryz.func64 Jc Kg LB (u8 rfl) (fun hwf W0 bG E1 =>?_);simp only[zJ,EA,bI];have R:=y6 @kB @bq
 repeat' ((first |refine ae.aE (by decide +kernel) rfl fun K hK =>?_|refine .flat _ (p7 n 0 5) rfl ?_|(refine .av [0,2] hK ?_;clear hK K)|(with_reducible refine .done (hK _ ?_);clear hK K)|refine ae.of rfl ?_|(with_reducible refine ay.aD (fun h =>?_) (fun h =>?_) <;>try simp only[h])) <;>try simp only[aF,R,simprocAttr])
 all_goals clear R
theorem yl(n:Int):aZ Tryz.prog 67 [enc n] (enc (cT 1 9999 n)):=by
 refine aZ.b5 Tryz.func67 Jf Kj LF (u8 rfl) (fun hwf W0 bG E1 =>?_);simp only[zM,ED,bI];have R:=y6 @kB @bq
 repeat' ((first |refine ae.aE (by decide +kernel) rfl fun K hK =>?_|refine .flat _ (p7 n 1 9999) rfl ?_|(refine .av [0,2] hK ?_;clear hK K)|(with_reducible refine .done (hK _ ?_);clear hK K)|refine ae.of rfl ?_|(with_reducible refine ay.aD (fun h =>?_) (fun h =>?_) <;>try simp only[h])) <;>try simp only[aF,R,simprocAttr])
 all_goals clear R
def hd(x:aU):Bool :=
 if x.kind=1∨x.kind=2 then cT 1 9999 x.aH&&(x.other==0&&x.no==0)
 else if 3≤x.kind∧x.kind≤8 then cT 1 9999 x.aH&&(cT 0 5 x.other&&cT 1 200 x.no)
 else false
theorem GR(x:aU):aZ Tryz.prog 66 [enc x] (enc (hd x)):=by
 refine aZ.b5 Tryz.func66 Je Ki LD (u8 rfl) (fun hwf W0 bG E1 =>?_);simp only[zL,EC,bI];have R:=aC
 repeat' ((first |(with_reducible refine .guard (fun hb =>?_) (fun hb =>?_) <;>try simp only[hb])|refine ae.aE (by decide +kernel) rfl fun K hK =>?_|refine .flat _ (oI x.aH) rfl ?_|refine .flat _ (lF x.other) rfl ?_|refine .flat _ (uC x.no) rfl ?_|(refine .av [0,1,2,4,5,21] hK ?_;clear hK K)|(with_reducible refine .done (hK _ ?_);clear hK K)|refine ae.of rfl ?_|(with_reducible refine ay.aD (fun h =>?_) (fun h =>?_) <;>try simp only[h])) <;>try simp only[aF,R,simprocAttr])
 all_goals clear R
 all_goals (simp_all[hd])
 all_goals (intros;exfalso;omega)
theorem Gx(x:aU):aZ Tryz.prog 22 [enc x] (enc (if hd x then (0:Int) else 1)):=by
 refine aZ.b5 Tryz.func22 IQ JV Lg (u8 rfl) (fun hwf W0 bG E1 =>?_);simp only[zl,Ec,bI];have R:=aC
 repeat' ((first |(with_reducible refine .guard (fun hb =>?_) (fun hb =>?_) <;>try simp only[hb])|refine ae.aE (by decide +kernel) rfl fun K hK =>?_|refine .flat _ (yl x.aH) rfl ?_|refine .flat _ (uy x.other) rfl ?_|refine .flat _ (p7 x.no 1 200) rfl ?_|(refine .av [0,1,2,4,5,20,21,40] hK ?_;clear hK K)|(with_reducible refine .done (hK _ ?_);clear hK K)|refine ae.of rfl ?_|(with_reducible refine ay.aD (fun h =>?_) (fun h =>?_) <;>try simp only[h])) <;>try simp only[aF,R,simprocAttr])
 all_goals clear R
 all_goals (simp_all[hd])
 all_goals (intros;exfalso;omega)
def tz(r:ea):Bool:=cT 1 4 r.kind&&(cT 0 5 r.bR&&(cT 0 5 r.to&&((r.bR != r.to)&&(cT 1 9999 r.aH&&cT 1 200 r.no))))
theorem GS(r:ea):aZ Tryz.prog 70 [enc r] (enc (tz r)):=by
 refine aZ.b5 Tryz.func70 Jh Kl LH (u8 rfl) (fun hwf W0 bG E1 =>?_);simp only[zO,EF,bI];have R:=aC
 repeat' ((first |(with_reducible refine .guard (fun hb =>?_) (fun hb =>?_) <;>try simp only[hb])|refine ae.aE (by decide +kernel) rfl fun K hK =>?_|refine .flat _ (oH r.kind 1 4) rfl ?_|refine .flat _ (lF r.bR) rfl ?_|refine .flat _ (lF r.to) rfl ?_|refine .flat _ (oI r.aH) rfl ?_|refine .flat _ (uC r.no) rfl ?_|(refine .av [0,1,2] hK ?_;clear hK K)|(with_reducible refine .done (hK _ ?_);clear hK K)|refine ae.of rfl ?_|(with_reducible refine ay.aD (fun h =>?_) (fun h =>?_) <;>try simp only[h])) <;>try simp only[aF,R,simprocAttr])
 all_goals clear R
 all_goals (simp_all[tz])
theorem ga{i n:Nat}(h:i<n):decide ((i:Int)<(n:Int))=true:=by simp;omega
theorem gp{i n:Nat}(h:¬ i<n):decide ((i:Int)<(n:Int))=false:=by simp;omega
theorem fJ{i:Nat}(h:i<9223372036854775807):IntKind.i64.wrap ((i:Int)+1)=((i+1:Nat):Int):=by rw[mB _ (by omega) (by omega)];rfl
theorem Hf(x y:aU):x=y↔x.kind=y.kind∧x.aH=y.aH∧x.other=y.other∧x.no=y.no:=by cases x;cases y;simp
theorem Hi(x y:ea):x=y↔x.kind=y.kind∧x.bR=y.bR∧x.to=y.to∧x.aH=y.aH∧x.no=y.no:=by cases x;cases y;simp
theorem Hk(x y:cZ):x=y↔x.no=y.no∧x.to=y.to∧x.aH=y.aH∧x.dz=y.dz:=by cases x;cases y;simp
theorem M6(x y:aU):b7 (.bg [.i .i64,.i .i64,.i .i64,.i .i64]) (enc x) (enc y)=some (decide (x=y)):=by
 show b7 (.bg [.i .i64,.i .i64,.i .i64,.i .i64]) (.agg [.int .i64 x.kind,.int .i64 x.aH,.int .i64 x.other,.int .i64 x.no]) (.agg [.int .i64 y.kind,.int .i64 y.aH,.int .i64 y.other,.int .i64 y.no])=_
 simp[b7,hU,jb,Hf];rfl
theorem A8(x y:ea):b7 (.bg [.i .i64,.i .i64,.i .i64,.i .i64,.i .i64]) (enc x) (enc y)=some (decide (x=y)):=by
 show b7 (.bg [.i .i64,.i .i64,.i .i64,.i .i64,.i .i64]) (.agg [.int .i64 x.kind,.int .i64 x.bR,.int .i64 x.to,.int .i64 x.aH,.int .i64 x.no]) (.agg [.int .i64 y.kind,.int .i64 y.bR,.int .i64 y.to,.int .i64 y.aH,.int .i64 y.no])=_
 simp[b7,hU,jb,Hi];rfl
theorem A9(x y:cZ):b7 (.bg [.i .i64,.i .i64,.i .i64,.b]) (enc x) (enc y)=some (decide (x=y)):=by
 show b7 (.bg [.i .i64,.i .i64,.i .i64,.b]) (.agg [.int .i64 x.no,.int .i64 x.to,.int .i64 x.aH,.bool x.dz]) (.agg [.int .i64 y.no,.int .i64 y.to,.int .i64 y.aH,.bool y.dz])=_
 simp[b7,hU,jb,Hk];rfl
theorem X1(x y:Int):(x != y) = !decide (x=y):=by by_cases h:x=y <;>simp[h]
theorem yg(a b:List Int):aZ Tryz.prog 41 [enc a,enc b] (enc (decide (a=b))):=by
 refine aZ.b5 Tryz.func41 IY J2 Ln (u8 rfl) (fun hwf W0 bG E1 =>?_);simp only[zt,Ek,bI,zz1];have hlen:a.length≤maxLen:=((mA a).1 hwf.1).1;simp only[maxLen] at hlen;clear hwf;by_cases ao:a.length=b.length
 case neg =>
  have hn:((a.length:Int) != (b.length:Int))=true:=by simp;omega
  have R:=y6 @hn aC
  repeat' ((first |refine ae.aE (by decide +kernel) rfl fun K hK =>?_|(refine .av [0,1,4,5,10,12,13,14,24] hK ?_;clear hK K)|(with_reducible refine .done (hK _ ?_);clear hK K)|refine ae.of rfl ?_|(with_reducible refine ay.aD (fun h =>?_) (fun h =>?_) <;>try simp only[h])) <;>try simp only[aF,R,simprocAttr])
  all_goals clear R
  have:¬ a=b:=fun e=>ao (by rw[e]);simp[this]
 have hn:((a.length:Int) != (b.length:Int))=false:=by simp;omega
 have R:=y6 @hn aC
 repeat' ((first |refine ae.aE (by decide +kernel) rfl fun K hK =>?_|(refine .av [0,1,4,5,10,12,13,14,24] hK ?_;clear hK K)|(with_reducible refine .done (hK _ ?_);clear hK K)|refine ae.of rfl ?_|(with_reducible refine ay.aD (fun h =>?_) (fun h =>?_) <;>try simp only[h])) <;>try simp only[aF,R,simprocAttr])
 all_goals clear R
 refine ae.loop (fun i:Nat=>au [(0,enc a),(1,enc b),(12,.int .i64 a.length),(13,.int .i64 i)] []) (fun i=>i≤a.length∧∀ k,k<i→a[k]?=b[k]?) (fun i=>a.length-i) 0 ⟨zw2 _,fun k h=>by omega⟩ ?_ (fun i hi =>?_)
 ·refine bw.dh ?_ ?_ ?_ ?_ <;>simp[cz,c6,cJ,cF,cu,I.only,cA]
 obtain ⟨hi1,hi2⟩:=hi;by_cases hlt:i<a.length
 ·have hc:=ga hlt;have he:=fun A=>eM (A:=A) 1 hlt rfl;have hlt2:i<b.length:=by omega
  have he2:=fun A=>eM (A:=A) 1 hlt2 rfl;have hw:=fJ (i:=i) (by omega);have hq:=X1 a[i] b[i];rcases hp:decide (a[i]=b[i])
  ·rw[hp] at hq;have R:=y6 @hc (y6 @he (y6 @he2 (y6 @hq aC)))
   repeat' ((first |refine ae.aE (by decide +kernel) rfl fun K hK =>?_|(refine .av [0,1,4,5,10,12,13,14,24] hK ?_;clear hK K)|(with_reducible refine .done (hK _ ?_);clear hK K)|refine ae.of rfl ?_|(with_reducible refine ay.aD (fun h =>?_) (fun h =>?_) <;>try simp only[h])) <;>try simp only[aF,R,simprocAttr])
   all_goals clear R
   have:¬ a=b:=fun e=>by subst e;simp at hp
   simp[this]
  ·rw[hp] at hq;have R:=y6 @hc (y6 @he (y6 @he2 (y6 @hq (y6 @hw aC))))
   repeat' ((first |refine ae.aE (by decide +kernel) rfl fun K hK =>?_|(refine .av [0,1,4,5,10,12,13,14,24] hK ?_;clear hK K)|(with_reducible refine .done (hK _ ?_);clear hK K)|refine ae.of rfl ?_|(with_reducible refine ay.aD (fun h =>?_) (fun h =>?_) <;>try simp only[h])) <;>try simp only[aF,R,simprocAttr])
   all_goals clear R
   refine ⟨i+1,⟨by omega,fun k hk =>?_⟩,by omega,?_⟩
   ·by_cases e:k=i
    ·subst e;have:a[k]=b[k]:=by simpa using hp
     simp[hlt,hlt2,this]
    ·exact hi2 k (by omega)
   ·refine bw.dh ?_ ?_ ?_ ?_ <;>simp[cz,c6,cJ,cF,cu,I.only,cA]
 ·have hc:=gp hlt;have R:=y6 @hc aC
  repeat' ((first |refine ae.aE (by decide +kernel) rfl fun K hK =>?_|(refine .av [0,1,4,5,10,12,13,14,24] hK ?_;clear hK K)|(with_reducible refine .done (hK _ ?_);clear hK K)|refine ae.of rfl ?_|(with_reducible refine ay.aD (fun h =>?_) (fun h =>?_) <;>try simp only[h])) <;>try simp only[aF,R,simprocAttr])
  all_goals clear R
  have:a=b:=List.ext_getElem? fun k=>by
   by_cases hk:k<i
   ·exact hi2 k hk
   ·rw[zx9 (by omega),zx9 (by omega)]
  simp[this]
theorem yi(a b:List aU):aZ Tryz.prog 52 [enc a,enc b] (enc (decide (a=b))):=by
 refine aZ.b5 Tryz.func52 I8 Kc Lx (u8 rfl) (fun hwf W0 bG E1 =>?_);simp only[zF,Ev,bI,zz1];have hlen:a.length≤maxLen:=((mA a).1 hwf.1).1;simp only[maxLen] at hlen;clear hwf;by_cases ao:a.length=b.length
 case neg =>
  have hn:((a.length:Int) != (b.length:Int))=true:=by simp;omega
  have R:=y6 @hn aC
  repeat' ((first |refine ae.aE (by decide +kernel) rfl fun K hK =>?_|(refine .av [0,1,4,5,10,12,13,14,24] hK ?_;clear hK K)|(with_reducible refine .done (hK _ ?_);clear hK K)|refine ae.of rfl ?_|(with_reducible refine ay.aD (fun h =>?_) (fun h =>?_) <;>try simp only[h])) <;>try simp only[aF,R,simprocAttr])
  all_goals clear R
  have:¬ a=b:=fun e=>ao (by rw[e]);simp[this]
 have hn:((a.length:Int) != (b.length:Int))=false:=by simp;omega
 have R:=y6 @hn aC
 repeat' ((first |refine ae.aE (by decide +kernel) rfl fun K hK =>?_|(refine .av [0,1,4,5,10,12,13,14,24] hK ?_;clear hK K)|(with_reducible refine .done (hK _ ?_);clear hK K)|refine ae.of rfl ?_|(with_reducible refine ay.aD (fun h =>?_) (fun h =>?_) <;>try simp only[h])) <;>try simp only[aF,R,simprocAttr])
 all_goals clear R
 refine ae.loop (fun i:Nat=>au [(0,enc a),(1,enc b),(12,.int .i64 a.length),(13,.int .i64 i)] []) (fun i=>i≤a.length∧∀ k,k<i→a[k]?=b[k]?) (fun i=>a.length-i) 0 ⟨zw2 _,fun k h=>by omega⟩ ?_ (fun i hi =>?_)
 ·refine bw.dh ?_ ?_ ?_ ?_ <;>simp[cz,c6,cJ,cF,cu,I.only,cA]
 obtain ⟨hi1,hi2⟩:=hi;by_cases hlt:i<a.length
 ·have hc:=ga hlt;have he:=fun A=>eM (A:=A) 4 hlt rfl;have hlt2:i<b.length:=by omega
  have he2:=fun A=>eM (A:=A) 4 hlt2 rfl;have hw:=fJ (i:=i) (by omega);have hq:=M6 a[i] b[i];rcases hp:decide (a[i]=b[i])
  ·rw[hp] at hq;have R:=y6 @hc (y6 @he (y6 @he2 (y6 @hq aC)))
   repeat' ((first |refine ae.aE (by decide +kernel) rfl fun K hK =>?_|(refine .av [0,1,4,5,10,12,13,14,24] hK ?_;clear hK K)|(with_reducible refine .done (hK _ ?_);clear hK K)|refine ae.of rfl ?_|(with_reducible refine ay.aD (fun h =>?_) (fun h =>?_) <;>try simp only[h])) <;>try simp only[aF,R,simprocAttr])
   all_goals clear R
   have:¬ a=b:=fun e=>by subst e;simp at hp
   simp[this]
  ·rw[hp] at hq;have R:=y6 @hc (y6 @he (y6 @he2 (y6 @hq (y6 @hw aC))))
   repeat' ((first |refine ae.aE (by decide +kernel) rfl fun K hK =>?_|(refine .av [0,1,4,5,10,12,13,14,24] hK ?_;clear hK K)|(with_reducible refine .done (hK _ ?_);clear hK K)|refine ae.of rfl ?_|(with_reducible refine ay.aD (fun h =>?_) (fun h =>?_) <;>try simp only[h])) <;>try simp only[aF,R,simprocAttr])
   all_goals clear R
   refine ⟨i+1,⟨by omega,fun k hk =>?_⟩,by omega,?_⟩
   ·by_cases e:k=i
    ·subst e;have:a[k]=b[k]:=by simpa using hp
     simp[hlt,hlt2,this]
    ·exact hi2 k (by omega)
   ·refine bw.dh ?_ ?_ ?_ ?_ <;>simp[cz,c6,cJ,cF,cu,I.only,cA]
 ·have hc:=gp hlt;have R:=y6 @hc aC
  repeat' ((first |refine ae.aE (by decide +kernel) rfl fun K hK =>?_|(refine .av [0,1,4,5,10,12,13,14,24] hK ?_;clear hK K)|(with_reducible refine .done (hK _ ?_);clear hK K)|refine ae.of rfl ?_|(with_reducible refine ay.aD (fun h =>?_) (fun h =>?_) <;>try simp only[h])) <;>try simp only[aF,R,simprocAttr])
  all_goals clear R
  have:a=b:=List.ext_getElem? fun k=>by
   by_cases hk:k<i
   ·exact hi2 k hk
   ·rw[zx9 (by omega),zx9 (by omega)]
  simp[this]
theorem yd(a b:List ea):aZ Tryz.prog 17 [enc a,enc b] (enc (decide (a=b))):=by
 refine aZ.b5 Tryz.func17 IM JS Ld (u8 rfl) (fun hwf W0 bG E1 =>?_);simp only[zi,D9,bI,zz1];have hlen:a.length≤maxLen:=((mA a).1 hwf.1).1;simp only[maxLen] at hlen;clear hwf;by_cases ao:a.length=b.length
 case neg =>
  have hn:((a.length:Int) != (b.length:Int))=true:=by simp;omega
  have R:=y6 @hn aC
  repeat' ((first |refine ae.aE (by decide +kernel) rfl fun K hK =>?_|(refine .av [0,1,4,5,10,12,13,14,24] hK ?_;clear hK K)|(with_reducible refine .done (hK _ ?_);clear hK K)|refine ae.of rfl ?_|(with_reducible refine ay.aD (fun h =>?_) (fun h =>?_) <;>try simp only[h])) <;>try simp only[aF,R,simprocAttr])
  all_goals clear R
  have:¬ a=b:=fun e=>ao (by rw[e]);simp[this]
 have hn:((a.length:Int) != (b.length:Int))=false:=by simp;omega
 have R:=y6 @hn aC
 repeat' ((first |refine ae.aE (by decide +kernel) rfl fun K hK =>?_|(refine .av [0,1,4,5,10,12,13,14,24] hK ?_;clear hK K)|(with_reducible refine .done (hK _ ?_);clear hK K)|refine ae.of rfl ?_|(with_reducible refine ay.aD (fun h =>?_) (fun h =>?_) <;>try simp only[h])) <;>try simp only[aF,R,simprocAttr])
 all_goals clear R
 refine ae.loop (fun i:Nat=>au [(0,enc a),(1,enc b),(12,.int .i64 a.length),(13,.int .i64 i)] []) (fun i=>i≤a.length∧∀ k,k<i→a[k]?=b[k]?) (fun i=>a.length-i) 0 ⟨zw2 _,fun k h=>by omega⟩ ?_ (fun i hi =>?_)
 ·refine bw.dh ?_ ?_ ?_ ?_ <;>simp[cz,c6,cJ,cF,cu,I.only,cA]
 obtain ⟨hi1,hi2⟩:=hi;by_cases hlt:i<a.length
 ·have hc:=ga hlt;have he:=fun A=>eM (A:=A) 5 hlt rfl;have hlt2:i<b.length:=by omega
  have he2:=fun A=>eM (A:=A) 5 hlt2 rfl;have hw:=fJ (i:=i) (by omega);have hq:=A8 a[i] b[i];rcases hp:decide (a[i]=b[i])
  ·rw[hp] at hq;have R:=y6 @hc (y6 @he (y6 @he2 (y6 @hq aC)))
   repeat' ((first |refine ae.aE (by decide +kernel) rfl fun K hK =>?_|(refine .av [0,1,4,5,10,12,13,14,24] hK ?_;clear hK K)|(with_reducible refine .done (hK _ ?_);clear hK K)|refine ae.of rfl ?_|(with_reducible refine ay.aD (fun h =>?_) (fun h =>?_) <;>try simp only[h])) <;>try simp only[aF,R,simprocAttr])
   all_goals clear R
   have:¬ a=b:=fun e=>by subst e;simp at hp
   simp[this]
  ·rw[hp] at hq;have R:=y6 @hc (y6 @he (y6 @he2 (y6 @hq (y6 @hw aC))))
   repeat' ((first |refine ae.aE (by decide +kernel) rfl fun K hK =>?_|(refine .av [0,1,4,5,10,12,13,14,24] hK ?_;clear hK K)|(with_reducible refine .done (hK _ ?_);clear hK K)|refine ae.of rfl ?_|(with_reducible refine ay.aD (fun h =>?_) (fun h =>?_) <;>try simp only[h])) <;>try simp only[aF,R,simprocAttr])
   all_goals clear R
   refine ⟨i+1,⟨by omega,fun k hk =>?_⟩,by omega,?_⟩
   ·by_cases e:k=i
    ·subst e;have:a[k]=b[k]:=by simpa using hp
     simp[hlt,hlt2,this]
    ·exact hi2 k (by omega)
   ·refine bw.dh ?_ ?_ ?_ ?_ <;>simp[cz,c6,cJ,cF,cu,I.only,cA]
 ·have hc:=gp hlt;have R:=y6 @hc aC
  repeat' ((first |refine ae.aE (by decide +kernel) rfl fun K hK =>?_|(refine .av [0,1,4,5,10,12,13,14,24] hK ?_;clear hK K)|(with_reducible refine .done (hK _ ?_);clear hK K)|refine ae.of rfl ?_|(with_reducible refine ay.aD (fun h =>?_) (fun h =>?_) <;>try simp only[h])) <;>try simp only[aF,R,simprocAttr])
  all_goals clear R
  have:a=b:=List.ext_getElem? fun k=>by
   by_cases hk:k<i
   ·exact hi2 k hk
   ·rw[zx9 (by omega),zx9 (by omega)]
  simp[this]
theorem GB(a b:List cZ):aZ Tryz.prog 42 [enc a,enc b] (enc (decide (a=b))):=by
 refine aZ.b5 Tryz.func42 IZ J3 Lo (u8 rfl) (fun hwf W0 bG E1 =>?_);simp only[zu,El,bI,zz1];have hlen:a.length≤maxLen:=((mA a).1 hwf.1).1;simp only[maxLen] at hlen;clear hwf;by_cases ao:a.length=b.length
 case neg =>
  have hn:((a.length:Int) != (b.length:Int))=true:=by simp;omega
  have R:=y6 @hn aC
  repeat' ((first |refine ae.aE (by decide +kernel) rfl fun K hK =>?_|(refine .av [0,1,4,5,10,12,13,14,24] hK ?_;clear hK K)|(with_reducible refine .done (hK _ ?_);clear hK K)|refine ae.of rfl ?_|(with_reducible refine ay.aD (fun h =>?_) (fun h =>?_) <;>try simp only[h])) <;>try simp only[aF,R,simprocAttr])
  all_goals clear R
  have:¬ a=b:=fun e=>ao (by rw[e]);simp[this]
 have hn:((a.length:Int) != (b.length:Int))=false:=by simp;omega
 have R:=y6 @hn aC
 repeat' ((first |refine ae.aE (by decide +kernel) rfl fun K hK =>?_|(refine .av [0,1,4,5,10,12,13,14,24] hK ?_;clear hK K)|(with_reducible refine .done (hK _ ?_);clear hK K)|refine ae.of rfl ?_|(with_reducible refine ay.aD (fun h =>?_) (fun h =>?_) <;>try simp only[h])) <;>try simp only[aF,R,simprocAttr])
 all_goals clear R
 refine ae.loop (fun i:Nat=>au [(0,enc a),(1,enc b),(12,.int .i64 a.length),(13,.int .i64 i)] []) (fun i=>i≤a.length∧∀ k,k<i→a[k]?=b[k]?) (fun i=>a.length-i) 0 ⟨zw2 _,fun k h=>by omega⟩ ?_ (fun i hi =>?_)
 ·refine bw.dh ?_ ?_ ?_ ?_ <;>simp[cz,c6,cJ,cF,cu,I.only,cA]
 obtain ⟨hi1,hi2⟩:=hi;by_cases hlt:i<a.length
 ·have hc:=ga hlt;have he:=fun A=>eM (A:=A) 4 hlt rfl;have hlt2:i<b.length:=by omega
  have he2:=fun A=>eM (A:=A) 4 hlt2 rfl;have hw:=fJ (i:=i) (by omega);have hq:=A9 a[i] b[i];rcases hp:decide (a[i]=b[i])
  ·rw[hp] at hq;have R:=y6 @hc (y6 @he (y6 @he2 (y6 @hq aC)))
   repeat' ((first |refine ae.aE (by decide +kernel) rfl fun K hK =>?_|(refine .av [0,1,4,5,10,12,13,14,24] hK ?_;clear hK K)|(with_reducible refine .done (hK _ ?_);clear hK K)|refine ae.of rfl ?_|(with_reducible refine ay.aD (fun h =>?_) (fun h =>?_) <;>try simp only[h])) <;>try simp only[aF,R,simprocAttr])
   all_goals clear R
   have:¬ a=b:=fun e=>by subst e;simp at hp
   simp[this]
  ·rw[hp] at hq;have R:=y6 @hc (y6 @he (y6 @he2 (y6 @hq (y6 @hw aC))))
   repeat' ((first |refine ae.aE (by decide +kernel) rfl fun K hK =>?_|(refine .av [0,1,4,5,10,12,13,14,24] hK ?_;clear hK K)|(with_reducible refine .done (hK _ ?_);clear hK K)|refine ae.of rfl ?_|(with_reducible refine ay.aD (fun h =>?_) (fun h =>?_) <;>try simp only[h])) <;>try simp only[aF,R,simprocAttr])
   all_goals clear R
   refine ⟨i+1,⟨by omega,fun k hk =>?_⟩,by omega,?_⟩
   ·by_cases e:k=i
    ·subst e;have:a[k]=b[k]:=by simpa using hp
     simp[hlt,hlt2,this]
    ·exact hi2 k (by omega)
   ·refine bw.dh ?_ ?_ ?_ ?_ <;>simp[cz,c6,cJ,cF,cu,I.only,cA]
 ·have hc:=gp hlt;have R:=y6 @hc aC
  repeat' ((first |refine ae.aE (by decide +kernel) rfl fun K hK =>?_|(refine .av [0,1,4,5,10,12,13,14,24] hK ?_;clear hK K)|(with_reducible refine .done (hK _ ?_);clear hK K)|refine ae.of rfl ?_|(with_reducible refine ay.aD (fun h =>?_) (fun h =>?_) <;>try simp only[h])) <;>try simp only[aF,R,simprocAttr])
  all_goals clear R
  have:a=b:=List.ext_getElem? fun k=>by
   by_cases hk:k<i
   ·exact hi2 k hk
   ·rw[zx9 (by omega),zx9 (by omega)]
  simp[this]
structure bA where
 az:Int
 j:List aU
 eI:Int
 deriving DecidableEq,Inhabited
instance:Enc bA where
 enc g:=.agg [.int .i64 g.az,enc g.j,.int .i64 g.eI]
 sz:=3
 aX:=.eE [.one,.one,.one]
 gI:=true
 done g:=by simp only[I.done,I.fZ,Enc.done,Bool.and_self]
 size g:=by simp only[I.size,I.sizes,jQ,jy]
 iq g:=by simp only[I.aX,I.cQ,eC,nF]
 agg _:=rfl
theorem er:(∀ g:bA,(enc g).dH=some [.int .i64 g.az,enc g.j,.int .i64 g.eI])∧(∀ (a c:Int) (b:List aU) v,db [.int .i64 a,enc b,.int .i64 c] 0 0 v=some v)∧(∀ (a c:Int) (b:List aU) v,db [.int .i64 a,enc b,.int .i64 c] 1 1 v=some v)∧(∀ (a c:Int) (b:List aU) v,db [.int .i64 a,enc b,.int .i64 c] 2 2 v=some v) ∧
  (∀ (g:bA),b8 (some 3) (enc g)=true)∧(∀ (g:List aU),b8 none (enc g)=true) :=
 ⟨fun _=>rfl,fun _ _ _ _=>iK (by simp) rfl,fun _ _ _ _=>iK (by simp) rfl,fun _ _ _ _=>iK (by simp) (by simp[I.sizes,I.size,jQ,jy]),fun _=>by rw[e7];rfl,fun _=>by simp[kg,ke]⟩
theorem Hh(x y:bA):x=y↔x.az=y.az∧x.j=y.j∧x.eI=y.eI:=by cases x;cases y;simp
theorem aaI(a b:bA):aZ Tryz.prog 16 [enc a,enc b] (enc (decide (a=b))):=by
 refine aZ.b5 Tryz.func16 IL JR Lc (u8 rfl) (fun hwf W0 bG E1 =>?_);simp only[zh,D8,bI,zz1];have R:=y6 @er aC
 repeat' ((first |(with_reducible refine .guard (fun hb =>?_) (fun hb =>?_) <;>try simp only[hb])|refine ae.aE (by decide +kernel) rfl fun K hK =>?_|refine .flat _ (yi a.j b.j) rfl ?_|(refine .av [0,1,2,3,4] hK ?_;clear hK K)|(with_reducible refine .done (hK _ ?_);clear hK K)|refine ae.of rfl ?_|(with_reducible refine ay.aD (fun h =>?_) (fun h =>?_) <;>try simp only[h])) <;>try simp only[aF,R,simprocAttr])
 all_goals clear R
 all_goals (simp_all[Hh])
theorem Io(az:Int):(dO [.int .i64 0,.nils 4,.int .i64 0] [(0,.int .i64 az)]).map I.agg=some (I.agg [.int .i64 az,.nils 4,.int .i64 0]):=by
 simp[dO,I.bS,I.size]
theorem sC:(dO [.int .i64 0,.nils 4,.int .i64 0] []).map I.agg=some (I.agg [.int .i64 0,.nils 4,.int .i64 0]):=by
 simp[dO]
theorem tZ(A:ai)(n:Nat)(b:I)(x y u v:Int)(rest:List aI):dk A (some 3) n [] b (.agg [.int .i64 x,.nils 4,.int .i64 y]) rest (some (.agg [.int .i64 u,.nils 4,.int .i64 v]))=aB rest (A.aT n (.box (.agg [.int .i64 x,.nils 4,.int .i64 y]))):=dK rfl rfl rfl
def ri(az:Int):bA×Int:=if cT 0 5 az then (⟨az,[],0⟩,0) else (⟨0,[],0⟩,90)
theorem ye(az:Int):aZ Tryz.prog 19 [enc az] (.tuple [enc (ri az).1,enc (ri az).2]):=by
 refine aZ.b5 Tryz.func19 IP JU Lf (u8 rfl) (fun hwf W0 bG E1 =>?_);simp only[zk,Eb,bI];have R:=y6 @er (y6 @Io (y6 @sC (y6 @tZ aC)))
 repeat' ((first |refine ae.aE (by decide +kernel) rfl fun K hK =>?_|refine .flat _ (lF az) rfl ?_|(refine .av [0,2,3,6] hK ?_;clear hK K)|(with_reducible refine .done (hK _ ?_);clear hK K)|refine ae.of rfl ?_|(with_reducible refine ay.aD (fun h =>?_) (fun h =>?_) <;>try simp only[h])) <;>try simp only[aF,R,simprocAttr])
 all_goals clear R
 all_goals (simp_all[ri];try rfl)
end Go.Proofs.YthbdbocionnfgaaGreatDoor
namespace Go.Abs
open Go Go.RowKit
open Enc (enc)
def wu:Option Nat→Code
 |none=>.ret
 |some id=>.exit id
def Bh:Option Nat→Exit
 |none=>.ret
 |some id=>.exit id
def p5(o:Obj)(A:ai)(os:List (Nat×aq)):Prop:=∀ n x,aj (en o os) n=some x→A.o n=some x∧x.only (aw (en o os))=true∧x.eh=true
def Fs(o:Obj)(In:List (Nat×aq)→Prop)(Ix:Option Nat→List (Nat×aq)→Prop):Exit→ai→Prop
 | .normal,A=>∃ os,p5 o A os∧In os
 | .ret,A=>∃ os,p5 o A os∧Ix none os
 | .exit id,A=>∃ os,p5 o A os∧Ix (some id) os
 |_,_=>False
def Hl(P:Program)(nn:Nat)(x y:bp)(ps:List Nat)(tsR:List (Nat×I))(N:Nat)(item:Nat→List I)(bf:Nat→List (Nat×aq)→Prop)(Ix:Option Nat→List (Nat×aq)→Prop):Prop :=
 ∀ k osb,k<N→bf k osb→∀ (w:World) (D:aP) (E:a8) (l:Nat) (o1 o2:Obj),
  ae ⟨P,w,D,nn,cI E,E,dv,some l,none⟩ x (dY (fun B=>B.o 1999999=some (.dF o1)∧ae ⟨P,w,D,nn,cI E,E,dv,some l,none⟩ y (Fs o2 (bf (k+1)) Ix) (B.aT 1999999 (.dF o2))) (fun _ _=>False)) (au (tI ps (item k) tsR) (en o1 osb))
section
variable {c:cV} {Q:Exit→ai→Prop}
theorem Xb{o:Obj}{A:ai}{os:List (Nat×aq)}(h:p5 o A os)(o':Obj):∀ n x,aj (en o' os) n=some x→(A.aT 1999999 (.dF o')).o n=some x∧x.only (aw (en o' os))=true∧x.eh=true:=fun n x hx=>by
 have e:aw (en o' os)=aw (en o os):=by funext m;rw[kX,kX]
 rw[e];by_cases hn:n=1999999
 ·subst hn;rw[pz,if_pos rfl,v6] at hx;subst hx;exact ⟨by simp[ai.aT],rfl,rfl⟩
 ·rw[pz,if_neg hn] at hx;obtain ⟨J,U⟩:=h n x (by rw[pz,if_neg hn];exact hx);exact ⟨by simp only[ai.aT,if_neg hn];exact J,U⟩
theorem ae.mh{f:aO}{ps:List Nat}{x y:bp}{ts tsR:List (Nat×I)}{os0 osb0:List (Nat×aq)}{ρ:List (Nat×Nat)}{g:FuncId}{caps:List I}{N:Nat}{item:Nat→List I}
  (bf:Nat→List (Nat×aq)→Prop) (Ix:Option Nat→List (Nat×aq)→Prop) (hr0:c.lq=none∧c.fk=none) (hn6:c.n≤1000000)
  (hf:ak (au ts os0) f=.func g caps) (hcl:I.ca caps=true) (hcb:eZ c.P g=true) (hit:yr c.P g caps N item) (hlen:∀ k,(item k).length=ps.length)
  (hfree:aj os0 999999=none) (h19:aw osb0 1999999=false) (hρ:bH ρ 1999999=999999)
  (hgv:∀ o,gn ρ (en o osb0) ((999999,.dF o)::os0)) (hts:nf ρ (aw osb0) ts tsR)
  (hI:∀ k os,bf k os→eV osb0 os) (hIx:∀ e os,Ix e os→eV osb0 os) (aY:bf 0 osb0)
  (hround:Hl c.P c.n x y ps tsR N item bf Ix)
  (hdone:∀ os,bf N os→Q .normal (au ts (dn ρ os++os0))) (hexit:∀ e os,Ix e os→Q (Bh e) (au ts (dn ρ os++os0))) :
  ae c (.mh f ps x y) Q (au ts os0):=by
 obtain ⟨hr,hbase⟩:=hr0;intro code hc a w ab;cases code <;>simp only[eA] at hc <;>try (first | (cases hc;done) | ((repeat' split at hc) <;>cases hc;done))
 rename_i cf cps cx cy;split at hc
 case h_2=>cases hc
 rename_i f' x' y' hcf hcx hcy;split at hc
 case isFalse=>cases hc
 rename_i hpn;simp only[v6,bp.mh.injEq] at hc;obtain ⟨rfl,rfl,rfl,rfl⟩:=hc;obtain ⟨D,E,ab⟩:=ab;have hF:c.bC=Fence.wide:=by unfold cV.bC;rw[hr]
 have hE0:c.di 999999=none:=ab.km (.inr (by decide));have hval:∃ vs:List Value,a.eval cf=.func (.func g) #[] vs.toArray∧aJ w D E caps vs:=by
  have hv:=bX ab hcf;rw[hf] at hv;obtain ⟨cs,q1,q2⟩:=hv;simp only[al] at q2;obtain ⟨vs,q3,q4⟩:=q2;exact ⟨vs,by rw[←mK (Az hcb)];simpa[bE,I.isAgg,q3] using q1.symm,q4⟩
 obtain ⟨vs,hval,hvs⟩:=hval;rw[hF];refine wpIn_rangeFunc fun fn hfn =>?_;obtain ⟨rec,hrec⟩:∃ rec:LoopState→Option Code→Loop,rec=fun bg pe => { state:=bg,pending:=pe,fn,tmps:=a.tmps,params:=cps,assign:=cx,body:=cy,defers:=w.heap.size } :=⟨_,rfl⟩
 obtain ⟨E1,hs1,hE1,hup⟩:=ab.enter hbase hfree hE0 (o:=.loop (rec .ready none)) rfl;obtain ⟨W1,hW1⟩:∃ W1,(w.alloc (.deferred (some []))).alloc (.loop (rec .ready none))=W1:=⟨_,rfl⟩
 rw[hW1] at hs1 hup;obtain ⟨l,ao⟩:∃ l,l=w.heap.size+1:=⟨_,rfl⟩
 rw[←ao] at hE1;obtain ⟨yv,hyv⟩:∃ yv:Value,yv=.func (.yield l) #[] #[]:=⟨_,rfl⟩
 obtain ⟨a1,ha1⟩:∃ a1:Act,a1 = { a with defers := { target:=.collected w.heap.size,args := #[] } :: a.defers } :=⟨_,rfl⟩
 rw[←ha1] at hs1;refine ⟨l,[{ target:=.collected w.heap.size,args := #[] }],W1,{ target:=.fn (.func g) vs.toArray,args := #[yv] },W1,g,#[yv]++vs.toArray,W1,?_,?_,?_,?_,fun _=>by decide,?_⟩
 ·rw[←hW1,hrec,ao];exact run_enterLoop_outer _ _ _ _ _
 ·simp only[resolve,hval,hyv];simp[go_sem]
 ·intro f' _;trivial
 ·simp only[invoke,mZ hcb]
 ·-- the iterator's own bargain
  have hG0:=hI 0 osb0 aY;obtain ⟨I',hI'⟩:∃ I':Nat→List (Nat×aq)→Prop,I'=fun k os=>∃ osb,os=en (.loop (rec .ready none)) osb∧bf k osb:=⟨_,rfl⟩
  obtain ⟨Ix',hIx'⟩:∃ Ix':List (Nat×aq)→Prop,Ix'=fun os=>∃ e osb,os=en (.loop (rec .done (some (wu e)))) osb∧Ix e osb:=⟨_,rfl⟩
  obtain ⟨os1,hos1⟩:∃ os1,os1=en (.loop (rec .ready none)) osb0:=⟨_,rfl⟩
  obtain ⟨Y,hY⟩:∃ Y:Value→List I→List (Nat×aq)→cC→Prop,Y=fun v args os post=>v=yv∧∃ k,args=item k∧k<N∧I' k os∧∀ r os2,(r=.bool true∧I' (k+1) os2)∨(r=.bool false∧Ix' os2)→post r os2:=⟨_,rfl⟩
  have iC:∀ k os',I' k os'→eV os1 os':=fun k os' h=>by
   rw[hI'] at h;obtain ⟨osb,rfl,h⟩:=h;rw[hos1];exact (hI k osb h).en _ _
  have goodx:∀ os',Ix' os'→eV os1 os':=fun os' h=>by
   rw[hIx'] at h;obtain ⟨e,osb,rfl,h⟩:=h;rw[hos1];exact (hIx e osb h).en _ _
  have hctr:=hit Y yv I' Ix' os1 (by rw[hyv];rfl) (fun k os' post hk J U=>by rw[hY];exact ⟨rfl,k,rfl,hk,J,U⟩) iC goodx (by rw[hI'];exact ⟨osb0,hos1,aY⟩);have hgv1:gn ρ os1 ((999999,.dF (.loop (rec .ready none)))::os0):=by rw[hos1];exact hgv _
  obtain ⟨A0,hA0⟩:∃ A0:ai,A0=au ts ((999999,.dF (.loop (rec .ready none)))::os0):=⟨_,rfl⟩
  have hand:nr (Calls c.P g) (fun w D E=>∀ n,oK ⟨c.P,w,D,n,cI E,E,Y,none,none⟩) (.raw yv::caps) os1 (fun r os'=>r=.tuple []∧(I' N os'∨Ix' os')):=fun w D E vs hy hlive hheld hv=>by
   refine (hctr.2 w D E vs hy hlive hheld hv).mono fun e w' ⟨v,he,D',E',r,os',q⟩=>⟨v,D',E',r,os',he,q⟩
  have hshare:=hs1.ov;obtain ⟨Dh,hDh⟩:∃ Dh,Dh=ot (au ts ((999999,.dF (.loop (rec .ready none)))::os0)) D E1:=⟨_,rfl⟩
  rw[←hDh] at hshare;have hsh:=hshare.1;obtain ⟨Eh,hEh⟩:∃ Eh,Eh=aA ρ os1 E1:=⟨_,rfl⟩
  have isrec:aw os1 1999999=true:=by rw[hos1,kX];simp
  have hEl:Eh 1999999=some (.op l):=by rw[hEh];simp only[aA,isrec,if_true,hρ];exact hE1
  have EhIn:∀ n e,Eh n=some e→aw os1 n=true:=fun n e h=>by
   rw[hEh] at h;simp only[aA] at h;split at h
   ·assumption
   ·cases h
  have hyok:∀ n,oK ⟨c.P,W1,Dh,n,cI Eh,Eh,Y,none,none⟩:=by
   refine fun n=>⟨by rw[hEh];exact hs1.pt,?_⟩
   intro v' args os' post' hYv w2 D2 E2 vs2 hsince hlive hheld hrvs;rw[hY] at hYv;obtain ⟨rfl,k,rfl,hkN,hIk,hpost⟩:=hYv;have hIk0:=hIk;rw[hI'] at hIk;obtain ⟨osb,rfl,hIk⟩:=hIk;have gk:=iC k _ hIk0;have gkb:=hI k osb hIk;have in2:∀ m,aw os1 m=true→E2 m≠none:=fun m hm=>by
    rw[←gk.same m] at hm;cases hx:aj (en (.loop (rec .ready none)) osb) m with
    |none=>simp[aw,hx] at hm
    |some x=>have:=hheld.bP m;rw[hx] at this;exact tv this
   have same2:∀ m e,Eh m=some e→e.eh=true→E2 m=some e:=fun m e he hfx=>by
    rcases hsince.dQ m e he with h | ⟨e',h,hle⟩
    ·exact absurd h (in2 m (EhIn m e he))
    ·rw[hle.eq hfx] at h;exact h
   have hEl2:E2 1999999=some (.op l):=same2 _ _ hEl rfl;have hob:=hheld.bP 1999999;rw[pz,if_pos rfl] at hob;obtain ⟨b,j1,_,j3,_,_⟩:=hob;rw[hEl2] at j1;cases j1;have hsz:vs2.toArray.size=cps.size:=by have:=rN hrvs;rw[hlen] at this;simpa using this
   have hyr:=run_yield (P:=c.P) (args:=vs2.toArray) j3 (by rw[hrec];exact hsz);rw[hrec] at hyr;refine ⟨l,hyv,fn,_,cx,cy,hyr,roundIn_of_wpIn trivial ?_⟩;clear hyr
   -- the round's own frame
   obtain ⟨cr,hcr⟩:∃ cr:cV,cr=⟨c.P,w2,D2,c.n,cI E2,E2,dv,some l,none⟩:=⟨_,rfl⟩
   have hFr:cr.bC=Fence.wide.inRound l:=by rw[hcr];rfl
   have hlat:dT W1 Dh Eh w2 D2 E2:=by
    refine ⟨hsince.cU,hsince.fw.cell,fun m b aX he=>same2 m _ he rfl,fun m aK l he =>?_,fun m b he=>same2 m _ he rfl,fun m b he=>same2 m _ he rfl,hsince.fw.jk⟩;rcases hsince.dQ m _ he with h | ⟨e',h,hle⟩
    ·exact absurd h (in2 m (EhIn m _ he))
    ·rcases hle with rfl | ⟨_,_,blk',l',e,rfl,k1,k2⟩
     ·exact ⟨aK,l,h,zz4 _,fun _=>rfl⟩
     ·cases e;exact ⟨blk',l',h,k1,k2⟩
   have hslots:nf ρ (aw os1) ts tsR:=by
    have:∀ tsR:List (Nat×I),nf ρ (aw osb0) ts tsR→nf ρ (aw os1) ts tsR:=by
     intro tsR
     induction tsR with
     |nil=>exact fun h=>h
     |cons q r ih =>
      intro h;obtain ⟨J,U,ah⟩:=h;exact ⟨J,iM (fun n hn=>by rw[hos1,kX,hn];simp) _ U,ih ah⟩
    exact this tsR hts
   have hsr:aV cr (au tsR (en (.loop (rec .ready none)) osb)) { tmps:=a.tmps,defers:=[] } w2 D2 E2:=by
    rw[hcr];refine ⟨ab.sz,⟨[],rfl,.nil,fun _ h=>by simp at h⟩,fun t =>?_,eW.refl _ _,fun _ _ h _=>h,hlive,fun m=>(hheld.bP m).ic fun e b he hb=>.inr ⟨m,e,he,hb⟩,hheld.cO,fun _ e h=>.inr ⟨e,h,.refl e⟩,fun m hm =>?_,fun _ _ h=>h,⟨hsince.qT,fun _ _ _ _ h=>h.elim⟩,.refl _ _⟩
    ·rcases FK hslots t with h | ⟨J,U⟩
     ·simp only[au];rw[h];simp[bd]
     ·have ah:=hsh.dP t;rw[ha1] at ah;simp only[au] at ah ⊢;rw[J] at ah;have ar:=(bd.bh (w:=W1) (D:=Dh) (p:=aw os1) (ρ:=bH ρ) (E:=Eh) (E':=E1) (fun n hn=>by rw[hEh];simp only[aA,hn,if_true]) U).1 ah;exact bd.later hlat ar
    ·have hmi:aw os1 m=true:=by
      rw[←gk.same m];have:=hheld.bP m;cases hx:aj (en (.loop (rec .ready none)) osb) m with
      |none=>rw[hx] at this;exact absurd this hm
      |some x=>simp[aw,hx]
     have:=gk.lQ m hmi;exact ⟨zw9 hn6 this,this⟩
   have hsp:=aV.DH cps.toList vs2 (item k) tsR _ hsr (fun p hp=>by rw[hcr];have:=zx0.1 hpn p hp;simpa using this) hrvs (by have:=hsz;simpa using this.symm);have htm:(cps.zip vs2.toArray).foldl (fun t (q:Tmp×Value)=>t.setIfInBounds q.1 q.2) a.tmps=(cps.toList.zip vs2).foldl (fun t q=>t.setIfInBounds q.1 q.2) a.tmps:=by
    rw[←Array.foldl_toList];simp
   have hx:=hround k osb hkN hIk w2 D2 E2 l (.loop (rec .ready none)) (.loop { rec .ready none with state:=.busy });rw[←hcr] at hx;have hx1:=hx cx (by rw[hcr];exact hcx) _ w2 ⟨D2,E2,hsp⟩;rw[hFr] at hx1;simp only[←htm] at hx1;rw[hcr] at hx1;refine wpIn_mono hx1 ?_;rintro e ax wx ⟨B,hq,hsx⟩;rw[←hcr] at hq hsx;cases e <;>simp only[dY] at hq <;>try exact hq.elim
   simp only[Exit.then];obtain ⟨hB1,hB2⟩:=hq;obtain ⟨Dx,Ex,hsx⟩:=hsx;have hElx:Ex 1999999=some (.op l):=by
    have ho:=hsx.bP 1999999;rw[hB1] at ho;rcases hsx.vR (n:=1999999) (by rw[hcr];exact hEl2) rfl with h | h
    ·exact absurd h (tv ho)
    ·exact h
   have hLx:wx.heap[l]?=some (.loop (rec .ready none)):=by
    have ho:=hsx.bP 1999999;rw[hB1] at ho;obtain ⟨b,k1,_,k3,_⟩:=ho;rw[hElx] at k1;cases k1;exact k3
   refine ⟨_,run_beginRound hLx (by rw[hrec]),?_⟩;have hsb:=hsx.xR (o':=.loop { rec .ready none with state:=.busy }) hB1 hElx rfl;have hy1:=hB2 cy (by rw[hcr];exact hcy) _ _ ⟨Dx,Ex,hsb⟩;rw[hFr] at hy1;rw[hcr] at hy1;refine wpIn_mono hy1 ?_;rintro e a3 w3 ⟨A3,hq3,D3,E3,hs3⟩;rw[←hcr] at hs3
   -- the end of the round
   have bj:∀ (os:List (Nat×aq)) (jump:Option Code),p5 (.loop { rec .ready none with state:=.busy }) A3 os→(post' (.bool jump.isNone) (en (.loop (rec (if jump.isNone then .ready else .done) jump)) os)) →
     ∃ v w',(Instr.endRound l jump).run c.P w3=.ok v w'∧(fun e w'=>∃ v D' E' r os',e=Ending.returned v∧post' r os'∧bd w' D' E' r v∧jN (fun b=>w2.heap.size≤b∨cI E2 b) w' D' E' (aj os') ∧
      eW (fun b=>w2.heap.size≤b∨cI E2 b) w2 w'∧(∀ b o,D2 b o→D' b o)∧(∀ b o,D' b o→b<w'.heap.size)∧(∀ b o,D' b o→b<w2.heap.size→¬ cI E2 b→D2 b o) ∧
      (∀ n e,E2 n=some e→aw os' n=true→∃ e',E' n=some e'∧e.le e')∧gN w2 D2 w') (.returned v) w':=fun os jump hbk hp=>by
    have hA3:A3.o 1999999=some (.dF (.loop { rec .ready none with state:=.busy })):=(hbk 1999999 _ (by rw[pz,if_pos rfl])).1;have hEl3:E3 1999999=some (.op l):=by
     have ho:=hs3.bP 1999999;rw[hA3] at ho;rcases hs3.vR (n:=1999999) (by rw[hcr];exact hEl2) rfl with h | h
     ·exact absurd h (tv ho)
     ·exact h
    have hL3:w3.heap[l]?=some (.loop { rec .ready none with state:=.busy }):=by
     have ho:=hs3.bP 1999999;rw[hA3] at ho;obtain ⟨b,k1,_,k3,_⟩:=ho;rw[hEl3] at k1;cases k1;exact k3
    have hend:=run_endRound (P:=c.P) jump hL3;have erec:({ rec .ready none with state:=if jump.isNone then LoopState.ready else .done,pending:=jump } : Loop)=rec (if jump.isNone then .ready else .done) jump:=by rw[hrec]
    have hend':(Instr.endRound l jump).run c.P w3=.ok (.bool jump.isNone) (w3.putObj l (.loop (rec (if jump.isNone then .ready else .done) jump))):=by
     rw[hend];rw[hrec]
    have hs4:=hs3.xR (o':=.loop (rec (if jump.isNone then .ready else .done) jump)) hA3 hEl3 rfl;rw[hcr] at hs4;obtain ⟨D',E',_,_,_,q1,q2,q3,q4,q5,q6⟩:=hs4.wB (Xb hbk _);exact ⟨_,_,hend',_,D',E',.bool jump.isNone,_,rfl,hp,⟨[.bool jump.isNone],by simp[bE,I.isAgg],by simp[al]⟩,q1,q2,q3,q4,q5,q6⟩
   cases e with
   |normal =>
    obtain ⟨os,hbk,hin⟩:=hq3;exact bj os none hbk (hpost _ _ (.inl ⟨rfl,by rw[hI'];exact ⟨os,rfl,hin⟩⟩))
   |ret =>
    obtain ⟨os,hbk,hin⟩:=hq3;exact bj os (some .ret) hbk (hpost _ _ (.inr ⟨rfl,by rw[hIx'];exact ⟨none,os,rfl,hin⟩⟩))
   |exit id =>
    obtain ⟨os,hbk,hin⟩:=hq3;exact bj os (some (.exit id)) hbk (hpost _ _ (.inr ⟨rfl,by rw[hIx'];exact ⟨some id,os,rfl,hin⟩⟩))
   |goto t=>exact hq3.elim
   |panic ch=>exact hq3.elim
   |outgrown=>exact hq3.elim
  -- the call
  have hargs:fy (bd W1 D E1) (.raw yv::caps) (yv::vs):=by
   exact .cons ⟨[yv],by simp[bE,I.isAgg],by rw[hyv];exact ⟨rfl,rfl⟩⟩ (rM (hup caps vs hvs))
  have hus:=hand.use (ρ:=ρ) hs1 false (fun h=>h.mono) ⟨(fun h=>by cases h),fun _=>by rw[←hDh,←hEh];exact hyok⟩ hgv1 (sA _ (by simp[I.ca,I.bx,hcl]))
   (fun r os' hp=>by
    have gg:eV os1 os':=by
     rcases hp.2 with h | h
     ·exact iC _ _ h
     ·exact goodx _ h
    refine ⟨fun m x hx=>⟨(gg.ok m x hx).1,(gg.ok m x hx).2,fun h=>by cases h⟩,fun m m' J U=>hgv1.inj m m' (by rw[←gg.same];exact J) (by rw[←gg.same];exact U),fun m hm=>by rw[gg.same];exact hm,fun m J U=>(by rw[gg.same,U] at J;cases J),(by rw[hp.1];simp[I.only,I.cv]),fun h=>by cases h⟩) hargs
  have ecl : #[yv]++vs.toArray=(yv::vs).toArray:=by simp
  rw[ecl];refine CallsIn.mono (callsIn_wide.2 hus) ?_;rintro e w3 ⟨v,r,os',D2,E2,rfl,hp,hs2,_,hE2⟩;have key:∀ (o3:Obj) (osb:List (Nat×aq)),os'=en o3 osb→pn o3=true→E2 999999=some (.op l)∧w3.heap[l]?=some o3∧∀ o4,pn o4=true→b6 c (au ts (dn ρ osb++os0)) a1 (w3.putObj l o4):=fun o3 osb he ah=>by
   subst he;have hn2:E2 999999=some (.op l):=by
    obtain ⟨e',J,U⟩:=hE2 1999999 (.op l) (by rw[←hEh];exact hEl) (by rw[kX];simp);rw[hρ] at J;rw[J,U.eq rfl]
   have eos:dn ρ (en o3 osb)=(999999,.dF o3)::dn ρ osb:=by simp only[en,dn,zz3,hρ,aq.bh]
   rw[eos] at hs2;have ha:(au ts ((999999,aq.dF o3)::dn ρ osb++(999999,.dF (.loop (rec .ready none)))::os0)).o 999999=some (.dF o3):=by simp[au,aj]
   have hgb:∀ m,aw osb m=true→bH ρ m≠999999:=fun m hm e=>by
    have h5:aw (en o3 osb) m=true:=by rw[kX,hm];simp
    have g5:eV os1 (en o3 osb):=by
     rcases hp.2 with h | h
     ·exact iC _ _ h
     ·exact goodx _ h
    have h6:=hgv1.inj m 1999999 (by rw[←g5.same];exact h5) isrec (by rw[hρ];exact e);subst h6;have h7:eV osb0 osb:=by
     rcases hp.2 with h | h
     ·rw[hI'] at h;obtain ⟨osb',h8,h9⟩:=h;simp only[en,zw8] at h8;rw[h8.2];exact hI _ _ h9
     ·rw[hIx'] at h;obtain ⟨e,osb',h8,h9⟩:=h;simp only[en,zw8] at h8;rw[h8.2];exact hIx _ _ h9
    rw[h7.same,h19] at hm;cases hm
   refine ⟨hn2,?_,fun o4 ar =>?_⟩
   ·have ho:=hs2.bP 999999;rw[ha] at ho;obtain ⟨b,k1,_,k3,_⟩:=ho;rw[hn2] at k1;cases k1;exact k3
   ·have h5:=(hs2.xR (o':=o4) ha hn2 ar).MZ hn2;have hst:(⟨((au ts ((999999,aq.dF o3)::dn ρ osb++(999999,.dF (.loop (rec .ready none)))::os0)).aT 999999 (.dF o4)).t,fun m=>if m=999999 then none else
      ((au ts ((999999,aq.dF o3)::dn ρ osb++(999999,.dF (.loop (rec .ready none)))::os0)).aT 999999 (.dF o4)).o m⟩:ai)=au ts (dn ρ osb++os0):=by
     simp only[au,ai.aT]
     congr 1
     funext m
     by_cases hm:m=999999
     ·subst hm;simp only[if_true,qW];cases hq:pre ρ osb 999999 with
      |none=>exact hfree.symm
      |some k=>exact absurd (lh hq).2 (hgb k (lh hq).1)
     ·simp only[if_neg hm,zz5,aj,qW]
    rw[hst] at h5;exact ⟨D2,_,h5⟩
  rcases hp.2 with h | h
  ·rw[hI'] at h;obtain ⟨osb,he,hin⟩:=h;obtain ⟨k1,k2,k3⟩:=key _ osb he rfl;refine ⟨none,_,(by have:=run_endLoop (P:=c.P) k2 (by rw[hrec];simp);rw[hrec] at this;exact this),_,hdone osb hin,?_⟩;have:=k3 (.loop { rec .ready none with state:=.exhausted }) rfl;rw[ha1] at this;rw[hrec] at this;exact this
  ·rw[hIx'] at h;obtain ⟨e,osb,he,hin⟩:=h;obtain ⟨k1,k2,k3⟩:=key _ osb he rfl;refine ⟨some (wu e),_,(by have:=run_endLoop (P:=c.P) k2 (by rw[hrec];simp);rw[hrec] at this;exact this),?_⟩;have:=k3 (.loop { rec .done (some (wu e)) with state:=.exhausted }) rfl;rw[ha1] at this;rw[hrec] at this;have hq:tg c Q (Bh e) { a with defers := { target:=.collected w.heap.size,args := #[] } :: a.defers } _:=⟨_,hexit e osb hin,this⟩
   cases e with
   |none=>exact wpIn_ret hq
   |some id=>exact wpIn_exit hq
end
mutual
theorem kr{ρ:Nat→Nat}(h:∀ n,ρ n=n):∀ x:I,x.bh ρ=x
 | .agg fs | .tuple fs=>by simp only[I.bh];rw[mb h fs]
 | .slice _ es=>by simp only[I.bh];rw[mb h es]
 | .ref x=>by simp only[I.bh];rw[kr h x]
 | .func _ caps=>by simp only[I.bh];rw[mb h caps]
 | .iface _ v=>by simp only[I.bh];rw[kr h v]
 | .ptr _ _ | .own _ _ | .view _ _ _ _ _ | .mref _ | .dj _=>by simp only[I.bh,h]
 | .df ks vs=>by simp only[I.bh];rw[mb h ks,mb h vs]
 | .bool _ | .int _ _ | .bQ _ | .nilp | .dy | .dW | .any | .raw _ | .nils _ | .c0 _ | .undef | .du=>by simp only[I.bh]
theorem mb{ρ:Nat→Nat}(h:∀ n,ρ n=n):∀ xs:List I,I.dp ρ xs=xs
 | []=>rfl
 |x::xs=>by simp only[I.dp];rw[kr h x,mb h xs]
end
theorem aq.kr{ρ:Nat→Nat}(h:∀ n,ρ n=n):∀ x:aq,x.bh ρ=x
 | .box x=>by simp only[aq.bh,Abs.kr h]
 | .bW _ _ es=>by simp only[aq.bh,mb h]
 | .dF _=>rfl
 | .dC _ _=>rfl
 | .bt _ _=>by simp only[aq.bh,mb h]
 | .it _ _ _ _=>by simp only[aq.bh,mb h]
theorem ma(os:List (Nat×aq)):dn [] os=os:=by
 simp only[dn];have:(fun q:Nat×aq=>(bH [] q.1,q.2.bh (bH [])))=id:=by
  funext q
  rw[aq.kr (ρ:=bH []) (fun n=>rfl)];rfl
 rw[this,List.map_id]
theorem fE(a b:List (Nat×aq))(n:Nat):aj (a++b) n=match aj a n with
  |some x=>some x
  |none=>aj b n:=by
 induction a with
 |nil=>rfl
 |cons q a ih =>
  obtain ⟨k,v⟩:=q;simp only[zz5,aj];split
  ·rfl
  ·exact ih
theorem eV.none{os os':List (Nat×aq)}(h:eV os os'){n:Nat}(hn:n<1000000):aj os' n=none:=by
 cases hx:aj os' n with
 |none=>rfl
 |some x =>
  have J:aw os' n=true:=by simp[aw,hx]
  rw[h.same] at J;exact absurd (h.lQ n J) (by omega)
theorem bw.slots{ts ts':List (Nat×I)}{os os':List (Nat×aq)}(J:cz ts ts')(U:∀ n,aj os n=aj os' n):bw (au ts os) (au ts' os'):=by
 have e:au ts os=au ts os':=by
  simp only[au];congr 1;funext n;exact U n
 rw[e];rintro c a w ⟨D,E,ab⟩;refine ⟨D,E,ab.sz,ab.eB,fun t =>?_,ab.dM,ab.c4,ab.aR,ab.bP,ab.cO,ab.dQ,ab.eN,ab.cU,ab.eU,ab.fw⟩;rcases uf J t with h | h
 ·simp only[au];rw[h];simp[bd]
 ·have:=ab.dP t;simp only[au] at *;rw[h];exact this
theorem sB{os osk os2 ow:List (Nat×aq)}{ts:List (Nat×I)}(J:eV os osk)(U:eV os os2)(how:∀ m,aw ow m=true→m<1000000):au ts (dn [] os2++(ow++osk))=au ts (ow++os2):=by
 simp only[au,ma]
 congr 1
 funext n
 simp only[fE];cases hw:aj ow n with
 |none =>
  simp only;cases ah:aj os2 n with
  |some x=>rfl
  |none =>
   simp only;cases ar:aj osk n with
   |none=>rfl
   |some x =>
    have h5:aw osk n=true:=by simp[aw,ar]
    rw[J.same,←U.same] at h5;simp[aw,ah] at h5
 |some x =>
  simp only;rw[U.none (how n (by simp[aw,hw]))]
theorem gn.iC{os osk ow:List (Nat×aq)}(J:eV os osk)(how:∀ m,aw ow m=true→m<1000000):gn [] osk (ow++osk):=by
 refine ⟨fun m x hx =>?_,fun m m' _ _ h=>h⟩;have hm:aw osk m=true:=by simp[aw,hx]
 have hg:=J.lQ m (by rw[←J.same];exact hm);obtain ⟨k1,k2⟩:=J.ok m x hx;refine ⟨?_,k1,k2⟩;rw[aq.kr (ρ:=bH []) (fun n=>rfl)];simp only[bH,fE];cases hw:aj ow m with
 |none=>exact hx
 |some y=>have:=how m (by simp[aw,hw]);omega
theorem fW.iC{os osk os2 os0:List (Nat×aq)}{r:I}(J:eV os osk)(U:eV os os2)(hr:r.bx=true):fW false [] osk os0 r os2:=by
 refine ⟨fun m x hx=>⟨(U.ok m x hx).1,(U.ok m x hx).2,fun h=>by cases h⟩,fun m m' _ _ h=>h,fun m hm=>by rw[U.same,←J.same];exact hm,fun m ah ar =>?_,kq _ r hr,fun h=>by cases h⟩;rw[U.same,←J.same,ar] at ah;cases ah
theorem aQ.r3{P:Program}{Y:Value→List I→List (Nat×aq)→cC→Prop}{K:ai→Prop}{v:Value}{vs:List I}{dst:Option Nat}{rest:List aI}{ts:List (Nat×I)}{os osk ow:List (Nat×aq)}{In Ix:List (Nat×aq)→Prop}
  (hY:Y v vs osk (fun r os2=>(r=.bool true∧In os2)∨(r=.bool false∧Ix os2))) (hk:eV os osk) (hi:∀ os',In os'→eV os os') (hx:∀ os',Ix os'→eV os os') (hcl:I.ca vs=true) (how:∀ m,aw ow m=true→m<1000000)
  (J:∀ os2,In os2→aQ P Y false K (aB rest ((au ts (ow++os2)).aS dst (.bool true)))) (U:∀ os2,Ix os2→aQ P Y false K (aB rest ((au ts (ow++os2)).aS dst (.bool false)))) :
  aQ P Y false K (.kN v vs dst rest (au ts (ow++osk))):=by
 refine .um osk vs _ rfl hY (gn.iC hk how) (sA vs hcl) ?_ ?_
 ·rintro r os' (⟨rfl,h⟩ | ⟨rfl,h⟩)
  ·exact fW.iC hk (hi _ h) rfl
  ·exact fW.iC hk (hx _ h) rfl
 ·rintro r os' (⟨rfl,h⟩ | ⟨rfl,h⟩)
  ·rw[sB hk (hi _ h) how];exact J os' h
  ·rw[sB hk (hx _ h) how];exact U os' h
theorem sI(A:ai)(d:Option Nat)(args:List I)(rest:List aI)(v:Value):qh A d args rest (.raw v)=.kN v args d rest A:=rfl
end Go.Abs
namespace Go.Proofs.YthbdbocionnfgaaGreatDoor
open Go Go.Abs
open Go.Abs.Enc (enc)
structure aG where
 az:Int
 here:List Int
 all:List cZ
 aR:List Nat
 bo:List aU
 deriving Inhabited
structure jr where
 bR:Int
 no:Int
 deriving DecidableEq
instance:Enc jr where
 enc g:=.agg [.int .i64 g.bR,.int .i64 g.no]
 sz:=2
 aX:=.eE [.one,.one]
 gI:=true
 done g:=by simp only[I.done,I.fZ,Bool.and_self]
 size g:=by simp only[I.size,I.sizes]
 iq g:=by simp only[I.aX,I.cQ]
 agg _:=rfl
theorem sN(x y:jr):b7 (.bg [.i .i64,.i .i64]) (enc x) (enc y)=some (decide (x=y)):=by
 show b7 (.bg [.i .i64,.i .i64]) (.agg [.int .i64 x.bR,.int .i64 x.no]) (.agg [.int .i64 y.bR,.int .i64 y.no])=_
 have:x=y↔x.bR=y.bR∧x.no=y.no:=by cases x;cases y;simp
 simp[b7,hU,jb,this];rfl
theorem eQ(a b:Int):b7 (.i .i64) (enc a) (enc b)=some (decide (a=b)):=by
 show b7 (.i .i64) (.int .i64 a) (.int .i64 b)=_
 simp[b7];rfl
def eL(x:aU):jr:=⟨x.other,x.no⟩
def aG.b9(s:aG)(i:Nat):cZ:=s.all.getD i default
def aG.bD(s:aG):List cZ:=s.aR.map s.b9
def aG.bB(s:aG):List Int:=s.aR.map fun i:Nat=>((i:Int)+1)
def aG.fb(s:aG)(b:Int):Bool:=s.bD.any fun r=>decide (r.aH=b)
def aG.dS(s:aG):List jr:=s.bo.map eL
def aG.unknown(s:aG)(x:aU):Bool:=(x.other != s.az) && !decide (eL x∈s.dS)
def aG.at(s:aG)(no:Int):Option Nat:=s.aR.find? fun i=>decide (no=(i:Int)+1)
def aG.on(s:aG)(x:aU):Option Nat:=match s.at x.no with
 |some i=>if (s.b9 i).to=x.other∧(s.b9 i).aH=x.aH then some i else none
 |none=>none
def bF(B i:Nat):Nat:=B+5+i
def fQ(B d k i:Nat):Nat:=if i=k then d else B+5+i
def nl(B:Nat)(az dA:Int):I:=.agg [.int .i64 az,.mref (B+1),.mref (B+2),.int .i64 dA,.mref (B+3),.mref (B+4)]
def ph(l:List Int):aq:=.bt (l.map enc) (List.replicate l.length (.bool true))
def dR(ν:Nat→Nat)(l:List Nat):List I:=l.map fun i=>.ptr (ν i) []
def oj(ν:Nat→Nat)(s:aG):aq:=.bt (s.bB.map enc) (dR ν s.aR)
def qO(s:aG):aq:=.bt (s.dS.map enc) (s.bo.map enc)
def gK:List I:=[.int .i64 1,.int .i64 2,.int .i64 3,.int .i64 4,.int .i64 5,.int .i64 6,.int .i64 7,.int .i64 8]
def oR(B:Nat):aq:=.bt gK [.func 1000125 [.ptr B []],.func 1000126 [.ptr B []],.func 1000127 [.ptr B []],.func 1000128 [.ptr B []],.func 1000129 [.ptr B []],.func 1000130 [.ptr B []],.func 1000131 [.ptr B []],.func 1000132 [.ptr B []]]
def jt(ν:Nat→Nat):Nat→List cZ→List (Nat×aq)
 |_,[]=>[]
 |i,r::l=>(ν i,.box (enc r))::jt ν (i+1) l
def ed(B:Nat)(ν:Nat→Nat)(s:aG):List (Nat×aq) :=
 (B,.box (nl B s.az s.all.length))::(B+1,ph s.here)::(B+2,oj ν s)::(B+3,qO s)::(B+4,oR B)::jt ν 0 s.all
structure gv (B:Nat) (ν:Nat→Nat) (k:Nat):Prop where
 out:∀ i,i<k→ν i<B∨B+5≤ν i
 inj:∀ i j,i<k→j<k→ν i=ν j→i=j
theorem gv.bF(B k:Nat):gv B (bF B) k:=⟨fun i _=>.inr (by simp[Go.Proofs.YthbdbocionnfgaaGreatDoor.bF]),fun i j _ _ h=>by simp[Go.Proofs.YthbdbocionnfgaaGreatDoor.bF] at h;exact h⟩
theorem gv.fQ{B d k m:Nat}(h:d<B)(hm:m≤k+1):gv B (fQ B d k) m :=
 ⟨fun i _=>by simp only[Go.Proofs.YthbdbocionnfgaaGreatDoor.fQ];split <;>omega,fun i j hi hj h=>by simp only[Go.Proofs.YthbdbocionnfgaaGreatDoor.fQ] at h;(repeat' split at h) <;>omega⟩
theorem lY{B d k i:Nat}(h:i<k):fQ B d k i=bF B i:=by simp only[fQ,bF];rw[if_neg (by omega)]
theorem yU{ν:Nat→Nat} : ∀ (l:List cZ) (i k:Nat) (h:k<l.length),(∀ a b,a<i+l.length→b<i+l.length→ν a=ν b→a=b)→aj (jt ν i l) (ν (i+k))=some (.box (enc l[k]))
 | [],_,_,h,_=>by simp at h
 |r::l,i,0,_,_=>by simp[jt,aj]
 |r::l,i,k+1,h,hj=>by
  simp only[zw1] at h hj;simp only[jt,aj];rw[if_neg (fun e=>by have:=hj _ _ (by omega) (by omega) e;omega)];have:=yU l (i+1) k (by omega) (fun a b ha hb=>hj a b (by omega) (by omega));rw[show i+1+k=i+(k+1) by omega] at this;simpa using this
theorem yW{ν:Nat→Nat}{n:Nat} : ∀ (l:List cZ) (i:Nat),(∀ k,k<l.length→n≠ν (i+k))→aj (jt ν i l) n=none
 | [],_,_=>rfl
 |r::l,i,h=>by
  simp only[zw1] at h;simp only[jt,aj];rw[if_neg (by have:=h 0 (by omega);simpa using this)];exact yW l (i+1) fun k hk=>by have:=h (k+1) (by omega);rw[show i+1+k=i+(k+1) by omega];exact this
theorem yV{ν ν':Nat→Nat} : ∀ (l:List cZ) (i:Nat),(∀ k,k<i+l.length→ν k=ν' k)→jt ν i l=jt ν' i l
 | [],_,_=>rfl
 |r::l,i,h=>by
  simp only[zw1] at h;simp only[jt,h i (by omega),yV l (i+1) fun k hk=>h k (by omega)]
theorem aal{B:Nat}{ν ν':Nat→Nat}{s:aG}(ao:∀ i∈s.aR,i<s.all.length)(h:∀ k,k<s.all.length→ν k=ν' k):ed B ν s=ed B ν' s:=by
 have J:dR ν s.aR=dR ν' s.aR:=List.map_congr_left fun i hi=>by rw[h i (ao i hi)]
 simp only[ed,oj,J,yV s.all 0 (by simpa using h)]
section
variable {B:Nat} {ν:Nat→Nat} {s:aG}
theorem xY(B:Nat)(ν:Nat→Nat)(k n:Nat):n=B∨n=B+1∨n=B+2∨n=B+3∨n=B+4∨((n<B∨B+5≤n)∧(∃ i,i<k∧n=ν i))∨((n<B∨B+5≤n)∧∀ i,i<k→n≠ν i):=by
 by_cases J:n=B
 ·exact .inl J
 by_cases U:n=B+1
 ·exact .inr (.inl U)
 by_cases ah:n=B+2
 ·exact .inr (.inr (.inl ah))
 by_cases ar:n=B+3
 ·exact .inr (.inr (.inr (.inl ar)))
 by_cases h5:n=B+4
 ·exact .inr (.inr (.inr (.inr (.inl h5))))
 have h6:n<B∨B+5≤n:=by omega
 by_cases h7:∃ i,i<k∧n=ν i
 ·exact .inr (.inr (.inr (.inr (.inr (.inl ⟨h6,h7⟩)))))
 ·exact .inr (.inr (.inr (.inr (.inr (.inr ⟨h6,fun i hi e=>h7 ⟨i,hi,e⟩⟩)))))
theorem fu:aj (ed B ν s) B=some (.box (nl B s.az s.all.length)):=by simp[ed,aj]
theorem fU:aj (ed B ν s) (B+1)=some (ph s.here):=by simp[ed,aj]
theorem gh:aj (ed B ν s) (B+2)=some (oj ν s):=by simp[ed,aj]
theorem gi:aj (ed B ν s) (B+3)=some (qO s):=by simp[ed,aj]
theorem oC:aj (ed B ν s) (B+4)=some (oR B):=by simp[ed,aj]
theorem jn(hg:gv B ν s.all.length){i:Nat}(hi:i<s.all.length):aj (ed B ν s) (ν i)=some (.box (enc s.all[i])):=by
 have J:=hg.out i hi;simp only[ed,aj];rw[if_neg (by omega),if_neg (by omega),if_neg (by omega),if_neg (by omega),if_neg (by omega)];have:=yU (ν:=ν) s.all 0 i hi (by simpa using hg.inj)
 rwa [zz1] at this
theorem eF{n:Nat}(J:n<B∨B+5≤n)(h:∀ i,i<s.all.length→n≠ν i):aj (ed B ν s) n=none:=by
 simp only[ed,aj];rw[if_neg (by omega),if_neg (by omega),if_neg (by omega),if_neg (by omega),if_neg (by omega)];exact yW s.all 0 (by simpa using h)
theorem dL(hg:gv B ν s.all.length){n:Nat} : aw (ed B ν s) n=true↔(B≤n∧n≤B+4)∨∃ i,i<s.all.length∧n=ν i:=by
 rcases xY B ν s.all.length n with h | h | h | h | h | ⟨h,i,hi,e⟩ | ⟨h,hn⟩
 ·subst h;simp only[aw,fu];simp
 ·subst h;simp only[aw,fU];simp
 ·subst h;simp only[aw,gh];simp
 ·subst h;simp only[aw,gi];simp
 ·subst h;simp only[aw,oC];simp
 ·subst e;simp only[aw,jn hg hi];simp only[Option.isSome_some,true_iff];exact .inr ⟨i,hi,rfl⟩
 ·simp only[aw,eF h hn];simp only[Option.isSome_none,zz2,false_iff];rintro (U | ⟨i,hi,e⟩)
  ·omega
  ·exact hn i hi e
theorem YU(p:Nat→Bool)(h:p B=true):aq.only p (oR B)=true:=by
 simp[oR,gK,aq.only,I.only,I.cv,h]
theorem Dc(p:Nat→Bool):∀ l:List Nat,(∀ i∈l,p (ν i)=true)→I.cv p (dR ν l)=true
 | [],_=>rfl
 |i::l,h=>by
  have ih:=Dc p l fun j hj=>h j (by simp[hj]);simp only[dR] at ih;simp only[dR,zz3,I.cv,I.only,ih,h i (by simp),Bool.and_self]
theorem xb(p:Nat→Bool):∀ n:Nat,I.cv p (List.replicate n (.bool true))=true
 |0=>rfl
 |n+1=>by simp[List.replicate_succ,I.cv,I.only,xb p n]
theorem lB(hg:gv B ν s.all.length)(ao:∀ i∈s.aR,i<s.all.length){n:Nat}{x:aq}(h:aj (ed B ν s) n=some x):x.only (aw (ed B ν s))=true∧x.eh=true:=by
 have hin:∀ n,(B≤n∧n≤B+4)→aw (ed B ν s) n=true:=fun n hn=>(dL hg).2 (.inl hn);rcases xY B ν s.all.length n with U | U | U | U | U | ⟨U,i,hi,e⟩ | ⟨U,hn⟩
 ·subst U;rw[fu] at h;cases h;simp[aq.only,I.only,I.cv,aq.eh,nl,hin]
 ·subst U;rw[fU] at h;cases h;simp only[ph,aq.only,fR,xb,Bool.and_self,aq.eh,true_and]
 ·subst U;rw[gh] at h;cases h;refine ⟨?_,rfl⟩;simp only[oj,aq.only,fR,Bool.true_and];exact Dc _ _ fun i hi=>(dL hg).2 (.inr ⟨i,ao i hi,rfl⟩)
 ·subst U;rw[gi] at h;cases h;simp only[qO,aq.only,fR,Bool.and_self,aq.eh,true_and]
 ·subst U;rw[oC] at h;cases h;exact ⟨YU _ (hin _ (by omega)),rfl⟩
 ·subst e;rw[jn hg hi] at h;cases h;exact ⟨cA _ _,rfl⟩
 ·rw[eF U hn] at h;cases h
theorem aam(hg:gv 1000000 ν s.all.length)(h:∀ i,i<s.all.length→1000000≤ν i):∀ m,aw (ed 1000000 ν s) m=true→1000000≤m:=fun m hm=>by
 rcases (dL hg).1 hm with U | ⟨i,hi,rfl⟩
 ·omega
 ·exact h i hi
end
def jG(s:aG):I:=.df (s.bB.map enc) (s.aR.map fun i=>.ref (enc (s.b9 i)))
def jR(l:List Int):I:=.df (l.map enc) (List.replicate l.length (.bool true))
def kn(s:aG):I:=.df (s.dS.map enc) (s.bo.map enc)
def sH:I:=.df gK (List.replicate 8 .any)
def fT(s:aG):I:=.agg [.int .i64 s.az,jR s.here,jG s,.int .i64 s.all.length,kn s,sH]
theorem ql:∀ n:Nat,I.ca (List.replicate n (.bool true))=true
 |0=>rfl
 |n+1=>by simp[List.replicate_succ,I.ca,I.bx,ql n]
theorem vj{α:Type}[Enc α](f:Nat→α):∀ l:List Nat,I.ca (l.map fun i=>.ref (enc (f i)))=true
 | []=>rfl
 |i::l=>by simp[I.ca,I.bx,kd,vj f l]
theorem AS(s:aG):(fT s).bx=true:=by
 simp[fT,jR,jG,kn,sH,gK,I.bx,I.ca,iB,ql,vj,List.replicate]
theorem vJ{A:ai}{m:Nat}{x:I}(h:x.bx=true):cX A (m+1) x=some x:=by simp[cX,h]
theorem wH{A:ai}{m:Nat} : ∀ {l:List I},I.ca l=true→fP (cX A (m+1)) l=some l
 | [],_=>rfl
 |x::l,h=>by
  simp only[I.ca,t8] at h;simp only[fP,vJ h.1,wH h.2]
theorem sP{A:ai}{m n:Nat}{ks vs vs':List I}(ho:A.o n=some (.bt ks vs))(hk:I.ca ks=true)(hv:fP (cX A m) vs=some vs'):cX A (m+1) (.mref n)=some (.df ks vs'):=by
 simp only[cX,I.bx,zz2,if_false,ho,hk,if_true,hv,zz9]
theorem CN{A:ai}{m:Nat}{ν:Nat→Nat}{f:Nat→cZ} : ∀ {l:List Nat},(∀ i∈l,A.o (ν i)=some (.box (enc (f i))))→fP (cX A (m+2)) (dR ν l)=some (l.map fun i=>.ref (enc (f i)))
 | [],_=>rfl
 |i::l,h=>by
  have ih:=CN (m:=m) (l:=l) fun j hj=>h j (by simp[hj]);simp only[dR] at ih;have J:cX A (m+2) (.ptr (ν i) [])=some (.ref (enc (f i))):=by
   have hcl:(I.ptr (ν i) []).bx=false:=by simp[I.bx]
   rw[cX];simp only[hcl,zz2,if_false,cK,h i (by simp),I.at,vJ (kd (f i)),zz9]
  simp only[dR,zz3,fP,J,ih]
structure yq (A:ai) (B:Nat) (ν:Nat→Nat) (s:aG):Prop where
 aY:A.o B=some (.box (nl B s.az s.all.length))
 J:A.o (B+1)=some (ph s.here)
 U:A.o (B+2)=some (oj ν s)
 ah:A.o (B+3)=some (qO s)
 ar:A.o (B+4)=some (oR B)
 aL:∀ i,i<s.all.length→A.o (ν i)=some (.box (enc (s.b9 i)))
 cB:∀ i∈s.aR,i<s.all.length
theorem gR{A:ai}{B:Nat}{ν:Nat→Nat}{s:aG}(h:yq A B ν s)(m:Nat):cX A (m+5) (nl B s.az s.all.length)=some (fT s):=by
 have i0:∀ (k:IntKind) (v:Int),cX A (m+4) (.int k v)=some (.int k v):=fun _ _=>vJ (m:=m+3) rfl;have i1:cX A (m+4) (.mref (B+1))=some (jR s.here):=sP h.J (iB _) (wH (m:=m+2) (ql _));have i2:cX A (m+4) (.mref (B+2))=some (jG s):=sP h.U (iB _) (CN (m:=m+1) fun i hi=>h.aL i (h.cB i hi));have i3:cX A (m+4) (.mref (B+3))=some (kn s):=sP h.ah (iB _) (wH (m:=m+2) (iB _));have i4:cX A (m+4) (.mref (B+4))=some sH:=sP h.ar (by simp[gK,I.ca,I.bx]) (by
  have hf:∀ k:Nat,1000000≤k→cX A (m+3) (.func k [.ptr B []])=some .any:=fun k hk=>by
   rw[cX];have hcl:(I.func k [.ptr B []]).bx=false:=by simp[I.bx,I.ca]
   simp only[hcl,zz2,if_false,if_neg (show ¬ k<1000000 by omega)]
  simp only[fP,hf 1000125 (by decide),hf 1000126 (by decide),hf 1000127 (by decide),hf 1000128 (by decide),hf 1000129 (by decide),hf 1000130 (by decide),hf 1000131 (by decide),hf 1000132 (by decide)];rfl)
 rw[nl,cX];simp only[I.bx,I.ca,Bool.and_false,Bool.false_and,zz2,if_false,fP,i0,i1,i2,i3,i4,zz9];rfl
def dB(s:aG):I:=.ref (fT s)
theorem oz(s:aG):(dB s).bx=true:=by simp only[dB,I.bx,AS]
theorem Bi:(∀ A s,jg A 0 0 (dB s)=some (.ref (.int .i64 s.az)))∧(∀ A s,jg A 1 1 (dB s)=some (.ref (jR s.here)))∧(∀ A s,jg A 2 2 (dB s)=some (.ref (jG s)))∧(∀ A s,jg A 3 3 (dB s)=some (.ref (.int .i64 s.all.length))) ∧
  (∀ A s,jg A 4 4 (dB s)=some (.ref (kn s))):=by
 refine ⟨fun A s =>?_,fun A s =>?_,fun A s =>?_,fun A s =>?_,fun A s =>?_⟩ <;>simp[dB,fT,jg,I.dH,qt,o6,db,I.sizes,I.size,jR,jG,kn,sH]
theorem Xc(l:List Int):(jR l).bx=true:=by simp only[jR,I.bx,iB,ql,Bool.and_self]
theorem ZN(s:aG):(jG s).bx=true:=by simp only[jG,I.bx,iB,vj,Bool.and_self]
theorem Xr(s:aG):(kn s).bx=true:=by simp only[kn,I.bx,iB,Bool.and_self]
theorem eb:(type_of% @Bi)∧(∀ s,(dB s).bx=true)∧(∀ aL A s,bj aL A (dB s)=some (dB s))∧(∀ s,(dB s).bS=true)∧(∀ s,b8 none (dB s)=true)∧(∀ s,lX (dB s)=some (dB s))∧(∀ p s,(dB s).only p=true) ∧
  (∀ l,(jR l).bS=true)∧(∀ l,b8 none (jR l)=true)∧(∀ l,(jG l).bS=true)∧(∀ l,b8 none (jG l)=true)∧(∀ l,(kn l).bS=true)∧(∀ l,b8 none (kn l)=true)∧(∀ l,(jR l).bx=true)∧(∀ l,(jG l).bx=true)∧(∀ l,(kn l).bx=true) ∧
  (∀ A l,gb A (jR l)=some (l.map enc,List.replicate l.length (.bool true)))∧(∀ A s,gb A (jG s)=some (s.bB.map enc,s.aR.map fun i=>.ref (enc (s.b9 i))))∧(∀ A s,gb A (kn s)=some (s.dS.map enc,s.bo.map enc)) ∧
  (∀ x,b8 none (.ref x)=true)∧(∀ x,lX (.ref x)=some (.ref x)) :=
 ⟨Bi,oz,fun aL A s=>by
  have h:=oz s;simp only[dB,I.bx] at h;simp only[dB,bj,h,if_true],fun _=>rfl,fun _=>rfl,fun _=>rfl,fun p s=>kq p _ (oz s),fun _=>rfl,fun _=>rfl,fun _=>rfl,fun _=>rfl,fun _=>rfl,fun _=>rfl,Xc,ZN,Xr,
  fun _ _=>rfl,fun _ _=>rfl,fun _ _=>rfl,fun _=>rfl,fun _=>rfl⟩
theorem wX{A:ai}{d:Option Nat}{n:Nat}{rest:List aI}{ks vs:List I}{cur:Option Nat} : pF A d n rest (some (.it ks vs [] cur))=aB rest (A.aS d (.tuple [.bool false])):=by
 simp only[pF,if_true]
theorem aQ.gZ{P:Program}{Y:Value→List I→List (Nat×aq)→cC→Prop}{K:ai→Prop}{A:ai}{d:Option Nat}{n:Nat}{rest:List aI}{ks vs:List I}{left:List Nat}{cur:Option Nat}(ao:left≠[])
  (h:∀ i,i∈left→∃ kk x,ks[i]?=some kk∧vs[i]?=some x∧aQ P Y false K (aB rest ((A.aT n (.it ks vs (left.filter (· != i)) (some i))).aS d (.tuple [.bool true,kk,x])))) :
  aQ P Y false K (pF A d n rest (some (.it ks vs left cur))):=by
 simp only[pF,if_neg ao];refine .any rfl fun i hi =>?_;obtain ⟨kk,x,J,U,ah⟩:=h i hi;simp only[J,U];exact ah
theorem wC{n i:Nat}{av left:List Nat}(hC:(av++left).Perm (List.range n))(hi:i∈left):(left.filter (· != i)).length<left.length∧((av++[i])++left.filter (· != i)).Perm (List.range n):=by
 refine ⟨?_,?_⟩
 ·rcases Nat.lt_or_ge (left.filter (· != i)).length left.length with h | h
  ·exact h
  ·have:=List.filter_eq_self.1 (List.Sublist.eq_of_length_le List.filter_sublist h) i hi;simp at this
 have hnd:left.Nodup:=(List.nodup_append.1 (hC.nodup_iff.2 List.nodup_range)).2.1;have J:left.Perm (i::left.filter (· != i)):=by
  have U:(left.filter (· == i)).length=1:=by
   have:=List.nodup_iff_count.1 hnd i;have ah:=List.count_pos_iff.2 hi;have ar:left.count i=(left.filter (· == i)).length:=by rw[List.count,List.countP_eq_length_filter]
   omega
  have h5:left.filter (· == i)=[i]:=by
   obtain ⟨a,ha⟩:=List.length_eq_one_iff.1 U;have:a∈left.filter (· == i):=by rw[ha];simp
   have:=(zw3.1 this).2;simp at this;rw[ha,this]
  have h6:=(List.filter_append_perm (· == i) left).symm;rw[h5] at h6;exact h6
 refine List.Perm.trans ?_ hC;rw[zy2];exact (J.symm).append_left av
def yA(s:aG)(b:Int)(t:List Nat×List Nat×Option Nat):ai :=
 au [(0,dB s),(1,.int .i64 b),(11,.dj 11)] [(11,.it (s.bB.map enc) (s.aR.map fun i=>.ref (enc (s.b9 i))) t.2.1 t.2.2)]
theorem p8(s:aG)(b:Int):aZ Tryz.prog 72 [dB s,enc b] (enc (s.fb b)):=by
 refine aZ.b5 Tryz.func72 Jj Kn LJ (u8 rfl) (fun hwf W0 bG E1 =>?_);simp only[zQ,EH,bI,zz1];clear hwf;refine .fI (by decide +kernel) fun K hK =>?_;simp only[BH,bq,simprocAttr];refine .done (hK _ ?_);clear hK K;refine ae.seq (ae.seq ?_);refine .j0 (by decide +kernel) fun K hK =>?_;simp only[BI,bq,simprocAttr]
 try simp only[eb,jG,bu,kZ,bq,simprocAttr]
 refine .done (hK _ ?_);clear hK K;try simp only[dY]
 have hlen:s.bB.length=s.aR.length:=by simp[aG.bB]
 refine ae.block (ae.loop (yA s b) (fun t=>(t.1++t.2.1).Perm (List.range s.aR.length)∧∀ i∈t.1,(s.b9 (s.aR.getD i 0)).aH≠b) (fun t=>t.2.1.length) ([],List.range s.aR.length,none) ⟨by simp,by simp⟩ ?_ ?_)
 ·refine bw.slots ?_ (fun n =>?_)
  ·simp[cz,cu]
  ·simp only[dE,nS,zz8,hlen]
 rintro ⟨av,left,cur⟩ ⟨hC,hA⟩;simp only at hC hA;simp only[yA];by_cases ao:left=[]
 ·subst ao;have hno:s.fb b=false:=by
   simp only[aG.fb,aG.bD,List.any_map,List.any_eq_false,Function.comp,decide_eq_true_eq];intro i hi e;obtain ⟨k,hk,rfl⟩:=List.mem_iff_getElem.1 hi;have hm:k∈av:=(show av.Perm _ by simpa using hC).mem_iff.2 (zw5.2 hk);have:=hA k hm;simp only[zz0,zy3 hk,Option.getD_some] at this;exact this e
  refine .fI (by decide +kernel) fun K hK =>?_;simp only[v7,bq,simprocAttr]
  try simp only[kZ,wX,bq,simprocAttr]
  refine .done (hK _ ?_);clear hK K;refine ae.seq ?_;refine ae.iG ?_;simp only[ay,bq,simprocAttr];refine ⟨fun h =>?_,fun h =>?_⟩
  case refine_1=>cases h
  refine ae.exit ?_;try simp only[dY,jc,simprocAttr]
  rw[hno];have R:=aC
  repeat' ((first |refine ae.aE (by decide +kernel) rfl fun K hK =>?_|(refine .av [0,1,4,6,11,13,21] hK ?_;clear hK K)|(with_reducible refine .done (hK _ ?_);clear hK K)|refine ae.of rfl ?_|(with_reducible refine ay.aD (fun h =>?_) (fun h =>?_) <;>try simp only[h])) <;>try simp only[aF,R,simprocAttr])
  all_goals clear R
 ·refine .fI (by decide +kernel) fun K hK =>?_;simp only[v7,bq,simprocAttr]
  try simp only[kZ,bq,simprocAttr]
  refine aQ.gZ ao fun i hi =>?_;have hib:i<s.aR.length:=zw5.1 (hC.mem_iff.1 (by simp[hi]));obtain ⟨hm,hC2⟩:=wC hC hi;have hk1:(s.bB.map (enc (α:=Int)))[i]?=some (enc (((s.aR[i]:Nat):Int)+1)):=by simp[aG.bB,hib]
  have hk2:(s.aR.map fun i=>I.ref (enc (s.b9 i)))[i]?=some (.ref (enc (s.b9 s.aR[i]))):=by simp[hib]
  refine ⟨_,_,hk1,hk2,?_⟩;have hent:kT (s.bB.map enc) (s.aR.map fun i=>I.ref (enc (s.b9 i))) (some i)=some (.tuple [enc (((s.aR[i]:Nat):Int)+1),.ref (enc (s.b9 s.aR[i]))]):=by
   simp only[kT,hk1,hk2]
  have hx:s.aR.getD i 0=s.aR[i]:=by simp[zz0,hib]
  try simp only[bq,simprocAttr]
  refine .done (hK _ ?_);clear hK K;refine ae.seq ?_;refine ae.iG ?_;simp only[ay,bq,simprocAttr];refine ⟨fun h =>?_,fun h =>?_⟩
  case refine_2=>cases h
  refine ae.skip ?_;try simp only[dY,simprocAttr]
  refine ae.block ?_;rcases q:((s.b9 s.aR[i]).aH==b)
  ·have R:=y6 @hent (y6 @q aC)
   repeat' ((first |refine ae.aE (by decide +kernel) rfl fun K hK =>?_|(refine .av [0,1,4,6,11,13,21] hK ?_;clear hK K)|(with_reducible refine .done (hK _ ?_);clear hK K)|refine ae.of rfl ?_|(with_reducible refine ay.aD (fun h =>?_) (fun h =>?_) <;>try simp only[h])) <;>try simp only[aF,R,simprocAttr])
   all_goals clear R
   refine ⟨(av++[i],left.filter (· != i),some i),⟨hC2,fun j hj =>?_⟩,hm,?_⟩
   ·rcases zx7.1 hj with hj | hj
    ·exact hA j hj
    ·rw[zx5.1 hj,hx];simpa using q
   ·simp only[];refine bw.slots ?_ (fun n =>?_)
    ·simp[cz,cu]
    ·simp only[dE,nS];(repeat' split) <;>simp_all
  ·have hyes:s.fb b=true:=by
    simp only[aG.fb,aG.bD,List.any_map,List.any_eq_true,Function.comp,decide_eq_true_eq];exact ⟨s.aR[i],List.getElem_mem hib,by simpa using q⟩
   rw[hyes];have R:=y6 @hent (y6 @q aC)
   repeat' ((first |refine ae.aE (by decide +kernel) rfl fun K hK =>?_|(refine .av [0,1,4,6,11,13,21] hK ?_;clear hK K)|(with_reducible refine .done (hK _ ?_);clear hK K)|refine ae.of rfl ?_|(with_reducible refine ay.aD (fun h =>?_) (fun h =>?_) <;>try simp only[h])) <;>try simp only[aF,R,simprocAttr])
   all_goals clear R
theorem XK(s:aG)(x:aU):∃ v:I,v.bS=true∧b8 (some 4) v=true∧v.aX=.eE [.one,.one,.one,.one]∧fi (.bg [.i .i64,.i .i64]) (.agg [.int .i64 0,.int .i64 0,.int .i64 0,.int .i64 0]) (.agg [.int .i64 x.other,.int .i64 x.no]) (s.dS.map enc) (s.bo.map enc)=some (v,decide (eL x∈s.dS)):=by
 have h:=th sN (.agg [.int .i64 0,.int .i64 0,.int .i64 0,.int .i64 0]) (eL x) s.dS (s.bo.map enc);have hm:=qv (k:=eL x) (ks:=s.dS);have e:(enc (eL x):I)=.agg [.int .i64 x.other,.int .i64 x.no]:=rfl;rw[e] at h;rw[h,←hm];cases hf:s.dS.findIdx? fun y=>decide (eL x=y) with
 |none=>exact ⟨_,rfl,rfl,rfl,rfl⟩
 |some i =>
  have hi:=(List.findIdx?_eq_some_iff_getElem.1 hf).1;have hi2:i<s.bo.length:=by simpa[aG.dS] using hi
  refine ⟨enc s.bo[i],eg _,by rw[e7];rfl,eC _,?_⟩;simp[hi2]
theorem r9(s:aG)(x:aU):aZ Tryz.prog 152 [dB s,enc x] (enc (s.unknown x)):=by
 refine aZ.b5 Tryz.func152 IK JQ Lb (u8 rfl) (fun hwf W0 bG E1 =>?_);simp only[zg,D7,bI,zz1];clear hwf;obtain ⟨v,hv1,hv2,hv3,hlk⟩:=XK s x;have hbld:(dO [.int .i64 0,.int .i64 0] [(0,.int .i64 x.other),(1,.int .i64 x.no)]).map I.agg=some (.agg [.int .i64 x.other,.int .i64 x.no]):=by simp[dO,I.bS,I.size]
 have hst:∀ A rest b,dk A (some 4) 5 [] b v rest (some (.agg [.int .i64 0,.int .i64 0,.int .i64 0,.int .i64 0]))=aB rest (A.aT 5 (.box v)):=fun A rest b=>dK hv1 hv2 hv3;simp only[aG.unknown];rcases q:(x.other != s.az) <;>rcases q2:decide (eL x∈s.dS)
 all_goals
  rw[q2] at hlk;have R:=y6 @q (y6 @hv1 (y6 @hv2 (y6 @hbld (y6 @hst (y6 @hlk (y6 @eb (y6 @bu aC)))))))
  repeat' ((first |(with_reducible refine .guard (fun hb =>?_) (fun hb =>?_) <;>try simp only[hb])|refine ae.aE (by decide +kernel) rfl fun K hK =>?_|(refine .av [0,1,3,4,6] hK ?_;clear hK K)|(with_reducible refine .done (hK _ ?_);clear hK K)|refine ae.of rfl ?_|(with_reducible refine ay.aD (fun h =>?_) (fun h =>?_) <;>try simp only[h])) <;>try simp only[aF,R,simprocAttr])
  all_goals clear R
  rfl
theorem Be{α β:Type}(f:α→β):∀ (l:List α) (k:Nat),(l.map f).eraseIdx k=(l.eraseIdx k).map f
 | [],_=>rfl
 |_::_,0=>rfl
 |x::l,k+1=>by simp only[zz3,List.eraseIdx_cons_succ,Be f l k]
section
variable {α ι:Type} [Enc α] [DecidableEq α] [DecidableEq ι] {ty:cH}
omit [Enc α] [DecidableEq ι] in
theorem Bx(f:ι→α)(g:ι→I)(z:I)(k:α):∀ l:List ι,(match (l.map f).findIdx? fun x=>decide (k=x) with
   |some i=>((l.map g)[i]?).map fun v=>(v,true)
   |none=>some (z,false))=(match l.find? fun i=>decide (k=f i) with
   |some i=>some (g i,true)
   |none=>some (z,false))
 | []=>rfl
 |x::l=>by
  have ih:=Bx f g z k l;simp only[zz3,List.findIdx?_cons,List.find?_cons];by_cases h:k=f x
  ·simp[h]
  ·simp only[h,decide_false,zz2,if_false];rw[←ih];cases (l.map f).findIdx? fun x=>decide (k=x) with
   |none=>rfl
   |some i=>simp
omit [DecidableEq ι] in
theorem wD(aA:∀ x y:α,b7 ty (enc x) (enc y)=some (decide (x=y)))(f:ι→α)(g:ι→I)(z:I)(k:α)(l:List ι) :
  fi ty z (enc k) ((l.map f).map enc) (l.map g)=match l.find? fun i=>decide (k=f i) with
   |some i=>some (g i,true)
   |none=>some (z,false):=by
 exact (th aA z k _ _).trans (Bx f g z k l)
theorem CR(aA:∀ x y:α,b7 ty (enc x) (enc y)=some (decide (x=y)))(f:ι→α)(g:ι→I)(hf:∀ a b,f a=f b→a=b){l:List ι}{i:ι}(hi:i∈l) :
  lW ty (enc (f i)) ((l.map f).map enc) (l.map g)=some (((l.erase i).map f).map enc,(l.erase i).map g):=by
 have hf2:∀ a,(f i=f a)=(i=a):=fun a=>propext ⟨hf i a,fun e=>by rw[e]⟩;have key:∀ l:List ι,i∈l→∃ k,(l.map f).findIdx? (fun x=>decide (f i=x))=some k∧l.eraseIdx k=l.erase i:=by
  intro l
  induction l with
  |nil=>intro h;cases h
  |cons x l ih =>
   intro h;simp only[zz3,List.findIdx?_cons,hf2];by_cases e:i=x
   ·subst e;exact ⟨0,by simp,by simp⟩
   ·obtain ⟨k,J,U⟩:=ih (by simpa[e] using h);refine ⟨k+1,?_,?_⟩
    ·simp only[e,decide_false,zz2,if_false,J,zz9]
    ·rw[List.eraseIdx_cons_succ,U,List.erase_cons_tail (by simpa using fun h=>e h.symm)]
 obtain ⟨k,J,U⟩:=key l hi;simp only[lW,aA,Option.isSome_some,if_true,sS aA,J,zz9,Nat.add_zero];rw[←U];simp only[Be]
end
theorem Fl(l:List Int):List.replicate l.length (I.bool true)=l.map fun _=>.bool true:=by
 induction l with
 |nil=>rfl
 |cons x l ih=>simp[List.replicate_succ,ih]
theorem CS{l:List Int}{b:Int}(h:b∈l):lW (.i .i64) (.int .i64 b) (l.map enc) (List.replicate l.length (.bool true))=some ((l.erase b).map enc,List.replicate (l.erase b).length (.bool true)):=by
 have:=CR eQ (fun x:Int=>x) (fun _=>.bool true) (fun _ _ h=>h) h;simp only[List.map_id',eG] at this;rw[Fl,Fl];exact this
theorem js{s:aG}{no:Int}{i:Nat}(h:s.at no=some i):i∈s.aR∧no=(i:Int)+1 :=
 ⟨List.mem_of_find?_eq_some h,by simpa using List.find?_some h⟩
theorem wE{s:aG}(g:Nat→I)(no:Int):fi (.i .i64) .nilp (.int .i64 no) (s.bB.map enc) (s.aR.map g)=match s.at no with
   |some i=>some (g i,true)
   |none=>some (.nilp,false):=by
 have h:=wD eQ (fun i:Nat=>(i:Int)+1) g .nilp no s.aR;rw[eG] at h;refine h.trans ?_;unfold aG.at;generalize s.aR.find? (fun i:Nat=>decide (no=(i:Int)+1))=q;cases q <;>rfl
theorem CT{s:aG}(g:Nat→I){i:Nat}(h:i∈s.aR):lW (.i .i64) (.int .i64 ((i:Int)+1)) (s.bB.map enc) (s.aR.map g)=some (({ s with aR:=s.aR.erase i } : aG).bB.map enc,(s.aR.erase i).map g) :=
 CR eQ (fun i:Nat=>(i:Int)+1) g (fun a b h=>by omega) h
theorem pI{s:aG}{x:aU}{i:Nat}(h:s.on x=some i):s.at x.no=some i∧(s.b9 i).to=x.other∧(s.b9 i).aH=x.aH:=by
 simp only[aG.on] at h;split at h
 ·rename_i j hj;split at h
  ·rename_i bM;cases h;exact ⟨hj,bM⟩
  ·cases h
 ·cases h
def eJ(s:aG)(x:aU):Option aG :=
 if x.kind=1 then if x.aH∈s.here∨s.fb x.aH=true then none else some { s with here:=gy s.here x.aH }
 else if x.kind=2 then if x.aH∈s.here then some { s with here:=s.here.erase x.aH } else none
 else if x.kind=3 then if x.aH∈s.here∧x.other≠s.az∧x.no=(s.all.length:Int)+1 then
  some { s with here:=s.here.erase x.aH,all:=s.all++[⟨x.no,x.other,x.aH,false⟩],aR:=s.aR++[s.all.length] } else none
 else if x.kind=4 then match s.on x with
  |some i=>if (s.b9 i).dz then none else some { s with all:=s.all.set i { s.b9 i with dz:=true } }
  |none=>none
 else if x.kind=5 then match s.on x with
  |some i=>some { s with aR:=s.aR.erase i }
  |none=>none
 else if x.kind=6 then match s.on x with
  |some i=>if (s.b9 i).dz then some { s with aR:=s.aR.erase i,here:=gy s.here x.aH } else none
  |none=>none
 else if x.kind=7 then if s.unknown x=true∧x.aH∉s.here∧s.fb x.aH=false then some { s with bo:=s.bo++[x],here:=gy s.here x.aH } else none
 else if x.kind=8 then if s.unknown x=true then some { s with bo:=s.bo++[x] } else none
 else none
def gj(s:aG)(x:aU):Option aG:=if hd x then eJ s x else none
structure cD (s:aG):Prop where
 cB:∀ i∈s.aR,i<s.all.length
 iJ:s.aR.Nodup
 af:s.here.Nodup
theorem nv{l:List Int}{b:Int}(h:l.Nodup):(gy l b).Nodup:=by
 unfold gy;split
 ·exact h
 ·rename_i hb;exact List.nodup_append.2 ⟨h,by simp,fun a ha c hc e=>by rw[zx5.1 hc] at e;exact hb (e▸ha)⟩
theorem cD.next{s s':aG}{x:aU}(h:cD s)(hn:eJ s x=some s'):cD s'∧s'.az=s.az∧s'.all.length≤s.all.length+1∧(x.kind≠3→s'.all.length=s.all.length):=by
 obtain ⟨J,U,ah⟩:=h;simp only[eJ] at hn;split at hn
 ·split at hn <;>cases hn
  exact ⟨⟨J,U,nv ah⟩,rfl,by simp,fun _=>rfl⟩
 split at hn
 ·split at hn <;>cases hn
  exact ⟨⟨J,U,ah.erase _⟩,rfl,by simp,fun _=>rfl⟩
 split at hn
 ·rename_i hk;split at hn <;>cases hn
  refine ⟨⟨fun i hi =>?_,?_,ah.erase _⟩,rfl,by simp,fun h=>absurd hk h⟩
  ·simp only[zx7,zx5] at hi;simp only[zz7,List.length_singleton];rcases hi with hi | hi
   ·have:=J i hi;omega
   ·omega
  ·exact List.nodup_append.2 ⟨U,by simp,fun a ha c hc e=>by rw[zx5.1 hc] at e;have:=J a ha;omega⟩
 split at hn
 ·split at hn
  ·split at hn <;>cases hn
   exact ⟨⟨fun i hi=>by simpa using J i hi,U,ah⟩,rfl,by simp,fun _=>by simp⟩
  ·cases hn
 split at hn
 ·split at hn <;>cases hn
  exact ⟨⟨fun i hi=>J i (List.mem_of_mem_erase hi),U.erase _,ah⟩,rfl,by simp,fun _=>rfl⟩
 split at hn
 ·split at hn
  ·split at hn <;>cases hn
   exact ⟨⟨fun i hi=>J i (List.mem_of_mem_erase hi),U.erase _,nv ah⟩,rfl,by simp,fun _=>rfl⟩
  ·cases hn
 split at hn
 ·split at hn <;>cases hn
  exact ⟨⟨J,U,nv ah⟩,rfl,by simp,fun _=>rfl⟩
 split at hn
 ·split at hn <;>cases hn
  exact ⟨⟨J,U,ah⟩,rfl,by simp,fun _=>rfl⟩
 cases hn
theorem gT{ts:List (Nat×I)}{os:List (Nat×aq)}{B:Nat}{ν:Nat→Nat}{s:aG}(hg:gv B ν s.all.length)(ao:∀ i∈s.aR,i<s.all.length)(h:∀ n,aw (ed B ν s) n=true→aj os n=aj (ed B ν s) n):yq (au ts os) B ν s:=by
 have go:∀ n x,aj (ed B ν s) n=some x→(au ts os).o n=some x:=fun n x hx=>(h n (by simp[aw,hx])).trans hx;refine ⟨go _ _ fu,go _ _ fU,go _ _ gh,go _ _ gi,go _ _ oC,fun i hi =>?_,ao⟩;rw[go _ _ (jn hg hi)];simp[aG.b9,zz0,hi]
def fx:List PanicEntry:=[{ v:=.iface 144 (.agg #[]),recovered:=false }]
theorem XT(w:World):Calls Tryz.prog 114 #[.bool false] w fun e w'=>e=.panicked fx∧w'=w:=by
 go_enter Tryz.func114,Tryz.ntmps114
 go_wp2
 exact ⟨rfl,rfl,rfl⟩
theorem Ge:fe Tryz.prog 114 fx [enc false] [] (fun os'=>os'=[]) :=
 fe.Y4 Ah (fun w D vs hv=>by
  have hv':aJ w D di [.bool false] vs:=hv;simp only[aJ] at hv';obtain ⟨v,rest,cs,rfl,J,U,rfl⟩:=hv';have:v=.bool false:=ky (jC J U);subst this;exact XT w) rfl
theorem kE:aZ Tryz.prog 114 [enc true] (.tuple []):=by
 refine aZ.b5 Tryz.func114 Ah JN KZ (u8 rfl) (fun hwf W0 bG E1 =>?_);simp only[zd,DR,bI];have R:=y6 @kB @bq
 repeat' ((first |refine ae.aE (by decide +kernel) rfl fun K hK =>?_|(refine .av [0,3] hK ?_;clear hK K)|(with_reducible refine .done (hK _ ?_);clear hK K)|refine ae.of rfl ?_|(with_reducible refine ay.aD (fun h =>?_) (fun h =>?_) <;>try simp only[h])) <;>try simp only[aF,R,simprocAttr])
 all_goals clear R
 all_goals rfl
theorem Zs:sd Tryz.prog 113:=⟨Ag,fun b T w x hb=>by
 refine callsDIn_of_wpSIn Tryz.func113 rfl trivial fun c₀ cs hu =>?_;apply wpSIn_seq;apply wpSIn_region;simp[wpOpsSIn,go_sem,recoverD,hu,Tryz.ntmps113,Exit.thenS];apply wpSIn_seq;apply wpSIn_region;simp[wpOpsSIn,go_sem,Exit.thenS];refine wpSIn_cond (t:=false) (by simp[Act.eval,Array.replicate]) ?_;simp only[zz2,if_false];refine wpSIn_of_wpIn rfl (wpIn_skip ?_);cases c₀
 simp_all[bodyPostS,results,Tryz.results113]⟩
theorem Zr:r7 Tryz.prog 113 fx:=⟨Ag,fun b T w x hb=>by
 have hc:w.cell? ⟨b,0,none⟩=some (.bool x):=by simp[World.cell?,hb]
 have hz:w.frozen? ⟨b,0,none⟩=false:=by simp[World.frozen?,hb]
 have hta:∀ W,(Instr.typeAssert (.iface 144 (.agg #[])) 20 144 true).run Tryz.prog W=.ok (.tuple #[.agg #[],.bool true]) W:=fun W=>by
  simp[Instr.typeAssert,run_underlying Tryz.underlying144]
 refine callsDIn_of_wpSIn Tryz.func113 rfl trivial fun c₀ cs hu =>?_;apply wpSIn_seq;apply wpSIn_region;simp[wpOpsSIn,go_sem,recoverD,hu,Tryz.ntmps113,Exit.thenS,fx];apply wpSIn_seq;apply wpSIn_region;simp[wpOpsSIn,go_sem,Exit.thenS];refine wpSIn_cond (t:=true) (by simp[Act.eval,Array.replicate]) ?_;simp only[if_true];apply wpSIn_seq;apply wpSIn_seq;apply wpSIn_region;simp[wpOpsSIn,go_sem,Exit.thenS,hta];apply wpSIn_seq;apply wpSIn_region;simp[wpOpsSIn,go_sem,Exit.thenS];refine wpSIn_cond (t:=false) (by simp[Act.eval,Array.replicate]) ?_;simp only[zz2,if_false];refine wpSIn_of_wpIn rfl (wpIn_skip ?_);simp only[Exit.thenS];have hb2:(w.alloc (.cells #[] 144)).heap[b]?=some (.cells #[.bool x] T (0,0)):=(RowKit.Below.heap_alloc _ _ _ (fD hb)).trans hb;have hc2:(w.alloc (.cells #[] 144)).cell? ⟨b,0,none⟩=some (.bool x):=by simp[World.cell?,hb2]
 have hz2:(w.alloc (.cells #[] 144)).frozen? ⟨b,0,none⟩=false:=by simp[World.frozen?,hb2]
 apply wpSIn_region;simp[wpOpsSIn,go_sem,hc2,hz2,bodyPostS,results,Tryz.results113];exact ⟨rfl,_,qf _ _,rfl⟩⟩
abbrev aM(s:aG):List (Nat×aq):=ed 1000000 (bF 1000000) s
def mS(s:aG):cC:=fun r os'=>r=.tuple []∧os'=aM s
def jY(s:aG)(os':List (Nat×aq)):Prop:=os'=aM s
theorem dD(k:Nat):gv 1000000 (bF 1000000) k:=gv.bF _ _
theorem dx{s:aG} : ∀ m,aw (aM s) m=true→1000000≤m:=aam (dD _) fun i _=>by simp[bF];omega
theorem iu{s:aG}(hk:cD s){n:Nat}{x:aq}(h:aj (aM s) n=some x):x.only (aw (aM s))=true∧x.eh=true:=lB (dD _) hk.cB h
theorem me{ts:List (Nat×I)}{os os':List (Nat×aq)}{post:cC}(ho:∀ n,aw os' n=true→aj os n=aj os' n)(hg:∀ n x,aj os' n=some x→x.only (aw os')=true∧x.eh=true)(hp:post (jX []) os'):ja [] post (au ts os) :=
 ⟨os',[],fun n x hx=>⟨by show aj os n=some x;rw[ho n (by simp[aw,hx])];exact hx,hg n x hx⟩,trivial,hp⟩
theorem mf(rs post)(A:ai):oh rs post .normal A=ja rs post A:=rfl
theorem il{Q:Exit→ai→Prop}{ts:List (Nat×I)}{os0:List (Nat×aq)}(hq:Q (.panic fx) (au ts os0)):nu Tryz.prog Q 114 [.bool false] (au ts os0) :=
 .mk false [] [] [enc false] fx _ Ge ⟨fun m x h=>by simp[aj] at h,fun m m' h=>by simp[aw,aj] at h⟩ ⟨.inl ⟨rfl,rfl,rfl⟩,trivial⟩
  (fun os' h=>by subst h;exact ⟨fun m x h=>by simp[aj] at h,fun m m' h=>by simp[aw,aj] at h,fun m h=>h,fun m h=>by simp[aw,aj] at h,rfl,fun h=>by cases h⟩) (fun os' h=>by subst h;exact hq)
theorem hh{s:aG}(hk:cD s){ts:List (Nat×I)}{z:aq} : xf fx (jY s) (.panic fx) (au ts ((3,z)::aM s)) :=
 ⟨rfl,me (fun n hn=>by have:=dx n hn;simp only[aj];rw[if_neg (by omega)]) (fun _ _ h=>iu hk h) ⟨rfl,rfl⟩⟩
theorem bz:(∀ (a b:Int) v,db [.int .i64 a,.mref 1000001,.mref 1000002,.int .i64 b,.mref 1000003,.mref 1000004] 0 0 v=some v)∧(∀ (a b:Int) v,db [.int .i64 a,.mref 1000001,.mref 1000002,.int .i64 b,.mref 1000003,.mref 1000004] 1 1 v=some v)∧(∀ (a b:Int) v,db [.int .i64 a,.mref 1000001,.mref 1000002,.int .i64 b,.mref 1000003,.mref 1000004] 2 2 v=some v)∧(∀ (a b:Int) v,db [.int .i64 a,.mref 1000001,.mref 1000002,.int .i64 b,.mref 1000003,.mref 1000004] 3 3 v=some v)∧(∀ (a b:Int) v,db [.int .i64 a,.mref 1000001,.mref 1000002,.int .i64 b,.mref 1000003,.mref 1000004] 4 4 v=some v)∧(∀ (a b:Int) v,db [.int .i64 a,.mref 1000001,.mref 1000002,.int .i64 b,.mref 1000003,.mref 1000004] 5 5 v=some v)∧(∀ a b c d e:I,(I.agg [a,.mref 1000001,b,c,d,e]).bx=false) :=
 ⟨fun _ _ _=>rfl,fun _ _ _=>rfl,fun _ _ _=>rfl,fun _ _ _=>rfl,fun _ _ _=>rfl,fun _ _ _=>rfl,fun a b c d e=>by simp[I.bx,I.ca]⟩
theorem Gg(s:aG)(hk:cD s)(x:aU)(hy:x.aH∉s.here∧s.fb x.aH=false):cP Tryz.prog 125 [.ptr 1000000 [],enc x] (aM s) (mS { s with here:=gy s.here x.aH }):=by
 refine cP.b5 Tryz.func125 Ai AB K1 (u8 rfl) (u8 rfl) dx (fun hwf W0 bG E1 =>?_);simp only[uV,DT,bI,zz1];clear hwf;have n3:aj (aM s) 3=none:=eF (.inl (by omega)) fun i _=>by simp[bF];omega
 have aY:aj (aM s) 1000000=some (.box (.agg [.int .i64 s.az,.mref 1000001,.mref 1000002,.int .i64 s.all.length,.mref 1000003,.mref 1000004])):=fu;have J:aj (aM s) 1000001=some (.bt (s.here.map enc) (List.replicate s.here.length (.bool true))):=fU;have U:aj (aM s) 1000002=some (.bt (s.bB.map enc) (dR (bF 1000000) s.aR)):=gh;have ah:aj (aM s) 1000003=some (.bt (s.dS.map enc) (s.bo.map enc)):=gi;have hfin:∀ ts,cX (au ts ((3,.box (enc x))::aM s)) 9 (.agg [.int .i64 s.az,.mref 1000001,.mref 1000002,.int .i64 s.all.length,.mref 1000003,.mref 1000004])=some (fT s):=fun ts =>
  gR (gT (dD _) hk.cB fun n hn=>by have:=dx n hn;simp only[aj];rw[if_neg (by omega)]) 4
 have hlk:=gu eQ x.aH s.here;rw[eG] at hlk;have q1:decide (x.aH∈s.here)=false:=decide_eq_false hy.1;have hF:=p8 s x.aH;rw[hy.2] at hF;have hup:=wR eQ x.aH s.here;rw[eG] at hup;have R:=y6 @n3 (y6 @aY (y6 @J (y6 @hfin (y6 @hlk (y6 @q1 (y6 @hup (y6 @bz (y6 @bu aC))))))))
 repeat' ((first |(with_reducible refine .guard (fun hb =>?_) (fun hb =>?_) <;>try simp only[hb])|refine ae.aE (by decide +kernel) rfl fun K hK =>?_|refine .flat _ (hF) rfl ?_|refine .flat _ (kE) rfl ?_|(refine .av [0,1,3] hK ?_;clear hK K)|(with_reducible refine .done (hK _ ?_);clear hK K)|refine ae.of rfl ?_|(with_reducible refine ay.aD (fun h =>?_) (fun h =>?_) <;>try simp only[h])) <;>try simp only[aF,R,simprocAttr])
 all_goals clear R
 rw[mf];refine me (fun n hn =>?_) (fun _ _ h=>iu (s := { s with here:=gy s.here x.aH }) ⟨hk.cB,hk.iJ,nv hk.af⟩ h) ⟨rfl,rfl⟩;have:=dx n hn;simp only[aM,ed,aj];rw[if_neg (show ¬ n=3 by omega)]
 (repeat' split) <;>first | rfl | omega
theorem Gh(s:aG)(hk:cD s)(x:aU)(hy:x.aH∈s.here∨s.fb x.aH=true):fe Tryz.prog 125 fx [.ptr 1000000 [],enc x] (aM s) (jY s):=by
 refine fe.mk Tryz.func125 Ai AB (u8 rfl) (u8 rfl) dx (fun hwf W0 bG E1 =>?_);simp only[uV,bI,zz1];clear hwf;have n3:aj (aM s) 3=none:=eF (.inl (by omega)) fun i _=>by simp[bF];omega
 have aY:aj (aM s) 1000000=some (.box (.agg [.int .i64 s.az,.mref 1000001,.mref 1000002,.int .i64 s.all.length,.mref 1000003,.mref 1000004])):=fu;have J:aj (aM s) 1000001=some (.bt (s.here.map enc) (List.replicate s.here.length (.bool true))):=fU;have U:aj (aM s) 1000002=some (.bt (s.bB.map enc) (dR (bF 1000000) s.aR)):=gh;have ah:aj (aM s) 1000003=some (.bt (s.dS.map enc) (s.bo.map enc)):=gi;have hfin:∀ ts,cX (au ts ((3,.box (enc x))::aM s)) 9 (.agg [.int .i64 s.az,.mref 1000001,.mref 1000002,.int .i64 s.all.length,.mref 1000003,.mref 1000004])=some (fT s):=fun ts =>
  gR (gT (dD _) hk.cB fun n hn=>by have:=dx n hn;simp only[aj];rw[if_neg (by omega)]) 4
 have hlk:=gu eQ x.aH s.here;rw[eG] at hlk;have hF:=p8 s x.aH;rcases q1:decide (x.aH∈s.here)
 ·have q2:s.fb x.aH=true:=hy.resolve_left (by simpa using q1);rw[q2] at hF;have R:=y6 @n3 (y6 @aY (y6 @J (y6 @hfin (y6 @hlk (y6 @q1 (y6 @bz (y6 @bu aC)))))))
  repeat' ((first |(with_reducible refine .guard (fun hb =>?_) (fun hb =>?_) <;>try simp only[hb])|(refine ae.jE (gs:=qz) 15 [] [] [0,1,2,3,4,5,6,7,8,9,10,11,12,13,14] (by decide +kernel) rfl (cW.of (by simp[fo])) fun K hK =>?_;simp only[e8,qz,gz,zz5,zx6,List.take_zero,zy6,zy7,R,simprocAttr])|refine ae.aE (by decide +kernel) rfl fun K hK =>?_|refine .flat _ (hF) rfl ?_|(refine .av [0,1,3] hK ?_;clear hK K)|(with_reducible refine .done (hK _ ?_);clear hK K)|refine ae.of rfl ?_|(with_reducible refine ay.aD (fun h =>?_) (fun h =>?_) <;>try simp only[h])) <;>try simp only[aF,R,simprocAttr])
  all_goals clear R
  exact .call (il (hh hk))
 ·have R:=y6 @n3 (y6 @aY (y6 @J (y6 @hfin (y6 @hlk (y6 @q1 (y6 @bz (y6 @bu aC)))))))
  repeat' ((first |(with_reducible refine .guard (fun hb =>?_) (fun hb =>?_) <;>try simp only[hb])|(refine ae.jE (gs:=qz) 15 [] [] [0,1,2,3,4,5,6,7,8,9,10,11,12,13,14] (by decide +kernel) rfl (cW.of (by simp[fo])) fun K hK =>?_;simp only[e8,qz,gz,zz5,zx6,List.take_zero,zy6,zy7,R,simprocAttr])|refine ae.aE (by decide +kernel) rfl fun K hK =>?_|refine .flat _ (hF) rfl ?_|(refine .av [0,1,3] hK ?_;clear hK K)|(with_reducible refine .done (hK _ ?_);clear hK K)|refine ae.of rfl ?_|(with_reducible refine ay.aD (fun h =>?_) (fun h =>?_) <;>try simp only[h])) <;>try simp only[aF,R,simprocAttr])
  all_goals clear R
  exact .call (il (hh hk))
theorem Gi(s:aG)(hk:cD s)(x:aU)(hy:x.aH∈s.here):cP Tryz.prog 126 [.ptr 1000000 [],enc x] (aM s) (mS { s with here:=s.here.erase x.aH }):=by
 refine cP.b5 Tryz.func126 Aj AD K2 (u8 rfl) (u8 rfl) dx (fun hwf W0 bG E1 =>?_);simp only[uW,DU,bI,zz1];clear hwf;have n3:aj (aM s) 3=none:=eF (.inl (by omega)) fun i _=>by simp[bF];omega
 have aY:aj (aM s) 1000000=some (.box (.agg [.int .i64 s.az,.mref 1000001,.mref 1000002,.int .i64 s.all.length,.mref 1000003,.mref 1000004])):=fu;have J:aj (aM s) 1000001=some (.bt (s.here.map enc) (List.replicate s.here.length (.bool true))):=fU;have U:aj (aM s) 1000002=some (.bt (s.bB.map enc) (dR (bF 1000000) s.aR)):=gh;have ah:aj (aM s) 1000003=some (.bt (s.dS.map enc) (s.bo.map enc)):=gi;have hfin:∀ ts,cX (au ts ((3,.box (enc x))::aM s)) 9 (.agg [.int .i64 s.az,.mref 1000001,.mref 1000002,.int .i64 s.all.length,.mref 1000003,.mref 1000004])=some (fT s):=fun ts =>
  gR (gT (dD _) hk.cB fun n hn=>by have:=dx n hn;simp only[aj];rw[if_neg (by omega)]) 4
 have hlk:=gu eQ x.aH s.here;rw[eG] at hlk;have q1:decide (x.aH∈s.here)=true:=decide_eq_true hy;have hdl:=CS hy;have R:=y6 @n3 (y6 @aY (y6 @J (y6 @hfin (y6 @hlk (y6 @q1 (y6 @hdl (y6 @bz (y6 @bu aC))))))))
 repeat' ((first |refine ae.aE (by decide +kernel) rfl fun K hK =>?_|refine .flat _ (kE) rfl ?_|(refine .av [0,1,3] hK ?_;clear hK K)|(with_reducible refine .done (hK _ ?_);clear hK K)|refine ae.of rfl ?_|(with_reducible refine ay.aD (fun h =>?_) (fun h =>?_) <;>try simp only[h])) <;>try simp only[aF,R,simprocAttr])
 all_goals clear R
 rw[mf];refine me (fun n hn =>?_) (fun _ _ h=>iu (s := { s with here:=s.here.erase x.aH }) ⟨hk.cB,hk.iJ,hk.af.erase _⟩ h) ⟨rfl,rfl⟩;have:=dx n hn;simp only[aM,ed,aj];rw[if_neg (show ¬ n=3 by omega)]
 (repeat' split) <;>first | rfl | omega
theorem Gj(s:aG)(hk:cD s)(x:aU)(hy:x.aH∉s.here):fe Tryz.prog 126 fx [.ptr 1000000 [],enc x] (aM s) (jY s):=by
 refine fe.mk Tryz.func126 Aj AD (u8 rfl) (u8 rfl) dx (fun hwf W0 bG E1 =>?_);simp only[uW,bI,zz1];clear hwf;have n3:aj (aM s) 3=none:=eF (.inl (by omega)) fun i _=>by simp[bF];omega
 have aY:aj (aM s) 1000000=some (.box (.agg [.int .i64 s.az,.mref 1000001,.mref 1000002,.int .i64 s.all.length,.mref 1000003,.mref 1000004])):=fu;have J:aj (aM s) 1000001=some (.bt (s.here.map enc) (List.replicate s.here.length (.bool true))):=fU;have U:aj (aM s) 1000002=some (.bt (s.bB.map enc) (dR (bF 1000000) s.aR)):=gh;have ah:aj (aM s) 1000003=some (.bt (s.dS.map enc) (s.bo.map enc)):=gi;have hfin:∀ ts,cX (au ts ((3,.box (enc x))::aM s)) 9 (.agg [.int .i64 s.az,.mref 1000001,.mref 1000002,.int .i64 s.all.length,.mref 1000003,.mref 1000004])=some (fT s):=fun ts =>
  gR (gT (dD _) hk.cB fun n hn=>by have:=dx n hn;simp only[aj];rw[if_neg (by omega)]) 4
 have hlk:=gu eQ x.aH s.here;rw[eG] at hlk;have q1:decide (x.aH∈s.here)=false:=decide_eq_false hy;have R:=y6 @n3 (y6 @aY (y6 @J (y6 @hfin (y6 @hlk (y6 @q1 (y6 @bz (y6 @bu aC)))))))
 repeat' ((first |(refine ae.jE (gs:=vU) 7 [] [] [0,1,2,3,4,5,6] (by decide +kernel) rfl (cW.of (by simp[fo])) fun K hK =>?_;simp only[e8,vU,gz,zz5,zx6,List.take_zero,zy6,zy7,R,simprocAttr])|refine ae.aE (by decide +kernel) rfl fun K hK =>?_|(refine .av [0,1,3] hK ?_;clear hK K)|(with_reducible refine .done (hK _ ?_);clear hK K)|refine ae.of rfl ?_|(with_reducible refine ay.aD (fun h =>?_) (fun h =>?_) <;>try simp only[h])) <;>try simp only[aF,R,simprocAttr])
 all_goals clear R
 exact .call (il (hh hk))
def Dy(s:aG)(i:Nat):cC:=fun r os'=>r=.ptr (bF 1000000 i) []∧os'=aM s
theorem jV:(∀ i,(3=bF 1000000 i)=False)∧(∀ i,(bF 1000000 i=3)=False):=⟨fun i=>by simp[bF];omega,fun i=>by simp[bF];omega⟩
theorem p6(s:aG)(hk:cD s)(x:aU)(i:Nat)(hy:s.on x=some i):cP Tryz.prog 151 [.ptr 1000000 [],enc x] (aM s) (Dy s i):=by
 refine cP.b5 Tryz.func151 Aq AK La (u8 rfl) (u8 rfl) dx (fun hwf W0 bG E1 =>?_);simp only[u6,D6,bI,zz1];clear hwf;have n3:aj (aM s) 3=none:=eF (.inl (by omega)) fun i _=>by simp[bF];omega
 have aY:aj (aM s) 1000000=some (.box (.agg [.int .i64 s.az,.mref 1000001,.mref 1000002,.int .i64 s.all.length,.mref 1000003,.mref 1000004])):=fu;have J:aj (aM s) 1000001=some (.bt (s.here.map enc) (List.replicate s.here.length (.bool true))):=fU;have U:aj (aM s) 1000002=some (.bt (s.bB.map enc) (dR (bF 1000000) s.aR)):=gh;have ah:aj (aM s) 1000003=some (.bt (s.dS.map enc) (s.bo.map enc)):=gi;have hfin:∀ ts,cX (au ts ((3,.box (enc x))::aM s)) 9 (.agg [.int .i64 s.az,.mref 1000001,.mref 1000002,.int .i64 s.all.length,.mref 1000003,.mref 1000004])=some (fT s):=fun ts =>
  gR (gT (dD _) hk.cB fun n hn=>by have:=dx n hn;simp only[aj];rw[if_neg (by omega)]) 4
 have hlk:=gu eQ x.aH s.here;rw[eG] at hlk;obtain ⟨ha,hb1,hb2⟩:=pI hy;have hil:=(js ha).1;have hlt:=hk.cB i hil;have hlr:=wE (s:=s) (fun i=>.ptr (bF 1000000 i) []) x.no;have hpt:(s.aR.map fun i=>I.ptr (bF 1000000 i) [])=dR (bF 1000000) s.aR:=rfl;rw[hpt] at hlr;rw[ha] at hlr;simp only at hlr;have hb:aj (aM s) (bF 1000000 i)=some (.box (enc (s.b9 i))):=by
  have:=jn (dD s.all.length) (B:=1000000) hlt;rw[this];simp[aG.b9,zz0,hlt]
 have q1:((s.b9 i).to==x.other)=true:=by simpa using hb1
 have q2:((s.b9 i).aH==x.aH)=true:=by simpa using hb2
 have R:=y6 @n3 (y6 @aY (y6 @U (y6 @hb (y6 @hlr (y6 @q1 (y6 @q2 (y6 @jV (y6 @bz (y6 @bu aC)))))))))
 repeat' ((first |(with_reducible refine .guard (fun hb =>?_) (fun hb =>?_) <;>try simp only[hb])|refine ae.aE (by decide +kernel) rfl fun K hK =>?_|refine .flat _ (kE) rfl ?_|(refine .av [0,1,3,4,5,6] hK ?_;clear hK K)|(with_reducible refine .done (hK _ ?_);clear hK K)|refine ae.of rfl ?_|(with_reducible refine ay.aD (fun h =>?_) (fun h =>?_) <;>try simp only[h])) <;>try simp only[aF,R,simprocAttr])
 all_goals clear R
 refine ⟨aM s,[.ptr (bF 1000000 i) []],fun n y hy=>⟨?_,iu hk hy⟩,⟨⟨_,rfl,.inl ⟨rfl,rfl,?_⟩⟩,trivial⟩,rfl,rfl⟩
 ·have:=dx (s:=s) n (by simp[aw,hy])
  show aj ((3,_)::aM s) n=_
  simp only[aj];rw[if_neg (by omega)];exact hy
 ·exact (dL (dD _)).2 (.inr ⟨i,hlt,rfl⟩)
theorem Gv(s:aG)(hk:cD s)(x:aU)(hy:s.on x=none):fe Tryz.prog 151 fx [.ptr 1000000 [],enc x] (aM s) (jY s):=by
 refine fe.mk Tryz.func151 Aq AK (u8 rfl) (u8 rfl) dx (fun hwf W0 bG E1 =>?_);simp only[u6,bI,zz1];clear hwf;have n3:aj (aM s) 3=none:=eF (.inl (by omega)) fun i _=>by simp[bF];omega
 have aY:aj (aM s) 1000000=some (.box (.agg [.int .i64 s.az,.mref 1000001,.mref 1000002,.int .i64 s.all.length,.mref 1000003,.mref 1000004])):=fu;have J:aj (aM s) 1000001=some (.bt (s.here.map enc) (List.replicate s.here.length (.bool true))):=fU;have U:aj (aM s) 1000002=some (.bt (s.bB.map enc) (dR (bF 1000000) s.aR)):=gh;have ah:aj (aM s) 1000003=some (.bt (s.dS.map enc) (s.bo.map enc)):=gi;have hfin:∀ ts,cX (au ts ((3,.box (enc x))::aM s)) 9 (.agg [.int .i64 s.az,.mref 1000001,.mref 1000002,.int .i64 s.all.length,.mref 1000003,.mref 1000004])=some (fT s):=fun ts =>
  gR (gT (dD _) hk.cB fun n hn=>by have:=dx n hn;simp only[aj];rw[if_neg (by omega)]) 4
 have hlk:=gu eQ x.aH s.here;rw[eG] at hlk;have hlr:=wE (s:=s) (fun i=>.ptr (bF 1000000 i) []) x.no;have hpt:(s.aR.map fun i=>I.ptr (bF 1000000 i) [])=dR (bF 1000000) s.aR:=rfl;rw[hpt] at hlr;cases ha:s.at x.no with
 |none =>
  rw[ha] at hlr;simp only at hlr;have R:=y6 @n3 (y6 @aY (y6 @U (y6 @hlr (y6 @jV (y6 @bz (y6 @bu aC))))))
  repeat' ((first |(with_reducible refine .guard (fun hb =>?_) (fun hb =>?_) <;>try simp only[hb])|(refine ae.jE (gs:=nM) 19 [] [] [0,1,2,3,4,5,6,7,8,9,10,11,12,13,14,15,16,17,18] (by decide +kernel) rfl (cW.of (by simp[fo])) fun K hK =>?_;simp only[e8,nM,gz,zz5,zx6,List.take_zero,zy6,zy7,R,simprocAttr])|refine ae.aE (by decide +kernel) rfl fun K hK =>?_|(refine .av [0,1,3,4,5,6] hK ?_;clear hK K)|(with_reducible refine .done (hK _ ?_);clear hK K)|refine ae.of rfl ?_|(with_reducible refine ay.aD (fun h =>?_) (fun h =>?_) <;>try simp only[h])) <;>try simp only[aF,R,simprocAttr])
  all_goals clear R
  exact .call (il (hh hk))
 |some i =>
  have hil:=(js ha).1;have hlt:=hk.cB i hil;rw[ha] at hlr;simp only at hlr;have hb:aj (aM s) (bF 1000000 i)=some (.box (enc (s.b9 i))):=by
   have:=jn (dD s.all.length) (B:=1000000) hlt;rw[this];simp[aG.b9,zz0,hlt]
  rcases q1:((s.b9 i).to==x.other)
  ·have R:=y6 @n3 (y6 @aY (y6 @U (y6 @hb (y6 @hlr (y6 @q1 (y6 @jV (y6 @bz (y6 @bu aC))))))))
   repeat' ((first |(with_reducible refine .guard (fun hb =>?_) (fun hb =>?_) <;>try simp only[hb])|(refine ae.jE (gs:=nM) 19 [] [] [0,1,2,3,4,5,6,7,8,9,10,11,12,13,14,15,16,17,18] (by decide +kernel) rfl (cW.of (by simp[fo])) fun K hK =>?_;simp only[e8,nM,gz,zz5,zx6,List.take_zero,zy6,zy7,R,simprocAttr])|refine ae.aE (by decide +kernel) rfl fun K hK =>?_|(refine .av [0,1,3,4,5,6] hK ?_;clear hK K)|(with_reducible refine .done (hK _ ?_);clear hK K)|refine ae.of rfl ?_|(with_reducible refine ay.aD (fun h =>?_) (fun h =>?_) <;>try simp only[h])) <;>try simp only[aF,R,simprocAttr])
   all_goals clear R
   exact .call (il (hh hk))
  ·have q2:((s.b9 i).aH==x.aH)=false:=by
    simp only[aG.on,ha] at hy;split at hy
    ·cases hy
    ·rename_i h;simp only[beq_iff_eq] at q1;simp only[beq_eq_false_iff_ne,ne_eq];exact fun e=>h ⟨q1,e⟩
   have R:=y6 @n3 (y6 @aY (y6 @U (y6 @hb (y6 @hlr (y6 @q1 (y6 @q2 (y6 @jV (y6 @bz (y6 @bu aC)))))))))
   repeat' ((first |(with_reducible refine .guard (fun hb =>?_) (fun hb =>?_) <;>try simp only[hb])|(refine ae.jE (gs:=nM) 19 [] [] [0,1,2,3,4,5,6,7,8,9,10,11,12,13,14,15,16,17,18] (by decide +kernel) rfl (cW.of (by simp[fo])) fun K hK =>?_;simp only[e8,nM,gz,zz5,zx6,List.take_zero,zy6,zy7,R,simprocAttr])|refine ae.aE (by decide +kernel) rfl fun K hK =>?_|(refine .av [0,1,3,4,5,6] hK ?_;clear hK K)|(with_reducible refine .done (hK _ ?_);clear hK K)|refine ae.of rfl ?_|(with_reducible refine ay.aD (fun h =>?_) (fun h =>?_) <;>try simp only[h])) <;>try simp only[aF,R,simprocAttr])
   all_goals clear R
   exact .call (il (hh hk))
theorem yN{ts:List (Nat×I)}{s:aG}{z:aq} : au ts (aM s++((3,z)::aM s))=au ts ((3,z)::aM s):=by
 simp only[au,ai.mk.injEq,true_and]
 funext n
 rw[fE];cases h:aj (aM s) n with
 |none=>rfl
 |some y =>
  have:=dx (s:=s) n (by simp[aw,h]);simp only[aj];rw[if_neg (by omega),h]
theorem Cf{s:aG}(hk:cD s){z:aq} : gn [] (aM s) ((3,z)::aM s):=by
 refine ⟨fun m y hy=>⟨?_,iu hk hy⟩,fun m m' _ _ h=>h⟩;have hm:=dx (s:=s) m (by simp[aw,hy]);rw[aq.kr (ρ:=bH []) (fun n=>rfl)]
 show aj ((3,z)::aM s) m=some y
 simp only[aj];rw[if_neg (by omega)];exact hy
theorem uS{s:aG}(hk:cD s){os0:List (Nat×aq)}{r:I}(hr:r.only (aw (aM s))=true):fW false [] (aM s) os0 r (aM s) :=
 ⟨fun _ _ hy=>⟨(iu hk hy).1,(iu hk hy).2,fun h=>by cases h⟩,fun m m' _ _ h=>h,fun m hm=>hm,(fun m a b=>by rw[a] at b;cases b),hr,(fun h=>by cases h)⟩
theorem sy{s:aG}{x:aU}{A:ai} : gO false A [] (aM s) [.ptr 1000000 [],enc x] [.ptr 1000000 [],enc x] :=
 ⟨.inl ⟨rfl,(dL (dD _)).2 (.inl (by omega)),rfl⟩,.inl ⟨(kS _ _).symm,cA _ _,eg _⟩,trivial⟩
theorem aQ.rK{K:ai→Prop}{s:aG}{x:aU}{i:Nat}{avs:List I}{a1 a2:Option (List I)}{dst:Option Nat}{rest:List aI}{ts:List (Nat×I)}{z:aq}(hk:cD s)(hil:i<s.all.length)(hc:cP Tryz.prog 151 [.ptr 1000000 [],enc x] (aM s) (Dy s i))(hav:avs=[.ptr 1000000 [],enc x])
  (h:aQ Tryz.prog dv false K (aB rest ((au ts ((3,z)::aM s)).aS dst (.ptr (bF 1000000 i) [])))):aQ Tryz.prog dv false K (.call 151 avs a1 a2 dst rest (au ts ((3,z)::aM s))):=by
 subst hav;refine .bP false [] (aM s) [.ptr 1000000 [],enc x] _ rfl hc (Cf hk) sy ?_ ?_
 ·rintro r os' ⟨rfl,rfl⟩;exact uS hk ((dL (dD _)).2 (.inr ⟨i,hil,rfl⟩))
 ·rintro r os' ⟨rfl,rfl⟩;rw[ma,yN];exact h
theorem xg{Q:Exit→ai→Prop}{s:aG}(hk:cD s){x:aU}(hy:s.on x=none){ts:List (Nat×I)}{z:aq}(hq:Q (.panic fx) (au ts ((3,z)::aM s))):nu Tryz.prog Q 151 [.ptr 1000000 [],enc x] (au ts ((3,z)::aM s)) :=
 .mk false [] (aM s) [.ptr 1000000 [],enc x] fx _ (Gv s hk x hy) (Cf hk) sy (fun os' h=>by cases h;exact uS hk rfl) (fun os' h=>by cases h;rw[ma,yN];exact hq)
theorem Gn(s:aG)(hk:cD s)(x:aU)(i:Nat)(hy:s.on x=some i):cP Tryz.prog 129 [.ptr 1000000 [],enc x] (aM s) (mS { s with aR:=s.aR.erase i }):=by
 refine cP.b5 Tryz.func129 Am AG K5 (u8 rfl) (u8 rfl) dx (fun hwf W0 bG E1 =>?_);simp only[uZ,DX,bI,zz1];clear hwf;have n3:aj (aM s) 3=none:=eF (.inl (by omega)) fun i _=>by simp[bF];omega
 have aY:aj (aM s) 1000000=some (.box (.agg [.int .i64 s.az,.mref 1000001,.mref 1000002,.int .i64 s.all.length,.mref 1000003,.mref 1000004])):=fu;have J:aj (aM s) 1000001=some (.bt (s.here.map enc) (List.replicate s.here.length (.bool true))):=fU;have U:aj (aM s) 1000002=some (.bt (s.bB.map enc) (dR (bF 1000000) s.aR)):=gh;have ah:aj (aM s) 1000003=some (.bt (s.dS.map enc) (s.bo.map enc)):=gi;have hfin:∀ ts,cX (au ts ((3,.box (enc x))::aM s)) 9 (.agg [.int .i64 s.az,.mref 1000001,.mref 1000002,.int .i64 s.all.length,.mref 1000003,.mref 1000004])=some (fT s):=fun ts =>
  gR (gT (dD _) hk.cB fun n hn=>by have:=dx n hn;simp only[aj];rw[if_neg (by omega)]) 4
 have hlk:=gu eQ x.aH s.here;rw[eG] at hlk;obtain ⟨ha,hb1,hb2⟩:=pI hy;have hil:=(js ha).1;have hno:=(js ha).2;have hlt:=hk.cB i hil;have hb:aj (aM s) (bF 1000000 i)=some (.box (enc (s.b9 i))):=by
  have:=jn (dD s.all.length) (B:=1000000) hlt;rw[this];simp[aG.b9,zz0,hlt]
 have hdl:=CT (s:=s) (fun i=>.ptr (bF 1000000 i) []) hil;rw[←hno] at hdl;have hpt:(s.aR.map fun i=>I.ptr (bF 1000000 i) [])=dR (bF 1000000) s.aR:=rfl;rw[hpt] at hdl;have R:=y6 @n3 (y6 @aY (y6 @U (y6 @hb (y6 @hdl (y6 @jV (y6 @bz (y6 @bu aC)))))))
 repeat' ((first |refine ae.aE (by decide +kernel) rfl fun K hK =>?_|refine aQ.rK hk hlt (p6 s hk x i hy) rfl ?_|(refine .av [0,1,3] hK ?_;clear hK K)|(with_reducible refine .done (hK _ ?_);clear hK K)|refine ae.of rfl ?_|(with_reducible refine ay.aD (fun h =>?_) (fun h =>?_) <;>try simp only[h])) <;>try simp only[aF,R,simprocAttr])
 all_goals clear R
 rw[mf];refine me (fun n hn =>?_) (fun _ _ h=>iu (s := { s with aR:=s.aR.erase i }) ⟨fun j hj=>hk.cB j (List.mem_of_mem_erase hj),hk.iJ.erase _,hk.af⟩ h) ⟨rfl,rfl⟩;have:=dx n hn;simp only[aM,ed,aj];rw[if_neg (show ¬ n=3 by omega)]
 (repeat' split) <;>first | rfl | omega
theorem Gp(s:aG)(hk:cD s)(x:aU)(hy:s.on x=none):fe Tryz.prog 129 fx [.ptr 1000000 [],enc x] (aM s) (jY s):=by
 refine fe.mk Tryz.func129 Am AG (u8 rfl) (u8 rfl) dx (fun hwf W0 bG E1 =>?_);simp only[uZ,bI,zz1];clear hwf;have n3:aj (aM s) 3=none:=eF (.inl (by omega)) fun i _=>by simp[bF];omega
 have aY:aj (aM s) 1000000=some (.box (.agg [.int .i64 s.az,.mref 1000001,.mref 1000002,.int .i64 s.all.length,.mref 1000003,.mref 1000004])):=fu;have J:aj (aM s) 1000001=some (.bt (s.here.map enc) (List.replicate s.here.length (.bool true))):=fU;have U:aj (aM s) 1000002=some (.bt (s.bB.map enc) (dR (bF 1000000) s.aR)):=gh;have ah:aj (aM s) 1000003=some (.bt (s.dS.map enc) (s.bo.map enc)):=gi;have hfin:∀ ts,cX (au ts ((3,.box (enc x))::aM s)) 9 (.agg [.int .i64 s.az,.mref 1000001,.mref 1000002,.int .i64 s.all.length,.mref 1000003,.mref 1000004])=some (fT s):=fun ts =>
  gR (gT (dD _) hk.cB fun n hn=>by have:=dx n hn;simp only[aj];rw[if_neg (by omega)]) 4
 have hlk:=gu eQ x.aH s.here;rw[eG] at hlk;have R:=y6 @n3 (y6 @aY (y6 @U (y6 @jV (y6 @bz (y6 @bu aC)))))
 repeat' ((first |(refine ae.oe (gs:=BF) (gs1:=[_,_]) rfl fun K hK =>?_)|refine ae.aE (by decide +kernel) rfl fun K hK =>?_|(refine .av [0,1,3] hK ?_;clear hK K)|(with_reducible refine .done (hK _ ?_);clear hK K)|refine ae.of rfl ?_|(with_reducible refine ay.aD (fun h =>?_) (fun h =>?_) <;>try simp only[h])) <;>try simp only[aF,R,simprocAttr])
 all_goals clear R
 exact .call (xg hk hy (hh hk))
theorem Jz{s:aG}{i:Nat}(hlt:i<s.all.length)(r:cZ){z:aq} : ∀ n,1000000≤n→aj ((bF 1000000 i,.box (enc r))::(3,z)::aM s) n=aj (aM { s with all:=s.all.set i r }) n:=by
 intro n hn;have hlen:(s.all.set i r).length=s.all.length:=List.length_set;simp only[aj];rw[if_neg (show ¬ n=3 by omega)];rcases xY 1000000 (bF 1000000) s.all.length n with h | h | h | h | h | ⟨h,j,hj,e⟩ | ⟨h,hno⟩
 ·subst h;rw[if_neg (by simp[bF];omega)];simp only[aM,fu,hlen]
 ·subst h;rw[if_neg (by simp[bF];omega)];simp only[aM,fU]
 ·subst h;rw[if_neg (by simp[bF];omega)];simp only[aM,gh];rfl
 ·subst h;rw[if_neg (by simp[bF];omega)];simp only[aM,gi];rfl
 ·subst h;rw[if_neg (by simp[bF];omega)];simp only[aM,oC]
 ·subst e;have J:=jn (B:=1000000) (ν:=bF 1000000) (s:=s) (dD _) hj;have U:=jn (B:=1000000) (ν:=bF 1000000) (s := { s with all:=s.all.set i r }) (dD _) (i:=j) (by simpa using hj);simp only[aM,J,U];by_cases e:j=i
  ·subst e;simp
  ·have:¬ bF 1000000 j=bF 1000000 i:=by simp[bF];omega
   rw[if_neg this];simp[Ne.symm e]
 ·have J:=eF (B:=1000000) (ν:=bF 1000000) (s:=s) h hno;have U:=eF (B:=1000000) (ν:=bF 1000000) (s := { s with all:=s.all.set i r }) h (by simpa using hno);simp only[aM,J,U];rw[if_neg (hno i hlt)]
theorem Gm(s:aG)(hk:cD s)(x:aU)(i:Nat)(hy:s.on x=some i)(hc:(s.b9 i).dz=false):cP Tryz.prog 128 [.ptr 1000000 [],enc x] (aM s) (mS { s with all:=s.all.set i { s.b9 i with dz:=true } }):=by
 refine cP.b5 Tryz.func128 Al AF K4 (u8 rfl) (u8 rfl) dx (fun hwf W0 bG E1 =>?_);simp only[uY,DW,bI,zz1];clear hwf;have n3:aj (aM s) 3=none:=eF (.inl (by omega)) fun i _=>by simp[bF];omega
 have aY:aj (aM s) 1000000=some (.box (.agg [.int .i64 s.az,.mref 1000001,.mref 1000002,.int .i64 s.all.length,.mref 1000003,.mref 1000004])):=fu;have J:aj (aM s) 1000001=some (.bt (s.here.map enc) (List.replicate s.here.length (.bool true))):=fU;have U:aj (aM s) 1000002=some (.bt (s.bB.map enc) (dR (bF 1000000) s.aR)):=gh;have ah:aj (aM s) 1000003=some (.bt (s.dS.map enc) (s.bo.map enc)):=gi;have hfin:∀ ts,cX (au ts ((3,.box (enc x))::aM s)) 9 (.agg [.int .i64 s.az,.mref 1000001,.mref 1000002,.int .i64 s.all.length,.mref 1000003,.mref 1000004])=some (fT s):=fun ts =>
  gR (gT (dD _) hk.cB fun n hn=>by have:=dx n hn;simp only[aj];rw[if_neg (by omega)]) 4
 have hlk:=gu eQ x.aH s.here;rw[eG] at hlk;obtain ⟨ha,hb1,hb2⟩:=pI hy;have hil:=(js ha).1;have hno:=(js ha).2;have hlt:=hk.cB i hil;have hb:aj (aM s) (bF 1000000 i)=some (.box (enc (s.b9 i))):=by
  have:=jn (dD s.all.length) (B:=1000000) hlt;rw[this];simp[aG.b9,zz0,hlt]
 have hst:∀ A rest,dk A none (bF 1000000 i) [3] (enc (s.b9 i)) (.bool true) rest (some (.bool false))=aB rest (A.aT (bF 1000000 i) (.box (enc { s.b9 i with dz:=true }))):=fun A rest=>dK rfl rfl rfl;have R:=y6 @n3 (y6 @aY (y6 @U (y6 @hb (y6 @hc (y6 @hst (y6 @jV (y6 @bz (y6 @bu aC))))))))
 repeat' ((first |refine ae.aE (by decide +kernel) rfl fun K hK =>?_|refine aQ.rK hk hlt (p6 s hk x i hy) rfl ?_|refine .flat _ (kE) rfl ?_|(refine .av [0,1,3,4] hK ?_;clear hK K)|(with_reducible refine .done (hK _ ?_);clear hK K)|refine ae.of rfl ?_|(with_reducible refine ay.aD (fun h =>?_) (fun h =>?_) <;>try simp only[h])) <;>try simp only[aF,R,simprocAttr])
 all_goals clear R
 rw[mf];exact me (fun n hn=>Jz hlt _ n (dx n hn)) (fun _ _ h=>iu (s := { s with all:=s.all.set i { s.b9 i with dz:=true } }) ⟨fun j hj=>by simpa using hk.cB j hj,hk.iJ,hk.af⟩ h) ⟨rfl,rfl⟩
theorem ya(s:aG)(hk:cD s)(x:aU)(hy:∀ i,s.on x=some i→(s.b9 i).dz=true):fe Tryz.prog 128 fx [.ptr 1000000 [],enc x] (aM s) (jY s):=by
 refine fe.mk Tryz.func128 Al AF (u8 rfl) (u8 rfl) dx (fun hwf W0 bG E1 =>?_);simp only[uY,bI,zz1];clear hwf;have n3:aj (aM s) 3=none:=eF (.inl (by omega)) fun i _=>by simp[bF];omega
 have aY:aj (aM s) 1000000=some (.box (.agg [.int .i64 s.az,.mref 1000001,.mref 1000002,.int .i64 s.all.length,.mref 1000003,.mref 1000004])):=fu;have J:aj (aM s) 1000001=some (.bt (s.here.map enc) (List.replicate s.here.length (.bool true))):=fU;have U:aj (aM s) 1000002=some (.bt (s.bB.map enc) (dR (bF 1000000) s.aR)):=gh;have ah:aj (aM s) 1000003=some (.bt (s.dS.map enc) (s.bo.map enc)):=gi;have hfin:∀ ts,cX (au ts ((3,.box (enc x))::aM s)) 9 (.agg [.int .i64 s.az,.mref 1000001,.mref 1000002,.int .i64 s.all.length,.mref 1000003,.mref 1000004])=some (fT s):=fun ts =>
  gR (gT (dD _) hk.cB fun n hn=>by have:=dx n hn;simp only[aj];rw[if_neg (by omega)]) 4
 have hlk:=gu eQ x.aH s.here;rw[eG] at hlk;cases hy2:s.on x with
 |none =>
  have R:=y6 @n3 (y6 @aY (y6 @U (y6 @jV (y6 @bz (y6 @bu aC)))))
  repeat' ((first |(refine ae.oe (gs:=BD) (gs1:=[_,_]) rfl fun K hK =>?_)|refine ae.aE (by decide +kernel) rfl fun K hK =>?_|(refine .av [0,1,3,4] hK ?_;clear hK K)|(with_reducible refine .done (hK _ ?_);clear hK K)|refine ae.of rfl ?_|(with_reducible refine ay.aD (fun h =>?_) (fun h =>?_) <;>try simp only[h])) <;>try simp only[aF,R,simprocAttr])
  all_goals clear R
  exact .call (xg hk hy2 (hh hk))
 |some i =>
  have hc:=hy i hy2;have hy:=hy2;obtain ⟨ha,hb1,hb2⟩:=pI hy;have hil:=(js ha).1;have hno:=(js ha).2;have hlt:=hk.cB i hil;have hb:aj (aM s) (bF 1000000 i)=some (.box (enc (s.b9 i))):=by
   have:=jn (dD s.all.length) (B:=1000000) hlt;rw[this];simp[aG.b9,zz0,hlt]
  have R:=y6 @n3 (y6 @aY (y6 @U (y6 @hb (y6 @hc (y6 @jV (y6 @bz (y6 @bu aC)))))))
  repeat' ((first |(refine ae.oe (gs:=BE) (gs1:=[_,_,_,_,_]) rfl fun K hK =>?_)|refine ae.aE (by decide +kernel) rfl fun K hK =>?_|refine aQ.rK hk hlt (p6 s hk x i hy) rfl ?_|(refine .av [0,1,3,4] hK ?_;clear hK K)|(with_reducible refine .done (hK _ ?_);clear hK K)|refine ae.of rfl ?_|(with_reducible refine ay.aD (fun h =>?_) (fun h =>?_) <;>try simp only[h])) <;>try simp only[aF,R,simprocAttr])
  all_goals clear R
  exact .call (il (hh hk))
theorem Gq(s:aG)(hk:cD s)(x:aU)(i:Nat)(hy:s.on x=some i)(hc:(s.b9 i).dz=true):cP Tryz.prog 130 [.ptr 1000000 [],enc x] (aM s) (mS { s with aR:=s.aR.erase i,here:=gy s.here x.aH }):=by
 refine cP.b5 Tryz.func130 An AH K6 (u8 rfl) (u8 rfl) dx (fun hwf W0 bG E1 =>?_);simp only[u3,DY,bI,zz1];clear hwf;have n3:aj (aM s) 3=none:=eF (.inl (by omega)) fun i _=>by simp[bF];omega
 have aY:aj (aM s) 1000000=some (.box (.agg [.int .i64 s.az,.mref 1000001,.mref 1000002,.int .i64 s.all.length,.mref 1000003,.mref 1000004])):=fu;have J:aj (aM s) 1000001=some (.bt (s.here.map enc) (List.replicate s.here.length (.bool true))):=fU;have U:aj (aM s) 1000002=some (.bt (s.bB.map enc) (dR (bF 1000000) s.aR)):=gh;have ah:aj (aM s) 1000003=some (.bt (s.dS.map enc) (s.bo.map enc)):=gi;have hfin:∀ ts,cX (au ts ((3,.box (enc x))::aM s)) 9 (.agg [.int .i64 s.az,.mref 1000001,.mref 1000002,.int .i64 s.all.length,.mref 1000003,.mref 1000004])=some (fT s):=fun ts =>
  gR (gT (dD _) hk.cB fun n hn=>by have:=dx n hn;simp only[aj];rw[if_neg (by omega)]) 4
 have hlk:=gu eQ x.aH s.here;rw[eG] at hlk;obtain ⟨ha,hb1,hb2⟩:=pI hy;have hil:=(js ha).1;have hno:=(js ha).2;have hlt:=hk.cB i hil;have hb:aj (aM s) (bF 1000000 i)=some (.box (enc (s.b9 i))):=by
  have:=jn (dD s.all.length) (B:=1000000) hlt;rw[this];simp[aG.b9,zz0,hlt]
 have hdl:=CT (s:=s) (fun i=>.ptr (bF 1000000 i) []) hil;rw[←hno] at hdl;have hpt:(s.aR.map fun i=>I.ptr (bF 1000000 i) [])=dR (bF 1000000) s.aR:=rfl;rw[hpt] at hdl;have hup:=wR eQ x.aH s.here;rw[eG] at hup;have R:=y6 @n3 (y6 @aY (y6 @J (y6 @U (y6 @hb (y6 @hc (y6 @hdl (y6 @hup (y6 @jV (y6 @bz (y6 @bu aC))))))))))
 repeat' ((first |refine ae.aE (by decide +kernel) rfl fun K hK =>?_|refine aQ.rK hk hlt (p6 s hk x i hy) rfl ?_|refine .flat _ (kE) rfl ?_|(refine .av [0,1,3] hK ?_;clear hK K)|(with_reducible refine .done (hK _ ?_);clear hK K)|refine ae.of rfl ?_|(with_reducible refine ay.aD (fun h =>?_) (fun h =>?_) <;>try simp only[h])) <;>try simp only[aF,R,simprocAttr])
 all_goals clear R
 rw[mf];refine me (fun n hn =>?_) (fun _ _ h=>iu (s := { s with aR:=s.aR.erase i,here:=gy s.here x.aH }) ⟨fun j hj=>hk.cB j (List.mem_of_mem_erase hj),hk.iJ.erase _,nv hk.af⟩ h) ⟨rfl,rfl⟩;have:=dx n hn;simp only[aM,ed,aj];rw[if_neg (show ¬ n=3 by omega)]
 (repeat' split) <;>first | rfl | omega
theorem yc(s:aG)(hk:cD s)(x:aU)(hy:∀ i,s.on x=some i→(s.b9 i).dz=false):fe Tryz.prog 130 fx [.ptr 1000000 [],enc x] (aM s) (jY s):=by
 refine fe.mk Tryz.func130 An AH (u8 rfl) (u8 rfl) dx (fun hwf W0 bG E1 =>?_);simp only[u3,bI,zz1];clear hwf;have n3:aj (aM s) 3=none:=eF (.inl (by omega)) fun i _=>by simp[bF];omega
 have aY:aj (aM s) 1000000=some (.box (.agg [.int .i64 s.az,.mref 1000001,.mref 1000002,.int .i64 s.all.length,.mref 1000003,.mref 1000004])):=fu;have J:aj (aM s) 1000001=some (.bt (s.here.map enc) (List.replicate s.here.length (.bool true))):=fU;have U:aj (aM s) 1000002=some (.bt (s.bB.map enc) (dR (bF 1000000) s.aR)):=gh;have ah:aj (aM s) 1000003=some (.bt (s.dS.map enc) (s.bo.map enc)):=gi;have hfin:∀ ts,cX (au ts ((3,.box (enc x))::aM s)) 9 (.agg [.int .i64 s.az,.mref 1000001,.mref 1000002,.int .i64 s.all.length,.mref 1000003,.mref 1000004])=some (fT s):=fun ts =>
  gR (gT (dD _) hk.cB fun n hn=>by have:=dx n hn;simp only[aj];rw[if_neg (by omega)]) 4
 have hlk:=gu eQ x.aH s.here;rw[eG] at hlk;cases hy2:s.on x with
 |none =>
  have R:=y6 @n3 (y6 @aY (y6 @U (y6 @jV (y6 @bz (y6 @bu aC)))))
  repeat' ((first |(refine ae.oe (gs:=vV) (gs1:=[_,_]) rfl fun K hK =>?_)|refine ae.aE (by decide +kernel) rfl fun K hK =>?_|(refine .av [0,1,3] hK ?_;clear hK K)|(with_reducible refine .done (hK _ ?_);clear hK K)|refine ae.of rfl ?_|(with_reducible refine ay.aD (fun h =>?_) (fun h =>?_) <;>try simp only[h])) <;>try simp only[aF,R,simprocAttr])
  all_goals clear R
  exact .call (xg hk hy2 (hh hk))
 |some i =>
  have hc:=hy i hy2;have hy:=hy2;obtain ⟨ha,hb1,hb2⟩:=pI hy;have hil:=(js ha).1;have hno:=(js ha).2;have hlt:=hk.cB i hil;have hb:aj (aM s) (bF 1000000 i)=some (.box (enc (s.b9 i))):=by
   have:=jn (dD s.all.length) (B:=1000000) hlt;rw[this];simp[aG.b9,zz0,hlt]
  have R:=y6 @n3 (y6 @aY (y6 @U (y6 @hb (y6 @hc (y6 @jV (y6 @bz (y6 @bu aC)))))))
  repeat' ((first |(refine ae.oe (gs:=vV) (gs1:=[_,_,_,_,_,_]) rfl fun K hK =>?_)|refine ae.aE (by decide +kernel) rfl fun K hK =>?_|refine aQ.rK hk hlt (p6 s hk x i hy) rfl ?_|(refine .av [0,1,3] hK ?_;clear hK K)|(with_reducible refine .done (hK _ ?_);clear hK K)|refine ae.of rfl ?_|(with_reducible refine ay.aD (fun h =>?_) (fun h =>?_) <;>try simp only[h])) <;>try simp only[aF,R,simprocAttr])
  all_goals clear R
  exact .call (il (hh hk))
theorem C1{s:aG}{x:aU}(h:eL x∉s.dS):fq (.bg [.i .i64,.i .i64]) (.agg [.int .i64 x.other,.int .i64 x.no]) (enc x) (s.dS.map enc) (s.bo.map enc)=some ((({ s with bo:=s.bo++[x] } : aG).dS).map enc,(s.bo++[x]).map enc):=by
 have hm:=wQ sN (eL x) (enc x) (eg x) s.dS (s.bo.map enc);have hf:=qv (k:=eL x) (ks:=s.dS);rw[decide_eq_false h] at hf;have e:(enc (eL x):I)=.agg [.int .i64 x.other,.int .i64 x.no]:=rfl;rw[e] at hm;rw[hm];cases hq:s.dS.findIdx? fun y=>decide (eL x=y) with
 |none=>simp[aG.dS]
 |some i=>rw[hq] at hf;cases hf
theorem F2{s:aG}{x:aU}(h:s.unknown x=true):eL x∉s.dS:=by
 simp only[aG.unknown,t8,Bool.not_eq_true',decide_eq_false_iff_not] at h;exact h.2
theorem yT(x:aU):(dO [.int .i64 0,.int .i64 0] [(0,.int .i64 x.other),(1,.int .i64 x.no)]).map I.agg=some (.agg [.int .i64 x.other,.int .i64 x.no]):=by simp[dO,I.bS,I.size]
theorem Gt(s:aG)(hk:cD s)(x:aU)(hy:s.unknown x=true):cP Tryz.prog 132 [.ptr 1000000 [],enc x] (aM s) (mS { s with bo:=s.bo++[x] }):=by
 refine cP.b5 Tryz.func132 Ap AJ K8 (u8 rfl) (u8 rfl) dx (fun hwf W0 bG E1 =>?_);simp only[u5,D0,bI,zz1];clear hwf;have n3:aj (aM s) 3=none:=eF (.inl (by omega)) fun i _=>by simp[bF];omega
 have aY:aj (aM s) 1000000=some (.box (.agg [.int .i64 s.az,.mref 1000001,.mref 1000002,.int .i64 s.all.length,.mref 1000003,.mref 1000004])):=fu;have J:aj (aM s) 1000001=some (.bt (s.here.map enc) (List.replicate s.here.length (.bool true))):=fU;have U:aj (aM s) 1000002=some (.bt (s.bB.map enc) (dR (bF 1000000) s.aR)):=gh;have ah:aj (aM s) 1000003=some (.bt (s.dS.map enc) (s.bo.map enc)):=gi;have hfin:∀ ts,cX (au ts ((3,.box (enc x))::aM s)) 9 (.agg [.int .i64 s.az,.mref 1000001,.mref 1000002,.int .i64 s.all.length,.mref 1000003,.mref 1000004])=some (fT s):=fun ts =>
  gR (gT (dD _) hk.cB fun n hn=>by have:=dx n hn;simp only[aj];rw[if_neg (by omega)]) 4
 have hlk:=gu eQ x.aH s.here;rw[eG] at hlk;have hF:=r9 s x;rw[hy] at hF;have hup:=C1 (F2 hy);have R:=y6 @n3 (y6 @aY (y6 @ah (y6 @hfin (y6 @hup (y6 @yT (y6 @bz (y6 @bu aC)))))))
 repeat' ((first |refine ae.aE (by decide +kernel) rfl fun K hK =>?_|refine .flat _ (hF) rfl ?_|refine .flat _ (kE) rfl ?_|(refine .av [0,1,3] hK ?_;clear hK K)|(with_reducible refine .done (hK _ ?_);clear hK K)|refine ae.of rfl ?_|(with_reducible refine ay.aD (fun h =>?_) (fun h =>?_) <;>try simp only[h])) <;>try simp only[aF,R,simprocAttr])
 all_goals clear R
 rw[mf];refine me (fun n hn =>?_) (fun _ _ h=>iu (s := { s with bo:=s.bo++[x] }) ⟨hk.cB,hk.iJ,hk.af⟩ h) ⟨rfl,rfl⟩;have:=dx n hn;simp only[aM,ed,aj];rw[if_neg (show ¬ n=3 by omega)]
 (repeat' split) <;>first | rfl | omega
theorem Gu(s:aG)(hk:cD s)(x:aU)(hy:s.unknown x=false):fe Tryz.prog 132 fx [.ptr 1000000 [],enc x] (aM s) (jY s):=by
 refine fe.mk Tryz.func132 Ap AJ (u8 rfl) (u8 rfl) dx (fun hwf W0 bG E1 =>?_);simp only[u5,bI,zz1];clear hwf;have n3:aj (aM s) 3=none:=eF (.inl (by omega)) fun i _=>by simp[bF];omega
 have aY:aj (aM s) 1000000=some (.box (.agg [.int .i64 s.az,.mref 1000001,.mref 1000002,.int .i64 s.all.length,.mref 1000003,.mref 1000004])):=fu;have J:aj (aM s) 1000001=some (.bt (s.here.map enc) (List.replicate s.here.length (.bool true))):=fU;have U:aj (aM s) 1000002=some (.bt (s.bB.map enc) (dR (bF 1000000) s.aR)):=gh;have ah:aj (aM s) 1000003=some (.bt (s.dS.map enc) (s.bo.map enc)):=gi;have hfin:∀ ts,cX (au ts ((3,.box (enc x))::aM s)) 9 (.agg [.int .i64 s.az,.mref 1000001,.mref 1000002,.int .i64 s.all.length,.mref 1000003,.mref 1000004])=some (fT s):=fun ts =>
  gR (gT (dD _) hk.cB fun n hn=>by have:=dx n hn;simp only[aj];rw[if_neg (by omega)]) 4
 have hlk:=gu eQ x.aH s.here;rw[eG] at hlk;have hF:=r9 s x;rw[hy] at hF;have R:=y6 @n3 (y6 @aY (y6 @ah (y6 @hfin (y6 @bz (y6 @bu aC)))))
 repeat' ((first |(refine ae.oe (gs:=BG) (gs1:=[_,_,_]) rfl fun K hK =>?_)|refine ae.aE (by decide +kernel) rfl fun K hK =>?_|refine .flat _ (hF) rfl ?_|(refine .av [0,1,3] hK ?_;clear hK K)|(with_reducible refine .done (hK _ ?_);clear hK K)|refine ae.of rfl ?_|(with_reducible refine ay.aD (fun h =>?_) (fun h =>?_) <;>try simp only[h])) <;>try simp only[aF,R,simprocAttr])
 all_goals clear R
 exact .call (il (hh hk))
theorem Gr(s:aG)(hk:cD s)(x:aU)(hy:s.unknown x=true∧x.aH∉s.here∧s.fb x.aH=false):cP Tryz.prog 131 [.ptr 1000000 [],enc x] (aM s) (mS { s with bo:=s.bo++[x],here:=gy s.here x.aH }):=by
 refine cP.b5 Tryz.func131 Ao AI K7 (u8 rfl) (u8 rfl) dx (fun hwf W0 bG E1 =>?_);simp only[u4,DZ,bI,zz1];clear hwf;have n3:aj (aM s) 3=none:=eF (.inl (by omega)) fun i _=>by simp[bF];omega
 have aY:aj (aM s) 1000000=some (.box (.agg [.int .i64 s.az,.mref 1000001,.mref 1000002,.int .i64 s.all.length,.mref 1000003,.mref 1000004])):=fu;have J:aj (aM s) 1000001=some (.bt (s.here.map enc) (List.replicate s.here.length (.bool true))):=fU;have U:aj (aM s) 1000002=some (.bt (s.bB.map enc) (dR (bF 1000000) s.aR)):=gh;have ah:aj (aM s) 1000003=some (.bt (s.dS.map enc) (s.bo.map enc)):=gi;have hfin:∀ ts,cX (au ts ((3,.box (enc x))::aM s)) 9 (.agg [.int .i64 s.az,.mref 1000001,.mref 1000002,.int .i64 s.all.length,.mref 1000003,.mref 1000004])=some (fT s):=fun ts =>
  gR (gT (dD _) hk.cB fun n hn=>by have:=dx n hn;simp only[aj];rw[if_neg (by omega)]) 4
 have hlk:=gu eQ x.aH s.here;rw[eG] at hlk;have hF:=r9 s x;rw[hy.1] at hF;have hF2:=p8 s x.aH;rw[hy.2.2] at hF2;have q1:decide (x.aH∈s.here)=false:=decide_eq_false hy.2.1;have hup:=C1 (F2 hy.1);have hup2:=wR eQ x.aH s.here;rw[eG] at hup2;have R:=y6 @n3 (y6 @aY (y6 @J (y6 @ah (y6 @hfin (y6 @hlk (y6 @q1 (y6 @hup (y6 @hup2 (y6 @yT (y6 @bz (y6 @bu aC)))))))))))
 repeat' ((first |(with_reducible refine .guard (fun hb =>?_) (fun hb =>?_) <;>try simp only[hb])|refine ae.aE (by decide +kernel) rfl fun K hK =>?_|refine .flat _ (hF) rfl ?_|refine .flat _ (hF2) rfl ?_|refine .flat _ (kE) rfl ?_|(refine .av [0,1,3] hK ?_;clear hK K)|(with_reducible refine .done (hK _ ?_);clear hK K)|refine ae.of rfl ?_|(with_reducible refine ay.aD (fun h =>?_) (fun h =>?_) <;>try simp only[h])) <;>try simp only[aF,R,simprocAttr])
 all_goals clear R
 rw[mf];refine me (fun n hn =>?_) (fun _ _ h=>iu (s := { s with bo:=s.bo++[x],here:=gy s.here x.aH }) ⟨hk.cB,hk.iJ,nv hk.af⟩ h) ⟨rfl,rfl⟩;have:=dx n hn;simp only[aM,ed,aj];rw[if_neg (show ¬ n=3 by omega)]
 (repeat' split) <;>first | rfl | omega
theorem Gs(s:aG)(hk:cD s)(x:aU)(hy:¬ (s.unknown x=true∧x.aH∉s.here∧s.fb x.aH=false)):fe Tryz.prog 131 fx [.ptr 1000000 [],enc x] (aM s) (jY s):=by
 refine fe.mk Tryz.func131 Ao AI (u8 rfl) (u8 rfl) dx (fun hwf W0 bG E1 =>?_);simp only[u4,bI,zz1];clear hwf;have n3:aj (aM s) 3=none:=eF (.inl (by omega)) fun i _=>by simp[bF];omega
 have aY:aj (aM s) 1000000=some (.box (.agg [.int .i64 s.az,.mref 1000001,.mref 1000002,.int .i64 s.all.length,.mref 1000003,.mref 1000004])):=fu;have J:aj (aM s) 1000001=some (.bt (s.here.map enc) (List.replicate s.here.length (.bool true))):=fU;have U:aj (aM s) 1000002=some (.bt (s.bB.map enc) (dR (bF 1000000) s.aR)):=gh;have ah:aj (aM s) 1000003=some (.bt (s.dS.map enc) (s.bo.map enc)):=gi;have hfin:∀ ts,cX (au ts ((3,.box (enc x))::aM s)) 9 (.agg [.int .i64 s.az,.mref 1000001,.mref 1000002,.int .i64 s.all.length,.mref 1000003,.mref 1000004])=some (fT s):=fun ts =>
  gR (gT (dD _) hk.cB fun n hn=>by have:=dx n hn;simp only[aj];rw[if_neg (by omega)]) 4
 have hlk:=gu eQ x.aH s.here;rw[eG] at hlk;have hF:=r9 s x;have hF2:=p8 s x.aH;rcases q0:s.unknown x
 ·rw[q0] at hF;have R:=y6 @n3 (y6 @aY (y6 @J (y6 @ah (y6 @hfin (y6 @hlk (y6 @bz (y6 @bu aC)))))))
  repeat' ((first |(with_reducible refine .guard (fun hb =>?_) (fun hb =>?_) <;>try simp only[hb])|(refine ae.jE (gs:=nL) 20 [] [] [0,1,2,3,4,5,6,7,8,9,10,11,12,13,14,15,16,17,18,19] (by decide +kernel) rfl (cW.of (by simp[fo])) fun K hK =>?_;simp only[e8,nL,gz,zz5,zx6,List.take_zero,zy6,zy7,R,simprocAttr])|refine ae.aE (by decide +kernel) rfl fun K hK =>?_|refine .flat _ (hF) rfl ?_|(refine .av [0,1,3] hK ?_;clear hK K)|(with_reducible refine .done (hK _ ?_);clear hK K)|refine ae.of rfl ?_|(with_reducible refine ay.aD (fun h =>?_) (fun h =>?_) <;>try simp only[h])) <;>try simp only[aF,R,simprocAttr])
  all_goals clear R
  exact .call (il (hh hk))
 rw[q0] at hF;rcases q1:decide (x.aH∈s.here)
 ·have q2:s.fb x.aH=true:=by
   rcases q2:s.fb x.aH
   ·exact absurd ⟨q0,of_decide_eq_false q1,q2⟩ hy
   ·rfl
  rw[q2] at hF2;have R:=y6 @n3 (y6 @aY (y6 @J (y6 @ah (y6 @hfin (y6 @hlk (y6 @q1 (y6 @bz (y6 @bu aC))))))))
  repeat' ((first |(with_reducible refine .guard (fun hb =>?_) (fun hb =>?_) <;>try simp only[hb])|(refine ae.jE (gs:=nL) 20 [] [] [0,1,2,3,4,5,6,7,8,9,10,11,12,13,14,15,16,17,18,19] (by decide +kernel) rfl (cW.of (by simp[fo])) fun K hK =>?_;simp only[e8,nL,gz,zz5,zx6,List.take_zero,zy6,zy7,R,simprocAttr])|refine ae.aE (by decide +kernel) rfl fun K hK =>?_|refine .flat _ (hF) rfl ?_|refine .flat _ (hF2) rfl ?_|(refine .av [0,1,3] hK ?_;clear hK K)|(with_reducible refine .done (hK _ ?_);clear hK K)|refine ae.of rfl ?_|(with_reducible refine ay.aD (fun h =>?_) (fun h =>?_) <;>try simp only[h])) <;>try simp only[aF,R,simprocAttr])
  all_goals clear R
  exact .call (il (hh hk))
 ·have R:=y6 @n3 (y6 @aY (y6 @J (y6 @ah (y6 @hfin (y6 @hlk (y6 @q1 (y6 @bz (y6 @bu aC))))))))
  repeat' ((first |(with_reducible refine .guard (fun hb =>?_) (fun hb =>?_) <;>try simp only[hb])|(refine ae.jE (gs:=nL) 20 [] [] [0,1,2,3,4,5,6,7,8,9,10,11,12,13,14,15,16,17,18,19] (by decide +kernel) rfl (cW.of (by simp[fo])) fun K hK =>?_;simp only[e8,nL,gz,zz5,zx6,List.take_zero,zy6,zy7,R,simprocAttr])|refine ae.aE (by decide +kernel) rfl fun K hK =>?_|refine .flat _ (hF) rfl ?_|(refine .av [0,1,3] hK ?_;clear hK K)|(with_reducible refine .done (hK _ ?_);clear hK K)|refine ae.of rfl ?_|(with_reducible refine ay.aD (fun h =>?_) (fun h =>?_) <;>try simp only[h])) <;>try simp only[aF,R,simprocAttr])
  all_goals clear R
  exact .call (il (hh hk))
abbrev gC(k:Nat)(s:aG):List (Nat×aq):=ed 1000000 (fQ 1000000 57 k) s
def tG(k:Nat)(s:aG):cC:=fun r os'=>r=.tuple []∧os'=gC k s
theorem gH{k m:Nat}(h:m≤k+1):gv 1000000 (fQ 1000000 57 k) m:=gv.fQ (by omega) h
theorem tX{s:aG}(hk:cD s){k:Nat}(h:s.all.length≤k):gC k s=aM s:=aal hk.cB fun i hi=>lY (by omega)
def iR(s:aG)(x:aU):aG := { s with here:=s.here.erase x.aH,all:=s.all++[⟨x.no,x.other,x.aH,false⟩],aR:=s.aR++[s.all.length] }
theorem ZY{s:aG}(hk:cD s)(x:aU):cD (iR s x):=by
 refine ⟨fun i hi =>?_,?_,hk.af.erase _⟩
 ·simp only[iR,zx7,zx5] at hi;simp only[iR,zz7,List.length_singleton];rcases hi with hi | hi
  ·have:=hk.cB i hi;omega
  ·omega
 ·exact List.nodup_append.2 ⟨hk.iJ,by simp,fun a ha c hc e=>by rw[zx5.1 hc] at e;have:=hk.cB a ha;omega⟩
theorem X0{s:aG}(hk:cD s){no:Int}(hno:no=(s.all.length:Int)+1)(v:I)(hv:v.bS=true):fq (.i .i64) (.int .i64 no) v (s.bB.map enc) (dR (bF 1000000) s.aR)=some ((s.bB++[no]).map enc,dR (bF 1000000) s.aR++[v]):=by
 have hm:=wQ eQ no v hv s.bB (dR (bF 1000000) s.aR);rw[eG] at hm;rw[hm];have hf:=qv (k:=no) (ks:=s.bB);have:no∉s.bB:=fun h=>by
  obtain ⟨i,hi,e⟩:=zx1.1 h;have:=hk.cB i hi;omega
 rw[decide_eq_false this] at hf;cases hq:s.bB.findIdx? fun y=>decide (no=y) with
 |none=>rfl
 |some i=>rw[hq] at hf;cases hf
theorem Gk(s:aG)(hk:cD s)(hlen:s.all.length≤100000)(x:aU)(hy:x.aH∈s.here∧x.other≠s.az∧x.no=(s.all.length:Int)+1):cP Tryz.prog 127 [.ptr 1000000 [],enc x] (aM s) (tG s.all.length (iR s x)):=by
 refine cP.b5 Tryz.func127 Ak AE K3 (u8 rfl) (u8 rfl) dx (fun hwf W0 bG E1 =>?_);simp only[uX,DV,bI,zz1];clear hwf;have n3:aj (aM s) 3=none:=eF (.inl (by omega)) fun i _=>by simp[bF];omega
 have n57:aj (aM s) 57=none:=eF (.inl (by omega)) fun i _=>by simp[bF];omega
 have aY:aj (aM s) 1000000=some (.box (.agg [.int .i64 s.az,.mref 1000001,.mref 1000002,.int .i64 s.all.length,.mref 1000003,.mref 1000004])):=fu;have J:aj (aM s) 1000001=some (.bt (s.here.map enc) (List.replicate s.here.length (.bool true))):=fU;have U:aj (aM s) 1000002=some (.bt (s.bB.map enc) (dR (bF 1000000) s.aR)):=gh;have hlk:=gu eQ x.aH s.here;rw[eG] at hlk;have q1:decide (x.aH∈s.here)=true:=decide_eq_true hy.1;have q2:(x.other != s.az)=true:=by simpa using hy.2.1
 have hw:IntKind.i64.wrap ((s.all.length:Int)+1)=(s.all.length:Int)+1:=mB _ (by omega) (by omega);have q3:(x.no==(s.all.length:Int)+1)=true:=by simpa using hy.2.2
 have hdl:=CS hy.1;have hup:=X0 hk hy.2.2 (.ptr 57 []) rfl;have hst:∀ A rest,dk A none 1000000 [3] (.agg [.int .i64 s.az,.mref 1000001,.mref 1000002,.int .i64 s.all.length,.mref 1000003,.mref 1000004]) (.int .i64 ((s.all.length:Int)+1)) rest (some (.int .i64 s.all.length)) =
   aB rest (A.aT 1000000 (.box (.agg [.int .i64 s.az,.mref 1000001,.mref 1000002,.int .i64 ((s.all.length:Int)+1),.mref 1000003,.mref 1000004]))):=fun A rest=>dK rfl rfl rfl
 have hbld:(dO [.int .i64 0,.int .i64 0,.int .i64 0,.bool false] [(0,.int .i64 x.no),(1,.int .i64 x.other),(2,.int .i64 x.aH)]).map I.agg=some (enc (⟨x.no,x.other,x.aH,false⟩:cZ)):=by simp[dO,I.bS,I.size];rfl
 have offT:∀ (a b:Int) v,db [.int .i64 a,.mref 1000001,.mref 1000002,.int .i64 (b+1),.mref 1000003,.mref 1000004] 2 2 v=some v:=fun a b v=>rfl;have R:=y6 @n3 (y6 @n57 (y6 @aY (y6 @J (y6 @U (y6 @hlk (y6 @q1 (y6 @q2 (y6 @hw (y6 @q3 (y6 @hdl (y6 @hup (y6 @hst (y6 @hbld (y6 @offT (y6 @bz (y6 @bu aC))))))))))))))))
 repeat' ((first |(with_reducible refine .guard (fun hb =>?_) (fun hb =>?_) <;>try simp only[hb])|refine ae.aE (by decide +kernel) rfl fun K hK =>?_|refine .flat _ (kE) rfl ?_|(refine .av [0,1,3] hK ?_;clear hK K)|(with_reducible refine .done (hK _ ?_);clear hK K)|refine ae.of rfl ?_|(with_reducible refine ay.aD (fun h =>?_) (fun h =>?_) <;>try simp only[h])) <;>try simp only[aF,R,simprocAttr])
 all_goals clear R
 rw[mf];have hg:=gH (k:=s.all.length) (m:=(iR s x).all.length) (by simp[iR]);refine me (fun n hn =>?_) (fun _ _ h=>lB hg (ZY hk x).cB h) ⟨rfl,rfl⟩;have hl1:(iR s x).all.length=s.all.length+1:=by simp[iR]
 have hp:dR (fQ 1000000 57 s.all.length) (s.aR++[s.all.length])=dR (bF 1000000) s.aR++[.ptr 57 []]:=by
  simp only[dR,zy5,zz3,zx4]
  congr 1
  ·exact List.map_congr_left fun i hi=>by rw[lY (hk.cB i hi)]
  ·simp[fQ]
 have hnu:(iR s x).bB=s.bB++[x.no]:=by simp[aG.bB,iR,hy.2.2]
 rcases (dL hg).1 hn with hb | ⟨j,hj,rfl⟩
 ·have hc:n=1000000∨n=1000001∨n=1000002∨n=1000003∨n=1000004:=by omega
  rcases hc with rfl | rfl | rfl | rfl | rfl
  ·rw[fu];simp[aj,nl,iR]
  ·rw[show (1000001:Nat)=1000000+1 from rfl,fU];simp[aj,ph,iR]
  ·rw[show (1000002:Nat)=1000000+2 from rfl,gh];simp only[oj,hnu];simp only[iR,hp];simp[aj]
  ·rw[show (1000003:Nat)=1000000+3 from rfl,gi];have:=gi (B:=1000000) (ν:=bF 1000000) (s:=s);simp only[aj,Nat.reduceAdd,Nat.reduceEqDiff,if_false];exact this
  ·rw[show (1000004:Nat)=1000000+4 from rfl,oC];have:=oC (B:=1000000) (ν:=bF 1000000) (s:=s);simp only[aj,Nat.reduceAdd,Nat.reduceEqDiff,if_false];exact this
 ·rw[jn hg hj];by_cases e:j=s.all.length
  ·subst e;simp[aj,fQ,iR]
  ·have hj2:j<s.all.length:=by omega
   rw[lY hj2];have:=jn (B:=1000000) (ν:=bF 1000000) (s:=s) (dD _) hj2;simp only[aj];rw[if_neg (by simp[bF];omega),if_neg (by simp[bF];omega),if_neg (by simp[bF];omega),if_neg (by simp[bF];omega),if_neg (by simp[bF];omega),this];simp[iR,List.getElem_append_left hj2]
theorem Gl(s:aG)(hk:cD s)(hlen:s.all.length≤100000)(x:aU)(hy:¬ (x.aH∈s.here∧x.other≠s.az∧x.no=(s.all.length:Int)+1)):fe Tryz.prog 127 fx [.ptr 1000000 [],enc x] (aM s) (jY s):=by
 refine fe.mk Tryz.func127 Ak AE (u8 rfl) (u8 rfl) dx (fun hwf W0 bG E1 =>?_);simp only[uX,bI,zz1];clear hwf;have n3:aj (aM s) 3=none:=eF (.inl (by omega)) fun i _=>by simp[bF];omega
 have aY:aj (aM s) 1000000=some (.box (.agg [.int .i64 s.az,.mref 1000001,.mref 1000002,.int .i64 s.all.length,.mref 1000003,.mref 1000004])):=fu;have J:aj (aM s) 1000001=some (.bt (s.here.map enc) (List.replicate s.here.length (.bool true))):=fU;have hlk:=gu eQ x.aH s.here;rw[eG] at hlk;have hw:IntKind.i64.wrap ((s.all.length:Int)+1)=(s.all.length:Int)+1:=mB _ (by omega) (by omega);rcases q1:decide (x.aH∈s.here)
 ·have R:=y6 @n3 (y6 @aY (y6 @J (y6 @hlk (y6 @q1 (y6 @bz (y6 @bu aC))))))
  repeat' ((first |(with_reducible refine .guard (fun hb =>?_) (fun hb =>?_) <;>try simp only[hb])|(refine ae.jE (gs:=nK) 26 [] [] [0,1,2,3,4,5,6,7,8,9,10,11,12,13,14,15,16,17,18,19,20,21,22,23,24,25] (by decide +kernel) rfl (cW.of (by simp[fo])) fun K hK =>?_;simp only[e8,nK,gz,zz5,zx6,List.take_zero,zy6,zy7,R,simprocAttr])|refine ae.aE (by decide +kernel) rfl fun K hK =>?_|(refine .av [0,1,3] hK ?_;clear hK K)|(with_reducible refine .done (hK _ ?_);clear hK K)|refine ae.of rfl ?_|(with_reducible refine ay.aD (fun h =>?_) (fun h =>?_) <;>try simp only[h])) <;>try simp only[aF,R,simprocAttr])
  all_goals clear R
  exact .call (il (hh hk))
 rcases q2:(x.other != s.az)
 ·have R:=y6 @n3 (y6 @aY (y6 @J (y6 @hlk (y6 @q1 (y6 @q2 (y6 @bz (y6 @bu aC)))))))
  repeat' ((first |(with_reducible refine .guard (fun hb =>?_) (fun hb =>?_) <;>try simp only[hb])|(refine ae.jE (gs:=nK) 26 [] [] [0,1,2,3,4,5,6,7,8,9,10,11,12,13,14,15,16,17,18,19,20,21,22,23,24,25] (by decide +kernel) rfl (cW.of (by simp[fo])) fun K hK =>?_;simp only[e8,nK,gz,zz5,zx6,List.take_zero,zy6,zy7,R,simprocAttr])|refine ae.aE (by decide +kernel) rfl fun K hK =>?_|(refine .av [0,1,3] hK ?_;clear hK K)|(with_reducible refine .done (hK _ ?_);clear hK K)|refine ae.of rfl ?_|(with_reducible refine ay.aD (fun h =>?_) (fun h =>?_) <;>try simp only[h])) <;>try simp only[aF,R,simprocAttr])
  all_goals clear R
  exact .call (il (hh hk))
 have q3:(x.no==(s.all.length:Int)+1)=false:=by
  rcases q3:(x.no==(s.all.length:Int)+1)
  ·rfl
  ·exact absurd ⟨of_decide_eq_true q1,by simpa using q2,by simpa using q3⟩ hy
 have R:=y6 @n3 (y6 @aY (y6 @J (y6 @hlk (y6 @q1 (y6 @q2 (y6 @hw (y6 @q3 (y6 @bz (y6 @bu aC)))))))))
 repeat' ((first |(with_reducible refine .guard (fun hb =>?_) (fun hb =>?_) <;>try simp only[hb])|(refine ae.jE (gs:=nK) 26 [] [] [0,1,2,3,4,5,6,7,8,9,10,11,12,13,14,15,16,17,18,19,20,21,22,23,24,25] (by decide +kernel) rfl (cW.of (by simp[fo])) fun K hK =>?_;simp only[e8,nK,gz,zz5,zx6,List.take_zero,zy6,zy7,R,simprocAttr])|refine ae.aE (by decide +kernel) rfl fun K hK =>?_|(refine .av [0,1,3] hK ?_;clear hK K)|(with_reducible refine .done (hK _ ?_);clear hK K)|refine ae.of rfl ?_|(with_reducible refine ay.aD (fun h =>?_) (fun h =>?_) <;>try simp only[h])) <;>try simp only[aF,R,simprocAttr])
 all_goals clear R
 exact .call (il (hh hk))
def ee(s:aG)(x:aU):aG×Bool:=match gj s x with
 |some s'=>(s',true)
 |none=>(s,false)
def Dz(s:aG)(x:aU):cC:=fun r os'=>r=.bool (ee s x).2∧os'=gC s.all.length (ee s x).1
def ju(B:Nat):List I:=[.func 1000125 [.ptr B []],.func 1000126 [.ptr B []],.func 1000127 [.ptr B []],.func 1000128 [.ptr B []],.func 1000129 [.ptr B []],.func 1000130 [.ptr B []],.func 1000131 [.ptr B []],.func 1000132 [.ptr B []]]
def kD(s:aG)(x:aU)(f:FuncId):Prop:=match eJ s x with
 |some s'=>cP Tryz.prog f [.ptr 1000000 [],enc x] (aM s) (tG s.all.length s')
 |none=>fe Tryz.prog f fx [.ptr 1000000 [],enc x] (aM s) (jY s)
theorem cP.post{P:Program}{f:FuncId}{args:List I}{os:List (Nat×aq)}{post post':cC}(h:cP P f args os post)(hp:∀ r os',post r os'→post' r os'):cP P f args os post' :=
 ⟨h.1,fun w D E vs ab hD ho hv=>(h.2 w D E vs ab hD ho hv).mono fun _ _ ⟨v,D',E',r,os',k1,k2,k⟩=>⟨v,D',E',r,os',k1,hp _ _ k2,k⟩⟩
theorem n2{s s':aG}{x:aU}(hk:cD s)(hn:eJ s x=some s')(hx:x.kind≠3):∀ r os',mS s' r os'→tG s.all.length s' r os':=by
 rintro r os' ⟨rfl,rfl⟩;obtain ⟨J,_,_,ar⟩:=hk.next hn
 exact ⟨rfl,(tX J (Nat.le_of_eq (ar hx))).symm⟩
theorem wL{s:aG}(hk:cD s)(hlen:s.all.length≤100000){x:aU}(hx:hd x=true) :
  ∃ f:Nat,fi (.i .i64) .dy (.int .i64 x.kind) gK (ju 1000000)=some (.func (f+1000000) [.ptr 1000000 []],true)∧[125,126,127,128,129,130,131,132].contains f=true∧kD s x f:=by
 have ar:x.kind=1∨x.kind=2∨x.kind=3∨x.kind=4∨x.kind=5∨x.kind=6∨x.kind=7∨x.kind=8:=by
  simp only[hd] at hx;split at hx
  ·omega
  ·split at hx
   ·omega
   ·cases hx
 have lk:∀ n:Int,x.kind=n→fi (.i .i64) .dy (.int .i64 x.kind) gK (ju 1000000)=fi (.i .i64) .dy (.int .i64 n) gK (ju 1000000):=fun n h=>by rw[h]
 rcases ar with h | h | h | h | h | h | h | h
 ·refine ⟨125,by rw[h];simp[fi,eD,b7,gK,ju],rfl,?_⟩;simp only[kD,eJ,h,if_true];split
  ·rename_i s' ab;split at ab
   ·cases ab
   ·rename_i bM;cases ab;have hy:x.aH∉s.here∧s.fb x.aH=false:=⟨fun h=>bM (.inl h),by rcases q:s.fb x.aH;rfl;exact absurd (.inr q) bM⟩
    exact cP.post (Gg s hk x hy) (n2 (x:=x) hk (by simp[eJ,h,hy.1,hy.2]) (by omega))
  ·rename_i ab;split at ab
   ·rename_i bM;exact Gh s hk x bM
   ·cases ab
 ·refine ⟨126,by rw[h];simp[fi,eD,b7,gK,ju],rfl,?_⟩;simp only[kD,eJ,h,Int.reduceEq,if_false,if_true];split
  ·rename_i s' ab;split at ab
   ·rename_i bM;cases ab;exact cP.post (Gi s hk x bM) (n2 (x:=x) hk (by simp[eJ,h,bM]) (by omega))
   ·cases ab
  ·rename_i ab;split at ab
   ·cases ab
   ·rename_i bM;exact Gj s hk x bM
 ·refine ⟨127,by rw[h];simp[fi,eD,b7,gK,ju],rfl,?_⟩;simp only[kD,eJ,h,Int.reduceEq,if_false,if_true];split
  ·rename_i s' ab;split at ab
   ·rename_i bM;cases ab;exact Gk s hk hlen x bM
   ·cases ab
  ·rename_i ab;split at ab
   ·cases ab
   ·rename_i bM;exact Gl s hk hlen x bM
 ·refine ⟨128,by rw[h];simp[fi,eD,b7,gK,ju],rfl,?_⟩;simp only[kD,eJ,h,Int.reduceEq,if_false,if_true];cases ho:s.on x with
  |none=>exact ya s hk x fun i hi=>by rw[ho] at hi;cases hi
  |some i =>
   cases hc:(s.b9 i).dz with
   |true =>
    simp only[hc,if_true];exact ya s hk x fun j hj=>by rw[ho] at hj;cases hj;exact hc
   |false =>
    simp only[hc,zz2,if_false];exact cP.post (Gm s hk x i ho hc) (n2 (x:=x) hk (by simp[eJ,h,ho,hc]) (by omega))
 ·refine ⟨129,by rw[h];simp[fi,eD,b7,gK,ju],rfl,?_⟩;simp only[kD,eJ,h,Int.reduceEq,if_false,if_true];cases ho:s.on x with
  |none=>exact Gp s hk x ho
  |some i=>exact cP.post (Gn s hk x i ho) (n2 (x:=x) hk (by simp[eJ,h,ho]) (by omega))
 ·refine ⟨130,by rw[h];simp[fi,eD,b7,gK,ju],rfl,?_⟩;simp only[kD,eJ,h,Int.reduceEq,if_false,if_true];cases ho:s.on x with
  |none=>exact yc s hk x fun i hi=>by rw[ho] at hi;cases hi
  |some i =>
   cases hc:(s.b9 i).dz with
   |false =>
    simp only[hc,zz2,if_false];exact yc s hk x fun j hj=>by rw[ho] at hj;cases hj;exact hc
   |true =>
    simp only[hc,if_true];exact cP.post (Gq s hk x i ho hc) (n2 (x:=x) hk (by simp[eJ,h,ho,hc]) (by omega))
 ·refine ⟨131,by rw[h];simp[fi,eD,b7,gK,ju],rfl,?_⟩;simp only[kD,eJ,h,Int.reduceEq,if_false,if_true];split
  ·rename_i s' ab;split at ab
   ·rename_i bM;cases ab;exact cP.post (Gr s hk x bM) (n2 (x:=x) hk (by simp[eJ,h,bM.1,bM.2.1,bM.2.2]) (by omega))
   ·cases ab
  ·rename_i ab;split at ab
   ·cases ab
   ·rename_i bM;exact Gs s hk x bM
 ·refine ⟨132,by rw[h];simp[fi,eD,b7,gK,ju],rfl,?_⟩;simp only[kD,eJ,h,Int.reduceEq,if_false,if_true];cases hu:s.unknown x with
  |true =>
   simp only[if_true];exact cP.post (Gt s hk x hu) (n2 (x:=x) hk (by simp[eJ,h,hu]) (by omega))
  |false =>
   simp only[zz2,if_false];exact Gu s hk x hu
def dJ(x:aU)(b:Bool)(l:List (Nat×aq)):List (Nat×aq):=(1900004,.box (.bool b))::(1900003,.box (enc x))::l
def l5(s:aG)(x:aU):cC:=fun r os'=>r=.bool (ee s x).2∧os'=dJ x (ee s x).2 (gC s.all.length (ee s x).1)
def lp:List (Nat×Nat):=[(1900003,3),(1900004,4)]
theorem rS{s:aG}(hk:cD s)(x:aU):cD (ee s x).1∧(ee s x).1.az=s.az∧s.all.length≤(ee s x).1.all.length∧(ee s x).1.all.length≤s.all.length+1:=by
 simp only[ee];cases h:gj s x with
 |none=>exact ⟨hk,rfl,zz4 _,by simp⟩
 |some s' =>
  simp only[gj] at h;split at h
  ·obtain ⟨J,U,ah,ar⟩:=hk.next h
   refine ⟨J,U,?_,ah⟩;by_cases hk3:x.kind=3
   ·simp only[eJ,hk3,Int.reduceEq,if_false,if_true] at h;split at h <;>cases h
    simp
   ·exact Nat.le_of_eq (ar hk3).symm
  ·cases h
theorem tW{s:aG}{k:Nat}(h:s.all.length≤k+1){n:Nat}(hn:aw (gC k s) n=true):n=57∨(1000000≤n∧n<1000006+k):=by
 rcases (dL (gH h)).1 hn with U | ⟨i,hi,rfl⟩
 ·omega
 ·simp only[fQ];split <;>omega
theorem lz{s:aG}{n:Nat}(hn:aw (aM s) n=true):1000000≤n∧n<1000005+s.all.length:=by
 rcases (dL (dD _)).1 hn with U | ⟨i,hi,rfl⟩
 ·omega
 ·simp only[bF];omega
theorem jD{x:aU}{b:Bool}{l:List (Nat×aq)}{n:Nat} : aw (dJ x b l) n=true↔n=1900004∨n=1900003∨aw l n=true:=by
 simp only[aw,dJ,aj];by_cases J:n=1900004
 ·simp[J]
 by_cases U:n=1900003
 ·simp[U]
 simp[J,U]
theorem rp{x:aU}{b:Bool}{l:List (Nat×aq)}(ao:∀ m y,aj l m=some y→y.only (aw l)=true∧y.eh=true){n:Nat}{y:aq}(h:aj (dJ x b l) n=some y):y.only (aw (dJ x b l))=true∧y.eh=true:=by
 simp only[dJ,aj] at h;split at h
 ·cases h;exact ⟨rfl,rfl⟩
 split at h
 ·cases h;exact ⟨cA _ _,rfl⟩
 obtain ⟨J,U⟩:=ao n y h;refine ⟨aq.iM (fun m hm=>jD.2 (.inr (.inr hm))) y J,U⟩
theorem xw(ρ:List (Nat×Nat))(k:Nat)(v:aq)(os:List (Nat×aq)):dn ρ ((k,v)::os)=(bH ρ k,v.bh (bH ρ))::dn ρ os:=rfl
theorem Ff{ρ:List (Nat×Nat)}{ν ν':Nat→Nat} : ∀ (l:List cZ) (i:Nat),(∀ k,k<i+l.length→bH ρ (ν k)=ν' k)→dn ρ (jt ν i l)=jt ν' i l
 | [],_,_=>rfl
 |r::l,i,h=>by
  simp only[zw1] at h;simp only[jt,xw,h i (by omega),aq.bh,kS,Ff l (i+1) fun k hk=>h k (by omega)]
theorem Fi{ρ:Nat→Nat}{ν ν':Nat→Nat} : ∀ l:List Nat,(∀ i∈l,ρ (ν i)=ν' i)→I.dp ρ (dR ν l)=dR ν' l
 | [],_=>rfl
 |i::l,h=>by
  have ih:=Fi (ρ:=ρ) l fun j hj=>h j (by simp[hj]);simp only[dR] at ih;simp only[dR,zz3,I.dp,I.bh,h i (by simp),ih]
theorem Fh{ρ:List (Nat×Nat)}{B B':Nat}{ν ν':Nat→Nat}{s:aG}(ao:∀ i∈s.aR,i<s.all.length)(aY:∀ j,j<5→bH ρ (B+j)=B'+j)(h:∀ k,k<s.all.length→bH ρ (ν k)=ν' k):dn ρ (ed B ν s)=ed B' ν' s:=by
 have hB:bH ρ B=B':=aY 0 (by omega);have J:=aY 1 (by omega);have U:=aY 2 (by omega);have ah:=aY 3 (by omega);have ar:=aY 4 (by omega);have hp:=Fi (ρ:=bH ρ) s.aR fun i hi=>h i (ao i hi);have hr:I.dp (bH ρ) (List.replicate s.here.length (.bool true))=List.replicate s.here.length (.bool true):=mX _ _ (ql _);simp only[ed,xw,hB,J,U,ah,ar,Ff s.all 0 (by simpa using h),nl,ph,oj,qO,oR,gK,aq.bh,I.bh,I.dp,pP,hp,hr]
theorem CL{ρ:List (Nat×Nat)}{os:List (Nat×aq)}{m:Nat}{y:aq}(inj:∀ m',aw os m'=true→bH ρ m'=bH ρ m→m'=m)(h:aj os m=some y):aj (dn ρ os) (bH ρ m)=some (y.bh (bH ρ)):=by
 have J:=qW ρ os [] (bH ρ m);rw[zv2] at J;rw[J];cases hp:pre ρ os (bH ρ m) with
 |none=>exact absurd rfl (xi hp (by simp[aw,h]))
 |some m' =>
  obtain ⟨k1,k2⟩:=lh hp;have:=inj m' k1 k2;subst this;simp only[h,zz9]
theorem ml(m:Nat):bH lp m=if m=1900003 then 3 else if m=1900004 then 4 else m:=rfl
theorem Fe{s:aG}(hk:cD s){k:Nat}(h:s.all.length≤k+1)(hlen:k≤100000):dn lp (gC k s)=gC k s :=
 Fh hk.cB (fun j hj=>by rw[ml,if_neg (by omega),if_neg (by omega)]) fun i hi=>by
  have:fQ 1000000 57 k i=57∨(1000000≤fQ 1000000 57 k i∧fQ 1000000 57 k i<1000006+k):=by simp only[fQ];split <;>omega
  rw[ml,if_neg (by omega),if_neg (by omega)]
theorem Zz{s:aG}(hk:cD s)(hlen:s.all.length≤100000):dn lp (aM s)=aM s:=by
 rw[←tX hk (zz4 _)];exact Fe hk (by omega) hlen
def xC:bp:=.seq (.cw none BO) (.seq (.cw MB qC) (.seq (.cw none Vm) .ret))
theorem MF:Tryz.f81.body.bind (vm Tryz.prog Tryz.f81.ntmps)=some (.cw none BN,113,4,5,xC):=by kernel_rfl
def pK(s:aG)(x:aU):List (Nat×aq):=(4,.box (.bool false))::(3,.box (enc x))::aM s
theorem Xa{s:aG}(hk:cD s)(hlen:s.all.length≤100000)(x:aU):gn lp (dJ x false (aM s)) (pK s x):=by
 refine ⟨fun m y hy=>⟨?_,rp (fun _ _ h=>iu hk h) hy⟩,fun m m' hm hm' e =>?_⟩
 ·simp only[dJ,aj] at hy;split at hy
  ·rename_i h;subst h;cases hy;rfl
  split at hy
  ·rename_i h;subst h;cases hy;simp only[aq.bh,kS];rfl
  ·have hm:=lz (s:=s) (n:=m) (by simp[aw,hy]);have e:bH lp m=m:=by rw[ml,if_neg (by omega),if_neg (by omega)]
   have:=CL (ρ:=lp) (os:=aM s) (m:=m) (fun m' hm' he=>by
    have:=lz hm';rw[e,ml,if_neg (by omega),if_neg (by omega)] at he;exact he) hy
   rw[Zz hk hlen] at this;rw[e] at this ⊢;simp only[pK,aj];rw[if_neg (by omega),if_neg (by omega)];exact this
 ·have key:∀ m,aw (dJ x false (aM s)) m=true→m=1900004∨m=1900003∨(1000000≤m∧m<1900000):=fun m hm=>by
   rcases jD.1 hm with h | h | h
   ·exact .inl h
   ·exact .inr (.inl h)
   ·have:=lz h;exact .inr (.inr (by omega))
  have k1:=key m hm;have k2:=key m' hm';rw[ml,ml] at e
  (repeat' split at e) <;>omega
theorem HW{s:aG}(hk:cD s)(hlen:s.all.length≤100000)(x:aU):∀ r os',l5 s x r os'→fW false lp (dJ x false (aM s)) (pK s x) r os':=by
 rintro r os' ⟨rfl,rfl⟩;obtain ⟨J,U,ah,ar⟩:=rS hk x;have hon:∀ m y,aj (gC s.all.length (ee s x).1) m=some y→y.only (aw (gC s.all.length (ee s x).1))=true∧y.eh=true:=fun m y h=>lB (gH ar) J.cB h;have key:∀ m,aw (dJ x (ee s x).2 (gC s.all.length (ee s x).1)) m=true→m=1900004∨m=1900003∨m=57∨(1000000≤m∧m<1900000):=fun m hm=>by
  rcases jD.1 hm with h | h | h
  ·exact .inl h
  ·exact .inr (.inl h)
  ·have:=tW ar h;omega
 refine ⟨fun m y hy=>⟨(rp hon hy).1,(rp hon hy).2,fun h=>by cases h⟩,fun m m' hm hm' e =>?_,fun m hm =>?_,fun m hm hno =>?_,rfl,fun h=>by cases h⟩
 ·have k1:=key m hm;have k2:=key m' hm';rw[ml,ml] at e
  (repeat' split at e) <;>omega
 ·rcases jD.1 hm with h | h | h
  ·exact jD.2 (.inl h)
  ·exact jD.2 (.inr (.inl h))
  ·refine jD.2 (.inr (.inr ?_));rcases (dL (dD _)).1 h with h5 | ⟨i,hi,rfl⟩
   ·exact (dL (gH ar)).2 (.inl h5)
   ·exact (dL (gH ar)).2 (.inr ⟨i,by omega,(lY hi).symm⟩)
 ·have hno2:¬ (m=1900004∨m=1900003∨aw (aM s) m=true):=fun h=>by
   rw[jD.2 h] at hno;cases hno
  rcases jD.1 hm with h | h | h
  ·exact absurd (.inl h) hno2
  ·exact absurd (.inr (.inl h)) hno2
  ·have h57:m=57:=by
    rcases (dL (gH ar)).1 h with h5 | ⟨i,hi,e⟩
    ·exact absurd (.inr (.inr ((dL (dD _)).2 (.inl h5)))) hno2
    ·by_cases hi2:i=s.all.length
     ·subst hi2;simpa[fQ] using e
     ·exact absurd (.inr (.inr ((dL (dD _)).2 (.inr ⟨i,by omega,by rw[e,lY (by omega)]⟩)))) hno2
   subst h57;refine ⟨?_,by decide⟩
   show aj (pK s x) 57=none
   simp only[pK,aj,Nat.reduceEqDiff,if_false];exact eF (.inl (by omega)) fun i _=>by simp[bF];omega
theorem HV{s:aG}(hk:cD s)(hlen:s.all.length≤100000)(x:aU):∀ r os',l5 s x r os'→∃ osF,r.flat=true∧r.bh (bH lp)=r∧(∀ m z,aj osF m=some z→aj (dn lp os'++pK s x) m=some z∧z.only (aw osF)=true∧z.eh=true)∧Dz s x r osF:=by
 rintro r os' ⟨rfl,rfl⟩;obtain ⟨J,U,ah,ar⟩:=rS hk x;refine ⟨gC s.all.length (ee s x).1,rfl,rfl,fun m z hz=>⟨?_,lB (gH ar) J.cB hz⟩,rfl,rfl⟩;have hm:=tW ar (n:=m) (by simp[aw,hz]);simp only[dJ,xw,Fe J ar hlen,zz5,aj,ml];rw[if_neg (by simp only[Nat.reduceEqDiff,if_false,if_true];omega),if_neg (by simp only[if_true];omega),fE,hz]
theorem XL(f:Nat):(f+1000000<1000000)=False:=by simp
theorem Ce{s:aG}(hk:cD s)(hlen:s.all.length≤100000)(x:aU)(b:Bool):gn [] (aM s) (dJ x b (aM s)):=by
 refine ⟨fun m y hy=>⟨?_,iu hk hy⟩,fun m m' _ _ h=>h⟩;have hm:=lz (s:=s) (n:=m) (by simp[aw,hy]);rw[aq.kr (ρ:=bH []) (fun n=>rfl)]
 show aj (dJ x b (aM s)) m=some y
 simp only[dJ,aj];rw[if_neg (by omega),if_neg (by omega)];exact hy
theorem aad{s s':aG}(hk':cD s')(ah:s.all.length≤s'.all.length)(ar:s'.all.length≤s.all.length+1)(x:aU):fW false [] (aM s) (dJ x false (aM s)) (.tuple []) (gC s.all.length s'):=by
 refine ⟨fun m y hy=>⟨(lB (gH ar) hk'.cB hy).1,(lB (gH ar) hk'.cB hy).2,fun h=>by cases h⟩,fun m m' _ _ h=>h,fun m hm =>?_,fun m hm hno =>?_,rfl,fun h=>by cases h⟩
 ·rcases (dL (dD _)).1 hm with h5 | ⟨i,hi,rfl⟩
  ·exact (dL (gH ar)).2 (.inl h5)
  ·exact (dL (gH ar)).2 (.inr ⟨i,by omega,(lY hi).symm⟩)
 ·have h57:m=57:=by
   rcases (dL (gH ar)).1 hm with h5 | ⟨i,hi,e⟩
   ·rw[(dL (dD _)).2 (.inl h5)] at hno;cases hno
   ·by_cases hi2:i=s.all.length
    ·subst hi2;simpa[fQ] using e
    ·rw[(dL (dD _)).2 (.inr ⟨i,by omega,by rw[e,lY (by omega)]⟩)] at hno;cases hno
  subst h57;refine ⟨?_,by decide⟩
  show aj (dJ x false (aM s)) 57=none
  simp only[dJ,aj,Nat.reduceEqDiff,if_false];exact eF (.inl (by omega)) fun i _=>by simp[bF];omega
theorem bO.wL{ab:List FuncId}{K:ai→Prop}{f:FuncId}{s s':aG}{x:aU}{avs:List I}{a1 a2:Option (List I)}{dst:Option Nat}{rest:List aI}{ts:List (Nat×I)}(hk:cD s)(hlen:s.all.length≤100000)(hk':cD s')(ah:s.all.length≤s'.all.length)(ar:s'.all.length≤s.all.length+1)
  (hf:ab.contains f=true) (hc:cP Tryz.prog f [.ptr 1000000 [],enc x] (aM s) (tG s.all.length s')) (hav:avs=[.ptr 1000000 [],enc x])
  (h:bO Tryz.prog dv ab K (aB rest ((au ts (gC s.all.length s'++dJ x false (aM s))).aS dst (.tuple [])))):bO Tryz.prog dv ab K (.call f avs a1 a2 dst rest (au ts (dJ x false (aM s)))):=by
 subst hav;refine .wY false [] (aM s) [.ptr 1000000 [],enc x] _ hf hc (Ce hk hlen x false) sy ?_ ?_
 ·rintro r os' ⟨rfl,rfl⟩;exact aad hk' ah ar x
 ·rintro r os' ⟨rfl,rfl⟩;rw[ma];exact h
theorem Y2{Q:Exit→ai→Prop}{f:FuncId}{s:aG}{x:aU}(hk:cD s)(hlen:s.all.length≤100000)(hc:fe Tryz.prog f fx [.ptr 1000000 [],enc x] (aM s) (jY s)){ts:List (Nat×I)}(hq:Q (.panic fx) (au ts (aM s++dJ x false (aM s)))):nu Tryz.prog Q f [.ptr 1000000 [],enc x] (au ts (dJ x false (aM s))) :=
 .mk false [] (aM s) [.ptr 1000000 [],enc x] fx _ hc (Ce hk hlen x false) sy (fun os' h=>by cases h;exact uS hk rfl) (fun os' h=>by cases h;rw[ma];exact hq)
theorem HU{ts:List (Nat×I)}{s:aG}{x:aU}(hlen:s.all.length≤100000):au ts (aM s++dJ x false (aM s))=au ts (dJ x false (aM s)):=by
 simp only[au,ai.mk.injEq,true_and]
 funext n
 rw[fE];cases h:aj (aM s) n with
 |none=>rfl
 |some y =>
  have:=lz (s:=s) (n:=n) (by simp[aw,h]);simp only[dJ,aj];rw[if_neg (by omega),if_neg (by omega),h]
theorem E9{s:aG}{x:aU}(hk:cD s)(hlen:s.all.length≤100000)(hn:ee s x=(s,false)){ts:List (Nat×I)}(ht:Abs.bZ ts 4=.ptr 1900004 []):rB [.cell 4 none] (l5 s x) fx 1900004 (.panic fx) (au ts (dJ x false (aM s))):=by
 refine ⟨rfl,⟨false,rfl⟩,dJ x false (aM s),[.bool false],fun m z hz=>⟨?_,rp (fun _ _ h=>iu hk h) hz⟩,⟨⟨.bool false,?_,.inl ⟨rfl,rfl,rfl⟩⟩,trivial⟩,?_⟩
 ·show aj ((1900004,.box (.bool false))::dJ x false (aM s)) m=some z
  simp only[aj];split
  ·rename_i h;subst h;exact hz
  ·exact hz
 ·show (match cK _ (Abs.bZ ts 4) with | some x=>if b8 none x=true then some x else none | none=>none)=some (I.bool false)
  rw[ht];rfl
 ·show l5 s x (.bool false) (dJ x false (aM s))
  simp only[l5];rw[hn];exact ⟨rfl,congrArg _ (tX hk (zz4 _)).symm⟩
theorem ZG{s:aG}(hk:cD s)(hlen:s.all.length≤100000)(x:aU)(W:World)(D:aP)(E:a8)(n:Nat)(d:Deferred) :
  ae ⟨Tryz.prog,W,D,n,cI E,E,dv,none,some [d]⟩ xC (rB [.cell 4 none] (l5 s x) fx 1900004) (au [(0,.ptr 1000000 []),(3,.ptr 1900003 []),(4,.ptr 1900004 [])] (dJ x false (aM s))):=by
 have aY:aj (dJ x false (aM s)) 1000000=some (.box (.agg [.int .i64 s.az,.mref 1000001,.mref 1000002,.int .i64 s.all.length,.mref 1000003,.mref 1000004])):=by
  simp only[dJ,aj,Nat.reduceEqDiff,if_false];exact fu
 have ar:aj (dJ x false (aM s)) 1000004=some (.bt gK (ju 1000000)):=by
  simp only[dJ,aj,Nat.reduceEqDiff,if_false];exact oC
 have hb3:aj (dJ x false (aM s)) 1900003=some (.box (enc x)):=rfl;have hb4:aj (dJ x false (aM s)) 1900004=some (.box (.bool false)):=rfl;have hF:=GR x;simp only[xC];rcases hx:hd x
 ·rw[hx] at hF;have hn:ee s x=(s,false):=by simp[ee,gj,hx]
  have R:=y6 @aY (y6 @ar (y6 @hb3 (y6 @hb4 (y6 @bz (y6 @bu aC)))))
  repeat' ((first |(with_reducible refine .guard (fun hb =>?_) (fun hb =>?_) <;>try simp only[hb])|(refine ae.oe (gs:=BO) (gs1:=[_,_]) rfl fun K hK =>?_)|refine ae.aE (by decide +kernel) rfl fun K hK =>?_|refine .flat _ (hF) rfl ?_|(refine .av [0,1,3,4] hK ?_;clear hK K)|(with_reducible refine .done (hK _ ?_);clear hK K)|refine ae.of rfl ?_|(with_reducible refine ay.aD (fun h =>?_) (fun h =>?_) <;>try simp only[h])) <;>try simp only[aF,R,simprocAttr])
  all_goals clear R
  exact .call (il (E9 hk hlen hn rfl))
 rw[hx] at hF;obtain ⟨f,hlk,hfc,hdo⟩:=wL hk hlen hx;have hfl:=sO f;have hlm:=XL f;have hkd:(enc x:I).dH=some [.int .i64 x.kind,.int .i64 x.aH,.int .i64 x.other,.int .i64 x.no]:=rfl;simp only[kD] at hdo;cases hn:eJ s x with
 |none =>
  rw[hn] at hdo;have hn2:ee s x=(s,false):=by simp[ee,gj,hx,hn]
  have R:=y6 @aY (y6 @ar (y6 @hb3 (y6 @hb4 (y6 @hlk (y6 @hfl (y6 @hlm (y6 @bz (y6 @bu aC))))))))
  repeat' ((first |(with_reducible refine .guard (fun hb =>?_) (fun hb =>?_) <;>try simp only[hb])|(refine ae.jE (gs:=qC) 8 [] [] [0,1,2,3,4,5,6,7] (by decide +kernel) rfl (cW.of (by simp[fo])) fun K hK =>?_;simp only[e8,qC,gz,zz5,zx6,List.take_zero,zy6,zy7,R,simprocAttr])|refine ae.aE (by decide +kernel) rfl fun K hK =>?_|refine .flat _ (hF) rfl ?_|refine .flat _ (kE) rfl ?_|(refine .av [0,1,3,4] hK ?_;clear hK K)|(with_reducible refine .done (hK _ ?_);clear hK K)|refine ae.of rfl ?_|(with_reducible refine ay.aD (fun h =>?_) (fun h =>?_) <;>try simp only[h])) <;>try simp only[aF,R,simprocAttr])
  all_goals clear R
  refine .fA (f:=f+1000000) (caps:=[.ptr 1000000 []]) rfl ?_;rw[sO,vF];exact Y2 hk hlen hdo (by rw[HU hlen];exact E9 hk hlen hn2 rfl)
 |some s' =>
  rw[hn] at hdo;have hn2:ee s x=(s',true):=by simp[ee,gj,hx,hn]
  have hso:=rS hk x;rw[hn2] at hso;simp only at hso;obtain ⟨k1,k2,k3,k4⟩:=hso;have e4:∀ n,n=1900004∨n=1900003→aj (gC s.all.length s') n=none:=fun n hn=>by
   rcases hn with rfl | rfl <;>exact eF (.inr (by omega)) fun i hi=>by simp only[fQ];split <;>omega
  have hb4':aj (gC s.all.length s'++dJ x false (aM s)) 1900004=some (.box (.bool false)):=by
   rw[fE,e4 _ (.inl rfl)];exact hb4
  have hst:∀ A rest,dk A none 1900004 [] (.bool false) (.bool true) rest (some (.bool false))=aB rest (A.aT 1900004 (.box (.bool true))):=fun A rest=>dK rfl rfl rfl;have R:=y6 @aY (y6 @ar (y6 @hb3 (y6 @hb4 (y6 @hb4' (y6 @hst (y6 @hlk (y6 @hfl (y6 @hlm (y6 @bz (y6 @bu aC))))))))))
  repeat' ((first |(with_reducible refine .guard (fun hb =>?_) (fun hb =>?_) <;>try simp only[hb])|(refine ae.rC (gs:=qC) [125,126,127,128,129,130,131,132] [] [0,1,2,3,4,5,6,7,8] (by decide +kernel) (cW.of (by simp[fo])) fun K hK =>?_;simp only[e8,qC,zy6,zy7,R,simprocAttr])|refine ae.aE (by decide +kernel) rfl fun K hK =>?_|refine .flat _ (hF) rfl ?_|refine .flat _ (kE) rfl ?_|refine bO.wL hk hlen k1 k3 k4 hfc hdo rfl ?_|(refine .av [0,1,3,4] hK ?_;clear hK K)|(with_reducible refine .done (hK _ ?_);clear hK K)|refine ae.of rfl ?_|(with_reducible refine ay.aD (fun h =>?_) (fun h =>?_) <;>try simp only[h])) <;>try simp only[aF,R,simprocAttr])
  all_goals clear R
  refine ⟨⟨true,rfl⟩,dJ x true (gC s.all.length s'),[.bool true],fun m z hz=>⟨?_,rp (fun _ _ h=>lB (gH k4) k1.cB h) hz⟩,⟨⟨.bool true,rfl,.inl ⟨rfl,rfl,rfl⟩⟩,trivial⟩,?_⟩
  ·show aj ((1900004,.box (.bool true))::(gC s.all.length s'++dJ x false (aM s))) m=some z
   simp only[dJ,aj] at hz ⊢;split
   ·rename_i h;rw[if_pos h] at hz;exact hz
   rename_i h;rw[if_neg h] at hz;rw[fE];split at hz
   ·rename_i U;rw[U,e4 _ (.inr rfl),←U];simp only[aj,if_neg h];exact hz
   ·rw[hz]
  ·show l5 s x (.bool true) (dJ x true (gC s.all.length s'))
   simp only[l5];rw[hn2];exact ⟨rfl,rfl⟩
theorem G8(s:aG)(hk:cD s)(hlen:s.all.length≤100000)(x:aU):cP Tryz.prog 81 [.ptr 1000000 [],enc x] (aM s) (Dz s x):=by
 refine cP.YO Tryz.func81 Jr MF LR (u8 rfl) (u8 rfl) dx Zs Zr (by decide) fun hwf W0 bG E1 =>?_;simp only[bI,zz1];clear hwf;have n3:aj (aM s) 3=none:=eF (.inl (by omega)) fun i _=>by simp[bF];omega
 have n4:aj (aM s) 4=none:=eF (.inl (by omega)) fun i _=>by simp[bF];omega
 refine .j0 (by decide +kernel) fun K hK =>?_
 try simp only[BN,n3,n4,aC,bq,simprocAttr]
 refine .done (hK _ ?_);simp only[dY];refine ⟨_,_,lp,dJ x false (aM s),[0,3,4],[.ptr 1000000 [],.ptr 1900003 [],.ptr 1900004 []],1900004,false,l5 s x,rfl,?_⟩;exact {
  fB:=rfl
  Cd:=Xa hk hlen x
  arg:=⟨.inl ⟨rfl,jD.2 (.inr (.inr ((dL (dD _)).2 (.inl (by omega))))),rfl⟩,.inl ⟨rfl,jD.2 (.inr (.inl rfl)),rfl⟩,.inl ⟨rfl,jD.2 (.inl rfl),rfl⟩,trivial⟩
  yO:=HW hk hlen x
  FJ:=rfl
  box:=rfl
  lQ:=fun m hm=>by
   have:1000000≤m:=by
    rcases jD.1 hm with h | h | h
    ·omega
    ·omega
    ·exact (lz h).1
   exact ⟨zw9 (u8 rfl) this,this⟩
  rest:=fun W D E d=>ZG hk hlen x W D E _ d
  iw:=HV hk hlen x }
end Go.Proofs.YthbdbocionnfgaaGreatDoor
namespace Go.Abs
open Go Go.RowKit
theorem bw.fn{ts ts':List (Nat×I)}{os os':List (Nat×aq)}(J:cz ts ts')(U:∀ n,aj os' n=none∨aj os' n=aj os n)(ah:cJ (aw os') ts')(ar:∀ n x,aj os' n=some x→x.only (aw os')=true):bw (au ts os) (au ts' os'):=by
 rintro c a w ⟨D,E,ab⟩;have hp:∀ n,aw os' n=true→(if aw os' n then E n else none)=E n:=fun n hn=>by simp[hn]
 refine ⟨D,fun n=>if aw os' n then E n else none,ab.sz,ab.eB,fun t =>?_,ab.dM,ab.c4,ab.aR,fun n =>?_,fun n m e e' b J U ah ar =>?_,fun n e hn =>?_,ab.eN,ab.cU,ab.eU,ab.fw⟩
 ·have:=uf J t;rcases this with h | h
  ·simp only[au];rw[h];simp[bd]
  ·refine bd.c9 (p:=aw os') hp (w9 ah t) ?_;have:=ab.dP t;simp only[au] at *;rw[h];exact this
 ·have ho:=ab.bP n;simp only[au] at *;rcases U n with h | h
  ·rw[h];simp[cY,aw,h]
  ·rw[h];by_cases hin:aj os n=none
   ·rw[hin];simp[cY,aw,h,hin]
   ·have aA:(if aw os' n then E n else none)=E n:=hp n (by simp[aw,h];cases bM:aj os n <;>simp_all);cases hx:aj os n with
    |none=>exact absurd hx hin
    |some x =>
     have hon:=ar n x (h.trans hx);rw[hx] at ho;cases x with
     |box x =>
      obtain ⟨b,cs,T,k1,k2,k3,k4,k5⟩:=ho;exact ⟨b,cs,T,aA.trans k1,k2,k3,al.c9 hp _ _ (by simpa[aq.only] using hon) k4,k5⟩
     |bW T sz es =>
      obtain ⟨aK,k1,k2,k3⟩:=ho;refine ⟨aK,aA.trans k1,k2,?_⟩;cases aK with
      |none=>exact k3
      |some bc =>
       obtain ⟨b,cap⟩:=bc;obtain ⟨cs,pre,rest,q1,q2,q3,q4,q5⟩:=k3;exact ⟨cs,pre,rest,q1,q2,q3,aN.c9 hp _ _ (by simpa[aq.only] using hon) q4,q5⟩
     |dC T xs =>
      obtain ⟨aK,k1,k2,k3⟩:=ho;exact ⟨aK,aA.trans k1,k2,k3⟩
     |dF x =>
      obtain ⟨b,k1,k2⟩:=ho;exact ⟨b,aA.trans k1,k2⟩
     |bt ks vs =>
      obtain ⟨b,es,ck,k1,k2,k3,k4,k5,k6,k7⟩:=ho;simp only[aq.only,t8] at hon;exact ⟨b,es,ck,aA.trans k1,k2,k3,k4,aJ.c9 hp _ _ hon.1 k5,aJ.c9 hp _ _ hon.2 k6,k7⟩
     |it ks vs left cur =>
      obtain ⟨r,b,es,ck,si,se,la,k1,k2,k3,k4,k5,k6,k7⟩:=ho;simp only[aq.only,t8] at hon;exact ⟨r,b,es,ck,si,se,la,aA.trans k1,k2,k3,k4,aJ.c9 hp _ _ hon.1 k5,aJ.c9 hp _ _ hon.2 k6,k7⟩
 ·refine ab.cO n m e e' b ?_ ?_ ah ar
  ·split at J
   ·exact J
   ·cases J
  ·split at U
   ·exact U
   ·cases U
 ·by_cases hi:aw os' n=true
  ·simp only[hi,if_true];exact ab.dQ n e hn
  ·simp only[hi];exact .inl rfl
end Go.Abs
namespace Go.Proofs.YthbdbocionnfgaaGreatDoor
open Go Go.Abs
open Go.Abs.Enc (enc)
theorem C0:(∀ v:I,v.bS=true→fq (.i .i64) (.int .i64 1) v [] []=some ([.int .i64 1],[v]))∧(∀ a1 v:I,v.bS=true→fq (.i .i64) (.int .i64 2) v [.int .i64 1] [a1]=some ([.int .i64 1,.int .i64 2],[a1,v]))∧(∀ a1 a2 v:I,v.bS=true→fq (.i .i64) (.int .i64 3) v [.int .i64 1,.int .i64 2] [a1,a2]=some ([.int .i64 1,.int .i64 2,.int .i64 3],[a1,a2,v]))∧(∀ a1 a2 a3 v:I,v.bS=true→fq (.i .i64) (.int .i64 4) v [.int .i64 1,.int .i64 2,.int .i64 3] [a1,a2,a3]=some ([.int .i64 1,.int .i64 2,.int .i64 3,.int .i64 4],[a1,a2,a3,v]))∧(∀ a1 a2 a3 a4 v:I,v.bS=true→fq (.i .i64) (.int .i64 5) v [.int .i64 1,.int .i64 2,.int .i64 3,.int .i64 4] [a1,a2,a3,a4]=some ([.int .i64 1,.int .i64 2,.int .i64 3,.int .i64 4,.int .i64 5],[a1,a2,a3,a4,v]))∧(∀ a1 a2 a3 a4 a5 v:I,v.bS=true→fq (.i .i64) (.int .i64 6) v [.int .i64 1,.int .i64 2,.int .i64 3,.int .i64 4,.int .i64 5] [a1,a2,a3,a4,a5]=some ([.int .i64 1,.int .i64 2,.int .i64 3,.int .i64 4,.int .i64 5,.int .i64 6],[a1,a2,a3,a4,a5,v]))∧(∀ a1 a2 a3 a4 a5 a6 v:I,v.bS=true→fq (.i .i64) (.int .i64 7) v [.int .i64 1,.int .i64 2,.int .i64 3,.int .i64 4,.int .i64 5,.int .i64 6] [a1,a2,a3,a4,a5,a6]=some ([.int .i64 1,.int .i64 2,.int .i64 3,.int .i64 4,.int .i64 5,.int .i64 6,.int .i64 7],[a1,a2,a3,a4,a5,a6,v]))∧(∀ a1 a2 a3 a4 a5 a6 a7 v:I,v.bS=true→fq (.i .i64) (.int .i64 8) v [.int .i64 1,.int .i64 2,.int .i64 3,.int .i64 4,.int .i64 5,.int .i64 6,.int .i64 7] [a1,a2,a3,a4,a5,a6,a7]=some ([.int .i64 1,.int .i64 2,.int .i64 3,.int .i64 4,.int .i64 5,.int .i64 6,.int .i64 7,.int .i64 8],[a1,a2,a3,a4,a5,a6,a7,v])) :=
 ⟨fun  v h=>by simp[fq,eD,b7,I.bS];try exact h,fun a1 v h=>by simp[fq,eD,b7,I.bS];try exact h,fun a1 a2 v h=>by simp[fq,eD,b7,I.bS];try exact h,fun a1 a2 a3 v h=>by simp[fq,eD,b7,I.bS];try exact h,fun a1 a2 a3 a4 v h=>by simp[fq,eD,b7,I.bS];try exact h,fun a1 a2 a3 a4 a5 v h=>by simp[fq,eD,b7,I.bS];try exact h,fun a1 a2 a3 a4 a5 a6 v h=>by simp[fq,eD,b7,I.bS];try exact h,fun a1 a2 a3 a4 a5 a6 a7 v h=>by simp[fq,eD,b7,I.bS];try exact h⟩
theorem bU:(∀ f c,(I.func f c).bS=true)∧(∀ n,(I.mref n).bS=true)∧(∀ n p,(I.ptr n p).bS=true):=⟨fun _ _=>rfl,fun _=>rfl,fun _ _=>rfl⟩
def nV(az:Int):List (Nat×aq):=[(9,.box (.agg [.int .i64 az,.mref 5,.mref 6,.int .i64 0,.mref 7,.mref 11])),(5,.bt [] []),(6,.bt [] []),(7,.bt [] []),(11,.bt gK (ju 9))]
def eP(az:Int):aG:=⟨az,[],[],[],[]⟩
def Y8(az:Int):cC:=fun r os'=>r=.ptr 9 []∧os'=nV az
theorem Gc(az:Int):cP Tryz.prog 106 [enc az] [] (Y8 az):=by
 refine cP.b5 Tryz.func106 IB JG KS (u8 rfl) (u8 rfl) (fun m hm=>by simp[aw,aj] at hm) (fun hwf W0 bG E1 =>?_);simp only[y5,DK,bI];clear hwf;have hbld:(dO [.int .i64 0,.raw (.map none),.raw (.map none),.int .i64 0,.raw (.map none),.raw (.map none)] [(0,.int .i64 az),(1,.mref 5),(2,.mref 6),(4,.mref 7)]).map I.agg=some (.agg [.int .i64 az,.mref 5,.mref 6,.int .i64 0,.mref 7,.raw (.map none)]):=by simp[dO,I.bS,I.size]
 have hst:∀ A rest,dk A none 9 [5] (.agg [.int .i64 az,.mref 5,.mref 6,.int .i64 0,.mref 7,.raw (.map none)]) (.mref 11) rest (some (.raw (.map none)))=aB rest (A.aT 9 (.box (.agg [.int .i64 az,.mref 5,.mref 6,.int .i64 0,.mref 7,.mref 11]))):=fun A rest=>dK rfl rfl rfl;have hval:∀ a b c d e f:I,(I.agg [a,b,c,d,e,f]).bS=true:=fun _ _ _ _ _ _=>rfl;have hoff:∀ v,db [.int .i64 az,.mref 5,.mref 6,.int .i64 0,.mref 7,.raw (.map none)] 5 5 v=some v:=fun _=>rfl;have hall:([I.ptr 9 []].all fun y=>y.bS)=true:=rfl;have R:=y6 @hall (y6 @hbld (y6 @hst (y6 @hval (y6 @hoff (y6 @C0 (y6 @bU (y6 @bz (y6 @bu aC))))))))
 repeat' ((first |refine ae.aE (by decide +kernel) rfl fun K hK =>?_|(refine .av [0,2,3] hK ?_;clear hK K)|(with_reducible refine .done (hK _ ?_);clear hK K)|refine ae.of rfl ?_|(with_reducible refine ay.aD (fun h =>?_) (fun h =>?_) <;>try simp only[h])) <;>try simp only[aF,R,simprocAttr])
 all_goals clear R
 refine ⟨nV az,[.ptr 9 []],fun n x hx =>?_,⟨⟨_,rfl,.inl ⟨rfl,rfl,rfl⟩⟩,trivial⟩,rfl,rfl⟩;simp only[nV,aj] at hx
 (repeat' split at hx) <;>first
  |(cases hx;done)
  |(rename_i h;subst h;cases hx;exact ⟨rfl,rfl,rfl⟩)
abbrev dq(s:aG):List (Nat×aq):=ed 2000 (bF 2000) s
def xD:List (Nat×Nat):=[(9,2000),(5,2001),(6,2002),(7,2003),(11,2004)]
theorem ZB(az:Int):dn xD (nV az)=dq (eP az):=rfl
theorem lf(az:Int):cD (eP az):=⟨fun i hi=>by simp[eP] at hi,by simp[eP],by simp[eP]⟩
theorem aQ.eP{K:ai→Prop}{az:Int}{avs:List I}{a1 a2:Option (List I)}{dst:Option Nat}{rest:List aI}{ts:List (Nat×I)}{os0:List (Nat×aq)}(hav:avs=[enc az])(hno:∀ m,2000≤m→m<1000000→aj os0 m=none)
  (h:aQ Tryz.prog dv false K (aB rest ((au ts (dq (Go.Proofs.YthbdbocionnfgaaGreatDoor.eP az)++os0)).aS dst (.ptr 2000 [])))):aQ Tryz.prog dv false K (.call 106 avs a1 a2 dst rest (au ts os0)):=by
 subst hav;have key:∀ m,aw (nV az) m=true→m=9∨m=5∨m=6∨m=7∨m=11:=fun m hm=>by
  simp only[aw,nV,aj] at hm
  (repeat' split at hm) <;>first | omega | (simp at hm;done)
 refine .bP false xD [] [enc az] _ rfl (Gc az) ⟨fun m x hx=>by simp[aj] at hx,fun m m' hm=>by simp[aw,aj] at hm⟩ ⟨.inl ⟨(kS _ _).symm,cA _ _,eg _⟩,trivial⟩ ?_ ?_
 ·rintro r os' ⟨rfl,rfl⟩;refine ⟨fun m y hy =>?_,fun m m' hm hm' e =>?_,fun m hm=>by simp[aw,aj] at hm,fun m hm _ =>?_,rfl,fun h=>by cases h⟩
  ·simp only[nV,aj] at hy
   (repeat' split at hy) <;>first
    |(cases hy;done)
    |(rename_i h;subst h;cases hy;exact ⟨rfl,rfl,fun h=>by cases h⟩)
  ·rcases key m hm with rfl | rfl | rfl | rfl | rfl <;>rcases key m' hm' with rfl | rfl | rfl | rfl | rfl <;>first | rfl | (simp[xD,bH] at e;done)
  ·rcases key m hm with rfl | rfl | rfl | rfl | rfl <;>exact ⟨hno _ (by decide) (by decide),by decide⟩
 ·rintro r os' ⟨rfl,rfl⟩;rw[ZB];exact h
def pQ(k:Nat):List (Nat×Nat):=(57,2005+k)::(List.range' 0 400).map fun j=>(1000000+j,2000+j)
theorem Fq(m:Nat):∀ k a,bH ((List.range' a k).map fun j=>(1000000+j,2000+j)) m=if 1000000+a≤m∧m<1000000+a+k then m-998000 else m
 |0,a=>by
  rw[if_neg (by omega)];rfl
 |k+1,a=>by
  rw[List.range'_succ,zz3,bH,Fq m k (a+1)];by_cases h:m=1000000+a
  ·rw[if_pos h,if_pos (by omega)];omega
  ·rw[if_neg h];by_cases U:1000000+(a+1)≤m∧m<1000000+(a+1)+k
   ·rw[if_pos U,if_pos (by omega)]
   ·rw[if_neg U,if_neg (by omega)]
theorem j2(k m:Nat):bH (pQ k) m=if m=57 then 2005+k else if 1000000≤m∧m<1000400 then m-998000 else m:=by
 simp only[pQ,bH,Fq,Nat.add_zero,Nat.reduceAdd]
theorem iE(k:Nat):gv 2000 (bF 2000) k:=gv.bF _ _
theorem lA{s:aG}(hk:cD s){n:Nat}{x:aq}(h:aj (dq s) n=some x):x.only (aw (dq s))=true∧x.eh=true:=lB (iE _) hk.cB h
theorem xW{s:aG}{n:Nat}(hn:aw (dq s) n=true):2000≤n∧n<2005+s.all.length:=by
 rcases (dL (iE _)).1 hn with U | ⟨i,hi,rfl⟩
 ·omega
 ·simp only[bF];omega
theorem Fc{s:aG}(hk:cD s){k:Nat}(h:s.all.length≤k+1)(hlen:k≤300):dn (pQ k) (gC k s)=dq s :=
 Fh hk.cB (fun j hj=>by rw[j2,if_neg (by omega),if_pos (by omega)];omega) fun i hi=>by
  simp only[fQ,bF];split
  ·rename_i e;rw[j2,if_pos rfl];omega
  ·rw[j2,if_neg (by omega),if_pos (by omega)];omega
theorem Zy{s:aG}(hk:cD s){k:Nat}(h:s.all.length≤k)(hlen:k≤300):dn (pQ k) (aM s)=dq s:=by
 rw[←tX hk h];exact Fc hk (by omega) hlen
theorem aQ.rW{K:ai→Prop}{s s2:aG}{b:Bool}{x:aU}{avs:List I}{a1 a2:Option (List I)}{dst:Option Nat}{rest:List aI}{ts:List (Nat×I)}{ow:List (Nat×aq)}(hk:cD s)(hlen:s.all.length≤300)(hav:avs=[.ptr 2000 [],enc x])(how:∀ m,2000≤m→aj ow m=none)(hst:ee s x=(s2,b))
  (h:aQ Tryz.prog dv false K (aB rest ((au ts (dq s2++(ow++dq s))).aS dst (.bool b)))):aQ Tryz.prog dv false K (.call 81 avs a1 a2 dst rest (au ts (ow++dq s))):=by
 subst hav;obtain ⟨J,U,ah,ar⟩:=rS hk x;refine .bP false (pQ s.all.length) (aM s) [.ptr 1000000 [],enc x] _ rfl (G8 s hk (by omega) x) ⟨fun m y hy=>⟨?_,iu hk hy⟩,fun m m' hm hm' e =>?_⟩ ⟨.inl ⟨?_,(dL (dD _)).2 (.inl (by omega)),rfl⟩,.inl ⟨(kS _ _).symm,cA _ _,eg _⟩,trivial⟩ ?_ ?_
 ·have hm:=lz (s:=s) (n:=m) (by simp[aw,hy]);have:=CL (ρ:=pQ s.all.length) (os:=aM s) (m:=m) (fun m' hm' he=>by
   have:=lz hm';rw[j2,j2] at he
   (repeat' split at he) <;>omega) hy
  rw[Zy hk (zz4 _) hlen] at this;rw[fE,how]
  ·exact this
  ·rw[j2,if_neg (by omega),if_pos (by omega)];omega
 ·have k1:=lz hm;have k2:=lz hm';rw[j2,j2] at e
  (repeat' split at e) <;>omega
 ·simp only[I.bh,j2];rfl
 ·rintro r os' ⟨rfl,rfl⟩;refine ⟨fun m y hy=>⟨(lB (gH ar) J.cB hy).1,(lB (gH ar) J.cB hy).2,fun h=>by cases h⟩,fun m m' hm hm' e =>?_,fun m hm =>?_,fun m hm hno =>?_,rfl,fun h=>by cases h⟩
  ·have k1:=tW ar hm;have k2:=tW ar hm';have e1:∀ m,m=57∨(1000000≤m∧m<1000005+s.all.length)→True:=fun _ _=>trivial;have key:∀ m,aw (gC s.all.length (ee s x).1) m=true→m=57∨(1000000≤m∧m<1000005+s.all.length):=fun m hm=>by
    rcases (dL (gH ar)).1 hm with h5 | ⟨i,hi,rfl⟩
    ·omega
    ·simp only[fQ];split <;>omega
   have k1:=key m hm;have k2:=key m' hm';rw[j2,j2] at e
   (repeat' split at e) <;>omega
  ·rcases (dL (dD _)).1 hm with h5 | ⟨i,hi,rfl⟩
   ·exact (dL (gH ar)).2 (.inl h5)
   ·exact (dL (gH ar)).2 (.inr ⟨i,by omega,(lY hi).symm⟩)
  ·have h57:m=57:=by
    rcases (dL (gH ar)).1 hm with h5 | ⟨i,hi,e⟩
    ·rw[(dL (dD _)).2 (.inl h5)] at hno;cases hno
    ·by_cases hi2:i=s.all.length
     ·subst hi2;simpa[fQ] using e
     ·rw[(dL (dD _)).2 (.inr ⟨i,by omega,by rw[e,lY (by omega)]⟩)] at hno;cases hno
   subst h57;rw[j2,if_pos rfl];refine ⟨?_,by omega⟩;rw[fE,how _ (by omega)];exact eF (.inr (by omega)) fun i hi=>by simp only[bF];omega
 ·rintro r os' ⟨rfl,rfl⟩;rw[Fc J ar hlen,hst];exact h
def fG:aG→List aU→Option aG
 |s,[]=>some s
 |s,x::l=>match gj s x with
  |some s'=>fG s' l
  |none=>none
theorem pS:∀ (l:List aU) (s:aG) (l2:List aU),fG s (l++l2)=(fG s l).bind fun s'=>fG s' l2
 | [],s,l2=>rfl
 |x::l,s,l2=>by
  simp only[zz5,fG];cases gj s x with
  |none=>rfl
  |some s'=>exact pS l s' l2
theorem x2{s s':aG}{x:aU}(hk:cD s)(h:gj s x=some s'):cD s'∧s'.az=s.az∧s'.all.length≤s.all.length+1:=by
 simp only[gj] at h;split at h
 ·obtain ⟨J,U,ah,_⟩:=hk.next h
  exact ⟨J,U,ah⟩
 ·cases h
theorem mY:∀ {l:List aU} {s s':aG},cD s→fG s l=some s'→cD s'∧s'.az=s.az∧s'.all.length≤s.all.length+l.length
 | [],s,s',hk,h=>by cases h;exact ⟨hk,rfl,zz4 _⟩
 |x::l,s,s',hk,h=>by
  simp only[fG] at h;cases hx:gj s x with
  |none=>rw[hx] at h;cases h
  |some s2 =>
   rw[hx] at h;obtain ⟨J,U,ah⟩:=x2 hk hx;obtain ⟨k1,k2,k3⟩:=mY J h;exact ⟨k1,k2.trans U,by simp only[zw1];omega⟩
def fF(az:Int)(l:List aU):Option aG:=fG (eP az) l
def ru(az:Int)(l:List aU):cC:=fun r os'=>match fF az l with
 |some s=>r=.tuple [.ptr 2000 [],.bool true]∧os'=dq s
 |none=>r=.tuple [.nilp,.bool false]∧os'=[]
def sj(l:List aU)(t:Nat×aG):ai:=au [(6,.ptr 2000 []),(11,enc l),(12,.int .i64 l.length),(13,.int .i64 t.1)] (dq t.2)
theorem GO(az:Int)(l:List aU)(ao:l.length≤200):cP Tryz.prog 62 [enc az,enc l] [] (ru az l):=by
 refine cP.b5 Tryz.func62 Au AN AV (u8 rfl) (u8 rfl) (fun m hm=>by simp[aw,aj] at hm) (fun hwf W0 bG E1 =>?_);simp only[vb,xp,bI,zz1];clear hwf;have R:=y6 @bU (y6 @bz (y6 @bu aC))
 repeat' ((first |refine ae.aE (by decide +kernel) rfl fun K hK =>?_|refine aQ.eP rfl (fun _ _ _=>rfl) ?_|(refine .av [0,1,4,5,6,8,11,12,13,14,20] hK ?_;clear hK K)|(with_reducible refine .done (hK _ ?_);clear hK K)|refine ae.of rfl ?_|(with_reducible refine ay.aD (fun h =>?_) (fun h =>?_) <;>try simp only[h])) <;>try simp only[aF,R,simprocAttr])
 all_goals clear R
 refine ae.loop (sj l) (fun t=>t.1≤l.length∧fG (eP az) (l.take t.1)=some t.2) (fun t=>l.length-t.1) (0,eP az) ⟨zw2 _,rfl⟩ ?_ ?_
 ·rw[zv2];refine bw.fn ?_ (fun n=>.inr rfl) ?_ (fun n x h=>(lA (lf az) h).1)
  ·simp[cz,cu]
  ·have:=(dL (iE (eP az).all.length) (n:=2000)).2 (.inl (by omega));simp[cJ,I.only,cA,this]
 rintro ⟨i,s⟩ ⟨hi,hrun⟩;simp only at hi hrun;obtain ⟨hk,hme,hln⟩:=mY (lf az) hrun;have hln2:s.all.length≤i:=by simpa[eP,hi] using hln
 have n8:aj (dq s) 8=none:=eF (.inl (by omega)) fun i _=>by simp[bF];omega
 simp only[sj];by_cases hlt:i<l.length
 ·have hc:=ga hlt;have he:=fun A=>eM (A:=A) 4 hlt rfl;have hw:=fJ (i:=i) (by omega);have hst:∀ A rest,dk A (some 4) 8 [] (.agg [.int .i64 0,.int .i64 0,.int .i64 0,.int .i64 0]) (enc l[i]) rest (some (.agg [.int .i64 0,.int .i64 0,.int .i64 0,.int .i64 0]))=aB rest (A.aT 8 (.box (enc l[i]))):=fun A rest=>dK (eg _) (by rw[e7];rfl) (eC _);have how:∀ (a b:aq) m,2000≤m→aj [(8,a),(8,b)] m=none:=fun a b m hm=>by simp only[aj];rw[if_neg (by omega),if_neg (by omega)]
  have hsp:l=l.take i++l[i]::l.drop (i+1):=by simp
  cases hn:gj s l[i] with
  |none =>
   have ab:ee s l[i]=(s,false):=by simp[ee,hn]
   have R:=y6 @hc (y6 @he (y6 @hst (y6 @n8 (y6 @bU (y6 @bz (y6 @bu aC))))))
   repeat' ((first |refine ae.aE (by decide +kernel) rfl fun K hK =>?_|refine aQ.rW (ow:=[(8,_),(8,_)]) hk (by omega) rfl (how _ _) ab ?_|(refine .av [0,1,4,5,6,8,11,12,13,14,20] hK ?_;clear hK K)|(with_reducible refine .done (hK _ ?_);clear hK K)|refine ae.of rfl ?_|(with_reducible refine ay.aD (fun h =>?_) (fun h =>?_) <;>try simp only[h])) <;>try simp only[aF,R,simprocAttr])
   all_goals clear R
   have hno:fF az l=none:=by
    rw[fF,hsp,pS,hrun];simp only[Option.bind_some,fG,hn]
   refine ⟨[],[.nilp,.bool false],fun n x hx=>by simp[aj] at hx,⟨⟨_,rfl,.inl ⟨rfl,rfl,rfl⟩⟩,⟨_,rfl,.inl ⟨rfl,rfl,rfl⟩⟩,trivial⟩,?_⟩;unfold ru;rw[hno];exact ⟨rfl,rfl⟩
  |some s2 =>
   have ab:ee s l[i]=(s2,true):=by simp[ee,hn]
   have R:=y6 @hc (y6 @he (y6 @hst (y6 @hw (y6 @n8 (y6 @bU (y6 @bz (y6 @bu aC)))))))
   repeat' ((first |refine ae.aE (by decide +kernel) rfl fun K hK =>?_|refine aQ.rW (ow:=[(8,_),(8,_)]) hk (by omega) rfl (how _ _) ab ?_|(refine .av [0,1,4,5,6,8,11,12,13,14,20] hK ?_;clear hK K)|(with_reducible refine .done (hK _ ?_);clear hK K)|refine ae.of rfl ?_|(with_reducible refine ay.aD (fun h =>?_) (fun h =>?_) <;>try simp only[h])) <;>try simp only[aF,R,simprocAttr])
   all_goals clear R
   obtain ⟨hk2,hme2,hln3⟩:=x2 hk hn;refine ⟨(i+1,s2),⟨by simp only;omega,?_⟩,by simp only;omega,?_⟩
   ·rw[zy0 hlt,pS,hrun];simp only[Option.bind_some,fG,hn]
   ·refine bw.fn ?_ (fun n =>?_) ?_ (fun n x h=>(lA hk2 h).1)
    ·simp[cz,cu]
    ·simp only[fE];cases aj (dq s2) n with
     |none=>exact .inl rfl
     |some y=>exact .inr rfl
    ·have:=(dL (iE s2.all.length) (n:=2000)).2 (.inl (by omega));simp[cJ,I.only,cA,this]
 ·have hge:i=l.length:=by omega
  have hc:=gp hlt;subst hge;rw[zv0] at hrun;have R:=y6 @hc (y6 @bU (y6 @bz (y6 @bu aC)))
  repeat' ((first |refine ae.aE (by decide +kernel) rfl fun K hK =>?_|(refine .av [0,1,4,5,6,8,11,12,13,14,20] hK ?_;clear hK K)|(with_reducible refine .done (hK _ ?_);clear hK K)|refine ae.of rfl ?_|(with_reducible refine ay.aD (fun h =>?_) (fun h =>?_) <;>try simp only[h])) <;>try simp only[aF,R,simprocAttr])
  all_goals clear R
  refine ⟨dq s,[.ptr 2000 [],.bool true],fun n x hx=>⟨hx,lA hk hx⟩,⟨⟨_,rfl,.inl ⟨rfl,rfl,?_⟩⟩,⟨_,rfl,.inl ⟨rfl,rfl,rfl⟩⟩,trivial⟩,?_⟩
  ·exact (dL (iE s.all.length) (n:=2000)).2 (.inl (by omega))
  ·unfold ru fF;rw[hrun];exact ⟨rfl,rfl⟩
end Go.Proofs.YthbdbocionnfgaaGreatDoor
namespace Go.Proofs.YthbdbocionnfgaaGreatDoor
open Go Go.Abs Go.ChangeShapes Go.WideShapes Go.RowKit
open Go.Abs.Enc (enc)
theorem Tryz.own:ownKnob Tryz.prog.godebug=none:=by kernel_rfl
theorem Tryz.Xu:laidOutB Tryz.prog=true:=by kernel_rfl
theorem lZ:iZ Tryz.prog 3 Int:=YY (by kernel_rfl) (by kernel_rfl)
theorem X8:iZ Tryz.prog 37 aU:=⟨by kernel_rfl,by decide,fun h=>by
 obtain ⟨vs,hv,hr⟩:=Y0 [(3,0),(3,1),(3,2),(3,3)]
  [(1,fun v=>∃ a:Int,v=enc a),(1,fun v=>∃ a:Int,v=enc a),(1,fun v=>∃ a:Int,v=enc a),(1,fun v=>∃ a:Int,v=enc a)]
  (by kernel_rfl) (by simp only[rm];exact ⟨trivial,lZ.aW,trivial,lZ.aW,trivial,lZ.aW,trivial,lZ.aW,trivial⟩) (by kernel_rfl) h
 obtain ⟨v0,vs0,e0,aY,hv0⟩:=su hv;obtain ⟨a0,f0⟩:∃ a:Int,v0=enc a:=aY;obtain ⟨v1,vs1,e1,J,hv1⟩:=su hv0;obtain ⟨a1,f1⟩:∃ a:Int,v1=enc a:=J;obtain ⟨v2,vs2,e2,U,hv2⟩:=su hv1;obtain ⟨a2,f2⟩:∃ a:Int,v2=enc a:=U;obtain ⟨v3,vs3,e3,ah,hv3⟩:=su hv2;obtain ⟨a3,f3⟩:∃ a:Int,v3=enc a:=ah;have e4:=Hv hv3;rw[e0,e1,e2,e3,e4,f0,f1,f2,f3] at hr;exact ⟨⟨a0,a1,a2,a3⟩,hr⟩⟩
theorem X9:iZ Tryz.prog 22 (List aU):=YZ (by kernel_rfl) X8 (by kernel_rfl)
theorem Ya:iZ Tryz.prog 24 bA:=⟨by kernel_rfl,by decide,fun h=>by
 obtain ⟨a,b,c,hab⟩:=Dj (α:=Int) (β:=List aU) (γ:=Int) (u0:=3) (u1:=22) (u2:=3) (by kernel_rfl) lZ X9 lZ (by kernel_rfl) h;exact ⟨⟨a,b,c⟩,hab⟩⟩
def pq : List (String × DataW Unit) := [("math/bits.deBruijn32tab", Rows.laid_math_bits_deBruijn32tab), ("math/bits.deBruijn64tab", Rows.laid_math_bits_deBruijn64tab), ("internal/strconv.uint64pow10", Rows.laid_internal_strconv_uint64pow10)]
def Gb:List Int:=[1,10,100,1000,10000,100000,1000000,10000000,100000000,1000000000,10000000000,100000000000,1000000000000,10000000000000,100000000000000,1000000000000000,10000000000000000,100000000000000000,1000000000000000000,10000000000000000000]
theorem Wd : Tryz.prog.globalNamed "internal/strconv.uint64pow10" = some 3 := by kernel_rfl
theorem aap:(Tryz.prog.globals[3]?).map (·.type)=some 209:=by kernel_rfl
theorem YP{W:World}(h:laidMetH Tryz.prog pq W):gM Tryz.prog W (fun _=>False):=by
 rw[MakeChecks.laidMetH_plain _ _ _ (by kernel_rfl)] at h;obtain ⟨g', t', cs, fuel, p, hg', ht', hvar, af⟩ := Lib.laidMet.reads h (n := "internal/strconv.uint64pow10") (d := Rows.laid_internal_strconv_uint64pow10) (by simp [pq])
 obtain rfl:=Option.some.inj (Wd.symm.trans hg');obtain rfl:=Option.some.inj (aap.symm.trans ht');have hd':DataW.trod (fun _=>()) Tryz.prog W 0 (fun _=>true) false fuel 209 cs.toList=some (Lib.tabData .u64 Gb,p):=af;have hc:=Lib.cells_of_tab (n:=20) (e:=171) (Xf (by kernel_rfl)) (by kernel_rfl) (by kernel_rfl) (by kernel_rfl) hd';intro g hg;refine ⟨id,?_⟩
 show W.var? Tryz.prog "internal/strconv.uint64pow10" = _
 rw[hvar];have:cs=(Gb.map fun z=>Value.int .u64 z).toArray:=by rw[←hc]
 rw[this];rfl
end Go.Proofs.YthbdbocionnfgaaGreatDoor
namespace Go.Proofs.YthbdbocionnfgaaGreatDoor
open Go Go.Abs
open Go.Abs.Enc (enc)
theorem aQ.E6{K:ai→Prop}{az:Int}{l:List aU}{avs:List I}{a1 a2:Option (List I)}{dst:Option Nat}{rest:List aI}{ts:List (Nat×I)}{os0:List (Nat×aq)}(ao:l.length≤200)(hav:avs=[enc az,enc l])(hno:∀ m,2000≤m→m<1000000→aj os0 m=none)
  (J:fF az l=none→aQ Tryz.prog dv false K (aB rest ((au ts os0).aS dst (.tuple [.nilp,.bool false]))))
  (U:∀ s,fF az l=some s→aQ Tryz.prog dv false K (aB rest ((au ts (dq s++os0)).aS dst (.tuple [.ptr 2000 [],.bool true])))):aQ Tryz.prog dv false K (.call 62 avs a1 a2 dst rest (au ts os0)):=by
 subst hav;refine .bP false [] [] [enc az,enc l] _ rfl (GO az l ao) ⟨fun m x hx=>by simp[aj] at hx,fun m m' hm=>by simp[aw,aj] at hm⟩ ⟨.inl ⟨(kS _ _).symm,cA _ _,eg _⟩,.inl ⟨(kS _ _).symm,cA _ _,eg _⟩,trivial⟩ ?_ ?_
 ·intro r os' hp;unfold ru at hp;cases hr:fF az l with
  |none =>
   rw[hr] at hp;obtain ⟨rfl,rfl⟩:=hp;exact ⟨fun m y hy=>by simp[aj] at hy,fun m m' hm=>by simp[aw,aj] at hm,fun m hm=>hm,fun m hm=>by simp[aw,aj] at hm,rfl,fun h=>by cases h⟩
  |some s =>
   rw[hr] at hp;obtain ⟨rfl,rfl⟩:=hp;obtain ⟨hk,hme,hln⟩:=mY (lf az) hr;have hln2:s.all.length≤200:=by have:(Go.Proofs.YthbdbocionnfgaaGreatDoor.eP az).all.length=0:=rfl;omega
   refine ⟨fun m y hy=>⟨(lA hk hy).1,(lA hk hy).2,fun h=>by cases h⟩,fun m m' _ _ h=>h,fun m hm=>by simp[aw,aj] at hm,fun m hm _ =>?_,?_,fun h=>by cases h⟩
   ·have:=xW hm;exact ⟨hno m (by omega) (by omega),by simp only[bH];omega⟩
   ·have:=(dL (iE s.all.length) (n:=2000)).2 (.inl (by omega));simp[I.only,I.cv,this]
 ·intro r os' hp;unfold ru at hp;cases hr:fF az l with
  |none =>
   rw[hr] at hp;obtain ⟨rfl,rfl⟩:=hp;exact J hr
  |some s =>
   rw[hr] at hp;obtain ⟨rfl,rfl⟩:=hp;rw[ma];exact U s hr
theorem aQ.E7{K:ai→Prop}{az:Int}{l:List aU}{avs:List I}{a1 a2:Option (List I)}{dst:Option Nat}{rest:List aI}{ts:List (Nat×I)}{os0:List (Nat×aq)}(ao:l.length≤200)(hr:fF az l=none)(hav:avs=[enc az,enc l])(hno:∀ m,2000≤m→m<1000000→aj os0 m=none)
  (J:aQ Tryz.prog dv false K (aB rest ((au ts os0).aS dst (.tuple [.nilp,.bool false])))):aQ Tryz.prog dv false K (.call 62 avs a1 a2 dst rest (au ts os0)) :=
 aQ.E6 ao hav hno (fun _=>J) fun s h=>by rw[hr] at h;cases h
theorem aQ.E8{K:ai→Prop}{az:Int}{l:List aU}{s:aG}{avs:List I}{a1 a2:Option (List I)}{dst:Option Nat}{rest:List aI}{ts:List (Nat×I)}{os0:List (Nat×aq)}(ao:l.length≤200)(hr:fF az l=some s)(hav:avs=[enc az,enc l])(hno:∀ m,2000≤m→m<1000000→aj os0 m=none)
  (J:aQ Tryz.prog dv false K (aB rest ((au ts (dq s++os0)).aS dst (.tuple [.ptr 2000 [],.bool true])))):aQ Tryz.prog dv false K (.call 62 avs a1 a2 dst rest (au ts os0)) :=
 aQ.E6 ao hav hno (fun h=>by rw[hr] at h;cases h) fun s' h=>by rw[hr] at h;cases h;exact J
theorem tt(k:Nat)(hk:k<2000)(z:aq):∀ m,2000≤m→m<1000000→aj [(k,z)] m=none:=fun m h _=>by simp only[aj];rw[if_neg (by omega)]
theorem bm:(∀ aL A,bj aL A .nilp=some .nilp)∧(∀ aL A (x:I),x.bx=true→bj aL A (.ref x)=some (.ref x)):=⟨fun _ _=>by simp only[bj],fun _ _ x h=>by simp only[bj,h,if_true]⟩
def iL(p:bA):Bool:=cT 0 5 p.az&&(decide (p.j.length≤200)&&cT 0 p.j.length p.eI)
def c7(p:bA):Option aG:=if iL p then fF p.az p.j else none
def iO(o:Option aG):I:=match o with
 |some s=>.tuple [dB s,.int .i64 0]
 |none=>.tuple [.nilp,.int .i64 91]
def mT(p:bA):cC:=fun r os'=>match c7 p with
 |some s=>r=.tuple [.ptr 2000 [],.int .i64 0]∧os'=dq s
 |none=>r=.tuple [.nilp,.int .i64 91]∧os'=[]
theorem iN{p:bA}{s:aG}(h:c7 p=some s):cD s∧s.az=p.az∧s.all.length≤p.j.length∧p.j.length≤200∧iL p=true∧fF p.az p.j=some s:=by
 simp only[c7] at h;split at h
 ·rename_i bM;obtain ⟨hk,hme,hln⟩:=mY (lf p.az) h;refine ⟨hk,hme,by simpa[eP] using hln,?_,bM,h⟩;simp only[iL,t8,decide_eq_true_eq] at bM;exact bM.2.1
 ·cases h
theorem Nx{s:aG}(hk:cD s)(z:aq):∀ ts,cX (au ts (dq s++[(1,z)])) 9 (.agg [.int .i64 s.az,.mref 2001,.mref 2002,.int .i64 s.all.length,.mref 2003,.mref 2004])=some (fT s):=fun ts =>
 gR (gT (iE _) hk.cB fun n hn=>by
  rw[fE];cases h:aj (dq s) n with
  |none=>simp[aw,h] at hn
  |some y=>rfl) 4
theorem wS:∀ a b c d e:I,(I.agg [a,.mref 2001,b,c,d,e]).bx=false:=fun a b c d e=>by simp[I.bx,I.ca]
theorem CG(s:aG)(z:aq):aj (dq s++[(1,z)]) 2000=some (.box (.agg [.int .i64 s.az,.mref 2001,.mref 2002,.int .i64 s.all.length,.mref 2003,.mref 2004])):=by
 rw[fE,fu];rfl
theorem CH(s:aG)(z:aq):aj (dq s++[(1,z)]) 1=some z:=by
 rw[fE,eF (.inl (by omega)) fun i _=>by simp only[bF];omega];rfl
theorem Dw{p:bA}(h:I.gl [enc p]):p.j.length≤maxLen :=
 ((mA p.j).1 (by have:=h.1;simp only[enc,I.wf,I.gl] at this;exact this.2.1)).1
theorem np(p:bA):aZ Tryz.prog 69 [enc p] (iO (c7 p)):=by
 refine aZ.b5 Tryz.func69 Av AO AW (u8 rfl) (fun hwf W0 bG E1 =>?_);simp only[vc,xq,bI];have hlen:=Dw hwf;clear hwf;have hg:decide ((p.j.length:Int)>200) = !decide (p.j.length≤200):=by by_cases h:p.j.length≤200 <;>simp[h] <;>omega
 have hF1:=lF p.az;have hF2:=oH p.eI 0 p.j.length;rcases q1:cT 0 5 p.az <;>rcases q2:decide (p.j.length≤200) <;>rcases q3:cT 0 p.j.length p.eI
 case true.true.true =>
  have hok:iL p=true:=by simp[iL,q1,q2,q3]
  have ao:p.j.length≤200:=of_decide_eq_true q2;have hop:c7 p=fF p.az p.j:=by simp[c7,hok]
  rw[q1] at hF1;rw[q3] at hF2;rw[q2] at hg;rw[hop];cases hr:fF p.az p.j with
  |none =>
   have R:=y6 @hg (y6 @bm (y6 @er (y6 @bU (y6 @bz (y6 @bu aC)))))
   repeat' ((first |(with_reducible refine .guard (fun hb =>?_) (fun hb =>?_) <;>try simp only[hb])|refine ae.aE (by decide +kernel) rfl fun K hK =>?_|refine .flat _ (hF1) rfl ?_|refine .flat _ (hF2) rfl ?_|refine aQ.E7 ao hr rfl (tt 1 (by decide) _) ?_|(refine .av [0,1,2,3,4,5,24,34] hK ?_;clear hK K)|(with_reducible refine .done (hK _ ?_);clear hK K)|refine ae.of rfl ?_|(with_reducible refine ay.aD (fun h =>?_) (fun h =>?_) <;>try simp only[h])) <;>try simp only[aF,R,simprocAttr])
   all_goals clear R
   rfl
  |some s =>
   have hfin:=Nx (mY (lf p.az) hr).1 (.box (enc p));have hla:=CG s (.box (enc p));have hlb:=CH s (.box (enc p));have R:=y6 @hg (y6 @hfin (y6 @hla (y6 @hlb (y6 @wS (y6 @bm (y6 @er (y6 @bU (y6 @bz (y6 @bu aC)))))))))
   repeat' ((first |(with_reducible refine .guard (fun hb =>?_) (fun hb =>?_) <;>try simp only[hb])|refine ae.aE (by decide +kernel) rfl fun K hK =>?_|refine .flat _ (hF1) rfl ?_|refine .flat _ (hF2) rfl ?_|refine aQ.E8 ao hr rfl (tt 1 (by decide) _) ?_|(refine .av [0,1,2,3,4,5,24,34] hK ?_;clear hK K)|(with_reducible refine .done (hK _ ?_);clear hK K)|refine ae.of rfl ?_|(with_reducible refine ay.aD (fun h =>?_) (fun h =>?_) <;>try simp only[h])) <;>try simp only[aF,R,simprocAttr])
   all_goals clear R
   rfl
 all_goals
  have hop:c7 p=none:=by simp[c7,iL,q1,q2,q3]
  rw[q1] at hF1;rw[q3] at hF2;rw[q2] at hg;rw[hop];have R:=y6 @hg (y6 @bm (y6 @er (y6 @bU (y6 @bz (y6 @bu aC)))))
  repeat' ((first |(with_reducible refine .guard (fun hb =>?_) (fun hb =>?_) <;>try simp only[hb])|refine ae.aE (by decide +kernel) rfl fun K hK =>?_|refine .flat _ (hF1) rfl ?_|refine .flat _ (hF2) rfl ?_|(refine .av [0,1,2,3,4,5,24,34] hK ?_;clear hK K)|(with_reducible refine .done (hK _ ?_);clear hK K)|refine ae.of rfl ?_|(with_reducible refine ay.aD (fun h =>?_) (fun h =>?_) <;>try simp only[h])) <;>try simp only[aF,R,simprocAttr])
  all_goals clear R
  rfl
theorem ym(p:bA):cP Tryz.prog 69 [enc p] [] (mT p):=by
 refine cP.b5 Tryz.func69 Av AO AW (u8 rfl) (u8 rfl) (fun m hm=>by simp[aw,aj] at hm) (fun hwf W0 bG E1 =>?_);simp only[vc,xq,bI];have hlen:=Dw hwf;clear hwf;have hg:decide ((p.j.length:Int)>200) = !decide (p.j.length≤200):=by by_cases h:p.j.length≤200 <;>simp[h] <;>omega
 have hF1:=lF p.az;have hF2:=oH p.eI 0 p.j.length;have fail:∀ ts os,c7 p=none→Abs.bZ ts 2=.nilp→Abs.bZ ts 3=.int .i64 91→ja [.tmp 2,.tmp 3] (mT p) (au ts os):=fun ts os hop U ah=>by
  refine ⟨[],[.nilp,.int .i64 91],fun n x hx=>by simp[aj] at hx,⟨⟨.nilp,congrArg some U,.inl ⟨rfl,rfl,rfl⟩⟩,⟨.int .i64 91,congrArg some ah,.inl ⟨rfl,rfl,rfl⟩⟩,trivial⟩,?_⟩;unfold mT;rw[hop];exact ⟨rfl,rfl⟩
 rcases q1:cT 0 5 p.az <;>rcases q2:decide (p.j.length≤200) <;>rcases q3:cT 0 p.j.length p.eI
 case true.true.true =>
  have hok:iL p=true:=by simp[iL,q1,q2,q3]
  have ao:p.j.length≤200:=of_decide_eq_true q2;have hop:c7 p=fF p.az p.j:=by simp[c7,hok]
  rw[q1] at hF1;rw[q3] at hF2;rw[q2] at hg;cases hr:fF p.az p.j with
  |none =>
   rw[hr] at hop;have R:=y6 @hg (y6 @bm (y6 @er (y6 @bU (y6 @bz (y6 @bu aC)))))
   repeat' ((first |(with_reducible refine .guard (fun hb =>?_) (fun hb =>?_) <;>try simp only[hb])|refine ae.aE (by decide +kernel) rfl fun K hK =>?_|refine .flat _ (hF1) rfl ?_|refine .flat _ (hF2) rfl ?_|refine aQ.E7 ao hr rfl (tt 1 (by decide) _) ?_|(refine .av [0,1,2,3,4,5,24,34] hK ?_;clear hK K)|(with_reducible refine .done (hK _ ?_);clear hK K)|refine ae.of rfl ?_|(with_reducible refine ay.aD (fun h =>?_) (fun h =>?_) <;>try simp only[h])) <;>try simp only[aF,R,simprocAttr])
   all_goals clear R
   exact fail _ _ hop rfl rfl
  |some s =>
   have hk:=(mY (lf p.az) hr).1;rw[hr] at hop;have hla:=CG s (.box (enc p));have hlb:=CH s (.box (enc p));have R:=y6 @hg (y6 @hla (y6 @hlb (y6 @wS (y6 @bm (y6 @er (y6 @bU (y6 @bz (y6 @bu aC))))))))
   repeat' ((first |(with_reducible refine .guard (fun hb =>?_) (fun hb =>?_) <;>try simp only[hb])|refine ae.aE (by decide +kernel) rfl fun K hK =>?_|refine .flat _ (hF1) rfl ?_|refine .flat _ (hF2) rfl ?_|refine aQ.E8 ao hr rfl (tt 1 (by decide) _) ?_|(refine .av [0,1,2,3,4,5,24,34] hK ?_;clear hK K)|(with_reducible refine .done (hK _ ?_);clear hK K)|refine ae.of rfl ?_|(with_reducible refine ay.aD (fun h =>?_) (fun h =>?_) <;>try simp only[h])) <;>try simp only[aF,R,simprocAttr])
   all_goals clear R
   refine ⟨dq s,[.ptr 2000 [],.int .i64 0],fun n x hx=>⟨?_,lA hk hx⟩,⟨⟨_,rfl,.inl ⟨rfl,rfl,?_⟩⟩,⟨_,rfl,.inl ⟨rfl,rfl,rfl⟩⟩,trivial⟩,?_⟩
   ·show aj (dq s++_) n=some x
    rw[fE,hx]
   ·exact (dL (iE s.all.length) (n:=2000)).2 (.inl (by omega))
   ·unfold mT;rw[hop];exact ⟨rfl,rfl⟩
 all_goals
  have hop:c7 p=none:=by simp[c7,iL,q1,q2,q3]
  rw[q1] at hF1;rw[q3] at hF2;rw[q2] at hg;have R:=y6 @hg (y6 @bm (y6 @er (y6 @bU (y6 @bz (y6 @bu aC)))))
  repeat' ((first |(with_reducible refine .guard (fun hb =>?_) (fun hb =>?_) <;>try simp only[hb])|refine ae.aE (by decide +kernel) rfl fun K hK =>?_|refine .flat _ (hF1) rfl ?_|refine .flat _ (hF2) rfl ?_|(refine .av [0,1,2,3,4,5,24,34] hK ?_;clear hK K)|(with_reducible refine .done (hK _ ?_);clear hK K)|refine ae.of rfl ?_|(with_reducible refine ay.aD (fun h =>?_) (fun h =>?_) <;>try simp only[h])) <;>try simp only[aF,R,simprocAttr])
  all_goals clear R
  exact fail _ _ hop rfl rfl
def nB(p:bA):Int:=match c7 p with
 |some _=>0
 |none=>91
theorem sa(p:bA):aZ Tryz.prog 23 [enc p] (enc (nB p)):=by
 refine aZ.b5 Tryz.func23 IS JW Lh (u8 rfl) (fun hwf W0 bG E1 =>?_);simp only[zm,Ed,bI];have hF:=np p;simp only[nB];cases ho:c7 p with
 |none =>
  rw[ho] at hF;simp only[iO] at hF;have R:=y6 @bm (y6 @er (y6 @bU (y6 @bz (y6 @bu aC))))
  repeat' ((first |refine ae.aE (by decide +kernel) rfl fun K hK =>?_|refine .lead _ (hF) ?_|(refine .av [0,1,2,4] hK ?_;clear hK K)|(with_reducible refine .done (hK _ ?_);clear hK K)|refine ae.of rfl ?_|(with_reducible refine ay.aD (fun h =>?_) (fun h =>?_) <;>try simp only[h])) <;>try simp only[aF,R,simprocAttr])
  all_goals clear R
  all_goals rfl
 |some s =>
  rw[ho] at hF;simp only[iO] at hF;have R:=y6 @eb (y6 @bm (y6 @er (y6 @bU (y6 @bz (y6 @bu aC)))))
  repeat' ((first |refine ae.aE (by decide +kernel) rfl fun K hK =>?_|refine .lead _ (hF) ?_|(refine .av [0,1,2,4] hK ?_;clear hK K)|(with_reducible refine .done (hK _ ?_);clear hK K)|refine ae.of rfl ?_|(with_reducible refine ay.aD (fun h =>?_) (fun h =>?_) <;>try simp only[h])) <;>try simp only[aF,R,simprocAttr])
  all_goals clear R
  all_goals rfl
def fh:aU:=⟨0,0,0,0⟩
theorem oW:I.agg [.int .i64 0,.int .i64 0,.int .i64 0,.int .i64 0]=enc fh:=rfl
instance:sf aU:=⟨fun _=>rfl⟩
def oq(k:Nat)(l:List aU)(m:Nat):List (Nat×aq):=[(k,.box (.agg ((l++List.replicate m fh).map enc)))]
def qj(l:List aU)(v:I)(os':List (Nat×aq)):Prop:=(l=[]∧(v=.nils 4∨v=.c0 4)∧os'=[])∨(l≠[]∧∃ m,v=.view 7 [] 4 0 l.length∧os'=oq 7 l m)
def Y6(l:List aU):cC:=fun r os'=>qj l r os'
theorem GM(l:List aU)(ao:l.length≤1000):cP Tryz.prog 59 [enc l] [] (Y6 l):=by
 refine cP.b5 Tryz.func59 As AM AU (u8 rfl) (u8 rfl) (fun m hm=>by simp[aw,aj] at hm) (fun hwf W0 bG E1 =>?_);simp only[u9,xn,bI];refine .fI (by decide +kernel) fun K hK =>?_;simp only[vY,bq,simprocAttr];refine .done (hK _ ?_);clear hK K;refine ae.seq (ae.seq ?_);by_cases hn:l=[]
 ·subst hn;refine .j0 (by decide +kernel) fun K hK =>?_;simp only[qA,bq,simprocAttr];simp only[uh,List.isEmpty_nil,pD];refine .any rfl fun b _ =>?_
  try simp only[bq,simprocAttr]
  generalize (b==0)=t;cases t
  ·refine .done (hK _ ?_);clear hK K;try simp only[dY]
   refine ae.iG ?_;simp only[ay,bq,simprocAttr];refine ⟨fun h =>?_,fun h =>?_⟩
   ·cases h
   refine ae.skip ?_;try simp only[dY,simprocAttr]
   refine .fI (by decide +kernel) fun K hK =>?_;simp only[qB,bq,simprocAttr]
   try simp only[hl,oW,bq,simprocAttr]
   refine .done (hK _ ?_);clear hK K;refine ae.ret ?_;simp only[mg];exact ⟨[],[.c0 4],Cg,⟨⟨.c0 4,rfl,.inl ⟨rfl,rfl,rfl⟩⟩,trivial⟩,.inl ⟨rfl,.inr rfl,rfl⟩⟩
  ·refine .done (hK _ ?_);clear hK K;refine ae.iG ?_;simp only[ay,bq,simprocAttr];refine ⟨fun h =>?_,fun h =>?_⟩
   ·refine .fI (by decide +kernel) fun K hK =>?_;simp only[vZ,bq,simprocAttr];refine .done (hK _ ?_);clear hK K;refine ae.ret ?_;simp only[dY,mg];exact ⟨[],[.nils 4],Cg,⟨⟨.nils 4,rfl,.inl ⟨rfl,rfl,rfl⟩⟩,trivial⟩,.inl ⟨rfl,.inl rfl,rfl⟩⟩
   ·cases h
 ·have hu:jL (enc l)=false:=by rw[uh];simpa using hn
  refine .j0 (by decide +kernel) fun K hK =>?_;simp only[qA,bq,simprocAttr]
  try simp only[hu,C2 _ l hn,bq,simprocAttr]
  refine .done (hK _ ?_);clear hK K;try simp only[dY]
  refine ae.iG ?_;simp only[ay,bq,simprocAttr];refine ⟨fun h =>?_,fun h =>?_⟩
  ·cases h
  refine ae.skip ?_;try simp only[dY,simprocAttr]
  refine .fI (by decide +kernel) fun K hK =>?_;simp only[qB,bq,simprocAttr]
  try simp only[hl,oW,bq,simprocAttr]
  refine aQ.uN fh rfl hn rfl (by omega) (by simp only[maxLen];omega) fun m =>?_
  try simp only[bq,simprocAttr]
  refine .done (hK _ ?_);clear hK K;refine ae.ret ?_;simp only[mg];exact ⟨oq 7 l m,[.view 7 [] 4 0 l.length],wh rfl (fun p=>by simp only[I.only];exact fR p _),⟨⟨_,rfl,.inl ⟨rfl,rfl,rfl⟩⟩,trivial⟩,.inr ⟨hn,m,rfl,rfl⟩⟩
theorem oU{l:List aU}{v:I}{os':List (Nat×aq)}(h:qj l v os'):(∀ n x,aj os' n=some x→x.only (aw os')=true∧x.eh=true)∧v.only (aw os')=true∧(∀ m,aw os' m=true→m=7)∧v.bS=true∧b8 none v=true∧v.aX=.one∧v.size=1∧v.isAgg=false:=by
 rcases h with ⟨rfl,rfl | rfl,rfl⟩ | ⟨hn,m,rfl,rfl⟩
 ·exact ⟨fun n x hx=>by simp[aj] at hx,rfl,fun m hm=>by simp[aw,aj] at hm,rfl,rfl,rfl,rfl,rfl⟩
 ·exact ⟨fun n x hx=>by simp[aj] at hx,rfl,fun m hm=>by simp[aw,aj] at hm,rfl,rfl,rfl,rfl,rfl⟩
 ·refine ⟨fun n x hx =>?_,rfl,fun m hm =>?_,rfl,rfl,rfl,rfl,rfl⟩
  ·simp only[oq,aj] at hx;split at hx
   ·cases hx;exact ⟨by simp only[aq.only,I.only];exact fR _ _,rfl⟩
   ·cases hx
  ·simp only[aw,oq,aj] at hm;split at hm
   ·assumption
   ·simp at hm
theorem FX{ts:List (Nat×I)}{os0 os':List (Nat×aq)}(hno:aj os0 7=none)(h:∀ m,aw os' m=true→m=7):au ts (os'++os0)=au ts (os0++os'):=by
 simp only[au,ai.mk.injEq,true_and]
 funext n
 rw[fE,fE];cases J:aj os' n with
 |none=>simp only;cases aj os0 n <;>rfl
 |some y =>
  have:=h n (by simp[aw,J]);subst this;rw[hno]
theorem aQ.AQ{K:ai→Prop}{l:List aU}{avs:List I}{a1 a2:Option (List I)}{dst:Option Nat}{rest:List aI}{ts:List (Nat×I)}{os0:List (Nat×aq)}(ao:l.length≤1000)(hav:a1=some [enc l])(hf:bY false (au ts os0) avs=some [enc l])(hno:aj os0 7=none)
  (h:∀ v os',qj l v os'→aQ Tryz.prog dv false K (aB rest ((au ts (os0++os')).aS dst v))):aQ Tryz.prog dv false K (.call 59 avs a1 a2 dst rest (au ts os0)):=by
 have harg:gO false (au ts os0) [] [] avs [enc l]:=by
  match avs,hf with
  | [],hf=>simp[bY] at hf
  | [x],hf =>
   refine ⟨.inr ?_,trivial⟩;simp only[bY] at hf;split at hf
   ·rename_i y ys J U;cases U;cases hf;exact J
   ·cases hf
  |x::y::r,hf =>
   simp only[bY] at hf;split at hf
   ·rename_i J U;split at U <;>cases U;cases hf
   ·cases hf
 refine .bP false [] [] [enc l] _ rfl (GM l ao) ⟨fun m x hx=>by simp[aj] at hx,fun m m' hm=>by simp[aw,aj] at hm⟩ (by simpa[ig,A4] using harg) ?_ ?_
 ·intro r os' hp;obtain ⟨J,U,ah,_⟩:=oU hp;exact ⟨fun m y hy=>⟨(J m y hy).1,(J m y hy).2,fun h=>by cases h⟩,fun m m' _ _ h=>h,fun m hm=>by simp[aw,aj] at hm,fun m hm _=>by rw[ah m hm];exact ⟨hno,by decide⟩,U,fun h=>by cases h⟩
 ·intro r os' hp;rw[ma,kr (ρ:=bH []) (fun _=>rfl),FX hno (oU hp).2.2.1];exact h r os' hp
def e6(p:bA)(v:I):I:=.agg [.int .i64 p.az,v,.int .i64 p.eI]
def Y7(p:bA):cC:=fun r os'=>∃ v,r=e6 p v∧qj p.j v os'
theorem kP:(∀ p v,(e6 p v).dH=some [.int .i64 p.az,v,.int .i64 p.eI])∧(∀ p v,(e6 p v).bS=true)∧(∀ (a c:Int) v w,db [.int .i64 a,v,.int .i64 c] 1 1 w=some w)∧(∀ (a c:Int) v w,db [.int .i64 a,v,.int .i64 c] 0 0 w=some w) :=
 ⟨fun _ _=>rfl,fun _ _=>rfl,fun _ _ _ _=>iK (by simp) rfl,fun _ _ _ _=>iK (by simp) rfl⟩
theorem GL(p:bA)(ao:p.j.length≤1000):cP Tryz.prog 57 [enc p] [] (Y7 p):=by
 refine cP.b5 Tryz.func57 Ar AL AT (u8 rfl) (u8 rfl) (fun m hm=>by simp[aw,aj] at hm) (fun hwf W0 bG E1 =>?_);simp only[u7,xm,bI];clear hwf;have hfe:∀ A,bY false A [enc p.j]=some [enc p.j]:=fun A=>by simp only[bY,kR]
 have R:=y6 @er (y6 @bU (y6 @bz (y6 @bu aC)))
 repeat' ((first |refine ae.aE (by decide +kernel) rfl fun K hK =>?_|refine aQ.AQ ao rfl (hfe _) rfl (fun v os' hc =>?_)|(refine .av [0,1,2] hK ?_;clear hK K)|(with_reducible refine .done (hK _ ?_);clear hK K)|refine ae.of rfl ?_|(with_reducible refine ay.aD (fun h =>?_) (fun h =>?_) <;>try simp only[h])) <;>try simp only[aF,R,zz5,simprocAttr])
 all_goals clear R
 obtain ⟨g1,g2,g3,g4,g5,g6,g7,g8⟩:=oU hc;have hst:∀ A rest,dk A none 1 [1] (enc p) v rest (some (enc p.j))=aB rest (A.aT 1 (.box (e6 p v))):=fun A rest=>dK g4 g5 (g6.trans rfl);have hok:b8 (some 3) (e6 p v)=true:=by simp[b8,e6,I.isAgg,I.size,I.sizes,g7]
 have hsh:(e6 p v).aX=.eE [.one,.one,.one]:=by simp[e6,I.aX,I.cQ,g6]
 have hst2:∀ A rest,dk A (some 3) 2 [] (.agg [.int .i64 0,.nils 4,.int .i64 0]) (e6 p v) rest (some (.agg [.int .i64 0,.nils 4,.int .i64 0]))=aB rest (A.aT 2 (.box (e6 p v))):=fun A rest=>dK rfl hok hsh
 try simp only[hst,bq,simprocAttr]
 have R:=y6 @hst (y6 @hok (y6 @hst2 (y6 @kP (y6 @er (y6 @bU (y6 @bz (y6 @bu aC)))))))
 repeat' ((first |refine ae.aE (by decide +kernel) rfl fun K hK =>?_|(refine .av [0,1,2] hK ?_;clear hK K)|(with_reducible refine .done (hK _ ?_);clear hK K)|refine ae.of rfl ?_|(with_reducible refine ay.aD (fun h =>?_) (fun h =>?_) <;>try simp only[h])) <;>try simp only[aF,R,simprocAttr])
 all_goals clear R
 refine ⟨os',[e6 p v],fun n x hx=>⟨?_,g1 n x hx⟩,⟨⟨e6 p v,?_,.inl ⟨rfl,rfl,?_⟩⟩,trivial⟩,v,rfl,hc⟩
 ·have:=g3 n (by simp[aw,hx]);subst this;simp only[au,aj,Nat.reduceEqDiff,if_false];exact hx
 ·simp[ry,cK,au,Abs.bZ,aj,I.at,hok]
 ·simp[e6,I.only,I.cv,g2]
theorem GN(l:List aU)(ao:l.length≤1000):aZ Tryz.prog 59 [enc l] (enc l):=by
 refine aZ.b5 Tryz.func59 As AM AU (u8 rfl) (fun hwf W0 bG E1 =>?_);simp only[u9,xn,bI];refine .fI (by decide +kernel) fun K hK =>?_;simp only[vY,bq,simprocAttr];refine .done (hK _ ?_);clear hK K;refine ae.seq (ae.seq ?_);by_cases hn:l=[]
 ·subst hn;refine .j0 (by decide +kernel) fun K hK =>?_;simp only[qA,bq,simprocAttr];simp only[uh,List.isEmpty_nil,pD];refine .any rfl fun b _ =>?_
  try simp only[bq,simprocAttr]
  generalize (b==0)=t;cases t
  ·refine .done (hK _ ?_);clear hK K;try simp only[dY]
   refine ae.iG ?_;simp only[ay,bq,simprocAttr];refine ⟨fun h =>?_,fun h =>?_⟩
   ·cases h
   refine ae.skip ?_;try simp only[dY,simprocAttr]
   refine .fI (by decide +kernel) fun K hK =>?_;simp only[qB,bq,simprocAttr]
   try simp only[hl,oW,bq,simprocAttr]
   refine .done (hK _ ?_);clear hK K;refine ae.ret ?_;simp only[bq,simprocAttr];rfl
  ·refine .done (hK _ ?_);clear hK K;refine ae.iG ?_;simp only[ay,bq,simprocAttr];refine ⟨fun h =>?_,fun h =>?_⟩
   ·refine .fI (by decide +kernel) fun K hK =>?_;simp only[vZ,bq,simprocAttr];refine .done (hK _ ?_);clear hK K;refine ae.ret ?_;simp only[dY,bq,simprocAttr];rfl
   ·cases h
 ·have hu:jL (enc l)=false:=by rw[uh];simpa using hn
  refine .j0 (by decide +kernel) fun K hK =>?_;simp only[qA,bq,simprocAttr]
  try simp only[hu,C2 _ l hn,bq,simprocAttr]
  refine .done (hK _ ?_);clear hK K;try simp only[dY]
  refine ae.iG ?_;simp only[ay,bq,simprocAttr];refine ⟨fun h =>?_,fun h =>?_⟩
  ·cases h
  refine ae.skip ?_;try simp only[dY,simprocAttr]
  refine .fI (by decide +kernel) fun K hK =>?_;simp only[qB,bq,simprocAttr]
  try simp only[hl,oW,bq,simprocAttr]
  refine aQ.uN fh rfl hn rfl (by omega) (by simp only[maxLen];omega) fun m =>?_
  try simp only[bq,simprocAttr]
  refine .done (hK _ ?_);clear hK K;refine ae.ret ?_;simp only[bq,simprocAttr]
  try simp only[qu (α:=aU) (sz:=4) rfl,List.take_left,bq,simprocAttr]
theorem yj(p:bA)(ao:p.j.length≤1000):aZ Tryz.prog 57 [enc p] (enc p):=by
 refine aZ.b5 Tryz.func57 Ar AL AT (u8 rfl) (fun hwf W0 bG E1 =>?_);simp only[u7,xm,bI];clear hwf;have hst:∀ A rest,dk A none 1 [1] (enc p) (enc p.j) rest (some (enc p.j))=aB rest (A.aT 1 (.box (enc p))):=fun A rest=>dK (eg _) (by simp[kg,ke]) rfl;have hst2:∀ A rest,dk A (some 3) 2 [] (.agg [.int .i64 0,.nils 4,.int .i64 0]) (enc p) rest (some (.agg [.int .i64 0,.nils 4,.int .i64 0]))=aB rest (A.aT 2 (.box (enc p))):=fun A rest=>dK (eg _) (by rw[e7];rfl) (eC _);have R:=y6 @hst (y6 @hst2 (y6 @er (y6 @bU (y6 @bz (y6 @bu aC)))))
 repeat' ((first |refine ae.aE (by decide +kernel) rfl fun K hK =>?_|refine .lead _ (GN p.j ao) ?_|(refine .av [0,1,2] hK ?_;clear hK K)|(with_reducible refine .done (hK _ ?_);clear hK K)|refine ae.of rfl ?_|(with_reducible refine ay.aD (fun h =>?_) (fun h =>?_) <;>try simp only[h])) <;>try simp only[aF,R,simprocAttr])
 all_goals clear R
def jM(p:bA)(x:aU):bA×Int:=if p.j.length=200 then (⟨0,[],0⟩,2) else (⟨p.az,p.j++[x],p.eI⟩,0)
theorem aQ.KP{K:ai→Prop}{p:bA}{avs:List I}{a1 a2:Option (List I)}{dst:Option Nat}{rest:List aI}{ts:List (Nat×I)}{os0:List (Nat×aq)}(ao:p.j.length≤1000)(hav:avs=[enc p])(hno:aj os0 7=none)
  (h:∀ v os',qj p.j v os'→aQ Tryz.prog dv false K (aB rest ((au ts (os0++os')).aS dst (e6 p v)))):aQ Tryz.prog dv false K (.call 57 avs a1 a2 dst rest (au ts os0)):=by
 subst hav;refine .bP false [] [] [enc p] _ rfl (GL p ao) ⟨fun m x hx=>by simp[aj] at hx,fun m m' hm=>by simp[aw,aj] at hm⟩ ⟨.inl ⟨(kS _ _).symm,cA _ _,eg _⟩,trivial⟩ ?_ ?_
 ·rintro r os' ⟨v,rfl,hp⟩;obtain ⟨J,U,ah,_⟩:=oU hp;exact ⟨fun m y hy=>⟨(J m y hy).1,(J m y hy).2,fun h=>by cases h⟩,fun m m' _ _ h=>h,fun m hm=>by simp[aw,aj] at hm,fun m hm _=>by rw[ah m hm];exact ⟨hno,by decide⟩,by simp[e6,I.only,I.cv,U],fun h=>by cases h⟩
 ·rintro r os' ⟨v,rfl,hp⟩;rw[ma,kr (ρ:=bH []) (fun _=>rfl),FX hno (oU hp).2.2.1];exact h v os' hp
theorem sR{p:bA}{k n:Nat}{xs l:List aU}{A:ai}(hA:A.o k=some (.box (.agg (xs.map enc))))(hx:xs.take n=l):bj true A (e6 p (.view k [] 4 0 n))=some (enc (⟨p.az,l,p.eI⟩:bA)):=by
 have J:bj true A (.view k [] 4 0 n)=some (enc l):=by
  rw[vO,hA];have:kj 4 0 n (some (xs.map enc))=some (enc l):=by rw[qu (α:=aU) (sz:=4) rfl,hx]
  exact this
 have U:∀ k n,bj true A (.int k n)=some (.int k n):=fun k n=>by simp only[bj]
 simp only[e6,vN,vP,vQ,J,U,kb,zz9];rfl
theorem uz(p:bA)(x:aU)(ao:p.j.length≤200):aZ Tryz.prog 73 [enc p,enc x] (.tuple [enc (jM p x).1,enc (jM p x).2]):=by
 refine aZ.b5 Tryz.func73 Jk Ko LK (u8 rfl) (fun hwf W0 bG E1 =>?_);simp only[zR,EI,bI,zz1];clear hwf;rcases q:((p.j.length:Int)==200)
 case true =>
  have U:p.j.length=200:=by simp at q;omega
  have hw:jM p x=(⟨0,[],0⟩,2):=by simp[jM,U]
  rw[hw];have R:=y6 @q (y6 @sC (y6 @tZ (y6 @er (y6 @bU (y6 @bz (y6 @bu aC))))))
  repeat' ((first |refine ae.aE (by decide +kernel) rfl fun K hK =>?_|(refine .av [0,1,2,3,4,5,9] hK ?_;clear hK K)|(with_reducible refine .done (hK _ ?_);clear hK K)|refine ae.of rfl ?_|(with_reducible refine ay.aD (fun h =>?_) (fun h =>?_) <;>try simp only[h])) <;>try simp only[aF,R,simprocAttr])
  all_goals clear R
  rfl
 have hne:¬ p.j.length=200:=fun h=>by rw[h] at q;simp at q
 have hw:jM p x=(⟨p.az,p.j++[x],p.eI⟩,0):=by simp[jM,hne]
 rw[hw];have hbs:=iy 4 x rfl;have R:=y6 @hbs (y6 @q (y6 @er (y6 @bU (y6 @bz (y6 @bu aC)))))
 repeat' ((first |refine ae.aE (by decide +kernel) rfl fun K hK =>?_|refine aQ.KP (by omega) rfl rfl (fun v os' hc =>?_)|(refine .av [0,1,2,3,4,5,9] hK ?_;clear hK K)|(with_reducible refine .done (hK _ ?_);clear hK K)|refine ae.of rfl ?_|(with_reducible refine ay.aD (fun h =>?_) (fun h =>?_) <;>try simp only[h])) <;>try simp only[aF,R,zz5,simprocAttr])
 all_goals clear R
 obtain ⟨g1,g2,g3,g4,g5,g6,g7,g8⟩:=oU hc;have hok:b8 (some 3) (e6 p v)=true:=by simp[b8,e6,I.isAgg,I.size,I.sizes,g7]
 have hsh:(e6 p v).aX=.eE [.one,.one,.one]:=by simp[e6,I.aX,I.cQ,g6]
 have hst:∀ A rest,dk A (some 3) 2 [] (enc p) (e6 p v) rest (some (enc p))=aB rest (A.aT 2 (.box (e6 p v))):=fun A rest=>dK rfl hok hsh
 try simp only[hst,bq,simprocAttr]
 have R:=y6 @hbs (y6 @oW (y6 @g5 (y6 @kP (y6 @er (y6 @bU (y6 @bz (y6 @bu aC)))))))
 repeat' ((first |refine ae.aE (by decide +kernel) rfl fun K hK =>?_|(refine .av [0,1,2,3,4,5,9] hK ?_;clear hK K)|(with_reducible refine .done (hK _ ?_);clear hK K)|refine ae.of rfl ?_|(with_reducible refine ay.aD (fun h =>?_) (fun h =>?_) <;>try simp only[h])) <;>try simp only[aF,R,simprocAttr])
 all_goals clear R
 have hst2:∀ A rest k n w,dk A none 2 [1] (e6 p w) (.view k [] 4 0 n) rest (some v)=aB rest (A.aT 2 (.box (e6 p (.view k [] 4 0 n)))):=fun A rest k n w=>dK rfl rfl (by rw[g6];rfl);have hok2:∀ k n,b8 (some 3) (e6 p (.view k [] 4 0 n))=true:=fun _ _=>rfl;have hst3:∀ A rest k n,dk A (some 3) 4 [] (.agg [.int .i64 0,.nils 4,.int .i64 0]) (e6 p (.view k [] 4 0 n)) rest (some (.agg [.int .i64 0,.nils 4,.int .i64 0]))=aB rest (A.aT 4 (.box (e6 p (.view k [] 4 0 n)))):=fun A rest k n=>dK rfl rfl rfl;have hlx:([x]:List aU).length=1:=rfl;rcases hc with ⟨hj,rfl | rfl,rfl⟩ | ⟨hj,m,rfl,rfl⟩
 ·refine aQ.HG fh rfl (by simp) rfl (by simp) (by simp[maxLen]) fun q =>?_;have hf:=fun A h=>sR (p:=p) (k:=17) (n:=1) (xs:=[x]++List.replicate q fh) (l:=p.j++[x]) (A:=A) h (by rw[hj];rfl)
  try simp only[hlx,hst2,kP,aC,bq,simprocAttr]
  have R:=y6 @hst2 (y6 @hok2 (y6 @hst3 (y6 @hf (y6 @kP (y6 @er (y6 @bU (y6 @bz (y6 @bu aC))))))))
  repeat' ((first |refine ae.aE (by decide +kernel) rfl fun K hK =>?_|(refine .av [0,1,2,3,4,5,9] hK ?_;clear hK K)|(with_reducible refine .done (hK _ ?_);clear hK K)|refine ae.of rfl ?_|(with_reducible refine ay.aD (fun h =>?_) (fun h =>?_) <;>try simp only[h])) <;>try simp only[aF,R,simprocAttr])
  all_goals clear R
 ·refine aQ.uN fh rfl (by simp) rfl (by simp) (by simp[maxLen]) fun q =>?_;have hf:=fun A h=>sR (p:=p) (k:=17) (n:=1) (xs:=[x]++List.replicate q fh) (l:=p.j++[x]) (A:=A) h (by rw[hj];rfl)
  try simp only[hlx,hst2,kP,aC,bq,simprocAttr]
  have R:=y6 @hst2 (y6 @hok2 (y6 @hst3 (y6 @hf (y6 @kP (y6 @er (y6 @bU (y6 @bz (y6 @bu aC))))))))
  repeat' ((first |refine ae.aE (by decide +kernel) rfl fun K hK =>?_|(refine .av [0,1,2,3,4,5,9] hK ?_;clear hK K)|(with_reducible refine .done (hK _ ?_);clear hK K)|refine ae.of rfl ?_|(with_reducible refine ay.aD (fun h =>?_) (fun h =>?_) <;>try simp only[h])) <;>try simp only[aF,R,simprocAttr])
  all_goals clear R
 ·by_cases hm:m=0
  ·subst hm;refine aQ.HF (esz:=4) fh rfl (xs:=p.j++List.replicate 0 fh) (ys:=[x]) (by simp) rfl (by simp) (by simp) rfl (by simp;omega) (by simp[maxLen];omega) fun q =>?_;have hf:=fun A h=>sR (p:=p) (k:=17) (n:=p.j.length+1) (xs:=(p.j++List.replicate 0 fh).take p.j.length++([x]++List.replicate q fh)) (l:=p.j++[x]) (A:=A) h (by simp[List.take_append];exact List.take_of_length_le (by omega))
   try simp only[hlx,hst2,kP,aC,bq,simprocAttr]
   have R:=y6 @hst2 (y6 @hok2 (y6 @hst3 (y6 @hf (y6 @kP (y6 @er (y6 @bU (y6 @bz (y6 @bu aC))))))))
   repeat' ((first |refine ae.aE (by decide +kernel) rfl fun K hK =>?_|(refine .av [0,1,2,3,4,5,9] hK ?_;clear hK K)|(with_reducible refine .done (hK _ ?_);clear hK K)|refine ae.of rfl ?_|(with_reducible refine ay.aD (fun h =>?_) (fun h =>?_) <;>try simp only[h])) <;>try simp only[aF,R,simprocAttr])
   all_goals clear R
  ·rw[yI (esz:=4) _ rfl (xs:=p.j++List.replicate m fh) (ys:=[x]) (by simp) rfl (by simp;omega)];have hf:=fun A h=>sR (p:=p) (k:=7) (n:=p.j.length+1) (xs:=(p.j++List.replicate m fh).take p.j.length++([x]++(p.j++List.replicate m fh).drop (p.j.length+1))) (l:=p.j++[x]) (A:=A) h (by simp[List.take_append];exact List.take_of_length_le (by omega))
   try simp only[hlx,hst2,kP,aC,bq,simprocAttr]
   have R:=y6 @hst2 (y6 @hok2 (y6 @hst3 (y6 @hf (y6 @kP (y6 @er (y6 @bU (y6 @bz (y6 @bu aC))))))))
   repeat' ((first |refine ae.aE (by decide +kernel) rfl fun K hK =>?_|(refine .av [0,1,2,3,4,5,9] hK ?_;clear hK K)|(with_reducible refine .done (hK _ ?_);clear hK K)|refine ae.of rfl ?_|(with_reducible refine ay.aD (fun h =>?_) (fun h =>?_) <;>try simp only[h])) <;>try simp only[aF,R,simprocAttr])
   all_goals clear R
def gL:bA:=⟨0,[],0⟩
theorem FN:(∀ A n b rest (q:bA) x y,dk A (some 3) n [] b (enc q) rest (some (.agg [.int .i64 x,.nils 4,.int .i64 y]))=aB rest (A.aT n (.box (enc q))))∧(∀ A n b rest (q:bA) (r:bA),dk A (some 3) n [] b (enc q) rest (some (enc r))=aB rest (A.aT n (.box (enc q)))) :=
 ⟨fun A n b rest q x y=>dK (eg _) (by rw[e7];rfl) (eC _),fun A n b rest q r=>dK (eg _) (by rw[e7];rfl) ((eC _).trans (eC _).symm)⟩
theorem yS(a b:Int):(dO [.int .i64 0,.int .i64 0,.int .i64 0,.int .i64 0] [(0,.int .i64 a),(1,.int .i64 b)]).map I.agg=some (enc (⟨a,b,0,0⟩:aU)):=by simp[dO,I.bS,I.size];rfl
theorem uT(a b c d:Int):(dO [.int .i64 0,.int .i64 0,.int .i64 0,.int .i64 0] [(0,.int .i64 a),(1,.int .i64 b),(2,.int .i64 c),(3,.int .i64 d)]).map I.agg=some (enc (⟨a,b,c,d⟩:aU)):=by simp[dO,I.bS,I.size];rfl
theorem cg:(type_of% @FN)∧(type_of% @yS)∧(type_of% @uT)∧(type_of% @sC)∧(type_of% @tZ)∧(type_of% @er):=⟨FN,yS,uT,sC,tZ,er⟩
def s9(p:bA)(b:Int):bA×Int:=match c7 p with
 |none=>(gL,91)
 |some s=>if cT 1 9999 b=false then (gL,1) else if b∈s.here∨s.fb b=true then (gL,92) else jM p ⟨1,b,0,0⟩
theorem Gy(p:bA)(b:Int):aZ Tryz.prog 27 [enc p,enc b] (.tuple [enc (s9 p b).1,enc (s9 p b).2]):=by
 refine aZ.b5 Tryz.func27 IU JY Lj (u8 rfl) (fun hwf W0 bG E1 =>?_);simp only[zo,Ef,bI,zz1];clear hwf;have hF:=np p;simp only[s9];cases ho:c7 p with
 |none =>
  rw[ho] at hF;simp only[iO] at hF;have R:=y6 @cg (y6 @bm (y6 @bU (y6 @bz (y6 @bu aC))))
  repeat' ((first |(with_reducible refine .guard (fun hb =>?_) (fun hb =>?_) <;>try simp only[hb])|refine ae.aE (by decide +kernel) rfl fun K hK =>?_|refine .lead _ (hF) ?_|(refine .av [0,1,2,4,5,6,7,13,18,23] hK ?_;clear hK K)|(with_reducible refine .done (hK _ ?_);clear hK K)|refine ae.of rfl ?_|(with_reducible refine ay.aD (fun h =>?_) (fun h =>?_) <;>try simp only[h])) <;>try simp only[aF,R,simprocAttr])
  all_goals clear R
  rfl
 |some s =>
  have hjl:=(iN ho).2.2.2.1;rw[ho] at hF;simp only[iO] at hF;have hlk:=gu eQ b s.here;rw[eG] at hlk;have hB:=oI b;have hR:=p8 s b;have hW:=uz p ⟨1,b,0,0⟩ hjl;rcases q1:cT 1 9999 b
  ·rw[q1] at hB;have R:=y6 @eb (y6 @cg (y6 @bm (y6 @bU (y6 @bz (y6 @bu aC)))))
   repeat' ((first |(with_reducible refine .guard (fun hb =>?_) (fun hb =>?_) <;>try simp only[hb])|refine ae.aE (by decide +kernel) rfl fun K hK =>?_|refine .lead _ (hF) ?_|refine .flat _ (hB) rfl ?_|(refine .av [0,1,2,4,5,6,7,13,18,23] hK ?_;clear hK K)|(with_reducible refine .done (hK _ ?_);clear hK K)|refine ae.of rfl ?_|(with_reducible refine ay.aD (fun h =>?_) (fun h =>?_) <;>try simp only[h])) <;>try simp only[aF,R,simprocAttr])
   all_goals clear R
   rfl
  rw[q1] at hB;rcases q2:decide (b∈s.here)
  ·rcases q3:s.fb b
   ·rw[q3] at hR;have bM:(b∈s.here∨s.fb b=true)=False:=by simpa[q3] using q2
    simp only[Bool.true_eq_false,if_false,bM];have R:=y6 @q2 (y6 @hlk (y6 @eb (y6 @cg (y6 @bm (y6 @bU (y6 @bz (y6 @bu aC)))))))
    repeat' ((first |(with_reducible refine .guard (fun hb =>?_) (fun hb =>?_) <;>try simp only[hb])|refine ae.aE (by decide +kernel) rfl fun K hK =>?_|refine .lead _ (hF) ?_|refine .flat _ (hB) rfl ?_|refine .flat _ (hR) rfl ?_|refine .lead _ (hW) ?_|(refine .av [0,1,2,4,5,6,7,13,18,23] hK ?_;clear hK K)|(with_reducible refine .done (hK _ ?_);clear hK K)|refine ae.of rfl ?_|(with_reducible refine ay.aD (fun h =>?_) (fun h =>?_) <;>try simp only[h])) <;>try simp only[aF,R,simprocAttr])
    all_goals clear R
   ·rw[q3] at hR;have bM:(b∈s.here∨s.fb b=true)=True:=by simp[q3]
    simp only[Bool.true_eq_false,if_false,bM,if_true];have R:=y6 @q2 (y6 @hlk (y6 @eb (y6 @cg (y6 @bm (y6 @bU (y6 @bz (y6 @bu aC)))))))
    repeat' ((first |(with_reducible refine .guard (fun hb =>?_) (fun hb =>?_) <;>try simp only[hb])|refine ae.aE (by decide +kernel) rfl fun K hK =>?_|refine .lead _ (hF) ?_|refine .flat _ (hB) rfl ?_|refine .flat _ (hR) rfl ?_|(refine .av [0,1,2,4,5,6,7,13,18,23] hK ?_;clear hK K)|(with_reducible refine .done (hK _ ?_);clear hK K)|refine ae.of rfl ?_|(with_reducible refine ay.aD (fun h =>?_) (fun h =>?_) <;>try simp only[h])) <;>try simp only[aF,R,simprocAttr])
    all_goals clear R
    rfl
  ·have bM:b∈s.here:=of_decide_eq_true q2;simp only[Bool.true_eq_false,if_false,bM,true_or,if_true];have R:=y6 @q2 (y6 @hlk (y6 @eb (y6 @cg (y6 @bm (y6 @bU (y6 @bz (y6 @bu aC)))))))
   repeat' ((first |(with_reducible refine .guard (fun hb =>?_) (fun hb =>?_) <;>try simp only[hb])|refine ae.aE (by decide +kernel) rfl fun K hK =>?_|refine .lead _ (hF) ?_|refine .flat _ (hB) rfl ?_|(refine .av [0,1,2,4,5,6,7,13,18,23] hK ?_;clear hK K)|(with_reducible refine .done (hK _ ?_);clear hK K)|refine ae.of rfl ?_|(with_reducible refine ay.aD (fun h =>?_) (fun h =>?_) <;>try simp only[h])) <;>try simp only[aF,R,simprocAttr])
   all_goals clear R
   rfl
def pW(p:bA):bA×Int:=match c7 p with
 |none=>(gL,91)
 |some _=>(⟨p.az,p.j,p.j.length⟩,0)
theorem aae(A:ai)(n:Nat)(p:bA)(v:Int)(rest:List aI)(u:Int):dk A none n [2] (enc p) (.int .i64 v) rest (some (.int .i64 u))=aB rest (A.aT n (.box (enc (⟨p.az,p.j,v⟩:bA)))):=dK rfl rfl rfl
theorem uv(p:bA):aZ Tryz.prog 10 [enc p] (.tuple [enc (pW p).1,enc (pW p).2]):=by
 refine aZ.b5 Tryz.func10 Iz JE KQ (u8 rfl) (fun hwf W0 bG E1 =>?_);simp only[yY,DI,bI];clear hwf;have hF:=sa p;simp only[nB] at hF;simp only[pW];cases ho:c7 p with
 |none =>
  rw[ho] at hF;have R:=y6 @cg (y6 @bm (y6 @bU (y6 @bz (y6 @bu aC))))
  repeat' ((first |refine ae.aE (by decide +kernel) rfl fun K hK =>?_|refine .lead _ (hF) ?_|(refine .av [0,1,2,3,4,8] hK ?_;clear hK K)|(with_reducible refine .done (hK _ ?_);clear hK K)|refine ae.of rfl ?_|(with_reducible refine ay.aD (fun h =>?_) (fun h =>?_) <;>try simp only[h])) <;>try simp only[aF,R,simprocAttr])
  all_goals clear R
  rfl
 |some s =>
  have hjl:=(iN ho).2.2.2.1;rw[ho] at hF;have R:=y6 @aae (y6 @cg (y6 @bm (y6 @bU (y6 @bz (y6 @bu aC)))))
  repeat' ((first |refine ae.aE (by decide +kernel) rfl fun K hK =>?_|refine .lead _ (hF) ?_|refine .lead _ (yj p (by omega)) ?_|(refine .av [0,1,2,3,4,8] hK ?_;clear hK K)|(with_reducible refine .done (hK _ ?_);clear hK K)|refine ae.of rfl ?_|(with_reducible refine ay.aD (fun h =>?_) (fun h =>?_) <;>try simp only[h])) <;>try simp only[aF,R,simprocAttr])
  all_goals clear R
theorem xU{α:Type}[Enc α]{A:ai}(esz:Nat){l:List α}{i:Nat}(h:i≤l.length)(ab:Enc.sz α=esz):j5 A esz none (some (.int .i64 i)) none (enc l)=some (enc (l.take i)):=by
 simp only[j5,hs,ab,if_true,iT,jd,zz8];rw[if_pos ⟨by omega,by omega,by omega,by omega⟩];simp
def lj:cZ:=⟨0,0,0,false⟩
theorem nk:(∀ A n b rest (q:cZ) x y z w,dk A (some 4) n [] b (enc q) rest (some (.agg [.int .i64 x,.int .i64 y,.int .i64 z,.bool w]))=aB rest (A.aT n (.box (enc q))))∧(∀ A n b rest (q r:cZ),dk A (some 4) n [] b (enc q) rest (some (enc r))=aB rest (A.aT n (.box (enc q)))) :=
 ⟨fun A n b rest q x y z w=>dK (eg _) (by rw[e7];rfl) (eC _),fun A n b rest q r=>dK (eg _) (by rw[e7];rfl) ((eC _).trans (eC _).symm)⟩
theorem ny:(dO [.int .i64 0,.int .i64 0,.int .i64 0,.bool false] []).map I.agg=some (enc lj):=by simp[dO];rfl
theorem sD(a b c:Int):(dO [.int .i64 0,.int .i64 0,.int .i64 0,.bool false] [(0,.int .i64 a),(1,.int .i64 b),(2,.int .i64 c)]).map I.agg=some (enc (⟨a,b,c,false⟩:cZ)):=by simp[dO,I.bS,I.size];rfl
def rO(p:bA)(b to:Int):bA×cZ×Int:=match c7 p with
 |none=>(gL,lj,91)
 |some s=>if cT 1 9999 b=false then (gL,lj,1) else if cT 0 5 to=false∨to=p.az then (gL,lj,90) else if b∉s.here then (gL,lj,93) else
  if p.j.length=200 then (gL,lj,2) else ((jM p ⟨3,b,to,(s.all.length:Int)+1⟩).1,⟨(s.all.length:Int)+1,to,b,false⟩,0)
theorem Gz(p:bA)(b to:Int):aZ Tryz.prog 31 [enc p,enc b,enc to] (.tuple [enc (rO p b to).1,enc (rO p b to).2.1,enc (rO p b to).2.2]):=by
 refine aZ.b5 Tryz.func31 IV JZ Lk (u8 rfl) (fun hwf W0 bG E1 =>?_);simp only[zp,Eg,bI,zz1,Nat.reduceAdd];clear hwf;have hF:=np p;simp only[rO];cases ho:c7 p with
 |none =>
  rw[ho] at hF;simp only[iO] at hF;have R:=y6 @ny (y6 @nk (y6 @cg (y6 @bm (y6 @bU (y6 @bz (y6 @bu aC))))))
  repeat' ((first |(with_reducible refine .guard (fun hb =>?_) (fun hb =>?_) <;>try simp only[hb])|refine ae.aE (by decide +kernel) rfl fun K hK =>?_|refine .lead _ (hF) ?_|(refine .av [0,1,2,3,6,7,8,9,10,11,17,23,29,41,70] hK ?_;clear hK K)|(with_reducible refine .done (hK _ ?_);clear hK K)|refine ae.of rfl ?_|(with_reducible refine ay.aD (fun h =>?_) (fun h =>?_) <;>try simp only[h])) <;>try simp only[aF,R,simprocAttr])
  all_goals clear R
  rfl
 |some s =>
  have hjl:=(iN ho).2.2.2.1;have hsl:=(iN ho).2.2.1;rw[ho] at hF;simp only[iO] at hF;have hlk:=gu eQ b s.here;rw[eG] at hlk;have hB:=oI b;have hT:=lF to;have hW:=uz p ⟨3,b,to,(s.all.length:Int)+1⟩ hjl;have hw:IntKind.i64.wrap ((s.all.length:Int)+1)=(s.all.length:Int)+1:=mB _ (by omega) (by omega);rcases q1:cT 1 9999 b
  ·rw[q1] at hB;have R:=y6 @ny (y6 @nk (y6 @eb (y6 @cg (y6 @bm (y6 @bU (y6 @bz (y6 @bu aC)))))))
   repeat' ((first |(with_reducible refine .guard (fun hb =>?_) (fun hb =>?_) <;>try simp only[hb])|refine ae.aE (by decide +kernel) rfl fun K hK =>?_|refine .lead _ (hF) ?_|refine .flat _ (hB) rfl ?_|(refine .av [0,1,2,3,6,7,8,9,10,11,17,23,29,41,70] hK ?_;clear hK K)|(with_reducible refine .done (hK _ ?_);clear hK K)|refine ae.of rfl ?_|(with_reducible refine ay.aD (fun h =>?_) (fun h =>?_) <;>try simp only[h])) <;>try simp only[aF,R,simprocAttr])
   all_goals clear R
   rfl
  rw[q1] at hB;rcases q2:cT 0 5 to
  ·rw[q2] at hT;simp only[Bool.true_eq_false,if_false,true_or,if_true];have R:=y6 @ny (y6 @nk (y6 @eb (y6 @cg (y6 @bm (y6 @bU (y6 @bz (y6 @bu aC)))))))
   repeat' ((first |(with_reducible refine .guard (fun hb =>?_) (fun hb =>?_) <;>try simp only[hb])|refine ae.aE (by decide +kernel) rfl fun K hK =>?_|refine .lead _ (hF) ?_|refine .flat _ (hB) rfl ?_|refine .flat _ (hT) rfl ?_|(refine .av [0,1,2,3,6,7,8,9,10,11,17,23,29,41,70] hK ?_;clear hK K)|(with_reducible refine .done (hK _ ?_);clear hK K)|refine ae.of rfl ?_|(with_reducible refine ay.aD (fun h =>?_) (fun h =>?_) <;>try simp only[h])) <;>try simp only[aF,R,simprocAttr])
   all_goals clear R
   rfl
  rw[q2] at hT;rcases q3:(to==p.az)
  case true =>
   have e:to=p.az:=by simpa using q3
   simp only[Bool.true_eq_false,if_false,false_or,e,if_true];rw[e] at hT q3;have R:=y6 @q3 (y6 @ny (y6 @nk (y6 @eb (y6 @cg (y6 @bm (y6 @bU (y6 @bz (y6 @bu aC))))))))
   repeat' ((first |(with_reducible refine .guard (fun hb =>?_) (fun hb =>?_) <;>try simp only[hb])|refine ae.aE (by decide +kernel) rfl fun K hK =>?_|refine .lead _ (hF) ?_|refine .flat _ (hB) rfl ?_|refine .flat _ (hT) rfl ?_|(refine .av [0,1,2,3,6,7,8,9,10,11,17,23,29,41,70] hK ?_;clear hK K)|(with_reducible refine .done (hK _ ?_);clear hK K)|refine ae.of rfl ?_|(with_reducible refine ay.aD (fun h =>?_) (fun h =>?_) <;>try simp only[h])) <;>try simp only[aF,R,simprocAttr])
   all_goals clear R
   rfl
  have e:¬ to=p.az:=by simpa using q3
  simp only[Bool.true_eq_false,if_false,false_or,e];rcases q4:decide (b∈s.here)
  ·have bM:b∉s.here:=of_decide_eq_false q4;rw[if_pos bM];have R:=y6 @q3 (y6 @q4 (y6 @hlk (y6 @ny (y6 @nk (y6 @eb (y6 @cg (y6 @bm (y6 @bU (y6 @bz (y6 @bu aC))))))))))
   repeat' ((first |(with_reducible refine .guard (fun hb =>?_) (fun hb =>?_) <;>try simp only[hb])|refine ae.aE (by decide +kernel) rfl fun K hK =>?_|refine .lead _ (hF) ?_|refine .flat _ (hB) rfl ?_|refine .flat _ (hT) rfl ?_|(refine .av [0,1,2,3,6,7,8,9,10,11,17,23,29,41,70] hK ?_;clear hK K)|(with_reducible refine .done (hK _ ?_);clear hK K)|refine ae.of rfl ?_|(with_reducible refine ay.aD (fun h =>?_) (fun h =>?_) <;>try simp only[h])) <;>try simp only[aF,R,simprocAttr])
   all_goals clear R
   rfl
  ·have bM:b∈s.here:=of_decide_eq_true q4;rw[if_neg (by simpa using bM)];by_cases U:p.j.length=200
   ·have hw1:jM p ⟨3,b,to,(s.all.length:Int)+1⟩=(gL,2):=by simp[jM,U,gL]
    rw[hw1] at hW;simp only[if_pos U];have R:=y6 @hw (y6 @q3 (y6 @q4 (y6 @hlk (y6 @ny (y6 @sD (y6 @nk (y6 @eb (y6 @cg (y6 @bm (y6 @bU (y6 @bz (y6 @bu aC))))))))))))
    repeat' ((first |(with_reducible refine .guard (fun hb =>?_) (fun hb =>?_) <;>try simp only[hb])|refine ae.aE (by decide +kernel) rfl fun K hK =>?_|refine .lead _ (hF) ?_|refine .flat _ (hB) rfl ?_|refine .flat _ (hT) rfl ?_|refine .lead _ (hW) ?_|(refine .av [0,1,2,3,6,7,8,9,10,11,17,23,29,41,70] hK ?_;clear hK K)|(with_reducible refine .done (hK _ ?_);clear hK K)|refine ae.of rfl ?_|(with_reducible refine ay.aD (fun h =>?_) (fun h =>?_) <;>try simp only[h])) <;>try simp only[aF,R,simprocAttr])
    all_goals clear R
    rfl
   ·have hw1:(jM p ⟨3,b,to,(s.all.length:Int)+1⟩).2=0:=by simp[jM,U]
    rw[hw1] at hW;simp only[if_neg U];have R:=y6 @hw (y6 @q3 (y6 @q4 (y6 @hlk (y6 @ny (y6 @sD (y6 @nk (y6 @eb (y6 @cg (y6 @bm (y6 @bU (y6 @bz (y6 @bu aC))))))))))))
    repeat' ((first |(with_reducible refine .guard (fun hb =>?_) (fun hb =>?_) <;>try simp only[hb])|refine ae.aE (by decide +kernel) rfl fun K hK =>?_|refine .lead _ (hF) ?_|refine .flat _ (hB) rfl ?_|refine .flat _ (hT) rfl ?_|refine .lead _ (hW) ?_|(refine ae.rC (gs:=vW) [] [(3,[3]),(6,[6]),(7,[7]),(11,[11])] [0,1,2,3,4] (by decide +kernel) (cW.of (by simp[fo,cu,I.only])) fun K hK =>?_;simp only[e8,vW,zy6,zy7,R,simprocAttr])|(refine .av [0,1,2,3,6,7,8,9,10,11,17,23,29,41,70] hK ?_;clear hK K)|(with_reducible refine .done (hK _ ?_);clear hK K)|refine ae.of rfl ?_|(with_reducible refine ay.aD (fun h =>?_) (fun h =>?_) <;>try simp only[h])) <;>try simp only[aF,R,simprocAttr])
    all_goals clear R
def qN(k:Int):Int:=if k=1 then 7 else if k=2 then 5 else if k=3 then 8 else if k=4 then 6 else 0
theorem XI(k:Int):fi (.i .i64) (.int .i64 0) (.int .i64 k) [.int .i64 1,.int .i64 2,.int .i64 3,.int .i64 4] [.int .i64 7,.int .i64 5,.int .i64 8,.int .i64 6]=some (.int .i64 (qN k),decide (k=1∨k=2∨k=3∨k=4)):=by
 have h:=th eQ (.int .i64 0) k [1,2,3,4] [.int .i64 7,.int .i64 5,.int .i64 8,.int .i64 6];simp only[zz3,zx4,eG] at h;rw[h];by_cases J:k=1
 ·subst J;rfl
 by_cases U:k=2
 ·subst U;rfl
 by_cases ah:k=3
 ·subst ah;rfl
 by_cases ar:k=4
 ·subst ar;rfl
 simp[List.findIdx?_cons,J,U,ah,ar,qN]
theorem G7(k:Int):aZ Tryz.prog 80 [enc k] (enc (qN k)):=by
 refine aZ.b5 Tryz.func80 Jq Ku LQ (u8 rfl) (fun hwf W0 bG E1 =>?_);simp only[zX,EO,bI];clear hwf;have hv:∀ k n,(I.int k n).bS=true:=fun _ _=>rfl;have ao:=XI k;have R:=y6 @hv (y6 @ao (y6 @C0 (y6 @bU (y6 @bz (y6 @bu aC)))))
 repeat' ((first |refine ae.aE (by decide +kernel) rfl fun K hK =>?_|(refine .av [0,2] hK ?_;clear hK K)|(with_reducible refine .done (hK _ ?_);clear hK K)|refine ae.of rfl ?_|(with_reducible refine ay.aD (fun h =>?_) (fun h =>?_) <;>try simp only[h])) <;>try simp only[aF,R,simprocAttr])
 all_goals clear R
def lV(r:ea):aU:=⟨qN r.kind,r.aH,r.bR,r.no⟩
def qD(p:bA)(r:ea):bA×Int:=match c7 p with
 |none=>(gL,91)
 |some s=>if tz r=false∨r.to≠p.az then (gL,95) else match gj s (lV r) with
  |none=>(p,0)
  |some _=>jM p (lV r)
end Go.Proofs.YthbdbocionnfgaaGreatDoor
