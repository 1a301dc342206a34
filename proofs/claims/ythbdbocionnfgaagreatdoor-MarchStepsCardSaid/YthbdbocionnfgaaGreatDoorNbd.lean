/-
  A part of the proof that the law MarchSteps returns true for every input; three tables of Go's library start as the text lays them (the card ties them); conditions: none beyond the statement's own. (part 4 of 6)
-/
import Derived.ProofKit
import Derived.SizedLaws
import Derived.WalkKit
import Derived.Tactics
import Derived.Tactics2
import Derived.RecoverIn
import Derived.Test.YthbdbocionnfgaaGreatDoorRows
import Derived.Test.YthbdbocionnfgaaGreatDoorCards
import Derived.Test.YthbdbocionnfgaaGreatDoorTie
import Derived.LaidMore
import Derived.MakeChecks
import Derived.Lib.LaidTab
import Derived.Lib.LaidU8
import Derived.Test.YthbdbocionnfgaaGreatDoorNbc
set_option linter.unusedSimpArgs false
set_option linter.unusedVariables false
set_option maxHeartbeats 16000000
set_option maxRecDepth 100000
namespace Go.Abs
open Go Go.RowKit
def gq:aH:=⟨none,.mv (.c (.bool true)),none⟩
theorem HN{l:List Oper}{cl:List Nat}(h7:∀ i,i<l.length→(((l.map cn).getD i []).all (fun k=>decide (k<i))&&Nat.beq (cl.getD i 0) (ly cl ((l.map cn).getD i [])))=true)
  {S:Nat→Prop} (hS:∀ i o,l[i]?=some o→S i→∀ k∈cn o,S k):∀ n i o,i≤n→l[i]?=some o→(∀ k∈cn o,S k)→∀ j,(cl.getD i 0).testBit j=true→S j:=by
 have fC:∀ i o,l[i]?=some o→(∀ k∈cn o,k<i)∧(∀ j,(cl.getD i 0).testBit j=true→j∈cn o∨∃ k∈cn o,(cl.getD k 0).testBit j=true):=by
  intro i o ho;have hi:i<l.length:=(zz5.1 ho).1;have h8:=h7 i hi;have hon:(l.map cn).getD i []=cn o:=by simp[zz0,ho]
  rw[hon] at h8;simp only[t8,zx0,decide_eq_true_eq] at h8;have hb:=Nat.eq_of_beq_eq_true h8.2;exact ⟨h8.1,fun j hj=>rQ (by rw[←hb];exact hj)⟩
 intro n
 induction n with
 |zero =>
  intro i o hi ho hon j hj;obtain ⟨h8,h9⟩:=fC i o ho;rcases h9 j hj with h | ⟨k,hk,_⟩
  ·exact hon j h
  ·have:=h8 k hk;omega
 |succ n ih =>
  intro i o hi ho hon j hj;obtain ⟨h8,h9⟩:=fC i o ho;rcases h9 j hj with h | ⟨k,hk,hjk⟩
  ·exact hon j h
  ·have hki:=h8 k hk;have hkl:k<l.length:=Nat.lt_trans hki (zz5.1 ho).1;obtain ⟨ok,hok⟩:∃ ok,l[k]?=some ok:=⟨l[k],zy4 hkl⟩
   exact ih k ok (by omega) hok (hS k ok hok (hon k hk)) j hjk
def CV(ab:List FuncId)(L:ea)(on:List (List Nat))(gs:List aH)(σ:List Nat)(m:Nat):Bool :=
 pC ab L on (gs.take m++[gq]) (kg on) (σ++[m])&&(sU (m+1) (kg on) m&&Nat.beq gs.length (m+1))
section
variable {c:cS}
theorem G2{K:ai→Prop}{fs:List FuncId}{L:ea}{aT:Array Oper}{gs0 gs:List aH}{σ:List Nat}{Q:Exit→Act→World→Prop}{m:Nat}(hm:m<aT.size)(hQ:∀ (B:ai) (a:Act) (w:World) (Kw:Act→World→Prop),K B→bY c B a w→wpOpIn c.bC 9 c.P aT Q m Kw a w)
  (hgs:fJ c.P c.n aT aT.toList=some gs0) (hsame:∀ i,i≠m→gs[i]?=gs0[i]?) (hgm:gs[m]?=some gq) (hgl:gs.length=aT.size) (af:ur fs L aT.toList gs σ)
  (hlast:∀ (S:Nat→Prop),(∀ i o,aT.toList[i]?=some o→S i→∀ k∈cn o,S k)→∀ o,aT.toList[m]?=some o→(∀ k∈cn o,S k)→∀ j,j<gs.length→j≠m→S j) :
  ∀ (fuel:Nat) (listed:Array Bool) (A:ai) (a:Act) (w:World),listed.size=aT.size→(∀ i o,aT.toList[i]?=some o→listed.getD i false=true→∀ k∈cn o,listed.getD k false=true)→(dX σ listed).length≤fuel →
   cN L A→listed.getD m true=false→bP c.P c.Y fs K (aB (gv gs σ listed) A)→bY c A a w→wpAnyIn c.bC 9 c.P .any aT Q fuel listed a w:=by
 obtain ⟨hlen,hat⟩:=iA hgs;have onOf_mem:∀ (o:Oper) (e:Edge),e∈o.after→Region.binds .any e=true→e.on∈cn o:=fun o e he hb=>by
  simp only[cn,zx1,zw0];exact ⟨e,⟨by simpa using he,hb⟩,rfl⟩
 have of_onOf:∀ (o:Oper) (k:Nat),k∈cn o→∃ e∈o.after,Region.binds .any e=true∧e.on=k:=fun o k hk=>by
  simp only[cn,zx1,zw0] at hk;obtain ⟨e,⟨J,U⟩,ah⟩:=hk;exact ⟨e,by simpa using J,U,ah⟩
 have last:∀ (listed:Array Bool),listed.size=aT.size→Region.ready .any aT listed=[]→listed.getD m true=false→False:=by
  intro listed hsz hr hml;have all:∀ n,∀ i,i<n→i<aT.size→listed.getD i true=true:=by
   intro n
   induction n with
   |zero=>intro i hi;omega
   |succ n ih =>
    intro i hi his;cases hb:listed.getD i true with
    |true=>rfl
    |false =>
     exfalso
     have ho:aT[i]?=some aT[i]:=zw5 his;have:i∈Region.ready .any aT listed:=mem_ready.2 ⟨hb,aT[i],ho,fun e he hbd=>by
      have hlt:=af.iz i aT[i] (by simp) e.on (onOf_mem _ e he hbd);have J:=ih e.on (by omega) (by omega);have U:e.on<listed.size:=by omega
      simpa[Array.getD_eq_getD_getElem?,U] using J⟩
     rw[hr] at this;cases this
  have:=all (m+1) m (by omega) hm;rw[hml] at this;cases this
 intro fuel
 induction fuel with
 |zero =>
  intro listed A a w hsz hcl hcnt hinv hml hwp ab;have hnone:dX σ listed=[]:=List.length_eq_zero_iff.1 (by omega);have:m∈dX σ listed:=by
   simp only[dX,zw0,hml,Bool.not_false,and_true];exact af.all m (by omega)
  rw[hnone] at this;cases this
 |succ fuel ih =>
  intro listed A a w hsz hcl hcnt hinv hml hwp ab;refine ⟨fun hr=>(last listed hsz hr hml).elim,fun i hi =>?_⟩;obtain ⟨hun,o,ho,hall⟩:=mem_ready.1 hi;have hin:i<aT.size:=(zy0.1 ho).1;obtain ⟨s1,s2,hσ,e1,e2⟩:=xc af.nQ (af.all i (by omega)) (by omega) hun;have hol:aT.toList[i]?=some o:=by simpa using ho
  obtain ⟨g,hgi0,hcg⟩:=hat i o hol;have hon:∀ k∈cn o,listed.getD k false=true:=fun k hk=>by
   obtain ⟨e,J,U,ah⟩:=of_onOf o k hk;exact ah▸hall e J U
  by_cases him:i=m
  ·subst him;have hnil:dX σ listed=[i]:=by
    have hz:∀ j∈s1++s2,(!listed.getD j true)=false:=fun j hj=>by
     have hjσ:j∈σ:=by rw[hσ];rcases zx6.1 hj with h | h <;>simp[h]
     have hjl:=af.lt j hjσ;have hji:j≠i:=fun e=>by
      subst e;have hnd:=af.nQ;rw[hσ] at hnd;rcases zx6.1 hj with h | h
      ·exact (List.nodup_append.1 hnd).2.2 j h j (by simp) rfl
      ·exact (List.nodup_cons.1 (List.nodup_append.1 hnd).2.1).1 h
     have h5:=hlast (fun k=>listed.getD k false=true) hcl o hol hon j hjl hji;have hjs:j<listed.size:=by omega
     simp[Array.getD_eq_getD_getElem?,hjs] at h5 ⊢;exact h5
    rw[e1];have f1:(s1.filter fun j => !listed.getD j true)=[]:=List.filter_eq_nil_iff.2 fun j hj=>by rw[hz j (List.mem_append_left _ hj)];simp
    have f2:(s2.filter fun j => !listed.getD j true)=[]:=List.filter_eq_nil_iff.2 fun j hj=>by rw[hz j (List.mem_append_right _ hj)];simp
    rw[f1,f2];rfl
   have hgd:gs.getD i default=gq:=by simp[zz0,hgm]
   simp only[gv,hnil,zz4,zx8,hgd] at hwp;have e:aB [gq] A=.done A:=rfl;rw[e] at hwp;cases hwp with
   |done hk=>exact hQ A a w _ hk ab
  have hgi:gs[i]?=some g:=by rw[hsame i him];exact hgi0
  have hgd:gs.getD i default=g:=by simp[zz0,hgi]
  have hwp':bP c.P c.Y fs K (aB (g::gv gs σ (listed.setIfInBounds i true)) A):=by
   simp only[gv,e1,zy5,zz4,hgd] at hwp;simp only[gv,e2,zy5];refine bP.nw hinv (fun j hj =>?_) hwp;obtain ⟨k,hk,rfl⟩:=zx1.1 hj;obtain ⟨hk1,hk2⟩:=zw0.1 hk;have:=af.oZ (fun k=>listed.getD k false=true) hcl s1 i s2 o hσ hol hon k hk1 (by
    have hks:k<listed.size:=by
     have:=af.lt k (by rw[hσ];exact List.mem_append_left _ hk1);omega
    simp[Array.getD_eq_getD_getElem?,hks] at hk2 ⊢;exact hk2)
   rw[hgd] at this;have hkl:=af.lt k (by rw[hσ];exact List.mem_append_left _ hk1);have hks:k<aT.size:=by omega
   refine ⟨this,?_⟩;rcases af.qJ k aT[k] (by simp) with h | h
   ·exact h
   ·exfalso
    have h9:=h.1;rw[hσ,List.getLast?_append] at h9;have hne:(i::s2).getLast?=some k:=by
     cases h10:(i::s2).getLast? with
     |none=>simp at h10
     |some q=>rw[h10] at h9;simpa using h9
    have hk2:k∈i::s2:=List.mem_of_getLast? hne;have hnd:=af.nQ;rw[hσ] at hnd;exact (List.nodup_append.1 hnd).2.2 k hk1 k hk2 rfl
  unfold wpOpIn;rw[ho];have hokg:mO g.op=true:=by
   have:=af.ok i (by omega)
   rwa [hgd] at this
  have hcl':∀ m om,aT.toList[m]?=some om→(listed.setIfInBounds i true).getD m false=true→∀ k∈cn om,(listed.setIfInBounds i true).getD k false=true:=by
   intro m om hom hm k hk;by_cases hmi:m=i
   ·subst hmi;rw[hol,v6] at hom;subst hom;exact getD_set_true (hon k hk)
   ·rw[getD_set_ne false (Ne.symm hmi)] at hm;exact getD_set_true (hcl m om hom hm k hk)
  have hfu:(dX σ (listed.setIfInBounds i true)).length≤fuel:=by
   have:(dX σ listed).length=(dX σ (listed.setIfInBounds i true)).length+1:=by
    rw[e1,e2];simp;omega
   omega
  have hml':(listed.setIfInBounds i true).getD m true=false:=by rw[getD_set_ne true him];exact hml
  rcases af.qJ i o hol with hlb | ⟨hla,hlb⟩
  ·rw[hgd] at hlb;exact sK hcg hinv ⟨hokg,hlb⟩ hwp' ab fun B a' w' hw hiB hs'=>ih _ B a' w' (by simpa using hsz) hcl' hfu hiB hml' hw hs'
  ·exfalso
   have h5:=hlb (fun k=>listed.getD k false=true) hcl hon m (by omega) (Ne.symm him);have hms:m<listed.size:=by omega
   simp[Array.getD_eq_getD_getElem?,hms] at h5 hml;rw[hml] at h5;cases h5
theorem ae.jE{Q:Exit→ai→Prop}{A:ai}{on:List (List Nat)}{gs:List aH}(m:Nat)(ab:List FuncId)(L:ea)(σ:List Nat){g:bS}{dst:Option Nat}(af:CV ab L on gs σ m=true)(hk:gs[m]?=some ⟨dst,g,none⟩)(hi:cN L A)
  (h:∀ K:ai→Prop,(∀ B,mq c.P Q g B→K B)→bP c.P c.Y ab K (aB (eQ (σ++[m]) (gs.take m++[gq])) A)):ae c (.b9 (some on) gs) Q A:=by
 intro code hc a w hs';cases code <;>simp only[eC] at hc <;>try (first | (cases hc;done) | ((repeat' split at hc) <;>cases hc;done))
 rename_i id aT draw;split at hc
 case h_2=>cases hc
 rename_i gs' hgs;split at hc
 case isFalse=>cases hc
 rename_i hok;simp only[v6,bo.b9.injEq] at hc;obtain ⟨he,rfl⟩:=hc;cases draw with
 |false=>cases he
 |true =>
  simp only[cond_true,v6] at he;subst he;simp only[Bool.not_true,Bool.false_or] at hok;simp only[CV,t8] at af;obtain ⟨hd1,hd2,hd3⟩:=af;have hglen:=Nat.eq_of_beq_eq_true hd3;have hops:gs'.length=aT.size:=by rw[(iA hgs).1,zx2]
  have hXl:(gs'.take m++[gq]).length=aT.size:=by simp;omega
  have hp:=CZ (l:=aT.toList) (by rw[hXl,zx2]) hd1;have h7:∀ i,i<aT.toList.length→(((aT.toList.map cn).getD i []).all (fun k=>decide (k<i))&&Nat.beq ((kg (aT.toList.map cn)).getD i 0) (ly (kg (aT.toList.map cn)) ((aT.toList.map cn).getD i [])))=true:=by
   simp only[pC,t8,zx0,zw7] at hd1;intro i hi;have:=hd1.2.2 i (by rw[hXl];simpa using hi);simpa only[t8,zx0] using this
  have hmlt:m<aT.size:=by omega
  refine wpIn_region_any hok (G2 (K:=mq c.P Q g) (m:=m) hmlt (fun B a' w' Kw hpn hs2 =>?_) hgs (gs:=gs'.take m++[gq]) (fun i him =>?_) ?_ hXl hp (fun S hS o ho hon j hj hjm =>?_) aT.size (Array.replicate aT.size false) A a _ (by simp) ?_ ?_ hi (by simp[Array.getD_eq_getD_getElem?,hmlt]) ?_ ?_)
  ·obtain ⟨g1,hg1,hg2⟩:=(iA hgs).2 m aT[m] (by simp[hmlt]);rw[hk,v6] at hg1;subst hg1;obtain ⟨q1,q2,q3,q4⟩:=nx hg2;have wn:Region.wanted aT[m] (yielded aT a'.tmps)=true:=by
    rcases q4 with ⟨a5,_⟩ | ⟨_,_,_,_,_,a5⟩
    ·simp[Region.wanted,a5]
    ·simp at a5
   unfold wpOpIn;rw[zw5 hmlt];simp only[wn,if_true];exact CW q1 hpn hs2
  ·rcases Nat.lt_or_ge i m with ao | ao
   ·rw[zy6 (by simp;omega),List.getElem?_take,if_pos ao]
   ·rw[zw6 (by rw[hXl];omega),zw6 (by omega)]
  ·rw[zw1 (by simp;omega)];simp[show min m gs'.length=m by omega]
  ·have hb:(kg (aT.toList.map cn)).getD m 0 |>.testBit j:=by
    simp only[sU,zx0,zw7,Bool.or_eq_true,beq_iff_eq] at hd2;rcases hd2 j (by omega) with e | e
    ·exact absurd e hjm
    ·exact e
   exact HN h7 hS m m o (zz3 _) ho hon j hb
  ·intro i o _ h
   exfalso
   simp only[Array.getD_eq_getD_getElem?,Array.getElem?_replicate] at h;split at h <;>simp at h
  ·refine zv0 (List.length_filter_le _ _) ?_;rw[hp.len,hXl];exact zz3 _
  ·have hall:dX (σ++[m]) (Array.replicate aT.size false)=σ++[m]:=by
    simp only[dX];refine List.filter_eq_self.2 fun i hi =>?_;have J:=hp.lt i hi;rw[hXl] at J;simp[J]
   simp only[gv,hall];exact h _ fun _ hb=>hb
  ·obtain ⟨D,E,hs'⟩:=hs';exact ⟨D,E,hs'.grow (w' := { w with drawn:=w.drawn+1 }) ⟨rfl,rfl,rfl,zz3 _,fun _ _=>rfl⟩ (fun _ _ h=>h) (fun _ _ h _=>h) (fun b o h=>hs'.aQ b o h)⟩
end
end Go.Abs
namespace Go.Abs
open Go Go.RowKit
open Enc (enc)
def lD(w:World):aR:=fun b _=>b<w.heap.size
structure iw (P:Program) (t:TypeId) (α:Type) [Enc α]:Prop where
 cells:P.cellsOf t=Enc.sz α
 YM:0<Enc.sz α
 py:∀ {H:Type} {enc0:TypeId×Value→H} {w:World} {fuel:Nat} {cs:List Value} {x:DataW H×List MemPlace},DataW.trod enc0 P w 0 (fun _=>true) true fuel t cs=some x→∃ a:α,al w (lD w) dh (enc a) cs
theorem YD{P:Program}{t:TypeId}(ht:P.underlying t=some (.int .i64))(hc:P.cellsOf t=1):iw P t Int :=
 ⟨hc,by decide,fun h=>by
  obtain ⟨n,rfl,_,hw⟩:=DataW.trod_int ht h;refine ⟨n,?_⟩;rw[eF,al];simp only[Lit.wf,t8,decide_eq_true_eq] at hw;exact ⟨rfl,hw.1,hw.2⟩⟩
theorem GU(a:Addr)(i j:Nat):(a.add i).add j=a.add (i+j):=by
 unfold Addr.add;by_cases hi:i=0 <;>by_cases hj:j=0 <;>simp[hi,hj,Nat.add_assoc]
theorem YE{P:Program}{t e:TypeId}{α:Type}[Enc α](ht:P.underlying t=some (.slice e))(he:iw P e α)(hc:P.cellsOf t=1):iw P t (List α) :=
 ⟨hc,by rw[jz];exact Nat.one_pos,fun {H enc0 w fuel cs x} h=>by
  rcases DataW.trod_slice ht h with ⟨rfl,_⟩ | ⟨a,len,cap,elems,rest,n,_,rfl,_,hb,ao,hm,hlen,hel,_⟩
  ·refine ⟨[],?_⟩;simp only[hh,zx8];rw[al];exact ⟨none,0,rfl,zz3 _,by decide,.inl rfl,by simp⟩
  ·have key:∀ k,k≤len→∃ (l:List α) (cs':List Value),l.length=k∧aM w (lD w) dh (l.map enc) cs'∧cs'.length=k*Enc.sz α∧∀ j v,cs'[j]?=some v→w.cell? (a.add j)=some v:=by
    intro k
    induction k with
    |zero=>exact fun _=>⟨[],[],rfl,by simp[aM],by simp,by simp⟩
    |succ k ih =>
     intro hk;obtain ⟨l,cs',J,U,ah,ar⟩:=ih (by omega);have h5:=hel k (by omega);have h6:k<elems.length:=by omega
     rw[zy4 h6] at h5;obtain ⟨ce,h7,h8⟩:=zw3.1 h5;obtain ⟨y,hy⟩:=he.py h8;rw[he.cells] at h7;obtain ⟨_,h9,h10⟩:=World.cells?_some h7;refine ⟨l++[y],cs'++ce,by simp[J],?_,by rw[zz6,ah,h9,Nat.succ_mul],fun j v hj =>?_⟩
     ·rw[zy5];refine j7 _ _ _ _ U ?_;simp only[zz4,zx8,aM];exact ⟨ce,[],by simp,hy,rfl⟩
     ·rcases Nat.lt_or_ge j cs'.length with hlt | hge
      ·rw[zy6 hlt] at hj;exact ar j v hj
      ·rw[zw1 hge] at hj;have hlt:j-cs'.length<Enc.sz α:=by
        have:=(zz5.1 hj).1;omega
       have:=h10 (j-cs'.length) hlt;rw[GU,←ah,Nat.add_sub_cancel' hge] at this;rw[this];exact hj
   obtain ⟨l,cs',J,U,ah,ar⟩:=key len (zz3 _);refine ⟨l,?_⟩;simp only[hh,al,zz8];refine ⟨some a,cap,by rw[J],by omega,hm,?_,G1 l⟩;by_cases hz:len=0
   ·left;have:l=[]:=List.length_eq_zero_iff.1 (by omega);rw[this];rfl
   right
   have hpos:0<cs'.length:=by rw[ah];exact Nat.mul_pos (Nat.pos_of_ne_zero hz) he.YM
   have aY:=ar 0 cs'[0] (zy4 hpos);have hsp:a.spot=none:=by
    simp only[Addr.add,if_true] at aY;unfold World.cell? at aY;split at aY
    ·split at aY
     ·cases aY
     ·rename_i ab;cases bG:a.spot <;>simp_all
    ·cases aY
   have ha:∀ j,a.add j=⟨a.block,a.off+j,none⟩:=fun j=>by
    unfold Addr.add;split
    ·rename_i hj;subst hj;cases a;simp_all
    ·rfl
   refine ⟨a.block,a.off,cs',by cases a;simp_all,fun j v hj =>?_,U⟩;have h5:=ar j v hj;rw[ha] at h5;refine ⟨h5,?_⟩
   show (⟨a.block,a.off+j,none⟩:Addr).block<_
   exact World.block_lt_of_cell? w _ h5⟩
end Go.Abs
namespace Go.Abs
open Go Go.RowKit Go.ChangeShapes
open Enc (enc)
def qF(P:Program)(t:TypeId)(l:List (TypeId×Nat)):Bool:=match P.underlying t with
 |some (.struct fs)=>fs.toList.map (fun f=>(f.type,f.offset))==l
 |_=>false
def BR(P:Program)(t:TypeId)(n:Nat)(e:TypeId):Bool:=match P.underlying t with
 |some (.array n' e')=>n'==n&&e'==e
 |_=>false
theorem WQ{P:Program}{t:TypeId}{n:Nat}{e:TypeId}(h:BR P t n e=true):P.underlying t=some (.array n e):=by
 unfold BR at h;split at h
 ·rename_i n' e' ht;simp only[t8,beq_iff_eq] at h;rw[ht,h.1,h.2]
 ·cases h
theorem WU{P:Program}{t:TypeId}{l:List (TypeId×Nat)}(h:qF P t l=true):∃ fs,P.underlying t=some (.struct fs)∧fs.toList.map (fun f=>(f.type,f.offset))=l:=by
 unfold qF at h;split at h
 ·rename_i fs ht;exact ⟨fs,ht,by simpa using h⟩
 ·cases h
theorem Fj{H:Type}{enc0:TypeId×Value→H}{P:Program}{w:World}{fuel:Nat}{t:TypeId}{l:List (TypeId×Nat)}{cs:List Value}{x:DataW H×List MemPlace}(ht:qF P t l=true)(h:DataW.trod enc0 P w 0 (fun _=>true) true fuel t cs=some x) :
  cs.length=P.cellsOf t∧∃ m:Nat,∀ (i:Nat) (u:TypeId) (o:Nat),l[i]?=some (u,o)→∃ y,DataW.trod enc0 P w 0 (fun _=>true) true m u ((cs.drop o).take (P.cellsOf u))=some y:=by
 obtain ⟨fs,J,U⟩:=WU ht;obtain ⟨xs,m,_,_,ah,ar,h5⟩:=DataW.trod_struct J h;refine ⟨ah,m,fun i u o hi =>?_⟩;rw[←U] at hi;simp only[zy9,t7,Prod.mk.injEq] at hi;obtain ⟨f,hf,rfl,rfl⟩:=hi;have hf':fs[i]?=some f:=by simpa using hf
 have h6:=h5 i f hf';have hlt:i<fs.size:=(zy0.1 hf').1;rw[zy4 (by omega)] at h6;exact ⟨_,h6⟩
section
variable {P:Program} {t:TypeId} {α β γ:Type} [Enc α] [Enc β] [Enc γ] {H:Type} {enc0:TypeId×Value→H} {w:World} {fuel:Nat} {cs:List Value} {x:DataW H×List MemPlace}
theorem CS{u0 u1 u2:TypeId}(ht:qF P t [(u0,0),(u1,Enc.sz α),(u2,Enc.sz α+Enc.sz β)]=true)(aY:iw P u0 α)(J:iw P u1 β)(U:iw P u2 γ)(hc:P.cellsOf t=Enc.sz α+Enc.sz β+Enc.sz γ)(h:DataW.trod enc0 P w 0 (fun _=>true) true fuel t cs=some x) :
  ∃ (a:α) (b:β) (c:γ),al w (lD w) dh (.agg [enc a,enc b,enc c]) cs:=by
 obtain ⟨ao,m,hf⟩:=Fj ht h;obtain ⟨y0,k0⟩:=hf 0 u0 0 rfl;obtain ⟨y1,k1⟩:=hf 1 u1 (Enc.sz α) rfl;obtain ⟨y2,k2⟩:=hf 2 u2 (Enc.sz α+Enc.sz β) rfl;obtain ⟨a,ha⟩:=aY.py k0;obtain ⟨b,hb⟩:=J.py k1;obtain ⟨c,hcc⟩:=U.py k2;rw[aY.cells,List.drop_zero] at ha;rw[J.cells] at hb;rw[U.cells,List.take_of_length_le (by rw[List.length_drop];omega)] at hcc;refine ⟨a,b,c,?_⟩;simp only[al,aM];refine ⟨_,_,(List.take_append_drop (Enc.sz α) cs).symm,ha,(cs.drop (Enc.sz α)).take (Enc.sz β),(cs.drop (Enc.sz α)).drop (Enc.sz β),(List.take_append_drop _ _).symm,hb,(cs.drop (Enc.sz α)).drop (Enc.sz β),[],by simp,?_,rfl⟩;rw[List.drop_drop];exact hcc
theorem wS{fj:Nat}{v:Value}{d:DataW H}{p:List MemPlace}(ho:iw P t α)(hA:Enc.gG α=true)(hst:(match P.underlying t with | some (.struct _) | some (.array _ _)=>true | _=>false)=true)(hv:Value.okWide P w .any fj t v)
  (h:DataW.Trod enc0 P w 0 (fun _=>true) true t v d p):∃ (a:α) (cs:List Value),bA (enc a) v cs∧al w (lD w) dh (enc a) cs:=by
 obtain ⟨fuel,h⟩:=h;have hagg:∃ cs,v=.agg cs:=by
  unfold Value.okWide at hv;split at hst
  ·rename_i fs ht;rw[ht] at hv;obtain ⟨cs,J,_⟩:=hv;exact ⟨cs,J⟩
  ·rename_i n e ht;rw[ht] at hv;obtain ⟨cs,J,_⟩:=hv;exact ⟨cs,J⟩
  ·cases hst
 obtain ⟨cs,rfl⟩:=hagg;have e:(Value.agg cs).cells.toList=cs.toList:=rfl;rw[e] at h;obtain ⟨a,ha⟩:=ho.py h;exact ⟨a,cs.toList,by simp[bA,Enc.agg,hA],ha⟩
end
theorem YQ{H:Type}{enc0:TypeId×Value→H}{P:Program}{f:Func}{s:ChangeSpec}{apart kl handsOn again:Bool}{W W':World}{args:Array Value}{v:Value}{ds gs:List (DataW H)}{before pa pv:List MemPlace}
  (hW:DataW.Whole enc0 P f.params.toList s.vars apart W args.toList ds gs before)
  (hres:∀ (b:Nat) (sp:Nat→Bool) (af:Bool),DataW.TrodAll enc0 P W' b sp af f.resultTypes.toList (v.resultList f.resultTypes.size) (s.fn H (ds++gs)).results [])
  (hargs:∀ sp:Nat→Bool,(∀ p∈before,sp p.block=true)→DataW.TrodAll enc0 P W' 0 sp true f.params.toList args.toList (s.fn H (ds++gs)).args pa)
  (hvars:∀ sp:Nat→Bool,(∀ p∈before,sp p.block=true)→DataW.TrodVars enc0 P W' sp s.vars (s.fn H (ds++gs)).vars pv)
  (hps:before=pa++pv) (hb:Below W.heap.size W W')
  (hok:∀ (j:Nat) (t:TypeId) (r:Value),f.resultTypes[j]?=some t→(v.resultList f.resultTypes.size)[j]?=some r→Value.okWide P W' .any 0 t r) :
  s.post enc0 P f apart kl handsOn again W args v W':=by
 have hlt:∀ p∈before,p.block<W.heap.size:=fun p hp=>by simpa using hW.lt p hp
 have hold:∀ p∈before,(fun b=>decide (b<W.heap.size)) p.block=true:=fun p hp=>by simpa using hlt p hp
 refine ⟨ds,gs,before,[],pa,pv,hW,hres _ _ _,hargs _ hold,hvars _ hold,World.keptBut_mono (fun p hp=>⟨hp,?_⟩) (hb.frame (· ∈ before)),fun _ =>?_⟩
 ·rw[hps,zx6] at hp;exact Or.inr hp
 ·obtain ⟨_,_,_,_,_,hz,hn⟩:=hW;refine ⟨hok,_,_,([]++pa)++pv,⟨[]++pa,pv,trodAll_append (hargs _ (fun _ _=>rfl)) (hres _ _ _),hvars _ (fun _ _=>rfl),rfl,?_,?_⟩,?_⟩
  ·intro b off hp;have hp':MemPlace.cell b off∈before:=by rw[hps];simpa using hp
   rw[hb.frozen (p:=⟨b,off,none⟩) (hlt _ hp')];exact hz b off hp'
  ·intro ha;have:=hn ha;rw[hps] at this;simpa using this
  ·intro p hp _;rw[hps];simpa using hp
theorem Xa{P:Program}{f:FuncId}{fn:Func}{s:ChangeSpec}{H:Type}{enc0:TypeId×Value→H}{W:World}{ds gs:List (DataW H)}{before:List MemPlace}{xs:List I}{tb:TypeId}{v0 v1 v2:Value}{t0 t1 t2:TypeId}{d0 d1 d2:DataW H}{dm p1 p2:List MemPlace}{again handsOn kl:Bool}
  (ao:laidOutB P=true) (hpar:fn.params.toList=[t0,t1,t2]) (hds:ds=[d0,d1,d2]) (hgs:gs=[]) (hbef:before=dm++p1++p2)
  (hvars:s.vars=[]) (hfn:s.fn H [d0,d1,d2] = { results:=[.lit (.bool true)],args:=[d0,d1,d2] }) (hres:fn.resultTypes = #[tb]) (htb:P.underlying tb=some .bool)
  (hW:DataW.Whole enc0 P fn.params.toList s.vars false W #[v0,v1,v2].toList ds gs before)
  (aY:DataW.Trod enc0 P W 0 (fun _=>true) true t0 v0 d0 dm) (J:DataW.Trod enc0 P W 0 (fun _=>true) true t1 v1 d1 p1) (U:DataW.Trod enc0 P W 0 (fun _=>true) true t2 v2 d2 p2)
  (hr:∀ t∈[t0,t1,t2],P.readableRec t=true∧t<P.types.size)
  (hctr:bf P f xs (enc true)) (hlaid:gI P W (fun _=>False)) (hv:aI W (lD W) dh xs [v0,v1,v2]) :
  Calls P f #[v0,v1,v2] W fun e W'=>∃ v,e=.returned v∧s.post enc0 P fn false kl handsOn again W #[v0,v1,v2] v W':=by
 subst hds hgs;refine (hctr.2 W (lD W) [v0,v1,v2] hlaid (fun _ _ h=>h) hv).mono fun e W' ⟨v,D',he,hrv,hb,_,_⟩=>⟨v,he,?_⟩
 have hvb:v=.bool true:=kz hrv;subst hvb;have hlt:∀ x∈before,x.block<W.heap.size:=fun x hx=>by simpa using hW.lt x hx
 rw[hbef] at hlt;refine YQ (pa:=dm++(p1++p2)) (pv:=[]) hW (fun _ _ _ =>?_) (fun sp hsp =>?_) (fun _ _ =>?_) (by rw[hbef];simp) hb ?_
 ·simp only[List.append_nil,hfn,hres];exact trodAll_mk1 (shut_bool htb true)
 ·simp only[List.append_nil,hfn,hpar];rw[hbef] at hsp;have aP:∀ {t:TypeId} {v:Value} {d:DataW H} {p:List MemPlace},t∈[t0,t1,t2]→DataW.Trod enc0 P W 0 (fun _=>true) true t v d p→(∀ x∈p,x∈dm++p1++p2)→DataW.Trod enc0 P W' 0 sp true t v d p:=fun ht h hp =>
   WideElems.Trod_stays ao (hr _ ht).1 (hr _ ht).2 h (fun x hx=>hb.same (hlt x (hp x hx))) (fun x hx=>hsp x (hp x hx))
  exact trodAll_mk3 (aP (by simp) aY fun x hx=>by simp[hx]) (aP (by simp) J fun x hx=>by simp[hx]) (aP (by simp) U fun x hx=>by simp[hx])
 ·simp only[List.append_nil,hfn,hvars];rfl
 ·intro j t r hj hv';rw[hres] at hj hv'
  match j,hj,hv' with
  |0,hj,hv' =>
   simp[Value.resultList] at hj hv';subst hj;subst hv';simp[Value.okWide,htb,Cell.okWide,Cell.ok]
def x9(P:Program)(u:TypeId)(n:Nat)(S:I→Prop):Prop:=P.cellsOf u=n ∧
 ∀ {H:Type} {enc0:TypeId×Value→H} {w:World} {fuel:Nat} {cs:List Value} {x:DataW H×List MemPlace},DataW.trod enc0 P w 0 (fun _=>true) true fuel u cs=some x→∃ v,S v∧al w (lD w) dh v cs
theorem iw.aT{P:Program}{u:TypeId}{α:Type}[Enc α](h:iw P u α):x9 P u (Enc.sz α) fun v=>∃ a:α,v=enc a :=
 ⟨h.cells,fun hx=>by obtain ⟨a,ha⟩:=h.py hx;exact ⟨enc a,⟨a,rfl⟩,ha⟩⟩
def pw(P:Program):Nat→List (TypeId×Nat)→List (Nat×(I→Prop))→Prop
 |_,[],[]=>True
 |o,(u,off)::l,(n,S)::Ss=>off=o∧x9 P u n S∧pw P (o+n) l Ss
 |_,_,_=>False
def oF:List (Nat×(I→Prop))→List I→Prop
 | [],[]=>True
 |(_,S)::Ss,v::vs=>S v∧oF Ss vs
 |_,_=>False
theorem lE{n:Nat}{S:I→Prop}{Ss:List (Nat×(I→Prop))} : ∀ {vs:List I},oF ((n,S)::Ss) vs→∃ v vs',vs=v::vs'∧S v∧oF Ss vs'
 | [],h=>h.elim
 |v::vs,h=>⟨v,vs,rfl,h.1,h.2⟩
theorem yh:∀ {vs:List I},oF [] vs→vs=[]
 | [],_=>rfl
 |_::_,h=>h.elim
def rL:List (Nat×(I→Prop))→Nat
 | []=>0
 |(n,_)::Ss=>n+rL Ss
theorem AW{P:Program}{H:Type}{enc0:TypeId×Value→H}{w:World}{m:Nat}{cs:List Value} : ∀ (l:List (TypeId×Nat)) (Ss:List (Nat×(I→Prop))) (o:Nat),pw P o l Ss→cs.length=o+rL Ss →
  (∀ (i:Nat) (u:TypeId) (off:Nat),l[i]?=some (u,off)→∃ y,DataW.trod enc0 P w 0 (fun _=>true) true m u ((cs.drop off).take (P.cellsOf u))=some y)→∃ vs,oF Ss vs∧aM w (lD w) dh vs (cs.drop o)
 | [],[],o,_,ao,_=>⟨[],trivial,by simp only[aM];exact List.drop_eq_nil_of_le (by simp only[rL] at ao;omega)⟩
 |(u,off)::l,(n,S)::Ss,o,h,ao,hf=>by
  obtain ⟨rfl,U,ah⟩:=h;obtain ⟨y,hy⟩:=hf 0 u off rfl;obtain ⟨v,hv1,hv2⟩:=U.2 hy;obtain ⟨vs,k1,k2⟩:=AW l Ss (off+n) ah (by simp only[rL] at ao;omega) fun i u' o' hi=>hf (i+1) u' o' hi;refine ⟨v::vs,⟨hv1,k1⟩,?_⟩;simp only[aM];rw[U.1] at hv2;exact ⟨_,(cs.drop off).drop n,(List.take_append_drop n _).symm,hv2,by rw[List.drop_drop];exact k2⟩
 | [],_::_,_,h,_,_=>h.elim
 |_::_,[],_,h,_,_=>by simp[pw] at h
theorem CR{P:Program}{t:TypeId}{H:Type}{enc0:TypeId×Value→H}{w:World}{fuel:Nat}{cs:List Value}{x:DataW H×List MemPlace}(l:List (TypeId×Nat))(Ss:List (Nat×(I→Prop)))(ht:qF P t l=true)(hok:pw P 0 l Ss)(hc:P.cellsOf t=rL Ss)(h:DataW.trod enc0 P w 0 (fun _=>true) true fuel t cs=some x) :
  ∃ vs,oF Ss vs∧al w (lD w) dh (.agg vs) cs:=by
 obtain ⟨ao,m,hf⟩:=Fj ht h;obtain ⟨vs,k1,k2⟩:=AW l Ss 0 hok (by rw[ao,hc];omega) hf;exact ⟨vs,k1,by simpa only[al,List.drop_zero] using k2⟩
end Go.Abs
namespace Go.Proofs.YthbdbocionnfgaaGreatDoor
open Go Go.Abs
open Go.Abs.Enc (enc)
structure bh where
 kind:Int
 aK:Int
 other:Int
 no:Int
 deriving DecidableEq,Inhabited
instance:Enc bh where
 enc g:=.agg [.int .i64 g.kind,.int .i64 g.aK,.int .i64 g.other,.int .i64 g.no]
 sz:=4
 aX:=.eH [.one,.one,.one,.one]
 gG:=true
 done g:=by simp only[I.done,I.hd,Bool.and_self]
 size g:=by simp only[I.size,I.sizes]
 iq g:=by simp only[I.aX,I.cT]
 agg _:=rfl
structure dB where
 kind:Int
 c6:Int
 to:Int
 aK:Int
 no:Int
 deriving DecidableEq,Inhabited
instance:Enc dB where
 enc g:=.agg [.int .i64 g.kind,.int .i64 g.c6,.int .i64 g.to,.int .i64 g.aK,.int .i64 g.no]
 sz:=5
 aX:=.eH [.one,.one,.one,.one,.one]
 gG:=true
 done g:=by simp only[I.done,I.hd,Bool.and_self]
 size g:=by simp only[I.size,I.sizes]
 iq g:=by simp only[I.aX,I.cT]
 agg _:=rfl
structure cZ where
 no:Int
 to:Int
 aK:Int
 dj:Bool
 deriving DecidableEq,Inhabited
instance:Enc cZ where
 enc g:=.agg [.int .i64 g.no,.int .i64 g.to,.int .i64 g.aK,.bool g.dj]
 sz:=4
 aX:=.eH [.one,.one,.one,.one]
 gG:=true
 done g:=by simp only[I.done,I.hd,Bool.and_self]
 size g:=by simp only[I.size,I.sizes]
 iq g:=by simp only[I.aX,I.cT]
 agg _:=rfl
theorem iM{fs:List I}{f off:Nat}{v:I}(J:f<fs.length)(h:I.sizes (fs.take f)=off):c9 fs f off v=some v:=by simp[c9,h,J]
theorem Fx :
  (∀ g:bh,(enc g).dI=some [.int .i64 g.kind,.int .i64 g.aK,.int .i64 g.other,.int .i64 g.no])∧(∀ g:dB,(enc g).dI=some [.int .i64 g.kind,.int .i64 g.c6,.int .i64 g.to,.int .i64 g.aK,.int .i64 g.no]) ∧
  (∀ g:cZ,(enc g).dI=some [.int .i64 g.no,.int .i64 g.to,.int .i64 g.aK,.bool g.dj]) ∧
  (∀ (a b c d:I) v,(a.size=1∧b.size=1∧c.size=1)→c9 [a,b,c,d] 0 0 v=some v) ∧
  (∀ (g:bh),b6 (some 4) (enc g)=true)∧(∀ (g:dB),b6 (some 5) (enc g)=true)∧(∀ (g:cZ),b6 (some 4) (enc g)=true) ∧
  (∀ (fs:List I) x,(x::fs)[0]?=some x)∧(∀ (fs:List I) x n,(x::fs)[n+1]?=fs[n]?)∧(∀ (fs:List I) x,(x::fs)[1]?=fs[0]?)∧(∀ (fs:List I) x,(x::fs)[2]?=fs[1]?)∧(∀ (fs:List I) x,(x::fs)[3]?=fs[2]?)∧(∀ (fs:List I) x,(x::fs)[4]?=fs[3]?) :=
 ⟨fun _=>rfl,fun _=>rfl,fun _=>rfl,fun a b c d v h=>iM (by simp) (by simp[I.sizes]),fun _=>by rw[fg];rfl,fun _=>by rw[fg];rfl,fun _=>by rw[fg];rfl,fun _ _=>rfl,fun _ _ _=>rfl,fun _ _=>rfl,fun _ _=>rfl,fun _ _=>rfl,fun _ _=>rfl⟩
theorem CF:(∀ (a b c d:Int) v,c9 [.int .i64 a,.int .i64 b,.int .i64 c,.int .i64 d] 0 0 v=some v)∧(∀ (a b c d:Int) v,c9 [.int .i64 a,.int .i64 b,.int .i64 c,.int .i64 d] 1 1 v=some v)∧(∀ (a b c d:Int) v,c9 [.int .i64 a,.int .i64 b,.int .i64 c,.int .i64 d] 2 2 v=some v)∧(∀ (a b c d:Int) v,c9 [.int .i64 a,.int .i64 b,.int .i64 c,.int .i64 d] 3 3 v=some v) ∧
  (∀ (a b c d e:Int) v,c9 [.int .i64 a,.int .i64 b,.int .i64 c,.int .i64 d,.int .i64 e] 0 0 v=some v)∧(∀ (a b c d e:Int) v,c9 [.int .i64 a,.int .i64 b,.int .i64 c,.int .i64 d,.int .i64 e] 1 1 v=some v)∧(∀ (a b c d e:Int) v,c9 [.int .i64 a,.int .i64 b,.int .i64 c,.int .i64 d,.int .i64 e] 2 2 v=some v)∧(∀ (a b c d e:Int) v,c9 [.int .i64 a,.int .i64 b,.int .i64 c,.int .i64 d,.int .i64 e] 3 3 v=some v)∧(∀ (a b c d e:Int) v,c9 [.int .i64 a,.int .i64 b,.int .i64 c,.int .i64 d,.int .i64 e] 4 4 v=some v) ∧
  (∀ (a b c:Int) (d:Bool) v,c9 [.int .i64 a,.int .i64 b,.int .i64 c,.bool d] 0 0 v=some v)∧(∀ (a b c:Int) (d:Bool) v,c9 [.int .i64 a,.int .i64 b,.int .i64 c,.bool d] 1 1 v=some v)∧(∀ (a b c:Int) (d:Bool) v,c9 [.int .i64 a,.int .i64 b,.int .i64 c,.bool d] 2 2 v=some v)∧(∀ (a b c:Int) (d:Bool) v,c9 [.int .i64 a,.int .i64 b,.int .i64 c,.bool d] 3 3 v=some v) :=
 ⟨fun _ _ _ _ _=>rfl,fun _ _ _ _ _=>rfl,fun _ _ _ _ _=>rfl,fun _ _ _ _ _=>rfl,fun _ _ _ _ _ _=>rfl,fun _ _ _ _ _ _=>rfl,fun _ _ _ _ _ _=>rfl,fun _ _ _ _ _ _=>rfl,fun _ _ _ _ _ _=>rfl,fun _ _ _ _ _=>rfl,fun _ _ _ _ _=>rfl,fun _ _ _ _ _=>rfl,fun _ _ _ _ _=>rfl⟩
theorem aC:(type_of% @Fx)∧(type_of% @CF)∧(∀ {α:Type} [Enc α] (aN:Bool) (A:ai) (x:α),bg aN A (enc x)=some (enc x))∧(∀ {α:Type} [Enc α] (x:α),(enc x).bT=true)∧(type_of% @mM)∧(type_of% @Cp)∧(type_of% @As)∧(type_of% @kC)∧(type_of% @bI) :=
 ⟨Fx,CF,@lJ,@er,mM,Cp,As,kC,bI⟩
def cK(lo hi n:Int):Bool:=decide (lo≤n)&&decide (n≤hi)
theorem oA(n lo hi:Int):bf Tryz.prog 105 [enc n,enc lo,enc hi] (enc (cK lo hi n)):=by
 refine bf.bZ Tryz.func105 H3 Jc Kn (u8 rfl) (fun hwf W0 bF E1 =>?_);simp only[yE,Df,bJ,zz1,Nat.reduceAdd];have R:=y6 @kC @bI
 repeat' ((first |(with_reducible refine .guard (fun hb =>?_) (fun hb =>?_) <;>try simp only[hb])|refine ae.aE (by decide +kernel) rfl fun K hK =>?_|(refine .av [0,1,2,6] hK ?_;clear hK K)|(with_reducible refine .done (hK _ ?_);clear hK K)|refine ae.of rfl ?_|(with_reducible refine aA.aD (fun h =>?_) (fun h =>?_) <;>try simp only[h])) <;>try simp only[aF,R,simprocAttr])
 all_goals clear R
 all_goals (simp at *;simp_all[cK])
 all_goals omega
theorem mn(n:Int):bf Tryz.prog 61 [enc n] (enc (cK 0 5 n)):=by
 refine bf.bZ Tryz.func61 IF JM K7 (u8 rfl) (fun hwf W0 bF E1 =>?_);simp only[zj,D6,bJ];have R:=y6 @kC @bI
 repeat' ((first |refine ae.aE (by decide +kernel) rfl fun K hK =>?_|refine .flat _ (oA n 0 5) rfl ?_|(refine .av [0,2] hK ?_;clear hK K)|(with_reducible refine .done (hK _ ?_);clear hK K)|refine ae.of rfl ?_|(with_reducible refine aA.aD (fun h =>?_) (fun h =>?_) <;>try simp only[h])) <;>try simp only[aF,R,simprocAttr])
 all_goals clear R
theorem oC(n:Int):bf Tryz.prog 71 [enc n] (enc (cK 1 9999 n)):=by
 refine bf.bZ Tryz.func71 IN JU Lf (u8 rfl) (fun hwf W0 bF E1 =>?_);simp only[zr,Ee,bJ];have R:=y6 @kC @bI
 repeat' ((first |refine ae.aE (by decide +kernel) rfl fun K hK =>?_|refine .flat _ (oA n 1 9999) rfl ?_|(refine .av [0,2] hK ?_;clear hK K)|(with_reducible refine .done (hK _ ?_);clear hK K)|refine ae.of rfl ?_|(with_reducible refine aA.aD (fun h =>?_) (fun h =>?_) <;>try simp only[h])) <;>try simp only[aF,R,simprocAttr])
 all_goals clear R
theorem x5(n:Int):bf Tryz.prog 90 [enc n] (enc (cK 1 200 n)):=by
 refine bf.bZ Tryz.func90 I3 J7 Lt (u8 rfl) (fun hwf W0 bF E1 =>?_);simp only[zH,Et,bJ];have R:=y6 @kC @bI
 repeat' ((first |refine ae.aE (by decide +kernel) rfl fun K hK =>?_|refine .flat _ (oA n 1 200) rfl ?_|(refine .av [0,2] hK ?_;clear hK K)|(with_reducible refine .done (hK _ ?_);clear hK K)|refine ae.of rfl ?_|(with_reducible refine aA.aD (fun h =>?_) (fun h =>?_) <;>try simp only[h])) <;>try simp only[aF,R,simprocAttr])
 all_goals clear R
theorem oB(n lo hi:Int):bf Tryz.prog 68 [enc n,enc lo,enc hi] (enc (cK lo hi n)):=by
 refine bf.bZ Tryz.func68 IL JS Ld (u8 rfl) (fun hwf W0 bF E1 =>?_);simp only[zp,Ec,bJ,zz1,Nat.reduceAdd];have R:=y6 @kC @bI
 repeat' ((first |(with_reducible refine .guard (fun hb =>?_) (fun hb =>?_) <;>try simp only[hb])|refine ae.aE (by decide +kernel) rfl fun K hK =>?_|(refine .av [0,1,2,6] hK ?_;clear hK K)|(with_reducible refine .done (hK _ ?_);clear hK K)|refine ae.of rfl ?_|(with_reducible refine aA.aD (fun h =>?_) (fun h =>?_) <;>try simp only[h])) <;>try simp only[aF,R,simprocAttr])
 all_goals clear R
 all_goals (simp at *;simp_all[cK])
 all_goals omega
theorem pV(n:Int):bf Tryz.prog 64 [enc n] (enc (cK 0 5 n)):=by
 refine bf.bZ Tryz.func64 IH JO K9 (u8 rfl) (fun hwf W0 bF E1 =>?_);simp only[zl,D8,bJ];have R:=y6 @kC @bI
 repeat' ((first |refine ae.aE (by decide +kernel) rfl fun K hK =>?_|refine .flat _ (oB n 0 5) rfl ?_|(refine .av [0,2] hK ?_;clear hK K)|(with_reducible refine .done (hK _ ?_);clear hK K)|refine ae.of rfl ?_|(with_reducible refine aA.aD (fun h =>?_) (fun h =>?_) <;>try simp only[h])) <;>try simp only[aF,R,simprocAttr])
 all_goals clear R
theorem um(n:Int):bf Tryz.prog 67 [enc n] (enc (cK 1 9999 n)):=by
 refine bf.bZ Tryz.func67 IK JR Lc (u8 rfl) (fun hwf W0 bF E1 =>?_);simp only[zo,Eb,bJ];have R:=y6 @kC @bI
 repeat' ((first |refine ae.aE (by decide +kernel) rfl fun K hK =>?_|refine .flat _ (oB n 1 9999) rfl ?_|(refine .av [0,2] hK ?_;clear hK K)|(with_reducible refine .done (hK _ ?_);clear hK K)|refine ae.of rfl ?_|(with_reducible refine aA.aD (fun h =>?_) (fun h =>?_) <;>try simp only[h])) <;>try simp only[aF,R,simprocAttr])
 all_goals clear R
def fP(x:bh):Bool :=
 if x.kind=1∨x.kind=2 then cK 1 9999 x.aK&&(x.other==0&&x.no==0)
 else if 3≤x.kind∧x.kind≤8 then cK 1 9999 x.aK&&(cK 0 5 x.other&&cK 1 200 x.no)
 else false
theorem Gr(x:bh):bf Tryz.prog 66 [enc x] (enc (fP x)):=by
 refine bf.bZ Tryz.func66 IJ JQ Lb (u8 rfl) (fun hwf W0 bF E1 =>?_);simp only[zn,Ea,bJ];have R:=aC
 repeat' ((first |(with_reducible refine .guard (fun hb =>?_) (fun hb =>?_) <;>try simp only[hb])|refine ae.aE (by decide +kernel) rfl fun K hK =>?_|refine .flat _ (oC x.aK) rfl ?_|refine .flat _ (mn x.other) rfl ?_|refine .flat _ (x5 x.no) rfl ?_|(refine .av [0,1,2,4,5,21] hK ?_;clear hK K)|(with_reducible refine .done (hK _ ?_);clear hK K)|refine ae.of rfl ?_|(with_reducible refine aA.aD (fun h =>?_) (fun h =>?_) <;>try simp only[h])) <;>try simp only[aF,R,simprocAttr])
 all_goals clear R
 all_goals (simp_all[fP])
 all_goals (intros;exfalso;omega)
theorem F4(x:bh):bf Tryz.prog 22 [enc x] (enc (if fP x then (0:Int) else 1)):=by
 refine bf.bZ Tryz.func22 Ii Jr KM (u8 rfl) (fun hwf W0 bF E1 =>?_);simp only[yT,DH,bJ];have R:=aC
 repeat' ((first |(with_reducible refine .guard (fun hb =>?_) (fun hb =>?_) <;>try simp only[hb])|refine ae.aE (by decide +kernel) rfl fun K hK =>?_|refine .flat _ (um x.aK) rfl ?_|refine .flat _ (pV x.other) rfl ?_|refine .flat _ (oB x.no 1 200) rfl ?_|(refine .av [0,1,2,4,5,20,21,40] hK ?_;clear hK K)|(with_reducible refine .done (hK _ ?_);clear hK K)|refine ae.of rfl ?_|(with_reducible refine aA.aD (fun h =>?_) (fun h =>?_) <;>try simp only[h])) <;>try simp only[aF,R,simprocAttr])
 all_goals clear R
 all_goals (simp_all[fP])
 all_goals (intros;exfalso;omega)
def lW(r:dB):Bool:=cK 1 4 r.kind&&(cK 0 5 r.c6&&(cK 0 5 r.to&&((r.c6 != r.to)&&(cK 1 9999 r.aK&&cK 1 200 r.no))))
theorem Gs(r:dB):bf Tryz.prog 70 [enc r] (enc (lW r)):=by
 refine bf.bZ Tryz.func70 IM JT Le (u8 rfl) (fun hwf W0 bF E1 =>?_);simp only[zq,Ed,bJ];have R:=aC
 repeat' ((first |(with_reducible refine .guard (fun hb =>?_) (fun hb =>?_) <;>try simp only[hb])|refine ae.aE (by decide +kernel) rfl fun K hK =>?_|refine .flat _ (oA r.kind 1 4) rfl ?_|refine .flat _ (mn r.c6) rfl ?_|refine .flat _ (mn r.to) rfl ?_|refine .flat _ (oC r.aK) rfl ?_|refine .flat _ (x5 r.no) rfl ?_|(refine .av [0,1,2] hK ?_;clear hK K)|(with_reducible refine .done (hK _ ?_);clear hK K)|refine ae.of rfl ?_|(with_reducible refine aA.aD (fun h =>?_) (fun h =>?_) <;>try simp only[h])) <;>try simp only[aF,R,simprocAttr])
 all_goals clear R
 all_goals (simp_all[lW])
theorem F5(r:dB):bf Tryz.prog 26 [enc r] (enc (if lW r then (0:Int) else 95)):=by
 refine bf.bZ Tryz.func26 Il Ju KP (u8 rfl) (fun hwf W0 bF E1 =>?_);simp only[yW,DK,bJ];have R:=aC
 repeat' ((first |(with_reducible refine .guard (fun hb =>?_) (fun hb =>?_) <;>try simp only[hb])|refine ae.aE (by decide +kernel) rfl fun K hK =>?_|refine .flat _ (pV r.c6) rfl ?_|refine .flat _ (pV r.to) rfl ?_|refine .flat _ (um r.aK) rfl ?_|refine .flat _ (oB r.no 1 200) rfl ?_|refine .flat _ (oB r.kind 1 4) rfl ?_|(refine .av [0,1,2,37] hK ?_;clear hK K)|(with_reducible refine .done (hK _ ?_);clear hK K)|refine ae.of rfl ?_|(with_reducible refine aA.aD (fun h =>?_) (fun h =>?_) <;>try simp only[h])) <;>try simp only[aF,R,simprocAttr])
 all_goals clear R
 all_goals (simp_all[lW])
theorem gV{i n:Nat}(h:i<n):decide ((i:Int)<(n:Int))=true:=by simp;omega
theorem hE{i n:Nat}(h:¬ i<n):decide ((i:Int)<(n:Int))=false:=by simp;omega
theorem gZ{i:Nat}(h:i<9223372036854775807):IntKind.i64.wrap ((i:Int)+1)=((i+1:Nat):Int):=by rw[lA _ (by omega) (by omega)];rfl
theorem GI(x y:bh):x=y↔x.kind=y.kind∧x.aK=y.aK∧x.other=y.other∧x.no=y.no:=by cases x;cases y;simp
theorem GL(x y:dB):x=y↔x.kind=y.kind∧x.c6=y.c6∧x.to=y.to∧x.aK=y.aK∧x.no=y.no:=by cases x;cases y;simp
theorem GN(x y:cZ):x=y↔x.no=y.no∧x.to=y.to∧x.aK=y.aK∧x.dj=y.dj:=by cases x;cases y;simp
theorem MH(x y:bh):b7 (.aP [.i .i64,.i .i64,.i .i64,.i .i64]) (enc x) (enc y)=some (decide (x=y)):=by
 show b7 (.aP [.i .i64,.i .i64,.i .i64,.i .i64]) (.agg [.int .i64 x.kind,.int .i64 x.aK,.int .i64 x.other,.int .i64 x.no]) (.agg [.int .i64 y.kind,.int .i64 y.aK,.int .i64 y.other,.int .i64 y.no])=_
 simp[b7,hs,jd,GI];rfl
theorem AJ(x y:dB):b7 (.aP [.i .i64,.i .i64,.i .i64,.i .i64,.i .i64]) (enc x) (enc y)=some (decide (x=y)):=by
 show b7 (.aP [.i .i64,.i .i64,.i .i64,.i .i64,.i .i64]) (.agg [.int .i64 x.kind,.int .i64 x.c6,.int .i64 x.to,.int .i64 x.aK,.int .i64 x.no]) (.agg [.int .i64 y.kind,.int .i64 y.c6,.int .i64 y.to,.int .i64 y.aK,.int .i64 y.no])=_
 simp[b7,hs,jd,GL];rfl
theorem AK(x y:cZ):b7 (.aP [.i .i64,.i .i64,.i .i64,.b]) (enc x) (enc y)=some (decide (x=y)):=by
 show b7 (.aP [.i .i64,.i .i64,.i .i64,.b]) (.agg [.int .i64 x.no,.int .i64 x.to,.int .i64 x.aK,.bool x.dj]) (.agg [.int .i64 y.no,.int .i64 y.to,.int .i64 y.aK,.bool y.dj])=_
 simp[b7,hs,jd,GN];rfl
theorem XD(x y:Int):(x != y) = !decide (x=y):=by by_cases h:x=y <;>simp[h]
theorem Ge(a b:List Int):bf Tryz.prog 41 [enc a,enc b] (enc (decide (a=b))):=by
 refine bf.bZ Tryz.func41 Iz JG K1 (u8 rfl) (fun hwf W0 bF E1 =>?_);simp only[ze,DW,bJ,zz1];have hlen:a.length≤maxLen:=((nk a).1 hwf.1).1;simp only[maxLen] at hlen;clear hwf;by_cases ao:a.length=b.length
 case neg =>
  have hn:((a.length:Int) != (b.length:Int))=true:=by simp;omega
  have R:=y6 @hn aC
  repeat' ((first |refine ae.aE (by decide +kernel) rfl fun K hK =>?_|(refine .av [0,1,4,5,10,12,13,14,24] hK ?_;clear hK K)|(with_reducible refine .done (hK _ ?_);clear hK K)|refine ae.of rfl ?_|(with_reducible refine aA.aD (fun h =>?_) (fun h =>?_) <;>try simp only[h])) <;>try simp only[aF,R,simprocAttr])
  all_goals clear R
  have:¬ a=b:=fun e=>ao (by rw[e]);simp[this]
 have hn:((a.length:Int) != (b.length:Int))=false:=by simp;omega
 have R:=y6 @hn aC
 repeat' ((first |refine ae.aE (by decide +kernel) rfl fun K hK =>?_|(refine .av [0,1,4,5,10,12,13,14,24] hK ?_;clear hK K)|(with_reducible refine .done (hK _ ?_);clear hK K)|refine ae.of rfl ?_|(with_reducible refine aA.aD (fun h =>?_) (fun h =>?_) <;>try simp only[h])) <;>try simp only[aF,R,simprocAttr])
 all_goals clear R
 refine ae.loop (fun i:Nat=>au [(0,enc a),(1,enc b),(12,.int .i64 a.length),(13,.int .i64 i)] []) (fun i=>i≤a.length∧∀ k,k<i→a[k]?=b[k]?) (fun i=>a.length-i) 0 ⟨zw8 _,fun k h=>by omega⟩ ?_ (fun i hi =>?_)
 ·refine bH.dW ?_ ?_ ?_ ?_ <;>simp[cG,dF,cW,cY,cD,I.only,cJ]
 obtain ⟨hi1,hi2⟩:=hi;by_cases hlt:i<a.length
 ·have hc:=gV hlt;have he:=fun A=>fh (A:=A) 1 hlt rfl;have hlt2:i<b.length:=by omega
  have he2:=fun A=>fh (A:=A) 1 hlt2 rfl;have hw:=gZ (i:=i) (by omega);have hq:=XD a[i] b[i];rcases hp:decide (a[i]=b[i])
  ·rw[hp] at hq;have R:=y6 @hc (y6 @he (y6 @he2 (y6 @hq aC)))
   repeat' ((first |refine ae.aE (by decide +kernel) rfl fun K hK =>?_|(refine .av [0,1,4,5,10,12,13,14,24] hK ?_;clear hK K)|(with_reducible refine .done (hK _ ?_);clear hK K)|refine ae.of rfl ?_|(with_reducible refine aA.aD (fun h =>?_) (fun h =>?_) <;>try simp only[h])) <;>try simp only[aF,R,simprocAttr])
   all_goals clear R
   have:¬ a=b:=fun e=>by subst e;simp at hp
   simp[this]
  ·rw[hp] at hq;have R:=y6 @hc (y6 @he (y6 @he2 (y6 @hq (y6 @hw aC))))
   repeat' ((first |refine ae.aE (by decide +kernel) rfl fun K hK =>?_|(refine .av [0,1,4,5,10,12,13,14,24] hK ?_;clear hK K)|(with_reducible refine .done (hK _ ?_);clear hK K)|refine ae.of rfl ?_|(with_reducible refine aA.aD (fun h =>?_) (fun h =>?_) <;>try simp only[h])) <;>try simp only[aF,R,simprocAttr])
   all_goals clear R
   refine ⟨i+1,⟨by omega,fun k hk =>?_⟩,by omega,?_⟩
   ·by_cases e:k=i
    ·subst e;have:a[k]=b[k]:=by simpa using hp
     simp[hlt,hlt2,this]
    ·exact hi2 k (by omega)
   ·refine bH.dW ?_ ?_ ?_ ?_ <;>simp[cG,dF,cW,cY,cD,I.only,cJ]
 ·have hc:=hE hlt;have R:=y6 @hc aC
  repeat' ((first |refine ae.aE (by decide +kernel) rfl fun K hK =>?_|(refine .av [0,1,4,5,10,12,13,14,24] hK ?_;clear hK K)|(with_reducible refine .done (hK _ ?_);clear hK K)|refine ae.of rfl ?_|(with_reducible refine aA.aD (fun h =>?_) (fun h =>?_) <;>try simp only[h])) <;>try simp only[aF,R,simprocAttr])
  all_goals clear R
  have:a=b:=List.ext_getElem? fun k=>by
   by_cases hk:k<i
   ·exact hi2 k hk
   ·rw[zw6 (by omega),zw6 (by omega)]
  simp[this]
theorem Gh(a b:List bh):bf Tryz.prog 52 [enc a,enc b] (enc (decide (a=b))):=by
 refine bf.bZ Tryz.func52 IC JJ K4 (u8 rfl) (fun hwf W0 bF E1 =>?_);simp only[zg,DZ,bJ,zz1];have hlen:a.length≤maxLen:=((nk a).1 hwf.1).1;simp only[maxLen] at hlen;clear hwf;by_cases ao:a.length=b.length
 case neg =>
  have hn:((a.length:Int) != (b.length:Int))=true:=by simp;omega
  have R:=y6 @hn aC
  repeat' ((first |refine ae.aE (by decide +kernel) rfl fun K hK =>?_|(refine .av [0,1,4,5,10,12,13,14,24] hK ?_;clear hK K)|(with_reducible refine .done (hK _ ?_);clear hK K)|refine ae.of rfl ?_|(with_reducible refine aA.aD (fun h =>?_) (fun h =>?_) <;>try simp only[h])) <;>try simp only[aF,R,simprocAttr])
  all_goals clear R
  have:¬ a=b:=fun e=>ao (by rw[e]);simp[this]
 have hn:((a.length:Int) != (b.length:Int))=false:=by simp;omega
 have R:=y6 @hn aC
 repeat' ((first |refine ae.aE (by decide +kernel) rfl fun K hK =>?_|(refine .av [0,1,4,5,10,12,13,14,24] hK ?_;clear hK K)|(with_reducible refine .done (hK _ ?_);clear hK K)|refine ae.of rfl ?_|(with_reducible refine aA.aD (fun h =>?_) (fun h =>?_) <;>try simp only[h])) <;>try simp only[aF,R,simprocAttr])
 all_goals clear R
 refine ae.loop (fun i:Nat=>au [(0,enc a),(1,enc b),(12,.int .i64 a.length),(13,.int .i64 i)] []) (fun i=>i≤a.length∧∀ k,k<i→a[k]?=b[k]?) (fun i=>a.length-i) 0 ⟨zw8 _,fun k h=>by omega⟩ ?_ (fun i hi =>?_)
 ·refine bH.dW ?_ ?_ ?_ ?_ <;>simp[cG,dF,cW,cY,cD,I.only,cJ]
 obtain ⟨hi1,hi2⟩:=hi;by_cases hlt:i<a.length
 ·have hc:=gV hlt;have he:=fun A=>fh (A:=A) 4 hlt rfl;have hlt2:i<b.length:=by omega
  have he2:=fun A=>fh (A:=A) 4 hlt2 rfl;have hw:=gZ (i:=i) (by omega);have hq:=MH a[i] b[i];rcases hp:decide (a[i]=b[i])
  ·rw[hp] at hq;have R:=y6 @hc (y6 @he (y6 @he2 (y6 @hq aC)))
   repeat' ((first |refine ae.aE (by decide +kernel) rfl fun K hK =>?_|(refine .av [0,1,4,5,10,12,13,14,24] hK ?_;clear hK K)|(with_reducible refine .done (hK _ ?_);clear hK K)|refine ae.of rfl ?_|(with_reducible refine aA.aD (fun h =>?_) (fun h =>?_) <;>try simp only[h])) <;>try simp only[aF,R,simprocAttr])
   all_goals clear R
   have:¬ a=b:=fun e=>by subst e;simp at hp
   simp[this]
  ·rw[hp] at hq;have R:=y6 @hc (y6 @he (y6 @he2 (y6 @hq (y6 @hw aC))))
   repeat' ((first |refine ae.aE (by decide +kernel) rfl fun K hK =>?_|(refine .av [0,1,4,5,10,12,13,14,24] hK ?_;clear hK K)|(with_reducible refine .done (hK _ ?_);clear hK K)|refine ae.of rfl ?_|(with_reducible refine aA.aD (fun h =>?_) (fun h =>?_) <;>try simp only[h])) <;>try simp only[aF,R,simprocAttr])
   all_goals clear R
   refine ⟨i+1,⟨by omega,fun k hk =>?_⟩,by omega,?_⟩
   ·by_cases e:k=i
    ·subst e;have:a[k]=b[k]:=by simpa using hp
     simp[hlt,hlt2,this]
    ·exact hi2 k (by omega)
   ·refine bH.dW ?_ ?_ ?_ ?_ <;>simp[cG,dF,cW,cY,cD,I.only,cJ]
 ·have hc:=hE hlt;have R:=y6 @hc aC
  repeat' ((first |refine ae.aE (by decide +kernel) rfl fun K hK =>?_|(refine .av [0,1,4,5,10,12,13,14,24] hK ?_;clear hK K)|(with_reducible refine .done (hK _ ?_);clear hK K)|refine ae.of rfl ?_|(with_reducible refine aA.aD (fun h =>?_) (fun h =>?_) <;>try simp only[h])) <;>try simp only[aF,R,simprocAttr])
  all_goals clear R
  have:a=b:=List.ext_getElem? fun k=>by
   by_cases hk:k<i
   ·exact hi2 k hk
   ·rw[zw6 (by omega),zw6 (by omega)]
  simp[this]
theorem xT(a b:List dB):bf Tryz.prog 17 [enc a,enc b] (enc (decide (a=b))):=by
 refine bf.bZ Tryz.func17 If Jo KJ (u8 rfl) (fun hwf W0 bF E1 =>?_);simp only[yQ,DE,bJ,zz1];have hlen:a.length≤maxLen:=((nk a).1 hwf.1).1;simp only[maxLen] at hlen;clear hwf;by_cases ao:a.length=b.length
 case neg =>
  have hn:((a.length:Int) != (b.length:Int))=true:=by simp;omega
  have R:=y6 @hn aC
  repeat' ((first |refine ae.aE (by decide +kernel) rfl fun K hK =>?_|(refine .av [0,1,4,5,10,12,13,14,24] hK ?_;clear hK K)|(with_reducible refine .done (hK _ ?_);clear hK K)|refine ae.of rfl ?_|(with_reducible refine aA.aD (fun h =>?_) (fun h =>?_) <;>try simp only[h])) <;>try simp only[aF,R,simprocAttr])
  all_goals clear R
  have:¬ a=b:=fun e=>ao (by rw[e]);simp[this]
 have hn:((a.length:Int) != (b.length:Int))=false:=by simp;omega
 have R:=y6 @hn aC
 repeat' ((first |refine ae.aE (by decide +kernel) rfl fun K hK =>?_|(refine .av [0,1,4,5,10,12,13,14,24] hK ?_;clear hK K)|(with_reducible refine .done (hK _ ?_);clear hK K)|refine ae.of rfl ?_|(with_reducible refine aA.aD (fun h =>?_) (fun h =>?_) <;>try simp only[h])) <;>try simp only[aF,R,simprocAttr])
 all_goals clear R
 refine ae.loop (fun i:Nat=>au [(0,enc a),(1,enc b),(12,.int .i64 a.length),(13,.int .i64 i)] []) (fun i=>i≤a.length∧∀ k,k<i→a[k]?=b[k]?) (fun i=>a.length-i) 0 ⟨zw8 _,fun k h=>by omega⟩ ?_ (fun i hi =>?_)
 ·refine bH.dW ?_ ?_ ?_ ?_ <;>simp[cG,dF,cW,cY,cD,I.only,cJ]
 obtain ⟨hi1,hi2⟩:=hi;by_cases hlt:i<a.length
 ·have hc:=gV hlt;have he:=fun A=>fh (A:=A) 5 hlt rfl;have hlt2:i<b.length:=by omega
  have he2:=fun A=>fh (A:=A) 5 hlt2 rfl;have hw:=gZ (i:=i) (by omega);have hq:=AJ a[i] b[i];rcases hp:decide (a[i]=b[i])
  ·rw[hp] at hq;have R:=y6 @hc (y6 @he (y6 @he2 (y6 @hq aC)))
   repeat' ((first |refine ae.aE (by decide +kernel) rfl fun K hK =>?_|(refine .av [0,1,4,5,10,12,13,14,24] hK ?_;clear hK K)|(with_reducible refine .done (hK _ ?_);clear hK K)|refine ae.of rfl ?_|(with_reducible refine aA.aD (fun h =>?_) (fun h =>?_) <;>try simp only[h])) <;>try simp only[aF,R,simprocAttr])
   all_goals clear R
   have:¬ a=b:=fun e=>by subst e;simp at hp
   simp[this]
  ·rw[hp] at hq;have R:=y6 @hc (y6 @he (y6 @he2 (y6 @hq (y6 @hw aC))))
   repeat' ((first |refine ae.aE (by decide +kernel) rfl fun K hK =>?_|(refine .av [0,1,4,5,10,12,13,14,24] hK ?_;clear hK K)|(with_reducible refine .done (hK _ ?_);clear hK K)|refine ae.of rfl ?_|(with_reducible refine aA.aD (fun h =>?_) (fun h =>?_) <;>try simp only[h])) <;>try simp only[aF,R,simprocAttr])
   all_goals clear R
   refine ⟨i+1,⟨by omega,fun k hk =>?_⟩,by omega,?_⟩
   ·by_cases e:k=i
    ·subst e;have:a[k]=b[k]:=by simpa using hp
     simp[hlt,hlt2,this]
    ·exact hi2 k (by omega)
   ·refine bH.dW ?_ ?_ ?_ ?_ <;>simp[cG,dF,cW,cY,cD,I.only,cJ]
 ·have hc:=hE hlt;have R:=y6 @hc aC
  repeat' ((first |refine ae.aE (by decide +kernel) rfl fun K hK =>?_|(refine .av [0,1,4,5,10,12,13,14,24] hK ?_;clear hK K)|(with_reducible refine .done (hK _ ?_);clear hK K)|refine ae.of rfl ?_|(with_reducible refine aA.aD (fun h =>?_) (fun h =>?_) <;>try simp only[h])) <;>try simp only[aF,R,simprocAttr])
  all_goals clear R
  have:a=b:=List.ext_getElem? fun k=>by
   by_cases hk:k<i
   ·exact hi2 k hk
   ·rw[zw6 (by omega),zw6 (by omega)]
  simp[this]
structure bx where
 aw:Int
 j:List bh
 eD:Int
 deriving DecidableEq,Inhabited
instance:Enc bx where
 enc g:=.agg [.int .i64 g.aw,enc g.j,.int .i64 g.eD]
 sz:=3
 aX:=.eH [.one,.one,.one]
 gG:=true
 done g:=by simp only[I.done,I.hd,Enc.done,Bool.and_self]
 size g:=by simp only[I.size,I.sizes,jT,jz]
 iq g:=by simp only[I.aX,I.cT,eJ,mA]
 agg _:=rfl
theorem dA:(∀ g:bx,(enc g).dI=some [.int .i64 g.aw,enc g.j,.int .i64 g.eD])∧(∀ (a c:Int) (b:List bh) v,c9 [.int .i64 a,enc b,.int .i64 c] 0 0 v=some v)∧(∀ (a c:Int) (b:List bh) v,c9 [.int .i64 a,enc b,.int .i64 c] 1 1 v=some v)∧(∀ (a c:Int) (b:List bh) v,c9 [.int .i64 a,enc b,.int .i64 c] 2 2 v=some v) ∧
  (∀ (g:bx),b6 (some 3) (enc g)=true)∧(∀ (g:List bh),b6 none (enc g)=true) :=
 ⟨fun _=>rfl,fun _ _ _ _=>iM (by simp) rfl,fun _ _ _ _=>iM (by simp) rfl,fun _ _ _ _=>iM (by simp) (by simp[I.sizes,I.size,jT,jz]),fun _=>by rw[fg];rfl,fun _=>by simp[kj,ki]⟩
theorem GK(x y:bx):x=y↔x.aw=y.aw∧x.j=y.j∧x.eD=y.eD:=by cases x;cases y;simp
theorem F2(a b:bx):bf Tryz.prog 16 [enc a,enc b] (enc (decide (a=b))):=by
 refine bf.bZ Tryz.func16 Ie Jn KI (u8 rfl) (fun hwf W0 bF E1 =>?_);simp only[yP,DC,bJ,zz1];have R:=y6 @dA aC
 repeat' ((first |(with_reducible refine .guard (fun hb =>?_) (fun hb =>?_) <;>try simp only[hb])|refine ae.aE (by decide +kernel) rfl fun K hK =>?_|refine .flat _ (Gh a.j b.j) rfl ?_|(refine .av [0,1,2,3,4] hK ?_;clear hK K)|(with_reducible refine .done (hK _ ?_);clear hK K)|refine ae.of rfl ?_|(with_reducible refine aA.aD (fun h =>?_) (fun h =>?_) <;>try simp only[h])) <;>try simp only[aF,R,simprocAttr])
 all_goals clear R
 all_goals (simp_all[GK])
theorem HQ(aw:Int):(dK [.int .i64 0,.nils 4,.int .i64 0] [(0,.int .i64 aw)]).map I.agg=some (I.agg [.int .i64 aw,.nils 4,.int .i64 0]):=by
 simp[dK,I.bT,I.size]
theorem qa:(dK [.int .i64 0,.nils 4,.int .i64 0] []).map I.agg=some (I.agg [.int .i64 0,.nils 4,.int .i64 0]):=by
 simp[dK]
theorem rH(A:ai)(n:Nat)(b:I)(x y u v:Int)(rest:List aH):df A (some 3) n [] b (.agg [.int .i64 x,.nils 4,.int .i64 y]) rest (some (.agg [.int .i64 u,.nils 4,.int .i64 v]))=aB rest (A.aV n (.box (.agg [.int .i64 x,.nils 4,.int .i64 y]))):=dE rfl rfl rfl
def qV(aw:Int):bx×Int:=if cK 0 5 aw then (⟨aw,[],0⟩,0) else (⟨0,[],0⟩,90)
theorem xU(aw:Int):bf Tryz.prog 19 [enc aw] (.tuple [enc (qV aw).1,enc (qV aw).2]):=by
 refine bf.bZ Tryz.func19 Ih Jq KL (u8 rfl) (fun hwf W0 bF E1 =>?_);simp only[yS,DG,bJ];have R:=y6 @dA (y6 @HQ (y6 @qa (y6 @rH aC)))
 repeat' ((first |refine ae.aE (by decide +kernel) rfl fun K hK =>?_|refine .flat _ (mn aw) rfl ?_|(refine .av [0,2,3,6] hK ?_;clear hK K)|(with_reducible refine .done (hK _ ?_);clear hK K)|refine ae.of rfl ?_|(with_reducible refine aA.aD (fun h =>?_) (fun h =>?_) <;>try simp only[h])) <;>try simp only[aF,R,simprocAttr])
 all_goals clear R
 all_goals (simp_all[qV];try rfl)
end Go.Proofs.YthbdbocionnfgaaGreatDoor
namespace Go.Abs
open Go Go.RowKit
open Enc (enc)
def wb:Option Nat→Code
 |none=>.ret
 |some id=>.exit id
def AS:Option Nat→Exit
 |none=>.ret
 |some id=>.exit id
def pT(o:Obj)(A:ai)(os:List (Nat×aq)):Prop:=∀ n x,aj (en o os) n=some x→A.o n=some x∧x.only (az (en o os))=true∧x.eg=true
def EV(o:Obj)(In:List (Nat×aq)→Prop)(Ix:Option Nat→List (Nat×aq)→Prop):Exit→ai→Prop
 | .normal,A=>∃ os,pT o A os∧In os
 | .ret,A=>∃ os,pT o A os∧Ix none os
 | .exit id,A=>∃ os,pT o A os∧Ix (some id) os
 |_,_=>False
def GO(P:Program)(nn:Nat)(x y:bo)(ps:List Nat)(tsR:List (Nat×I))(N:Nat)(item:Nat→List I)(aZ:Nat→List (Nat×aq)→Prop)(Ix:Option Nat→List (Nat×aq)→Prop):Prop :=
 ∀ k osb,k<N→aZ k osb→∀ (w:World) (D:aR) (E:a8) (l:Nat) (o1 o2:Obj),
  ae ⟨P,w,D,nn,cE E,E,dq,some l,none⟩ x (eB (fun B=>B.o 1999999=some (.dD o1)∧ae ⟨P,w,D,nn,cE E,E,dq,some l,none⟩ y (EV o2 (aZ (k+1)) Ix) (B.aV 1999999 (.dD o2))) (fun _ _=>False)) (au (tv ps (item k) tsR) (en o1 osb))
section
variable {c:cS} {Q:Exit→ai→Prop}
theorem WM{o:Obj}{A:ai}{os:List (Nat×aq)}(h:pT o A os)(o':Obj):∀ n x,aj (en o' os) n=some x→(A.aV 1999999 (.dD o')).o n=some x∧x.only (az (en o' os))=true∧x.eg=true:=fun n x hx=>by
 have e:az (en o' os)=az (en o os):=by funext m;rw[kY,kY]
 rw[e];by_cases hn:n=1999999
 ·subst hn;rw[pf,if_pos rfl,v6] at hx;subst hx;exact ⟨by simp[ai.aV],rfl,rfl⟩
 ·rw[pf,if_neg hn] at hx;obtain ⟨J,U⟩:=h n x (by rw[pf,if_neg hn];exact hx);exact ⟨by simp only[ai.aV,if_neg hn];exact J,U⟩
theorem ae.mb{f:aO}{ps:List Nat}{x y:bo}{ts tsR:List (Nat×I)}{os0 osb0:List (Nat×aq)}{ρ:List (Nat×Nat)}{g:FuncId}{caps:List I}{N:Nat}{item:Nat→List I}
  (aZ:Nat→List (Nat×aq)→Prop) (Ix:Option Nat→List (Nat×aq)→Prop) (hr0:c.lj=none∧c.fj=none) (hn6:c.n≤1000000)
  (hf:ak (au ts os0) f=.func g caps) (hcl:I.cg caps=true) (hcb:e8 c.P g=true) (hit:x8 c.P g caps N item) (hlen:∀ k,(item k).length=ps.length)
  (hfree:aj os0 999999=none) (h19:az osb0 1999999=false) (hρ:bK ρ 1999999=999999)
  (hgv:∀ o,gi ρ (en o osb0) ((999999,.dD o)::os0)) (hts:nd ρ (az osb0) ts tsR)
  (hI:∀ k os,aZ k os→eY osb0 os) (hIx:∀ e os,Ix e os→eY osb0 os) (aY:aZ 0 osb0)
  (hround:GO c.P c.n x y ps tsR N item aZ Ix)
  (hdone:∀ os,aZ N os→Q .normal (au ts (dy ρ os++os0))) (hexit:∀ e os,Ix e os→Q (AS e) (au ts (dy ρ os++os0))) :
  ae c (.mb f ps x y) Q (au ts os0):=by
 obtain ⟨hr,hbase⟩:=hr0;intro code hc a w ab;cases code <;>simp only[eC] at hc <;>try (first | (cases hc;done) | ((repeat' split at hc) <;>cases hc;done))
 rename_i cf cps cx cy;split at hc
 case h_2=>cases hc
 rename_i f' x' y' hcf hcx hcy;split at hc
 case isFalse=>cases hc
 rename_i hpn;simp only[v6,bo.mb.injEq] at hc;obtain ⟨rfl,rfl,rfl,rfl⟩:=hc;obtain ⟨D,E,ab⟩:=ab;have hF:c.bC=Fence.wide:=by unfold cS.bC;rw[hr]
 have hE0:c.dh 999999=none:=ab.kl (.inr (by decide));have hval:∃ vs:List Value,a.eval cf=.func (.func g) #[] vs.toArray∧aI w D E caps vs:=by
  have hv:=bW ab hcf;rw[hf] at hv;obtain ⟨cs,q1,q2⟩:=hv;simp only[al] at q2;obtain ⟨vs,q3,q4⟩:=q2;exact ⟨vs,by rw[←mC (Ac hcb)];simpa[bA,I.isAgg,q3] using q1.symm,q4⟩
 obtain ⟨vs,hval,hvs⟩:=hval;rw[hF];refine wpIn_rangeFunc fun fn hfn =>?_;obtain ⟨rec,hrec⟩:∃ rec:LoopState→Option Code→Loop,rec=fun aP pe => { state:=aP,pending:=pe,fn,tmps:=a.tmps,params:=cps,assign:=cx,body:=cy,defers:=w.heap.size } :=⟨_,rfl⟩
 obtain ⟨E1,hs1,hE1,hup⟩:=ab.enter hbase hfree hE0 (o:=.loop (rec .ready none)) rfl;obtain ⟨W1,hW1⟩:∃ W1,(w.alloc (.deferred (some []))).alloc (.loop (rec .ready none))=W1:=⟨_,rfl⟩
 rw[hW1] at hs1 hup;obtain ⟨l,ao⟩:∃ l,l=w.heap.size+1:=⟨_,rfl⟩
 rw[←ao] at hE1;obtain ⟨yv,hyv⟩:∃ yv:Value,yv=.func (.yield l) #[] #[]:=⟨_,rfl⟩
 obtain ⟨a1,ha1⟩:∃ a1:Act,a1 = { a with defers := { target:=.collected w.heap.size,args := #[] } :: a.defers } :=⟨_,rfl⟩
 rw[←ha1] at hs1;refine ⟨l,[{ target:=.collected w.heap.size,args := #[] }],W1,{ target:=.fn (.func g) vs.toArray,args := #[yv] },W1,g,#[yv]++vs.toArray,W1,?_,?_,?_,?_,fun _=>by decide,?_⟩
 ·rw[←hW1,hrec,ao];exact run_enterLoop_outer _ _ _ _ _
 ·simp only[resolve,hval,hyv];simp[go_sem]
 ·intro f' _;trivial
 ·simp only[invoke,mY hcb]
 ·-- the iterator's own bargain
  have hG0:=hI 0 osb0 aY;obtain ⟨I',hI'⟩:∃ I':Nat→List (Nat×aq)→Prop,I'=fun k os=>∃ osb,os=en (.loop (rec .ready none)) osb∧aZ k osb:=⟨_,rfl⟩
  obtain ⟨Ix',hIx'⟩:∃ Ix':List (Nat×aq)→Prop,Ix'=fun os=>∃ e osb,os=en (.loop (rec .done (some (wb e)))) osb∧Ix e osb:=⟨_,rfl⟩
  obtain ⟨os1,hos1⟩:∃ os1,os1=en (.loop (rec .ready none)) osb0:=⟨_,rfl⟩
  obtain ⟨Y,hY⟩:∃ Y:Value→List I→List (Nat×aq)→cC→Prop,Y=fun v args os post=>v=yv∧∃ k,args=item k∧k<N∧I' k os∧∀ r os2,(r=.bool true∧I' (k+1) os2)∨(r=.bool false∧Ix' os2)→post r os2:=⟨_,rfl⟩
  have iD:∀ k os',I' k os'→eY os1 os':=fun k os' h=>by
   rw[hI'] at h;obtain ⟨osb,rfl,h⟩:=h;rw[hos1];exact (hI k osb h).en _ _
  have goodx:∀ os',Ix' os'→eY os1 os':=fun os' h=>by
   rw[hIx'] at h;obtain ⟨e,osb,rfl,h⟩:=h;rw[hos1];exact (hIx e osb h).en _ _
  have hctr:=hit Y yv I' Ix' os1 (by rw[hyv];rfl) (fun k os' post hk J U=>by rw[hY];exact ⟨rfl,k,rfl,hk,J,U⟩) iD goodx (by rw[hI'];exact ⟨osb0,hos1,aY⟩);have hgv1:gi ρ os1 ((999999,.dD (.loop (rec .ready none)))::os0):=by rw[hos1];exact hgv _
  obtain ⟨A0,hA0⟩:∃ A0:ai,A0=au ts ((999999,.dD (.loop (rec .ready none)))::os0):=⟨_,rfl⟩
  have hand:np (Calls c.P g) (fun w D E=>∀ n,oE ⟨c.P,w,D,n,cE E,E,Y,none,none⟩) (.raw yv::caps) os1 (fun r os'=>r=.tuple []∧(I' N os'∨Ix' os')):=fun w D E vs hy hlive hheld hv=>by
   refine (hctr.2 w D E vs hy hlive hheld hv).mono fun e w' ⟨v,he,D',E',r,os',q⟩=>⟨v,D',E',r,os',he,q⟩
  have hshare:=hs1.oh;obtain ⟨Dh,hDh⟩:∃ Dh,Dh=od (au ts ((999999,.dD (.loop (rec .ready none)))::os0)) D E1:=⟨_,rfl⟩
  rw[←hDh] at hshare;have hsh:=hshare.1;obtain ⟨Eh,hEh⟩:∃ Eh,Eh=ay ρ os1 E1:=⟨_,rfl⟩
  have isrec:az os1 1999999=true:=by rw[hos1,kY];simp
  have hEl:Eh 1999999=some (.op l):=by rw[hEh];simp only[ay,isrec,if_true,hρ];exact hE1
  have EhIn:∀ n e,Eh n=some e→az os1 n=true:=fun n e h=>by
   rw[hEh] at h;simp only[ay] at h;split at h
   ·assumption
   ·cases h
  have hyok:∀ n,oE ⟨c.P,W1,Dh,n,cE Eh,Eh,Y,none,none⟩:=by
   refine fun n=>⟨by rw[hEh];exact hs1.o8,?_⟩
   intro v' args os' post' hYv w2 D2 E2 vs2 hsince hlive hheld hrvs;rw[hY] at hYv;obtain ⟨rfl,k,rfl,hkN,hIk,hpost⟩:=hYv;have hIk0:=hIk;rw[hI'] at hIk;obtain ⟨osb,rfl,hIk⟩:=hIk;have gk:=iD k _ hIk0;have gkb:=hI k osb hIk;have in2:∀ m,az os1 m=true→E2 m≠none:=fun m hm=>by
    rw[←gk.same m] at hm;cases hx:aj (en (.loop (rec .ready none)) osb) m with
    |none=>simp[az,hx] at hm
    |some x=>have:=hheld.bQ m;rw[hx] at this;exact th this
   have same2:∀ m e,Eh m=some e→e.eg=true→E2 m=some e:=fun m e he hfx=>by
    rcases hsince.dP m e he with h | ⟨e',h,hle⟩
    ·exact absurd h (in2 m (EhIn m e he))
    ·rw[hle.eq hfx] at h;exact h
   have hEl2:E2 1999999=some (.op l):=same2 _ _ hEl rfl;have hob:=hheld.bQ 1999999;rw[pf,if_pos rfl] at hob;obtain ⟨b,j1,_,j3,_,_⟩:=hob;rw[hEl2] at j1;cases j1;have hsz:vs2.toArray.size=cps.size:=by have:=rE hrvs;rw[hlen] at this;simpa using this
   have hyr:=run_yield (P:=c.P) (args:=vs2.toArray) j3 (by rw[hrec];exact hsz);rw[hrec] at hyr;refine ⟨l,hyv,fn,_,cx,cy,hyr,roundIn_of_wpIn trivial ?_⟩;clear hyr
   -- the round's own frame
   obtain ⟨cr,hcr⟩:∃ cr:cS,cr=⟨c.P,w2,D2,c.n,cE E2,E2,dq,some l,none⟩:=⟨_,rfl⟩
   have hFr:cr.bC=Fence.wide.inRound l:=by rw[hcr];rfl
   have hlat:dS W1 Dh Eh w2 D2 E2:=by
    refine ⟨hsince.cQ,hsince.fu.cell,fun m b aX he=>same2 m _ he rfl,fun m aJ l he =>?_,fun m b he=>same2 m _ he rfl,fun m b he=>same2 m _ he rfl,hsince.fu.jl⟩;rcases hsince.dP m _ he with h | ⟨e',h,hle⟩
    ·exact absurd h (in2 m (EhIn m _ he))
    ·rcases hle with rfl | ⟨_,_,blk',l',e,rfl,k1,k2⟩
     ·exact ⟨aJ,l,h,zz3 _,fun _=>rfl⟩
     ·cases e;exact ⟨blk',l',h,k1,k2⟩
   have hslots:nd ρ (az os1) ts tsR:=by
    have:∀ tsR:List (Nat×I),nd ρ (az osb0) ts tsR→nd ρ (az os1) ts tsR:=by
     intro tsR
     induction tsR with
     |nil=>exact fun h=>h
     |cons q r ih =>
      intro h;obtain ⟨J,U,ah⟩:=h;exact ⟨J,iO (fun n hn=>by rw[hos1,kY,hn];simp) _ U,ih ah⟩
    exact this tsR hts
   have hsr:aW cr (au tsR (en (.loop (rec .ready none)) osb)) { tmps:=a.tmps,defers:=[] } w2 D2 E2:=by
    rw[hcr];refine ⟨ab.sz,⟨[],rfl,.nil,fun _ h=>by simp at h⟩,fun t =>?_,eZ.refl _ _,fun _ _ h _=>h,hlive,fun m=>(hheld.bQ m).h4 fun e b he hb=>.inr ⟨m,e,he,hb⟩,hheld.cL,fun _ e h=>.inr ⟨e,h,.refl e⟩,fun m hm =>?_,fun _ _ h=>h,⟨hsince.qL,fun _ _ _ _ h=>h.elim⟩,.refl _ _⟩
    ·rcases Fh hslots t with h | ⟨J,U⟩
     ·simp only[au];rw[h];simp[bd]
     ·have ah:=hsh.dO t;rw[ha1] at ah;simp only[au] at ah ⊢;rw[J] at ah;have ar:=(bd.bm (w:=W1) (D:=Dh) (p:=az os1) (ρ:=bK ρ) (E:=Eh) (E':=E1) (fun n hn=>by rw[hEh];simp only[ay,hn,if_true]) U).1 ah;exact bd.later hlat ar
    ·have hmi:az os1 m=true:=by
      rw[←gk.same m];have:=hheld.bQ m;cases hx:aj (en (.loop (rec .ready none)) osb) m with
      |none=>rw[hx] at this;exact absurd this hm
      |some x=>simp[az,hx]
     have:=gk.lQ m hmi;exact ⟨zv0 hn6 this,this⟩
   have hsp:=aW.Dd cps.toList vs2 (item k) tsR _ hsr (fun p hp=>by rw[hcr];have:=zx0.1 hpn p hp;simpa using this) hrvs (by have:=hsz;simpa using this.symm);have htm:(cps.zip vs2.toArray).foldl (fun t (q:Tmp×Value)=>t.setIfInBounds q.1 q.2) a.tmps=(cps.toList.zip vs2).foldl (fun t q=>t.setIfInBounds q.1 q.2) a.tmps:=by
    rw[←Array.foldl_toList];simp
   have hx:=hround k osb hkN hIk w2 D2 E2 l (.loop (rec .ready none)) (.loop { rec .ready none with state:=.busy });rw[←hcr] at hx;have hx1:=hx cx (by rw[hcr];exact hcx) _ w2 ⟨D2,E2,hsp⟩;rw[hFr] at hx1;simp only[←htm] at hx1;rw[hcr] at hx1;refine wpIn_mono hx1 ?_;rintro e ax wx ⟨B,hq,hsx⟩;rw[←hcr] at hq hsx;cases e <;>simp only[eB] at hq <;>try exact hq.elim
   simp only[Exit.then];obtain ⟨hB1,hB2⟩:=hq;obtain ⟨Dx,Ex,hsx⟩:=hsx;have hElx:Ex 1999999=some (.op l):=by
    have ho:=hsx.bQ 1999999;rw[hB1] at ho;rcases hsx.vF (n:=1999999) (by rw[hcr];exact hEl2) rfl with h | h
    ·exact absurd h (th ho)
    ·exact h
   have hLx:wx.heap[l]?=some (.loop (rec .ready none)):=by
    have ho:=hsx.bQ 1999999;rw[hB1] at ho;obtain ⟨b,k1,_,k3,_⟩:=ho;rw[hElx] at k1;cases k1;exact k3
   refine ⟨_,run_beginRound hLx (by rw[hrec]),?_⟩;have hsb:=hsx.xz (o':=.loop { rec .ready none with state:=.busy }) hB1 hElx rfl;have hy1:=hB2 cy (by rw[hcr];exact hcy) _ _ ⟨Dx,Ex,hsb⟩;rw[hFr] at hy1;rw[hcr] at hy1;refine wpIn_mono hy1 ?_;rintro e a3 w3 ⟨A3,hq3,D3,E3,hs3⟩;rw[←hcr] at hs3
   -- the end of the round
   have bg:∀ (os:List (Nat×aq)) (jump:Option Code),pT (.loop { rec .ready none with state:=.busy }) A3 os→(post' (.bool jump.isNone) (en (.loop (rec (if jump.isNone then .ready else .done) jump)) os)) →
     ∃ v w',(Instr.endRound l jump).run c.P w3=.ok v w'∧(fun e w'=>∃ v D' E' r os',e=Ending.returned v∧post' r os'∧bd w' D' E' r v∧jO (fun b=>w2.heap.size≤b∨cE E2 b) w' D' E' (aj os') ∧
      eZ (fun b=>w2.heap.size≤b∨cE E2 b) w2 w'∧(∀ b o,D2 b o→D' b o)∧(∀ b o,D' b o→b<w'.heap.size)∧(∀ b o,D' b o→b<w2.heap.size→¬ cE E2 b→D2 b o) ∧
      (∀ n e,E2 n=some e→az os' n=true→∃ e',E' n=some e'∧e.le e')∧gJ w2 D2 w') (.returned v) w':=fun os jump hbk hp=>by
    have hA3:A3.o 1999999=some (.dD (.loop { rec .ready none with state:=.busy })):=(hbk 1999999 _ (by rw[pf,if_pos rfl])).1;have hEl3:E3 1999999=some (.op l):=by
     have ho:=hs3.bQ 1999999;rw[hA3] at ho;rcases hs3.vF (n:=1999999) (by rw[hcr];exact hEl2) rfl with h | h
     ·exact absurd h (th ho)
     ·exact h
    have hL3:w3.heap[l]?=some (.loop { rec .ready none with state:=.busy }):=by
     have ho:=hs3.bQ 1999999;rw[hA3] at ho;obtain ⟨b,k1,_,k3,_⟩:=ho;rw[hEl3] at k1;cases k1;exact k3
    have hend:=run_endRound (P:=c.P) jump hL3;have erec:({ rec .ready none with state:=if jump.isNone then LoopState.ready else .done,pending:=jump } : Loop)=rec (if jump.isNone then .ready else .done) jump:=by rw[hrec]
    have hend':(Instr.endRound l jump).run c.P w3=.ok (.bool jump.isNone) (w3.putObj l (.loop (rec (if jump.isNone then .ready else .done) jump))):=by
     rw[hend];rw[hrec]
    have hs4:=hs3.xz (o':=.loop (rec (if jump.isNone then .ready else .done) jump)) hA3 hEl3 rfl;rw[hcr] at hs4;obtain ⟨D',E',_,_,_,q1,q2,q3,q4,q5,q6⟩:=hs4.wi (WM hbk _);exact ⟨_,_,hend',_,D',E',.bool jump.isNone,_,rfl,hp,⟨[.bool jump.isNone],by simp[bA,I.isAgg],by simp[al]⟩,q1,q2,q3,q4,q5,q6⟩
   cases e with
   |normal =>
    obtain ⟨os,hbk,hin⟩:=hq3;exact bg os none hbk (hpost _ _ (.inl ⟨rfl,by rw[hI'];exact ⟨os,rfl,hin⟩⟩))
   |ret =>
    obtain ⟨os,hbk,hin⟩:=hq3;exact bg os (some .ret) hbk (hpost _ _ (.inr ⟨rfl,by rw[hIx'];exact ⟨none,os,rfl,hin⟩⟩))
   |exit id =>
    obtain ⟨os,hbk,hin⟩:=hq3;exact bg os (some (.exit id)) hbk (hpost _ _ (.inr ⟨rfl,by rw[hIx'];exact ⟨some id,os,rfl,hin⟩⟩))
   |goto t=>exact hq3.elim
   |panic ch=>exact hq3.elim
   |outgrown=>exact hq3.elim
  -- the call
  have hargs:fx (bd W1 D E1) (.raw yv::caps) (yv::vs):=by
   exact .cons ⟨[yv],by simp[bA,I.isAgg],by rw[hyv];exact ⟨rfl,rfl⟩⟩ (rD (hup caps vs hvs))
  have hus:=hand.use (ρ:=ρ) hs1 false (fun h=>h.mono) ⟨(fun h=>by cases h),fun _=>by rw[←hDh,←hEh];exact hyok⟩ hgv1 (sh _ (by simp[I.cg,I.bu,hcl]))
   (fun r os' hp=>by
    have gg:eY os1 os':=by
     rcases hp.2 with h | h
     ·exact iD _ _ h
     ·exact goodx _ h
    refine ⟨fun m x hx=>⟨(gg.ok m x hx).1,(gg.ok m x hx).2,fun h=>by cases h⟩,fun m m' J U=>hgv1.inj m m' (by rw[←gg.same];exact J) (by rw[←gg.same];exact U),fun m hm=>by rw[gg.same];exact hm,fun m J U=>(by rw[gg.same,U] at J;cases J),(by rw[hp.1];simp[I.only,I.cv]),fun h=>by cases h⟩) hargs
  have ecl : #[yv]++vs.toArray=(yv::vs).toArray:=by simp
  rw[ecl];refine CallsIn.mono (callsIn_wide.2 hus) ?_;rintro e w3 ⟨v,r,os',D2,E2,rfl,hp,hs2,_,hE2⟩;have key:∀ (o3:Obj) (osb:List (Nat×aq)),os'=en o3 osb→o5 o3=true→E2 999999=some (.op l)∧w3.heap[l]?=some o3∧∀ o4,o5 o4=true→bY c (au ts (dy ρ osb++os0)) a1 (w3.putObj l o4):=fun o3 osb he ah=>by
   subst he;have hn2:E2 999999=some (.op l):=by
    obtain ⟨e',J,U⟩:=hE2 1999999 (.op l) (by rw[←hEh];exact hEl) (by rw[kY];simp);rw[hρ] at J;rw[J,U.eq rfl]
   have eos:dy ρ (en o3 osb)=(999999,.dD o3)::dy ρ osb:=by simp only[en,dy,zz4,hρ,aq.bm]
   rw[eos] at hs2;have ha:(au ts ((999999,aq.dD o3)::dy ρ osb++(999999,.dD (.loop (rec .ready none)))::os0)).o 999999=some (.dD o3):=by simp[au,aj]
   have hgb:∀ m,az osb m=true→bK ρ m≠999999:=fun m hm e=>by
    have h5:az (en o3 osb) m=true:=by rw[kY,hm];simp
    have g5:eY os1 (en o3 osb):=by
     rcases hp.2 with h | h
     ·exact iD _ _ h
     ·exact goodx _ h
    have h6:=hgv1.inj m 1999999 (by rw[←g5.same];exact h5) isrec (by rw[hρ];exact e);subst h6;have h7:eY osb0 osb:=by
     rcases hp.2 with h | h
     ·rw[hI'] at h;obtain ⟨osb',h8,h9⟩:=h;simp only[en,zw9] at h8;rw[h8.2];exact hI _ _ h9
     ·rw[hIx'] at h;obtain ⟨e,osb',h8,h9⟩:=h;simp only[en,zw9] at h8;rw[h8.2];exact hIx _ _ h9
    rw[h7.same,h19] at hm;cases hm
   refine ⟨hn2,?_,fun o4 ar =>?_⟩
   ·have ho:=hs2.bQ 999999;rw[ha] at ho;obtain ⟨b,k1,_,k3,_⟩:=ho;rw[hn2] at k1;cases k1;exact k3
   ·have h5:=(hs2.xz (o':=o4) ha hn2 ar).MC hn2;have hst:(⟨((au ts ((999999,aq.dD o3)::dy ρ osb++(999999,.dD (.loop (rec .ready none)))::os0)).aV 999999 (.dD o4)).t,fun m=>if m=999999 then none else
      ((au ts ((999999,aq.dD o3)::dy ρ osb++(999999,.dD (.loop (rec .ready none)))::os0)).aV 999999 (.dD o4)).o m⟩:ai)=au ts (dy ρ osb++os0):=by
     simp only[au,ai.aV]
     congr 1
     funext m
     by_cases hm:m=999999
     ·subst hm;simp only[if_true,qP];cases hq:pre ρ osb 999999 with
      |none=>exact hfree.symm
      |some k=>exact absurd (lf hq).2 (hgb k (lf hq).1)
     ·simp only[if_neg hm,zz9,aj,qP]
    rw[hst] at h5;exact ⟨D2,_,h5⟩
  rcases hp.2 with h | h
  ·rw[hI'] at h;obtain ⟨osb,he,hin⟩:=h;obtain ⟨k1,k2,k3⟩:=key _ osb he rfl;refine ⟨none,_,(by have:=run_endLoop (P:=c.P) k2 (by rw[hrec];simp);rw[hrec] at this;exact this),_,hdone osb hin,?_⟩;have:=k3 (.loop { rec .ready none with state:=.exhausted }) rfl;rw[ha1] at this;rw[hrec] at this;exact this
  ·rw[hIx'] at h;obtain ⟨e,osb,he,hin⟩:=h;obtain ⟨k1,k2,k3⟩:=key _ osb he rfl;refine ⟨some (wb e),_,(by have:=run_endLoop (P:=c.P) k2 (by rw[hrec];simp);rw[hrec] at this;exact this),?_⟩;have:=k3 (.loop { rec .done (some (wb e)) with state:=.exhausted }) rfl;rw[ha1] at this;rw[hrec] at this;have hq:sX c Q (AS e) { a with defers := { target:=.collected w.heap.size,args := #[] } :: a.defers } _:=⟨_,hexit e osb hin,this⟩
   cases e with
   |none=>exact wpIn_ret hq
   |some id=>exact wpIn_exit hq
end
mutual
theorem kv{ρ:Nat→Nat}(h:∀ n,ρ n=n):∀ x:I,x.bm ρ=x
 | .agg fs | .tuple fs=>by simp only[I.bm];rw[l7 h fs]
 | .slice _ es=>by simp only[I.bm];rw[l7 h es]
 | .ref x=>by simp only[I.bm];rw[kv h x]
 | .func _ caps=>by simp only[I.bm];rw[l7 h caps]
 | .iface _ v=>by simp only[I.bm];rw[kv h v]
 | .ptr _ _ | .own _ _ | .view _ _ _ _ _ | .mref _ | .dk _=>by simp only[I.bm,h]
 | .de ks vs=>by simp only[I.bm];rw[l7 h ks,l7 h vs]
 | .bool _ | .int _ _ | .bR _ | .nilp | .dx | .dV | .any | .raw _ | .nils _ | .c0 _ | .undef | .dp=>by simp only[I.bm]
theorem l7{ρ:Nat→Nat}(h:∀ n,ρ n=n):∀ xs:List I,I.dR ρ xs=xs
 | []=>rfl
 |x::xs=>by simp only[I.dR];rw[kv h x,l7 h xs]
end
theorem aq.kv{ρ:Nat→Nat}(h:∀ n,ρ n=n):∀ x:aq,x.bm ρ=x
 | .box x=>by simp only[aq.bm,Abs.kv h]
 | .b5 _ _ es=>by simp only[aq.bm,l7 h]
 | .dD _=>rfl
 | .dG _ _=>rfl
 | .bt _ _=>by simp only[aq.bm,l7 h]
 | .it _ _ _ _=>by simp only[aq.bm,l7 h]
theorem l6(os:List (Nat×aq)):dy [] os=os:=by
 simp only[dy];have:(fun q:Nat×aq=>(bK [] q.1,q.2.bm (bK [])))=id:=by
  funext q
  rw[aq.kv (ρ:=bK []) (fun n=>rfl)];rfl
 rw[this,List.map_id]
theorem fF(a b:List (Nat×aq))(n:Nat):aj (a++b) n=match aj a n with
  |some x=>some x
  |none=>aj b n:=by
 induction a with
 |nil=>rfl
 |cons q a ih =>
  obtain ⟨k,v⟩:=q;simp only[zz9,aj];split
  ·rfl
  ·exact ih
theorem eY.none{os os':List (Nat×aq)}(h:eY os os'){n:Nat}(hn:n<1000000):aj os' n=none:=by
 cases hx:aj os' n with
 |none=>rfl
 |some x =>
  have J:az os' n=true:=by simp[az,hx]
  rw[h.same] at J;exact absurd (h.lQ n J) (by omega)
theorem bH.slots{ts ts':List (Nat×I)}{os os':List (Nat×aq)}(J:cG ts ts')(U:∀ n,aj os n=aj os' n):bH (au ts os) (au ts' os'):=by
 have e:au ts os=au ts os':=by
  simp only[au];congr 1;funext n;exact U n
 rw[e];rintro c a w ⟨D,E,ab⟩;refine ⟨D,E,ab.sz,ab.eE,fun t =>?_,ab.dM,ab.cX,ab.aQ,ab.bQ,ab.cL,ab.dP,ab.eP,ab.cQ,ab.eX,ab.fu⟩;rcases tU J t with h | h
 ·simp only[au];rw[h];simp[bd]
 ·have:=ab.dO t;simp only[au] at *;rw[h];exact this
theorem sj{os osk os2 ow:List (Nat×aq)}{ts:List (Nat×I)}(J:eY os osk)(U:eY os os2)(how:∀ m,az ow m=true→m<1000000):au ts (dy [] os2++(ow++osk))=au ts (ow++os2):=by
 simp only[au,l6]
 congr 1
 funext n
 simp only[fF];cases hw:aj ow n with
 |none =>
  simp only;cases ah:aj os2 n with
  |some x=>rfl
  |none =>
   simp only;cases ar:aj osk n with
   |none=>rfl
   |some x =>
    have h5:az osk n=true:=by simp[az,ar]
    rw[J.same,←U.same] at h5;simp[az,ah] at h5
 |some x =>
  simp only;rw[U.none (how n (by simp[az,hw]))]
theorem gi.iD{os osk ow:List (Nat×aq)}(J:eY os osk)(how:∀ m,az ow m=true→m<1000000):gi [] osk (ow++osk):=by
 refine ⟨fun m x hx =>?_,fun m m' _ _ h=>h⟩;have hm:az osk m=true:=by simp[az,hx]
 have hg:=J.lQ m (by rw[←J.same];exact hm);obtain ⟨k1,k2⟩:=J.ok m x hx;refine ⟨?_,k1,k2⟩;rw[aq.kv (ρ:=bK []) (fun n=>rfl)];simp only[bK,fF];cases hw:aj ow m with
 |none=>exact hx
 |some y=>have:=how m (by simp[az,hw]);omega
theorem gA.iD{os osk os2 os0:List (Nat×aq)}{r:I}(J:eY os osk)(U:eY os os2)(hr:r.bu=true):gA false [] osk os0 r os2:=by
 refine ⟨fun m x hx=>⟨(U.ok m x hx).1,(U.ok m x hx).2,fun h=>by cases h⟩,fun m m' _ _ h=>h,fun m hm=>by rw[U.same,←J.same];exact hm,fun m ah ar =>?_,kr _ r hr,fun h=>by cases h⟩;rw[U.same,←J.same,ar] at ah;cases ah
theorem aS.rT{P:Program}{Y:Value→List I→List (Nat×aq)→cC→Prop}{K:ai→Prop}{v:Value}{vs:List I}{dst:Option Nat}{rest:List aH}{ts:List (Nat×I)}{os osk ow:List (Nat×aq)}{In Ix:List (Nat×aq)→Prop}
  (hY:Y v vs osk (fun r os2=>(r=.bool true∧In os2)∨(r=.bool false∧Ix os2))) (hk:eY os osk) (hi:∀ os',In os'→eY os os') (hx:∀ os',Ix os'→eY os os') (hcl:I.cg vs=true) (how:∀ m,az ow m=true→m<1000000)
  (J:∀ os2,In os2→aS P Y false K (aB rest ((au ts (ow++os2)).aU dst (.bool true)))) (U:∀ os2,Ix os2→aS P Y false K (aB rest ((au ts (ow++os2)).aU dst (.bool false)))) :
  aS P Y false K (.kN v vs dst rest (au ts (ow++osk))):=by
 refine .ua osk vs _ rfl hY (gi.iD hk how) (sh vs hcl) ?_ ?_
 ·rintro r os' (⟨rfl,h⟩ | ⟨rfl,h⟩)
  ·exact gA.iD hk (hi _ h) rfl
  ·exact gA.iD hk (hx _ h) rfl
 ·rintro r os' (⟨rfl,h⟩ | ⟨rfl,h⟩)
  ·rw[sj hk (hi _ h) how];exact J os' h
  ·rw[sj hk (hx _ h) how];exact U os' h
theorem sv(A:ai)(d:Option Nat)(args:List I)(rest:List aH)(v:Value):qd A d args rest (.raw v)=.kN v args d rest A:=rfl
end Go.Abs
namespace Go.Proofs.YthbdbocionnfgaaGreatDoor
open Go Go.Abs
open Go.Abs.Enc (enc)
structure aG where
 aw:Int
 here:List Int
 all:List cZ
 aQ:List Nat
 bp:List bh
 deriving Inhabited
structure nt where
 c6:Int
 no:Int
 deriving DecidableEq
instance:Enc nt where
 enc g:=.agg [.int .i64 g.c6,.int .i64 g.no]
 sz:=2
 aX:=.eH [.one,.one]
 gG:=true
 done g:=by simp only[I.done,I.hd,Bool.and_self]
 size g:=by simp only[I.size,I.sizes]
 iq g:=by simp only[I.aX,I.cT]
 agg _:=rfl
theorem vj(x y:nt):b7 (.aP [.i .i64,.i .i64]) (enc x) (enc y)=some (decide (x=y)):=by
 show b7 (.aP [.i .i64,.i .i64]) (.agg [.int .i64 x.c6,.int .i64 x.no]) (.agg [.int .i64 y.c6,.int .i64 y.no])=_
 have:x=y↔x.c6=y.c6∧x.no=y.no:=by cases x;cases y;simp
 simp[b7,hs,jd,this];rfl
theorem eN(a b:Int):b7 (.i .i64) (enc a) (enc b)=some (decide (a=b)):=by
 show b7 (.i .i64) (.int .i64 a) (.int .i64 b)=_
 simp[b7];rfl
def fB(x:bh):nt:=⟨x.other,x.no⟩
def aG.bV(s:aG)(i:Nat):cZ:=s.all.getD i default
def aG.bz(s:aG):List cZ:=s.aQ.map s.bV
def aG.bD(s:aG):List Int:=s.aQ.map fun i:Nat=>((i:Int)+1)
def aG.eV(s:aG)(b:Int):Bool:=s.bz.any fun r=>decide (r.aK=b)
def aG.dZ(s:aG):List nt:=s.bp.map fB
def aG.unknown(s:aG)(x:bh):Bool:=(x.other != s.aw) && !decide (fB x∈s.dZ)
def aG.at(s:aG)(no:Int):Option Nat:=s.aQ.find? fun i=>decide (no=(i:Int)+1)
def aG.on(s:aG)(x:bh):Option Nat:=match s.at x.no with
 |some i=>if (s.bV i).to=x.other∧(s.bV i).aK=x.aK then some i else none
 |none=>none
def bB(B i:Nat):Nat:=B+5+i
def fO(B d k i:Nat):Nat:=if i=k then d else B+5+i
def ni(B:Nat)(aw du:Int):I:=.agg [.int .i64 aw,.mref (B+1),.mref (B+2),.int .i64 du,.mref (B+3),.mref (B+4)]
def oY(l:List Int):aq:=.bt (l.map enc) (List.replicate l.length (.bool true))
def dQ(ν:Nat→Nat)(l:List Nat):List I:=l.map fun i=>.ptr (ν i) []
def oc(ν:Nat→Nat)(s:aG):aq:=.bt (s.bD.map enc) (dQ ν s.aQ)
def qI(s:aG):aq:=.bt (s.dZ.map enc) (s.bp.map enc)
def gH:List I:=[.int .i64 1,.int .i64 2,.int .i64 3,.int .i64 4,.int .i64 5,.int .i64 6,.int .i64 7,.int .i64 8]
def oM(B:Nat):aq:=.bt gH [.func 1000125 [.ptr B []],.func 1000126 [.ptr B []],.func 1000127 [.ptr B []],.func 1000128 [.ptr B []],.func 1000129 [.ptr B []],.func 1000130 [.ptr B []],.func 1000131 [.ptr B []],.func 1000132 [.ptr B []]]
def ju(ν:Nat→Nat):Nat→List cZ→List (Nat×aq)
 |_,[]=>[]
 |i,r::l=>(ν i,.box (enc r))::ju ν (i+1) l
def ed(B:Nat)(ν:Nat→Nat)(s:aG):List (Nat×aq) :=
 (B,.box (ni B s.aw s.all.length))::(B+1,oY s.here)::(B+2,oc ν s)::(B+3,qI s)::(B+4,oM B)::ju ν 0 s.all
structure gl (B:Nat) (ν:Nat→Nat) (k:Nat):Prop where
 out:∀ i,i<k→ν i<B∨B+5≤ν i
 inj:∀ i j,i<k→j<k→ν i=ν j→i=j
theorem gl.bB(B k:Nat):gl B (bB B) k:=⟨fun i _=>.inr (by simp[Go.Proofs.YthbdbocionnfgaaGreatDoor.bB]),fun i j _ _ h=>by simp[Go.Proofs.YthbdbocionnfgaaGreatDoor.bB] at h;exact h⟩
theorem gl.fO{B d k m:Nat}(h:d<B)(hm:m≤k+1):gl B (fO B d k) m :=
 ⟨fun i _=>by simp only[Go.Proofs.YthbdbocionnfgaaGreatDoor.fO];split <;>omega,fun i j hi hj h=>by simp only[Go.Proofs.YthbdbocionnfgaaGreatDoor.fO] at h;(repeat' split at h) <;>omega⟩
theorem lV{B d k i:Nat}(h:i<k):fO B d k i=bB B i:=by simp only[fO,bB];rw[if_neg (by omega)]
theorem yz{ν:Nat→Nat} : ∀ (l:List cZ) (i k:Nat) (h:k<l.length),(∀ a b,a<i+l.length→b<i+l.length→ν a=ν b→a=b)→aj (ju ν i l) (ν (i+k))=some (.box (enc l[k]))
 | [],_,_,h,_=>by simp at h
 |r::l,i,0,_,_=>by simp[ju,aj]
 |r::l,i,k+1,h,hj=>by
  simp only[zw2] at h hj;simp only[ju,aj];rw[if_neg (fun e=>by have:=hj _ _ (by omega) (by omega) e;omega)];have:=yz l (i+1) k (by omega) (fun a b ha hb=>hj a b (by omega) (by omega));rw[show i+1+k=i+(k+1) by omega] at this;simpa using this
theorem yB{ν:Nat→Nat}{n:Nat} : ∀ (l:List cZ) (i:Nat),(∀ k,k<l.length→n≠ν (i+k))→aj (ju ν i l) n=none
 | [],_,_=>rfl
 |r::l,i,h=>by
  simp only[zw2] at h;simp only[ju,aj];rw[if_neg (by have:=h 0 (by omega);simpa using this)];exact yB l (i+1) fun k hk=>by have:=h (k+1) (by omega);rw[show i+1+k=i+(k+1) by omega];exact this
theorem yA{ν ν':Nat→Nat} : ∀ (l:List cZ) (i:Nat),(∀ k,k<i+l.length→ν k=ν' k)→ju ν i l=ju ν' i l
 | [],_,_=>rfl
 |r::l,i,h=>by
  simp only[zw2] at h;simp only[ju,h i (by omega),yA l (i+1) fun k hk=>h k (by omega)]
theorem ZY{B:Nat}{ν ν':Nat→Nat}{s:aG}(ao:∀ i∈s.aQ,i<s.all.length)(h:∀ k,k<s.all.length→ν k=ν' k):ed B ν s=ed B ν' s:=by
 have J:dQ ν s.aQ=dQ ν' s.aQ:=List.map_congr_left fun i hi=>by rw[h i (ao i hi)]
 simp only[ed,oc,J,yA s.all 0 (by simpa using h)]
section
variable {B:Nat} {ν:Nat→Nat} {s:aG}
theorem xH(B:Nat)(ν:Nat→Nat)(k n:Nat):n=B∨n=B+1∨n=B+2∨n=B+3∨n=B+4∨((n<B∨B+5≤n)∧(∃ i,i<k∧n=ν i))∨((n<B∨B+5≤n)∧∀ i,i<k→n≠ν i):=by
 by_cases J:n=B
 ·exact .inl J
 by_cases U:n=B+1
 ·exact .inr (.inl U)
 by_cases ah:n=B+2
 ·exact .inr (.inr (.inl ah))
 by_cases ar:n=B+3
 ·exact .inr (.inr (.inr (.inl ar)))
 by_cases h5:n=B+4
 ·exact .inr (.inr (.inr (.inr (.inl h5))))
 have h6:n<B∨B+5≤n:=by omega
 by_cases h7:∃ i,i<k∧n=ν i
 ·exact .inr (.inr (.inr (.inr (.inr (.inl ⟨h6,h7⟩)))))
 ·exact .inr (.inr (.inr (.inr (.inr (.inr ⟨h6,fun i hi e=>h7 ⟨i,hi,e⟩⟩)))))
theorem ft:aj (ed B ν s) B=some (.box (ni B s.aw s.all.length)):=by simp[ed,aj]
theorem fR:aj (ed B ν s) (B+1)=some (oY s.here):=by simp[ed,aj]
theorem ga:aj (ed B ν s) (B+2)=some (oc ν s):=by simp[ed,aj]
theorem gb:aj (ed B ν s) (B+3)=some (qI s):=by simp[ed,aj]
theorem ou:aj (ed B ν s) (B+4)=some (oM B):=by simp[ed,aj]
theorem jq(hg:gl B ν s.all.length){i:Nat}(hi:i<s.all.length):aj (ed B ν s) (ν i)=some (.box (enc s.all[i])):=by
 have J:=hg.out i hi;simp only[ed,aj];rw[if_neg (by omega),if_neg (by omega),if_neg (by omega),if_neg (by omega),if_neg (by omega)];have:=yz (ν:=ν) s.all 0 i hi (by simpa using hg.inj)
 rwa [zz1] at this
theorem eI{n:Nat}(J:n<B∨B+5≤n)(h:∀ i,i<s.all.length→n≠ν i):aj (ed B ν s) n=none:=by
 simp only[ed,aj];rw[if_neg (by omega),if_neg (by omega),if_neg (by omega),if_neg (by omega),if_neg (by omega)];exact yB s.all 0 (by simpa using h)
theorem dL(hg:gl B ν s.all.length){n:Nat} : az (ed B ν s) n=true↔(B≤n∧n≤B+4)∨∃ i,i<s.all.length∧n=ν i:=by
 rcases xH B ν s.all.length n with h | h | h | h | h | ⟨h,i,hi,e⟩ | ⟨h,hn⟩
 ·subst h;simp only[az,ft];simp
 ·subst h;simp only[az,fR];simp
 ·subst h;simp only[az,ga];simp
 ·subst h;simp only[az,gb];simp
 ·subst h;simp only[az,ou];simp
 ·subst e;simp only[az,jq hg hi];simp only[Option.isSome_some,true_iff];exact .inr ⟨i,hi,rfl⟩
 ·simp only[az,eI h hn];simp only[Option.isSome_none,zz2,false_iff];rintro (U | ⟨i,hi,e⟩)
  ·omega
  ·exact hn i hi e
theorem Yz(p:Nat→Bool)(h:p B=true):aq.only p (oM B)=true:=by
 simp[oM,gH,aq.only,I.only,I.cv,h]
theorem CM(p:Nat→Bool):∀ l:List Nat,(∀ i∈l,p (ν i)=true)→I.cv p (dQ ν l)=true
 | [],_=>rfl
 |i::l,h=>by
  have ih:=CM p l fun j hj=>h j (by simp[hj]);simp only[dQ] at ih;simp only[dQ,zz4,I.cv,I.only,ih,h i (by simp),Bool.and_self]
theorem CO(p:Nat→Bool):∀ n:Nat,I.cv p (List.replicate n (.bool true))=true
 |0=>rfl
 |n+1=>by simp[List.replicate_succ,I.cv,I.only,CO p n]
theorem lx(hg:gl B ν s.all.length)(ao:∀ i∈s.aQ,i<s.all.length){n:Nat}{x:aq}(h:aj (ed B ν s) n=some x):x.only (az (ed B ν s))=true∧x.eg=true:=by
 have hin:∀ n,(B≤n∧n≤B+4)→az (ed B ν s) n=true:=fun n hn=>(dL hg).2 (.inl hn);rcases xH B ν s.all.length n with U | U | U | U | U | ⟨U,i,hi,e⟩ | ⟨U,hn⟩
 ·subst U;rw[ft] at h;cases h;simp[aq.only,I.only,I.cv,aq.eg,ni,hin]
 ·subst U;rw[fR] at h;cases h;simp only[oY,aq.only,ic,CO,Bool.and_self,aq.eg,true_and]
 ·subst U;rw[ga] at h;cases h;refine ⟨?_,rfl⟩;simp only[oc,aq.only,ic,Bool.true_and];exact CM _ _ fun i hi=>(dL hg).2 (.inr ⟨i,ao i hi,rfl⟩)
 ·subst U;rw[gb] at h;cases h;simp only[qI,aq.only,ic,Bool.and_self,aq.eg,true_and]
 ·subst U;rw[ou] at h;cases h;exact ⟨Yz _ (hin _ (by omega)),rfl⟩
 ·subst e;rw[jq hg hi] at h;cases h;exact ⟨cJ _ _,rfl⟩
 ·rw[eI U hn] at h;cases h
theorem ZZ(hg:gl 1000000 ν s.all.length)(h:∀ i,i<s.all.length→1000000≤ν i):∀ m,az (ed 1000000 ν s) m=true→1000000≤m:=fun m hm=>by
 rcases (dL hg).1 hm with U | ⟨i,hi,rfl⟩
 ·omega
 ·exact h i hi
end
def jH(s:aG):I:=.de (s.bD.map enc) (s.aQ.map fun i=>.ref (enc (s.bV i)))
def jV(l:List Int):I:=.de (l.map enc) (List.replicate l.length (.bool true))
def kn(s:aG):I:=.de (s.dZ.map enc) (s.bp.map enc)
def su:I:=.de gH (List.replicate 8 .any)
def fQ(s:aG):I:=.agg [.int .i64 s.aw,jV s.here,jH s,.int .i64 s.all.length,kn s,su]
theorem qh:∀ n:Nat,I.cg (List.replicate n (.bool true))=true
 |0=>rfl
 |n+1=>by simp[List.replicate_succ,I.cg,I.bu,qh n]
theorem u4{α:Type}[Enc α](f:Nat→α):∀ l:List Nat,I.cg (l.map fun i=>.ref (enc (f i)))=true
 | []=>rfl
 |i::l=>by simp[I.cg,I.bu,kR,u4 f l]
theorem Av(s:aG):(fQ s).bu=true:=by
 simp[fQ,jV,jH,kn,su,gH,I.bu,I.cg,iC,qh,u4,List.replicate]
theorem vy{A:ai}{m:Nat}{x:I}(h:x.bu=true):cU A (m+1) x=some x:=by simp[cU,h]
theorem wm{A:ai}{m:Nat} : ∀ {l:List I},I.cg l=true→fN (cU A (m+1)) l=some l
 | [],_=>rfl
 |x::l,h=>by
  simp only[I.cg,t8] at h;simp only[fN,vy h.1,wm h.2]
theorem sC{A:ai}{m n:Nat}{ks vs vs':List I}(ho:A.o n=some (.bt ks vs))(hk:I.cg ks=true)(hv:fN (cU A m) vs=some vs'):cU A (m+1) (.mref n)=some (.de ks vs'):=by
 simp only[cU,I.bu,zz2,if_false,ho,hk,if_true,hv,zz7]
theorem Cm{A:ai}{m:Nat}{ν:Nat→Nat}{f:Nat→cZ} : ∀ {l:List Nat},(∀ i∈l,A.o (ν i)=some (.box (enc (f i))))→fN (cU A (m+2)) (dQ ν l)=some (l.map fun i=>.ref (enc (f i)))
 | [],_=>rfl
 |i::l,h=>by
  have ih:=Cm (m:=m) (l:=l) fun j hj=>h j (by simp[hj]);simp only[dQ] at ih;have J:cU A (m+2) (.ptr (ν i) [])=some (.ref (enc (f i))):=by
   have hcl:(I.ptr (ν i) []).bu=false:=by simp[I.bu]
   rw[cU];simp only[hcl,zz2,if_false,cF,h i (by simp),I.at,vy (kR (f i)),zz7]
  simp only[dQ,zz4,fN,J,ih]
structure x7 (A:ai) (B:Nat) (ν:Nat→Nat) (s:aG):Prop where
 aY:A.o B=some (.box (ni B s.aw s.all.length))
 J:A.o (B+1)=some (oY s.here)
 U:A.o (B+2)=some (oc ν s)
 ah:A.o (B+3)=some (qI s)
 ar:A.o (B+4)=some (oM B)
 aN:∀ i,i<s.all.length→A.o (ν i)=some (.box (enc (s.bV i)))
 cA:∀ i∈s.aQ,i<s.all.length
theorem gO{A:ai}{B:Nat}{ν:Nat→Nat}{s:aG}(h:x7 A B ν s)(m:Nat):cU A (m+5) (ni B s.aw s.all.length)=some (fQ s):=by
 have i0:∀ (k:IntKind) (v:Int),cU A (m+4) (.int k v)=some (.int k v):=fun _ _=>vy (m:=m+3) rfl;have i1:cU A (m+4) (.mref (B+1))=some (jV s.here):=sC h.J (iC _) (wm (m:=m+2) (qh _));have i2:cU A (m+4) (.mref (B+2))=some (jH s):=sC h.U (iC _) (Cm (m:=m+1) fun i hi=>h.aN i (h.cA i hi));have i3:cU A (m+4) (.mref (B+3))=some (kn s):=sC h.ah (iC _) (wm (m:=m+2) (iC _));have i4:cU A (m+4) (.mref (B+4))=some su:=sC h.ar (by simp[gH,I.cg,I.bu]) (by
  have hf:∀ k:Nat,1000000≤k→cU A (m+3) (.func k [.ptr B []])=some .any:=fun k hk=>by
   rw[cU];have hcl:(I.func k [.ptr B []]).bu=false:=by simp[I.bu,I.cg]
   simp only[hcl,zz2,if_false,if_neg (show ¬ k<1000000 by omega)]
  simp only[fN,hf 1000125 (by decide),hf 1000126 (by decide),hf 1000127 (by decide),hf 1000128 (by decide),hf 1000129 (by decide),hf 1000130 (by decide),hf 1000131 (by decide),hf 1000132 (by decide)];rfl)
 rw[ni,cU];simp only[I.bu,I.cg,Bool.and_false,Bool.false_and,zz2,if_false,fN,i0,i1,i2,i3,i4,zz7];rfl
def dz(s:aG):I:=.ref (fQ s)
theorem oo(s:aG):(dz s).bu=true:=by simp only[dz,I.bu,Av]
theorem AT:(∀ A s,ji A 0 0 (dz s)=some (.ref (.int .i64 s.aw)))∧(∀ A s,ji A 1 1 (dz s)=some (.ref (jV s.here)))∧(∀ A s,ji A 2 2 (dz s)=some (.ref (jH s)))∧(∀ A s,ji A 3 3 (dz s)=some (.ref (.int .i64 s.all.length))) ∧
  (∀ A s,ji A 4 4 (dz s)=some (.ref (kn s))):=by
 refine ⟨fun A s =>?_,fun A s =>?_,fun A s =>?_,fun A s =>?_,fun A s =>?_⟩ <;>simp[dz,fQ,ji,I.dI,qm,oV,c9,I.sizes,I.size,jV,jH,kn,su]
theorem WN(l:List Int):(jV l).bu=true:=by simp only[jV,I.bu,iC,qh,Bool.and_self]
theorem Zu(s:aG):(jH s).bu=true:=by simp only[jH,I.bu,iC,u4,Bool.and_self]
theorem W5(s:aG):(kn s).bu=true:=by simp only[kn,I.bu,iC,Bool.and_self]
theorem dY:(type_of% @AT)∧(∀ s,(dz s).bu=true)∧(∀ aN A s,bg aN A (dz s)=some (dz s))∧(∀ s,(dz s).bT=true)∧(∀ s,b6 none (dz s)=true)∧(∀ s,lU (dz s)=some (dz s))∧(∀ p s,(dz s).only p=true) ∧
  (∀ l,(jV l).bT=true)∧(∀ l,b6 none (jV l)=true)∧(∀ l,(jH l).bT=true)∧(∀ l,b6 none (jH l)=true)∧(∀ l,(kn l).bT=true)∧(∀ l,b6 none (kn l)=true)∧(∀ l,(jV l).bu=true)∧(∀ l,(jH l).bu=true)∧(∀ l,(kn l).bu=true) ∧
  (∀ A l,fX A (jV l)=some (l.map enc,List.replicate l.length (.bool true)))∧(∀ A s,fX A (jH s)=some (s.bD.map enc,s.aQ.map fun i=>.ref (enc (s.bV i))))∧(∀ A s,fX A (kn s)=some (s.dZ.map enc,s.bp.map enc)) ∧
  (∀ x,b6 none (.ref x)=true)∧(∀ x,lU (.ref x)=some (.ref x)) :=
 ⟨AT,oo,fun aN A s=>by
  have h:=oo s;simp only[dz,I.bu] at h;simp only[dz,bg,h,if_true],fun _=>rfl,fun _=>rfl,fun _=>rfl,fun p s=>kr p _ (oo s),fun _=>rfl,fun _=>rfl,fun _=>rfl,fun _=>rfl,fun _=>rfl,fun _=>rfl,WN,Zu,W5,
  fun _ _=>rfl,fun _ _=>rfl,fun _ _=>rfl,fun _=>rfl,fun _=>rfl⟩
theorem CC{A:ai}{d:Option Nat}{n:Nat}{rest:List aH}{ks vs:List I}{cur:Option Nat} : pq A d n rest (some (.it ks vs [] cur))=aB rest (A.aU d (.tuple [.bool false])):=by
 simp only[pq,if_true]
theorem aS.ib{P:Program}{Y:Value→List I→List (Nat×aq)→cC→Prop}{K:ai→Prop}{A:ai}{d:Option Nat}{n:Nat}{rest:List aH}{ks vs:List I}{left:List Nat}{cur:Option Nat}(ao:left≠[])
  (h:∀ i,i∈left→∃ kk x,ks[i]?=some kk∧vs[i]?=some x∧aS P Y false K (aB rest ((A.aV n (.it ks vs (left.filter (· != i)) (some i))).aU d (.tuple [.bool true,kk,x])))) :
  aS P Y false K (pq A d n rest (some (.it ks vs left cur))):=by
 simp only[pq,if_neg ao];refine .any rfl fun i hi =>?_;obtain ⟨kk,x,J,U,ah⟩:=h i hi;simp only[J,U];exact ah
theorem B9{n i:Nat}{av left:List Nat}(hC:(av++left).Perm (List.range n))(hi:i∈left):(left.filter (· != i)).length<left.length∧((av++[i])++left.filter (· != i)).Perm (List.range n):=by
 refine ⟨?_,?_⟩
 ·rcases Nat.lt_or_ge (left.filter (· != i)).length left.length with h | h
  ·exact h
  ·have:=List.filter_eq_self.1 (List.Sublist.eq_of_length_le List.filter_sublist h) i hi;simp at this
 have hnd:left.Nodup:=(List.nodup_append.1 (hC.nodup_iff.2 List.nodup_range)).2.1;have J:left.Perm (i::left.filter (· != i)):=by
  have U:(left.filter (· == i)).length=1:=by
   have:=List.nodup_iff_count.1 hnd i;have ah:=List.count_pos_iff.2 hi;have ar:left.count i=(left.filter (· == i)).length:=by rw[List.count,List.countP_eq_length_filter]
   omega
  have h5:left.filter (· == i)=[i]:=by
   obtain ⟨a,ha⟩:=List.length_eq_one_iff.1 U;have:a∈left.filter (· == i):=by rw[ha];simp
   have:=(zw0.1 this).2;simp at this;rw[ha,this]
  have h6:=(List.filter_append_perm (· == i) left).symm;rw[h5] at h6;exact h6
 refine List.Perm.trans ?_ hC;rw[zy1];exact (J.symm).append_left av
def yd(s:aG)(b:Int)(t:List Nat×List Nat×Option Nat):ai :=
 au [(0,dz s),(1,.int .i64 b),(11,.dk 11)] [(11,.it (s.bD.map enc) (s.aQ.map fun i=>.ref (enc (s.bV i))) t.2.1 t.2.2)]
theorem pW(s:aG)(b:Int):bf Tryz.prog 72 [dz s,enc b] (enc (s.eV b)):=by
 refine bf.bZ Tryz.func72 IP JV Lg (u8 rfl) (fun hwf W0 bF E1 =>?_);simp only[zt,Ef,bJ,zz1];clear hwf;refine .gw (by decide +kernel) fun K hK =>?_;simp only[Bi,bI,simprocAttr];refine .done (hK _ ?_);clear hK K;refine ae.seq (ae.seq ?_);refine .ku (by decide +kernel) fun K hK =>?_;simp only[Bj,bI,simprocAttr]
 try simp only[dY,jH,bq,mM,bI,simprocAttr]
 refine .done (hK _ ?_);clear hK K;try simp only[eB]
 have hlen:s.bD.length=s.aQ.length:=by simp[aG.bD]
 refine ae.block (ae.loop (yd s b) (fun t=>(t.1++t.2.1).Perm (List.range s.aQ.length)∧∀ i∈t.1,(s.bV (s.aQ.getD i 0)).aK≠b) (fun t=>t.2.1.length) ([],List.range s.aQ.length,none) ⟨by simp,by simp⟩ ?_ ?_)
 ·refine bH.slots ?_ (fun n =>?_)
  ·simp[cG,cD]
  ·simp only[ez,qO,zz8,hlen]
 rintro ⟨av,left,cur⟩ ⟨hC,hA⟩;simp only at hC hA;simp only[yd];by_cases ao:left=[]
 ·subst ao;have hno:s.eV b=false:=by
   simp only[aG.eV,aG.bz,List.any_map,List.any_eq_false,Function.comp,decide_eq_true_eq];intro i hi e;obtain ⟨k,hk,rfl⟩:=List.mem_iff_getElem.1 hi;have hm:k∈av:=(show av.Perm _ by simpa using hC).mem_iff.2 (zw7.2 hk);have:=hA k hm;simp only[zz0,zy4 hk,Option.getD_some] at this;exact this e
  refine .gw (by decide +kernel) fun K hK =>?_;simp only[vP,bI,simprocAttr]
  try simp only[mM,CC,bI,simprocAttr]
  refine .done (hK _ ?_);clear hK K;refine ae.seq ?_;refine ae.jX ?_;simp only[aA,bI,simprocAttr];refine ⟨fun h =>?_,fun h =>?_⟩
  case refine_1=>cases h
  refine ae.exit ?_;try simp only[eB,jQ,simprocAttr]
  rw[hno];have R:=aC
  repeat' ((first |refine ae.aE (by decide +kernel) rfl fun K hK =>?_|(refine .av [0,1,4,6,11,13,21] hK ?_;clear hK K)|(with_reducible refine .done (hK _ ?_);clear hK K)|refine ae.of rfl ?_|(with_reducible refine aA.aD (fun h =>?_) (fun h =>?_) <;>try simp only[h])) <;>try simp only[aF,R,simprocAttr])
  all_goals clear R
 ·refine .gw (by decide +kernel) fun K hK =>?_;simp only[vP,bI,simprocAttr]
  try simp only[mM,bI,simprocAttr]
  refine aS.ib ao fun i hi =>?_;have hib:i<s.aQ.length:=zw7.1 (hC.mem_iff.1 (by simp[hi]));obtain ⟨hm,hC2⟩:=B9 hC hi;have hk1:(s.bD.map (enc (α:=Int)))[i]?=some (enc (((s.aQ[i]:Nat):Int)+1)):=by simp[aG.bD,hib]
  have hk2:(s.aQ.map fun i=>I.ref (enc (s.bV i)))[i]?=some (.ref (enc (s.bV s.aQ[i]))):=by simp[hib]
  refine ⟨_,_,hk1,hk2,?_⟩;have hent:mB (s.bD.map enc) (s.aQ.map fun i=>I.ref (enc (s.bV i))) (some i)=some (.tuple [enc (((s.aQ[i]:Nat):Int)+1),.ref (enc (s.bV s.aQ[i]))]):=by
   simp only[mB,hk1,hk2]
  have hx:s.aQ.getD i 0=s.aQ[i]:=by simp[zz0,hib]
  try simp only[bI,simprocAttr]
  refine .done (hK _ ?_);clear hK K;refine ae.seq ?_;refine ae.jX ?_;simp only[aA,bI,simprocAttr];refine ⟨fun h =>?_,fun h =>?_⟩
  case refine_2=>cases h
  refine ae.skip ?_;try simp only[eB,simprocAttr]
  refine ae.block ?_;rcases q:((s.bV s.aQ[i]).aK==b)
  ·have R:=y6 @hent (y6 @q aC)
   repeat' ((first |refine ae.aE (by decide +kernel) rfl fun K hK =>?_|(refine .av [0,1,4,6,11,13,21] hK ?_;clear hK K)|(with_reducible refine .done (hK _ ?_);clear hK K)|refine ae.of rfl ?_|(with_reducible refine aA.aD (fun h =>?_) (fun h =>?_) <;>try simp only[h])) <;>try simp only[aF,R,simprocAttr])
   all_goals clear R
   refine ⟨(av++[i],left.filter (· != i),some i),⟨hC2,fun j hj =>?_⟩,hm,?_⟩
   ·rcases zx6.1 hj with hj | hj
    ·exact hA j hj
    ·rw[zx4.1 hj,hx];simpa using q
   ·simp only[];refine bH.slots ?_ (fun n =>?_)
    ·simp[cG,cD]
    ·simp only[ez,qO];(repeat' split) <;>simp_all
  ·have hyes:s.eV b=true:=by
    simp only[aG.eV,aG.bz,List.any_map,List.any_eq_true,Function.comp,decide_eq_true_eq];exact ⟨s.aQ[i],List.getElem_mem hib,by simpa using q⟩
   rw[hyes];have R:=y6 @hent (y6 @q aC)
   repeat' ((first |refine ae.aE (by decide +kernel) rfl fun K hK =>?_|(refine .av [0,1,4,6,11,13,21] hK ?_;clear hK K)|(with_reducible refine .done (hK _ ?_);clear hK K)|refine ae.of rfl ?_|(with_reducible refine aA.aD (fun h =>?_) (fun h =>?_) <;>try simp only[h])) <;>try simp only[aF,R,simprocAttr])
   all_goals clear R
theorem Xm(s:aG)(x:bh):∃ v:I,v.bT=true∧b6 (some 4) v=true∧v.aX=.eH [.one,.one,.one,.one]∧fo (.aP [.i .i64,.i .i64]) (.agg [.int .i64 0,.int .i64 0,.int .i64 0,.int .i64 0]) (.agg [.int .i64 x.other,.int .i64 x.no]) (s.dZ.map enc) (s.bp.map enc)=some (v,decide (fB x∈s.dZ)):=by
 have h:=sY vj (.agg [.int .i64 0,.int .i64 0,.int .i64 0,.int .i64 0]) (fB x) s.dZ (s.bp.map enc);have hm:=qo (k:=fB x) (ks:=s.dZ);have e:(enc (fB x):I)=.agg [.int .i64 x.other,.int .i64 x.no]:=rfl;rw[e] at h;rw[h,←hm];cases hf:s.dZ.findIdx? fun y=>decide (fB x=y) with
 |none=>exact ⟨_,rfl,rfl,rfl,rfl⟩
 |some i =>
  have hi:=(List.findIdx?_eq_some_iff_getElem.1 hf).1;have hi2:i<s.bp.length:=by simpa[aG.dZ] using hi
  refine ⟨enc s.bp[i],er _,by rw[fg];rfl,eJ _,?_⟩;simp[hi2]
theorem rZ(s:aG)(x:bh):bf Tryz.prog 152 [dz s,enc x] (enc (s.unknown x)):=by
 refine bf.bZ Tryz.func152 Ic Jm KH (u8 rfl) (fun hwf W0 bF E1 =>?_);simp only[yO,DB,bJ,zz1];clear hwf;obtain ⟨v,hv1,hv2,hv3,hlk⟩:=Xm s x;have hbld:(dK [.int .i64 0,.int .i64 0] [(0,.int .i64 x.other),(1,.int .i64 x.no)]).map I.agg=some (.agg [.int .i64 x.other,.int .i64 x.no]):=by simp[dK,I.bT,I.size]
 have hst:∀ A rest b,df A (some 4) 5 [] b v rest (some (.agg [.int .i64 0,.int .i64 0,.int .i64 0,.int .i64 0]))=aB rest (A.aV 5 (.box v)):=fun A rest b=>dE hv1 hv2 hv3;simp only[aG.unknown];rcases q:(x.other != s.aw) <;>rcases q2:decide (fB x∈s.dZ)
 all_goals
  rw[q2] at hlk;have R:=y6 @q (y6 @hv1 (y6 @hv2 (y6 @hbld (y6 @hst (y6 @hlk (y6 @dY (y6 @bq aC)))))))
  repeat' ((first |(with_reducible refine .guard (fun hb =>?_) (fun hb =>?_) <;>try simp only[hb])|refine ae.aE (by decide +kernel) rfl fun K hK =>?_|(refine .av [0,1,3,4,6] hK ?_;clear hK K)|(with_reducible refine .done (hK _ ?_);clear hK K)|refine ae.of rfl ?_|(with_reducible refine aA.aD (fun h =>?_) (fun h =>?_) <;>try simp only[h])) <;>try simp only[aF,R,simprocAttr])
  all_goals clear R
  rfl
theorem AP{α β:Type}(f:α→β):∀ (l:List α) (k:Nat),(l.map f).eraseIdx k=(l.eraseIdx k).map f
 | [],_=>rfl
 |_::_,0=>rfl
 |x::l,k+1=>by simp only[zz4,List.eraseIdx_cons_succ,AP f l k]
section
variable {α ι:Type} [Enc α] [DecidableEq α] [DecidableEq ι] {ty:cB}
omit [Enc α] [DecidableEq ι] in
theorem A9(f:ι→α)(g:ι→I)(z:I)(k:α):∀ l:List ι,(match (l.map f).findIdx? fun x=>decide (k=x) with
   |some i=>((l.map g)[i]?).map fun v=>(v,true)
   |none=>some (z,false))=(match l.find? fun i=>decide (k=f i) with
   |some i=>some (g i,true)
   |none=>some (z,false))
 | []=>rfl
 |x::l=>by
  have ih:=A9 f g z k l;simp only[zz4,List.findIdx?_cons,List.find?_cons];by_cases h:k=f x
  ·simp[h]
  ·simp only[h,decide_false,zz2,if_false];rw[←ih];cases (l.map f).findIdx? fun x=>decide (k=x) with
   |none=>rfl
   |some i=>simp
omit [DecidableEq ι] in
theorem Cc(ay:∀ x y:α,b7 ty (enc x) (enc y)=some (decide (x=y)))(f:ι→α)(g:ι→I)(z:I)(k:α)(l:List ι) :
  fo ty z (enc k) ((l.map f).map enc) (l.map g)=match l.find? fun i=>decide (k=f i) with
   |some i=>some (g i,true)
   |none=>some (z,false):=by
 exact (sY ay z k _ _).trans (A9 f g z k l)
theorem Cq(ay:∀ x y:α,b7 ty (enc x) (enc y)=some (decide (x=y)))(f:ι→α)(g:ι→I)(hf:∀ a b,f a=f b→a=b){l:List ι}{i:ι}(hi:i∈l) :
  lT ty (enc (f i)) ((l.map f).map enc) (l.map g)=some (((l.erase i).map f).map enc,(l.erase i).map g):=by
 have hf2:∀ a,(f i=f a)=(i=a):=fun a=>propext ⟨hf i a,fun e=>by rw[e]⟩;have key:∀ l:List ι,i∈l→∃ k,(l.map f).findIdx? (fun x=>decide (f i=x))=some k∧l.eraseIdx k=l.erase i:=by
  intro l
  induction l with
  |nil=>intro h;cases h
  |cons x l ih =>
   intro h;simp only[zz4,List.findIdx?_cons,hf2];by_cases e:i=x
   ·subst e;exact ⟨0,by simp,by simp⟩
   ·obtain ⟨k,J,U⟩:=ih (by simpa[e] using h);refine ⟨k+1,?_,?_⟩
    ·simp only[e,decide_false,zz2,if_false,J,zz7]
    ·rw[List.eraseIdx_cons_succ,U,List.erase_cons_tail (by simpa using fun h=>e h.symm)]
 obtain ⟨k,J,U⟩:=key l hi;simp only[lT,ay,Option.isSome_some,if_true,sG ay,J,zz7,Nat.add_zero];rw[←U];simp only[AP]
end
theorem ER(l:List Int):List.replicate l.length (I.bool true)=l.map fun _=>.bool true:=by
 induction l with
 |nil=>rfl
 |cons x l ih=>simp[List.replicate_succ,ih]
theorem Cr{l:List Int}{b:Int}(h:b∈l):lT (.i .i64) (.int .i64 b) (l.map enc) (List.replicate l.length (.bool true))=some ((l.erase b).map enc,List.replicate (l.erase b).length (.bool true)):=by
 have:=Cq eN (fun x:Int=>x) (fun _=>.bool true) (fun _ _ h=>h) h;simp only[List.map_id',eF] at this;rw[ER,ER];exact this
theorem js{s:aG}{no:Int}{i:Nat}(h:s.at no=some i):i∈s.aQ∧no=(i:Int)+1 :=
 ⟨List.mem_of_find?_eq_some h,by simpa using List.find?_some h⟩
theorem sZ{s:aG}(g:Nat→I)(no:Int):fo (.i .i64) .nilp (.int .i64 no) (s.bD.map enc) (s.aQ.map g)=match s.at no with
   |some i=>some (g i,true)
   |none=>some (.nilp,false):=by
 have h:=Cc eN (fun i:Nat=>(i:Int)+1) g .nilp no s.aQ;rw[eF] at h;refine h.trans ?_;unfold aG.at;generalize s.aQ.find? (fun i:Nat=>decide (no=(i:Int)+1))=q;cases q <;>rfl
theorem Cs{s:aG}(g:Nat→I){i:Nat}(h:i∈s.aQ):lT (.i .i64) (.int .i64 ((i:Int)+1)) (s.bD.map enc) (s.aQ.map g)=some (({ s with aQ:=s.aQ.erase i } : aG).bD.map enc,(s.aQ.erase i).map g) :=
 Cq eN (fun i:Nat=>(i:Int)+1) g (fun a b h=>by omega) h
theorem px{s:aG}{x:bh}{i:Nat}(h:s.on x=some i):s.at x.no=some i∧(s.bV i).to=x.other∧(s.bV i).aK=x.aK:=by
 simp only[aG.on] at h;split at h
 ·rename_i j hj;split at h
  ·rename_i bG;cases h;exact ⟨hj,bG⟩
  ·cases h
 ·cases h
def ec(s:aG)(x:bh):Option aG :=
 if x.kind=1 then if x.aK∈s.here∨s.eV x.aK=true then none else some { s with here:=gC s.here x.aK }
 else if x.kind=2 then if x.aK∈s.here then some { s with here:=s.here.erase x.aK } else none
 else if x.kind=3 then if x.aK∈s.here∧x.other≠s.aw∧x.no=(s.all.length:Int)+1 then
  some { s with here:=s.here.erase x.aK,all:=s.all++[⟨x.no,x.other,x.aK,false⟩],aQ:=s.aQ++[s.all.length] } else none
 else if x.kind=4 then match s.on x with
  |some i=>if (s.bV i).dj then none else some { s with all:=s.all.set i { s.bV i with dj:=true } }
  |none=>none
 else if x.kind=5 then match s.on x with
  |some i=>some { s with aQ:=s.aQ.erase i }
  |none=>none
 else if x.kind=6 then match s.on x with
  |some i=>if (s.bV i).dj then some { s with aQ:=s.aQ.erase i,here:=gC s.here x.aK } else none
  |none=>none
 else if x.kind=7 then if s.unknown x=true∧x.aK∉s.here∧s.eV x.aK=false then some { s with bp:=s.bp++[x],here:=gC s.here x.aK } else none
 else if x.kind=8 then if s.unknown x=true then some { s with bp:=s.bp++[x] } else none
 else none
def fS(s:aG)(x:bh):Option aG:=if fP x then ec s x else none
structure cw (s:aG):Prop where
 cA:∀ i∈s.aQ,i<s.all.length
 iL:s.aQ.Nodup
 af:s.here.Nodup
theorem nu{l:List Int}{b:Int}(h:l.Nodup):(gC l b).Nodup:=by
 unfold gC;split
 ·exact h
 ·rename_i hb;exact List.nodup_append.2 ⟨h,by simp,fun a ha c hc e=>by rw[zx4.1 hc] at e;exact hb (e▸ha)⟩
theorem cw.next{s s':aG}{x:bh}(h:cw s)(hn:ec s x=some s'):cw s'∧s'.aw=s.aw∧s'.all.length≤s.all.length+1∧(x.kind≠3→s'.all.length=s.all.length):=by
 obtain ⟨J,U,ah⟩:=h;simp only[ec] at hn;split at hn
 ·split at hn <;>cases hn
  exact ⟨⟨J,U,nu ah⟩,rfl,by simp,fun _=>rfl⟩
 split at hn
 ·split at hn <;>cases hn
  exact ⟨⟨J,U,ah.erase _⟩,rfl,by simp,fun _=>rfl⟩
 split at hn
 ·rename_i hk;split at hn <;>cases hn
  refine ⟨⟨fun i hi =>?_,?_,ah.erase _⟩,rfl,by simp,fun h=>absurd hk h⟩
  ·simp only[zx6,zx4] at hi;simp only[zz6,List.length_singleton];rcases hi with hi | hi
   ·have:=J i hi;omega
   ·omega
  ·exact List.nodup_append.2 ⟨U,by simp,fun a ha c hc e=>by rw[zx4.1 hc] at e;have:=J a ha;omega⟩
 split at hn
 ·split at hn
  ·split at hn <;>cases hn
   exact ⟨⟨fun i hi=>by simpa using J i hi,U,ah⟩,rfl,by simp,fun _=>by simp⟩
  ·cases hn
 split at hn
 ·split at hn <;>cases hn
  exact ⟨⟨fun i hi=>J i (List.mem_of_mem_erase hi),U.erase _,ah⟩,rfl,by simp,fun _=>rfl⟩
 split at hn
 ·split at hn
  ·split at hn <;>cases hn
   exact ⟨⟨fun i hi=>J i (List.mem_of_mem_erase hi),U.erase _,nu ah⟩,rfl,by simp,fun _=>rfl⟩
  ·cases hn
 split at hn
 ·split at hn <;>cases hn
  exact ⟨⟨J,U,nu ah⟩,rfl,by simp,fun _=>rfl⟩
 split at hn
 ·split at hn <;>cases hn
  exact ⟨⟨J,U,ah⟩,rfl,by simp,fun _=>rfl⟩
 cases hn
theorem gQ{ts:List (Nat×I)}{os:List (Nat×aq)}{B:Nat}{ν:Nat→Nat}{s:aG}(hg:gl B ν s.all.length)(ao:∀ i∈s.aQ,i<s.all.length)(h:∀ n,az (ed B ν s) n=true→aj os n=aj (ed B ν s) n):x7 (au ts os) B ν s:=by
 have go:∀ n x,aj (ed B ν s) n=some x→(au ts os).o n=some x:=fun n x hx=>(h n (by simp[az,hx])).trans hx;refine ⟨go _ _ ft,go _ _ fR,go _ _ ga,go _ _ gb,go _ _ ou,fun i hi =>?_,ao⟩;rw[go _ _ (jq hg hi)];simp[aG.bV,zz0,hi]
def fw:List PanicEntry:=[{ v:=.iface 144 (.agg #[]),recovered:=false }]
theorem Xv(w:World):Calls Tryz.prog 114 #[.bool false] w fun e w'=>e=.panicked fw∧w'=w:=by
 go_enter Tryz.func114,Tryz.ntmps114
 go_wp2
 exact ⟨rfl,rfl,rfl⟩
theorem FK:fe Tryz.prog 114 fw [enc false] [] (fun os'=>os'=[]) :=
 fe.YL zO (fun w D vs hv=>by
  have hv':aI w D dh [.bool false] vs:=hv;simp only[aI] at hv';obtain ⟨v,rest,cs,rfl,J,U,rfl⟩:=hv';have:v=.bool false:=kz (jC J U);subst this;exact Xv w) rfl
theorem kF:bf Tryz.prog 114 [enc true] (.tuple []):=by
 refine bf.bZ Tryz.func114 zO Jk Kv (u8 rfl) (fun hwf W0 bF E1 =>?_);simp only[yM,Dp,bJ];have R:=y6 @kC @bI
 repeat' ((first |refine ae.aE (by decide +kernel) rfl fun K hK =>?_|(refine .av [0,3] hK ?_;clear hK K)|(with_reducible refine .done (hK _ ?_);clear hK K)|refine ae.of rfl ?_|(with_reducible refine aA.aD (fun h =>?_) (fun h =>?_) <;>try simp only[h])) <;>try simp only[aF,R,simprocAttr])
 all_goals clear R
 all_goals rfl
theorem Y9:r2 Tryz.prog 113:=⟨zN,fun b T w x hb=>by
 refine callsDIn_of_wpSIn Tryz.func113 rfl trivial fun c₀ cs hu =>?_;apply wpSIn_seq;apply wpSIn_region;simp[wpOpsSIn,go_sem,recoverD,hu,Tryz.ntmps113,Exit.thenS];apply wpSIn_seq;apply wpSIn_region;simp[wpOpsSIn,go_sem,Exit.thenS];refine wpSIn_cond (t:=false) (by simp[Act.eval,Array.replicate]) ?_;simp only[zz2,if_false];refine wpSIn_of_wpIn rfl (wpIn_skip ?_);cases c₀
 simp_all[bodyPostS,results,Tryz.results113]⟩
theorem Y8:rX Tryz.prog 113 fw:=⟨zN,fun b T w x hb=>by
 have hc:w.cell? ⟨b,0,none⟩=some (.bool x):=by simp[World.cell?,hb]
 have hz:w.frozen? ⟨b,0,none⟩=false:=by simp[World.frozen?,hb]
 have hta:∀ W,(Instr.typeAssert (.iface 144 (.agg #[])) 20 144 true).run Tryz.prog W=.ok (.tuple #[.agg #[],.bool true]) W:=fun W=>by
  simp[Instr.typeAssert,run_underlying Tryz.underlying144]
 refine callsDIn_of_wpSIn Tryz.func113 rfl trivial fun c₀ cs hu =>?_;apply wpSIn_seq;apply wpSIn_region;simp[wpOpsSIn,go_sem,recoverD,hu,Tryz.ntmps113,Exit.thenS,fw];apply wpSIn_seq;apply wpSIn_region;simp[wpOpsSIn,go_sem,Exit.thenS];refine wpSIn_cond (t:=true) (by simp[Act.eval,Array.replicate]) ?_;simp only[if_true];apply wpSIn_seq;apply wpSIn_seq;apply wpSIn_region;simp[wpOpsSIn,go_sem,Exit.thenS,hta];apply wpSIn_seq;apply wpSIn_region;simp[wpOpsSIn,go_sem,Exit.thenS];refine wpSIn_cond (t:=false) (by simp[Act.eval,Array.replicate]) ?_;simp only[zz2,if_false];refine wpSIn_of_wpIn rfl (wpIn_skip ?_);simp only[Exit.thenS];have hb2:(w.alloc (.cells #[] 144)).heap[b]?=some (.cells #[.bool x] T (0,0)):=(RowKit.Below.heap_alloc _ _ _ (fE hb)).trans hb;have hc2:(w.alloc (.cells #[] 144)).cell? ⟨b,0,none⟩=some (.bool x):=by simp[World.cell?,hb2]
 have hz2:(w.alloc (.cells #[] 144)).frozen? ⟨b,0,none⟩=false:=by simp[World.frozen?,hb2]
 apply wpSIn_region;simp[wpOpsSIn,go_sem,hc2,hz2,bodyPostS,results,Tryz.results113];exact ⟨rfl,_,p9 _ _,rfl⟩⟩
abbrev aL(s:aG):List (Nat×aq):=ed 1000000 (bB 1000000) s
def mQ(s:aG):cC:=fun r os'=>r=.tuple []∧os'=aL s
def j6(s:aG)(os':List (Nat×aq)):Prop:=os'=aL s
theorem dC(k:Nat):gl 1000000 (bB 1000000) k:=gl.bB _ _
theorem dw{s:aG} : ∀ m,az (aL s) m=true→1000000≤m:=ZZ (dC _) fun i _=>by simp[bB];omega
theorem iu{s:aG}(hk:cw s){n:Nat}{x:aq}(h:aj (aL s) n=some x):x.only (az (aL s))=true∧x.eg=true:=lx (dC _) hk.cA h
theorem l9{ts:List (Nat×I)}{os os':List (Nat×aq)}{post:cC}(ho:∀ n,az os' n=true→aj os n=aj os' n)(hg:∀ n x,aj os' n=some x→x.only (az os')=true∧x.eg=true)(hp:post (j5 []) os'):jc [] post (au ts os) :=
 ⟨os',[],fun n x hx=>⟨by show aj os n=some x;rw[ho n (by simp[az,hx])];exact hx,hg n x hx⟩,trivial,hp⟩
theorem ma(rs post)(A:ai):n2 rs post .normal A=jc rs post A:=rfl
theorem il{Q:Exit→ai→Prop}{ts:List (Nat×I)}{os0:List (Nat×aq)}(hq:Q (.panic fw) (au ts os0)):nr Tryz.prog Q 114 [.bool false] (au ts os0) :=
 .mk false [] [] [enc false] fw _ FK ⟨fun m x h=>by simp[aj] at h,fun m m' h=>by simp[az,aj] at h⟩ ⟨.inl ⟨rfl,rfl,rfl⟩,trivial⟩
  (fun os' h=>by subst h;exact ⟨fun m x h=>by simp[aj] at h,fun m m' h=>by simp[az,aj] at h,fun m h=>h,fun m h=>by simp[az,aj] at h,rfl,fun h=>by cases h⟩) (fun os' h=>by subst h;exact hq)
theorem gX{s:aG}(hk:cw s){ts:List (Nat×I)}{z:aq} : wW fw (j6 s) (.panic fw) (au ts ((3,z)::aL s)) :=
 ⟨rfl,l9 (fun n hn=>by have:=dw n hn;simp only[aj];rw[if_neg (by omega)]) (fun _ _ h=>iu hk h) ⟨rfl,rfl⟩⟩
theorem bw:(∀ (a b:Int) v,c9 [.int .i64 a,.mref 1000001,.mref 1000002,.int .i64 b,.mref 1000003,.mref 1000004] 0 0 v=some v)∧(∀ (a b:Int) v,c9 [.int .i64 a,.mref 1000001,.mref 1000002,.int .i64 b,.mref 1000003,.mref 1000004] 1 1 v=some v)∧(∀ (a b:Int) v,c9 [.int .i64 a,.mref 1000001,.mref 1000002,.int .i64 b,.mref 1000003,.mref 1000004] 2 2 v=some v)∧(∀ (a b:Int) v,c9 [.int .i64 a,.mref 1000001,.mref 1000002,.int .i64 b,.mref 1000003,.mref 1000004] 3 3 v=some v)∧(∀ (a b:Int) v,c9 [.int .i64 a,.mref 1000001,.mref 1000002,.int .i64 b,.mref 1000003,.mref 1000004] 4 4 v=some v)∧(∀ (a b:Int) v,c9 [.int .i64 a,.mref 1000001,.mref 1000002,.int .i64 b,.mref 1000003,.mref 1000004] 5 5 v=some v)∧(∀ a b c d e:I,(I.agg [a,.mref 1000001,b,c,d,e]).bu=false) :=
 ⟨fun _ _ _=>rfl,fun _ _ _=>rfl,fun _ _ _=>rfl,fun _ _ _=>rfl,fun _ _ _=>rfl,fun _ _ _=>rfl,fun a b c d e=>by simp[I.bu,I.cg]⟩
theorem FM(s:aG)(hk:cw s)(x:bh)(hy:x.aK∉s.here∧s.eV x.aK=false):cR Tryz.prog 125 [.ptr 1000000 [],enc x] (aL s) (mQ { s with here:=gC s.here x.aK }):=by
 refine cR.bZ Tryz.func125 zP Ae Kx (u8 rfl) (u8 rfl) dw (fun hwf W0 bF E1 =>?_);simp only[uJ,Dq,bJ,zz1];clear hwf;have n3:aj (aL s) 3=none:=eI (.inl (by omega)) fun i _=>by simp[bB];omega
 have aY:aj (aL s) 1000000=some (.box (.agg [.int .i64 s.aw,.mref 1000001,.mref 1000002,.int .i64 s.all.length,.mref 1000003,.mref 1000004])):=ft;have J:aj (aL s) 1000001=some (.bt (s.here.map enc) (List.replicate s.here.length (.bool true))):=fR;have U:aj (aL s) 1000002=some (.bt (s.bD.map enc) (dQ (bB 1000000) s.aQ)):=ga;have ah:aj (aL s) 1000003=some (.bt (s.dZ.map enc) (s.bp.map enc)):=gb;have hfin:∀ ts,cU (au ts ((3,.box (enc x))::aL s)) 9 (.agg [.int .i64 s.aw,.mref 1000001,.mref 1000002,.int .i64 s.all.length,.mref 1000003,.mref 1000004])=some (fQ s):=fun ts =>
  gO (gQ (dC _) hk.cA fun n hn=>by have:=dw n hn;simp only[aj];rw[if_neg (by omega)]) 4
 have hlk:=fW eN x.aK s.here;rw[eF] at hlk;have q1:decide (x.aK∈s.here)=false:=decide_eq_false hy.1;have hF:=pW s x.aK;rw[hy.2] at hF;have hup:=wD eN x.aK s.here;rw[eF] at hup;have R:=y6 @n3 (y6 @aY (y6 @J (y6 @hfin (y6 @hlk (y6 @q1 (y6 @hup (y6 @bw (y6 @bq aC))))))))
 repeat' ((first |(with_reducible refine .guard (fun hb =>?_) (fun hb =>?_) <;>try simp only[hb])|refine ae.aE (by decide +kernel) rfl fun K hK =>?_|refine .flat _ (hF) rfl ?_|refine .flat _ (kF) rfl ?_|(refine .av [0,1,3] hK ?_;clear hK K)|(with_reducible refine .done (hK _ ?_);clear hK K)|refine ae.of rfl ?_|(with_reducible refine aA.aD (fun h =>?_) (fun h =>?_) <;>try simp only[h])) <;>try simp only[aF,R,simprocAttr])
 all_goals clear R
 rw[ma];refine l9 (fun n hn =>?_) (fun _ _ h=>iu (s := { s with here:=gC s.here x.aK }) ⟨hk.cA,hk.iL,nu hk.af⟩ h) ⟨rfl,rfl⟩;have:=dw n hn;simp only[aL,ed,aj];rw[if_neg (show ¬ n=3 by omega)]
 (repeat' split) <;>first | rfl | omega
theorem FN(s:aG)(hk:cw s)(x:bh)(hy:x.aK∈s.here∨s.eV x.aK=true):fe Tryz.prog 125 fw [.ptr 1000000 [],enc x] (aL s) (j6 s):=by
 refine fe.mk Tryz.func125 zP Ae (u8 rfl) (u8 rfl) dw (fun hwf W0 bF E1 =>?_);simp only[uJ,bJ,zz1];clear hwf;have n3:aj (aL s) 3=none:=eI (.inl (by omega)) fun i _=>by simp[bB];omega
 have aY:aj (aL s) 1000000=some (.box (.agg [.int .i64 s.aw,.mref 1000001,.mref 1000002,.int .i64 s.all.length,.mref 1000003,.mref 1000004])):=ft;have J:aj (aL s) 1000001=some (.bt (s.here.map enc) (List.replicate s.here.length (.bool true))):=fR;have U:aj (aL s) 1000002=some (.bt (s.bD.map enc) (dQ (bB 1000000) s.aQ)):=ga;have ah:aj (aL s) 1000003=some (.bt (s.dZ.map enc) (s.bp.map enc)):=gb;have hfin:∀ ts,cU (au ts ((3,.box (enc x))::aL s)) 9 (.agg [.int .i64 s.aw,.mref 1000001,.mref 1000002,.int .i64 s.all.length,.mref 1000003,.mref 1000004])=some (fQ s):=fun ts =>
  gO (gQ (dC _) hk.cA fun n hn=>by have:=dw n hn;simp only[aj];rw[if_neg (by omega)]) 4
 have hlk:=fW eN x.aK s.here;rw[eF] at hlk;have hF:=pW s x.aK;rcases q1:decide (x.aK∈s.here)
 ·have q2:s.eV x.aK=true:=hy.resolve_left (by simpa using q1);rw[q2] at hF;have R:=y6 @n3 (y6 @aY (y6 @J (y6 @hfin (y6 @hlk (y6 @q1 (y6 @bw (y6 @bq aC)))))))
  repeat' ((first |(with_reducible refine .guard (fun hb =>?_) (fun hb =>?_) <;>try simp only[hb])|(refine ae.jE (gs:=qv) 15 [] [] [0,1,2,3,4,5,6,7,8,9,10,11,12,13,14] (by decide +kernel) rfl (cN.of (by simp[e9])) fun K hK =>?_;simp only[eQ,qv,gq,zz9,zx5,List.take_zero,zy2,zy3,R,simprocAttr])|refine ae.aE (by decide +kernel) rfl fun K hK =>?_|refine .flat _ (hF) rfl ?_|(refine .av [0,1,3] hK ?_;clear hK K)|(with_reducible refine .done (hK _ ?_);clear hK K)|refine ae.of rfl ?_|(with_reducible refine aA.aD (fun h =>?_) (fun h =>?_) <;>try simp only[h])) <;>try simp only[aF,R,simprocAttr])
  all_goals clear R
  exact .call (il (gX hk))
 ·have R:=y6 @n3 (y6 @aY (y6 @J (y6 @hfin (y6 @hlk (y6 @q1 (y6 @bw (y6 @bq aC)))))))
  repeat' ((first |(with_reducible refine .guard (fun hb =>?_) (fun hb =>?_) <;>try simp only[hb])|(refine ae.jE (gs:=qv) 15 [] [] [0,1,2,3,4,5,6,7,8,9,10,11,12,13,14] (by decide +kernel) rfl (cN.of (by simp[e9])) fun K hK =>?_;simp only[eQ,qv,gq,zz9,zx5,List.take_zero,zy2,zy3,R,simprocAttr])|refine ae.aE (by decide +kernel) rfl fun K hK =>?_|refine .flat _ (hF) rfl ?_|(refine .av [0,1,3] hK ?_;clear hK K)|(with_reducible refine .done (hK _ ?_);clear hK K)|refine ae.of rfl ?_|(with_reducible refine aA.aD (fun h =>?_) (fun h =>?_) <;>try simp only[h])) <;>try simp only[aF,R,simprocAttr])
  all_goals clear R
  exact .call (il (gX hk))
theorem FO(s:aG)(hk:cw s)(x:bh)(hy:x.aK∈s.here):cR Tryz.prog 126 [.ptr 1000000 [],enc x] (aL s) (mQ { s with here:=s.here.erase x.aK }):=by
 refine cR.bZ Tryz.func126 zQ Af Ky (u8 rfl) (u8 rfl) dw (fun hwf W0 bF E1 =>?_);simp only[uK,Dr,bJ,zz1];clear hwf;have n3:aj (aL s) 3=none:=eI (.inl (by omega)) fun i _=>by simp[bB];omega
 have aY:aj (aL s) 1000000=some (.box (.agg [.int .i64 s.aw,.mref 1000001,.mref 1000002,.int .i64 s.all.length,.mref 1000003,.mref 1000004])):=ft;have J:aj (aL s) 1000001=some (.bt (s.here.map enc) (List.replicate s.here.length (.bool true))):=fR;have U:aj (aL s) 1000002=some (.bt (s.bD.map enc) (dQ (bB 1000000) s.aQ)):=ga;have ah:aj (aL s) 1000003=some (.bt (s.dZ.map enc) (s.bp.map enc)):=gb;have hfin:∀ ts,cU (au ts ((3,.box (enc x))::aL s)) 9 (.agg [.int .i64 s.aw,.mref 1000001,.mref 1000002,.int .i64 s.all.length,.mref 1000003,.mref 1000004])=some (fQ s):=fun ts =>
  gO (gQ (dC _) hk.cA fun n hn=>by have:=dw n hn;simp only[aj];rw[if_neg (by omega)]) 4
 have hlk:=fW eN x.aK s.here;rw[eF] at hlk;have q1:decide (x.aK∈s.here)=true:=decide_eq_true hy;have hdl:=Cr hy;have R:=y6 @n3 (y6 @aY (y6 @J (y6 @hfin (y6 @hlk (y6 @q1 (y6 @hdl (y6 @bw (y6 @bq aC))))))))
 repeat' ((first |refine ae.aE (by decide +kernel) rfl fun K hK =>?_|refine .flat _ (kF) rfl ?_|(refine .av [0,1,3] hK ?_;clear hK K)|(with_reducible refine .done (hK _ ?_);clear hK K)|refine ae.of rfl ?_|(with_reducible refine aA.aD (fun h =>?_) (fun h =>?_) <;>try simp only[h])) <;>try simp only[aF,R,simprocAttr])
 all_goals clear R
 rw[ma];refine l9 (fun n hn =>?_) (fun _ _ h=>iu (s := { s with here:=s.here.erase x.aK }) ⟨hk.cA,hk.iL,hk.af.erase _⟩ h) ⟨rfl,rfl⟩;have:=dw n hn;simp only[aL,ed,aj];rw[if_neg (show ¬ n=3 by omega)]
 (repeat' split) <;>first | rfl | omega
theorem FP(s:aG)(hk:cw s)(x:bh)(hy:x.aK∉s.here):fe Tryz.prog 126 fw [.ptr 1000000 [],enc x] (aL s) (j6 s):=by
 refine fe.mk Tryz.func126 zQ Af (u8 rfl) (u8 rfl) dw (fun hwf W0 bF E1 =>?_);simp only[uK,bJ,zz1];clear hwf;have n3:aj (aL s) 3=none:=eI (.inl (by omega)) fun i _=>by simp[bB];omega
 have aY:aj (aL s) 1000000=some (.box (.agg [.int .i64 s.aw,.mref 1000001,.mref 1000002,.int .i64 s.all.length,.mref 1000003,.mref 1000004])):=ft;have J:aj (aL s) 1000001=some (.bt (s.here.map enc) (List.replicate s.here.length (.bool true))):=fR;have U:aj (aL s) 1000002=some (.bt (s.bD.map enc) (dQ (bB 1000000) s.aQ)):=ga;have ah:aj (aL s) 1000003=some (.bt (s.dZ.map enc) (s.bp.map enc)):=gb;have hfin:∀ ts,cU (au ts ((3,.box (enc x))::aL s)) 9 (.agg [.int .i64 s.aw,.mref 1000001,.mref 1000002,.int .i64 s.all.length,.mref 1000003,.mref 1000004])=some (fQ s):=fun ts =>
  gO (gQ (dC _) hk.cA fun n hn=>by have:=dw n hn;simp only[aj];rw[if_neg (by omega)]) 4
 have hlk:=fW eN x.aK s.here;rw[eF] at hlk;have q1:decide (x.aK∈s.here)=false:=decide_eq_false hy;have R:=y6 @n3 (y6 @aY (y6 @J (y6 @hfin (y6 @hlk (y6 @q1 (y6 @bw (y6 @bq aC)))))))
 repeat' ((first |(refine ae.jE (gs:=vJ) 7 [] [] [0,1,2,3,4,5,6] (by decide +kernel) rfl (cN.of (by simp[e9])) fun K hK =>?_;simp only[eQ,vJ,gq,zz9,zx5,List.take_zero,zy2,zy3,R,simprocAttr])|refine ae.aE (by decide +kernel) rfl fun K hK =>?_|(refine .av [0,1,3] hK ?_;clear hK K)|(with_reducible refine .done (hK _ ?_);clear hK K)|refine ae.of rfl ?_|(with_reducible refine aA.aD (fun h =>?_) (fun h =>?_) <;>try simp only[h])) <;>try simp only[aF,R,simprocAttr])
 all_goals clear R
 exact .call (il (gX hk))
def C5(s:aG)(i:Nat):cC:=fun r os'=>r=.ptr (bB 1000000 i) []∧os'=aL s
theorem j2:(∀ i,(3=bB 1000000 i)=False)∧(∀ i,(bB 1000000 i=3)=False):=⟨fun i=>by simp[bB];omega,fun i=>by simp[bB];omega⟩
theorem pU(s:aG)(hk:cw s)(x:bh)(i:Nat)(hy:s.on x=some i):cR Tryz.prog 151 [.ptr 1000000 [],enc x] (aL s) (C5 s i):=by
 refine cR.bZ Tryz.func151 zX Am KG (u8 rfl) (u8 rfl) dw (fun hwf W0 bF E1 =>?_);simp only[uR,DA,bJ,zz1];clear hwf;have n3:aj (aL s) 3=none:=eI (.inl (by omega)) fun i _=>by simp[bB];omega
 have aY:aj (aL s) 1000000=some (.box (.agg [.int .i64 s.aw,.mref 1000001,.mref 1000002,.int .i64 s.all.length,.mref 1000003,.mref 1000004])):=ft;have J:aj (aL s) 1000001=some (.bt (s.here.map enc) (List.replicate s.here.length (.bool true))):=fR;have U:aj (aL s) 1000002=some (.bt (s.bD.map enc) (dQ (bB 1000000) s.aQ)):=ga;have ah:aj (aL s) 1000003=some (.bt (s.dZ.map enc) (s.bp.map enc)):=gb;have hfin:∀ ts,cU (au ts ((3,.box (enc x))::aL s)) 9 (.agg [.int .i64 s.aw,.mref 1000001,.mref 1000002,.int .i64 s.all.length,.mref 1000003,.mref 1000004])=some (fQ s):=fun ts =>
  gO (gQ (dC _) hk.cA fun n hn=>by have:=dw n hn;simp only[aj];rw[if_neg (by omega)]) 4
 have hlk:=fW eN x.aK s.here;rw[eF] at hlk;obtain ⟨ha,hb1,hb2⟩:=px hy;have hil:=(js ha).1;have hlt:=hk.cA i hil;have hlr:=sZ (s:=s) (fun i=>.ptr (bB 1000000 i) []) x.no;have hpt:(s.aQ.map fun i=>I.ptr (bB 1000000 i) [])=dQ (bB 1000000) s.aQ:=rfl;rw[hpt] at hlr;rw[ha] at hlr;simp only at hlr;have hb:aj (aL s) (bB 1000000 i)=some (.box (enc (s.bV i))):=by
  have:=jq (dC s.all.length) (B:=1000000) hlt;rw[this];simp[aG.bV,zz0,hlt]
 have q1:((s.bV i).to==x.other)=true:=by simpa using hb1
 have q2:((s.bV i).aK==x.aK)=true:=by simpa using hb2
 have R:=y6 @n3 (y6 @aY (y6 @U (y6 @hb (y6 @hlr (y6 @q1 (y6 @q2 (y6 @j2 (y6 @bw (y6 @bq aC)))))))))
 repeat' ((first |(with_reducible refine .guard (fun hb =>?_) (fun hb =>?_) <;>try simp only[hb])|refine ae.aE (by decide +kernel) rfl fun K hK =>?_|refine .flat _ (kF) rfl ?_|(refine .av [0,1,3,4,5,6] hK ?_;clear hK K)|(with_reducible refine .done (hK _ ?_);clear hK K)|refine ae.of rfl ?_|(with_reducible refine aA.aD (fun h =>?_) (fun h =>?_) <;>try simp only[h])) <;>try simp only[aF,R,simprocAttr])
 all_goals clear R
 refine ⟨aL s,[.ptr (bB 1000000 i) []],fun n y hy=>⟨?_,iu hk hy⟩,⟨⟨_,rfl,.inl ⟨rfl,rfl,?_⟩⟩,trivial⟩,rfl,rfl⟩
 ·have:=dw (s:=s) n (by simp[az,hy])
  show aj ((3,_)::aL s) n=_
  simp only[aj];rw[if_neg (by omega)];exact hy
 ·exact (dL (dC _)).2 (.inr ⟨i,hlt,rfl⟩)
theorem F1(s:aG)(hk:cw s)(x:bh)(hy:s.on x=none):fe Tryz.prog 151 fw [.ptr 1000000 [],enc x] (aL s) (j6 s):=by
 refine fe.mk Tryz.func151 zX Am (u8 rfl) (u8 rfl) dw (fun hwf W0 bF E1 =>?_);simp only[uR,bJ,zz1];clear hwf;have n3:aj (aL s) 3=none:=eI (.inl (by omega)) fun i _=>by simp[bB];omega
 have aY:aj (aL s) 1000000=some (.box (.agg [.int .i64 s.aw,.mref 1000001,.mref 1000002,.int .i64 s.all.length,.mref 1000003,.mref 1000004])):=ft;have J:aj (aL s) 1000001=some (.bt (s.here.map enc) (List.replicate s.here.length (.bool true))):=fR;have U:aj (aL s) 1000002=some (.bt (s.bD.map enc) (dQ (bB 1000000) s.aQ)):=ga;have ah:aj (aL s) 1000003=some (.bt (s.dZ.map enc) (s.bp.map enc)):=gb;have hfin:∀ ts,cU (au ts ((3,.box (enc x))::aL s)) 9 (.agg [.int .i64 s.aw,.mref 1000001,.mref 1000002,.int .i64 s.all.length,.mref 1000003,.mref 1000004])=some (fQ s):=fun ts =>
  gO (gQ (dC _) hk.cA fun n hn=>by have:=dw n hn;simp only[aj];rw[if_neg (by omega)]) 4
 have hlk:=fW eN x.aK s.here;rw[eF] at hlk;have hlr:=sZ (s:=s) (fun i=>.ptr (bB 1000000 i) []) x.no;have hpt:(s.aQ.map fun i=>I.ptr (bB 1000000 i) [])=dQ (bB 1000000) s.aQ:=rfl;rw[hpt] at hlr;cases ha:s.at x.no with
 |none =>
  rw[ha] at hlr;simp only at hlr;have R:=y6 @n3 (y6 @aY (y6 @U (y6 @hlr (y6 @j2 (y6 @bw (y6 @bq aC))))))
  repeat' ((first |(with_reducible refine .guard (fun hb =>?_) (fun hb =>?_) <;>try simp only[hb])|(refine ae.jE (gs:=nH) 19 [] [] [0,1,2,3,4,5,6,7,8,9,10,11,12,13,14,15,16,17,18] (by decide +kernel) rfl (cN.of (by simp[e9])) fun K hK =>?_;simp only[eQ,nH,gq,zz9,zx5,List.take_zero,zy2,zy3,R,simprocAttr])|refine ae.aE (by decide +kernel) rfl fun K hK =>?_|(refine .av [0,1,3,4,5,6] hK ?_;clear hK K)|(with_reducible refine .done (hK _ ?_);clear hK K)|refine ae.of rfl ?_|(with_reducible refine aA.aD (fun h =>?_) (fun h =>?_) <;>try simp only[h])) <;>try simp only[aF,R,simprocAttr])
  all_goals clear R
  exact .call (il (gX hk))
 |some i =>
  have hil:=(js ha).1;have hlt:=hk.cA i hil;rw[ha] at hlr;simp only at hlr;have hb:aj (aL s) (bB 1000000 i)=some (.box (enc (s.bV i))):=by
   have:=jq (dC s.all.length) (B:=1000000) hlt;rw[this];simp[aG.bV,zz0,hlt]
  rcases q1:((s.bV i).to==x.other)
  ·have R:=y6 @n3 (y6 @aY (y6 @U (y6 @hb (y6 @hlr (y6 @q1 (y6 @j2 (y6 @bw (y6 @bq aC))))))))
   repeat' ((first |(with_reducible refine .guard (fun hb =>?_) (fun hb =>?_) <;>try simp only[hb])|(refine ae.jE (gs:=nH) 19 [] [] [0,1,2,3,4,5,6,7,8,9,10,11,12,13,14,15,16,17,18] (by decide +kernel) rfl (cN.of (by simp[e9])) fun K hK =>?_;simp only[eQ,nH,gq,zz9,zx5,List.take_zero,zy2,zy3,R,simprocAttr])|refine ae.aE (by decide +kernel) rfl fun K hK =>?_|(refine .av [0,1,3,4,5,6] hK ?_;clear hK K)|(with_reducible refine .done (hK _ ?_);clear hK K)|refine ae.of rfl ?_|(with_reducible refine aA.aD (fun h =>?_) (fun h =>?_) <;>try simp only[h])) <;>try simp only[aF,R,simprocAttr])
   all_goals clear R
   exact .call (il (gX hk))
  ·have q2:((s.bV i).aK==x.aK)=false:=by
    simp only[aG.on,ha] at hy;split at hy
    ·cases hy
    ·rename_i h;simp only[beq_iff_eq] at q1;simp only[beq_eq_false_iff_ne,ne_eq];exact fun e=>h ⟨q1,e⟩
   have R:=y6 @n3 (y6 @aY (y6 @U (y6 @hb (y6 @hlr (y6 @q1 (y6 @q2 (y6 @j2 (y6 @bw (y6 @bq aC)))))))))
   repeat' ((first |(with_reducible refine .guard (fun hb =>?_) (fun hb =>?_) <;>try simp only[hb])|(refine ae.jE (gs:=nH) 19 [] [] [0,1,2,3,4,5,6,7,8,9,10,11,12,13,14,15,16,17,18] (by decide +kernel) rfl (cN.of (by simp[e9])) fun K hK =>?_;simp only[eQ,nH,gq,zz9,zx5,List.take_zero,zy2,zy3,R,simprocAttr])|refine ae.aE (by decide +kernel) rfl fun K hK =>?_|(refine .av [0,1,3,4,5,6] hK ?_;clear hK K)|(with_reducible refine .done (hK _ ?_);clear hK K)|refine ae.of rfl ?_|(with_reducible refine aA.aD (fun h =>?_) (fun h =>?_) <;>try simp only[h])) <;>try simp only[aF,R,simprocAttr])
   all_goals clear R
   exact .call (il (gX hk))
theorem yp{ts:List (Nat×I)}{s:aG}{z:aq} : au ts (aL s++((3,z)::aL s))=au ts ((3,z)::aL s):=by
 simp only[au,ai.mk.injEq,true_and]
 funext n
 rw[fF];cases h:aj (aL s) n with
 |none=>rfl
 |some y =>
  have:=dw (s:=s) n (by simp[az,h]);simp only[aj];rw[if_neg (by omega),h]
theorem BM{s:aG}(hk:cw s){z:aq} : gi [] (aL s) ((3,z)::aL s):=by
 refine ⟨fun m y hy=>⟨?_,iu hk hy⟩,fun m m' _ _ h=>h⟩;have hm:=dw (s:=s) m (by simp[az,hy]);rw[aq.kv (ρ:=bK []) (fun n=>rfl)]
 show aj ((3,z)::aL s) m=some y
 simp only[aj];rw[if_neg (by omega)];exact hy
theorem uG{s:aG}(hk:cw s){os0:List (Nat×aq)}{r:I}(hr:r.only (az (aL s))=true):gA false [] (aL s) os0 r (aL s) :=
 ⟨fun _ _ hy=>⟨(iu hk hy).1,(iu hk hy).2,fun h=>by cases h⟩,fun m m' _ _ h=>h,fun m hm=>hm,(fun m a b=>by rw[a] at b;cases b),hr,(fun h=>by cases h)⟩
theorem sg{s:aG}{x:bh}{A:ai} : gK false A [] (aL s) [.ptr 1000000 [],enc x] [.ptr 1000000 [],enc x] :=
 ⟨.inl ⟨rfl,(dL (dC _)).2 (.inl (by omega)),rfl⟩,.inl ⟨(kS _ _).symm,cJ _ _,er _⟩,trivial⟩
theorem aS.rB{K:ai→Prop}{s:aG}{x:bh}{i:Nat}{avs:List I}{a1 a2:Option (List I)}{dst:Option Nat}{rest:List aH}{ts:List (Nat×I)}{z:aq}(hk:cw s)(hil:i<s.all.length)(hc:cR Tryz.prog 151 [.ptr 1000000 [],enc x] (aL s) (C5 s i))(hav:avs=[.ptr 1000000 [],enc x])
  (h:aS Tryz.prog dq false K (aB rest ((au ts ((3,z)::aL s)).aU dst (.ptr (bB 1000000 i) [])))):aS Tryz.prog dq false K (.call 151 avs a1 a2 dst rest (au ts ((3,z)::aL s))):=by
 subst hav;refine .bQ false [] (aL s) [.ptr 1000000 [],enc x] _ rfl hc (BM hk) sg ?_ ?_
 ·rintro r os' ⟨rfl,rfl⟩;exact uG hk ((dL (dC _)).2 (.inr ⟨i,hil,rfl⟩))
 ·rintro r os' ⟨rfl,rfl⟩;rw[l6,yp];exact h
theorem wX{Q:Exit→ai→Prop}{s:aG}(hk:cw s){x:bh}(hy:s.on x=none){ts:List (Nat×I)}{z:aq}(hq:Q (.panic fw) (au ts ((3,z)::aL s))):nr Tryz.prog Q 151 [.ptr 1000000 [],enc x] (au ts ((3,z)::aL s)) :=
 .mk false [] (aL s) [.ptr 1000000 [],enc x] fw _ (F1 s hk x hy) (BM hk) sg (fun os' h=>by cases h;exact uG hk rfl) (fun os' h=>by cases h;rw[l6,yp];exact hq)
theorem FU(s:aG)(hk:cw s)(x:bh)(i:Nat)(hy:s.on x=some i):cR Tryz.prog 129 [.ptr 1000000 [],enc x] (aL s) (mQ { s with aQ:=s.aQ.erase i }):=by
 refine cR.bZ Tryz.func129 zT Ai KB (u8 rfl) (u8 rfl) dw (fun hwf W0 bF E1 =>?_);simp only[uN,Du,bJ,zz1];clear hwf;have n3:aj (aL s) 3=none:=eI (.inl (by omega)) fun i _=>by simp[bB];omega
 have aY:aj (aL s) 1000000=some (.box (.agg [.int .i64 s.aw,.mref 1000001,.mref 1000002,.int .i64 s.all.length,.mref 1000003,.mref 1000004])):=ft;have J:aj (aL s) 1000001=some (.bt (s.here.map enc) (List.replicate s.here.length (.bool true))):=fR;have U:aj (aL s) 1000002=some (.bt (s.bD.map enc) (dQ (bB 1000000) s.aQ)):=ga;have ah:aj (aL s) 1000003=some (.bt (s.dZ.map enc) (s.bp.map enc)):=gb;have hfin:∀ ts,cU (au ts ((3,.box (enc x))::aL s)) 9 (.agg [.int .i64 s.aw,.mref 1000001,.mref 1000002,.int .i64 s.all.length,.mref 1000003,.mref 1000004])=some (fQ s):=fun ts =>
  gO (gQ (dC _) hk.cA fun n hn=>by have:=dw n hn;simp only[aj];rw[if_neg (by omega)]) 4
 have hlk:=fW eN x.aK s.here;rw[eF] at hlk;obtain ⟨ha,hb1,hb2⟩:=px hy;have hil:=(js ha).1;have hno:=(js ha).2;have hlt:=hk.cA i hil;have hb:aj (aL s) (bB 1000000 i)=some (.box (enc (s.bV i))):=by
  have:=jq (dC s.all.length) (B:=1000000) hlt;rw[this];simp[aG.bV,zz0,hlt]
 have hdl:=Cs (s:=s) (fun i=>.ptr (bB 1000000 i) []) hil;rw[←hno] at hdl;have hpt:(s.aQ.map fun i=>I.ptr (bB 1000000 i) [])=dQ (bB 1000000) s.aQ:=rfl;rw[hpt] at hdl;have R:=y6 @n3 (y6 @aY (y6 @U (y6 @hb (y6 @hdl (y6 @j2 (y6 @bw (y6 @bq aC)))))))
 repeat' ((first |refine ae.aE (by decide +kernel) rfl fun K hK =>?_|refine aS.rB hk hlt (pU s hk x i hy) rfl ?_|(refine .av [0,1,3] hK ?_;clear hK K)|(with_reducible refine .done (hK _ ?_);clear hK K)|refine ae.of rfl ?_|(with_reducible refine aA.aD (fun h =>?_) (fun h =>?_) <;>try simp only[h])) <;>try simp only[aF,R,simprocAttr])
 all_goals clear R
 rw[ma];refine l9 (fun n hn =>?_) (fun _ _ h=>iu (s := { s with aQ:=s.aQ.erase i }) ⟨fun j hj=>hk.cA j (List.mem_of_mem_erase hj),hk.iL.erase _,hk.af⟩ h) ⟨rfl,rfl⟩;have:=dw n hn;simp only[aL,ed,aj];rw[if_neg (show ¬ n=3 by omega)]
 (repeat' split) <;>first | rfl | omega
theorem FV(s:aG)(hk:cw s)(x:bh)(hy:s.on x=none):fe Tryz.prog 129 fw [.ptr 1000000 [],enc x] (aL s) (j6 s):=by
 refine fe.mk Tryz.func129 zT Ai (u8 rfl) (u8 rfl) dw (fun hwf W0 bF E1 =>?_);simp only[uN,bJ,zz1];clear hwf;have n3:aj (aL s) 3=none:=eI (.inl (by omega)) fun i _=>by simp[bB];omega
 have aY:aj (aL s) 1000000=some (.box (.agg [.int .i64 s.aw,.mref 1000001,.mref 1000002,.int .i64 s.all.length,.mref 1000003,.mref 1000004])):=ft;have J:aj (aL s) 1000001=some (.bt (s.here.map enc) (List.replicate s.here.length (.bool true))):=fR;have U:aj (aL s) 1000002=some (.bt (s.bD.map enc) (dQ (bB 1000000) s.aQ)):=ga;have ah:aj (aL s) 1000003=some (.bt (s.dZ.map enc) (s.bp.map enc)):=gb;have hfin:∀ ts,cU (au ts ((3,.box (enc x))::aL s)) 9 (.agg [.int .i64 s.aw,.mref 1000001,.mref 1000002,.int .i64 s.all.length,.mref 1000003,.mref 1000004])=some (fQ s):=fun ts =>
  gO (gQ (dC _) hk.cA fun n hn=>by have:=dw n hn;simp only[aj];rw[if_neg (by omega)]) 4
 have hlk:=fW eN x.aK s.here;rw[eF] at hlk;have R:=y6 @n3 (y6 @aY (y6 @U (y6 @j2 (y6 @bw (y6 @bq aC)))))
 repeat' ((first |(refine ae.n0 (gs:=Bg) (gs1:=[_,_]) rfl fun K hK =>?_)|refine ae.aE (by decide +kernel) rfl fun K hK =>?_|(refine .av [0,1,3] hK ?_;clear hK K)|(with_reducible refine .done (hK _ ?_);clear hK K)|refine ae.of rfl ?_|(with_reducible refine aA.aD (fun h =>?_) (fun h =>?_) <;>try simp only[h])) <;>try simp only[aF,R,simprocAttr])
 all_goals clear R
 exact .call (wX hk hy (gX hk))
theorem I6{s:aG}{i:Nat}(hlt:i<s.all.length)(r:cZ){z:aq} : ∀ n,1000000≤n→aj ((bB 1000000 i,.box (enc r))::(3,z)::aL s) n=aj (aL { s with all:=s.all.set i r }) n:=by
 intro n hn;have hlen:(s.all.set i r).length=s.all.length:=List.length_set;simp only[aj];rw[if_neg (show ¬ n=3 by omega)];rcases xH 1000000 (bB 1000000) s.all.length n with h | h | h | h | h | ⟨h,j,hj,e⟩ | ⟨h,hno⟩
 ·subst h;rw[if_neg (by simp[bB];omega)];simp only[aL,ft,hlen]
 ·subst h;rw[if_neg (by simp[bB];omega)];simp only[aL,fR]
 ·subst h;rw[if_neg (by simp[bB];omega)];simp only[aL,ga];rfl
 ·subst h;rw[if_neg (by simp[bB];omega)];simp only[aL,gb];rfl
 ·subst h;rw[if_neg (by simp[bB];omega)];simp only[aL,ou]
 ·subst e;have J:=jq (B:=1000000) (ν:=bB 1000000) (s:=s) (dC _) hj;have U:=jq (B:=1000000) (ν:=bB 1000000) (s := { s with all:=s.all.set i r }) (dC _) (i:=j) (by simpa using hj);simp only[aL,J,U];by_cases e:j=i
  ·subst e;simp
  ·have:¬ bB 1000000 j=bB 1000000 i:=by simp[bB];omega
   rw[if_neg this];simp[Ne.symm e]
 ·have J:=eI (B:=1000000) (ν:=bB 1000000) (s:=s) h hno;have U:=eI (B:=1000000) (ν:=bB 1000000) (s := { s with all:=s.all.set i r }) h (by simpa using hno);simp only[aL,J,U];rw[if_neg (hno i hlt)]
theorem FT(s:aG)(hk:cw s)(x:bh)(i:Nat)(hy:s.on x=some i)(hc:(s.bV i).dj=false):cR Tryz.prog 128 [.ptr 1000000 [],enc x] (aL s) (mQ { s with all:=s.all.set i { s.bV i with dj:=true } }):=by
 refine cR.bZ Tryz.func128 zS Ah KA (u8 rfl) (u8 rfl) dw (fun hwf W0 bF E1 =>?_);simp only[uM,Dt,bJ,zz1];clear hwf;have n3:aj (aL s) 3=none:=eI (.inl (by omega)) fun i _=>by simp[bB];omega
 have aY:aj (aL s) 1000000=some (.box (.agg [.int .i64 s.aw,.mref 1000001,.mref 1000002,.int .i64 s.all.length,.mref 1000003,.mref 1000004])):=ft;have J:aj (aL s) 1000001=some (.bt (s.here.map enc) (List.replicate s.here.length (.bool true))):=fR;have U:aj (aL s) 1000002=some (.bt (s.bD.map enc) (dQ (bB 1000000) s.aQ)):=ga;have ah:aj (aL s) 1000003=some (.bt (s.dZ.map enc) (s.bp.map enc)):=gb;have hfin:∀ ts,cU (au ts ((3,.box (enc x))::aL s)) 9 (.agg [.int .i64 s.aw,.mref 1000001,.mref 1000002,.int .i64 s.all.length,.mref 1000003,.mref 1000004])=some (fQ s):=fun ts =>
  gO (gQ (dC _) hk.cA fun n hn=>by have:=dw n hn;simp only[aj];rw[if_neg (by omega)]) 4
 have hlk:=fW eN x.aK s.here;rw[eF] at hlk;obtain ⟨ha,hb1,hb2⟩:=px hy;have hil:=(js ha).1;have hno:=(js ha).2;have hlt:=hk.cA i hil;have hb:aj (aL s) (bB 1000000 i)=some (.box (enc (s.bV i))):=by
  have:=jq (dC s.all.length) (B:=1000000) hlt;rw[this];simp[aG.bV,zz0,hlt]
 have hst:∀ A rest,df A none (bB 1000000 i) [3] (enc (s.bV i)) (.bool true) rest (some (.bool false))=aB rest (A.aV (bB 1000000 i) (.box (enc { s.bV i with dj:=true }))):=fun A rest=>dE rfl rfl rfl;have R:=y6 @n3 (y6 @aY (y6 @U (y6 @hb (y6 @hc (y6 @hst (y6 @j2 (y6 @bw (y6 @bq aC))))))))
 repeat' ((first |refine ae.aE (by decide +kernel) rfl fun K hK =>?_|refine aS.rB hk hlt (pU s hk x i hy) rfl ?_|refine .flat _ (kF) rfl ?_|(refine .av [0,1,3,4] hK ?_;clear hK K)|(with_reducible refine .done (hK _ ?_);clear hK K)|refine ae.of rfl ?_|(with_reducible refine aA.aD (fun h =>?_) (fun h =>?_) <;>try simp only[h])) <;>try simp only[aF,R,simprocAttr])
 all_goals clear R
 rw[ma];exact l9 (fun n hn=>I6 hlt _ n (dw n hn)) (fun _ _ h=>iu (s := { s with all:=s.all.set i { s.bV i with dj:=true } }) ⟨fun j hj=>by simpa using hk.cA j hj,hk.iL,hk.af⟩ h) ⟨rfl,rfl⟩
theorem xR(s:aG)(hk:cw s)(x:bh)(hy:∀ i,s.on x=some i→(s.bV i).dj=true):fe Tryz.prog 128 fw [.ptr 1000000 [],enc x] (aL s) (j6 s):=by
 refine fe.mk Tryz.func128 zS Ah (u8 rfl) (u8 rfl) dw (fun hwf W0 bF E1 =>?_);simp only[uM,bJ,zz1];clear hwf;have n3:aj (aL s) 3=none:=eI (.inl (by omega)) fun i _=>by simp[bB];omega
 have aY:aj (aL s) 1000000=some (.box (.agg [.int .i64 s.aw,.mref 1000001,.mref 1000002,.int .i64 s.all.length,.mref 1000003,.mref 1000004])):=ft;have J:aj (aL s) 1000001=some (.bt (s.here.map enc) (List.replicate s.here.length (.bool true))):=fR;have U:aj (aL s) 1000002=some (.bt (s.bD.map enc) (dQ (bB 1000000) s.aQ)):=ga;have ah:aj (aL s) 1000003=some (.bt (s.dZ.map enc) (s.bp.map enc)):=gb;have hfin:∀ ts,cU (au ts ((3,.box (enc x))::aL s)) 9 (.agg [.int .i64 s.aw,.mref 1000001,.mref 1000002,.int .i64 s.all.length,.mref 1000003,.mref 1000004])=some (fQ s):=fun ts =>
  gO (gQ (dC _) hk.cA fun n hn=>by have:=dw n hn;simp only[aj];rw[if_neg (by omega)]) 4
 have hlk:=fW eN x.aK s.here;rw[eF] at hlk;cases hy2:s.on x with
 |none =>
  have R:=y6 @n3 (y6 @aY (y6 @U (y6 @j2 (y6 @bw (y6 @bq aC)))))
  repeat' ((first |(refine ae.n0 (gs:=Be) (gs1:=[_,_]) rfl fun K hK =>?_)|refine ae.aE (by decide +kernel) rfl fun K hK =>?_|(refine .av [0,1,3,4] hK ?_;clear hK K)|(with_reducible refine .done (hK _ ?_);clear hK K)|refine ae.of rfl ?_|(with_reducible refine aA.aD (fun h =>?_) (fun h =>?_) <;>try simp only[h])) <;>try simp only[aF,R,simprocAttr])
  all_goals clear R
  exact .call (wX hk hy2 (gX hk))
 |some i =>
  have hc:=hy i hy2;have hy:=hy2;obtain ⟨ha,hb1,hb2⟩:=px hy;have hil:=(js ha).1;have hno:=(js ha).2;have hlt:=hk.cA i hil;have hb:aj (aL s) (bB 1000000 i)=some (.box (enc (s.bV i))):=by
   have:=jq (dC s.all.length) (B:=1000000) hlt;rw[this];simp[aG.bV,zz0,hlt]
  have R:=y6 @n3 (y6 @aY (y6 @U (y6 @hb (y6 @hc (y6 @j2 (y6 @bw (y6 @bq aC)))))))
  repeat' ((first |(refine ae.n0 (gs:=Bf) (gs1:=[_,_,_,_,_]) rfl fun K hK =>?_)|refine ae.aE (by decide +kernel) rfl fun K hK =>?_|refine aS.rB hk hlt (pU s hk x i hy) rfl ?_|(refine .av [0,1,3,4] hK ?_;clear hK K)|(with_reducible refine .done (hK _ ?_);clear hK K)|refine ae.of rfl ?_|(with_reducible refine aA.aD (fun h =>?_) (fun h =>?_) <;>try simp only[h])) <;>try simp only[aF,R,simprocAttr])
  all_goals clear R
  exact .call (il (gX hk))
theorem FW(s:aG)(hk:cw s)(x:bh)(i:Nat)(hy:s.on x=some i)(hc:(s.bV i).dj=true):cR Tryz.prog 130 [.ptr 1000000 [],enc x] (aL s) (mQ { s with aQ:=s.aQ.erase i,here:=gC s.here x.aK }):=by
 refine cR.bZ Tryz.func130 zU Aj KC (u8 rfl) (u8 rfl) dw (fun hwf W0 bF E1 =>?_);simp only[uO,Dv,bJ,zz1];clear hwf;have n3:aj (aL s) 3=none:=eI (.inl (by omega)) fun i _=>by simp[bB];omega
 have aY:aj (aL s) 1000000=some (.box (.agg [.int .i64 s.aw,.mref 1000001,.mref 1000002,.int .i64 s.all.length,.mref 1000003,.mref 1000004])):=ft;have J:aj (aL s) 1000001=some (.bt (s.here.map enc) (List.replicate s.here.length (.bool true))):=fR;have U:aj (aL s) 1000002=some (.bt (s.bD.map enc) (dQ (bB 1000000) s.aQ)):=ga;have ah:aj (aL s) 1000003=some (.bt (s.dZ.map enc) (s.bp.map enc)):=gb;have hfin:∀ ts,cU (au ts ((3,.box (enc x))::aL s)) 9 (.agg [.int .i64 s.aw,.mref 1000001,.mref 1000002,.int .i64 s.all.length,.mref 1000003,.mref 1000004])=some (fQ s):=fun ts =>
  gO (gQ (dC _) hk.cA fun n hn=>by have:=dw n hn;simp only[aj];rw[if_neg (by omega)]) 4
 have hlk:=fW eN x.aK s.here;rw[eF] at hlk;obtain ⟨ha,hb1,hb2⟩:=px hy;have hil:=(js ha).1;have hno:=(js ha).2;have hlt:=hk.cA i hil;have hb:aj (aL s) (bB 1000000 i)=some (.box (enc (s.bV i))):=by
  have:=jq (dC s.all.length) (B:=1000000) hlt;rw[this];simp[aG.bV,zz0,hlt]
 have hdl:=Cs (s:=s) (fun i=>.ptr (bB 1000000 i) []) hil;rw[←hno] at hdl;have hpt:(s.aQ.map fun i=>I.ptr (bB 1000000 i) [])=dQ (bB 1000000) s.aQ:=rfl;rw[hpt] at hdl;have hup:=wD eN x.aK s.here;rw[eF] at hup;have R:=y6 @n3 (y6 @aY (y6 @J (y6 @U (y6 @hb (y6 @hc (y6 @hdl (y6 @hup (y6 @j2 (y6 @bw (y6 @bq aC))))))))))
 repeat' ((first |refine ae.aE (by decide +kernel) rfl fun K hK =>?_|refine aS.rB hk hlt (pU s hk x i hy) rfl ?_|refine .flat _ (kF) rfl ?_|(refine .av [0,1,3] hK ?_;clear hK K)|(with_reducible refine .done (hK _ ?_);clear hK K)|refine ae.of rfl ?_|(with_reducible refine aA.aD (fun h =>?_) (fun h =>?_) <;>try simp only[h])) <;>try simp only[aF,R,simprocAttr])
 all_goals clear R
 rw[ma];refine l9 (fun n hn =>?_) (fun _ _ h=>iu (s := { s with aQ:=s.aQ.erase i,here:=gC s.here x.aK }) ⟨fun j hj=>hk.cA j (List.mem_of_mem_erase hj),hk.iL.erase _,nu hk.af⟩ h) ⟨rfl,rfl⟩;have:=dw n hn;simp only[aL,ed,aj];rw[if_neg (show ¬ n=3 by omega)]
 (repeat' split) <;>first | rfl | omega
theorem xS(s:aG)(hk:cw s)(x:bh)(hy:∀ i,s.on x=some i→(s.bV i).dj=false):fe Tryz.prog 130 fw [.ptr 1000000 [],enc x] (aL s) (j6 s):=by
 refine fe.mk Tryz.func130 zU Aj (u8 rfl) (u8 rfl) dw (fun hwf W0 bF E1 =>?_);simp only[uO,bJ,zz1];clear hwf;have n3:aj (aL s) 3=none:=eI (.inl (by omega)) fun i _=>by simp[bB];omega
 have aY:aj (aL s) 1000000=some (.box (.agg [.int .i64 s.aw,.mref 1000001,.mref 1000002,.int .i64 s.all.length,.mref 1000003,.mref 1000004])):=ft;have J:aj (aL s) 1000001=some (.bt (s.here.map enc) (List.replicate s.here.length (.bool true))):=fR;have U:aj (aL s) 1000002=some (.bt (s.bD.map enc) (dQ (bB 1000000) s.aQ)):=ga;have ah:aj (aL s) 1000003=some (.bt (s.dZ.map enc) (s.bp.map enc)):=gb;have hfin:∀ ts,cU (au ts ((3,.box (enc x))::aL s)) 9 (.agg [.int .i64 s.aw,.mref 1000001,.mref 1000002,.int .i64 s.all.length,.mref 1000003,.mref 1000004])=some (fQ s):=fun ts =>
  gO (gQ (dC _) hk.cA fun n hn=>by have:=dw n hn;simp only[aj];rw[if_neg (by omega)]) 4
 have hlk:=fW eN x.aK s.here;rw[eF] at hlk;cases hy2:s.on x with
 |none =>
  have R:=y6 @n3 (y6 @aY (y6 @U (y6 @j2 (y6 @bw (y6 @bq aC)))))
  repeat' ((first |(refine ae.n0 (gs:=vK) (gs1:=[_,_]) rfl fun K hK =>?_)|refine ae.aE (by decide +kernel) rfl fun K hK =>?_|(refine .av [0,1,3] hK ?_;clear hK K)|(with_reducible refine .done (hK _ ?_);clear hK K)|refine ae.of rfl ?_|(with_reducible refine aA.aD (fun h =>?_) (fun h =>?_) <;>try simp only[h])) <;>try simp only[aF,R,simprocAttr])
  all_goals clear R
  exact .call (wX hk hy2 (gX hk))
 |some i =>
  have hc:=hy i hy2;have hy:=hy2;obtain ⟨ha,hb1,hb2⟩:=px hy;have hil:=(js ha).1;have hno:=(js ha).2;have hlt:=hk.cA i hil;have hb:aj (aL s) (bB 1000000 i)=some (.box (enc (s.bV i))):=by
   have:=jq (dC s.all.length) (B:=1000000) hlt;rw[this];simp[aG.bV,zz0,hlt]
  have R:=y6 @n3 (y6 @aY (y6 @U (y6 @hb (y6 @hc (y6 @j2 (y6 @bw (y6 @bq aC)))))))
  repeat' ((first |(refine ae.n0 (gs:=vK) (gs1:=[_,_,_,_,_,_]) rfl fun K hK =>?_)|refine ae.aE (by decide +kernel) rfl fun K hK =>?_|refine aS.rB hk hlt (pU s hk x i hy) rfl ?_|(refine .av [0,1,3] hK ?_;clear hK K)|(with_reducible refine .done (hK _ ?_);clear hK K)|refine ae.of rfl ?_|(with_reducible refine aA.aD (fun h =>?_) (fun h =>?_) <;>try simp only[h])) <;>try simp only[aF,R,simprocAttr])
  all_goals clear R
  exact .call (il (gX hk))
theorem CA{s:aG}{x:bh}(h:fB x∉s.dZ):fp (.aP [.i .i64,.i .i64]) (.agg [.int .i64 x.other,.int .i64 x.no]) (enc x) (s.dZ.map enc) (s.bp.map enc)=some ((({ s with bp:=s.bp++[x] } : aG).dZ).map enc,(s.bp++[x]).map enc):=by
 have hm:=wC vj (fB x) (enc x) (er x) s.dZ (s.bp.map enc);have hf:=qo (k:=fB x) (ks:=s.dZ);rw[decide_eq_false h] at hf;have e:(enc (fB x):I)=.agg [.int .i64 x.other,.int .i64 x.no]:=rfl;rw[e] at hm;rw[hm];cases hq:s.dZ.findIdx? fun y=>decide (fB x=y) with
 |none=>simp[aG.dZ]
 |some i=>rw[hq] at hf;cases hf
theorem Fy{s:aG}{x:bh}(h:s.unknown x=true):fB x∉s.dZ:=by
 simp only[aG.unknown,t8,Bool.not_eq_true',decide_eq_false_iff_not] at h;exact h.2
theorem yx(x:bh):(dK [.int .i64 0,.int .i64 0] [(0,.int .i64 x.other),(1,.int .i64 x.no)]).map I.agg=some (.agg [.int .i64 x.other,.int .i64 x.no]):=by simp[dK,I.bT,I.size]
theorem FZ(s:aG)(hk:cw s)(x:bh)(hy:s.unknown x=true):cR Tryz.prog 132 [.ptr 1000000 [],enc x] (aL s) (mQ { s with bp:=s.bp++[x] }):=by
 refine cR.bZ Tryz.func132 zW Al KE (u8 rfl) (u8 rfl) dw (fun hwf W0 bF E1 =>?_);simp only[uQ,Dy,bJ,zz1];clear hwf;have n3:aj (aL s) 3=none:=eI (.inl (by omega)) fun i _=>by simp[bB];omega
 have aY:aj (aL s) 1000000=some (.box (.agg [.int .i64 s.aw,.mref 1000001,.mref 1000002,.int .i64 s.all.length,.mref 1000003,.mref 1000004])):=ft;have J:aj (aL s) 1000001=some (.bt (s.here.map enc) (List.replicate s.here.length (.bool true))):=fR;have U:aj (aL s) 1000002=some (.bt (s.bD.map enc) (dQ (bB 1000000) s.aQ)):=ga;have ah:aj (aL s) 1000003=some (.bt (s.dZ.map enc) (s.bp.map enc)):=gb;have hfin:∀ ts,cU (au ts ((3,.box (enc x))::aL s)) 9 (.agg [.int .i64 s.aw,.mref 1000001,.mref 1000002,.int .i64 s.all.length,.mref 1000003,.mref 1000004])=some (fQ s):=fun ts =>
  gO (gQ (dC _) hk.cA fun n hn=>by have:=dw n hn;simp only[aj];rw[if_neg (by omega)]) 4
 have hlk:=fW eN x.aK s.here;rw[eF] at hlk;have hF:=rZ s x;rw[hy] at hF;have hup:=CA (Fy hy);have R:=y6 @n3 (y6 @aY (y6 @ah (y6 @hfin (y6 @hup (y6 @yx (y6 @bw (y6 @bq aC)))))))
 repeat' ((first |refine ae.aE (by decide +kernel) rfl fun K hK =>?_|refine .flat _ (hF) rfl ?_|refine .flat _ (kF) rfl ?_|(refine .av [0,1,3] hK ?_;clear hK K)|(with_reducible refine .done (hK _ ?_);clear hK K)|refine ae.of rfl ?_|(with_reducible refine aA.aD (fun h =>?_) (fun h =>?_) <;>try simp only[h])) <;>try simp only[aF,R,simprocAttr])
 all_goals clear R
 rw[ma];refine l9 (fun n hn =>?_) (fun _ _ h=>iu (s := { s with bp:=s.bp++[x] }) ⟨hk.cA,hk.iL,hk.af⟩ h) ⟨rfl,rfl⟩;have:=dw n hn;simp only[aL,ed,aj];rw[if_neg (show ¬ n=3 by omega)]
 (repeat' split) <;>first | rfl | omega
theorem F0(s:aG)(hk:cw s)(x:bh)(hy:s.unknown x=false):fe Tryz.prog 132 fw [.ptr 1000000 [],enc x] (aL s) (j6 s):=by
 refine fe.mk Tryz.func132 zW Al (u8 rfl) (u8 rfl) dw (fun hwf W0 bF E1 =>?_);simp only[uQ,bJ,zz1];clear hwf;have n3:aj (aL s) 3=none:=eI (.inl (by omega)) fun i _=>by simp[bB];omega
 have aY:aj (aL s) 1000000=some (.box (.agg [.int .i64 s.aw,.mref 1000001,.mref 1000002,.int .i64 s.all.length,.mref 1000003,.mref 1000004])):=ft;have J:aj (aL s) 1000001=some (.bt (s.here.map enc) (List.replicate s.here.length (.bool true))):=fR;have U:aj (aL s) 1000002=some (.bt (s.bD.map enc) (dQ (bB 1000000) s.aQ)):=ga;have ah:aj (aL s) 1000003=some (.bt (s.dZ.map enc) (s.bp.map enc)):=gb;have hfin:∀ ts,cU (au ts ((3,.box (enc x))::aL s)) 9 (.agg [.int .i64 s.aw,.mref 1000001,.mref 1000002,.int .i64 s.all.length,.mref 1000003,.mref 1000004])=some (fQ s):=fun ts =>
  gO (gQ (dC _) hk.cA fun n hn=>by have:=dw n hn;simp only[aj];rw[if_neg (by omega)]) 4
 have hlk:=fW eN x.aK s.here;rw[eF] at hlk;have hF:=rZ s x;rw[hy] at hF;have R:=y6 @n3 (y6 @aY (y6 @ah (y6 @hfin (y6 @bw (y6 @bq aC)))))
 repeat' ((first |(refine ae.n0 (gs:=Bh) (gs1:=[_,_,_]) rfl fun K hK =>?_)|refine ae.aE (by decide +kernel) rfl fun K hK =>?_|refine .flat _ (hF) rfl ?_|(refine .av [0,1,3] hK ?_;clear hK K)|(with_reducible refine .done (hK _ ?_);clear hK K)|refine ae.of rfl ?_|(with_reducible refine aA.aD (fun h =>?_) (fun h =>?_) <;>try simp only[h])) <;>try simp only[aF,R,simprocAttr])
 all_goals clear R
 exact .call (il (gX hk))
theorem FX(s:aG)(hk:cw s)(x:bh)(hy:s.unknown x=true∧x.aK∉s.here∧s.eV x.aK=false):cR Tryz.prog 131 [.ptr 1000000 [],enc x] (aL s) (mQ { s with bp:=s.bp++[x],here:=gC s.here x.aK }):=by
 refine cR.bZ Tryz.func131 zV Ak KD (u8 rfl) (u8 rfl) dw (fun hwf W0 bF E1 =>?_);simp only[uP,Dw,bJ,zz1];clear hwf;have n3:aj (aL s) 3=none:=eI (.inl (by omega)) fun i _=>by simp[bB];omega
 have aY:aj (aL s) 1000000=some (.box (.agg [.int .i64 s.aw,.mref 1000001,.mref 1000002,.int .i64 s.all.length,.mref 1000003,.mref 1000004])):=ft;have J:aj (aL s) 1000001=some (.bt (s.here.map enc) (List.replicate s.here.length (.bool true))):=fR;have U:aj (aL s) 1000002=some (.bt (s.bD.map enc) (dQ (bB 1000000) s.aQ)):=ga;have ah:aj (aL s) 1000003=some (.bt (s.dZ.map enc) (s.bp.map enc)):=gb;have hfin:∀ ts,cU (au ts ((3,.box (enc x))::aL s)) 9 (.agg [.int .i64 s.aw,.mref 1000001,.mref 1000002,.int .i64 s.all.length,.mref 1000003,.mref 1000004])=some (fQ s):=fun ts =>
  gO (gQ (dC _) hk.cA fun n hn=>by have:=dw n hn;simp only[aj];rw[if_neg (by omega)]) 4
 have hlk:=fW eN x.aK s.here;rw[eF] at hlk;have hF:=rZ s x;rw[hy.1] at hF;have hF2:=pW s x.aK;rw[hy.2.2] at hF2;have q1:decide (x.aK∈s.here)=false:=decide_eq_false hy.2.1;have hup:=CA (Fy hy.1);have hup2:=wD eN x.aK s.here;rw[eF] at hup2;have R:=y6 @n3 (y6 @aY (y6 @J (y6 @ah (y6 @hfin (y6 @hlk (y6 @q1 (y6 @hup (y6 @hup2 (y6 @yx (y6 @bw (y6 @bq aC)))))))))))
 repeat' ((first |(with_reducible refine .guard (fun hb =>?_) (fun hb =>?_) <;>try simp only[hb])|refine ae.aE (by decide +kernel) rfl fun K hK =>?_|refine .flat _ (hF) rfl ?_|refine .flat _ (hF2) rfl ?_|refine .flat _ (kF) rfl ?_|(refine .av [0,1,3] hK ?_;clear hK K)|(with_reducible refine .done (hK _ ?_);clear hK K)|refine ae.of rfl ?_|(with_reducible refine aA.aD (fun h =>?_) (fun h =>?_) <;>try simp only[h])) <;>try simp only[aF,R,simprocAttr])
 all_goals clear R
 rw[ma];refine l9 (fun n hn =>?_) (fun _ _ h=>iu (s := { s with bp:=s.bp++[x],here:=gC s.here x.aK }) ⟨hk.cA,hk.iL,nu hk.af⟩ h) ⟨rfl,rfl⟩;have:=dw n hn;simp only[aL,ed,aj];rw[if_neg (show ¬ n=3 by omega)]
 (repeat' split) <;>first | rfl | omega
theorem FY(s:aG)(hk:cw s)(x:bh)(hy:¬ (s.unknown x=true∧x.aK∉s.here∧s.eV x.aK=false)):fe Tryz.prog 131 fw [.ptr 1000000 [],enc x] (aL s) (j6 s):=by
 refine fe.mk Tryz.func131 zV Ak (u8 rfl) (u8 rfl) dw (fun hwf W0 bF E1 =>?_);simp only[uP,bJ,zz1];clear hwf;have n3:aj (aL s) 3=none:=eI (.inl (by omega)) fun i _=>by simp[bB];omega
 have aY:aj (aL s) 1000000=some (.box (.agg [.int .i64 s.aw,.mref 1000001,.mref 1000002,.int .i64 s.all.length,.mref 1000003,.mref 1000004])):=ft;have J:aj (aL s) 1000001=some (.bt (s.here.map enc) (List.replicate s.here.length (.bool true))):=fR;have U:aj (aL s) 1000002=some (.bt (s.bD.map enc) (dQ (bB 1000000) s.aQ)):=ga;have ah:aj (aL s) 1000003=some (.bt (s.dZ.map enc) (s.bp.map enc)):=gb;have hfin:∀ ts,cU (au ts ((3,.box (enc x))::aL s)) 9 (.agg [.int .i64 s.aw,.mref 1000001,.mref 1000002,.int .i64 s.all.length,.mref 1000003,.mref 1000004])=some (fQ s):=fun ts =>
  gO (gQ (dC _) hk.cA fun n hn=>by have:=dw n hn;simp only[aj];rw[if_neg (by omega)]) 4
 have hlk:=fW eN x.aK s.here;rw[eF] at hlk;have hF:=rZ s x;have hF2:=pW s x.aK;rcases q0:s.unknown x
 ·rw[q0] at hF;have R:=y6 @n3 (y6 @aY (y6 @J (y6 @ah (y6 @hfin (y6 @hlk (y6 @bw (y6 @bq aC)))))))
  repeat' ((first |(with_reducible refine .guard (fun hb =>?_) (fun hb =>?_) <;>try simp only[hb])|(refine ae.jE (gs:=nG) 20 [] [] [0,1,2,3,4,5,6,7,8,9,10,11,12,13,14,15,16,17,18,19] (by decide +kernel) rfl (cN.of (by simp[e9])) fun K hK =>?_;simp only[eQ,nG,gq,zz9,zx5,List.take_zero,zy2,zy3,R,simprocAttr])|refine ae.aE (by decide +kernel) rfl fun K hK =>?_|refine .flat _ (hF) rfl ?_|(refine .av [0,1,3] hK ?_;clear hK K)|(with_reducible refine .done (hK _ ?_);clear hK K)|refine ae.of rfl ?_|(with_reducible refine aA.aD (fun h =>?_) (fun h =>?_) <;>try simp only[h])) <;>try simp only[aF,R,simprocAttr])
  all_goals clear R
  exact .call (il (gX hk))
 rw[q0] at hF;rcases q1:decide (x.aK∈s.here)
 ·have q2:s.eV x.aK=true:=by
   rcases q2:s.eV x.aK
   ·exact absurd ⟨q0,of_decide_eq_false q1,q2⟩ hy
   ·rfl
  rw[q2] at hF2;have R:=y6 @n3 (y6 @aY (y6 @J (y6 @ah (y6 @hfin (y6 @hlk (y6 @q1 (y6 @bw (y6 @bq aC))))))))
  repeat' ((first |(with_reducible refine .guard (fun hb =>?_) (fun hb =>?_) <;>try simp only[hb])|(refine ae.jE (gs:=nG) 20 [] [] [0,1,2,3,4,5,6,7,8,9,10,11,12,13,14,15,16,17,18,19] (by decide +kernel) rfl (cN.of (by simp[e9])) fun K hK =>?_;simp only[eQ,nG,gq,zz9,zx5,List.take_zero,zy2,zy3,R,simprocAttr])|refine ae.aE (by decide +kernel) rfl fun K hK =>?_|refine .flat _ (hF) rfl ?_|refine .flat _ (hF2) rfl ?_|(refine .av [0,1,3] hK ?_;clear hK K)|(with_reducible refine .done (hK _ ?_);clear hK K)|refine ae.of rfl ?_|(with_reducible refine aA.aD (fun h =>?_) (fun h =>?_) <;>try simp only[h])) <;>try simp only[aF,R,simprocAttr])
  all_goals clear R
  exact .call (il (gX hk))
 ·have R:=y6 @n3 (y6 @aY (y6 @J (y6 @ah (y6 @hfin (y6 @hlk (y6 @q1 (y6 @bw (y6 @bq aC))))))))
  repeat' ((first |(with_reducible refine .guard (fun hb =>?_) (fun hb =>?_) <;>try simp only[hb])|(refine ae.jE (gs:=nG) 20 [] [] [0,1,2,3,4,5,6,7,8,9,10,11,12,13,14,15,16,17,18,19] (by decide +kernel) rfl (cN.of (by simp[e9])) fun K hK =>?_;simp only[eQ,nG,gq,zz9,zx5,List.take_zero,zy2,zy3,R,simprocAttr])|refine ae.aE (by decide +kernel) rfl fun K hK =>?_|refine .flat _ (hF) rfl ?_|(refine .av [0,1,3] hK ?_;clear hK K)|(with_reducible refine .done (hK _ ?_);clear hK K)|refine ae.of rfl ?_|(with_reducible refine aA.aD (fun h =>?_) (fun h =>?_) <;>try simp only[h])) <;>try simp only[aF,R,simprocAttr])
  all_goals clear R
  exact .call (il (gX hk))
abbrev gy(k:Nat)(s:aG):List (Nat×aq):=ed 1000000 (fO 1000000 57 k) s
def tt(k:Nat)(s:aG):cC:=fun r os'=>r=.tuple []∧os'=gy k s
theorem gF{k m:Nat}(h:m≤k+1):gl 1000000 (fO 1000000 57 k) m:=gl.fO (by omega) h
theorem tO{s:aG}(hk:cw s){k:Nat}(h:s.all.length≤k):gy k s=aL s:=ZY hk.cA fun i hi=>lV (by omega)
def iU(s:aG)(x:bh):aG := { s with here:=s.here.erase x.aK,all:=s.all++[⟨x.no,x.other,x.aK,false⟩],aQ:=s.aQ++[s.all.length] }
theorem ZE{s:aG}(hk:cw s)(x:bh):cw (iU s x):=by
 refine ⟨fun i hi =>?_,?_,hk.af.erase _⟩
 ·simp only[iU,zx6,zx4] at hi;simp only[iU,zz6,List.length_singleton];rcases hi with hi | hi
  ·have:=hk.cA i hi;omega
  ·omega
 ·exact List.nodup_append.2 ⟨hk.iL,by simp,fun a ha c hc e=>by rw[zx4.1 hc] at e;have:=hk.cA a ha;omega⟩
theorem XC{s:aG}(hk:cw s){no:Int}(hno:no=(s.all.length:Int)+1)(v:I)(hv:v.bT=true):fp (.i .i64) (.int .i64 no) v (s.bD.map enc) (dQ (bB 1000000) s.aQ)=some ((s.bD++[no]).map enc,dQ (bB 1000000) s.aQ++[v]):=by
 have hm:=wC eN no v hv s.bD (dQ (bB 1000000) s.aQ);rw[eF] at hm;rw[hm];have hf:=qo (k:=no) (ks:=s.bD);have:no∉s.bD:=fun h=>by
  obtain ⟨i,hi,e⟩:=zx1.1 h;have:=hk.cA i hi;omega
 rw[decide_eq_false this] at hf;cases hq:s.bD.findIdx? fun y=>decide (no=y) with
 |none=>rfl
 |some i=>rw[hq] at hf;cases hf
theorem FQ(s:aG)(hk:cw s)(hlen:s.all.length≤100000)(x:bh)(hy:x.aK∈s.here∧x.other≠s.aw∧x.no=(s.all.length:Int)+1):cR Tryz.prog 127 [.ptr 1000000 [],enc x] (aL s) (tt s.all.length (iU s x)):=by
 refine cR.bZ Tryz.func127 zR Ag Kz (u8 rfl) (u8 rfl) dw (fun hwf W0 bF E1 =>?_);simp only[uL,Ds,bJ,zz1];clear hwf;have n3:aj (aL s) 3=none:=eI (.inl (by omega)) fun i _=>by simp[bB];omega
 have n57:aj (aL s) 57=none:=eI (.inl (by omega)) fun i _=>by simp[bB];omega
 have aY:aj (aL s) 1000000=some (.box (.agg [.int .i64 s.aw,.mref 1000001,.mref 1000002,.int .i64 s.all.length,.mref 1000003,.mref 1000004])):=ft;have J:aj (aL s) 1000001=some (.bt (s.here.map enc) (List.replicate s.here.length (.bool true))):=fR;have U:aj (aL s) 1000002=some (.bt (s.bD.map enc) (dQ (bB 1000000) s.aQ)):=ga;have hlk:=fW eN x.aK s.here;rw[eF] at hlk;have q1:decide (x.aK∈s.here)=true:=decide_eq_true hy.1;have q2:(x.other != s.aw)=true:=by simpa using hy.2.1
 have hw:IntKind.i64.wrap ((s.all.length:Int)+1)=(s.all.length:Int)+1:=lA _ (by omega) (by omega);have q3:(x.no==(s.all.length:Int)+1)=true:=by simpa using hy.2.2
 have hdl:=Cr hy.1;have hup:=XC hk hy.2.2 (.ptr 57 []) rfl;have hst:∀ A rest,df A none 1000000 [3] (.agg [.int .i64 s.aw,.mref 1000001,.mref 1000002,.int .i64 s.all.length,.mref 1000003,.mref 1000004]) (.int .i64 ((s.all.length:Int)+1)) rest (some (.int .i64 s.all.length)) =
   aB rest (A.aV 1000000 (.box (.agg [.int .i64 s.aw,.mref 1000001,.mref 1000002,.int .i64 ((s.all.length:Int)+1),.mref 1000003,.mref 1000004]))):=fun A rest=>dE rfl rfl rfl
 have hbld:(dK [.int .i64 0,.int .i64 0,.int .i64 0,.bool false] [(0,.int .i64 x.no),(1,.int .i64 x.other),(2,.int .i64 x.aK)]).map I.agg=some (enc (⟨x.no,x.other,x.aK,false⟩:cZ)):=by simp[dK,I.bT,I.size];rfl
 have offT:∀ (a b:Int) v,c9 [.int .i64 a,.mref 1000001,.mref 1000002,.int .i64 (b+1),.mref 1000003,.mref 1000004] 2 2 v=some v:=fun a b v=>rfl;have R:=y6 @n3 (y6 @n57 (y6 @aY (y6 @J (y6 @U (y6 @hlk (y6 @q1 (y6 @q2 (y6 @hw (y6 @q3 (y6 @hdl (y6 @hup (y6 @hst (y6 @hbld (y6 @offT (y6 @bw (y6 @bq aC))))))))))))))))
 repeat' ((first |(with_reducible refine .guard (fun hb =>?_) (fun hb =>?_) <;>try simp only[hb])|refine ae.aE (by decide +kernel) rfl fun K hK =>?_|refine .flat _ (kF) rfl ?_|(refine .av [0,1,3] hK ?_;clear hK K)|(with_reducible refine .done (hK _ ?_);clear hK K)|refine ae.of rfl ?_|(with_reducible refine aA.aD (fun h =>?_) (fun h =>?_) <;>try simp only[h])) <;>try simp only[aF,R,simprocAttr])
 all_goals clear R
 rw[ma];have hg:=gF (k:=s.all.length) (m:=(iU s x).all.length) (by simp[iU]);refine l9 (fun n hn =>?_) (fun _ _ h=>lx hg (ZE hk x).cA h) ⟨rfl,rfl⟩;have hl1:(iU s x).all.length=s.all.length+1:=by simp[iU]
 have hp:dQ (fO 1000000 57 s.all.length) (s.aQ++[s.all.length])=dQ (bB 1000000) s.aQ++[.ptr 57 []]:=by
  simp only[dQ,zy5,zz4,zx8]
  congr 1
  ·exact List.map_congr_left fun i hi=>by rw[lV (hk.cA i hi)]
  ·simp[fO]
 have hnu:(iU s x).bD=s.bD++[x.no]:=by simp[aG.bD,iU,hy.2.2]
 rcases (dL hg).1 hn with hb | ⟨j,hj,rfl⟩
 ·have hc:n=1000000∨n=1000001∨n=1000002∨n=1000003∨n=1000004:=by omega
  rcases hc with rfl | rfl | rfl | rfl | rfl
  ·rw[ft];simp[aj,ni,iU]
  ·rw[show (1000001:Nat)=1000000+1 from rfl,fR];simp[aj,oY,iU]
  ·rw[show (1000002:Nat)=1000000+2 from rfl,ga];simp only[oc,hnu];simp only[iU,hp];simp[aj]
  ·rw[show (1000003:Nat)=1000000+3 from rfl,gb];have:=gb (B:=1000000) (ν:=bB 1000000) (s:=s);simp only[aj,Nat.reduceAdd,Nat.reduceEqDiff,if_false];exact this
  ·rw[show (1000004:Nat)=1000000+4 from rfl,ou];have:=ou (B:=1000000) (ν:=bB 1000000) (s:=s);simp only[aj,Nat.reduceAdd,Nat.reduceEqDiff,if_false];exact this
 ·rw[jq hg hj];by_cases e:j=s.all.length
  ·subst e;simp[aj,fO,iU]
  ·have hj2:j<s.all.length:=by omega
   rw[lV hj2];have:=jq (B:=1000000) (ν:=bB 1000000) (s:=s) (dC _) hj2;simp only[aj];rw[if_neg (by simp[bB];omega),if_neg (by simp[bB];omega),if_neg (by simp[bB];omega),if_neg (by simp[bB];omega),if_neg (by simp[bB];omega),this];simp[iU,List.getElem_append_left hj2]
theorem FR(s:aG)(hk:cw s)(hlen:s.all.length≤100000)(x:bh)(hy:¬ (x.aK∈s.here∧x.other≠s.aw∧x.no=(s.all.length:Int)+1)):fe Tryz.prog 127 fw [.ptr 1000000 [],enc x] (aL s) (j6 s):=by
 refine fe.mk Tryz.func127 zR Ag (u8 rfl) (u8 rfl) dw (fun hwf W0 bF E1 =>?_);simp only[uL,bJ,zz1];clear hwf;have n3:aj (aL s) 3=none:=eI (.inl (by omega)) fun i _=>by simp[bB];omega
 have aY:aj (aL s) 1000000=some (.box (.agg [.int .i64 s.aw,.mref 1000001,.mref 1000002,.int .i64 s.all.length,.mref 1000003,.mref 1000004])):=ft;have J:aj (aL s) 1000001=some (.bt (s.here.map enc) (List.replicate s.here.length (.bool true))):=fR;have hlk:=fW eN x.aK s.here;rw[eF] at hlk;have hw:IntKind.i64.wrap ((s.all.length:Int)+1)=(s.all.length:Int)+1:=lA _ (by omega) (by omega);rcases q1:decide (x.aK∈s.here)
 ·have R:=y6 @n3 (y6 @aY (y6 @J (y6 @hlk (y6 @q1 (y6 @bw (y6 @bq aC))))))
  repeat' ((first |(with_reducible refine .guard (fun hb =>?_) (fun hb =>?_) <;>try simp only[hb])|(refine ae.jE (gs:=nF) 26 [] [] [0,1,2,3,4,5,6,7,8,9,10,11,12,13,14,15,16,17,18,19,20,21,22,23,24,25] (by decide +kernel) rfl (cN.of (by simp[e9])) fun K hK =>?_;simp only[eQ,nF,gq,zz9,zx5,List.take_zero,zy2,zy3,R,simprocAttr])|refine ae.aE (by decide +kernel) rfl fun K hK =>?_|(refine .av [0,1,3] hK ?_;clear hK K)|(with_reducible refine .done (hK _ ?_);clear hK K)|refine ae.of rfl ?_|(with_reducible refine aA.aD (fun h =>?_) (fun h =>?_) <;>try simp only[h])) <;>try simp only[aF,R,simprocAttr])
  all_goals clear R
  exact .call (il (gX hk))
 rcases q2:(x.other != s.aw)
 ·have R:=y6 @n3 (y6 @aY (y6 @J (y6 @hlk (y6 @q1 (y6 @q2 (y6 @bw (y6 @bq aC)))))))
  repeat' ((first |(with_reducible refine .guard (fun hb =>?_) (fun hb =>?_) <;>try simp only[hb])|(refine ae.jE (gs:=nF) 26 [] [] [0,1,2,3,4,5,6,7,8,9,10,11,12,13,14,15,16,17,18,19,20,21,22,23,24,25] (by decide +kernel) rfl (cN.of (by simp[e9])) fun K hK =>?_;simp only[eQ,nF,gq,zz9,zx5,List.take_zero,zy2,zy3,R,simprocAttr])|refine ae.aE (by decide +kernel) rfl fun K hK =>?_|(refine .av [0,1,3] hK ?_;clear hK K)|(with_reducible refine .done (hK _ ?_);clear hK K)|refine ae.of rfl ?_|(with_reducible refine aA.aD (fun h =>?_) (fun h =>?_) <;>try simp only[h])) <;>try simp only[aF,R,simprocAttr])
  all_goals clear R
  exact .call (il (gX hk))
 have q3:(x.no==(s.all.length:Int)+1)=false:=by
  rcases q3:(x.no==(s.all.length:Int)+1)
  ·rfl
  ·exact absurd ⟨of_decide_eq_true q1,by simpa using q2,by simpa using q3⟩ hy
 have R:=y6 @n3 (y6 @aY (y6 @J (y6 @hlk (y6 @q1 (y6 @q2 (y6 @hw (y6 @q3 (y6 @bw (y6 @bq aC)))))))))
 repeat' ((first |(with_reducible refine .guard (fun hb =>?_) (fun hb =>?_) <;>try simp only[hb])|(refine ae.jE (gs:=nF) 26 [] [] [0,1,2,3,4,5,6,7,8,9,10,11,12,13,14,15,16,17,18,19,20,21,22,23,24,25] (by decide +kernel) rfl (cN.of (by simp[e9])) fun K hK =>?_;simp only[eQ,nF,gq,zz9,zx5,List.take_zero,zy2,zy3,R,simprocAttr])|refine ae.aE (by decide +kernel) rfl fun K hK =>?_|(refine .av [0,1,3] hK ?_;clear hK K)|(with_reducible refine .done (hK _ ?_);clear hK K)|refine ae.of rfl ?_|(with_reducible refine aA.aD (fun h =>?_) (fun h =>?_) <;>try simp only[h])) <;>try simp only[aF,R,simprocAttr])
 all_goals clear R
 exact .call (il (gX hk))
def ee(s:aG)(x:bh):aG×Bool:=match fS s x with
 |some s'=>(s',true)
 |none=>(s,false)
def C6(s:aG)(x:bh):cC:=fun r os'=>r=.bool (ee s x).2∧os'=gy s.all.length (ee s x).1
def jw(B:Nat):List I:=[.func 1000125 [.ptr B []],.func 1000126 [.ptr B []],.func 1000127 [.ptr B []],.func 1000128 [.ptr B []],.func 1000129 [.ptr B []],.func 1000130 [.ptr B []],.func 1000131 [.ptr B []],.func 1000132 [.ptr B []]]
def kE(s:aG)(x:bh)(f:FuncId):Prop:=match ec s x with
 |some s'=>cR Tryz.prog f [.ptr 1000000 [],enc x] (aL s) (tt s.all.length s')
 |none=>fe Tryz.prog f fw [.ptr 1000000 [],enc x] (aL s) (j6 s)
theorem cR.post{P:Program}{f:FuncId}{args:List I}{os:List (Nat×aq)}{post post':cC}(h:cR P f args os post)(hp:∀ r os',post r os'→post' r os'):cR P f args os post' :=
 ⟨h.1,fun w D E vs ab hD ho hv=>(h.2 w D E vs ab hD ho hv).mono fun _ _ ⟨v,D',E',r,os',k1,k2,k⟩=>⟨v,D',E',r,os',k1,hp _ _ k2,k⟩⟩
theorem nV{s s':aG}{x:bh}(hk:cw s)(hn:ec s x=some s')(hx:x.kind≠3):∀ r os',mQ s' r os'→tt s.all.length s' r os':=by
 rintro r os' ⟨rfl,rfl⟩;obtain ⟨J,_,_,ar⟩:=hk.next hn
 exact ⟨rfl,(tO J (Nat.le_of_eq (ar hx))).symm⟩
theorem wv{s:aG}(hk:cw s)(hlen:s.all.length≤100000){x:bh}(hx:fP x=true) :
  ∃ f:Nat,fo (.i .i64) .dx (.int .i64 x.kind) gH (jw 1000000)=some (.func (f+1000000) [.ptr 1000000 []],true)∧[125,126,127,128,129,130,131,132].contains f=true∧kE s x f:=by
 have ar:x.kind=1∨x.kind=2∨x.kind=3∨x.kind=4∨x.kind=5∨x.kind=6∨x.kind=7∨x.kind=8:=by
  simp only[fP] at hx;split at hx
  ·omega
  ·split at hx
   ·omega
   ·cases hx
 have lk:∀ n:Int,x.kind=n→fo (.i .i64) .dx (.int .i64 x.kind) gH (jw 1000000)=fo (.i .i64) .dx (.int .i64 n) gH (jw 1000000):=fun n h=>by rw[h]
 rcases ar with h | h | h | h | h | h | h | h
 ·refine ⟨125,by rw[h];simp[fo,eG,b7,gH,jw],rfl,?_⟩;simp only[kE,ec,h,if_true];split
  ·rename_i s' ab;split at ab
   ·cases ab
   ·rename_i bG;cases ab;have hy:x.aK∉s.here∧s.eV x.aK=false:=⟨fun h=>bG (.inl h),by rcases q:s.eV x.aK;rfl;exact absurd (.inr q) bG⟩
    exact cR.post (FM s hk x hy) (nV (x:=x) hk (by simp[ec,h,hy.1,hy.2]) (by omega))
  ·rename_i ab;split at ab
   ·rename_i bG;exact FN s hk x bG
   ·cases ab
 ·refine ⟨126,by rw[h];simp[fo,eG,b7,gH,jw],rfl,?_⟩;simp only[kE,ec,h,Int.reduceEq,if_false,if_true];split
  ·rename_i s' ab;split at ab
   ·rename_i bG;cases ab;exact cR.post (FO s hk x bG) (nV (x:=x) hk (by simp[ec,h,bG]) (by omega))
   ·cases ab
  ·rename_i ab;split at ab
   ·cases ab
   ·rename_i bG;exact FP s hk x bG
 ·refine ⟨127,by rw[h];simp[fo,eG,b7,gH,jw],rfl,?_⟩;simp only[kE,ec,h,Int.reduceEq,if_false,if_true];split
  ·rename_i s' ab;split at ab
   ·rename_i bG;cases ab;exact FQ s hk hlen x bG
   ·cases ab
  ·rename_i ab;split at ab
   ·cases ab
   ·rename_i bG;exact FR s hk hlen x bG
 ·refine ⟨128,by rw[h];simp[fo,eG,b7,gH,jw],rfl,?_⟩;simp only[kE,ec,h,Int.reduceEq,if_false,if_true];cases ho:s.on x with
  |none=>exact xR s hk x fun i hi=>by rw[ho] at hi;cases hi
  |some i =>
   cases hc:(s.bV i).dj with
   |true =>
    simp only[hc,if_true];exact xR s hk x fun j hj=>by rw[ho] at hj;cases hj;exact hc
   |false =>
    simp only[hc,zz2,if_false];exact cR.post (FT s hk x i ho hc) (nV (x:=x) hk (by simp[ec,h,ho,hc]) (by omega))
 ·refine ⟨129,by rw[h];simp[fo,eG,b7,gH,jw],rfl,?_⟩;simp only[kE,ec,h,Int.reduceEq,if_false,if_true];cases ho:s.on x with
  |none=>exact FV s hk x ho
  |some i=>exact cR.post (FU s hk x i ho) (nV (x:=x) hk (by simp[ec,h,ho]) (by omega))
 ·refine ⟨130,by rw[h];simp[fo,eG,b7,gH,jw],rfl,?_⟩;simp only[kE,ec,h,Int.reduceEq,if_false,if_true];cases ho:s.on x with
  |none=>exact xS s hk x fun i hi=>by rw[ho] at hi;cases hi
  |some i =>
   cases hc:(s.bV i).dj with
   |false =>
    simp only[hc,zz2,if_false];exact xS s hk x fun j hj=>by rw[ho] at hj;cases hj;exact hc
   |true =>
    simp only[hc,if_true];exact cR.post (FW s hk x i ho hc) (nV (x:=x) hk (by simp[ec,h,ho,hc]) (by omega))
 ·refine ⟨131,by rw[h];simp[fo,eG,b7,gH,jw],rfl,?_⟩;simp only[kE,ec,h,Int.reduceEq,if_false,if_true];split
  ·rename_i s' ab;split at ab
   ·rename_i bG;cases ab;exact cR.post (FX s hk x bG) (nV (x:=x) hk (by simp[ec,h,bG.1,bG.2.1,bG.2.2]) (by omega))
   ·cases ab
  ·rename_i ab;split at ab
   ·cases ab
   ·rename_i bG;exact FY s hk x bG
 ·refine ⟨132,by rw[h];simp[fo,eG,b7,gH,jw],rfl,?_⟩;simp only[kE,ec,h,Int.reduceEq,if_false,if_true];cases hu:s.unknown x with
  |true =>
   simp only[if_true];exact cR.post (FZ s hk x hu) (nV (x:=x) hk (by simp[ec,h,hu]) (by omega))
  |false =>
   simp only[zz2,if_false];exact F0 s hk x hu
def dJ(x:bh)(b:Bool)(l:List (Nat×aq)):List (Nat×aq):=(1900004,.box (.bool b))::(1900003,.box (enc x))::l
def lY(s:aG)(x:bh):cC:=fun r os'=>r=.bool (ee s x).2∧os'=dJ x (ee s x).2 (gy s.all.length (ee s x).1)
def lh:List (Nat×Nat):=[(1900003,3),(1900004,4)]
theorem rJ{s:aG}(hk:cw s)(x:bh):cw (ee s x).1∧(ee s x).1.aw=s.aw∧s.all.length≤(ee s x).1.all.length∧(ee s x).1.all.length≤s.all.length+1:=by
 simp only[ee];cases h:fS s x with
 |none=>exact ⟨hk,rfl,zz3 _,by simp⟩
 |some s' =>
  simp only[fS] at h;split at h
  ·obtain ⟨J,U,ah,ar⟩:=hk.next h
   refine ⟨J,U,?_,ah⟩;by_cases hk3:x.kind=3
   ·simp only[ec,hk3,Int.reduceEq,if_false,if_true] at h;split at h <;>cases h
    simp
   ·exact Nat.le_of_eq (ar hk3).symm
  ·cases h
theorem tN{s:aG}{k:Nat}(h:s.all.length≤k+1){n:Nat}(hn:az (gy k s) n=true):n=57∨(1000000≤n∧n<1000006+k):=by
 rcases (dL (gF h)).1 hn with U | ⟨i,hi,rfl⟩
 ·omega
 ·simp only[fO];split <;>omega
theorem lu{s:aG}{n:Nat}(hn:az (aL s) n=true):1000000≤n∧n<1000005+s.all.length:=by
 rcases (dL (dC _)).1 hn with U | ⟨i,hi,rfl⟩
 ·omega
 ·simp only[bB];omega
theorem jD{x:bh}{b:Bool}{l:List (Nat×aq)}{n:Nat} : az (dJ x b l) n=true↔n=1900004∨n=1900003∨az l n=true:=by
 simp only[az,dJ,aj];by_cases J:n=1900004
 ·simp[J]
 by_cases U:n=1900003
 ·simp[U]
 simp[J,U]
theorem rf{x:bh}{b:Bool}{l:List (Nat×aq)}(ao:∀ m y,aj l m=some y→y.only (az l)=true∧y.eg=true){n:Nat}{y:aq}(h:aj (dJ x b l) n=some y):y.only (az (dJ x b l))=true∧y.eg=true:=by
 simp only[dJ,aj] at h;split at h
 ·cases h;exact ⟨rfl,rfl⟩
 split at h
 ·cases h;exact ⟨cJ _ _,rfl⟩
 obtain ⟨J,U⟩:=ao n y h;refine ⟨aq.iO (fun m hm=>jD.2 (.inr (.inr hm))) y J,U⟩
theorem xd(ρ:List (Nat×Nat))(k:Nat)(v:aq)(os:List (Nat×aq)):dy ρ ((k,v)::os)=(bK ρ k,v.bm (bK ρ))::dy ρ os:=rfl
theorem EK{ρ:List (Nat×Nat)}{ν ν':Nat→Nat} : ∀ (l:List cZ) (i:Nat),(∀ k,k<i+l.length→bK ρ (ν k)=ν' k)→dy ρ (ju ν i l)=ju ν' i l
 | [],_,_=>rfl
 |r::l,i,h=>by
  simp only[zw2] at h;simp only[ju,xd,h i (by omega),aq.bm,kS,EK l (i+1) fun k hk=>h k (by omega)]
theorem EN{ρ:Nat→Nat}{ν ν':Nat→Nat} : ∀ l:List Nat,(∀ i∈l,ρ (ν i)=ν' i)→I.dR ρ (dQ ν l)=dQ ν' l
 | [],_=>rfl
 |i::l,h=>by
  have ih:=EN (ρ:=ρ) l fun j hj=>h j (by simp[hj]);simp only[dQ] at ih;simp only[dQ,zz4,I.dR,I.bm,h i (by simp),ih]
theorem EM{ρ:List (Nat×Nat)}{B B':Nat}{ν ν':Nat→Nat}{s:aG}(ao:∀ i∈s.aQ,i<s.all.length)(aY:∀ j,j<5→bK ρ (B+j)=B'+j)(h:∀ k,k<s.all.length→bK ρ (ν k)=ν' k):dy ρ (ed B ν s)=ed B' ν' s:=by
 have hB:bK ρ B=B':=aY 0 (by omega);have J:=aY 1 (by omega);have U:=aY 2 (by omega);have ah:=aY 3 (by omega);have ar:=aY 4 (by omega);have hp:=EN (ρ:=bK ρ) s.aQ fun i hi=>h i (ao i hi);have hr:I.dR (bK ρ) (List.replicate s.here.length (.bool true))=List.replicate s.here.length (.bool true):=mV _ _ (qh _);simp only[ed,xd,hB,J,U,ah,ar,EK s.all 0 (by simpa using h),ni,oY,oc,qI,oM,gH,aq.bm,I.bm,I.dR,tE,hp,hr]
theorem Ck{ρ:List (Nat×Nat)}{os:List (Nat×aq)}{m:Nat}{y:aq}(inj:∀ m',az os m'=true→bK ρ m'=bK ρ m→m'=m)(h:aj os m=some y):aj (dy ρ os) (bK ρ m)=some (y.bm (bK ρ)):=by
 have J:=qP ρ os [] (bK ρ m);rw[List.append_nil] at J;rw[J];cases hp:pre ρ os (bK ρ m) with
 |none=>exact absurd rfl (wZ hp (by simp[az,h]))
 |some m' =>
  obtain ⟨k1,k2⟩:=lf hp;have:=inj m' k1 k2;subst this;simp only[h,zz7]
theorem mc(m:Nat):bK lh m=if m=1900003 then 3 else if m=1900004 then 4 else m:=rfl
theorem EJ{s:aG}(hk:cw s){k:Nat}(h:s.all.length≤k+1)(hlen:k≤100000):dy lh (gy k s)=gy k s :=
 EM hk.cA (fun j hj=>by rw[mc,if_neg (by omega),if_neg (by omega)]) fun i hi=>by
  have:fO 1000000 57 k i=57∨(1000000≤fO 1000000 57 k i∧fO 1000000 57 k i<1000006+k):=by simp only[fO];split <;>omega
  rw[mc,if_neg (by omega),if_neg (by omega)]
theorem Zg{s:aG}(hk:cw s)(hlen:s.all.length≤100000):dy lh (aL s)=aL s:=by
 rw[←tO hk (zz3 _)];exact EJ hk (by omega) hlen
def xh:bo:=.seq (.b9 none Bp) (.seq (.b9 Mg qy) (.seq (.b9 none Vc) .ret))
theorem Mj:Tryz.f81.body.bind (u7 Tryz.prog Tryz.f81.ntmps)=some (.b9 none Bo,113,4,5,xh):=by kernel_rfl
def pz(s:aG)(x:bh):List (Nat×aq):=(4,.box (.bool false))::(3,.box (enc x))::aL s
theorem WK{s:aG}(hk:cw s)(hlen:s.all.length≤100000)(x:bh):gi lh (dJ x false (aL s)) (pz s x):=by
 refine ⟨fun m y hy=>⟨?_,rf (fun _ _ h=>iu hk h) hy⟩,fun m m' hm hm' e =>?_⟩
 ·simp only[dJ,aj] at hy;split at hy
  ·rename_i h;subst h;cases hy;rfl
  split at hy
  ·rename_i h;subst h;cases hy;simp only[aq.bm,kS];rfl
  ·have hm:=lu (s:=s) (n:=m) (by simp[az,hy]);have e:bK lh m=m:=by rw[mc,if_neg (by omega),if_neg (by omega)]
   have:=Ck (ρ:=lh) (os:=aL s) (m:=m) (fun m' hm' he=>by
    have:=lu hm';rw[e,mc,if_neg (by omega),if_neg (by omega)] at he;exact he) hy
   rw[Zg hk hlen] at this;rw[e] at this ⊢;simp only[pz,aj];rw[if_neg (by omega),if_neg (by omega)];exact this
 ·have key:∀ m,az (dJ x false (aL s)) m=true→m=1900004∨m=1900003∨(1000000≤m∧m<1900000):=fun m hm=>by
   rcases jD.1 hm with h | h | h
   ·exact .inl h
   ·exact .inr (.inl h)
   ·have:=lu h;exact .inr (.inr (by omega))
  have k1:=key m hm;have k2:=key m' hm';rw[mc,mc] at e
  (repeat' split at e) <;>omega
theorem Hq{s:aG}(hk:cw s)(hlen:s.all.length≤100000)(x:bh):∀ r os',lY s x r os'→gA false lh (dJ x false (aL s)) (pz s x) r os':=by
 rintro r os' ⟨rfl,rfl⟩;obtain ⟨J,U,ah,ar⟩:=rJ hk x;have hon:∀ m y,aj (gy s.all.length (ee s x).1) m=some y→y.only (az (gy s.all.length (ee s x).1))=true∧y.eg=true:=fun m y h=>lx (gF ar) J.cA h;have key:∀ m,az (dJ x (ee s x).2 (gy s.all.length (ee s x).1)) m=true→m=1900004∨m=1900003∨m=57∨(1000000≤m∧m<1900000):=fun m hm=>by
  rcases jD.1 hm with h | h | h
  ·exact .inl h
  ·exact .inr (.inl h)
  ·have:=tN ar h;omega
 refine ⟨fun m y hy=>⟨(rf hon hy).1,(rf hon hy).2,fun h=>by cases h⟩,fun m m' hm hm' e =>?_,fun m hm =>?_,fun m hm hno =>?_,rfl,fun h=>by cases h⟩
 ·have k1:=key m hm;have k2:=key m' hm';rw[mc,mc] at e
  (repeat' split at e) <;>omega
 ·rcases jD.1 hm with h | h | h
  ·exact jD.2 (.inl h)
  ·exact jD.2 (.inr (.inl h))
  ·refine jD.2 (.inr (.inr ?_));rcases (dL (dC _)).1 h with h5 | ⟨i,hi,rfl⟩
   ·exact (dL (gF ar)).2 (.inl h5)
   ·exact (dL (gF ar)).2 (.inr ⟨i,by omega,(lV hi).symm⟩)
 ·have hno2:¬ (m=1900004∨m=1900003∨az (aL s) m=true):=fun h=>by
   rw[jD.2 h] at hno;cases hno
  rcases jD.1 hm with h | h | h
  ·exact absurd (.inl h) hno2
  ·exact absurd (.inr (.inl h)) hno2
  ·have h57:m=57:=by
    rcases (dL (gF ar)).1 h with h5 | ⟨i,hi,e⟩
    ·exact absurd (.inr (.inr ((dL (dC _)).2 (.inl h5)))) hno2
    ·by_cases hi2:i=s.all.length
     ·subst hi2;simpa[fO] using e
     ·exact absurd (.inr (.inr ((dL (dC _)).2 (.inr ⟨i,by omega,by rw[e,lV (by omega)]⟩)))) hno2
   subst h57;refine ⟨?_,by decide⟩
   show aj (pz s x) 57=none
   simp only[pz,aj,Nat.reduceEqDiff,if_false];exact eI (.inl (by omega)) fun i _=>by simp[bB];omega
theorem Hp{s:aG}(hk:cw s)(hlen:s.all.length≤100000)(x:bh):∀ r os',lY s x r os'→∃ osF,r.flat=true∧r.bm (bK lh)=r∧(∀ m z,aj osF m=some z→aj (dy lh os'++pz s x) m=some z∧z.only (az osF)=true∧z.eg=true)∧C6 s x r osF:=by
 rintro r os' ⟨rfl,rfl⟩;obtain ⟨J,U,ah,ar⟩:=rJ hk x;refine ⟨gy s.all.length (ee s x).1,rfl,rfl,fun m z hz=>⟨?_,lx (gF ar) J.cA hz⟩,rfl,rfl⟩;have hm:=tN ar (n:=m) (by simp[az,hz]);simp only[dJ,xd,EJ J ar hlen,zz9,aj,mc];rw[if_neg (by simp only[Nat.reduceEqDiff,if_false,if_true];omega),if_neg (by simp only[if_true];omega),fF,hz]
theorem Xn(f:Nat):(f+1000000<1000000)=False:=by simp
theorem BL{s:aG}(hk:cw s)(hlen:s.all.length≤100000)(x:bh)(b:Bool):gi [] (aL s) (dJ x b (aL s)):=by
 refine ⟨fun m y hy=>⟨?_,iu hk hy⟩,fun m m' _ _ h=>h⟩;have hm:=lu (s:=s) (n:=m) (by simp[az,hy]);rw[aq.kv (ρ:=bK []) (fun n=>rfl)]
 show aj (dJ x b (aL s)) m=some y
 simp only[dJ,aj];rw[if_neg (by omega),if_neg (by omega)];exact hy
theorem ZR{s s':aG}(hk':cw s')(ah:s.all.length≤s'.all.length)(ar:s'.all.length≤s.all.length+1)(x:bh):gA false [] (aL s) (dJ x false (aL s)) (.tuple []) (gy s.all.length s'):=by
 refine ⟨fun m y hy=>⟨(lx (gF ar) hk'.cA hy).1,(lx (gF ar) hk'.cA hy).2,fun h=>by cases h⟩,fun m m' _ _ h=>h,fun m hm =>?_,fun m hm hno =>?_,rfl,fun h=>by cases h⟩
 ·rcases (dL (dC _)).1 hm with h5 | ⟨i,hi,rfl⟩
  ·exact (dL (gF ar)).2 (.inl h5)
  ·exact (dL (gF ar)).2 (.inr ⟨i,by omega,(lV hi).symm⟩)
 ·have h57:m=57:=by
   rcases (dL (gF ar)).1 hm with h5 | ⟨i,hi,e⟩
   ·rw[(dL (dC _)).2 (.inl h5)] at hno;cases hno
   ·by_cases hi2:i=s.all.length
    ·subst hi2;simpa[fO] using e
    ·rw[(dL (dC _)).2 (.inr ⟨i,by omega,by rw[e,lV (by omega)]⟩)] at hno;cases hno
  subst h57;refine ⟨?_,by decide⟩
  show aj (dJ x false (aL s)) 57=none
  simp only[dJ,aj,Nat.reduceEqDiff,if_false];exact eI (.inl (by omega)) fun i _=>by simp[bB];omega
theorem bP.wv{ab:List FuncId}{K:ai→Prop}{f:FuncId}{s s':aG}{x:bh}{avs:List I}{a1 a2:Option (List I)}{dst:Option Nat}{rest:List aH}{ts:List (Nat×I)}(hk:cw s)(hlen:s.all.length≤100000)(hk':cw s')(ah:s.all.length≤s'.all.length)(ar:s'.all.length≤s.all.length+1)
  (hf:ab.contains f=true) (hc:cR Tryz.prog f [.ptr 1000000 [],enc x] (aL s) (tt s.all.length s')) (hav:avs=[.ptr 1000000 [],enc x])
  (h:bP Tryz.prog dq ab K (aB rest ((au ts (gy s.all.length s'++dJ x false (aL s))).aU dst (.tuple [])))):bP Tryz.prog dq ab K (.call f avs a1 a2 dst rest (au ts (dJ x false (aL s)))):=by
 subst hav;refine .wJ false [] (aL s) [.ptr 1000000 [],enc x] _ hf hc (BL hk hlen x false) sg ?_ ?_
 ·rintro r os' ⟨rfl,rfl⟩;exact ZR hk' ah ar x
 ·rintro r os' ⟨rfl,rfl⟩;rw[l6];exact h
theorem YG{Q:Exit→ai→Prop}{f:FuncId}{s:aG}{x:bh}(hk:cw s)(hlen:s.all.length≤100000)(hc:fe Tryz.prog f fw [.ptr 1000000 [],enc x] (aL s) (j6 s)){ts:List (Nat×I)}(hq:Q (.panic fw) (au ts (aL s++dJ x false (aL s)))):nr Tryz.prog Q f [.ptr 1000000 [],enc x] (au ts (dJ x false (aL s))) :=
 .mk false [] (aL s) [.ptr 1000000 [],enc x] fw _ hc (BL hk hlen x false) sg (fun os' h=>by cases h;exact uG hk rfl) (fun os' h=>by cases h;rw[l6];exact hq)
theorem Ho{ts:List (Nat×I)}{s:aG}{x:bh}(hlen:s.all.length≤100000):au ts (aL s++dJ x false (aL s))=au ts (dJ x false (aL s)):=by
 simp only[au,ai.mk.injEq,true_and]
 funext n
 rw[fF];cases h:aj (aL s) n with
 |none=>rfl
 |some y =>
  have:=lu (s:=s) (n:=n) (by simp[az,h]);simp only[dJ,aj];rw[if_neg (by omega),if_neg (by omega),h]
theorem EF{s:aG}{x:bh}(hk:cw s)(hlen:s.all.length≤100000)(hn:ee s x=(s,false)){ts:List (Nat×I)}(ht:Abs.bX ts 4=.ptr 1900004 []):rp [.cell 4 none] (lY s x) fw 1900004 (.panic fw) (au ts (dJ x false (aL s))):=by
 refine ⟨rfl,⟨false,rfl⟩,dJ x false (aL s),[.bool false],fun m z hz=>⟨?_,rf (fun _ _ h=>iu hk h) hz⟩,⟨⟨.bool false,?_,.inl ⟨rfl,rfl,rfl⟩⟩,trivial⟩,?_⟩
 ·show aj ((1900004,.box (.bool false))::dJ x false (aL s)) m=some z
  simp only[aj];split
  ·rename_i h;subst h;exact hz
  ·exact hz
 ·show (match cF _ (Abs.bX ts 4) with | some x=>if b6 none x=true then some x else none | none=>none)=some (I.bool false)
  rw[ht];rfl
 ·show lY s x (.bool false) (dJ x false (aL s))
  simp only[lY];rw[hn];exact ⟨rfl,congrArg _ (tO hk (zz3 _)).symm⟩
theorem Zn{s:aG}(hk:cw s)(hlen:s.all.length≤100000)(x:bh)(W:World)(D:aR)(E:a8)(n:Nat)(d:Deferred) :
  ae ⟨Tryz.prog,W,D,n,cE E,E,dq,none,some [d]⟩ xh (rp [.cell 4 none] (lY s x) fw 1900004) (au [(0,.ptr 1000000 []),(3,.ptr 1900003 []),(4,.ptr 1900004 [])] (dJ x false (aL s))):=by
 have aY:aj (dJ x false (aL s)) 1000000=some (.box (.agg [.int .i64 s.aw,.mref 1000001,.mref 1000002,.int .i64 s.all.length,.mref 1000003,.mref 1000004])):=by
  simp only[dJ,aj,Nat.reduceEqDiff,if_false];exact ft
 have ar:aj (dJ x false (aL s)) 1000004=some (.bt gH (jw 1000000)):=by
  simp only[dJ,aj,Nat.reduceEqDiff,if_false];exact ou
 have hb3:aj (dJ x false (aL s)) 1900003=some (.box (enc x)):=rfl;have hb4:aj (dJ x false (aL s)) 1900004=some (.box (.bool false)):=rfl;have hF:=Gr x;simp only[xh];rcases hx:fP x
 ·rw[hx] at hF;have hn:ee s x=(s,false):=by simp[ee,fS,hx]
  have R:=y6 @aY (y6 @ar (y6 @hb3 (y6 @hb4 (y6 @bw (y6 @bq aC)))))
  repeat' ((first |(with_reducible refine .guard (fun hb =>?_) (fun hb =>?_) <;>try simp only[hb])|(refine ae.n0 (gs:=Bp) (gs1:=[_,_]) rfl fun K hK =>?_)|refine ae.aE (by decide +kernel) rfl fun K hK =>?_|refine .flat _ (hF) rfl ?_|(refine .av [0,1,3,4] hK ?_;clear hK K)|(with_reducible refine .done (hK _ ?_);clear hK K)|refine ae.of rfl ?_|(with_reducible refine aA.aD (fun h =>?_) (fun h =>?_) <;>try simp only[h])) <;>try simp only[aF,R,simprocAttr])
  all_goals clear R
  exact .call (il (EF hk hlen hn rfl))
 rw[hx] at hF;obtain ⟨f,hlk,hfc,hdo⟩:=wv hk hlen hx;have hfl:=sB f;have hlm:=Xn f;have hkd:(enc x:I).dI=some [.int .i64 x.kind,.int .i64 x.aK,.int .i64 x.other,.int .i64 x.no]:=rfl;simp only[kE] at hdo;cases hn:ec s x with
 |none =>
  rw[hn] at hdo;have hn2:ee s x=(s,false):=by simp[ee,fS,hx,hn]
  have R:=y6 @aY (y6 @ar (y6 @hb3 (y6 @hb4 (y6 @hlk (y6 @hfl (y6 @hlm (y6 @bw (y6 @bq aC))))))))
  repeat' ((first |(with_reducible refine .guard (fun hb =>?_) (fun hb =>?_) <;>try simp only[hb])|(refine ae.jE (gs:=qy) 8 [] [] [0,1,2,3,4,5,6,7] (by decide +kernel) rfl (cN.of (by simp[e9])) fun K hK =>?_;simp only[eQ,qy,gq,zz9,zx5,List.take_zero,zy2,zy3,R,simprocAttr])|refine ae.aE (by decide +kernel) rfl fun K hK =>?_|refine .flat _ (hF) rfl ?_|refine .flat _ (kF) rfl ?_|(refine .av [0,1,3,4] hK ?_;clear hK K)|(with_reducible refine .done (hK _ ?_);clear hK K)|refine ae.of rfl ?_|(with_reducible refine aA.aD (fun h =>?_) (fun h =>?_) <;>try simp only[h])) <;>try simp only[aF,R,simprocAttr])
  all_goals clear R
  refine .fK (f:=f+1000000) (caps:=[.ptr 1000000 []]) rfl ?_;rw[sB,vu];exact YG hk hlen hdo (by rw[Ho hlen];exact EF hk hlen hn2 rfl)
 |some s' =>
  rw[hn] at hdo;have hn2:ee s x=(s',true):=by simp[ee,fS,hx,hn]
  have hso:=rJ hk x;rw[hn2] at hso;simp only at hso;obtain ⟨k1,k2,k3,k4⟩:=hso;have e4:∀ n,n=1900004∨n=1900003→aj (gy s.all.length s') n=none:=fun n hn=>by
   rcases hn with rfl | rfl <;>exact eI (.inr (by omega)) fun i hi=>by simp only[fO];split <;>omega
  have hb4':aj (gy s.all.length s'++dJ x false (aL s)) 1900004=some (.box (.bool false)):=by
   rw[fF,e4 _ (.inl rfl)];exact hb4
  have hst:∀ A rest,df A none 1900004 [] (.bool false) (.bool true) rest (some (.bool false))=aB rest (A.aV 1900004 (.box (.bool true))):=fun A rest=>dE rfl rfl rfl;have R:=y6 @aY (y6 @ar (y6 @hb3 (y6 @hb4 (y6 @hb4' (y6 @hst (y6 @hlk (y6 @hfl (y6 @hlm (y6 @bw (y6 @bq aC))))))))))
  repeat' ((first |(with_reducible refine .guard (fun hb =>?_) (fun hb =>?_) <;>try simp only[hb])|(refine ae.pE (gs:=qy) [125,126,127,128,129,130,131,132] [] [0,1,2,3,4,5,6,7,8] (by decide +kernel) (cN.of (by simp[e9])) fun K hK =>?_;simp only[eQ,qy,zy2,zy3,R,simprocAttr])|refine ae.aE (by decide +kernel) rfl fun K hK =>?_|refine .flat _ (hF) rfl ?_|refine .flat _ (kF) rfl ?_|refine bP.wv hk hlen k1 k3 k4 hfc hdo rfl ?_|(refine .av [0,1,3,4] hK ?_;clear hK K)|(with_reducible refine .done (hK _ ?_);clear hK K)|refine ae.of rfl ?_|(with_reducible refine aA.aD (fun h =>?_) (fun h =>?_) <;>try simp only[h])) <;>try simp only[aF,R,simprocAttr])
  all_goals clear R
  refine ⟨⟨true,rfl⟩,dJ x true (gy s.all.length s'),[.bool true],fun m z hz=>⟨?_,rf (fun _ _ h=>lx (gF k4) k1.cA h) hz⟩,⟨⟨.bool true,rfl,.inl ⟨rfl,rfl,rfl⟩⟩,trivial⟩,?_⟩
  ·show aj ((1900004,.box (.bool true))::(gy s.all.length s'++dJ x false (aL s))) m=some z
   simp only[dJ,aj] at hz ⊢;split
   ·rename_i h;rw[if_pos h] at hz;exact hz
   rename_i h;rw[if_neg h] at hz;rw[fF];split at hz
   ·rename_i U;rw[U,e4 _ (.inr rfl),←U];simp only[aj,if_neg h];exact hz
   ·rw[hz]
  ·show lY s x (.bool true) (dJ x true (gy s.all.length s'))
   simp only[lY];rw[hn2];exact ⟨rfl,rfl⟩
theorem GC(s:aG)(hk:cw s)(hlen:s.all.length≤100000)(x:bh):cR Tryz.prog 81 [.ptr 1000000 [],enc x] (aL s) (C6 s x):=by
 refine cR.Ys Tryz.func81 IY Mj Lo (u8 rfl) (u8 rfl) dw Y9 Y8 (by decide) fun hwf W0 bF E1 =>?_;simp only[bJ,zz1];clear hwf;have n3:aj (aL s) 3=none:=eI (.inl (by omega)) fun i _=>by simp[bB];omega
 have n4:aj (aL s) 4=none:=eI (.inl (by omega)) fun i _=>by simp[bB];omega
 refine .ku (by decide +kernel) fun K hK =>?_
 try simp only[Bo,n3,n4,aC,bI,simprocAttr]
 refine .done (hK _ ?_);simp only[eB];refine ⟨_,_,lh,dJ x false (aL s),[0,3,4],[.ptr 1000000 [],.ptr 1900003 [],.ptr 1900004 []],1900004,false,lY s x,rfl,?_⟩;exact {
  fC:=rfl
  BK:=WK hk hlen x
  arg:=⟨.inl ⟨rfl,jD.2 (.inr (.inr ((dL (dC _)).2 (.inl (by omega))))),rfl⟩,.inl ⟨rfl,jD.2 (.inr (.inl rfl)),rfl⟩,.inl ⟨rfl,jD.2 (.inl rfl),rfl⟩,trivial⟩
  yq:=Hq hk hlen x
  Fg:=rfl
  box:=rfl
  lQ:=fun m hm=>by
   have:1000000≤m:=by
    rcases jD.1 hm with h | h | h
    ·omega
    ·omega
    ·exact (lu h).1
   exact ⟨zv0 (u8 rfl) this,this⟩
  rest:=fun W D E d=>Zn hk hlen x W D E _ d
  iz:=Hp hk hlen x }
end Go.Proofs.YthbdbocionnfgaaGreatDoor
namespace Go.Abs
open Go Go.RowKit
theorem bH.fn{ts ts':List (Nat×I)}{os os':List (Nat×aq)}(J:cG ts ts')(U:∀ n,aj os' n=none∨aj os' n=aj os n)(ah:cW (az os') ts')(ar:∀ n x,aj os' n=some x→x.only (az os')=true):bH (au ts os) (au ts' os'):=by
 rintro c a w ⟨D,E,ab⟩;have hp:∀ n,az os' n=true→(if az os' n then E n else none)=E n:=fun n hn=>by simp[hn]
 refine ⟨D,fun n=>if az os' n then E n else none,ab.sz,ab.eE,fun t =>?_,ab.dM,ab.cX,ab.aQ,fun n =>?_,fun n m e e' b J U ah ar =>?_,fun n e hn =>?_,ab.eP,ab.cQ,ab.eX,ab.fu⟩
 ·have:=tU J t;rcases this with h | h
  ·simp only[au];rw[h];simp[bd]
  ·refine bd.c7 (p:=az os') hp (wQ ah t) ?_;have:=ab.dO t;simp only[au] at *;rw[h];exact this
 ·have ho:=ab.bQ n;simp only[au] at *;rcases U n with h | h
  ·rw[h];simp[cV,az,h]
  ·rw[h];by_cases hin:aj os n=none
   ·rw[hin];simp[cV,az,h,hin]
   ·have ay:(if az os' n then E n else none)=E n:=hp n (by simp[az,h];cases bG:aj os n <;>simp_all);cases hx:aj os n with
    |none=>exact absurd hx hin
    |some x =>
     have hon:=ar n x (h.trans hx);rw[hx] at ho;cases x with
     |box x =>
      obtain ⟨b,cs,T,k1,k2,k3,k4,k5⟩:=ho;exact ⟨b,cs,T,ay.trans k1,k2,k3,al.c7 hp _ _ (by simpa[aq.only] using hon) k4,k5⟩
     |b5 T sz es =>
      obtain ⟨aJ,k1,k2,k3⟩:=ho;refine ⟨aJ,ay.trans k1,k2,?_⟩;cases aJ with
      |none=>exact k3
      |some bc =>
       obtain ⟨b,cap⟩:=bc;obtain ⟨cs,pre,rest,q1,q2,q3,q4,q5⟩:=k3;exact ⟨cs,pre,rest,q1,q2,q3,aM.c7 hp _ _ (by simpa[aq.only] using hon) q4,q5⟩
     |dG T xs =>
      obtain ⟨aJ,k1,k2,k3⟩:=ho;exact ⟨aJ,ay.trans k1,k2,k3⟩
     |dD x =>
      obtain ⟨b,k1,k2⟩:=ho;exact ⟨b,ay.trans k1,k2⟩
     |bt ks vs =>
      obtain ⟨b,es,ck,k1,k2,k3,k4,k5,k6,k7⟩:=ho;simp only[aq.only,t8] at hon;exact ⟨b,es,ck,ay.trans k1,k2,k3,k4,aI.c7 hp _ _ hon.1 k5,aI.c7 hp _ _ hon.2 k6,k7⟩
     |it ks vs left cur =>
      obtain ⟨r,b,es,ck,si,se,la,k1,k2,k3,k4,k5,k6,k7⟩:=ho;simp only[aq.only,t8] at hon;exact ⟨r,b,es,ck,si,se,la,ay.trans k1,k2,k3,k4,aI.c7 hp _ _ hon.1 k5,aI.c7 hp _ _ hon.2 k6,k7⟩
 ·refine ab.cL n m e e' b ?_ ?_ ah ar
  ·split at J
   ·exact J
   ·cases J
  ·split at U
   ·exact U
   ·cases U
 ·by_cases hi:az os' n=true
  ·simp only[hi,if_true];exact ab.dP n e hn
  ·simp only[hi];exact .inl rfl
end Go.Abs
namespace Go.Proofs.YthbdbocionnfgaaGreatDoor
open Go Go.Abs
open Go.Abs.Enc (enc)
theorem Cz:(∀ v:I,v.bT=true→fp (.i .i64) (.int .i64 1) v [] []=some ([.int .i64 1],[v]))∧(∀ a1 v:I,v.bT=true→fp (.i .i64) (.int .i64 2) v [.int .i64 1] [a1]=some ([.int .i64 1,.int .i64 2],[a1,v]))∧(∀ a1 a2 v:I,v.bT=true→fp (.i .i64) (.int .i64 3) v [.int .i64 1,.int .i64 2] [a1,a2]=some ([.int .i64 1,.int .i64 2,.int .i64 3],[a1,a2,v]))∧(∀ a1 a2 a3 v:I,v.bT=true→fp (.i .i64) (.int .i64 4) v [.int .i64 1,.int .i64 2,.int .i64 3] [a1,a2,a3]=some ([.int .i64 1,.int .i64 2,.int .i64 3,.int .i64 4],[a1,a2,a3,v]))∧(∀ a1 a2 a3 a4 v:I,v.bT=true→fp (.i .i64) (.int .i64 5) v [.int .i64 1,.int .i64 2,.int .i64 3,.int .i64 4] [a1,a2,a3,a4]=some ([.int .i64 1,.int .i64 2,.int .i64 3,.int .i64 4,.int .i64 5],[a1,a2,a3,a4,v]))∧(∀ a1 a2 a3 a4 a5 v:I,v.bT=true→fp (.i .i64) (.int .i64 6) v [.int .i64 1,.int .i64 2,.int .i64 3,.int .i64 4,.int .i64 5] [a1,a2,a3,a4,a5]=some ([.int .i64 1,.int .i64 2,.int .i64 3,.int .i64 4,.int .i64 5,.int .i64 6],[a1,a2,a3,a4,a5,v]))∧(∀ a1 a2 a3 a4 a5 a6 v:I,v.bT=true→fp (.i .i64) (.int .i64 7) v [.int .i64 1,.int .i64 2,.int .i64 3,.int .i64 4,.int .i64 5,.int .i64 6] [a1,a2,a3,a4,a5,a6]=some ([.int .i64 1,.int .i64 2,.int .i64 3,.int .i64 4,.int .i64 5,.int .i64 6,.int .i64 7],[a1,a2,a3,a4,a5,a6,v]))∧(∀ a1 a2 a3 a4 a5 a6 a7 v:I,v.bT=true→fp (.i .i64) (.int .i64 8) v [.int .i64 1,.int .i64 2,.int .i64 3,.int .i64 4,.int .i64 5,.int .i64 6,.int .i64 7] [a1,a2,a3,a4,a5,a6,a7]=some ([.int .i64 1,.int .i64 2,.int .i64 3,.int .i64 4,.int .i64 5,.int .i64 6,.int .i64 7,.int .i64 8],[a1,a2,a3,a4,a5,a6,a7,v])) :=
 ⟨fun  v h=>by simp[fp,eG,b7,I.bT];try exact h,fun a1 v h=>by simp[fp,eG,b7,I.bT];try exact h,fun a1 a2 v h=>by simp[fp,eG,b7,I.bT];try exact h,fun a1 a2 a3 v h=>by simp[fp,eG,b7,I.bT];try exact h,fun a1 a2 a3 a4 v h=>by simp[fp,eG,b7,I.bT];try exact h,fun a1 a2 a3 a4 a5 v h=>by simp[fp,eG,b7,I.bT];try exact h,fun a1 a2 a3 a4 a5 a6 v h=>by simp[fp,eG,b7,I.bT];try exact h,fun a1 a2 a3 a4 a5 a6 a7 v h=>by simp[fp,eG,b7,I.bT];try exact h⟩
theorem bU:(∀ f c,(I.func f c).bT=true)∧(∀ n,(I.mref n).bT=true)∧(∀ n p,(I.ptr n p).bT=true):=⟨fun _ _=>rfl,fun _=>rfl,fun _ _=>rfl⟩
def nP(aw:Int):List (Nat×aq):=[(9,.box (.agg [.int .i64 aw,.mref 5,.mref 6,.int .i64 0,.mref 7,.mref 11])),(5,.bt [] []),(6,.bt [] []),(7,.bt [] []),(11,.bt gH (jw 9))]
def eU(aw:Int):aG:=⟨aw,[],[],[],[]⟩
def YP(aw:Int):cC:=fun r os'=>r=.ptr 9 []∧os'=nP aw
theorem FI(aw:Int):cR Tryz.prog 106 [enc aw] [] (YP aw):=by
 refine cR.bZ Tryz.func106 H4 Jd Ko (u8 rfl) (u8 rfl) (fun m hm=>by simp[az,aj] at hm) (fun hwf W0 bF E1 =>?_);simp only[yF,Dg,bJ];clear hwf;have hbld:(dK [.int .i64 0,.raw (.map none),.raw (.map none),.int .i64 0,.raw (.map none),.raw (.map none)] [(0,.int .i64 aw),(1,.mref 5),(2,.mref 6),(4,.mref 7)]).map I.agg=some (.agg [.int .i64 aw,.mref 5,.mref 6,.int .i64 0,.mref 7,.raw (.map none)]):=by simp[dK,I.bT,I.size]
 have hst:∀ A rest,df A none 9 [5] (.agg [.int .i64 aw,.mref 5,.mref 6,.int .i64 0,.mref 7,.raw (.map none)]) (.mref 11) rest (some (.raw (.map none)))=aB rest (A.aV 9 (.box (.agg [.int .i64 aw,.mref 5,.mref 6,.int .i64 0,.mref 7,.mref 11]))):=fun A rest=>dE rfl rfl rfl;have hval:∀ a b c d e f:I,(I.agg [a,b,c,d,e,f]).bT=true:=fun _ _ _ _ _ _=>rfl;have hoff:∀ v,c9 [.int .i64 aw,.mref 5,.mref 6,.int .i64 0,.mref 7,.raw (.map none)] 5 5 v=some v:=fun _=>rfl;have hall:([I.ptr 9 []].all fun y=>y.bT)=true:=rfl;have R:=y6 @hall (y6 @hbld (y6 @hst (y6 @hval (y6 @hoff (y6 @Cz (y6 @bU (y6 @bw (y6 @bq aC))))))))
 repeat' ((first |refine ae.aE (by decide +kernel) rfl fun K hK =>?_|(refine .av [0,2,3] hK ?_;clear hK K)|(with_reducible refine .done (hK _ ?_);clear hK K)|refine ae.of rfl ?_|(with_reducible refine aA.aD (fun h =>?_) (fun h =>?_) <;>try simp only[h])) <;>try simp only[aF,R,simprocAttr])
 all_goals clear R
 refine ⟨nP aw,[.ptr 9 []],fun n x hx =>?_,⟨⟨_,rfl,.inl ⟨rfl,rfl,rfl⟩⟩,trivial⟩,rfl,rfl⟩;simp only[nP,aj] at hx
 (repeat' split at hx) <;>first
  |(cases hx;done)
  |(rename_i h;subst h;cases hx;exact ⟨rfl,rfl,rfl⟩)
abbrev dn(s:aG):List (Nat×aq):=ed 2000 (bB 2000) s
def xi:List (Nat×Nat):=[(9,2000),(5,2001),(6,2002),(7,2003),(11,2004)]
theorem Zi(aw:Int):dy xi (nP aw)=dn (eU aw):=rfl
theorem kZ(aw:Int):cw (eU aw):=⟨fun i hi=>by simp[eU] at hi,by simp[eU],by simp[eU]⟩
theorem aS.eU{K:ai→Prop}{aw:Int}{avs:List I}{a1 a2:Option (List I)}{dst:Option Nat}{rest:List aH}{ts:List (Nat×I)}{os0:List (Nat×aq)}(hav:avs=[enc aw])(hno:∀ m,2000≤m→m<1000000→aj os0 m=none)
  (h:aS Tryz.prog dq false K (aB rest ((au ts (dn (Go.Proofs.YthbdbocionnfgaaGreatDoor.eU aw)++os0)).aU dst (.ptr 2000 [])))):aS Tryz.prog dq false K (.call 106 avs a1 a2 dst rest (au ts os0)):=by
 subst hav;have key:∀ m,az (nP aw) m=true→m=9∨m=5∨m=6∨m=7∨m=11:=fun m hm=>by
  simp only[az,nP,aj] at hm
  (repeat' split at hm) <;>first | omega | (simp at hm;done)
 refine .bQ false xi [] [enc aw] _ rfl (FI aw) ⟨fun m x hx=>by simp[aj] at hx,fun m m' hm=>by simp[az,aj] at hm⟩ ⟨.inl ⟨(kS _ _).symm,cJ _ _,er _⟩,trivial⟩ ?_ ?_
 ·rintro r os' ⟨rfl,rfl⟩;refine ⟨fun m y hy =>?_,fun m m' hm hm' e =>?_,fun m hm=>by simp[az,aj] at hm,fun m hm _ =>?_,rfl,fun h=>by cases h⟩
  ·simp only[nP,aj] at hy
   (repeat' split at hy) <;>first
    |(cases hy;done)
    |(rename_i h;subst h;cases hy;exact ⟨rfl,rfl,fun h=>by cases h⟩)
  ·rcases key m hm with rfl | rfl | rfl | rfl | rfl <;>rcases key m' hm' with rfl | rfl | rfl | rfl | rfl <;>first | rfl | (simp[xi,bK] at e;done)
  ·rcases key m hm with rfl | rfl | rfl | rfl | rfl <;>exact ⟨hno _ (by decide) (by decide),by decide⟩
 ·rintro r os' ⟨rfl,rfl⟩;rw[Zi];exact h
def pG(k:Nat):List (Nat×Nat):=(57,2005+k)::(List.range' 0 400).map fun j=>(1000000+j,2000+j)
theorem EU(m:Nat):∀ k a,bK ((List.range' a k).map fun j=>(1000000+j,2000+j)) m=if 1000000+a≤m∧m<1000000+a+k then m-998000 else m
 |0,a=>by
  rw[if_neg (by omega)];rfl
 |k+1,a=>by
  rw[List.range'_succ,zz4,bK,EU m k (a+1)];by_cases h:m=1000000+a
  ·rw[if_pos h,if_pos (by omega)];omega
  ·rw[if_neg h];by_cases U:1000000+(a+1)≤m∧m<1000000+(a+1)+k
   ·rw[if_pos U,if_pos (by omega)]
   ·rw[if_neg U,if_neg (by omega)]
theorem j8(k m:Nat):bK (pG k) m=if m=57 then 2005+k else if 1000000≤m∧m<1000400 then m-998000 else m:=by
 simp only[pG,bK,EU,Nat.add_zero,Nat.reduceAdd]
theorem iF(k:Nat):gl 2000 (bB 2000) k:=gl.bB _ _
theorem lv{s:aG}(hk:cw s){n:Nat}{x:aq}(h:aj (dn s) n=some x):x.only (az (dn s))=true∧x.eg=true:=lx (iF _) hk.cA h
theorem xF{s:aG}{n:Nat}(hn:az (dn s) n=true):2000≤n∧n<2005+s.all.length:=by
 rcases (dL (iF _)).1 hn with U | ⟨i,hi,rfl⟩
 ·omega
 ·simp only[bB];omega
theorem EI{s:aG}(hk:cw s){k:Nat}(h:s.all.length≤k+1)(hlen:k≤300):dy (pG k) (gy k s)=dn s :=
 EM hk.cA (fun j hj=>by rw[j8,if_neg (by omega),if_pos (by omega)];omega) fun i hi=>by
  simp only[fO,bB];split
  ·rename_i e;rw[j8,if_pos rfl];omega
  ·rw[j8,if_neg (by omega),if_pos (by omega)];omega
theorem Zf{s:aG}(hk:cw s){k:Nat}(h:s.all.length≤k)(hlen:k≤300):dy (pG k) (aL s)=dn s:=by
 rw[←tO hk h];exact EI hk (by omega) hlen
theorem aS.rN{K:ai→Prop}{s s2:aG}{b:Bool}{x:bh}{avs:List I}{a1 a2:Option (List I)}{dst:Option Nat}{rest:List aH}{ts:List (Nat×I)}{ow:List (Nat×aq)}(hk:cw s)(hlen:s.all.length≤300)(hav:avs=[.ptr 2000 [],enc x])(how:∀ m,2000≤m→aj ow m=none)(hst:ee s x=(s2,b))
  (h:aS Tryz.prog dq false K (aB rest ((au ts (dn s2++(ow++dn s))).aU dst (.bool b)))):aS Tryz.prog dq false K (.call 81 avs a1 a2 dst rest (au ts (ow++dn s))):=by
 subst hav;obtain ⟨J,U,ah,ar⟩:=rJ hk x;refine .bQ false (pG s.all.length) (aL s) [.ptr 1000000 [],enc x] _ rfl (GC s hk (by omega) x) ⟨fun m y hy=>⟨?_,iu hk hy⟩,fun m m' hm hm' e =>?_⟩ ⟨.inl ⟨?_,(dL (dC _)).2 (.inl (by omega)),rfl⟩,.inl ⟨(kS _ _).symm,cJ _ _,er _⟩,trivial⟩ ?_ ?_
 ·have hm:=lu (s:=s) (n:=m) (by simp[az,hy]);have:=Ck (ρ:=pG s.all.length) (os:=aL s) (m:=m) (fun m' hm' he=>by
   have:=lu hm';rw[j8,j8] at he
   (repeat' split at he) <;>omega) hy
  rw[Zf hk (zz3 _) hlen] at this;rw[fF,how]
  ·exact this
  ·rw[j8,if_neg (by omega),if_pos (by omega)];omega
 ·have k1:=lu hm;have k2:=lu hm';rw[j8,j8] at e
  (repeat' split at e) <;>omega
 ·simp only[I.bm,j8];rfl
 ·rintro r os' ⟨rfl,rfl⟩;refine ⟨fun m y hy=>⟨(lx (gF ar) J.cA hy).1,(lx (gF ar) J.cA hy).2,fun h=>by cases h⟩,fun m m' hm hm' e =>?_,fun m hm =>?_,fun m hm hno =>?_,rfl,fun h=>by cases h⟩
  ·have k1:=tN ar hm;have k2:=tN ar hm';have e1:∀ m,m=57∨(1000000≤m∧m<1000005+s.all.length)→True:=fun _ _=>trivial;have key:∀ m,az (gy s.all.length (ee s x).1) m=true→m=57∨(1000000≤m∧m<1000005+s.all.length):=fun m hm=>by
    rcases (dL (gF ar)).1 hm with h5 | ⟨i,hi,rfl⟩
    ·omega
    ·simp only[fO];split <;>omega
   have k1:=key m hm;have k2:=key m' hm';rw[j8,j8] at e
   (repeat' split at e) <;>omega
  ·rcases (dL (dC _)).1 hm with h5 | ⟨i,hi,rfl⟩
   ·exact (dL (gF ar)).2 (.inl h5)
   ·exact (dL (gF ar)).2 (.inr ⟨i,by omega,(lV hi).symm⟩)
  ·have h57:m=57:=by
    rcases (dL (gF ar)).1 hm with h5 | ⟨i,hi,e⟩
    ·rw[(dL (dC _)).2 (.inl h5)] at hno;cases hno
    ·by_cases hi2:i=s.all.length
     ·subst hi2;simpa[fO] using e
     ·rw[(dL (dC _)).2 (.inr ⟨i,by omega,by rw[e,lV (by omega)]⟩)] at hno;cases hno
   subst h57;rw[j8,if_pos rfl];refine ⟨?_,by omega⟩;rw[fF,how _ (by omega)];exact eI (.inr (by omega)) fun i hi=>by simp only[bB];omega
 ·rintro r os' ⟨rfl,rfl⟩;rw[EI J ar hlen,hst];exact h
def fY:aG→List bh→Option aG
 |s,[]=>some s
 |s,x::l=>match fS s x with
  |some s'=>fY s' l
  |none=>none
theorem pI:∀ (l:List bh) (s:aG) (l2:List bh),fY s (l++l2)=(fY s l).bind fun s'=>fY s' l2
 | [],s,l2=>rfl
 |x::l,s,l2=>by
  simp only[zz9,fY];cases fS s x with
  |none=>rfl
  |some s'=>exact pI l s' l2
theorem xK{s s':aG}{x:bh}(hk:cw s)(h:fS s x=some s'):cw s'∧s'.aw=s.aw∧s'.all.length≤s.all.length+1:=by
 simp only[fS] at h;split at h
 ·obtain ⟨J,U,ah,_⟩:=hk.next h
  exact ⟨J,U,ah⟩
 ·cases h
theorem mX:∀ {l:List bh} {s s':aG},cw s→fY s l=some s'→cw s'∧s'.aw=s.aw∧s'.all.length≤s.all.length+l.length
 | [],s,s',hk,h=>by cases h;exact ⟨hk,rfl,zz3 _⟩
 |x::l,s,s',hk,h=>by
  simp only[fY] at h;cases hx:fS s x with
  |none=>rw[hx] at h;cases h
  |some s2 =>
   rw[hx] at h;obtain ⟨J,U,ah⟩:=xK hk hx;obtain ⟨k1,k2,k3⟩:=mX J h;exact ⟨k1,k2.trans U,by simp only[zw2];omega⟩
def fG(aw:Int)(l:List bh):Option aG:=fY (eU aw) l
def ri(aw:Int)(l:List bh):cC:=fun r os'=>match fG aw l with
 |some s=>r=.tuple [.ptr 2000 [],.bool true]∧os'=dn s
 |none=>r=.tuple [.nilp,.bool false]∧os'=[]
def r5(l:List bh)(t:Nat×aG):ai:=au [(6,.ptr 2000 []),(11,enc l),(12,.int .i64 l.length),(13,.int .i64 t.1)] (dn t.2)
theorem Gn(aw:Int)(l:List bh)(ao:l.length≤200):cR Tryz.prog 62 [enc aw,enc l] [] (ri aw l):=by
 refine cR.bZ Tryz.func62 z7 Ap Ay (u8 rfl) (u8 rfl) (fun m hm=>by simp[az,aj] at hm) (fun hwf W0 bF E1 =>?_);simp only[uU,w8,bJ,zz1];clear hwf;have R:=y6 @bU (y6 @bw (y6 @bq aC))
 repeat' ((first |refine ae.aE (by decide +kernel) rfl fun K hK =>?_|refine aS.eU rfl (fun _ _ _=>rfl) ?_|(refine .av [0,1,4,5,6,8,11,12,13,14,20] hK ?_;clear hK K)|(with_reducible refine .done (hK _ ?_);clear hK K)|refine ae.of rfl ?_|(with_reducible refine aA.aD (fun h =>?_) (fun h =>?_) <;>try simp only[h])) <;>try simp only[aF,R,simprocAttr])
 all_goals clear R
 refine ae.loop (r5 l) (fun t=>t.1≤l.length∧fY (eU aw) (l.take t.1)=some t.2) (fun t=>l.length-t.1) (0,eU aw) ⟨zw8 _,rfl⟩ ?_ ?_
 ·rw[List.append_nil];refine bH.fn ?_ (fun n=>.inr rfl) ?_ (fun n x h=>(lv (kZ aw) h).1)
  ·simp[cG,cD]
  ·have:=(dL (iF (eU aw).all.length) (n:=2000)).2 (.inl (by omega));simp[cW,I.only,cJ,this]
 rintro ⟨i,s⟩ ⟨hi,hrun⟩;simp only at hi hrun;obtain ⟨hk,hme,hln⟩:=mX (kZ aw) hrun;have hln2:s.all.length≤i:=by simpa[eU,hi] using hln
 have n8:aj (dn s) 8=none:=eI (.inl (by omega)) fun i _=>by simp[bB];omega
 simp only[r5];by_cases hlt:i<l.length
 ·have hc:=gV hlt;have he:=fun A=>fh (A:=A) 4 hlt rfl;have hw:=gZ (i:=i) (by omega);have hst:∀ A rest,df A (some 4) 8 [] (.agg [.int .i64 0,.int .i64 0,.int .i64 0,.int .i64 0]) (enc l[i]) rest (some (.agg [.int .i64 0,.int .i64 0,.int .i64 0,.int .i64 0]))=aB rest (A.aV 8 (.box (enc l[i]))):=fun A rest=>dE (er _) (by rw[fg];rfl) (eJ _);have how:∀ (a b:aq) m,2000≤m→aj [(8,a),(8,b)] m=none:=fun a b m hm=>by simp only[aj];rw[if_neg (by omega),if_neg (by omega)]
  have hsp:l=l.take i++l[i]::l.drop (i+1):=by simp
  cases hn:fS s l[i] with
  |none =>
   have ab:ee s l[i]=(s,false):=by simp[ee,hn]
   have R:=y6 @hc (y6 @he (y6 @hst (y6 @n8 (y6 @bU (y6 @bw (y6 @bq aC))))))
   repeat' ((first |refine ae.aE (by decide +kernel) rfl fun K hK =>?_|refine aS.rN (ow:=[(8,_),(8,_)]) hk (by omega) rfl (how _ _) ab ?_|(refine .av [0,1,4,5,6,8,11,12,13,14,20] hK ?_;clear hK K)|(with_reducible refine .done (hK _ ?_);clear hK K)|refine ae.of rfl ?_|(with_reducible refine aA.aD (fun h =>?_) (fun h =>?_) <;>try simp only[h])) <;>try simp only[aF,R,simprocAttr])
   all_goals clear R
   have hno:fG aw l=none:=by
    rw[fG,hsp,pI,hrun];simp only[Option.bind_some,fY,hn]
   refine ⟨[],[.nilp,.bool false],fun n x hx=>by simp[aj] at hx,⟨⟨_,rfl,.inl ⟨rfl,rfl,rfl⟩⟩,⟨_,rfl,.inl ⟨rfl,rfl,rfl⟩⟩,trivial⟩,?_⟩;unfold ri;rw[hno];exact ⟨rfl,rfl⟩
  |some s2 =>
   have ab:ee s l[i]=(s2,true):=by simp[ee,hn]
   have R:=y6 @hc (y6 @he (y6 @hst (y6 @hw (y6 @n8 (y6 @bU (y6 @bw (y6 @bq aC)))))))
   repeat' ((first |refine ae.aE (by decide +kernel) rfl fun K hK =>?_|refine aS.rN (ow:=[(8,_),(8,_)]) hk (by omega) rfl (how _ _) ab ?_|(refine .av [0,1,4,5,6,8,11,12,13,14,20] hK ?_;clear hK K)|(with_reducible refine .done (hK _ ?_);clear hK K)|refine ae.of rfl ?_|(with_reducible refine aA.aD (fun h =>?_) (fun h =>?_) <;>try simp only[h])) <;>try simp only[aF,R,simprocAttr])
   all_goals clear R
   obtain ⟨hk2,hme2,hln3⟩:=xK hk hn;refine ⟨(i+1,s2),⟨by simp only;omega,?_⟩,by simp only;omega,?_⟩
   ·rw[zy7 hlt,pI,hrun];simp only[Option.bind_some,fY,hn]
   ·refine bH.fn ?_ (fun n =>?_) ?_ (fun n x h=>(lv hk2 h).1)
    ·simp[cG,cD]
    ·simp only[fF];cases aj (dn s2) n with
     |none=>exact .inl rfl
     |some y=>exact .inr rfl
    ·have:=(dL (iF s2.all.length) (n:=2000)).2 (.inl (by omega));simp[cW,I.only,cJ,this]
 ·have hge:i=l.length:=by omega
  have hc:=hE hlt;subst hge;rw[List.take_length] at hrun;have R:=y6 @hc (y6 @bU (y6 @bw (y6 @bq aC)))
  repeat' ((first |refine ae.aE (by decide +kernel) rfl fun K hK =>?_|(refine .av [0,1,4,5,6,8,11,12,13,14,20] hK ?_;clear hK K)|(with_reducible refine .done (hK _ ?_);clear hK K)|refine ae.of rfl ?_|(with_reducible refine aA.aD (fun h =>?_) (fun h =>?_) <;>try simp only[h])) <;>try simp only[aF,R,simprocAttr])
  all_goals clear R
  refine ⟨dn s,[.ptr 2000 [],.bool true],fun n x hx=>⟨hx,lv hk hx⟩,⟨⟨_,rfl,.inl ⟨rfl,rfl,?_⟩⟩,⟨_,rfl,.inl ⟨rfl,rfl,rfl⟩⟩,trivial⟩,?_⟩
  ·exact (dL (iF s.all.length) (n:=2000)).2 (.inl (by omega))
  ·unfold ri fG;rw[hrun];exact ⟨rfl,rfl⟩
end Go.Proofs.YthbdbocionnfgaaGreatDoor
namespace Go.Proofs.YthbdbocionnfgaaGreatDoor
open Go Go.Abs Go.ChangeShapes Go.WideShapes Go.RowKit
open Go.Abs.Enc (enc)
theorem Tryz.own:ownKnob Tryz.prog.godebug=none:=by kernel_rfl
theorem Tryz.W8:laidOutB Tryz.prog=true:=by kernel_rfl
theorem jm:iw Tryz.prog 3 Int:=YD (by kernel_rfl) (by kernel_rfl)
theorem XL:iw Tryz.prog 37 bh:=⟨by kernel_rfl,by decide,fun h=>by
 obtain ⟨vs,hv,hr⟩:=CR [(3,0),(3,1),(3,2),(3,3)]
  [(1,fun v=>∃ a:Int,v=enc a),(1,fun v=>∃ a:Int,v=enc a),(1,fun v=>∃ a:Int,v=enc a),(1,fun v=>∃ a:Int,v=enc a)]
  (by kernel_rfl) (by simp only[pw];exact ⟨trivial,jm.aT,trivial,jm.aT,trivial,jm.aT,trivial,jm.aT,trivial⟩) (by kernel_rfl) h
 obtain ⟨v0,vs0,e0,aY,hv0⟩:=lE hv;obtain ⟨a0,f0⟩:∃ a:Int,v0=enc a:=aY;obtain ⟨v1,vs1,e1,J,hv1⟩:=lE hv0;obtain ⟨a1,f1⟩:∃ a:Int,v1=enc a:=J;obtain ⟨v2,vs2,e2,U,hv2⟩:=lE hv1;obtain ⟨a2,f2⟩:∃ a:Int,v2=enc a:=U;obtain ⟨v3,vs3,e3,ah,hv3⟩:=lE hv2;obtain ⟨a3,f3⟩:∃ a:Int,v3=enc a:=ah;have e4:=yh hv3;rw[e0,e1,e2,e3,e4,f0,f1,f2,f3] at hr;exact ⟨⟨a0,a1,a2,a3⟩,hr⟩⟩
theorem XO:iw Tryz.prog 39 dB:=⟨by kernel_rfl,by decide,fun h=>by
 obtain ⟨vs,hv,hr⟩:=CR [(3,0),(3,1),(3,2),(3,3),(3,4)]
  [(1,fun v=>∃ a:Int,v=enc a),(1,fun v=>∃ a:Int,v=enc a),(1,fun v=>∃ a:Int,v=enc a),(1,fun v=>∃ a:Int,v=enc a),(1,fun v=>∃ a:Int,v=enc a)]
  (by kernel_rfl) (by simp only[pw];exact ⟨trivial,jm.aT,trivial,jm.aT,trivial,jm.aT,trivial,jm.aT,trivial,jm.aT,trivial⟩) (by kernel_rfl) h
 obtain ⟨v0,vs0,e0,aY,hv0⟩:=lE hv;obtain ⟨a0,f0⟩:∃ a:Int,v0=enc a:=aY;obtain ⟨v1,vs1,e1,J,hv1⟩:=lE hv0;obtain ⟨a1,f1⟩:∃ a:Int,v1=enc a:=J;obtain ⟨v2,vs2,e2,U,hv2⟩:=lE hv1;obtain ⟨a2,f2⟩:∃ a:Int,v2=enc a:=U;obtain ⟨v3,vs3,e3,ah,hv3⟩:=lE hv2;obtain ⟨a3,f3⟩:∃ a:Int,v3=enc a:=ah;obtain ⟨v4,vs4,e4,ar,hv4⟩:=lE hv3;obtain ⟨a4,f4⟩:∃ a:Int,v4=enc a:=ar;have e5:=yh hv4;rw[e0,e1,e2,e3,e4,e5,f0,f1,f2,f3,f4] at hr;exact ⟨⟨a0,a1,a2,a3,a4⟩,hr⟩⟩
theorem XM:iw Tryz.prog 22 (List bh):=YE (by kernel_rfl) XL (by kernel_rfl)
theorem XN:iw Tryz.prog 24 bx:=⟨by kernel_rfl,by decide,fun h=>by
 obtain ⟨a,b,c,hab⟩:=CS (α:=Int) (β:=List bh) (γ:=Int) (u0:=3) (u1:=22) (u2:=3) (by kernel_rfl) jm XM jm (by kernel_rfl) h;exact ⟨⟨a,b,c⟩,hab⟩⟩
theorem ZB{w:World}{D:aR}{E:a8}{x y z:I}{a b c:Value}(hx:∃ cs,bA x a cs∧al w D E x cs)(hy:∃ cs,bA y b cs∧al w D E y cs)(hz:∃ cs,bA z c cs∧al w D E z cs):aI w D E [x,y,z] [a,b,c]:=by
 obtain ⟨c1,J,U⟩:=hx;obtain ⟨c2,ah,ar⟩:=hy;obtain ⟨c3,h5,h6⟩:=hz;simp only[aI];exact ⟨a,[b,c],c1,rfl,J,U,b,[c],c2,rfl,ah,ar,c,[],c3,rfl,h5,h6,rfl⟩
def o7 : List (String × DataW Unit) := [("math/bits.deBruijn32tab", Rows.laid_math_bits_deBruijn32tab), ("math/bits.deBruijn64tab", Rows.laid_math_bits_deBruijn64tab), ("internal/strconv.uint64pow10", Rows.laid_internal_strconv_uint64pow10)]
def FH:List Int:=[1,10,100,1000,10000,100000,1000000,10000000,100000000,1000000000,10000000000,100000000000,1000000000000,10000000000000,100000000000000,1000000000000000,10000000000000000,100000000000000000,1000000000000000000,10000000000000000000]
theorem VQ : Tryz.prog.globalNamed "internal/strconv.uint64pow10" = some 3 := by kernel_rfl
theorem Z2:(Tryz.prog.globals[3]?).map (·.type)=some 209:=by kernel_rfl
theorem Yt{W:World}(h:laidMetH Tryz.prog o7 W):gI Tryz.prog W (fun _=>False):=by
 rw[MakeChecks.laidMetH_plain _ _ _ (by kernel_rfl)] at h;obtain ⟨g', t', cs, fuel, p, hg', ht', hvar, af⟩ := Lib.laidMet.reads h (n := "internal/strconv.uint64pow10") (d := Rows.laid_internal_strconv_uint64pow10) (by simp [o7])
 obtain rfl:=Option.some.inj (VQ.symm.trans hg');obtain rfl:=Option.some.inj (Z2.symm.trans ht');have hd':DataW.trod (fun _=>()) Tryz.prog W 0 (fun _=>true) false fuel 209 cs.toList=some (Lib.tabData .u64 FH,p):=af;have hc:=Lib.cells_of_tab (n:=20) (e:=171) (WQ (by kernel_rfl)) (by kernel_rfl) (by kernel_rfl) (by kernel_rfl) hd';intro g hg;refine ⟨id,?_⟩
 show W.var? Tryz.prog "internal/strconv.uint64pow10" = _
 rw[hvar];have:cs=(FH.map fun z=>Value.int .u64 z).toArray:=by rw[←hc]
 rw[this];rfl
end Go.Proofs.YthbdbocionnfgaaGreatDoor
namespace Go.Proofs.YthbdbocionnfgaaGreatDoor
open Go Go.Abs
open Go.Abs.Enc (enc)
theorem aS.EC{K:ai→Prop}{aw:Int}{l:List bh}{avs:List I}{a1 a2:Option (List I)}{dst:Option Nat}{rest:List aH}{ts:List (Nat×I)}{os0:List (Nat×aq)}(ao:l.length≤200)(hav:avs=[enc aw,enc l])(hno:∀ m,2000≤m→m<1000000→aj os0 m=none)
  (J:fG aw l=none→aS Tryz.prog dq false K (aB rest ((au ts os0).aU dst (.tuple [.nilp,.bool false]))))
  (U:∀ s,fG aw l=some s→aS Tryz.prog dq false K (aB rest ((au ts (dn s++os0)).aU dst (.tuple [.ptr 2000 [],.bool true])))):aS Tryz.prog dq false K (.call 62 avs a1 a2 dst rest (au ts os0)):=by
 subst hav;refine .bQ false [] [] [enc aw,enc l] _ rfl (Gn aw l ao) ⟨fun m x hx=>by simp[aj] at hx,fun m m' hm=>by simp[az,aj] at hm⟩ ⟨.inl ⟨(kS _ _).symm,cJ _ _,er _⟩,.inl ⟨(kS _ _).symm,cJ _ _,er _⟩,trivial⟩ ?_ ?_
 ·intro r os' hp;unfold ri at hp;cases hr:fG aw l with
  |none =>
   rw[hr] at hp;obtain ⟨rfl,rfl⟩:=hp;exact ⟨fun m y hy=>by simp[aj] at hy,fun m m' hm=>by simp[az,aj] at hm,fun m hm=>hm,fun m hm=>by simp[az,aj] at hm,rfl,fun h=>by cases h⟩
  |some s =>
   rw[hr] at hp;obtain ⟨rfl,rfl⟩:=hp;obtain ⟨hk,hme,hln⟩:=mX (kZ aw) hr;have hln2:s.all.length≤200:=by have:(Go.Proofs.YthbdbocionnfgaaGreatDoor.eU aw).all.length=0:=rfl;omega
   refine ⟨fun m y hy=>⟨(lv hk hy).1,(lv hk hy).2,fun h=>by cases h⟩,fun m m' _ _ h=>h,fun m hm=>by simp[az,aj] at hm,fun m hm _ =>?_,?_,fun h=>by cases h⟩
   ·have:=xF hm;exact ⟨hno m (by omega) (by omega),by simp only[bK];omega⟩
   ·have:=(dL (iF s.all.length) (n:=2000)).2 (.inl (by omega));simp[I.only,I.cv,this]
 ·intro r os' hp;unfold ri at hp;cases hr:fG aw l with
  |none =>
   rw[hr] at hp;obtain ⟨rfl,rfl⟩:=hp;exact J hr
  |some s =>
   rw[hr] at hp;obtain ⟨rfl,rfl⟩:=hp;rw[l6];exact U s hr
theorem aS.ED{K:ai→Prop}{aw:Int}{l:List bh}{avs:List I}{a1 a2:Option (List I)}{dst:Option Nat}{rest:List aH}{ts:List (Nat×I)}{os0:List (Nat×aq)}(ao:l.length≤200)(hr:fG aw l=none)(hav:avs=[enc aw,enc l])(hno:∀ m,2000≤m→m<1000000→aj os0 m=none)
  (J:aS Tryz.prog dq false K (aB rest ((au ts os0).aU dst (.tuple [.nilp,.bool false])))):aS Tryz.prog dq false K (.call 62 avs a1 a2 dst rest (au ts os0)) :=
 aS.EC ao hav hno (fun _=>J) fun s h=>by rw[hr] at h;cases h
theorem aS.EE{K:ai→Prop}{aw:Int}{l:List bh}{s:aG}{avs:List I}{a1 a2:Option (List I)}{dst:Option Nat}{rest:List aH}{ts:List (Nat×I)}{os0:List (Nat×aq)}(ao:l.length≤200)(hr:fG aw l=some s)(hav:avs=[enc aw,enc l])(hno:∀ m,2000≤m→m<1000000→aj os0 m=none)
  (J:aS Tryz.prog dq false K (aB rest ((au ts (dn s++os0)).aU dst (.tuple [.ptr 2000 [],.bool true])))):aS Tryz.prog dq false K (.call 62 avs a1 a2 dst rest (au ts os0)) :=
 aS.EC ao hav hno (fun h=>by rw[hr] at h;cases h) fun s' h=>by rw[hr] at h;cases h;exact J
theorem tf(k:Nat)(hk:k<2000)(z:aq):∀ m,2000≤m→m<1000000→aj [(k,z)] m=none:=fun m h _=>by simp only[aj];rw[if_neg (by omega)]
theorem bl:(∀ aN A,bg aN A .nilp=some .nilp)∧(∀ aN A (x:I),x.bu=true→bg aN A (.ref x)=some (.ref x)):=⟨fun _ _=>by simp only[bg],fun _ _ x h=>by simp only[bg,h,if_true]⟩
def iN(p:bx):Bool:=cK 0 5 p.aw&&(decide (p.j.length≤200)&&cK 0 p.j.length p.eD)
def da(p:bx):Option aG:=if iN p then fG p.aw p.j else none
def iP(o:Option aG):I:=match o with
 |some s=>.tuple [dz s,.int .i64 0]
 |none=>.tuple [.nilp,.int .i64 91]
def mR(p:bx):cC:=fun r os'=>match da p with
 |some s=>r=.tuple [.ptr 2000 [],.int .i64 0]∧os'=dn s
 |none=>r=.tuple [.nilp,.int .i64 91]∧os'=[]
theorem ij{p:bx}{s:aG}(h:da p=some s):cw s∧s.aw=p.aw∧s.all.length≤p.j.length∧p.j.length≤200∧iN p=true∧fG p.aw p.j=some s:=by
 simp only[da] at h;split at h
 ·rename_i bG;obtain ⟨hk,hme,hln⟩:=mX (kZ p.aw) h;refine ⟨hk,hme,by simpa[eU] using hln,?_,bG,h⟩;simp only[iN,t8,decide_eq_true_eq] at bG;exact bG.2.1
 ·cases h
theorem M7{s:aG}(hk:cw s)(z:aq):∀ ts,cU (au ts (dn s++[(1,z)])) 9 (.agg [.int .i64 s.aw,.mref 2001,.mref 2002,.int .i64 s.all.length,.mref 2003,.mref 2004])=some (fQ s):=fun ts =>
 gO (gQ (iF _) hk.cA fun n hn=>by
  rw[fF];cases h:aj (dn s) n with
  |none=>simp[az,h] at hn
  |some y=>rfl) 4
theorem wE:∀ a b c d e:I,(I.agg [a,.mref 2001,b,c,d,e]).bu=false:=fun a b c d e=>by simp[I.bu,I.cg]
theorem Cf(s:aG)(z:aq):aj (dn s++[(1,z)]) 2000=some (.box (.agg [.int .i64 s.aw,.mref 2001,.mref 2002,.int .i64 s.all.length,.mref 2003,.mref 2004])):=by
 rw[fF,ft];rfl
theorem Cg(s:aG)(z:aq):aj (dn s++[(1,z)]) 1=some z:=by
 rw[fF,eI (.inl (by omega)) fun i _=>by simp only[bB];omega];rfl
theorem C4{p:bx}(h:I.gf [enc p]):p.j.length≤maxLen :=
 ((nk p.j).1 (by have:=h.1;simp only[enc,I.wf,I.gf] at this;exact this.2.1)).1
theorem nl(p:bx):bf Tryz.prog 69 [enc p] (iP (da p)):=by
 refine bf.bZ Tryz.func69 z8 Aq Az (u8 rfl) (fun hwf W0 bF E1 =>?_);simp only[uV,w9,bJ];have hlen:=C4 hwf;clear hwf;have hg:decide ((p.j.length:Int)>200) = !decide (p.j.length≤200):=by by_cases h:p.j.length≤200 <;>simp[h] <;>omega
 have hF1:=mn p.aw;have hF2:=oA p.eD 0 p.j.length;rcases q1:cK 0 5 p.aw <;>rcases q2:decide (p.j.length≤200) <;>rcases q3:cK 0 p.j.length p.eD
 case true.true.true =>
  have hok:iN p=true:=by simp[iN,q1,q2,q3]
  have ao:p.j.length≤200:=of_decide_eq_true q2;have hop:da p=fG p.aw p.j:=by simp[da,hok]
  rw[q1] at hF1;rw[q3] at hF2;rw[q2] at hg;rw[hop];cases hr:fG p.aw p.j with
  |none =>
   have R:=y6 @hg (y6 @bl (y6 @dA (y6 @bU (y6 @bw (y6 @bq aC)))))
   repeat' ((first |(with_reducible refine .guard (fun hb =>?_) (fun hb =>?_) <;>try simp only[hb])|refine ae.aE (by decide +kernel) rfl fun K hK =>?_|refine .flat _ (hF1) rfl ?_|refine .flat _ (hF2) rfl ?_|refine aS.ED ao hr rfl (tf 1 (by decide) _) ?_|(refine .av [0,1,2,3,4,5,24,34] hK ?_;clear hK K)|(with_reducible refine .done (hK _ ?_);clear hK K)|refine ae.of rfl ?_|(with_reducible refine aA.aD (fun h =>?_) (fun h =>?_) <;>try simp only[h])) <;>try simp only[aF,R,simprocAttr])
   all_goals clear R
   rfl
  |some s =>
   have hfin:=M7 (mX (kZ p.aw) hr).1 (.box (enc p));have hla:=Cf s (.box (enc p));have hlb:=Cg s (.box (enc p));have R:=y6 @hg (y6 @hfin (y6 @hla (y6 @hlb (y6 @wE (y6 @bl (y6 @dA (y6 @bU (y6 @bw (y6 @bq aC)))))))))
   repeat' ((first |(with_reducible refine .guard (fun hb =>?_) (fun hb =>?_) <;>try simp only[hb])|refine ae.aE (by decide +kernel) rfl fun K hK =>?_|refine .flat _ (hF1) rfl ?_|refine .flat _ (hF2) rfl ?_|refine aS.EE ao hr rfl (tf 1 (by decide) _) ?_|(refine .av [0,1,2,3,4,5,24,34] hK ?_;clear hK K)|(with_reducible refine .done (hK _ ?_);clear hK K)|refine ae.of rfl ?_|(with_reducible refine aA.aD (fun h =>?_) (fun h =>?_) <;>try simp only[h])) <;>try simp only[aF,R,simprocAttr])
   all_goals clear R
   rfl
 all_goals
  have hop:da p=none:=by simp[da,iN,q1,q2,q3]
  rw[q1] at hF1;rw[q3] at hF2;rw[q2] at hg;rw[hop];have R:=y6 @hg (y6 @bl (y6 @dA (y6 @bU (y6 @bw (y6 @bq aC)))))
  repeat' ((first |(with_reducible refine .guard (fun hb =>?_) (fun hb =>?_) <;>try simp only[hb])|refine ae.aE (by decide +kernel) rfl fun K hK =>?_|refine .flat _ (hF1) rfl ?_|refine .flat _ (hF2) rfl ?_|(refine .av [0,1,2,3,4,5,24,34] hK ?_;clear hK K)|(with_reducible refine .done (hK _ ?_);clear hK K)|refine ae.of rfl ?_|(with_reducible refine aA.aD (fun h =>?_) (fun h =>?_) <;>try simp only[h])) <;>try simp only[aF,R,simprocAttr])
  all_goals clear R
  rfl
theorem xZ(p:bx):cR Tryz.prog 69 [enc p] [] (mR p):=by
 refine cR.bZ Tryz.func69 z8 Aq Az (u8 rfl) (u8 rfl) (fun m hm=>by simp[az,aj] at hm) (fun hwf W0 bF E1 =>?_);simp only[uV,w9,bJ];have hlen:=C4 hwf;clear hwf;have hg:decide ((p.j.length:Int)>200) = !decide (p.j.length≤200):=by by_cases h:p.j.length≤200 <;>simp[h] <;>omega
 have hF1:=mn p.aw;have hF2:=oA p.eD 0 p.j.length;have fail:∀ ts os,da p=none→Abs.bX ts 2=.nilp→Abs.bX ts 3=.int .i64 91→jc [.tmp 2,.tmp 3] (mR p) (au ts os):=fun ts os hop U ah=>by
  refine ⟨[],[.nilp,.int .i64 91],fun n x hx=>by simp[aj] at hx,⟨⟨.nilp,congrArg some U,.inl ⟨rfl,rfl,rfl⟩⟩,⟨.int .i64 91,congrArg some ah,.inl ⟨rfl,rfl,rfl⟩⟩,trivial⟩,?_⟩;unfold mR;rw[hop];exact ⟨rfl,rfl⟩
 rcases q1:cK 0 5 p.aw <;>rcases q2:decide (p.j.length≤200) <;>rcases q3:cK 0 p.j.length p.eD
 case true.true.true =>
  have hok:iN p=true:=by simp[iN,q1,q2,q3]
  have ao:p.j.length≤200:=of_decide_eq_true q2;have hop:da p=fG p.aw p.j:=by simp[da,hok]
  rw[q1] at hF1;rw[q3] at hF2;rw[q2] at hg;cases hr:fG p.aw p.j with
  |none =>
   rw[hr] at hop;have R:=y6 @hg (y6 @bl (y6 @dA (y6 @bU (y6 @bw (y6 @bq aC)))))
   repeat' ((first |(with_reducible refine .guard (fun hb =>?_) (fun hb =>?_) <;>try simp only[hb])|refine ae.aE (by decide +kernel) rfl fun K hK =>?_|refine .flat _ (hF1) rfl ?_|refine .flat _ (hF2) rfl ?_|refine aS.ED ao hr rfl (tf 1 (by decide) _) ?_|(refine .av [0,1,2,3,4,5,24,34] hK ?_;clear hK K)|(with_reducible refine .done (hK _ ?_);clear hK K)|refine ae.of rfl ?_|(with_reducible refine aA.aD (fun h =>?_) (fun h =>?_) <;>try simp only[h])) <;>try simp only[aF,R,simprocAttr])
   all_goals clear R
   exact fail _ _ hop rfl rfl
  |some s =>
   have hk:=(mX (kZ p.aw) hr).1;rw[hr] at hop;have hla:=Cf s (.box (enc p));have hlb:=Cg s (.box (enc p));have R:=y6 @hg (y6 @hla (y6 @hlb (y6 @wE (y6 @bl (y6 @dA (y6 @bU (y6 @bw (y6 @bq aC))))))))
   repeat' ((first |(with_reducible refine .guard (fun hb =>?_) (fun hb =>?_) <;>try simp only[hb])|refine ae.aE (by decide +kernel) rfl fun K hK =>?_|refine .flat _ (hF1) rfl ?_|refine .flat _ (hF2) rfl ?_|refine aS.EE ao hr rfl (tf 1 (by decide) _) ?_|(refine .av [0,1,2,3,4,5,24,34] hK ?_;clear hK K)|(with_reducible refine .done (hK _ ?_);clear hK K)|refine ae.of rfl ?_|(with_reducible refine aA.aD (fun h =>?_) (fun h =>?_) <;>try simp only[h])) <;>try simp only[aF,R,simprocAttr])
   all_goals clear R
   refine ⟨dn s,[.ptr 2000 [],.int .i64 0],fun n x hx=>⟨?_,lv hk hx⟩,⟨⟨_,rfl,.inl ⟨rfl,rfl,?_⟩⟩,⟨_,rfl,.inl ⟨rfl,rfl,rfl⟩⟩,trivial⟩,?_⟩
   ·show aj (dn s++_) n=some x
    rw[fF,hx]
   ·exact (dL (iF s.all.length) (n:=2000)).2 (.inl (by omega))
   ·unfold mR;rw[hop];exact ⟨rfl,rfl⟩
 all_goals
  have hop:da p=none:=by simp[da,iN,q1,q2,q3]
  rw[q1] at hF1;rw[q3] at hF2;rw[q2] at hg;have R:=y6 @hg (y6 @bl (y6 @dA (y6 @bU (y6 @bw (y6 @bq aC)))))
  repeat' ((first |(with_reducible refine .guard (fun hb =>?_) (fun hb =>?_) <;>try simp only[hb])|refine ae.aE (by decide +kernel) rfl fun K hK =>?_|refine .flat _ (hF1) rfl ?_|refine .flat _ (hF2) rfl ?_|(refine .av [0,1,2,3,4,5,24,34] hK ?_;clear hK K)|(with_reducible refine .done (hK _ ?_);clear hK K)|refine ae.of rfl ?_|(with_reducible refine aA.aD (fun h =>?_) (fun h =>?_) <;>try simp only[h])) <;>try simp only[aF,R,simprocAttr])
  all_goals clear R
  exact fail _ _ hop rfl rfl
def qf(p:bx):Int:=match da p with
 |some _=>0
 |none=>91
theorem ui(p:bx):bf Tryz.prog 23 [enc p] (enc (qf p)):=by
 refine bf.bZ Tryz.func23 Ij Js KN (u8 rfl) (fun hwf W0 bF E1 =>?_);simp only[yU,DI,bJ];have hF:=nl p;simp only[qf];cases ho:da p with
 |none =>
  rw[ho] at hF;simp only[iP] at hF;have R:=y6 @bl (y6 @dA (y6 @bU (y6 @bw (y6 @bq aC))))
  repeat' ((first |refine ae.aE (by decide +kernel) rfl fun K hK =>?_|refine .lead _ (hF) ?_|(refine .av [0,1,2,4] hK ?_;clear hK K)|(with_reducible refine .done (hK _ ?_);clear hK K)|refine ae.of rfl ?_|(with_reducible refine aA.aD (fun h =>?_) (fun h =>?_) <;>try simp only[h])) <;>try simp only[aF,R,simprocAttr])
  all_goals clear R
  all_goals rfl
 |some s =>
  rw[ho] at hF;simp only[iP] at hF;have R:=y6 @dY (y6 @bl (y6 @dA (y6 @bU (y6 @bw (y6 @bq aC)))))
  repeat' ((first |refine ae.aE (by decide +kernel) rfl fun K hK =>?_|refine .lead _ (hF) ?_|(refine .av [0,1,2,4] hK ?_;clear hK K)|(with_reducible refine .done (hK _ ?_);clear hK K)|refine ae.of rfl ?_|(with_reducible refine aA.aD (fun h =>?_) (fun h =>?_) <;>try simp only[h])) <;>try simp only[aF,R,simprocAttr])
  all_goals clear R
  all_goals rfl
def gp:bh:=⟨0,0,0,0⟩
theorem nz:I.agg [.int .i64 0,.int .i64 0,.int .i64 0,.int .i64 0]=enc gp:=rfl
def tJ(k:Nat)(l:List bh)(m:Nat):List (Nat×aq):=[(k,.box (.agg ((l++List.replicate m gp).map enc)))]
def qg(l:List bh)(v:I)(os':List (Nat×aq)):Prop:=(l=[]∧(v=.nils 4∨v=.c0 4)∧os'=[])∨(l≠[]∧∃ m,v=.view 7 [] 4 0 l.length∧os'=tJ 7 l m)
def YN(l:List bh):cC:=fun r os'=>qg l r os'
theorem Gl(l:List bh)(ao:l.length≤1000):cR Tryz.prog 59 [enc l] [] (YN l):=by
 refine cR.bZ Tryz.func59 zZ Ao Ax (u8 rfl) (u8 rfl) (fun m hm=>by simp[az,aj] at hm) (fun hwf W0 bF E1 =>?_);simp only[uT,w7,bJ];refine .gw (by decide +kernel) fun K hK =>?_;simp only[vN,bI,simprocAttr];refine .done (hK _ ?_);clear hK K;refine ae.seq (ae.seq ?_);by_cases hn:l=[]
 ·subst hn;refine .ku (by decide +kernel) fun K hK =>?_;simp only[qw,bI,simprocAttr];simp only[tW,List.isEmpty_nil,pn];refine .any rfl fun b _ =>?_
  try simp only[bI,simprocAttr]
  generalize (b==0)=t;cases t
  ·refine .done (hK _ ?_);clear hK K;try simp only[eB]
   refine ae.jX ?_;simp only[aA,bI,simprocAttr];refine ⟨fun h =>?_,fun h =>?_⟩
   ·cases h
   refine ae.skip ?_;try simp only[eB,simprocAttr]
   refine .gw (by decide +kernel) fun K hK =>?_;simp only[qx,bI,simprocAttr]
   try simp only[jN,nz,bI,simprocAttr]
   refine .done (hK _ ?_);clear hK K;refine ae.ret ?_;simp only[n5];exact ⟨[],[.c0 4],BN,⟨⟨.c0 4,rfl,.inl ⟨rfl,rfl,rfl⟩⟩,trivial⟩,.inl ⟨rfl,.inr rfl,rfl⟩⟩
  ·refine .done (hK _ ?_);clear hK K;refine ae.jX ?_;simp only[aA,bI,simprocAttr];refine ⟨fun h =>?_,fun h =>?_⟩
   ·refine .gw (by decide +kernel) fun K hK =>?_;simp only[vO,bI,simprocAttr];refine .done (hK _ ?_);clear hK K;refine ae.ret ?_;simp only[eB,n5];exact ⟨[],[.nils 4],BN,⟨⟨.nils 4,rfl,.inl ⟨rfl,rfl,rfl⟩⟩,trivial⟩,.inl ⟨rfl,.inl rfl,rfl⟩⟩
   ·cases h
 ·have hu:jM (enc l)=false:=by rw[tW];simpa using hn
  refine .ku (by decide +kernel) fun K hK =>?_;simp only[qw,bI,simprocAttr]
  try simp only[hu,CB _ l hn,bI,simprocAttr]
  refine .done (hK _ ?_);clear hK K;try simp only[eB]
  refine ae.jX ?_;simp only[aA,bI,simprocAttr];refine ⟨fun h =>?_,fun h =>?_⟩
  ·cases h
  refine ae.skip ?_;try simp only[eB,simprocAttr]
  refine .gw (by decide +kernel) fun K hK =>?_;simp only[qx,bI,simprocAttr]
  try simp only[jN,nz,bI,simprocAttr]
  refine aS.uB gp rfl hn rfl (by omega) (by simp only[maxLen];omega) fun m =>?_
  try simp only[bI,simprocAttr]
  refine .done (hK _ ?_);clear hK K;refine ae.ret ?_;simp only[n5];exact ⟨tJ 7 l m,[.view 7 [] 4 0 l.length],WL rfl (fun p=>by simp only[I.only];exact ic p _),⟨⟨_,rfl,.inl ⟨rfl,rfl,rfl⟩⟩,trivial⟩,.inr ⟨hn,m,rfl,rfl⟩⟩
theorem oO{l:List bh}{v:I}{os':List (Nat×aq)}(h:qg l v os'):(∀ n x,aj os' n=some x→x.only (az os')=true∧x.eg=true)∧v.only (az os')=true∧(∀ m,az os' m=true→m=7)∧v.bT=true∧b6 none v=true∧v.aX=.one∧v.size=1∧v.isAgg=false:=by
 rcases h with ⟨rfl,rfl | rfl,rfl⟩ | ⟨hn,m,rfl,rfl⟩
 ·exact ⟨fun n x hx=>by simp[aj] at hx,rfl,fun m hm=>by simp[az,aj] at hm,rfl,rfl,rfl,rfl,rfl⟩
 ·exact ⟨fun n x hx=>by simp[aj] at hx,rfl,fun m hm=>by simp[az,aj] at hm,rfl,rfl,rfl,rfl,rfl⟩
 ·refine ⟨fun n x hx =>?_,rfl,fun m hm =>?_,rfl,rfl,rfl,rfl,rfl⟩
  ·simp only[tJ,aj] at hx;split at hx
   ·cases hx;exact ⟨by simp only[aq.only,I.only];exact ic _ _,rfl⟩
   ·cases hx
  ·simp only[az,tJ,aj] at hm;split at hm
   ·assumption
   ·simp at hm
theorem Ft{ts:List (Nat×I)}{os0 os':List (Nat×aq)}(hno:aj os0 7=none)(h:∀ m,az os' m=true→m=7):au ts (os'++os0)=au ts (os0++os'):=by
 simp only[au,ai.mk.injEq,true_and]
 funext n
 rw[fF,fF];cases J:aj os' n with
 |none=>simp only;cases aj os0 n <;>rfl
 |some y =>
  have:=h n (by simp[az,J]);subst this;rw[hno]
theorem aS.Kb{K:ai→Prop}{l:List bh}{avs:List I}{a1 a2:Option (List I)}{dst:Option Nat}{rest:List aH}{ts:List (Nat×I)}{os0:List (Nat×aq)}(ao:l.length≤1000)(hav:a1=some [enc l])(hf:b8 false (au ts os0) avs=some [enc l])(hno:aj os0 7=none)
  (h:∀ v os',qg l v os'→aS Tryz.prog dq false K (aB rest ((au ts (os0++os')).aU dst v))):aS Tryz.prog dq false K (.call 59 avs a1 a2 dst rest (au ts os0)):=by
 have harg:gK false (au ts os0) [] [] avs [enc l]:=by
  match avs,hf with
  | [],hf=>simp[b8] at hf
  | [x],hf =>
   refine ⟨.inr ?_,trivial⟩;simp only[b8] at hf;split at hf
   ·rename_i y ys J U;cases U;cases hf;exact J
   ·cases hf
  |x::y::r,hf =>
   simp only[b8] at hf;split at hf
   ·rename_i J U;split at U <;>cases U;cases hf
   ·cases hf
 refine .bQ false [] [] [enc l] _ rfl (Gl l ao) ⟨fun m x hx=>by simp[aj] at hx,fun m m' hm=>by simp[az,aj] at hm⟩ (by simpa[iK,AF] using harg) ?_ ?_
 ·intro r os' hp;obtain ⟨J,U,ah,_⟩:=oO hp;exact ⟨fun m y hy=>⟨(J m y hy).1,(J m y hy).2,fun h=>by cases h⟩,fun m m' _ _ h=>h,fun m hm=>by simp[az,aj] at hm,fun m hm _=>by rw[ah m hm];exact ⟨hno,by decide⟩,U,fun h=>by cases h⟩
 ·intro r os' hp;rw[l6,kv (ρ:=bK []) (fun _=>rfl),Ft hno (oO hp).2.2.1];exact h r os' hp
def dT(p:bx)(v:I):I:=.agg [.int .i64 p.aw,v,.int .i64 p.eD]
def YO(p:bx):cC:=fun r os'=>∃ v,r=dT p v∧qg p.j v os'
theorem kP:(∀ p v,(dT p v).dI=some [.int .i64 p.aw,v,.int .i64 p.eD])∧(∀ p v,(dT p v).bT=true)∧(∀ (a c:Int) v w,c9 [.int .i64 a,v,.int .i64 c] 1 1 w=some w)∧(∀ (a c:Int) v w,c9 [.int .i64 a,v,.int .i64 c] 0 0 w=some w) :=
 ⟨fun _ _=>rfl,fun _ _=>rfl,fun _ _ _ _=>iM (by simp) rfl,fun _ _ _ _=>iM (by simp) rfl⟩
theorem Gj(p:bx)(ao:p.j.length≤1000):cR Tryz.prog 57 [enc p] [] (YO p):=by
 refine cR.bZ Tryz.func57 zY An Aw (u8 rfl) (u8 rfl) (fun m hm=>by simp[az,aj] at hm) (fun hwf W0 bF E1 =>?_);simp only[uS,w6,bJ];clear hwf;have hfe:∀ A,b8 false A [enc p.j]=some [enc p.j]:=fun A=>by simp only[b8,lJ]
 have R:=y6 @dA (y6 @bU (y6 @bw (y6 @bq aC)))
 repeat' ((first |refine ae.aE (by decide +kernel) rfl fun K hK =>?_|refine aS.Kb ao rfl (hfe _) rfl (fun v os' hc =>?_)|(refine .av [0,1,2] hK ?_;clear hK K)|(with_reducible refine .done (hK _ ?_);clear hK K)|refine ae.of rfl ?_|(with_reducible refine aA.aD (fun h =>?_) (fun h =>?_) <;>try simp only[h])) <;>try simp only[aF,R,zz9,simprocAttr])
 all_goals clear R
 obtain ⟨g1,g2,g3,g4,g5,g6,g7,g8⟩:=oO hc;have hst:∀ A rest,df A none 1 [1] (enc p) v rest (some (enc p.j))=aB rest (A.aV 1 (.box (dT p v))):=fun A rest=>dE g4 g5 (g6.trans rfl);have hok:b6 (some 3) (dT p v)=true:=by simp[b6,dT,I.isAgg,I.size,I.sizes,g7]
 have hsh:(dT p v).aX=.eH [.one,.one,.one]:=by simp[dT,I.aX,I.cT,g6]
 have hst2:∀ A rest,df A (some 3) 2 [] (.agg [.int .i64 0,.nils 4,.int .i64 0]) (dT p v) rest (some (.agg [.int .i64 0,.nils 4,.int .i64 0]))=aB rest (A.aV 2 (.box (dT p v))):=fun A rest=>dE rfl hok hsh
 try simp only[hst,bI,simprocAttr]
 have R:=y6 @hst (y6 @hok (y6 @hst2 (y6 @kP (y6 @dA (y6 @bU (y6 @bw (y6 @bq aC)))))))
 repeat' ((first |refine ae.aE (by decide +kernel) rfl fun K hK =>?_|(refine .av [0,1,2] hK ?_;clear hK K)|(with_reducible refine .done (hK _ ?_);clear hK K)|refine ae.of rfl ?_|(with_reducible refine aA.aD (fun h =>?_) (fun h =>?_) <;>try simp only[h])) <;>try simp only[aF,R,simprocAttr])
 all_goals clear R
 refine ⟨os',[dT p v],fun n x hx=>⟨?_,g1 n x hx⟩,⟨⟨dT p v,?_,.inl ⟨rfl,rfl,?_⟩⟩,trivial⟩,v,rfl,hc⟩
 ·have:=g3 n (by simp[az,hx]);subst this;simp only[au,aj,Nat.reduceEqDiff,if_false];exact hx
 ·simp[rl,cF,au,Abs.bX,aj,I.at,hok]
 ·simp[dT,I.only,I.cv,g2]
theorem Gm(l:List bh)(ao:l.length≤1000):bf Tryz.prog 59 [enc l] (enc l):=by
 refine bf.bZ Tryz.func59 zZ Ao Ax (u8 rfl) (fun hwf W0 bF E1 =>?_);simp only[uT,w7,bJ];refine .gw (by decide +kernel) fun K hK =>?_;simp only[vN,bI,simprocAttr];refine .done (hK _ ?_);clear hK K;refine ae.seq (ae.seq ?_);by_cases hn:l=[]
 ·subst hn;refine .ku (by decide +kernel) fun K hK =>?_;simp only[qw,bI,simprocAttr];simp only[tW,List.isEmpty_nil,pn];refine .any rfl fun b _ =>?_
  try simp only[bI,simprocAttr]
  generalize (b==0)=t;cases t
  ·refine .done (hK _ ?_);clear hK K;try simp only[eB]
   refine ae.jX ?_;simp only[aA,bI,simprocAttr];refine ⟨fun h =>?_,fun h =>?_⟩
   ·cases h
   refine ae.skip ?_;try simp only[eB,simprocAttr]
   refine .gw (by decide +kernel) fun K hK =>?_;simp only[qx,bI,simprocAttr]
   try simp only[jN,nz,bI,simprocAttr]
   refine .done (hK _ ?_);clear hK K;refine ae.ret ?_;simp only[bI,simprocAttr];rfl
  ·refine .done (hK _ ?_);clear hK K;refine ae.jX ?_;simp only[aA,bI,simprocAttr];refine ⟨fun h =>?_,fun h =>?_⟩
   ·refine .gw (by decide +kernel) fun K hK =>?_;simp only[vO,bI,simprocAttr];refine .done (hK _ ?_);clear hK K;refine ae.ret ?_;simp only[eB,bI,simprocAttr];rfl
   ·cases h
 ·have hu:jM (enc l)=false:=by rw[tW];simpa using hn
  refine .ku (by decide +kernel) fun K hK =>?_;simp only[qw,bI,simprocAttr]
  try simp only[hu,CB _ l hn,bI,simprocAttr]
  refine .done (hK _ ?_);clear hK K;try simp only[eB]
  refine ae.jX ?_;simp only[aA,bI,simprocAttr];refine ⟨fun h =>?_,fun h =>?_⟩
  ·cases h
  refine ae.skip ?_;try simp only[eB,simprocAttr]
  refine .gw (by decide +kernel) fun K hK =>?_;simp only[qx,bI,simprocAttr]
  try simp only[jN,nz,bI,simprocAttr]
  refine aS.uB gp rfl hn rfl (by omega) (by simp only[maxLen];omega) fun m =>?_
  try simp only[bI,simprocAttr]
  refine .done (hK _ ?_);clear hK K;refine ae.ret ?_;simp only[bI,simprocAttr]
  try simp only[vC (α:=bh) (sz:=4) rfl,List.take_left,bI,simprocAttr]
theorem xX(p:bx)(ao:p.j.length≤1000):bf Tryz.prog 57 [enc p] (enc p):=by
 refine bf.bZ Tryz.func57 zY An Aw (u8 rfl) (fun hwf W0 bF E1 =>?_);simp only[uS,w6,bJ];clear hwf;have hst:∀ A rest,df A none 1 [1] (enc p) (enc p.j) rest (some (enc p.j))=aB rest (A.aV 1 (.box (enc p))):=fun A rest=>dE (er _) (by simp[kj,ki]) rfl;have hst2:∀ A rest,df A (some 3) 2 [] (.agg [.int .i64 0,.nils 4,.int .i64 0]) (enc p) rest (some (.agg [.int .i64 0,.nils 4,.int .i64 0]))=aB rest (A.aV 2 (.box (enc p))):=fun A rest=>dE (er _) (by rw[fg];rfl) (eJ _);have R:=y6 @hst (y6 @hst2 (y6 @dA (y6 @bU (y6 @bw (y6 @bq aC)))))
 repeat' ((first |refine ae.aE (by decide +kernel) rfl fun K hK =>?_|refine .lead _ (Gm p.j ao) ?_|(refine .av [0,1,2] hK ?_;clear hK K)|(with_reducible refine .done (hK _ ?_);clear hK K)|refine ae.of rfl ?_|(with_reducible refine aA.aD (fun h =>?_) (fun h =>?_) <;>try simp only[h])) <;>try simp only[aF,R,simprocAttr])
 all_goals clear R
def eS(p:bx)(x:bh):bx×Int:=if p.j.length=200 then (⟨0,[],0⟩,2) else (⟨p.aw,p.j++[x],p.eD⟩,0)
theorem aS.Kl{K:ai→Prop}{p:bx}{avs:List I}{a1 a2:Option (List I)}{dst:Option Nat}{rest:List aH}{ts:List (Nat×I)}{os0:List (Nat×aq)}(ao:p.j.length≤1000)(hav:avs=[enc p])(hno:aj os0 7=none)
  (h:∀ v os',qg p.j v os'→aS Tryz.prog dq false K (aB rest ((au ts (os0++os')).aU dst (dT p v)))):aS Tryz.prog dq false K (.call 57 avs a1 a2 dst rest (au ts os0)):=by
 subst hav;refine .bQ false [] [] [enc p] _ rfl (Gj p ao) ⟨fun m x hx=>by simp[aj] at hx,fun m m' hm=>by simp[az,aj] at hm⟩ ⟨.inl ⟨(kS _ _).symm,cJ _ _,er _⟩,trivial⟩ ?_ ?_
 ·rintro r os' ⟨v,rfl,hp⟩;obtain ⟨J,U,ah,_⟩:=oO hp;exact ⟨fun m y hy=>⟨(J m y hy).1,(J m y hy).2,fun h=>by cases h⟩,fun m m' _ _ h=>h,fun m hm=>by simp[az,aj] at hm,fun m hm _=>by rw[ah m hm];exact ⟨hno,by decide⟩,by simp[dT,I.only,I.cv,U],fun h=>by cases h⟩
 ·rintro r os' ⟨v,rfl,hp⟩;rw[l6,kv (ρ:=bK []) (fun _=>rfl),Ft hno (oO hp).2.2.1];exact h v os' hp
theorem sF{p:bx}{k n:Nat}{xs l:List bh}{A:ai}(hA:A.o k=some (.box (.agg (xs.map enc))))(hx:xs.take n=l):bg true A (dT p (.view k [] 4 0 n))=some (enc (⟨p.aw,l,p.eD⟩:bx)):=by
 have J:bg true A (.view k [] 4 0 n)=some (enc l):=by
  rw[vD,hA];have:lM 4 0 n (some (xs.map enc))=some (enc l):=by rw[vC (α:=bh) (sz:=4) rfl,hx]
  exact this
 have U:∀ k n,bg true A (.int k n)=some (.int k n):=fun k n=>by simp only[bg]
 simp only[dT,sE,sH,sJ,J,U,jS,zz7];rfl
theorem pX(p:bx)(x:bh)(ao:p.j.length≤200):bf Tryz.prog 73 [enc p,enc x] (.tuple [enc (eS p x).1,enc (eS p x).2]):=by
 refine bf.bZ Tryz.func73 IQ JW Lh (u8 rfl) (fun hwf W0 bF E1 =>?_);simp only[zu,Eg,bJ,zz1];clear hwf;rcases q:((p.j.length:Int)==200)
 case true =>
  have U:p.j.length=200:=by simp at q;omega
  have hw:eS p x=(⟨0,[],0⟩,2):=by simp[eS,U]
  rw[hw];have R:=y6 @q (y6 @qa (y6 @rH (y6 @dA (y6 @bU (y6 @bw (y6 @bq aC))))))
  repeat' ((first |refine ae.aE (by decide +kernel) rfl fun K hK =>?_|(refine .av [0,1,2,3,4,5,9] hK ?_;clear hK K)|(with_reducible refine .done (hK _ ?_);clear hK K)|refine ae.of rfl ?_|(with_reducible refine aA.aD (fun h =>?_) (fun h =>?_) <;>try simp only[h])) <;>try simp only[aF,R,simprocAttr])
  all_goals clear R
  rfl
 have hne:¬ p.j.length=200:=fun h=>by rw[h] at q;simp at q
 have hw:eS p x=(⟨p.aw,p.j++[x],p.eD⟩,0):=by simp[eS,hne]
 rw[hw];have hbs:=jf 4 x rfl;have R:=y6 @hbs (y6 @q (y6 @dA (y6 @bU (y6 @bw (y6 @bq aC)))))
 repeat' ((first |refine ae.aE (by decide +kernel) rfl fun K hK =>?_|refine aS.Kl (by omega) rfl rfl (fun v os' hc =>?_)|(refine .av [0,1,2,3,4,5,9] hK ?_;clear hK K)|(with_reducible refine .done (hK _ ?_);clear hK K)|refine ae.of rfl ?_|(with_reducible refine aA.aD (fun h =>?_) (fun h =>?_) <;>try simp only[h])) <;>try simp only[aF,R,zz9,simprocAttr])
 all_goals clear R
 obtain ⟨g1,g2,g3,g4,g5,g6,g7,g8⟩:=oO hc;have hok:b6 (some 3) (dT p v)=true:=by simp[b6,dT,I.isAgg,I.size,I.sizes,g7]
 have hsh:(dT p v).aX=.eH [.one,.one,.one]:=by simp[dT,I.aX,I.cT,g6]
 have hst:∀ A rest,df A (some 3) 2 [] (enc p) (dT p v) rest (some (enc p))=aB rest (A.aV 2 (.box (dT p v))):=fun A rest=>dE rfl hok hsh
 try simp only[hst,bI,simprocAttr]
 have R:=y6 @hbs (y6 @nz (y6 @g5 (y6 @kP (y6 @dA (y6 @bU (y6 @bw (y6 @bq aC)))))))
 repeat' ((first |refine ae.aE (by decide +kernel) rfl fun K hK =>?_|(refine .av [0,1,2,3,4,5,9] hK ?_;clear hK K)|(with_reducible refine .done (hK _ ?_);clear hK K)|refine ae.of rfl ?_|(with_reducible refine aA.aD (fun h =>?_) (fun h =>?_) <;>try simp only[h])) <;>try simp only[aF,R,simprocAttr])
 all_goals clear R
 have hst2:∀ A rest k n w,df A none 2 [1] (dT p w) (.view k [] 4 0 n) rest (some v)=aB rest (A.aV 2 (.box (dT p (.view k [] 4 0 n)))):=fun A rest k n w=>dE rfl rfl (by rw[g6];rfl);have hok2:∀ k n,b6 (some 3) (dT p (.view k [] 4 0 n))=true:=fun _ _=>rfl;have hst3:∀ A rest k n,df A (some 3) 4 [] (.agg [.int .i64 0,.nils 4,.int .i64 0]) (dT p (.view k [] 4 0 n)) rest (some (.agg [.int .i64 0,.nils 4,.int .i64 0]))=aB rest (A.aV 4 (.box (dT p (.view k [] 4 0 n)))):=fun A rest k n=>dE rfl rfl rfl;have hlx:([x]:List bh).length=1:=rfl;rcases hc with ⟨hj,rfl | rfl,rfl⟩ | ⟨hj,m,rfl,rfl⟩
 ·refine aS.Hb gp rfl (by simp) rfl (by simp) (by simp[maxLen]) fun q =>?_;have hf:=fun A h=>sF (p:=p) (k:=17) (n:=1) (xs:=[x]++List.replicate q gp) (l:=p.j++[x]) (A:=A) h (by rw[hj];rfl)
  try simp only[hlx,hst2,kP,aC,bI,simprocAttr]
  have R:=y6 @hst2 (y6 @hok2 (y6 @hst3 (y6 @hf (y6 @kP (y6 @dA (y6 @bU (y6 @bw (y6 @bq aC))))))))
  repeat' ((first |refine ae.aE (by decide +kernel) rfl fun K hK =>?_|(refine .av [0,1,2,3,4,5,9] hK ?_;clear hK K)|(with_reducible refine .done (hK _ ?_);clear hK K)|refine ae.of rfl ?_|(with_reducible refine aA.aD (fun h =>?_) (fun h =>?_) <;>try simp only[h])) <;>try simp only[aF,R,simprocAttr])
  all_goals clear R
 ·refine aS.uB gp rfl (by simp) rfl (by simp) (by simp[maxLen]) fun q =>?_;have hf:=fun A h=>sF (p:=p) (k:=17) (n:=1) (xs:=[x]++List.replicate q gp) (l:=p.j++[x]) (A:=A) h (by rw[hj];rfl)
  try simp only[hlx,hst2,kP,aC,bI,simprocAttr]
  have R:=y6 @hst2 (y6 @hok2 (y6 @hst3 (y6 @hf (y6 @kP (y6 @dA (y6 @bU (y6 @bw (y6 @bq aC))))))))
  repeat' ((first |refine ae.aE (by decide +kernel) rfl fun K hK =>?_|(refine .av [0,1,2,3,4,5,9] hK ?_;clear hK K)|(with_reducible refine .done (hK _ ?_);clear hK K)|refine ae.of rfl ?_|(with_reducible refine aA.aD (fun h =>?_) (fun h =>?_) <;>try simp only[h])) <;>try simp only[aF,R,simprocAttr])
  all_goals clear R
 ·by_cases hm:m=0
  ·subst hm;refine aS.G9 (esz:=4) gp rfl (xs:=p.j++List.replicate 0 gp) (ys:=[x]) (by simp) rfl (by simp) (by simp) rfl (by simp;omega) (by simp[maxLen];omega) fun q =>?_;have hf:=fun A h=>sF (p:=p) (k:=17) (n:=p.j.length+1) (xs:=(p.j++List.replicate 0 gp).take p.j.length++([x]++List.replicate q gp)) (l:=p.j++[x]) (A:=A) h (by simp[List.take_append];exact List.take_of_length_le (by omega))
   try simp only[hlx,hst2,kP,aC,bI,simprocAttr]
   have R:=y6 @hst2 (y6 @hok2 (y6 @hst3 (y6 @hf (y6 @kP (y6 @dA (y6 @bU (y6 @bw (y6 @bq aC))))))))
   repeat' ((first |refine ae.aE (by decide +kernel) rfl fun K hK =>?_|(refine .av [0,1,2,3,4,5,9] hK ?_;clear hK K)|(with_reducible refine .done (hK _ ?_);clear hK K)|refine ae.of rfl ?_|(with_reducible refine aA.aD (fun h =>?_) (fun h =>?_) <;>try simp only[h])) <;>try simp only[aF,R,simprocAttr])
   all_goals clear R
  ·rw[yk (esz:=4) _ rfl (xs:=p.j++List.replicate m gp) (ys:=[x]) (by simp) rfl (by simp;omega)];have hf:=fun A h=>sF (p:=p) (k:=7) (n:=p.j.length+1) (xs:=(p.j++List.replicate m gp).take p.j.length++([x]++(p.j++List.replicate m gp).drop (p.j.length+1))) (l:=p.j++[x]) (A:=A) h (by simp[List.take_append];exact List.take_of_length_le (by omega))
   try simp only[hlx,hst2,kP,aC,bI,simprocAttr]
   have R:=y6 @hst2 (y6 @hok2 (y6 @hst3 (y6 @hf (y6 @kP (y6 @dA (y6 @bU (y6 @bw (y6 @bq aC))))))))
   repeat' ((first |refine ae.aE (by decide +kernel) rfl fun K hK =>?_|(refine .av [0,1,2,3,4,5,9] hK ?_;clear hK K)|(with_reducible refine .done (hK _ ?_);clear hK K)|refine ae.of rfl ?_|(with_reducible refine aA.aD (fun h =>?_) (fun h =>?_) <;>try simp only[h])) <;>try simp only[aF,R,simprocAttr])
   all_goals clear R
def dm:bx:=⟨0,[],0⟩
theorem Fi:(∀ A n b rest (q:bx) x y,df A (some 3) n [] b (enc q) rest (some (.agg [.int .i64 x,.nils 4,.int .i64 y]))=aB rest (A.aV n (.box (enc q))))∧(∀ A n b rest (q:bx) (r:bx),df A (some 3) n [] b (enc q) rest (some (enc r))=aB rest (A.aV n (.box (enc q)))) :=
 ⟨fun A n b rest q x y=>dE (er _) (by rw[fg];rfl) (eJ _),fun A n b rest q r=>dE (er _) (by rw[fg];rfl) ((eJ _).trans (eJ _).symm)⟩
theorem oK(a b:Int):(dK [.int .i64 0,.int .i64 0,.int .i64 0,.int .i64 0] [(0,.int .i64 a),(1,.int .i64 b)]).map I.agg=some (enc (⟨a,b,0,0⟩:bh)):=by simp[dK,I.bT,I.size];rfl
theorem sk(a b c d:Int):(dK [.int .i64 0,.int .i64 0,.int .i64 0,.int .i64 0] [(0,.int .i64 a),(1,.int .i64 b),(2,.int .i64 c),(3,.int .i64 d)]).map I.agg=some (enc (⟨a,b,c,d⟩:bh)):=by simp[dK,I.bT,I.size];rfl
theorem ca:(type_of% @Fi)∧(type_of% @oK)∧(type_of% @sk)∧(type_of% @qa)∧(type_of% @rH)∧(type_of% @dA):=⟨Fi,oK,sk,qa,rH,dA⟩
def jj(p:bx)(b:Int):bx×Int:=match da p with
 |none=>(dm,91)
 |some s=>if cK 1 9999 b=false then (dm,1) else if b∈s.here∨s.eV b=true then (dm,92) else eS p ⟨1,b,0,0⟩
def jF(p:bx)(b:Int):bx×Int:=match da p with
 |none=>(dm,91)
 |some s=>if cK 1 9999 b=false then (dm,1) else if b∈s.here then eS p ⟨2,b,0,0⟩ else (dm,93)
theorem xV(p:bx)(b:Int):bf Tryz.prog 27 [enc p,enc b] (.tuple [enc (jj p b).1,enc (jj p b).2]):=by
 refine bf.bZ Tryz.func27 Im Jv KQ (u8 rfl) (fun hwf W0 bF E1 =>?_);simp only[yX,DL,bJ,zz1];clear hwf;have hF:=nl p;simp only[jj];cases ho:da p with
 |none =>
  rw[ho] at hF;simp only[iP] at hF;have R:=y6 @ca (y6 @bl (y6 @bU (y6 @bw (y6 @bq aC))))
  repeat' ((first |(with_reducible refine .guard (fun hb =>?_) (fun hb =>?_) <;>try simp only[hb])|refine ae.aE (by decide +kernel) rfl fun K hK =>?_|refine .lead _ (hF) ?_|(refine .av [0,1,2,4,5,6,7,13,18,23] hK ?_;clear hK K)|(with_reducible refine .done (hK _ ?_);clear hK K)|refine ae.of rfl ?_|(with_reducible refine aA.aD (fun h =>?_) (fun h =>?_) <;>try simp only[h])) <;>try simp only[aF,R,simprocAttr])
  all_goals clear R
  rfl
 |some s =>
  have hjl:=(ij ho).2.2.2.1;rw[ho] at hF;simp only[iP] at hF;have hlk:=fW eN b s.here;rw[eF] at hlk;have hB:=oC b;have hR:=pW s b;have hW:=pX p ⟨1,b,0,0⟩ hjl;rcases q1:cK 1 9999 b
  ·rw[q1] at hB;have R:=y6 @dY (y6 @ca (y6 @bl (y6 @bU (y6 @bw (y6 @bq aC)))))
   repeat' ((first |(with_reducible refine .guard (fun hb =>?_) (fun hb =>?_) <;>try simp only[hb])|refine ae.aE (by decide +kernel) rfl fun K hK =>?_|refine .lead _ (hF) ?_|refine .flat _ (hB) rfl ?_|(refine .av [0,1,2,4,5,6,7,13,18,23] hK ?_;clear hK K)|(with_reducible refine .done (hK _ ?_);clear hK K)|refine ae.of rfl ?_|(with_reducible refine aA.aD (fun h =>?_) (fun h =>?_) <;>try simp only[h])) <;>try simp only[aF,R,simprocAttr])
   all_goals clear R
   rfl
  rw[q1] at hB;rcases q2:decide (b∈s.here)
  ·rcases q3:s.eV b
   ·rw[q3] at hR;have bG:(b∈s.here∨s.eV b=true)=False:=by simpa[q3] using q2
    simp only[zx3,if_false,bG];have R:=y6 @q2 (y6 @hlk (y6 @dY (y6 @ca (y6 @bl (y6 @bU (y6 @bw (y6 @bq aC)))))))
    repeat' ((first |(with_reducible refine .guard (fun hb =>?_) (fun hb =>?_) <;>try simp only[hb])|refine ae.aE (by decide +kernel) rfl fun K hK =>?_|refine .lead _ (hF) ?_|refine .flat _ (hB) rfl ?_|refine .flat _ (hR) rfl ?_|refine .lead _ (hW) ?_|(refine .av [0,1,2,4,5,6,7,13,18,23] hK ?_;clear hK K)|(with_reducible refine .done (hK _ ?_);clear hK K)|refine ae.of rfl ?_|(with_reducible refine aA.aD (fun h =>?_) (fun h =>?_) <;>try simp only[h])) <;>try simp only[aF,R,simprocAttr])
    all_goals clear R
   ·rw[q3] at hR;have bG:(b∈s.here∨s.eV b=true)=True:=by simp[q3]
    simp only[zx3,if_false,bG,if_true];have R:=y6 @q2 (y6 @hlk (y6 @dY (y6 @ca (y6 @bl (y6 @bU (y6 @bw (y6 @bq aC)))))))
    repeat' ((first |(with_reducible refine .guard (fun hb =>?_) (fun hb =>?_) <;>try simp only[hb])|refine ae.aE (by decide +kernel) rfl fun K hK =>?_|refine .lead _ (hF) ?_|refine .flat _ (hB) rfl ?_|refine .flat _ (hR) rfl ?_|(refine .av [0,1,2,4,5,6,7,13,18,23] hK ?_;clear hK K)|(with_reducible refine .done (hK _ ?_);clear hK K)|refine ae.of rfl ?_|(with_reducible refine aA.aD (fun h =>?_) (fun h =>?_) <;>try simp only[h])) <;>try simp only[aF,R,simprocAttr])
    all_goals clear R
    rfl
  ·have bG:b∈s.here:=of_decide_eq_true q2;simp only[zx3,if_false,bG,true_or,if_true];have R:=y6 @q2 (y6 @hlk (y6 @dY (y6 @ca (y6 @bl (y6 @bU (y6 @bw (y6 @bq aC)))))))
   repeat' ((first |(with_reducible refine .guard (fun hb =>?_) (fun hb =>?_) <;>try simp only[hb])|refine ae.aE (by decide +kernel) rfl fun K hK =>?_|refine .lead _ (hF) ?_|refine .flat _ (hB) rfl ?_|(refine .av [0,1,2,4,5,6,7,13,18,23] hK ?_;clear hK K)|(with_reducible refine .done (hK _ ?_);clear hK K)|refine ae.of rfl ?_|(with_reducible refine aA.aD (fun h =>?_) (fun h =>?_) <;>try simp only[h])) <;>try simp only[aF,R,simprocAttr])
   all_goals clear R
   rfl
theorem F7(p:bx)(b:Int):bf Tryz.prog 29 [enc p,enc b] (.tuple [enc (jF p b).1,enc (jF p b).2]):=by
 refine bf.bZ Tryz.func29 Ip Jx KS (u8 rfl) (fun hwf W0 bF E1 =>?_);simp only[yZ,DN,bJ,zz1];clear hwf;have hF:=nl p;simp only[jF];cases ho:da p with
 |none =>
  rw[ho] at hF;simp only[iP] at hF;have R:=y6 @ca (y6 @bl (y6 @bU (y6 @bw (y6 @bq aC))))
  repeat' ((first |refine ae.aE (by decide +kernel) rfl fun K hK =>?_|refine .lead _ (hF) ?_|(refine .av [0,1,2,4,5,6,7,13,18,23] hK ?_;clear hK K)|(with_reducible refine .done (hK _ ?_);clear hK K)|refine ae.of rfl ?_|(with_reducible refine aA.aD (fun h =>?_) (fun h =>?_) <;>try simp only[h])) <;>try simp only[aF,R,simprocAttr])
  all_goals clear R
  rfl
 |some s =>
  have hjl:=(ij ho).2.2.2.1;rw[ho] at hF;simp only[iP] at hF;have hlk:=fW eN b s.here;rw[eF] at hlk;have hB:=oC b;have hW:=pX p ⟨2,b,0,0⟩ hjl;rcases q1:cK 1 9999 b
  ·rw[q1] at hB;have R:=y6 @dY (y6 @ca (y6 @bl (y6 @bU (y6 @bw (y6 @bq aC)))))
   repeat' ((first |refine ae.aE (by decide +kernel) rfl fun K hK =>?_|refine .lead _ (hF) ?_|refine .flat _ (hB) rfl ?_|(refine .av [0,1,2,4,5,6,7,13,18,23] hK ?_;clear hK K)|(with_reducible refine .done (hK _ ?_);clear hK K)|refine ae.of rfl ?_|(with_reducible refine aA.aD (fun h =>?_) (fun h =>?_) <;>try simp only[h])) <;>try simp only[aF,R,simprocAttr])
   all_goals clear R
   rfl
  rw[q1] at hB;rcases q2:decide (b∈s.here)
  ·have bG:b∉s.here:=of_decide_eq_false q2;simp only[zx3,if_false,bG];have R:=y6 @q2 (y6 @hlk (y6 @dY (y6 @ca (y6 @bl (y6 @bU (y6 @bw (y6 @bq aC)))))))
   repeat' ((first |refine ae.aE (by decide +kernel) rfl fun K hK =>?_|refine .lead _ (hF) ?_|refine .flat _ (hB) rfl ?_|(refine .av [0,1,2,4,5,6,7,13,18,23] hK ?_;clear hK K)|(with_reducible refine .done (hK _ ?_);clear hK K)|refine ae.of rfl ?_|(with_reducible refine aA.aD (fun h =>?_) (fun h =>?_) <;>try simp only[h])) <;>try simp only[aF,R,simprocAttr])
   all_goals clear R
   rfl
  ·have bG:b∈s.here:=of_decide_eq_true q2;simp only[zx3,if_false,bG,if_true];have R:=y6 @q2 (y6 @hlk (y6 @dY (y6 @ca (y6 @bl (y6 @bU (y6 @bw (y6 @bq aC)))))))
   repeat' ((first |refine ae.aE (by decide +kernel) rfl fun K hK =>?_|refine .lead _ (hF) ?_|refine .flat _ (hB) rfl ?_|refine .lead _ (hW) ?_|(refine .av [0,1,2,4,5,6,7,13,18,23] hK ?_;clear hK K)|(with_reducible refine .done (hK _ ?_);clear hK K)|refine ae.of rfl ?_|(with_reducible refine aA.aD (fun h =>?_) (fun h =>?_) <;>try simp only[h])) <;>try simp only[aF,R,simprocAttr])
   all_goals clear R
def pO(p:bx):bx×Int:=match da p with
 |none=>(dm,91)
 |some _=>(⟨p.aw,p.j,p.j.length⟩,0)
theorem ZS(A:ai)(n:Nat)(p:bx)(v:Int)(rest:List aH)(u:Int):df A none n [2] (enc p) (.int .i64 v) rest (some (.int .i64 u))=aB rest (A.aV n (.box (enc (⟨p.aw,p.j,v⟩:bx)))):=dE rfl rfl rfl
theorem uf(p:bx):bf Tryz.prog 10 [enc p] (.tuple [enc (pO p).1,enc (pO p).2]):=by
 refine bf.bZ Tryz.func10 H2 Jb Km (u8 rfl) (fun hwf W0 bF E1 =>?_);simp only[yD,De,bJ];clear hwf;have hF:=ui p;simp only[qf] at hF;simp only[pO];cases ho:da p with
 |none =>
  rw[ho] at hF;have R:=y6 @ca (y6 @bl (y6 @bU (y6 @bw (y6 @bq aC))))
  repeat' ((first |refine ae.aE (by decide +kernel) rfl fun K hK =>?_|refine .lead _ (hF) ?_|(refine .av [0,1,2,3,4,8] hK ?_;clear hK K)|(with_reducible refine .done (hK _ ?_);clear hK K)|refine ae.of rfl ?_|(with_reducible refine aA.aD (fun h =>?_) (fun h =>?_) <;>try simp only[h])) <;>try simp only[aF,R,simprocAttr])
  all_goals clear R
  rfl
 |some s =>
  have hjl:=(ij ho).2.2.2.1;rw[ho] at hF;have R:=y6 @ZS (y6 @ca (y6 @bl (y6 @bU (y6 @bw (y6 @bq aC)))))
  repeat' ((first |refine ae.aE (by decide +kernel) rfl fun K hK =>?_|refine .lead _ (hF) ?_|refine .lead _ (xX p (by omega)) ?_|(refine .av [0,1,2,3,4,8] hK ?_;clear hK K)|(with_reducible refine .done (hK _ ?_);clear hK K)|refine ae.of rfl ?_|(with_reducible refine aA.aD (fun h =>?_) (fun h =>?_) <;>try simp only[h])) <;>try simp only[aF,R,simprocAttr])
  all_goals clear R
theorem xD{α:Type}[Enc α]{A:ai}(esz:Nat){l:List α}{i:Nat}(h:i≤l.length)(ab:Enc.sz α=esz):ka A esz none (some (.int .i64 i)) none (enc l)=some (enc (l.take i)):=by
 simp only[ka,hh,ab,if_true,iV,jt,zz8];rw[if_pos ⟨by omega,by omega,by omega,by omega⟩];simp
def gY:cZ:=⟨0,0,0,false⟩
theorem iv:(∀ A n b rest (q:cZ) x y z w,df A (some 4) n [] b (enc q) rest (some (.agg [.int .i64 x,.int .i64 y,.int .i64 z,.bool w]))=aB rest (A.aV n (.box (enc q))))∧(∀ A n b rest (q r:cZ),df A (some 4) n [] b (enc q) rest (some (enc r))=aB rest (A.aV n (.box (enc q)))) :=
 ⟨fun A n b rest q x y z w=>dE (er _) (by rw[fg];rfl) (eJ _),fun A n b rest q r=>dE (er _) (by rw[fg];rfl) ((eJ _).trans (eJ _).symm)⟩
theorem je:(dK [.int .i64 0,.int .i64 0,.int .i64 0,.bool false] []).map I.agg=some (enc gY):=by simp[dK];rfl
theorem oL(a b c:Int):(dK [.int .i64 0,.int .i64 0,.int .i64 0,.bool false] [(0,.int .i64 a),(1,.int .i64 b),(2,.int .i64 c)]).map I.agg=some (enc (⟨a,b,c,false⟩:cZ)):=by simp[dK,I.bT,I.size];rfl
def gx(p:bx)(b to:Int):bx×cZ×Int:=match da p with
 |none=>(dm,gY,91)
 |some s=>if cK 1 9999 b=false then (dm,gY,1) else if cK 0 5 to=false∨to=p.aw then (dm,gY,90) else if b∉s.here then (dm,gY,93) else
  if p.j.length=200 then (dm,gY,2) else ((eS p ⟨3,b,to,(s.all.length:Int)+1⟩).1,⟨(s.all.length:Int)+1,to,b,false⟩,0)
theorem xW(p:bx)(b to:Int):bf Tryz.prog 31 [enc p,enc b,enc to] (.tuple [enc (gx p b to).1,enc (gx p b to).2.1,enc (gx p b to).2.2]):=by
 refine bf.bZ Tryz.func31 Ir Jz KU (u8 rfl) (fun hwf W0 bF E1 =>?_);simp only[y7,DP,bJ,zz1,Nat.reduceAdd];clear hwf;have hF:=nl p;simp only[gx];cases ho:da p with
 |none =>
  rw[ho] at hF;simp only[iP] at hF;have R:=y6 @je (y6 @iv (y6 @ca (y6 @bl (y6 @bU (y6 @bw (y6 @bq aC))))))
  repeat' ((first |(with_reducible refine .guard (fun hb =>?_) (fun hb =>?_) <;>try simp only[hb])|refine ae.aE (by decide +kernel) rfl fun K hK =>?_|refine .lead _ (hF) ?_|(refine .av [0,1,2,3,6,7,8,9,10,11,17,23,29,41,70] hK ?_;clear hK K)|(with_reducible refine .done (hK _ ?_);clear hK K)|refine ae.of rfl ?_|(with_reducible refine aA.aD (fun h =>?_) (fun h =>?_) <;>try simp only[h])) <;>try simp only[aF,R,simprocAttr])
  all_goals clear R
  rfl
 |some s =>
  have hjl:=(ij ho).2.2.2.1;have hsl:=(ij ho).2.2.1;rw[ho] at hF;simp only[iP] at hF;have hlk:=fW eN b s.here;rw[eF] at hlk;have hB:=oC b;have hT:=mn to;have hW:=pX p ⟨3,b,to,(s.all.length:Int)+1⟩ hjl;have hw:IntKind.i64.wrap ((s.all.length:Int)+1)=(s.all.length:Int)+1:=lA _ (by omega) (by omega);rcases q1:cK 1 9999 b
  ·rw[q1] at hB;have R:=y6 @je (y6 @iv (y6 @dY (y6 @ca (y6 @bl (y6 @bU (y6 @bw (y6 @bq aC)))))))
   repeat' ((first |(with_reducible refine .guard (fun hb =>?_) (fun hb =>?_) <;>try simp only[hb])|refine ae.aE (by decide +kernel) rfl fun K hK =>?_|refine .lead _ (hF) ?_|refine .flat _ (hB) rfl ?_|(refine .av [0,1,2,3,6,7,8,9,10,11,17,23,29,41,70] hK ?_;clear hK K)|(with_reducible refine .done (hK _ ?_);clear hK K)|refine ae.of rfl ?_|(with_reducible refine aA.aD (fun h =>?_) (fun h =>?_) <;>try simp only[h])) <;>try simp only[aF,R,simprocAttr])
   all_goals clear R
   rfl
  rw[q1] at hB;rcases q2:cK 0 5 to
  ·rw[q2] at hT;simp only[zx3,if_false,true_or,if_true];have R:=y6 @je (y6 @iv (y6 @dY (y6 @ca (y6 @bl (y6 @bU (y6 @bw (y6 @bq aC)))))))
   repeat' ((first |(with_reducible refine .guard (fun hb =>?_) (fun hb =>?_) <;>try simp only[hb])|refine ae.aE (by decide +kernel) rfl fun K hK =>?_|refine .lead _ (hF) ?_|refine .flat _ (hB) rfl ?_|refine .flat _ (hT) rfl ?_|(refine .av [0,1,2,3,6,7,8,9,10,11,17,23,29,41,70] hK ?_;clear hK K)|(with_reducible refine .done (hK _ ?_);clear hK K)|refine ae.of rfl ?_|(with_reducible refine aA.aD (fun h =>?_) (fun h =>?_) <;>try simp only[h])) <;>try simp only[aF,R,simprocAttr])
   all_goals clear R
   rfl
  rw[q2] at hT;rcases q3:(to==p.aw)
  case true =>
   have e:to=p.aw:=by simpa using q3
   simp only[zx3,if_false,false_or,e,if_true];rw[e] at hT q3;have R:=y6 @q3 (y6 @je (y6 @iv (y6 @dY (y6 @ca (y6 @bl (y6 @bU (y6 @bw (y6 @bq aC))))))))
   repeat' ((first |(with_reducible refine .guard (fun hb =>?_) (fun hb =>?_) <;>try simp only[hb])|refine ae.aE (by decide +kernel) rfl fun K hK =>?_|refine .lead _ (hF) ?_|refine .flat _ (hB) rfl ?_|refine .flat _ (hT) rfl ?_|(refine .av [0,1,2,3,6,7,8,9,10,11,17,23,29,41,70] hK ?_;clear hK K)|(with_reducible refine .done (hK _ ?_);clear hK K)|refine ae.of rfl ?_|(with_reducible refine aA.aD (fun h =>?_) (fun h =>?_) <;>try simp only[h])) <;>try simp only[aF,R,simprocAttr])
   all_goals clear R
   rfl
  have e:¬ to=p.aw:=by simpa using q3
  simp only[zx3,if_false,false_or,e];rcases q4:decide (b∈s.here)
  ·have bG:b∉s.here:=of_decide_eq_false q4;rw[if_pos bG];have R:=y6 @q3 (y6 @q4 (y6 @hlk (y6 @je (y6 @iv (y6 @dY (y6 @ca (y6 @bl (y6 @bU (y6 @bw (y6 @bq aC))))))))))
   repeat' ((first |(with_reducible refine .guard (fun hb =>?_) (fun hb =>?_) <;>try simp only[hb])|refine ae.aE (by decide +kernel) rfl fun K hK =>?_|refine .lead _ (hF) ?_|refine .flat _ (hB) rfl ?_|refine .flat _ (hT) rfl ?_|(refine .av [0,1,2,3,6,7,8,9,10,11,17,23,29,41,70] hK ?_;clear hK K)|(with_reducible refine .done (hK _ ?_);clear hK K)|refine ae.of rfl ?_|(with_reducible refine aA.aD (fun h =>?_) (fun h =>?_) <;>try simp only[h])) <;>try simp only[aF,R,simprocAttr])
   all_goals clear R
   rfl
  ·have bG:b∈s.here:=of_decide_eq_true q4;rw[if_neg (by simpa using bG)];by_cases U:p.j.length=200
   ·have hw1:eS p ⟨3,b,to,(s.all.length:Int)+1⟩=(dm,2):=by simp[eS,U,dm]
    rw[hw1] at hW;simp only[if_pos U];have R:=y6 @hw (y6 @q3 (y6 @q4 (y6 @hlk (y6 @je (y6 @oL (y6 @iv (y6 @dY (y6 @ca (y6 @bl (y6 @bU (y6 @bw (y6 @bq aC))))))))))))
    repeat' ((first |(with_reducible refine .guard (fun hb =>?_) (fun hb =>?_) <;>try simp only[hb])|refine ae.aE (by decide +kernel) rfl fun K hK =>?_|refine .lead _ (hF) ?_|refine .flat _ (hB) rfl ?_|refine .flat _ (hT) rfl ?_|refine .lead _ (hW) ?_|(refine .av [0,1,2,3,6,7,8,9,10,11,17,23,29,41,70] hK ?_;clear hK K)|(with_reducible refine .done (hK _ ?_);clear hK K)|refine ae.of rfl ?_|(with_reducible refine aA.aD (fun h =>?_) (fun h =>?_) <;>try simp only[h])) <;>try simp only[aF,R,simprocAttr])
    all_goals clear R
    rfl
   ·have hw1:(eS p ⟨3,b,to,(s.all.length:Int)+1⟩).2=0:=by simp[eS,U]
    rw[hw1] at hW;simp only[if_neg U];have R:=y6 @hw (y6 @q3 (y6 @q4 (y6 @hlk (y6 @je (y6 @oL (y6 @iv (y6 @dY (y6 @ca (y6 @bl (y6 @bU (y6 @bw (y6 @bq aC))))))))))))
    repeat' ((first |(with_reducible refine .guard (fun hb =>?_) (fun hb =>?_) <;>try simp only[hb])|refine ae.aE (by decide +kernel) rfl fun K hK =>?_|refine .lead _ (hF) ?_|refine .flat _ (hB) rfl ?_|refine .flat _ (hT) rfl ?_|refine .lead _ (hW) ?_|(refine ae.pE (gs:=vL) [] [(3,[3]),(6,[6]),(7,[7]),(11,[11])] [0,1,2,3,4] (by decide +kernel) (cN.of (by simp[e9,cD,I.only])) fun K hK =>?_;simp only[eQ,vL,zy2,zy3,R,simprocAttr])|(refine .av [0,1,2,3,6,7,8,9,10,11,17,23,29,41,70] hK ?_;clear hK K)|(with_reducible refine .done (hK _ ?_);clear hK K)|refine ae.of rfl ?_|(with_reducible refine aA.aD (fun h =>?_) (fun h =>?_) <;>try simp only[h])) <;>try simp only[aF,R,simprocAttr])
    all_goals clear R
def jv(p:bx)(no:Int):bx×Int:=match da p with
 |none=>(dm,91)
 |some s=>match s.at no with
  |none=>(dm,94)
  |some i=>if (s.bV i).dj then (dm,94) else eS p ⟨4,(s.bV i).aK,(s.bV i).to,no⟩
theorem Ga(p:bx)(no:Int):bf Tryz.prog 33 [enc p,enc no] (.tuple [enc (jv p no).1,enc (jv p no).2]):=by
 refine bf.bZ Tryz.func33 It JB KW (u8 rfl) (fun hwf W0 bF E1 =>?_);simp only[y9,DR,bJ,zz1];clear hwf;have hF:=nl p;simp only[jv];cases ho:da p with
 |none =>
  rw[ho] at hF;simp only[iP] at hF;have R:=y6 @ca (y6 @bl (y6 @bU (y6 @bw (y6 @bq aC))))
  repeat' ((first |(with_reducible refine .guard (fun hb =>?_) (fun hb =>?_) <;>try simp only[hb])|refine ae.aE (by decide +kernel) rfl fun K hK =>?_|refine .lead _ (hF) ?_|(refine .av [0,1,2,4,5,6,7,8,9,16,35] hK ?_;clear hK K)|(with_reducible refine .done (hK _ ?_);clear hK K)|refine ae.of rfl ?_|(with_reducible refine aA.aD (fun h =>?_) (fun h =>?_) <;>try simp only[h])) <;>try simp only[aF,R,simprocAttr])
  all_goals clear R
  rfl
 |some s =>
  have hjl:=(ij ho).2.2.2.1;rw[ho] at hF;simp only[iP] at hF;have hlk:=sZ (s:=s) (fun i=>.ref (enc (s.bV i))) no
  dsimp only
  cases ha:s.at no with
  |none =>
   rw[ha] at hlk;simp only at hlk;have R:=y6 @hlk (y6 @dY (y6 @ca (y6 @bl (y6 @bU (y6 @bw (y6 @bq aC))))))
   repeat' ((first |(with_reducible refine .guard (fun hb =>?_) (fun hb =>?_) <;>try simp only[hb])|refine ae.aE (by decide +kernel) rfl fun K hK =>?_|refine .lead _ (hF) ?_|(refine .av [0,1,2,4,5,6,7,8,9,16,35] hK ?_;clear hK K)|(with_reducible refine .done (hK _ ?_);clear hK K)|refine ae.of rfl ?_|(with_reducible refine aA.aD (fun h =>?_) (fun h =>?_) <;>try simp only[h])) <;>try simp only[aF,R,simprocAttr])
   all_goals clear R
   rfl
  |some i =>
   rw[ha] at hlk;simp only at hlk;have hW:=pX p ⟨4,(s.bV i).aK,(s.bV i).to,no⟩ hjl;cases hc:(s.bV i).dj with
   |true =>
    have R:=y6 @hlk (y6 @hc (y6 @dY (y6 @ca (y6 @bl (y6 @bU (y6 @bw (y6 @bq aC)))))))
    repeat' ((first |(with_reducible refine .guard (fun hb =>?_) (fun hb =>?_) <;>try simp only[hb])|refine ae.aE (by decide +kernel) rfl fun K hK =>?_|refine .lead _ (hF) ?_|(refine .av [0,1,2,4,5,6,7,8,9,16,35] hK ?_;clear hK K)|(with_reducible refine .done (hK _ ?_);clear hK K)|refine ae.of rfl ?_|(with_reducible refine aA.aD (fun h =>?_) (fun h =>?_) <;>try simp only[h])) <;>try simp only[aF,R,simprocAttr])
    all_goals clear R
    rfl
   |false =>
    have R:=y6 @hlk (y6 @hc (y6 @dY (y6 @ca (y6 @bl (y6 @bU (y6 @bw (y6 @bq aC)))))))
    repeat' ((first |(with_reducible refine .guard (fun hb =>?_) (fun hb =>?_) <;>try simp only[hb])|refine ae.aE (by decide +kernel) rfl fun K hK =>?_|refine .lead _ (hF) ?_|refine .lead _ (hW) ?_|(refine .av [0,1,2,4,5,6,7,8,9,16,35] hK ?_;clear hK K)|(with_reducible refine .done (hK _ ?_);clear hK K)|refine ae.of rfl ?_|(with_reducible refine aA.aD (fun h =>?_) (fun h =>?_) <;>try simp only[h])) <;>try simp only[aF,R,simprocAttr])
    all_goals clear R
def km(k:Int):Int:=if k=1 then 7 else if k=2 then 5 else if k=3 then 8 else if k=4 then 6 else 0
theorem Xl(k:Int):fo (.i .i64) (.int .i64 0) (.int .i64 k) [.int .i64 1,.int .i64 2,.int .i64 3,.int .i64 4] [.int .i64 7,.int .i64 5,.int .i64 8,.int .i64 6]=some (.int .i64 (km k),decide (k=1∨k=2∨k=3∨k=4)):=by
 have h:=sY eN (.int .i64 0) k [1,2,3,4] [.int .i64 7,.int .i64 5,.int .i64 8,.int .i64 6];simp only[zz4,zx8,eF] at h;rw[h];by_cases J:k=1
 ·subst J;rfl
 by_cases U:k=2
 ·subst U;rfl
 by_cases ah:k=3
 ·subst ah;rfl
 by_cases ar:k=4
 ·subst ar;rfl
 simp[List.findIdx?_cons,J,U,ah,ar,km]
theorem GB(k:Int):bf Tryz.prog 80 [enc k] (enc (km k)):=by
 refine bf.bZ Tryz.func80 IX J2 Ln (u8 rfl) (fun hwf W0 bF E1 =>?_);simp only[zC,En,bJ];clear hwf;have hv:∀ k n,(I.int k n).bT=true:=fun _ _=>rfl;have ao:=Xl k;have R:=y6 @hv (y6 @ao (y6 @Cz (y6 @bU (y6 @bw (y6 @bq aC)))))
 repeat' ((first |refine ae.aE (by decide +kernel) rfl fun K hK =>?_|(refine .av [0,2] hK ?_;clear hK K)|(with_reducible refine .done (hK _ ?_);clear hK K)|refine ae.of rfl ?_|(with_reducible refine aA.aD (fun h =>?_) (fun h =>?_) <;>try simp only[h])) <;>try simp only[aF,R,simprocAttr])
 all_goals clear R
def gS(r:dB):bh:=⟨km r.kind,r.aK,r.c6,r.no⟩
def iG(p:bx)(r:dB):bx×Int:=match da p with
 |none=>(dm,91)
 |some s=>if lW r=false∨r.to≠p.aw then (dm,95) else match fS s (gS r) with
  |none=>(p,0)
  |some _=>eS p (gS r)
end Go.Proofs.YthbdbocionnfgaaGreatDoor
