/-
  A part of the proof that the law HerdTrue returns true for every input; conditions: none beyond the statement's own. (part 3 of 7)
-/
import Derived.RangeFuncIn
import Derived.Laws.Externs
import Derived.Test.YtcldiigclhgafaaGreatChecked
import Derived.KernelRfl
import Derived.Test.YtcldiigclhgafaaGreatNlb
set_option linter.unusedSimpArgs false
set_option linter.unusedVariables false
set_option maxHeartbeats 16000000
set_option maxRecDepth 100000
namespace Go.Abs
open Go Go.RowKit Go.ChangeShapes
open Enc (enc)
structure kP (P:Program) (t:TypeId) (α:Type) [Enc α] (B:α→Prop):Prop where
 cells:P.cellsOf t=Enc.sz α
 qL:0<Enc.sz α
 lD:∀ {H:Type} {enc0:TypeId×Value→H} {w:World} {fuel:Nat} {cs:List Value} {x:DataW H×List MemPlace},DataW.trod enc0 P w 0 (fun _=>true) true fuel t cs=some x→(∀ k∈x.1.weights P t,k≤reachBytes)→∃ a:α,B a∧af w (mL w) dL (enc a) cs
theorem pY.KB{P:Program}{t:TypeId}{α:Type}[Enc α](h:pY P t α):kP P t α fun _=>True:=⟨h.cells,h.qL,fun hx _=>by
 obtain ⟨a,ha⟩:=h.lD hx;exact ⟨a,trivial,ha⟩⟩
theorem NV{H:Type}{P:Program}{e:TypeId} : ∀ {l:List (DataW H)} {d:DataW H},d∈l→∀ n∈d.weights P e,n∈DataW.weightsAll P e l
 |d'::r,d,hd,n,hn=>by
  simp only[DataW.weightsAll,zy7];rcases zw9.1 hd with rfl | h
  ·exact .inl hn
  ·exact .inr (NV h n hn)
theorem KC{P:Program}{t e:TypeId}{α:Type}[Enc α]{B:α→Prop}(ht:P.underlying t=some (.slice e))(he:kP P e α B)(hc:P.cellsOf t=1):kP P t (List α) fun l=>(∀ a∈l,B a)∧l.length*P.bytesOf e≤reachBytes :=
 ⟨hc,by rw[r2];exact Nat.one_pos,fun {H enc0 w fuel cs x} h hwt=>by
  rcases DataW.trod_slice ht h with ⟨rfl,_⟩ | ⟨a,len,cap,elems,rest,n,_,rfl,hxx,hb,hl,hm,hlen,hel,_⟩
  ·refine ⟨[],⟨by simp,by simp⟩,?_⟩;simp only[gE,zx2];rw[af];exact ⟨none,0,rfl,zz6 _,by decide,.inl rfl,by simp⟩
  ·have hw1:∀ y∈elems,∀ k∈y.1.weights P e,k≤reachBytes:=fun y hy k hk=>by
    refine hwt k ?_;rw[hxx];simp only[DataW.weights,ht,zw9,zy7];exact .inr (.inl (NV (zx5.2 ⟨y,hy,rfl⟩) k hk))
   have hw2:len*P.bytesOf e≤reachBytes:=by
    have:=hwt ((elems.length+rest.length)*P.bytesOf e) (by rw[hxx];simp[DataW.weights,ht]);have h3:elems.length*P.bytesOf e≤(elems.length+rest.length)*P.bytesOf e:=Nat.mul_le_mul_right _ (by omega);rw[←hlen];omega
   have key:∀ k,k≤len→∃ (l:List α) (cs':List Value),l.length=k∧aG w (mL w) dL (l.map enc) cs'∧cs'.length=k*Enc.sz α∧(∀ j v,cs'[j]?=some v→w.cell? (a.add j)=some v)∧∀ b∈l,B b:=by
    intro k
    induction k with
    |zero=>exact fun _=>⟨[],[],rfl,by simp[aG],by simp,by simp,by simp⟩
    |succ k ih =>
     intro hk;obtain ⟨l,cs',h1,h2,h3,h4,hB⟩:=ih (by omega);have h5:=hel k (by omega);have h6:k<elems.length:=by omega
     rw[zz8 h6] at h5;obtain ⟨ce,h7,h8⟩:=Option.bind_eq_some_iff.1 h5;obtain ⟨y,hyB,hy⟩:=he.lD h8 (hw1 _ (zy6 h6));rw[he.cells] at h7;obtain ⟨_,h9,h10⟩:=World.cells?_some h7;refine ⟨l++[y],cs'++ce,by simp[h1],?_,by rw[zz5,h3,h9,Nat.succ_mul],fun j v hj =>?_,fun b hb=>(zy7.1 hb).elim (hB b) fun h=>by rw[List.mem_singleton.1 h];exact hyB⟩
     ·rw[zx6];refine j9 _ _ _ _ h2 ?_;simp only[zz9,zx2,aG];exact ⟨ce,[],by simp,hy,rfl⟩
     ·rcases Nat.lt_or_ge j cs'.length with hlt | hge
      ·rw[zx1 hlt] at hj;exact h4 j v hj
      ·rw[zx9 hge] at hj;have hlt:j-cs'.length<Enc.sz α:=by
        have:=(zy4.1 hj).1;omega
       have:=h10 (j-cs'.length) hlt;rw[PD,←h3,Nat.add_sub_cancel' hge] at this;rw[this];exact hj
   obtain ⟨l,cs',h1,h2,h3,h4,hB⟩:=key len (zz6 _);refine ⟨l,⟨hB,by rw[h1];exact hw2⟩,?_⟩;simp only[gE,af,zy1];refine ⟨some a,cap,by rw[h1],by omega,hm,?_,PK l⟩;by_cases hz:len=0
   ·left;have:l=[]:=zv1.1 (by omega);rw[this];rfl
   right
   have hpos:0<cs'.length:=by rw[h3];exact Nat.mul_pos (Nat.pos_of_ne_zero hz) he.qL
   have h0:=h4 0 cs'[0] (zz8 hpos);have hsp:a.spot=none:=by
    simp only[Addr.add,if_true] at h0;unfold World.cell? at h0;split at h0
    ·split at h0
     ·cases h0
     ·rename_i hs;cases hh:a.spot <;>simp_all
    ·cases h0
   have ha:∀ j,a.add j=⟨a.block,a.off+j,none⟩:=fun j=>by
    unfold Addr.add;split
    ·rename_i hj;subst hj;cases a;simp_all
    ·rfl
   refine ⟨a.block,a.off,cs',by cases a;simp_all,fun j v hj =>?_,h2⟩;have h5:=h4 j v hj;rw[ha] at h5;refine ⟨h5,?_⟩
   show (⟨a.block,a.off+j,none⟩:Addr).block<_
   exact World.block_lt_of_cell? w _ h5⟩
theorem aiJ{H:Type}{enc0:TypeId×Value→H}{P:Program}{w:World}{fuel:Nat}{t:TypeId}{l:List (TypeId×Nat)}{cs:List Value}{x:DataW H×List MemPlace}(ht:sE P t l=true)(h:DataW.trod enc0 P w 0 (fun _=>true) true fuel t cs=some x)(hwt:∀ k∈x.1.weights P t,k≤reachBytes) :
  cs.length=P.cellsOf t∧∃ m:Nat,∀ (i:Nat) (ao:TypeId) (o:Nat),l[i]?=some (ao,o)→∃ y,DataW.trod enc0 P w 0 (fun _=>true) true m ao ((cs.drop o).take (P.cellsOf ao))=some y∧∀ k∈y.1.weights P ao,k≤reachBytes:=by
 obtain ⟨fs,h1,h2⟩:=ae6 ht;obtain ⟨xs,m,_,hx,h3,h4,h5⟩:=DataW.trod_struct h1 h;refine ⟨h3,m,fun i ao o hi =>?_⟩;rw[←h2] at hi;simp only[zx7,zz0,Prod.mk.injEq] at hi;obtain ⟨f,hf,rfl,rfl⟩:=hi;have hf':fs[i]?=some f:=by simpa using hf
 have h6:=h5 i f hf';have hlt:i<fs.size:=(zx8.1 hf').1;rw[zz8 (by omega)] at h6;refine ⟨_,h6,fun k hk=>hwt k ?_⟩;rw[hx];simp only[DataW.weights,h1];refine DataW.weights_mem_each (j:=i) ?_ ?_ k hk
 ·rw[zx7,hf];rfl
 ·rw[zx7,zz8 (by omega)];rfl
theorem ahh{P:Program}{t:TypeId}{α β γ:Type}[Enc α][Enc β][Enc γ]{A:α→Prop}{B:β→Prop}{C:γ→Prop}{H:Type}{enc0:TypeId×Value→H}{w:World}{fuel:Nat}{cs:List Value}{x:DataW H×List MemPlace}{u0 u1 u2:TypeId}(ht:sE P t [(u0,0),(u1,Enc.sz α),(u2,Enc.sz α+Enc.sz β)]=true)(h0:kP P u0 α A)(h1:kP P u1 β B)(h2:kP P u2 γ C)(hc:P.cellsOf t=Enc.sz α+Enc.sz β+Enc.sz γ)
  (h:DataW.trod enc0 P w 0 (fun _=>true) true fuel t cs=some x) (hwt:∀ k∈x.1.weights P t,k≤reachBytes):∃ (a:α) (b:β) (c:γ),(A a∧B b∧C c)∧af w (mL w) dL (.agg [enc a,enc b,enc c]) cs:=by
 obtain ⟨hl,m,hf⟩:=aiJ ht h hwt;obtain ⟨y0,k0,z0⟩:=hf 0 u0 0 rfl;obtain ⟨y1,k1,z1⟩:=hf 1 u1 (Enc.sz α) rfl;obtain ⟨y2,k2,z2⟩:=hf 2 u2 (Enc.sz α+Enc.sz β) rfl;obtain ⟨a,ha0,ha⟩:=h0.lD k0 z0;obtain ⟨b,hb0,hb⟩:=h1.lD k1 z1;obtain ⟨c,hc0,hcc⟩:=h2.lD k2 z2;rw[h0.cells,List.drop_zero] at ha;rw[h1.cells] at hb;rw[h2.cells,zw6 (by rw[zx0];omega)] at hcc;refine ⟨a,b,c,⟨ha0,hb0,hc0⟩,?_⟩;simp only[af,aG];refine ⟨_,_,(zy9 (Enc.sz α) cs).symm,ha,(cs.drop (Enc.sz α)).take (Enc.sz β),(cs.drop (Enc.sz α)).drop (Enc.sz β),(zy9 _ _).symm,hb,(cs.drop (Enc.sz α)).drop (Enc.sz β),[],by simp,?_,rfl⟩;rw[List.drop_drop];exact hcc
theorem ahi{P:Program}{t:TypeId}{α:Type}[Enc α]{B:α→Prop}{H:Type}{enc0:TypeId×Value→H}{w:World}{base:Nat}{v:Value}{d:DataW H}{p:List MemPlace}(ho:kP P t α B)(hA:Enc.fI α=true)(hst:(match P.underlying t with | some (.struct _) | some (.array _ _)=>true | _=>false)=true)(hv:Value.okWide P w .any base t v)
  (h:DataW.Trod enc0 P w 0 (fun _=>true) true t v d p) (hwt:∀ k∈d.weights P t,k≤reachBytes):∃ (a:α),B a∧∃ (cs:List Value),bG (enc a) v cs∧af w (mL w) dL (enc a) cs:=by
 obtain ⟨fuel,h⟩:=h;have hagg:∃ cs,v=.agg cs:=by
  unfold Value.okWide at hv;split at hst
  ·rename_i fs ht;rw[ht] at hv;obtain ⟨cs,h1,_⟩:=hv;exact ⟨cs,h1⟩
  ·rename_i n e ht;rw[ht] at hv;obtain ⟨cs,h1,_⟩:=hv;exact ⟨cs,h1⟩
  ·cases hst
 obtain ⟨cs,rfl⟩:=hagg;have e:(Value.agg cs).cells.toList=cs.toList:=rfl;rw[e] at h;obtain ⟨a,hB,ha⟩:=ho.lD h hwt;exact ⟨a,hB,cs.toList,by simp[bG,Enc.agg,hA],ha⟩
theorem afr{P:Program}{f:FuncId}{fn:Func}{s:ChangeSpec}{H:Type}{enc0:TypeId×Value→H}{W:World}{ds gs:List (DataW H)}{before:List MemPlace}{xs:List I}{tb:TypeId}{v0 v1:Value}{t0 t1:TypeId}{d0 d1:DataW H}{p0 p1:List MemPlace}{again handsOn jU:Bool}
  (hl:laidOutB P=true) (hpar:fn.params.toList=[t0,t1]) (hds:ds=[d0,d1]) (hgs:gs=[]) (hbef:before=p0++p1)
  (hvars:s.vars=[]) (hfn:s.fn H [d0,d1] = { results:=[.lit (.bool true)],args:=[d0,d1] }) (hres:fn.resultTypes = #[tb]) (htb:P.underlying tb=some .bool)
  (hW:DataW.Whole enc0 P fn.params.toList s.vars false W #[v0,v1].toList ds gs before)
  (h0:DataW.Trod enc0 P W 0 (fun _=>true) true t0 v0 d0 p0) (h1:DataW.Trod enc0 P W 0 (fun _=>true) true t1 v1 d1 p1)
  (hr:∀ t∈[t0,t1],P.readableRec t=true∧t<P.types.size)
  (hctr:aC P f xs (enc true)) (hv:aE W (mL W) dL xs [v0,v1]) :
  Calls P f #[v0,v1] W fun e W'=>∃ v,e=.returned v∧s.post enc0 P fn false jU handsOn again W #[v0,v1] v W':=by
 subst hds hgs;refine (hctr.2 W (mL W) [v0,v1] (fun _ _ h=>h) hv).mono fun e W' ⟨v,D',he,hrv,hb,_,_⟩=>⟨v,he,?_⟩
 have hvb:v=.bool true:=lK hrv;subst hvb;have hlt:∀ x∈before,x.block<W.heap.size:=fun x hx=>by simpa using hW.lt x hx
 rw[hbef] at hlt;refine ahv (pa:=p0++(p1++[])) (pv:=[]) hW (fun _ _ _ =>?_) (fun sp hsp =>?_) (fun _ _ =>?_) (by rw[hbef];simp) hb ?_
 ·simp only[zw1,hfn,hres];exact trodAll_mk1 (shut_bool htb true)
 ·simp only[zw1,hfn,hpar];rw[hbef] at hsp;have bB:∀ {t:TypeId} {v:Value} {d:DataW H} {p:List MemPlace},t∈[t0,t1]→DataW.Trod enc0 P W 0 (fun _=>true) true t v d p→(∀ x∈p,x∈p0++p1)→DataW.Trod enc0 P W' 0 sp true t v d p:=fun ht h hp =>
   WideElems.Trod_stays hl (hr _ ht).1 (hr _ ht).2 h (fun x hx=>hb.same (hlt x (hp x hx))) (fun x hx=>hsp x (hp x hx))
  exact trodAll_mk2 (bB (by simp) h0 fun x hx=>by simp[hx]) (bB (by simp) h1 fun x hx=>by simp[hx])
 ·simp only[zw1,hfn,hvars];rfl
 ·intro j t r hj hv';rw[hres] at hj hv'
  match j,hj,hv' with
  |0,hj,hv' =>
   simp[Value.resultList] at hj hv';subst hj;subst hv';simp[Value.okWide,htb,Cell.okWide,Cell.ok]
end Go.Abs
namespace Go.Abs
open Go Go.RowKit
open Enc (enc)
theorem MF{w:World}{D:aL}{E:aT}{p:List Nat}{c x y:I}{cs:List Value}(hr:af w D E c cs)(h:c.at p=some x)(hxy:∀ ds,af w D E x ds→af w D E y ds)(hs:y.aJ=x.aJ):af w D E (c.dx p y) cs∧(c.dx p y).aJ=c.aJ:=by
 obtain ⟨off,c1,c2,c3,h1,rfl,h2,h3⟩:=x1 p c x cs hr h;obtain ⟨off',k1,k2,k3,k4⟩:=tq p c x y _ c2 hr h (hxy c2 h3) hs;rw[h1,u8] at k1;subst k1;refine ⟨?_,k4⟩;have e:(c1++c2++c3).take off++c2++(c1++c2++c3).drop (off+c2.length)=c1++c2++c3:=by
  rw[zz3 c1 c2 c3,←h2,List.take_left,List.drop_length_add_append,List.drop_left,zz3]
 rw[←e];exact k3
theorem aF.PG{A:ae}{m n T sz z:Nat}{p:List Nat}{b:I}(hm:A.o m=some (.box b))(hp:b.at p=some (.nils z))(hn:A.o n=none)(hlt:n<1000000):aF A ((A.aN n (.bT T sz [])).aN m (.box (b.dx p (.own n 0)))):=by
 rintro c a w ⟨D,E,h⟩;have av:E n=none:=by have:=h.bU n;rw[hn] at this;exact this
 have hmn:m≠n:=fun e=>by rw[e,hn] at hm;cases hm
 have hl:dG w D E w D (fun m=>if m=n then some (.rw none 0) else E m):=by
  have ee:∀ {m:Nat} {e:bS},E m=some e→(if m=n then some (.rw none 0) else E m)=some e:=fun {m e} he=>by
   have:m≠n:=fun e=>by rw[e,av] at he;cases he
   rw[if_neg this];exact he
  refine ⟨fun _ _ h=>h,fun _ _ _ _ h=>h,fun m b aJ he=>ee he,fun m aD l he =>?_,fun m b he=>ee he,fun m b he=>ee he,fun _ _ _ _ h=>h⟩
  ·have:m≠n:=fun e=>by rw[e,av] at he;cases he
   exact ⟨aD,l,by simp only[if_neg this];exact he,zz6 _,fun _=>rfl⟩
 refine ⟨D,fun m=>if m=n then some (.rw none 0) else E m,h.sz,h.eF,fun t=>aS.bE hl (h.ea t),h.dK,h.cV,h.c9,fun k =>?_,fun m m' e e' b h1 h2 h3 h4 =>?_,fun m e hm =>?_,h.eO,h.cG,h.eS,h.fq⟩
 ·simp only[ae.aN];by_cases hk:k=m
  ·subst hk;have ho:=h.bU k;rw[hm] at ho;obtain ⟨b',cs,T',h1,h2,h3,h4,h5⟩:=ho;obtain ⟨q1,q2⟩:=MF (y:=.own n 0) (af.bE hl _ _ h4) hp (fun ds hd=>by
    simp only[af] at hd;subst hd;simp only[af,if_true];exact ⟨none,0,rfl,zz6 _,⟨_,_,_,rfl⟩,fun _=>trivial⟩) rfl
   simp only[if_true,cY];exact ⟨b',cs,T',by rw[q2];simp only[if_neg hmn];exact h1,h2,h3,q1,h5⟩
  ·simp only[if_neg hk];by_cases hkn:k=n
   ·subst hkn;simp only[if_true,cY];exact ⟨none,by simp,by simp,trivial⟩
   ·simp only[if_neg hkn];exact (h.bU k).bE hl (by simp only[if_neg hkn]) fun _ _ _ _=>⟨rfl,fun _ ho=>ho⟩
 ·by_cases hm:m=n <;>by_cases hm':m'=n
  ·rw[hm,hm']
  ·simp only[if_pos hm,u8] at h1;subst h1;simp[bS.aD] at h3
  ·simp only[if_pos hm',u8] at h2;subst h2;simp[bS.aD] at h4
  ·simp only[if_neg hm] at h1;simp only[if_neg hm'] at h2;exact h.cM m m' e e' b h1 h2 h3 h4
 ·have hmn:m≠n:=fun e=>by rw[e,h.jU (.inr hlt)] at hm;cases hm
  simp only[if_neg hmn];exact h.dQ m e hm
theorem aF.zj{ts:List (Nat×I)}{os:List (Nat×ah)}(m n T sz z:Nat)(p:List Nat)(b:I)(hm:aj os m=some (.box b))(hp:b.at p=some (.nils z))(hn:aj os n=none){B:ae}(h:aF (ar ts ((m,.box (b.dx p (.own n 0)))::(n,.bT T sz [])::os)) B)(hlt:n<1000000:=by decide):aF (ar ts os) B :=
 ((aF.PG (A:=ar ts os) (T:=T) (sz:=sz) hm hp hn hlt).trans (by rw[nV,nV];exact aF.refl _)).trans h
mutual
theorem iN{p q:Nat→Bool}(h:∀ n,p n=true→q n=true):∀ x:I,x.only p=true→x.only q=true
 | .agg fs,hx | .tuple fs,hx=>by simp only[I.only] at *;exact ik h fs hx
 | .slice _ es,hx=>by simp only[I.only] at *;exact ik h es hx
 | .ref x,hx=>by simp only[I.only] at *;exact iN h x hx
 | .func _ caps,hx=>by simp only[I.only] at *;exact ik h caps hx
 | .iface _ v,hx=>by simp only[I.only] at *;exact iN h v hx
 | .ptr _ _,hx | .own _ _,hx | .view _ _ _ _ _,hx | .mref _,hx | .dj _,hx=>by simp only[I.only] at *;exact h _ hx
 | .cL ks vs,hx=>by simp only[I.only,zz2] at *;exact ⟨ik h ks hx.1,ik h vs hx.2⟩
 | .bool _,_ | .int _ _,_ | .cQ _,_ | .nilp,_ | .da,_ | .dN,_ | .raw _,_ | .nils _,_ | .c0 _,_ | .undef,_ | .c8,_=>by simp[I.only]
theorem ik{p q:Nat→Bool}(h:∀ n,p n=true→q n=true):∀ xs:List I,I.b8 p xs=true→I.b8 q xs=true
 | [],_=>rfl
 |x::xs,hx=>by
  simp only[I.b8,zz2] at *;exact ⟨iN h x hx.1,ik h xs hx.2⟩
end
theorem ah.iN{p q:Nat→Bool}(h:∀ n,p n=true→q n=true)(x:ah)(hx:x.only p=true):x.only q=true:=by
 cases x with
 |box y=>simp only[ah.only] at *;exact Abs.iN h y hx
 |bT T sz es=>simp only[ah.only] at *;exact ik h es hx
 |dD o=>rfl
 |cO T xs=>rfl
 |cq ks vs=>simp only[ah.only,zz2] at *;exact ⟨ik h ks hx.1,ik h vs hx.2⟩
 |it ks vs left cur=>simp only[ah.only,zz2] at *;exact ⟨ik h ks hx.1,ik h vs hx.2⟩
theorem JA{x:I}(h:x.bp=true):x.cd=true:=by
 cases x <;>first | rfl | simp[I.bp] at h
theorem ur{aB:Bool}{A0:ae}{ρ:List (Nat×Nat)}{os:List (Nat×ah)} : ∀ xs:List I,I.bW xs=true→jc aB A0 ρ os xs xs
 | [],_=>trivial
 |x::xs,h=>by
  simp only[I.bW,zz2] at h;exact ⟨.inl ⟨(qQ _ x h.1).symm,mj _ x h.1,JA h.1⟩,ur xs h.2⟩
structure fh (os os':List (Nat×ah)):Prop where
 same:∀ m,aq os' m=aq os m
 ok:∀ m x,aj os' m=some x→x.only (aq os')=true∧x.eH=true
 nL:∀ m,aq os m=true→1000000≤m
def uh(P:Program)(g:FuncId)(caps:List I)(N:Nat)(item:Nat→List I):Prop :=
 ∀ (Y:Value→List I→List (Nat×ah)→cR→Prop) (v:Value) (ai:Nat→List (Nat×ah)→Prop) (Ix:List (Nat×ah)→Prop) (os:List (Nat×ah)),v.oneCell'=true →
  (∀ k os' post,k<N→ai k os'→(∀ r os2,(r=.bool true∧ai (k+1) os2)∨(r=.bool false∧Ix os2)→post r os2)→Y v (item k) os' post) →
  (∀ k os',ai k os'→fh os os')→(∀ os',Ix os'→fh os os')→ai 0 os→ke P g Y (.raw v::caps) os (fun r os'=>r=.tuple []∧(ai N os'∨Ix os'))
def dy(o:Obj)(os:List (Nat×ah)):List (Nat×ah):=(1999999,.dD o)::os
theorem lz(o:Obj)(os:List (Nat×ah))(m:Nat):aq (dy o os) m=(decide (m=1999999)||aq os m):=by
 simp only[dy,aq,aj];by_cases h:m=1999999 <;>simp[h]
theorem pd(o:Obj)(os:List (Nat×ah))(m:Nat):aj (dy o os) m=if m=1999999 then some (.dD o) else aj os m:=rfl
theorem fh.dy{os os':List (Nat×ah)}(h:fh os os')(o o':Obj):fh (dy o os) (dy o' os'):=by
 refine ⟨fun m=>by rw[lz,lz,h.same],fun m x hx =>?_,fun m hm =>?_⟩
 ·rw[pd] at hx;split at hx
  ·cases hx;exact ⟨rfl,rfl⟩
  ·obtain ⟨h1,h2⟩:=h.ok m x hx;exact ⟨x.iN (fun n hn=>by rw[lz,hn];simp) h1,h2⟩
 ·rw[lz] at hm;simp only[Bool.or_eq_true,decide_eq_true_eq] at hm;rcases hm with rfl | hm
  ·decide
  ·exact h.nL m hm
def qN:List Nat→List I→List (Nat×I)→List (Nat×I)
 |p::ps,v::vs,ts=>qN ps vs ((p,v)::ts)
 |_,_,ts=>ts
def mF(ρ:List (Nat×Nat))(p:Nat→Bool)(ts:List (Nat×I)):List (Nat×I)→Prop
 | []=>True
 |(k,v)::r=>b9 ts k=v.aO (bD ρ)∧v.only p=true∧mF ρ p ts r
theorem Nj{ρ:List (Nat×Nat)}{p:Nat→Bool}{ts:List (Nat×I)} : ∀ {tsR:List (Nat×I)},mF ρ p ts tsR→∀ k,b9 tsR k=.c8∨(b9 ts k=(b9 tsR k).aO (bD ρ)∧(b9 tsR k).only p=true)
 | [],_,k=>.inl rfl
 |(j,v)::r,h,k=>by
  simp only[mF] at h;simp only[b9];split
  ·rename_i hk;subst hk;exact .inr ⟨h.1,h.2.1⟩
  ·exact Nj h.2.2 k
section
variable {c:cI} {a:Act} {w:World} {D:aL} {E:aT}
theorem aP.yk{A:ae}(h:aP c A a w D E){n b:Nat}{o o':Obj}(hn:A.o n=some (.dD o))(av:E n=some (.op b))(ho:o9 o'=true):aP c (A.aN n (.dD o')) a (w.putObj b o') D E:=by
 have hob:=h.bU n;rw[hn] at hob;obtain ⟨b',k1,k2,k3,k4,k5⟩:=hob;rw[av] at k1;cases k1;have hnc:o.isCells=false:=by cases o <;>first | rfl | cases k4
 have hlt:b<w.heap.size:=fH k3;have hl:dG w D E (w.putObj b o') D E:=⟨fun _ _ h=>h,fun b1 o1 v _ hv=>uI k3 hnc hv,fun _ _ _ h=>h,fun _ aD l h=>⟨aD,l,h,zz6 _,fun _=>rfl⟩,fun _ _ h=>h,fun _ _ h=>h,fun b1 es ck hd hm=>(World.putObj_heap_other (fun e1=>k5 0 (by rw[←e1];exact hd))).trans hm⟩
 refine ⟨h.sz,h.eF.mono fun B _ hB=>(World.putObj_heap_other (fun e=>by rw[e,k3] at hB;cases hB;cases k4)).trans hB,fun t=>aS.bE hl (h.ea t),h.dK.trans ⟨rfl,rfl,rfl,by simp,fun k hk=>World.putObj_heap_other (fun e=>hk (e▸k2))⟩,h.cV,
  fun b1 o1 hd=>by have:=h.c9 b1 o1 hd;simpa using this,fun m =>?_,h.cM,h.dQ,h.eO,h.cG,h.eS,h.kL hl⟩
 simp only[ae.aN];by_cases hm:m=n
 ·subst hm;simp only[if_true,cY];exact ⟨b,av,k2,World.putObj_heap_same hlt,ho,k5⟩
 ·simp only[if_neg hm];exact (h.bU m).bE hl rfl fun e b1 he hb=>⟨World.putObj_heap_other (fun e1=>hm (h.cM m n e _ b1 he av hb (by rw[e1];rfl))),fun _ ho=>ho⟩
theorem aP.XD{A:ae}(h:aP c A a w D E){n b:Nat}(av:E n=some (.op b)):aP c ⟨A.t,fun m=>if m=n then none else A.o m⟩ a w D (fun m=>if m=n then none else E m):=by
 have hne:∀ {m:Nat} {e:bS},E m=some e→(∀ b,e≠.op b)→m≠n:=fun he h2 e'=>by
  subst e';rw[av] at he;cases he;exact h2 _ rfl
 have hl:dG w D E w D (fun m=>if m=n then none else E m):=by
  refine ⟨fun _ _ h=>h,fun _ _ _ _ h=>h,fun m b aJ he =>?_,fun m aD l he=>⟨aD,l,?_,zz6 _,fun _=>rfl⟩,fun m b he =>?_,fun m b he =>?_,fun _ _ _ _ h=>h⟩
  ·simp only[if_neg (hne he (fun b=>by simp))];exact he
  ·simp only[if_neg (hne he (fun b=>by simp))];exact he
  ·simp only[if_neg (hne he (fun b=>by simp))];exact he
  ·simp only[if_neg (hne he (fun b=>by simp))];exact he
 refine ⟨h.sz,h.eF,fun t=>aS.bE hl (h.ea t),h.dK,h.cV,h.c9,fun m =>?_,fun m m' e e' b h1 h2 h3 h4 =>?_,fun m e hm =>?_,h.eO,h.cG,h.eS,h.fq⟩
 ·by_cases hm:m=n
  ·simp only[hm,if_true,cY]
  ·simp only[if_neg hm];exact (h.bU m).bE hl (by simp only[if_neg hm]) fun _ _ _ _=>⟨rfl,fun _ ho=>ho⟩
 ·split at h1
  ·cases h1
  ·split at h2
   ·cases h2
   ·exact h.cM m m' e e' b h1 h2 h3 h4
 ·by_cases hmn:m=n
  ·left;simp only[hmn,if_true]
  ·simp only[if_neg hmn];exact h.dQ m e hm
theorem aP.enter{ts:List (Nat×I)}{os0:List (Nat×ah)}(h:aP c (ar ts os0) a w D E)(hfree:aj os0 999999=none)(hE0:c.dL 999999=none){o:Obj}(ho:o9 o=true) :
  ∃ E1,aP c (ar ts ((999999,.dD o)::os0)) { a with defers := { target:=.collected w.heap.size,args := #[] } :: a.defers } ((w.alloc (.deferred (some []))).alloc o) D E1∧E1 999999=some (.op (w.heap.size+1))∧∀ xs vs,aE w D E xs vs→aE ((w.alloc (.deferred (some []))).alloc o) D E1 xs vs:=by
 have hb:Below w.heap.size w ((w.alloc (.deferred (some []))).alloc o):=((Below.refl _ w).alloc (zz6 _) _).alloc (by simp) _;have h1:=h.grow (D':=D) hb (fun _ _ h=>h) (fun _ _ h _=>h) (fun b o' hd=>by have:=h.c9 b o' hd;simp;omega);obtain ⟨W,hW⟩:∃ W,W=(w.alloc (.deferred (some []))).alloc o:=⟨_,rfl⟩
 have hL:W.heap[w.heap.size+1]?=some o:=by
  rw[hW];have:=World.alloc_heap_new (w.alloc (.deferred (some []))) o;rwa [World.size_alloc] at this
 have hK:W.heap[w.heap.size]?=some (.deferred (some [])):=by
  rw[hW];exact (Below.heap_alloc _ _ _ (by simp)).trans (World.alloc_heap_new w _)
 rw[←hW] at h1 hb ⊢;have hEn:E 999999=none:=by have:=h.bU 999999;simp only[ar,hfree] at this;exact this
 have hl:dG W D E W D (fun m=>if m=999999 then some (.op (w.heap.size+1)) else E m):=by
  refine ⟨fun _ _ h=>h,fun _ _ _ _ h=>h,fun m b aJ he =>?_,fun m aD l he=>⟨aD,l,?_,zz6 _,fun _=>rfl⟩,fun m b he =>?_,fun m b he =>?_,fun _ _ _ _ h=>h⟩
  all_goals
   have:m≠999999:=fun e=>by rw[e,hEn] at he;cases he
   simp only[if_neg this];exact he
 have hsz:c.eR.heap.size≤w.heap.size:=h.dK.size;have nb:∀ {m:Nat} {e:bS} {b:Nat},E m=some e→e.aD=some b→b<w.heap.size:=fun he hb'=>h.fG he hb';refine ⟨fun m=>if m=999999 then some (.op (w.heap.size+1)) else E m,⟨h1.sz,?_,fun t=>aS.bE hl (h1.ea t),h1.dK,h1.cV,h1.c9,fun m =>?_,fun m m' e e' b g1 g2 g3 g4 =>?_,fun m e hm =>?_,h1.eO,h1.cG,h1.eS,h1.fq⟩,by simp,fun xs vs hx=>aE.bE hl xs vs (aE.bE (dG.grow hb fun _ _ h=>h) xs vs hx)⟩
 ·obtain ⟨Bs,k1,k2,k3⟩:=h1.eF;refine ⟨w.heap.size::Bs,by simp only[zz9];rw[←k1],List.nodup_cons.2 ⟨fun hin =>?_,k2⟩,fun B hB =>?_⟩
  ·obtain ⟨Bs',j1,_,j3⟩:=h.eF;have e1:Bs=Bs':=by
    have:Bs.map (fun B=>({ target:=.collected B,args := #[] } : Deferred))=Bs'.map (fun B => { target:=.collected B,args := #[] }):=by rw[←k1,←j1]
    exact (List.map_inj_right (fun x y hxy=>by simpa using hxy)).1 this
   rw[e1] at hin;have:=fH (j3 _ hin).2;omega
  ·rcases zw9.1 hB with rfl | hB
   ·exact ⟨hsz,hK⟩
   ·exact k3 B hB
 ·simp only[ar,aj];by_cases hm:m=999999
  ·subst hm;simp only[if_true,cY];exact ⟨_,rfl,.inl (by omega),hL,ho,fun o' hd=>by have:=h.c9 _ o' hd;omega⟩
  ·simp only[if_neg hm];exact (h1.bU m).bE hl (by simp only[if_neg hm]) fun _ _ _ _=>⟨rfl,fun _ ho=>ho⟩
 ·by_cases hm:m=999999 <;>by_cases hm':m'=999999
  ·rw[hm,hm']
  ·simp only[if_pos hm,u8] at g1;simp only[if_neg hm'] at g2;subst g1;simp only[bS.aD,u8] at g3;have:=nb g2 g4;omega
  ·simp only[if_neg hm] at g1;simp only[if_pos hm',u8] at g2;subst g2;simp only[bS.aD,u8] at g4;have:=nb g1 g3;omega
  ·simp only[if_neg hm] at g1;simp only[if_neg hm'] at g2;exact h.cM m m' e e' b g1 g2 g3 g4
 ·have hmn:m≠999999:=fun e=>by rw[e,hE0] at hm;cases hm
  simp only[if_neg hmn];exact h.dQ m e hm
theorem cY.me{M M':Nat→Prop}{n:Nat}{x:Option ah}(h:cY M w D E n x)(hM:∀ e b,E n=some e→e.aD=some b→M' b):cY M' w D E n x:=by
 unfold cY at *;split
 ·exact h
 ·obtain ⟨b,cs,T,h1,_,h3⟩:=h;exact ⟨b,cs,T,h1,hM _ b h1 rfl,h3⟩
 ·obtain ⟨aD,h1,h2,h3⟩:=h;refine ⟨aD,h1,h2,?_⟩;split
  ·exact h3
  ·obtain ⟨cs,pre,rest,_,h4⟩:=h3;exact ⟨cs,pre,rest,hM _ _ h1 rfl,h4⟩
 ·obtain ⟨b,h1,_,h3⟩:=h;exact ⟨b,h1,hM _ b h1 rfl,h3⟩
 ·obtain ⟨b,es,ck,h1,_,h3⟩:=h;exact ⟨b,es,ck,h1,hM _ b h1 rfl,h3⟩
 ·obtain ⟨r,b,es,ck,si,se,la,h1,_,h3⟩:=h;exact ⟨r,b,es,ck,si,se,la,h1,hM _ r h1 rfl,h3⟩
 ·obtain ⟨aD,h1,h2,h3⟩:=h;refine ⟨aD,h1,h2,?_⟩;split
  ·exact h3
  ·obtain ⟨cs,m,_,h4⟩:=h3;exact ⟨cs,m,hM _ _ h1 rfl,h4⟩
theorem aP.KT{os:List (Nat×ah)} : ∀ (ps:List Nat) (vs:List Value) (xs:List I) (ts:List (Nat×I)) (a:Act),aP c (ar ts os) a w D E→(∀ p∈ps,p<c.n)→aE w D E xs vs→ps.length=vs.length →
  aP c (ar (qN ps xs ts) os) { a with tmps:=(ps.zip vs).foldl (fun t q=>t.setIfInBounds q.1 q.2) a.tmps } w D E
 | [],[],xs,ts,a,h,_,hv,_=>by
  cases xs with
  |nil=>exact h
  |cons x xs=>simp[aE] at hv
 | [],_::_,_,_,_,_,_,_,hl=>by simp at hl
 |_::_,[],_,_,_,_,_,_,hl=>by simp at hl
 |p::ps,v::vs,xs,ts,a,h,hp,hv,hl=>by
  cases xs with
  |nil=>simp[aE] at hv
  |cons x xs =>
   simp only[aE] at hv;obtain ⟨v',rest,cs,e,h1,h2,h3⟩:=hv;simp only[List.cons.injEq] at e;obtain ⟨rfl,rfl⟩:=e;have h4:=h.put (hp p (by simp)) (mf h1 h2);rw[sR] at h4;have:=aP.KT ps vs xs ((p,x)::ts) (a.put (some p) v) h4 (fun q hq=>hp q (by simp[hq])) h3 (by simpa using hl);exact this
end
end Go.Abs
namespace Go.Abs
open Go Go.RowKit
def iV:b7→Bool
 | .mv _ | .pick .. | .bin .. | .eqv .. | .conv .. | .un .. | .fl .. | .ix .. | .lenT _ | .bld .. | .ext .. | .mk .. | .nilC _ | .ptrE .. =>true
 | .ld .. | .fa .. | .ia .. | .is .. | .len _ | .va .. | .bs .. | .sl .. | .cap _ | .bs0 _ | .lk .. =>true
 |_=>false
def tf:b7→Bool
 | .alloc _ | .box _ | .bB .. | .call .. | .eh .. | .dH .. =>true
 |op=>iV op
def pb(hs:List FuncId):b7→Bool
 | .alloc _ | .box _=>true
 | .call f _ => !hs.contains f
 |op=>iV op
abbrev eK:=List (Nat×List Nat)
def ji(ay:eK)(s:Nat):Option (List Nat):=(ay.find? fun q=>q.1==s).map (·.2)
def eT(ay:eK)(A:ae):Prop:=∀ s ns,ji ay s=some ns→(A.t s).only (fun n=>ns.contains n)=true
def qx(ay:eK):aH→Option (List Nat)
 | .t s=>ji ay s
 | .c x=>if x.bp then some [] else none
def tN(a:Option (List Nat))(ns:List Nat):Bool:=match a with
 |some ms=>ms.all fun m=>ns.contains m
 |none=>false
def jl(ay:eK)(g:az):Bool:=match g.dst with
 |none=>true
 |some d=>match ji ay d with
  |none=>true
  |some ns=>match g.op with
   | .mv x | .nilC x | .fa _ _ x | .ia _ _ x _=>tN (qx ay x) ns
   | .bin .. | .len _ | .bs .. | .bs0 _ | .conv .. | .lenT _=>true
   | .box _ | .alloc _=>ns.contains d
   |_=>false
def nd:b7→Option (List Nat)
 | .ld _ (.t x) | .fa _ _ (.t x) | .ia _ _ (.t x) _ | .is _ (.t x) _ | .len (.t x) | .va _ _ (.t x) | .sl _ (.t x) _ _ _ | .cap (.t x) | .lk _ _ _ (.t x) _=>some [x]
 | .bs _ _ ps=>if (ps.all fun x=>match x with | .t _=>true | .c _=>false)=true then some (jI ps) else none
 | .bs0 _=>some []
 |op=>if op.gh=0∧iV op=true then some [] else none
def rI(ay:eK)(g:az)(p:Nat→Bool):Bool:=match nd g.op with
 |some xs=>xs.all fun s=>match ji ay s with | some ns=>ns.all p | none=>false
 |none=>false
def nZ(hs:List FuncId)(ay:eK)(g h:az):Bool:=pb hs h.op||match h.op with
 | .bB _ (.t y) _=>match nd g.op with
  |some []=>true
  |_=>match ji ay y with
   |some ms=>rI ay g fun n => !ms.contains n
   |none=>false
 | .bB .. =>match nd g.op with
  |some []=>true
  |_=>false
 | .dH _ _ _ _ s _=>rI ay g (fun _=>false)||tN (qx ay s) []
 |_=>false
def nO(hs:List FuncId)(ay:eK)(g h:az):Bool:=iV g.op&&(nZ hs ay g h&&((match g.dst with
  |some d => !h.cU.contains d&&h.dst != some d
  |none=>true)&&(match h.dst with
  |some d => !g.cU.contains d
  |none=>true)))
theorem wh{op:b7}(h:iV op=true)(A:ae)(dst:Option Nat)(rest:List az)(k:ae→cE):a7 A dst op rest k=cK (a8 A op) fun v=>k (A.aK dst v):=by
 cases op <;>first | rfl | cases h
inductive cB (P:Program) (hs:List FuncId) (K:ae→Prop):cE→Prop where
 |done {A:ae} : K A→cB P hs K (.done A)
 |flat {f:FuncId} {avs cargs:List I} {a2:Option (List I)} {dst:Option Nat} {rest:List az} {A:ae} (r:I):aC P f cargs r→r.flat=true→cB P hs K (aA rest (A.aK dst r))→cB P hs K (.call f avs (some cargs) a2 dst rest A)
 |lead {f:FuncId} {avs cargs:List I} {a1:Option (List I)} {dst:Option Nat} {rest:List az} {A:ae} (r:I):aC P f cargs r→cB P hs K (aA rest (A.aK dst r))→cB P hs K (.call f avs a1 (some cargs) dst rest A)
 |bU {f:FuncId} {avs:List I} {a1 a2:Option (List I)} {dst:Option Nat} {rest:List az} {ts:List (Nat×I)} {os0:List (Nat×ah)} (ρ:List (Nat×Nat)) (cargs:List I) (post:cR):cC P f cargs [] post →
   fS ρ [] os0→jc false (ar ts os0) ρ [] avs cargs→(∀ r os',post r os'→er false ρ [] os0 r os') →
   (∀ r os',post r os'→cB P hs K (aA rest ((ar ts (dJ ρ os'++os0)).aK dst (r.aO (bD ρ)))))→cB P hs K (.call f avs a1 a2 dst rest (ar ts os0))
 |any {p:Nat→Prop} {k:Nat→cE} : (∀ m,p m→cB P hs K (k m))→cB P hs K (.any p k)
 |xq {f:FuncId} {avs:List I} {a1 a2:Option (List I)} {dst:Option Nat} {rest:List az} {ts:List (Nat×I)} {os0:List (Nat×ah)} (aB:Bool) (ρ:List (Nat×Nat)) (os:List (Nat×ah)) (cargs:List I) (post:cR):hs.contains f=true→cC P f cargs os post →
   fS ρ os os0→jc aB (ar ts (cW (jC ρ os) os0)) ρ os avs cargs→(∀ r os',post r os'→er aB ρ os os0 r os') →
   (∀ r os',post r os'→cB P hs K (aA rest ((ar ts (dJ ρ os'++os0)).aK dst (r.aO (bD ρ)))))→cB P hs K (.call f avs a1 a2 dst rest (ar ts os0))
theorem XC(os:List (Nat×ah)):cW [] os=os:=by simp[cW]
section
variable {P:Program} {hs:List FuncId} {K:ae→Prop} {Y:Value→List I→List (Nat×ah)→cR→Prop}
theorem cB.zn{p:Nat→Prop}{k:Nat→cE}(h:cB P hs K (.any p k)):∀ m,p m→cB P hs K (k m):=by cases h;assumption
theorem eT.put{ay:eK}{A B:ae}(h:eT ay A)(ht:∀ k,B.t k=A.t k){dst:Option Nat}{v:I}(hv:∀ d,dst=some d→∀ ns,ji ay d=some ns→v.only (fun n=>ns.contains n)=true):eT ay (B.aK dst v):=by
 intro s ns hs';cases dst with
 |none=>exact (ht s).symm▸h s ns hs'
 |some d =>
  simp only[ae.aK,ae.put];by_cases hd:s=d
  ·rw[if_pos hd];exact hv d rfl ns (hd▸hs')
  ·rw[if_neg hd,ht];exact h s ns hs'
theorem qY{ay:eK}{A:ae}(h:eT ay A){x:aH}{ns:List Nat}(hx:tN (qx ay x) ns=true):(ab A x).only (fun n=>ns.contains n)=true:=by
 cases x with
 |c x =>
  simp only[qx] at hx;split at hx
  ·rename_i hc;exact mj _ x hc
  ·cases hx
 |t s =>
  simp only[qx] at hx;cases hl:ji ay s with
  |none=>rw[hl] at hx;cases hx
  |some ms =>
   rw[hl] at hx;simp only[tN,zy2] at hx;exact iN (fun n hn=>hx n (by simpa using hn)) _ (h s ms hl)
theorem Qk{op:BinOp}{x y v:I}(p:Nat→Bool)(h:cD op x y=some v):v.only p=true:=by
 unfold cD at h
 (repeat' split at h) <;>first | (cases h;done) | (simp only[u8] at h;subst h;rfl)
theorem xK{p:Nat→Bool} : ∀ {xs:List I} {i:Nat} {x:I},I.b8 p xs=true→xs[i]?=some x→x.only p=true
 | [],_,_,_,h=>by simp at h
 |a::xs,0,x,h,e=>by
  simp only[I.b8,zz2] at h;simp only[List.getElem?_cons_zero,u8] at e;exact e▸h.1
 |a::xs,i+1,x,h,e=>by
  simp only[I.b8,zz2] at h;exact xK (xs:=xs) h.2 (by simpa using e)
theorem Ki{ay:eK}{A:ae}{g:az}(h:eT ay A)(hg:jl ay g=true){v:I}(hv:a8 A g.op=some v):∀ d,g.dst=some d→∀ ns,ji ay d=some ns→v.only (fun n=>ns.contains n)=true:=by
 intro d hd ns hn;obtain ⟨dst,op,gd⟩:=g;simp only at hd hv;subst hd;simp only[jl,hn] at hg;cases op <;>simp only at hg <;>(try (cases hg;done)) <;>simp only[a8] at hv <;>(try (cases hv;done))
 case mv x=>simp only[u8] at hv;exact hv▸qY h hg
 case nilC x =>
  have:=qY h hg;generalize ab A x=ao at hv this;cases ao <;>simp only[mg] at hv <;>first | (cases hv;done) | (simp only[u8] at hv;exact hv▸this)
 case bin op x y=>exact Qk _ hv
 case conv k x=>split at hv <;>first | (cases hv;done) | (simp only[u8] at hv;subst hv;rfl)
 case lenT x=>split at hv <;>first | (cases hv;done) | (simp only[u8] at hv;subst hv;rfl)
 case len x=>(repeat' split at hv) <;>first | (cases hv;done) | (simp only[u8] at hv;subst hv;rfl)
 case bs0 e=>simp only[u8] at hv;subst hv;rfl
 case bs e ps =>
  split at hv
  ·split at hv
   ·rename_i hc;simp only[u8] at hv;subst hv;simp only[I.only];exact j7 _ _ hc.2
   ·cases hv
  ·cases hv
 case fa f off x =>
  have hx:=qY h hg;split at hv
  ·rename_i fs he;rw[he] at hx;simp only[I.only] at hx;split at hv
   ·rename_i ao hu;split at hv
    ·simp only[u8] at hv;subst hv;simp only[I.only];exact xK hx hu
    ·cases hv
   ·cases hv
  ·rename_i n q he;rw[he] at hx;simp only[I.only] at hx;split at hv
   ·split at hv
    ·simp only[u8] at hv;subst hv;simpa only[I.only] using hx
    ·cases hv
   ·cases hv
  ·cases hv
 case ia n esz x i =>
  have hx:=qY h hg;split at hv
  case h_2=>cases hv
  split at hv
  case isFalse=>cases hv
  split at hv
  ·rename_i fs he;rw[he] at hx;simp only[I.only] at hx;split at hv
   ·simp only[zz0] at hv;obtain ⟨ao,hu,rfl⟩:=hv;simp only[I.only];exact xK hx hu
   ·cases hv
  ·rename_i m q he;rw[he] at hx;simp only[I.only] at hx;split at hv
   ·split at hv
    ·simp only[u8] at hv;subst hv;simpa only[I.only] using hx
    ·cases hv
   ·cases hv
  ·cases hv
def rz(A:ae)(dst:Option Nat)(s:I)(B:ae):Prop:=(∀ t,dst≠some t→B.t t=A.t t)∧(s.only (fun _=>false)=true→eb A B)
def ny(A:ae)(dst:Option Nat)(s:I)(R:(ae→cE)→cE):Prop :=
 (∀ k,R k=.fail)∨(∃ B,(∀ k,R k=k B)∧rz A dst s B)∨∃ (p:Nat→Prop) (bn:Nat→ae),(∀ k,R k=.any p fun m=>k (bn m))∧∀ m,rz A dst s (bn m)
theorem qM{A B:ae}{dst:Option Nat}{v:I}{t:Nat}(ht:∀ k,B.t k=A.t k)(h:dst≠some t):(B.aK dst v).t t=A.t t:=by
 cases dst with
 |none=>exact ht t
 |some d =>
  have:t≠d:=fun e=>h (by rw[e]);simp only[ae.aK,ae.put,if_neg this];exact ht t
theorem PO(A:ae)(dst:Option Nat)(esz bytes:Nat)(z s:I)(es ys:List I):ny A dst s (gz A dst esz bytes z es ys):=by
 cases dst with
 |none=>exact .inl fun _=>rfl
 |some d =>
  cases ho:A.o d with
  |some y=>exact .inl fun k=>by simp only[gz,ho]
  |none =>
   by_cases hc:(es.length+ys.length)*bytes≤140737488355328∧es.length+ys.length≤maxLen
   ·refine .inr (.inr ⟨_,fun m=>(A.aN d (.box (.agg (es++(ys++List.replicate m z))))).aK (some d) (.view d [] esz 0 (es.length+ys.length)),fun k=>by simp only[gz,ho];rw[if_pos hc],fun m=>⟨fun t ht=>qM (A:=A) (B:=A.aN d _) (fun _=>rfl) ht,fun _ n y hy =>?_⟩⟩);have:n≠d:=fun e=>by rw[e,ho] at hy;cases hy
    rw[im];simp only[ae.aN,if_neg this];exact hy
   ·exact .inl fun k=>by simp only[gz,ho];rw[if_neg hc]
theorem PR(A:ae)(dst:Option Nat)(esz bytes:Nat)(z s:I)(es ys:Option (List I)):ny A dst s (fo A dst esz bytes z s es ys):=by
 cases es with
 |none=>exact .inl fun _=>rfl
 |some es =>
  cases ys with
  |none=>exact .inl fun _=>rfl
  |some ys =>
   by_cases h0:ys=[]
   ·exact .inr (.inl ⟨A.aK dst s,fun k=>by simp only[fo,if_pos h0],fun t ht=>qM (A:=A) (fun _=>rfl) ht,fun _ n y hy=>by rw[im];exact hy⟩)
   ·have gg:=fun s'=>PO A dst esz bytes z s' es ys;cases s
    case nils=>simp only[ny,fo,if_neg h0];exact gg _
    case c0=>simp only[ny,fo,if_neg h0];exact gg _
    case view n p sz lo l =>
     cases ho:A.o n with
     |none=>exact .inl fun k=>by simp only[fo,if_neg h0,ho]
     |some y =>
      cases y with
      |box b =>
       cases hb:b.at p with
       |none=>exact .inl fun k=>by simp only[fo,if_neg h0,ho,hb]
       |some c =>
        cases c
        case agg fs =>
         by_cases h1:lo+l+ys.length≤fs.length
         ·by_cases h2:sz=esz∧I.cN ys=I.cN ((fs.drop (lo+l)).take ys.length)
          ·exact .inr (.inl ⟨(A.aN n (.box (iT b p (lo+l) fs ys))).aK dst (.view n p esz lo (l+ys.length)),fun k=>by simp only[fo,if_neg h0,ho,hb,if_pos h1];rw[if_pos h2],fun t ht=>qM (A:=A) (B:=A.aN n _) (fun _=>rfl) ht,fun h=>by simp[I.only] at h⟩)
          ·exact .inl fun k=>by simp only[fo,if_neg h0,ho,hb,if_pos h1];rw[if_neg h2]
         ·simp only[ny,fo,if_neg h0,ho,hb,if_neg h1];exact gg _
        all_goals exact .inl fun k=>by simp only[fo,if_neg h0,ho,hb]
      |_=>exact .inl fun k=>by simp only[fo,if_neg h0,ho]
    all_goals exact .inl fun k=>by simp only[fo,if_neg h0]
theorem zr(A:ae)(dst:Option Nat)(e esz bytes:Nat)(z:I)(s x:aH)(rest:List az):ny A dst (ab A s) (a7 A dst (.dH e esz bytes z s x) rest):=by
 generalize hs:ab A s=yA;cases yA
 case own n l =>
  cases hx:ab A x
  case slice sz ys =>
   cases ho:A.o n with
   |none=>exact .inl fun k=>by simp only[a7,hs,hx,ho]
   |some y =>
    cases y with
    |bT T sz' es =>
     by_cases hc:xu e esz bytes l sz ys T sz' es
     ·exact .inr (.inl ⟨(A.aN n (.bT e esz (es++ys))).aK dst (.own n (es.length+ys.length)),fun k=>by simp only[a7,hs,hx,ho];rw[if_pos hc],fun t ht=>qM (A:=A) (B:=A.aN n _) (fun _=>rfl) ht,fun h=>by simp[I.only] at h⟩)
     ·exact .inl fun k=>by simp only[a7,hs,hx,ho];rw[if_neg hc]
    |cO T xs =>
     by_cases hc:xv e esz bytes l ys T xs z
     ·exact .inr (.inl ⟨(A.aN n (.cO e (xs++qq ys))).aK dst (.own n (xs.length+ys.length)),fun k=>by simp only[a7,hs,hx,ho];rw[if_pos hc],fun t ht=>qM (A:=A) (B:=A.aN n _) (fun _=>rfl) ht,fun h=>by simp[I.only] at h⟩)
     ·exact .inl fun k=>by simp only[a7,hs,hx,ho];rw[if_neg hc]
    |_=>exact .inl fun k=>by simp only[a7,hs,hx,ho]
  all_goals exact .inl fun k=>by simp only[a7,hs,hx]
 all_goals (simp only[ny,a7,hs];exact PR ..)
theorem xW{A:ae}{d:Nat}{v:I}{n:Nat}{y:ah}{dst:Option Nat}{ao:I}(h:dst≠some d):((A.put d v).aN n y).aK dst ao=((A.aN n y).aK dst ao).put d v:=by
 cases dst with
 |none=>rfl
 |some e =>
  have:e≠d:=fun he=>h (by rw[he]);simp only[ae.aK,ae.put,ae.aN,ae.mk.injEq,and_true]
  funext k
  by_cases h1:k=e <;>by_cases h2:k=d <;>simp_all
theorem ahI{A:ae}{d:Nat}{v:I}{dst:Option Nat}{ao:I}(h:dst≠some d):(A.put d v).aK dst ao=(A.aK dst ao).put d v:=by
 cases dst with
 |none=>rfl
 |some e =>
  have:e≠d:=fun he=>h (by rw[he]);simp only[ae.aK,ae.put,ae.mk.injEq,and_true]
  funext k
  by_cases h1:k=e <;>by_cases h2:k=d <;>simp_all
theorem PQ{A:ae}{d:Nat}{v:I}{dst:Option Nat}(h:dst≠some d)(esz bytes:Nat)(z:I)(es ys:List I)(k:ae→cE):gz (A.put d v) dst esz bytes z es ys k=gz A dst esz bytes z es ys fun B=>k (B.put d v):=by
 cases dst with
 |none=>rfl
 |some e =>
  simp only[gz];have:(A.put d v).o=A.o:=rfl;rw[this];cases A.o e with
  |some _=>rfl
  |none =>
   simp only;split
   ·simp only[xW h]
   ·rfl
theorem PS{A:ae}{d:Nat}{v:I}{dst:Option Nat}(h:dst≠some d)(esz bytes:Nat)(z s:I)(es ys:Option (List I))(k:ae→cE):fo (A.put d v) dst esz bytes z s es ys k=fo A dst esz bytes z s es ys fun B=>k (B.put d v):=by
 have ho:(A.put d v).o=A.o:=rfl;cases es with
 |none=>rfl
 |some es =>
  cases ys with
  |none=>rfl
  |some ys =>
   simp only[fo];split
   ·rw[ahI h]
   ·cases s <;>simp only[PQ h,ho]
    rename_i n p sz lo l;cases A.o n with
    |none=>rfl
    |some y =>
     cases y with
     |box b =>
      simp only;cases b.at p with
      |none=>rfl
      |some c =>
       cases c <;>simp only[xW h]
     |_=>rfl
theorem PV{A:ae}{d:Nat}{v:I}{dst:Option Nat}(h:dst≠some d){e esz bytes:Nat}{z:I}{s x:aH}(hag:dV A (A.put d v) (s.sl++x.sl))(rest rest':List az)(k:ae→cE) :
  a7 (A.put d v) dst (.dH e esz bytes z s x) rest k=a7 A dst (.dH e esz bytes z s x) rest' fun B=>k (B.put d v):=by
 have ho:(A.put d v).o=A.o:=rfl;have hsrc:∀ y,ep (A.put d v) esz y=ep A esz y:=fun y=>by cases y <;>rfl
 simp only[a7,c6 hag.l,c6 hag.r,hsrc];cases ab A s <;>simp only[PS h]
 rename_i n l;cases ab A x <;>simp only[ho]
 cases A.o n with
 |none=>rfl
 |some y=>cases y <;>simp only[xW h]
theorem cB.BO{ay:eK}{f:FuncId}{avs:List I}{a1 a2:Option (List I)}{dst:Option Nat}{rest:List az}{A:ae}(hi:eT ay A)(hd:∀ d,dst=some d→ji ay d=none)(h:cB P hs K (.call f avs a1 a2 dst rest A)) :
  bh P Y false (fun B=>cB P hs K (aA rest B)∧eT ay B) (.call f avs a1 a2 dst [] A):=by
 have no:∀ {v:I},∀ d,dst=some d→∀ ns,ji ay d=some ns→v.only (fun n=>ns.contains n)=true:=fun d e ns hn=>by rw[hd d e] at hn;cases hn
 cases h with
 |flat r hc hf hw=>exact .flat r hc hf (.done ⟨hw,hi.put (fun _=>rfl) no⟩)
 |lead r hc hw=>exact .lead r hc (.done ⟨hw,hi.put (fun _=>rfl) no⟩)
 |bU ρ cargs post hc hg ha hb hw=>exact .bU false ρ [] cargs post rfl hc hg (by simp only[jC,zx2,XC];exact ha) hb fun r os' hp=>.done ⟨hw r os' hp,hi.put (B:=ar _ (dJ ρ os'++_)) (fun _=>rfl) no⟩
 |xq aB ρ os cargs post _ hc hg ha hb hw=>exact .bU aB ρ os cargs post rfl hc hg ha hb fun r os' hp=>.done ⟨hw r os' hp,hi.put (B:=ar _ (dJ ρ os'++_)) (fun _=>rfl) no⟩
theorem cB.one{ay:eK}{A:ae}{g:az}{rest:List az}(hi:eT ay A)(ho:tf g.op=true)(hL:jl ay g=true)(h:cB P hs K (a7 A g.dst g.op rest (aA rest))):bh P Y false (fun B=>cB P hs K (aA rest B)∧eT ay B) (a7 A g.dst g.op [] (aA [])):=by
 have hval:=fun v (hv:a8 A g.op=some v)=>Ki hi hL hv;obtain ⟨dst,op,gd⟩:=g;simp only at ho h hval ⊢;have pure:iV op=true→bh P Y false (fun B=>cB P hs K (aA rest B)∧eT ay B) (a7 A dst op [] (aA [])):=by
  intro hsm;rw[wh hsm] at h ⊢;cases hv:a8 A op with
  |none=>rw[hv] at h;cases h
  |some v=>rw[hv] at h;exact .done ⟨h,hi.put (fun _=>rfl) (hval v hv)⟩
 have unl:(∀ ns d,dst=some d→ji ay d=some ns→jl ay ⟨dst,op,gd⟩=false)→∀ d,dst=some d→ji ay d=none:=fun h1 d hd=>by
  cases hn:ji ay d with
  |none=>rfl
  |some ns=>rw[h1 ns d hd hn] at hL;cases hL
 cases op with
 |alloc z =>
  cases dst with
  |none=>simp only[a7] at h;cases h
  |some d =>
   simp only[a7] at h ⊢;split at h
   case h_2=>cases h
   refine .done ⟨h,hi.put (B:=A.aN d _) (dst:=some d) (fun _=>rfl) fun d' e ns hn =>?_⟩;simp only[u8] at e;subst e;simpa only[jl,hn,I.only] using hL
 |box x =>
  cases dst with
  |none=>simp only[a7] at h;cases h
  |some d =>
   simp only[a7] at h ⊢;split at h
   case h_2=>cases h
   split at h
   case isFalse=>cases h
   rename_i hv;rw[if_pos hv];refine .done ⟨h,hi.put (B:=A.aN d _) (dst:=some d) (fun _=>rfl) fun d' e ns hn =>?_⟩;simp only[u8] at e;subst e;simpa only[jl,hn,I.only] using hL
 |bB s x v =>
  cases dst with
  |some d=>simp only[a7] at h;cases h
  |none =>
   simp only[a7] at h ⊢;split at h
   case h_2=>cases h
   rename_i n p hx;split at h
   case h_2=>cases h
   rename_i b hb;split at h
   case h_2=>cases h
   rename_i old hold;split at h
   case isFalse=>cases h
   rename_i hok;simp only[if_pos hok];exact .done ⟨h,fun s ns hn=>hi s ns hn⟩
 |call f args=>exact cB.BO hi (unl fun ns d e hn=>by subst e;simp only[jl,hn]) h
 |eh x args =>
  have hu:=unl fun ns d e hn=>by subst e;simp only[jl,hn]
  simp only[a7] at h ⊢;split at h
  ·exact cB.BO hi hu h
  ·cases h
  ·cases h
 |dH e esz bytes z s x =>
  have hu:=unl fun ns d e hn=>by subst e;simp only[jl,hn]
  have sC:∀ B,rz A dst (ab A s) B→eT ay B:=fun B hB t ns hn=>by
   rw[hB.1 t fun e=>by rw[hu t e] at hn;cases hn];exact hi t ns hn
  have hf:=zr A dst e esz bytes z s x;rcases hf rest with h1 | ⟨B,h1,h2⟩ | ⟨p,bn,h1,h2⟩
  ·rw[h1] at h;cases h
  ·rw[h1] at h;have:a7 A dst (.dH e esz bytes z s x) [] (aA [])=aA [] B:=(show a7 A dst (.dH e esz bytes z s x) [] (aA [])=a7 A dst (.dH e esz bytes z s x) rest (aA []) from rfl).trans (h1 _);rw[this];exact .done ⟨h,sC B h2⟩
  ·rw[h1] at h;have:a7 A dst (.dH e esz bytes z s x) [] (aA [])=.any p fun m=>aA [] (bn m):=(show a7 A dst (.dH e esz bytes z s x) [] (aA [])=a7 A dst (.dH e esz bytes z s x) rest (aA []) from rfl).trans (h1 _);rw[this];exact .any rfl fun m hm=>.done ⟨h.zn m hm,sC _ (h2 m)⟩
 |_=>first | exact pure rfl | cases ho
def fT(g:az)(A:ae)(v:I):Prop:=(fY A g∧v=.undef)∨(pass A g∧a8 A g.op=some v)
theorem cB.yp{A:ae}{g:az}{rest:List az}(hs':iV g.op=true)(h:cB P hs K (aA (g::rest) A)):∃ v,fT g A v∧cB P hs K (aA rest (A.aK g.dst v)):=by
 have step:pass A g→cB P hs K (a7 A g.dst g.op rest (aA rest))→∃ v,fT g A v∧cB P hs K (aA rest (A.aK g.dst v)):=by
  intro hp h;rw[wh hs'] at h;cases hv:a8 A g.op with
  |none=>rw[hv] at h;cases h
  |some v=>rw[hv] at h;exact ⟨v,.inr ⟨hp,hv⟩,h⟩
 simp only[aA] at h;split at h
 ·rename_i hg;exact step (by simp only[pass,hg]) h
 ·rename_i t b hg;split at h
  ·rename_i b' hb;split at h
   ·rename_i hbb;subst hbb;exact step (by simp only[pass,hg];exact hb) h
   ·rename_i hbb;exact ⟨_,.inl ⟨by simp only[fY,hg];exact .inl (by rw[hb,ux hbb]),rfl⟩,h⟩
  ·rename_i hb;exact ⟨_,.inl ⟨by simp only[fY,hg];exact .inr hb,rfl⟩,h⟩
  ·cases h
theorem rH{A:ae}{g:az}{rest:List az}(hn:fY A g):aA (g::rest) A=aA rest (A.aK g.dst .undef):=by
 simp only[aA];cases hg:g.guard with
 |none=>simp only[fY,hg] at hn
 |some tb =>
  obtain ⟨t,b⟩:=tb;simp only[fY,hg] at hn;rcases hn with hn | hn
  ·simp only[hn];rw[if_neg (by cases b <;>simp)]
  ·simp only[hn]
theorem fT.to{A:ae}{g:az}{rest:List az}{v:I}(hs':iV g.op=true)(h:fT g A v):aA (g::rest) A=aA rest (A.aK g.dst v):=by
 rcases h with ⟨hn,rfl⟩ | ⟨hp,hv⟩
 ·exact rH hn
 ·rw[nA hp,wh hs',hv];rfl
theorem Xj{A A':ae}{p:Nat→Bool}(ho:∀ n,p n=true→A'.o n=A.o n){x:I}(hx:x.only p=true):cz A' x=cz A x:=by
 cases x <;>simp only[cz]
 rename_i n q;rw[ho n (by simpa[I.only] using hx)]
mutual
theorem Yc{A A':ae}{p:Nat→Bool}(ho:∀ n,p n=true→A'.o n=A.o n):∀ {x:I},x.only p=true→bg false A' x=bg false A x
 | .own n k,h=>by simp only[bg];rw[ho n (by simpa[I.only] using h)]
 | .func f caps,h=>by simp only[bg];rw[sa ho (xs:=caps) (by simpa[I.only] using h)]
 | .agg fs,h=>by simp only[bg];rw[sa ho (xs:=fs) (by simpa[I.only] using h)]
 | .undef,_ | .c8,_ | .bool _,_ | .int _ _,_ | .cQ _,_ | .nilp,_ | .da,_ | .dN,_ | .raw _,_ | .nils _,_ | .c0 _,_ | .slice _ _,_ | .tuple _,_ | .ref _,_ | .iface _ _,_ | .ptr _ _,_ | .view _ _ _ _ _,_ | .mref _,_ | .dj _,_ | .cL _ _,_=>by simp[bg]
theorem sa{A A':ae}{p:Nat→Bool}(ho:∀ n,p n=true→A'.o n=A.o n):∀ {xs:List I},I.b8 p xs=true→bX false A' xs=bX false A xs
 | [],_=>rfl
 |x::xs,h=>by
  simp only[I.b8,zz2] at h;simp only[bX,Yc ho h.1,sa ho h.2]
end
theorem KA{p:Nat→Bool}{f:aH→I} : ∀ {xs:List aH},(∀ x∈xs,(f x).only p=true)→I.b8 p (xs.map f)=true
 | [],_=>rfl
 |x::xs,h=>by
  simp only[zz9,I.b8,zz2];exact ⟨h x (by simp),KA fun y hy=>h y (by simp[hy])⟩
theorem afI{A A':ae}{p:Nat→Bool}(ho:∀ n,p n=true→A'.o n=A.o n){x:I}(hx:x.only p=true):fX A' x=fX A x:=by
 cases x with
 |mref n=>simp only[fX];rw[ho n (by simpa[I.only] using hx)]
 |raw v=>cases v <;>first | rfl | (rename_i o;cases o <;>rfl)
 |_=>rfl
theorem ahy{A A':ae}{op:b7}{xs:List Nat}{p:Nat→Bool}(hm:nd op=some xs)(h:dV A A' op.cU)(hx:∀ s∈xs,(A.t s).only p=true)(ho:∀ n,p n=true→A'.o n=A.o n):a8 A' op=a8 A op:=by
 have hZ:op.gh=0→a8 A' op=a8 A op:=fun hc=>xU hc h;have dl:=fun {x:I} (hx:x.only p=true)=>Xj ho hx;unfold nd at hm;split at hm
 ·rename_i s x;simp only[u8] at hm;subst hm;have e:=h x (by simp[b7.cU,aH.sl]);simp only[a8,ab,e,dl (hx x (by simp))]
 ·rename_i f off x;simp only[u8] at hm;subst hm;have e:=h x (by simp[b7.cU,aH.sl]);have k:=hx x (by simp);simp only[a8,ab,e];generalize A.t x=ao at k ⊢;cases ao with
  |ptr n q=>simp only[dl (x:=.ptr n q) k]
  |ref c=>cases c <;>rfl
  |_=>rfl
 ·rename_i n esz x i;simp only[u8] at hm;subst hm;have e:=h x (by simp[b7.cU,aH.sl]);have ei:=c6 (x:=i) (fun m hm=>h m (by simp[b7.cU,hm]));have k:=hx x (by simp);simp only[a8,ei];generalize ab A i=w;simp only[ab,e];generalize A.t x=ao at k ⊢;cases ao with
  |ptr n q=>simp only[dl (x:=.ptr n q) k]
  |ref c=>cases c <;>rfl
  |_=>rfl
 ·rename_i esz x i;simp only[u8] at hm;subst hm;have e:=h x (by simp[b7.cU,aH.sl]);have ei:=c6 (x:=i) (fun m hm=>h m (by simp[b7.cU,hm]));have k:=hx x (by simp);simp only[a8,ei];generalize ab A i=w;simp only[ab,e];generalize A.t x=ao at k ⊢;cases ao with
  |own n l=>simp only[ho n (by simpa[I.only] using k)]
  |view n q=>simp only[dl (x:=.ptr n q) (by simpa[I.only] using k)]
  |_=>rfl
 ·rename_i x;simp only[u8] at hm;subst hm;have e:=h x (by simp[b7.cU,aH.sl]);have k:=hx x (by simp);simp only[a8,ab,e];generalize A.t x=ao at k ⊢;cases ao with
  |own n l=>simp only[ho n (by simpa[I.only] using k)]
  |_=>rfl
 ·rename_i n esz x;simp only[u8] at hm;subst hm;have e:=h x (by simp[b7.cU,aH.sl]);have k:=hx x (by simp);simp only[a8,ab,e];generalize A.t x=ao at k ⊢;cases ao with
  |ptr n q=>simp only[dl (x:=.ptr n q) k]
  |ref c=>cases c <;>rfl
  |_=>rfl
 ·rename_i esz x lo hi mx;simp only[u8] at hm;subst hm;have e:=h x (by simp[b7.cU,aH.sl]);have e1:=oU (x:=lo) (fun m hm=>h m (by simp[b7.cU,hm]));have e2:=oU (x:=hi) (fun m hm=>h m (by simp[b7.cU,hm]));have e3:=oU (x:=mx) (fun m hm=>h m (by simp[b7.cU,hm]));have k:=hx x (by simp);simp only[a8,e1,e2,e3];generalize lo.map (ab A)=w1;generalize hi.map (ab A)=w2;generalize mx.map (ab A)=w3;simp only[ab,e];generalize A.t x=ao at k ⊢;cases ao with
  |view n q=>simp only[dl (x:=.ptr n q) (by simpa[I.only] using k)]
  |_=>rfl
 ·rename_i x;simp only[u8] at hm;subst hm;have e:=h x (by simp[b7.cU,aH.sl]);have k:=hx x (by simp);simp only[a8,ab,e];generalize A.t x=ao at k ⊢;cases ao with
  |view n q=>simp only[dl (x:=.ptr n q) (by simpa[I.only] using k)]
  |_=>rfl
 ·rename_i ty z ok x kk;simp only[u8] at hm;subst hm;have e:=h x (by simp[b7.cU,aH.sl]);have ek:=c6 (x:=kk) (fun m hm=>h m (by simp[b7.cU,hm]));have k:=hx x (by simp);simp only[a8,ek];generalize ab A kk=w;simp only[ab,e,afI ho k]
 ·rename_i esz ps;split at hm
  case isFalse=>cases hm
  rename_i hall;simp only[u8] at hm;subst hm;have hev:ps.map (ab A')=ps.map (ab A):=lZ h;have hon:I.b8 p (ps.map (ab A))=true:=KA fun x hx'=>by
   have h1:=zy2.1 hall x hx';cases x with
   |c _=>cases h1
   |t s=>exact hx s (by simp only[jI,List.mem_flatMap];exact ⟨_,hx',by simp[aH.sl]⟩)
  simp only[a8,hev,sa ho hon]
 ·rfl
 ·split at hm
  ·rename_i hc;exact hZ hc.1
  ·cases hm
theorem zp{ay:eK}{A:ae}{g:az}{p:Nat→Bool}(hi:eT ay A)(h:rI ay g p=true):∃ xs,nd g.op=some xs∧∀ s∈xs,(A.t s).only p=true:=by
 unfold rI at h;split at h
 case h_2=>cases h
 rename_i xs hm;refine ⟨xs,hm,fun s hs' =>?_⟩;have h1:=zy2.1 h s hs';split at h1
 case h_2=>cases h1
 rename_i ns hn;exact iN (fun n h2=>zy2.1 h1 n (by simpa using h2)) _ (hi s ns hn)
theorem fT.wV{A A':ae}{g:az}{v:I}{xs:List Nat}{p:Nat→Bool}(h:fT g A v)(hm:nd g.op=some xs)(ha:dV A A' g.cU)(hx:∀ s∈xs,(A.t s).only p=true)(ho:∀ n,p n=true→A'.o n=A.o n):fT g A' v:=by
 rcases h with ⟨h,rfl⟩ | ⟨h,k⟩
 ·exact .inl ⟨px ha h,rfl⟩
 ·exact .inr ⟨ni ha h,by rw[ahy hm (az.j8 ha) hx ho];exact k⟩
theorem fT.sC{ay:eK}{A:ae}{g:az}{v:I}(hi:eT ay A)(hg:jl ay g=true)(h:fT g A v):eT ay (A.aK g.dst v):=by
 rcases h with ⟨_,rfl⟩ | ⟨_,k⟩
 ·exact hi.put (fun _=>rfl) fun _ _ _ _=>rfl
 ·exact hi.put (fun _=>rfl) (Ki hi hg k)
theorem fT.cG{A A':ae}{g:az}{v:I}(h:fT g A v)(hu:eb A A')(ha:dV A A' g.cU):fT g A' v:=by
 rcases h with ⟨h,rfl⟩ | ⟨h,k⟩
 ·exact .inl ⟨px ha h,rfl⟩
 ·exact .inr ⟨ni ha h,KS hu (az.j8 ha) k⟩
theorem Jo{ay:eK}{g h:az}(hi:nO hs ay g h=true):iV g.op=true∧nZ hs ay g h=true∧(∀ d,g.dst=some d→d∉h.cU)∧(∀ d,g.dst=some d→h.dst≠some d)∧(∀ d,h.dst=some d→d∉g.cU):=by
 simp only[nO,zz2] at hi;obtain ⟨h1,h2,h3,h4⟩:=hi;refine ⟨h1,h2,fun d hd =>?_,fun d hd =>?_,fun d hd =>?_⟩
 ·rw[hd] at h3;simp at h3;exact h3.1
 ·rw[hd] at h3;simp at h3;exact h3.2
 ·rw[hd] at h4;simpa using h4
theorem zw{aB:Bool}{A A':ae}{ρ:List (Nat×Nat)}{os:List (Nat×ah)}(hu:eb A A'):∀ {xs cs:List I},jc aB A ρ os xs cs→jc aB A' ρ os xs cs
 | [],[],_=>trivial
 |x::xs,c::cs,h=>⟨h.1.imp id fun h=>CR hu h,zw hu h.2⟩
 | [],_::_,h=>h.elim
 |_::_,[],h=>h.elim
theorem afP{A:ae}{d:Option Nat}{v:I}{ts:List (Nat×I)}{os:List (Nat×ah)}(h:A.aK d v=ar ts os):∃ ts2,A=ar ts2 os∧∀ X:List (Nat×ah),(ar ts2 X).aK d v=ar ts X:=by
 cases d with
 |none=>exact ⟨ts,h,fun _=>rfl⟩
 |some d =>
  have ht:∀ k,(A.aK (some d) v).t k=b9 ts k:=fun k=>by rw[h];rfl
  have ho:A.o=aj os:=by
   have:(A.aK (some d) v).o=aj os:=by rw[h];rfl
   rwa [im] at this
  refine ⟨(d,A.t d)::ts,?_,fun X =>?_⟩
  ·cases A with
   |mk t o =>
    simp only[ar,ae.mk.injEq];refine ⟨funext fun k =>?_,ho⟩;have:=ht k;simp only[ae.aK,ae.put] at this;simp only[b9];by_cases hk:k=d
    ·subst hk;simp
    ·rw[if_neg hk] at this;have hk':¬ d=k:=fun e=>hk e.symm;simp only[hk,if_false];exact this
  ·simp only[ae.aK,ae.put,ar,ae.mk.injEq,and_true]
   funext k
   have:=ht k;simp only[ae.aK,ae.put] at this;by_cases hk:k=d
   ·subst hk;simp at this ⊢;exact this
   ·have hk':¬ d=k:=fun e=>hk e.symm;simp only[b9,hk,if_false]
theorem ahw{ρ:List (Nat×Nat)}{os0 os':List (Nat×ah)}{r:I}(hb:er false ρ [] os0 r os'){n:Nat}{x:ah}(hx:aj os0 n=some x):aj (dJ ρ os'++os0) n=some x:=by
 rw[qA];cases hp:pre ρ os' n with
 |none=>exact hx
 |some m =>
  obtain ⟨h1,h2⟩:=lG hp;have:=(hb.pq m h1 (by simp[aq,aj])).1;rw[h2,hx] at this;cases this
theorem cB.Sx{A B:ae}{j:az}{v:I}{f:FuncId}{args:List aH}{dst:Option Nat}{rest:List az}(hj:iV j.op=true)(hv:fT j A v)(hB:B=A.aK j.dst v)(hf:hs.contains f=false)(hag:dV A B (jI args))(hd:∀ d,j.dst=some d→dst≠some d)(hr:∀ d,dst=some d→d∉j.cU)
  (h:cB P hs K (.call f (args.map (ab B)) (bX true B (args.map (ab B))) (bX false B (args.map (ab B))) dst rest B)):cB P hs K (.call f (args.map (ab A)) (bX true A (args.map (ab A))) (bX false A (args.map (ab A))) dst (j::rest) A):=by
 have eo:B.o=A.o:=by rw[hB,im]
 have cG:eb B A:=fun n x hx=>by rwa [←eo]
 have up':eb A B:=fun n x hx=>by rwa [eo]
 have eav:args.map (ab B)=args.map (ab A):=lZ hag;rw[eav] at h;have cont:∀ r:I,cB P hs K (aA rest (B.aK dst r))→cB P hs K (aA (j::rest) (A.aK dst r)):=fun r hw=>by
  have h1:fT j (A.aK dst r) v:=hv.cG (fun n x hx=>by rwa [im]) (mq hr);rw[h1.to hj,pF (fun d hd'=>fun e=>hd d e hd'),←hB];exact hw
 generalize e1:bX true B (args.map (ab A))=a1 at h;generalize e2:bX false B (args.map (ab A))=a2 at h;generalize hBm:B=B0 at h;cases h with
 |flat r hc hfl hw =>
  subst hBm;rw[lu cG e1];exact .flat r hc hfl (cont r hw)
 |lead r hc hw =>
  subst hBm;rw[lu cG e2];exact .lead r hc (cont r hw)
 |bU ρ cargs post hc hg ha hb hw =>
  rename_i ts os0;rw[hB] at hBm;obtain ⟨ts2,hA,hts⟩:=afP hBm;have hA':=hA;clear cont;subst hA;refine .bU ρ cargs post hc hg (zw (A:=ar ts os0) (A':=ar ts2 os0) (fun n x hx=>hx) ha) hb fun r os' hp =>?_;have h1:fT j ((ar ts2 (dJ ρ os'++os0)).aK dst (r.aO (bD ρ))) v:=hv.cG (fun n x hx=>by
   rw[im];exact ahw (hb r os' hp) hx) (fun k hk=>by
    have:=mq (A:=ar ts2 (dJ ρ os'++os0)) (v:=r.aO (bD ρ)) hr k hk;rw[this];rfl)
  rw[h1.to hj,pF (fun d hd'=>fun e=>hd d e hd'),hts];exact hw r os' hp
 |xq aB ρ os cargs post hfs =>
  rw[hf] at hfs;cases hfs
theorem cB.swap{ay:eK}{A:ae}{j g:az}{rest:List az}(hinv:eT ay A)(hi:nO hs ay j g=true)(hw:cB P hs K (aA (j::g::rest) A)):cB P hs K (aA (g::j::rest) A):=by
 obtain ⟨hj,hl,i1,i2,i3⟩:=Jo hi;obtain ⟨v,hv,hw⟩:=cB.yp hj hw;have ag:dV (A.aK j.dst v) A g.cU:=(mq i1).symm;have ag':dV A (A.aK j.dst v) g.cU:=mq i1;have cG:eb (A.aK j.dst v) A:=fun n x hx=>by rwa [im] at hx
 have up':∀ (d:Option Nat) (ao:I),eb A (A.aK d ao):=fun d ao n x hx=>by rwa [im]
 by_cases hsg:iV g.op=true
 ·obtain ⟨ao,hu,hw⟩:=cB.yp hsg hw;rw[(hu.cG cG ag).to hsg,(hv.cG (up' _ _) (mq i3)).to hj,←pF i2];exact hw
 ·-- the guard
  have guard:(fY (A.aK j.dst v) g∧aA (g::rest) (A.aK j.dst v)=aA rest ((A.aK j.dst v).aK g.dst .undef))∨(pass (A.aK j.dst v) g∧aA (g::rest) (A.aK j.dst v)=a7 (A.aK j.dst v) g.dst g.op rest (aA rest))∨aA (g::rest) (A.aK j.dst v)=.fail:=by
   cases hg:g.guard with
   |none=>exact .inr (.inl ⟨by simp only[pass,hg],by simp only[aA,hg]⟩)
   |some tb =>
    obtain ⟨t,b⟩:=tb;cases ht:(A.aK j.dst v).t t with
    |bool b' =>
     by_cases hbb:b'=b
     ·subst hbb;have hp:pass (A.aK j.dst v) g:=by simp only[pass,hg,ht]
      exact .inr (.inl ⟨hp,nA hp⟩)
     ·have hn:fY (A.aK j.dst v) g:=by simp only[fY,hg];exact .inl (by rw[ht,ux hbb])
      exact .inl ⟨hn,rH hn⟩
    |undef =>
     have hn:fY (A.aK j.dst v) g:=by simp only[fY,hg];exact .inr ht
     exact .inl ⟨hn,rH hn⟩
    |_=>exact .inr (.inr (by simp only[aA,hg,ht]))
  rcases guard with ⟨hn,he⟩ | ⟨hp,he⟩ | he
  ·rw[he] at hw;rw[rH (px ag hn),(hv.cG (up' _ _) (mq i3)).to hj,←pF i2];exact hw
  ·rw[he] at hw;rw[nA (ni ag hp)];obtain ⟨dst,op,gd⟩:=g;simp only at hw hsg i2 i3 ⊢;cases op with
   |alloc z =>
    cases dst with
    |none=>simp only[a7] at hw;cases hw
    |some d =>
    simp only[a7] at hw ⊢;split at hw
    case h_2=>cases hw
    rename_i ho;rw[im] at ho;simp only[ho];have h1:fT j ((A.aN d (.box z)).put d (.ptr d [])) v:=hv.cG (fun n y hy=>by
     have:n≠d:=fun he=>by rw[he,ho] at hy;cases hy
     simp only[ae.put,ae.aN,this,if_false];exact hy) (fun k hk=>by
     have:k≠d:=fun he=>i3 d rfl (he▸hk);simp only[ae.put,ae.aN,this,if_false])
    rw[h1.to hj];have e:((A.aK j.dst v).aN d (.box z)).put d (.ptr d [])=((A.aN d (.box z)).put d (.ptr d [])).aK j.dst v:=by
     cases hgd:j.dst with
     |none=>rfl
     |some e =>
      have hne:e≠d:=fun he=>i2 e hgd (by rw[he]);simp only[ae.aK,ae.put,ae.aN,ae.mk.injEq,and_true]
      funext k
      by_cases h1:k=e <;>by_cases h2:k=d <;>simp_all
    rw[←e];exact hw
   |box x =>
    have ex:ab (A.aK j.dst v) x=ab A x:=c6 (az.j8 ag');cases dst with
    |none=>simp only[a7] at hw;cases hw
    |some d =>
    simp only[a7] at hw ⊢;split at hw
    case h_2=>cases hw
    rename_i ho;rw[im] at ho;simp only[ho];rw[ex] at hw;split at hw
    case isFalse=>cases hw
    rename_i hval;rw[if_pos hval];have h1:fT j ((A.aN d (.box (ab A x))).put d (.ptr d [])) v:=hv.cG (fun n y hy=>by
     have:n≠d:=fun he=>by rw[he,ho] at hy;cases hy
     simp only[ae.put,ae.aN,this,if_false];exact hy) (fun k hk=>by
     have:k≠d:=fun he=>i3 d rfl (he▸hk);simp only[ae.put,ae.aN,this,if_false])
    rw[h1.to hj];have e:((A.aK j.dst v).aN d (.box (ab A x))).put d (.ptr d [])=((A.aN d (.box (ab A x))).put d (.ptr d [])).aK j.dst v:=by
     cases hgd:j.dst with
     |none=>rfl
     |some e =>
      have hne:e≠d:=fun he=>i2 e hgd (by rw[he]);simp only[ae.aK,ae.put,ae.aN,ae.mk.injEq,and_true]
      funext k
      by_cases h1:k=e <;>by_cases h2:k=d <;>simp_all
    rw[←e];exact hw
   |call f args =>
    simp only[a7] at hw ⊢;refine cB.Sx hj hv rfl (by simpa[nZ,pb] using hl) (az.j8 ag') i2 i3 hw
   |bB s y ao =>
    cases dst with
    |some d=>simp only[a7] at hw;cases hw
    |none =>
    have ey:ab (A.aK j.dst v) y=ab A y:=c6 (az.j8 ag').l;have eu:ab (A.aK j.dst v) ao=ab A ao:=c6 (az.j8 ag').r;simp only[a7] at hw ⊢;rw[ey,eu,im] at hw;cases hx:ab A y <;>simp only[hx] at hw ⊢ <;>try (cases hw;done)
    rename_i n q;cases ho:A.o n with
    |none=>rw[ho] at hw;cases hw
    |some ob =>
    rw[ho] at hw;cases ob <;>simp only at hw ⊢ <;>try (cases hw;done)
    rename_i b;cases hb:b.at q with
    |none=>rw[hb] at hw;cases hw
    |some old =>
    rw[hb] at hw;simp only at hw ⊢;split at hw
    case isFalse=>cases hw
    rename_i hok;rw[if_pos hok];have h1:fT j (A.aN n (.box (b.dx q (ab A ao)))) v:=by
     have none0:nd j.op=some []→fT j (A.aN n (.box (b.dx q (ab A ao)))) v:=fun hm=>hv.wV (p:=fun _=>false) hm (fun _ _=>rfl) (fun s hs'=>by cases hs') (fun m hm=>by cases hm);cases y with
     |c y =>
      simp only[nZ,pb,iV,Bool.false_or] at hl;split at hl
      ·rename_i hm;exact none0 hm
      ·cases hl
     |t y =>
      simp only[nZ,pb,iV,Bool.false_or] at hl;split at hl
      ·rename_i hm;exact none0 hm
      ·split at hl
       case h_2=>cases hl
       rename_i ms hms;obtain ⟨xs,hm,hx2⟩:=zp hinv hl;refine hv.wV hm (fun _ _=>rfl) hx2 fun m hm2 =>?_;have hn:=hinv y ms hms;simp only[ab] at hx;rw[hx] at hn;have:m≠n:=fun e=>by subst e;simp[I.only] at hn hm2;exact hm2 hn
       simp only[ae.aN,if_neg this]
    rw[h1.to hj];have e:(A.aK j.dst v).aN n (.box (b.dx q (ab A ao)))=(A.aN n (.box (b.dx q (ab A ao)))).aK j.dst v:=by cases j.dst <;>rfl
    rw[←e];exact hw
   |dH e esz bytes z s x =>
    have hag:dV A (A.aK j.dst v) (s.sl++x.sl):=az.j8 ag';have he2:a7 (A.aK j.dst v) dst (.dH e esz bytes z s x) rest (aA rest)=a7 A dst (.dH e esz bytes z s x) (j::rest) fun B=>aA rest (B.aK j.dst v):=by
     cases hjd:j.dst with
     |none=>rfl
     |some d =>
      rw[hjd] at hag;exact PV (fun e=>i2 d hjd e) hag rest (j::rest) (aA rest)
    rw[he2] at hw;have jV:∀ B,rz A dst (ab A s) B→aA (j::rest) B=aA rest (B.aK j.dst v):=fun B hB=>by
     have hagB:dV A B j.cU:=fun k hk=>hB.1 k fun e=>i3 k e hk;have:fT j B v:=by
      simp only[nZ,pb,iV,Bool.false_or,Bool.or_eq_true] at hl;rcases hl with hl | hl
      ·obtain ⟨xs,hm,hx2⟩:=zp hinv hl;exact hv.wV hm hagB hx2 fun m hm2=>by cases hm2
      ·have:=qY hinv hl;exact hv.cG (hB.2 (by simpa using this)) hagB
     rw[this.to hj]
    rcases zr A dst e esz bytes z s x (j::rest) with h1 | ⟨B,h1,h2⟩ | ⟨p,bn,h1,h2⟩
    ·rw[h1] at hw;cases hw
    ·rw[h1] at hw ⊢;rw[jV B h2];exact hw
    ·rw[h1] at hw ⊢;exact .any fun m hm=>by rw[jV _ (h2 m)];exact hw.zn m hm
   |_=>first | exact absurd rfl hsg | (simp[nZ,pb,iV] at hl)
  ·rw[he] at hw;cases hw
theorem cB.p9{ay:eK}{g:az} : ∀ {l:List az} {r:List az} {A:ae},eT ay A→(∀ j∈l,nO hs ay j g=true∧jl ay j=true)→cB P hs K (aA (l++g::r) A)→cB P hs K (aA (g::(l++r)) A)
 | [],r,A,_,_,h=>h
 |j::l,r,A,hinv,hi,h=>by
  have hj:=(Jo (hi j (by simp)).1).1;obtain ⟨v,hv,h2⟩:=cB.yp (g:=j) (rest:=l++g::r) hj h;have h3:=cB.p9 (l:=l) (r:=r) (hv.sC hinv (hi j (by simp)).2) (fun k hk=>hi k (by simp[hk])) h2;refine cB.swap hinv (hi j (by simp)).1 ?_;rw[hv.to hj];exact h3
end
def s7:List Nat→Bool
 | []=>true
 |a::l => !l.contains a&&s7 l
def rG(hs:List FuncId)(ay:eK)(gs:List az)(cl:List Nat):List Nat→List Nat→Bool
 |_,[]=>true
 |before,i::σ=>(before.all fun j=>(cl.getD i 0).testBit j||nO hs ay (gs.getD j default) (gs.getD i default))&&rG hs ay gs cl (i::before) σ
def tk(hs:List FuncId)(ay:eK)(on:List (List Nat))(gs:List az)(cl:List Nat)(σ:List Nat):Bool :=
 (Nat.beq σ.length gs.length&&(s7 σ&&(σ.all (fun i=>decide (i<gs.length))&&((List.range gs.length).all (fun i=>σ.contains i)&&gs.all fun g=>tf g.op&&jl ay g))))&&(rG hs ay gs cl [] σ&&(List.range gs.length).all fun i=>(on.getD i []).all (fun k=>decide (k<i))&&Nat.beq (cl.getD i 0) (ox cl (on.getD i [])))
theorem J6:∀ {l:List Nat},s7 l=true→l.Nodup
 | [],_=>List.nodup_nil
 |a::l,h=>by
  simp only[s7,zz2,Bool.not_eq_true',List.contains_eq_mem,decide_eq_false_iff_not] at h;exact List.nodup_cons.2 ⟨h.1,J6 h.2⟩
theorem zl{hs:List FuncId}{ay:eK}{gs:List az}{cl:List Nat} : ∀ {σ before:List Nat},rG hs ay gs cl before σ=true→∀ s1 i s2,σ=s1++i::s2→∀ j,j∈before∨j∈s1→(cl.getD i 0).testBit j=true∨nO hs ay (gs.getD j default) (gs.getD i default)=true
 | [],_,_,s1,i,s2,e,_,_=>by cases s1 <;>cases e
 |a::σ,before,h,s1,i,s2,e,j,hj=>by
  simp only[rG,zz2,zy2,Bool.or_eq_true] at h;cases s1 with
  |nil =>
   simp only[zy8,List.cons.injEq] at e;obtain ⟨rfl,rfl⟩:=e;rcases hj with hj | hj
   ·exact h.1 j hj
   ·cases hj
  |cons b s1 =>
   simp only[zy0,List.cons.injEq] at e;obtain ⟨rfl,rfl⟩:=e;refine zl h.2 s1 i s2 rfl j ?_;rcases hj with hj | hj
   ·exact .inl (List.mem_cons_of_mem _ hj)
   ·rcases zw9.1 hj with hj | hj
    ·exact .inl (by rw[hj];exact List.mem_cons_self)
    ·exact .inr hj
def iQ(σ:List Nat)(listed:Array Bool):List Nat:=σ.filter fun i => !listed.getD i true
def oa(gs:List az)(σ:List Nat)(listed:Array Bool):List az:=(iQ σ listed).map fun i=>gs.getD i default
theorem ahO{σ:List Nat}{listed:Array Bool}{i:Nat}(hn:σ.Nodup)(hi:i∈σ)(hl:i<listed.size)(hu:listed.getD i true=false):∃ s1 s2,σ=s1++i::s2∧iQ σ listed=(s1.filter fun j => !listed.getD j true)++i::(s2.filter fun j => !listed.getD j true) ∧
  iQ σ (listed.setIfInBounds i true)=(s1.filter fun j => !listed.getD j true)++(s2.filter fun j => !listed.getD j true):=by
 obtain ⟨s1,s2,rfl⟩:=List.append_of_mem hi;have same:∀ j,j≠i→(listed.setIfInBounds i true).getD j true=listed.getD j true:=fun j hj=>getD_set_ne true (Ne.symm hj);have hit:(listed.setIfInBounds i true).getD i true=true:=by simp[hl]
 have hnd:=List.nodup_append.1 hn;have h1:∀ j∈s1,j≠i:=fun j hj=>hnd.2.2 j hj i List.mem_cons_self;have h2:∀ j∈s2,j≠i:=fun j hj e=>(List.nodup_cons.1 hnd.2.1).1 (e▸hj);refine ⟨s1,s2,rfl,?_,?_⟩
 ·simp only[iQ,List.filter_append,zw2,hu,Bool.not_false,if_true]
 ·simp only[iQ,List.filter_append,zw2,hit,Bool.not_true,zz7,if_false]
  congr 1
  ·exact List.filter_congr fun j hj=>by rw[same j (h1 j hj)]
  ·exact List.filter_congr fun j hj=>by rw[same j (h2 j hj)]
structure ze (hs:List FuncId) (ay:eK) (l:List Oper) (gs:List az) (σ:List Nat):Prop where
 af8:σ.Nodup
 lt:∀ i∈σ,i<gs.length
 all:∀ i,i<gs.length→i∈σ
 ok:∀ g∈gs,tf g.op=true∧jl ay g=true
 len:σ.length=gs.length
 oM:∀ i o,l[i]?=some o→∀ k∈en o,k<i
 wG:∀ (S:Nat→Prop),(∀ i o,l[i]?=some o→S i→∀ k∈en o,S k)→∀ s1 i s2 o,σ=s1++i::s2→l[i]?=some o→(∀ k∈en o,S k)→∀ j∈s1,¬ S j→nO hs ay (gs.getD j default) (gs.getD i default)=true
theorem ahr{hs:List FuncId}{ay:eK}{l:List Oper}{gs:List az}{cl σ:List Nat}(hlen:gs.length=l.length)(h:tk hs ay (l.map en) gs cl σ=true):ze hs ay l gs σ:=by
 simp only[tk,zz2,zy2,decide_eq_true_eq,zx4,List.contains_eq_mem] at h;obtain ⟨⟨h1,h2,h3,h4,h5⟩,h6,h7⟩:=h;have bt:∀ i o,l[i]?=some o→(∀ k∈en o,k<i)∧(∀ j,(cl.getD i 0).testBit j=true→j∈en o∨∃ k∈en o,(cl.getD k 0).testBit j=true):=by
  intro i o ho;have hi:i<l.length:=(zy4.1 ho).1;have h8:=h7 i (by omega);have hon:(l.map en).getD i []=en o:=by simp[zz1,ho]
  rw[hon] at h8;have hb:=Nat.eq_of_beq_eq_true h8.2;exact ⟨h8.1,fun j hj=>yF (by rw[←hb];exact hj)⟩
 refine ⟨J6 h2,h3,h4,h5,Nat.eq_of_beq_eq_true h1,fun i o ho=>(bt i o ho).1,?_⟩;intro S hS s1 i s2 o e ho hon j hj hnj;have key:∀ n i o,i≤n→l[i]?=some o→(∀ k∈en o,S k)→∀ j,(cl.getD i 0).testBit j=true→S j:=by
  intro n
  induction n with
  |zero =>
   intro i o hi ho hon j hj;obtain ⟨h8,h9⟩:=bt i o ho;rcases h9 j hj with h | ⟨k,hk,_⟩
   ·exact hon j h
   ·have:=h8 k hk;omega
  |succ n ih =>
   intro i o hi ho hon j hj;obtain ⟨h8,h9⟩:=bt i o ho;rcases h9 j hj with h | ⟨k,hk,hjk⟩
   ·exact hon j h
   ·have hki:=h8 k hk;have hkl:k<l.length:=Nat.lt_trans hki (zy4.1 ho).1;obtain ⟨ok,hok⟩:∃ ok,l[k]?=some ok:=⟨l[k],zz8 hkl⟩
    exact ih k ok (by omega) hok (hS k ok hok (hon k hk)) j hjk
 rcases zl h6 s1 i s2 e j (.inr hj) with h | h
 ·exact absurd (key i i o (zz6 _) ho hon j h) hnj
 ·exact h
section
variable {c:cI}
theorem adX{K:ae→Prop}{hs:List FuncId}{ay:eK}{bK:Array Oper}{Q:Exit→Act→World→Prop}{o:Oper}{g:az}{rest:List az}{A:ae}{a:Act}{w:World}{Kw:Act→World→Prop}(hg:nE c.P c.n bK o=some g)(hi:eT ay A)(ho:tf g.op=true∧jl ay g=true)(hwp:cB c.P hs K (aA (g::rest) A))(hs':cn c A a w)
  (hK:∀ B a' w',cB c.P hs K (aA rest B)→eT ay B→cn c B a' w'→Kw a' w'):if Region.wanted o (yielded bK a.tmps) then o.wpIn c.bn 9 c.P a w Kw Q else (∀ f,o.about c.P w a.eval=some f→c.bn.fn f)∧Kw (a.put o.dst undef) w:=by
 obtain ⟨h1,h2,h3,h4⟩:=oP hg;have step:cB c.P hs K (a7 A g.dst g.op rest (aA rest))→o.wpIn c.bn 9 c.P a w Kw Q:=fun h =>
  wi h1 h2.symm (by rw[h2];exact h3) (cB.one (Y:=c.Y) hi ho.1 ho.2 h) hs' (fun B a' w' hw hs2=>by
   cases hw with
   |done hk=>exact hK B a' w' hk.1 hk.2 hs2)
 simp only[aA] at hwp;rcases h4 with ⟨h5,h6⟩ | ⟨j,b,t,h5,h6,h7⟩
 ·rw[h6] at hwp;have hw:Region.wanted o (yielded bK a.tmps)=true:=by simp[Region.wanted,h5]
  rw[hw,if_pos rfl];exact step hwp
 ·rw[h7] at hwp;simp only at hwp;split at hwp
  ·rename_i b' hb';rw[wz hs' h5 h6 hb'];split at hwp
   ·rename_i hbb;subst hbb;simp only[BEq.rfl,if_true];exact step hwp
   ·rename_i hbb;have:(b'==b)=false:=by simpa using hbb
    rw[this];simp only[zz7,if_false];exact ⟨fun f _=>nJ c f,hK _ _ _ hwp (hi.put (fun _=>rfl) fun _ _ _ _=>rfl) (by rw[h2];exact hs'.pE h3)⟩
  ·rename_i hb';rw[wA hs' h5 h6 hb'];simp only[zz7,if_false];exact ⟨fun f _=>nJ c f,hK _ _ _ hwp (hi.put (fun _=>rfl) fun _ _ _ _=>rfl) (by rw[h2];exact hs'.pE h3)⟩
  ·cases hwp
theorem PM{K:ae→Prop}{fs:List FuncId}{ay:eK}{bK:Array Oper}{gs:List az}{σ:List Nat}{Q:Exit→Act→World→Prop}(hQ:∀ B a w,K B→cn c B a w→Q .normal a w)(hgs:gB c.P c.n bK bK.toList=some gs)(hd:ze fs ay bK.toList gs σ) :
  ∀ (fuel:Nat) (listed:Array Bool) (A:ae) (a:Act) (w:World),listed.size=bK.size→(∀ i o,bK.toList[i]?=some o→listed.getD i false=true→∀ k∈en o,listed.getD k false=true)→(iQ σ listed).length≤fuel →
   eT ay A→cB c.P fs K (aA (oa gs σ listed) A)→cn c A a w→wpAnyIn c.bn 9 c.P .any bK Q fuel listed a w:=by
 obtain ⟨hlen,hat⟩:=mP hgs;have onOf_mem:∀ (o:Oper) (e:Edge),e∈o.after→Region.binds .any e=true→e.on∈en o:=fun o e he hb=>by
  simp only[en,zx5,zw5];exact ⟨e,⟨by simpa using he,hb⟩,rfl⟩
 have of_onOf:∀ (o:Oper) (k:Nat),k∈en o→∃ e∈o.after,Region.binds .any e=true∧e.on=k:=fun o k hk=>by
  simp only[en,zx5,zw5] at hk;obtain ⟨e,⟨h1,h2⟩,h3⟩:=hk;exact ⟨e,by simpa using h1,h2,h3⟩
 have hgl:gs.length=bK.size:=by rw[hlen,zw8]
 have last:∀ (listed:Array Bool) (A:ae) (a:Act) (w:World),listed.size=bK.size→Region.ready .any bK listed=[]→cB c.P fs K (aA (oa gs σ listed) A)→cn c A a w→Q .normal a w:=by
  intro listed A a w hsz hr hwp hs;have hnone:iQ σ listed=[]:=by
   have all:∀ n,∀ i,i<n→i<bK.size→listed.getD i true=true:=by
    intro n
    induction n with
    |zero=>intro i hi;omega
    |succ n ih =>
     intro i hi his;cases hb:listed.getD i true with
     |true=>rfl
     |false =>
      exfalso
      have ho:bK[i]?=some bK[i]:=Array.getElem?_eq_getElem his;have:i∈Region.ready .any bK listed:=mem_ready.2 ⟨hb,bK[i],ho,fun e he hbd=>by
       have hlt:=hd.oM i bK[i] (by simp) e.on (onOf_mem _ e he hbd);have h1:=ih e.on (by omega) (by omega);have h2:e.on<listed.size:=by omega
       simpa[Array.getD_eq_getD_getElem?,h2] using h1⟩
      rw[hr] at this;cases this
   simp only[iQ];refine List.filter_eq_nil_iff.2 fun i hi =>?_;have:=all (i+1) i (by omega) (by rw[←hgl];exact hd.lt i hi);simp only[this,Bool.not_true,zz7,not_false_eq_true]
  simp only[oa,hnone,zx2,aA] at hwp;cases hwp with
  |done hk=>exact hQ A a w hk hs
 intro fuel
 induction fuel with
 |zero =>
  intro listed A a w hsz hcl hcnt hinv hwp hs;have hnone:iQ σ listed=[]:=zv1.1 (by omega);have hr:Region.ready .any bK listed=[]:=by
   refine List.eq_nil_iff_forall_not_mem.2 fun i hi =>?_;obtain ⟨h1,o,ho,_⟩:=mem_ready.1 hi;have:i∈iQ σ listed:=by
    simp only[iQ,zw5,h1,Bool.not_false,and_true];exact hd.all i (by rw[hgl];exact (zx8.1 ho).1)
   rw[hnone] at this;cases this
  exact ⟨hr,last listed A a w hsz hr hwp hs⟩
 |succ fuel ih =>
  intro listed A a w hsz hcl hcnt hinv hwp hs;refine ⟨fun hr=>last listed A a w hsz hr hwp hs,fun i hi =>?_⟩;obtain ⟨hun,o,ho,hall⟩:=mem_ready.1 hi;have hin:i<bK.size:=(zx8.1 ho).1;obtain ⟨s1,s2,hσ,e1,e2⟩:=ahO hd.af8 (hd.all i (by omega)) (by omega) hun;have hol:bK.toList[i]?=some o:=by simpa using ho
  obtain ⟨g,hgi,hcg⟩:=hat i o hol;have hon:∀ k∈en o,listed.getD k false=true:=fun k hk=>by
   obtain ⟨e,h1,h2,h3⟩:=of_onOf o k hk;exact h3▸hall e h1 h2
  have hgd:gs.getD i default=g:=by simp[zz1,hgi]
  have hwp':cB c.P fs K (aA (g::oa gs σ (listed.setIfInBounds i true)) A):=by
   simp only[oa,e1,zx6,zz9,hgd] at hwp;simp only[oa,e2,zx6];refine cB.p9 hinv (fun j hj =>?_) hwp;obtain ⟨k,hk,rfl⟩:=zx5.1 hj;obtain ⟨hk1,hk2⟩:=zw5.1 hk;have:=hd.wG (fun k=>listed.getD k false=true) hcl s1 i s2 o hσ hol hon k hk1 (by
    have hks:k<listed.size:=by
     have:=hd.lt k (by rw[hσ];exact List.mem_append_left _ hk1);omega
    simp[Array.getD_eq_getD_getElem?,hks] at hk2 ⊢;exact hk2)
   rw[hgd] at this;refine ⟨this,(hd.ok _ ?_).2⟩;have hkl:=hd.lt k (by rw[hσ];exact List.mem_append_left _ hk1);rw[zz1,zz8 hkl];exact zy6 _
  unfold wpOpIn;rw[ho];refine adX hcg hinv (hd.ok g (List.mem_of_getElem? hgi)) hwp' hs fun B a' w' hw hiB hs'=>ih _ B a' w' (by simpa using hsz) ?_ ?_ hiB hw hs'
  ·intro m om hom hm k hk;by_cases hmi:m=i
   ·subst hmi;rw[hol,u8] at hom;subst hom;exact getD_set_true (hon k hk)
   ·rw[getD_set_ne false (Ne.symm hmi)] at hm;exact getD_set_true (hcl m om hom hm k hk)
  ·have:(iQ σ listed).length=(iQ σ (listed.setIfInBounds i true)).length+1:=by
    rw[e1,e2];simp;omega
   omega
def pC(σ:List Nat)(gs:List az):List az:=σ.map fun i=>gs.getD i default
theorem U.ahL{Q:Exit→ae→Prop}{A:ae}{on:List (List Nat)}{gs:List az}(hs:List FuncId)(ay:eK)(cl σ:List Nat)(hd:tk hs ay on gs cl σ=true)(hi:eT ay A)(h:∀ K:ae→Prop,(∀ B,Q .normal B→K B)→cB c.P hs K (aA (pC σ gs) A)):U c (.b6 (some on) gs) Q A:=by
 intro code hc a w hs';cases code <;>simp only[eL] at hc <;>try (first | (cases hc;done) | ((repeat' split at hc) <;>cases hc;done))
 rename_i id bK draw;split at hc
 ·rename_i gs' hgs;split at hc
  case isFalse=>cases hc
  rename_i hok;simp only[u8,aM.b6.injEq] at hc;obtain ⟨he,rfl⟩:=hc;cases draw with
  |false=>cases he
  |true =>
   simp only[cond_true,u8] at he;subst he;simp only[Bool.not_true,Bool.false_or] at hok;have hp:=ahr (mP hgs).1 hd;refine wpIn_region_any hok (PM (K:=Q .normal) (fun B a w hk hs=>⟨B,hk,hs⟩) hgs hp bK.size (Array.replicate bK.size false) A a _ (by simp) ?_ ?_ hi ?_ ?_)
   ·intro i o _ h
    exfalso
    simp only[Array.getD_eq_getD_getElem?,Array.getElem?_replicate] at h;split at h <;>simp at h
   ·refine zv7 (zv3 _ _) ?_;rw[hp.len,(mP hgs).1,zw8];exact zz6 _
   ·have hall:iQ σ (Array.replicate bK.size false)=σ:=by
     simp only[iQ];refine List.filter_eq_self.2 fun i hi =>?_;have h1:=hp.lt i hi;rw[(mP hgs).1,zw8] at h1;simp[h1]
    simp only[oa,hall];exact h _ fun _ hb=>hb
   ·obtain ⟨D,E,hs'⟩:=hs';exact ⟨D,E,hs'.grow (w' := { w with drawn:=w.drawn+1 }) ⟨rfl,rfl,rfl,zz6 _,fun _ _=>rfl⟩ (fun _ _ h=>h) (fun _ _ h _=>h) (fun b o h=>hs'.c9 b o h)⟩
 ·cases hc
def o7(ts:List (Nat×I)):eK→Prop
 | []=>True
 |(s,ns)::ay=>(b9 ts s).only (fun n=>ns.contains n)=true∧o7 ts ay
theorem eT.of{ts:List (Nat×I)}{os:List (Nat×ah)}{ay:eK}(h:o7 ts ay):eT ay (ar ts os):=by
 intro s ns hn;simp only[ar]
 induction ay with
 |nil=>cases hn
 |cons q ay ih =>
  obtain ⟨s',ns'⟩:=q;simp only[o7] at h;simp only[ji,List.find?_cons] at hn;split at hn
  ·rename_i e;simp only[zy3,u8] at hn;simp only[beq_iff_eq] at e;subst e hn;exact h.1
  ·exact ih h.2 hn
end
end Go.Abs
namespace Go.Abs
open Go Go.RowKit
open Enc (enc)
section
variable {α:Type} [Enc α] {P:Program} {Y:Value→List I→List (Nat×ah)→cR→Prop} {K:ae→Prop} {A:ae} {rest:List az} {esz bytes:Nat}
theorem tH{n lo k:Nat}{xs:List α}(ho:A.o n=some (.box (.agg (xs.map enc))))(h:lo+k≤xs.length):ep A esz (.view n [] esz lo k)=some (((xs.drop lo).take k).map enc):=by
 have h1:cz A (.ptr n [])=some (.agg (xs.map enc)):=by simp only[cz,ho];rfl
 simp only[ep,h1,zy1];rw[if_pos ⟨h,trivial⟩,List.map_take,List.map_drop]
theorem aik{xs ys:List α}(h:xs.length=ys.length):I.cN (xs.map enc)=I.cN (ys.map enc):=by
 rw[qX,qX,h]
end
theorem aiq{n:Nat}{p:List Nat}{sz k total i:Nat}(h:i≤k)(hk:k≤total):∃ y,gL n p sz 0 k total (some (.int .i64 i)) none none=some y:=by
 simp only[gL,gX];rw[if_pos ⟨by omega,by omega,by omega⟩];split <;>exact ⟨_,rfl⟩
theorem JQ(k:Nat):b9 [] k=.c8:=rfl
def gH(ay:List Nat):List (Nat×I)→List (Nat×I)
 | []=>[]
 |(s,v)::ts=>if ay.contains s=true then (s,v)::gH ay ts else gH ay ts
theorem afa(ay:List Nat):gH ay []=[]:=rfl
theorem ae9(ay:List Nat)(s:Nat)(v:I)(ts:List (Nat×I)):gH ay ((s,v)::ts)=if ay.contains s=true then (s,v)::gH ay ts else gH ay ts:=rfl
theorem JP(ay:List Nat)(t:Nat):∀ ts,b9 (gH ay ts) t=.c8∨b9 (gH ay ts) t=b9 ts t
 | []=>.inl rfl
 |(s,v)::ts=>by
  simp only[gH];have ih:=JP ay t ts;by_cases hs:ay.contains s=true
  ·rw[if_pos hs];simp only[b9];split
   ·exact .inr rfl
   ·exact ih
  ·rw[if_neg hs];simp only[b9];split
   ·rename_i e;subst e
    left
    have:∀ ts,b9 (gH ay ts) t=.c8:=by
     intro ts
     induction ts with
     |nil=>rfl
     |cons q ts ih2 =>
      obtain ⟨s',v'⟩:=q;simp only[gH];split
      ·rename_i h';simp only[b9];have:t≠s':=fun e=>hs (e▸h');rw[if_neg this];exact ih2
      ·exact ih2
    exact this ts
   ·exact ih
theorem U.fA(ay:List Nat){c:cI}{x:aM}{Q:Exit→ae→Prop}{ts:List (Nat×I)}{os:List (Nat×ah)}(h:U c x Q (ar (gH ay ts) os)):U c x Q (ar ts os):=by
 refine U.sub ?_ h;rintro cc a w ⟨D,E,hs⟩;refine ⟨D,E,hs.sz,hs.eF,fun t =>?_,hs.dK,hs.cV,hs.c9,hs.bU,hs.cM,hs.dQ,hs.eO,hs.cG,hs.eS,hs.fq⟩;simp only[ar];rcases JP ay t ts with e | e
 ·rw[e];simp[aS]
 ·rw[e];exact hs.ea t
theorem wQ:(∀ ay,gH ay []=[])∧(∀ ay s v ts,gH ay ((s,v)::ts)=if ay.contains s=true then (s,v)::gH ay ts else gH ay ts)∧(∀ (a:Nat) l b,(a::l).contains b=(b==a||l.contains b))∧(∀ b:Nat,([]:List Nat).contains b=false)∧(∀ b,(false||b)=b)∧(∀ b,(true||b)=true)∧(∀ b,(b||true)=true)∧(∀ b,(b||false)=b)∧((false=true)=False) :=
 ⟨afa,ae9,fun _ _ _=>List.contains_cons,fun _=>rfl,fun _=>rfl,fun _=>rfl,fun b=>by cases b <;>rfl,fun b=>by cases b <;>rfl,by simp⟩
end Go.Abs
namespace Go.Abs
open Go Go.RowKit
open Enc (enc)
def wZ:Option ah→Option (List I×List I)
 |some (.cq ks vs)=>some (ks,vs)
 |_=>none
noncomputable def xk(A:ae)(n:Nat)(rest:List az):Option (List I×List I)→cE
 |some (ks,vs)=>aA rest (A.aN n (.cq ks vs))
 |none=>.fail
noncomputable def xj(A:ae)(n:Nat)(ty:cH)(k v:I)(rest:List az):Option ah→cE
 |some (.cq ks vs)=>xk A n rest (fP ty k v ks vs)
 |_=>.fail
noncomputable def xi(A:ae)(ty:cH)(k v:I)(rest:List az):I→cE
 | .mref n=>xj A n ty k v rest (A.o n)
 |_=>.fail
noncomputable def xf(A:ae)(d:Nat)(rest:List az):Option ah→cE
 |none=>aA rest ((A.aN d (.cq [] [])).put d (.mref d))
 |some _=>.fail
open Classical in
noncomputable def sV(A:ae)(d bytes:Nat)(z:I)(rest:List az):I→cE
 | .int _ n=>if 0≤n∧n.toNat*bytes≤281474976710656∧n.toNat≤maxLen then aA rest ((A.aN d (.box (.agg (List.replicate n.toNat z)))).put d (.view d [] 1 0 n.toNat)) else .fail
 |_=>.fail
noncomputable def sU(A:ae)(d bytes:Nat)(z n:I)(rest:List az):Option ah→cE
 |none=>sV A d bytes z rest n
 |some _=>.fail
noncomputable def x7(A:ae)(d:Nat)(rest:List az):I→cE
 | .cL ks vs=>aA rest ((A.aN d (.it ks vs (List.range ks.length) none)).put d (.dj d))
 |_=>.fail
noncomputable def tE(A:ae)(d:Nat)(x:I)(rest:List az):Option ah→cE
 |none=>x7 A d rest x
 |some _=>.fail
def u5:Option ah→Option I
 |some (.it ks vs _ cur)=>oS ks vs cur
 |_=>none
def u4(A:ae):I→Option I
 | .dj n=>u5 (A.o n)
 |_=>none
open Classical in
noncomputable def py(A:ae)(d:Option Nat)(n:Nat)(rest:List az):Option ah→cE
 |some (.it ks vs left _)=>if left=[] then aA rest (A.aK d (.tuple [.bool false])) else
   .any (fun i=>i∈left) fun i=>match ks[i]?,vs[i]? with
    |some kk,some x=>aA rest ((A.aN n (.it ks vs (left.filter (· != i)) (some i))).aK d (.tuple [.bool true,kk,x]))
    |_,_=>.fail
 |_=>.fail
noncomputable def xn(A:ae)(d:Option Nat)(rest:List az):I→cE
 | .dj n=>py A d n rest (A.o n)
 |_=>.fail
section
variable (d:Option Nat) (rest:List az) (A:ae)
theorem agD(x:aH):bN A d (.nilC x) rest=cK (mg (ab A x)) (c7 d rest A):=rfl
theorem agH(neg:Bool)(x y:aH):bN A d (.ptrE neg x y) rest=cK (mn neg (iK (ab A x)) (iK (ab A y))) (c7 d rest A):=rfl
theorem agx(ty:cH)(z:I)(ok:Bool)(m k:aH):bN A d (.lk ty z ok m k) rest=cK (qy ty z ok (ab A k) (fX A (ab A m))) (c7 d rest A):=rfl
theorem afK(n:Nat):fX A (.mref n)=wZ (A.o n):=by
 simp only[fX];cases A.o n with
 |none=>rfl
 |some y=>cases y <;>rfl
theorem agB(ty:cH)(m k v:aH):bN A none (.gn ty m k v) rest=xi A ty (ab A k) (ab A v) rest (ab A m):=by
 simp only[bN,a7];cases ab A m <;>rfl
theorem agz(d:Nat):bN A (some d) .jB rest=xf A d rest (A.o d):=by
 simp only[bN,a7];cases A.o d <;>rfl
theorem agA(d e bytes:Nat)(z:I)(n:aH):bN A (some d) (.j0 e bytes z n) rest=sU A d bytes z (ab A n) rest (A.o d):=by
 simp only[bN,a7];cases A.o d with
 |some _=>rfl
 |none=>simp only[sU];cases ab A n <;>rfl
theorem agI(d:Nat)(x:aH):bN A (some d) (.ka x) rest=tE A d (ab A x) rest (A.o d):=by
 simp only[bN,a7];cases A.o d with
 |some _=>rfl
 |none=>simp only[tE];cases ab A x <;>rfl
theorem agm(x:aH):bN A d (.ent x) rest=cK (u4 A (ab A x)) (c7 d rest A):=by
 simp only[bN,a7,a8];cases ab A x <;>rfl
theorem agF(x:aH):bN A d (.jk x) rest=xn A d rest (ab A x):=by
 simp only[bN,a7];cases ab A x <;>rfl
end
theorem ew :
  (∀ d rest A x,bN A d (.nilC x) rest=cK (mg (ab A x)) (c7 d rest A))∧(∀ n p,mg (.ptr n p)=some (.ptr n p))∧(∀ x,mg (.ref x)=some (.ref x)) ∧
  (∀ d rest A neg x y,bN A d (.ptrE neg x y) rest=cK (mn neg (iK (ab A x)) (iK (ab A y))) (c7 d rest A))∧(iK .nilp=some true)∧(∀ n p,iK (.ptr n p)=some false)∧(∀ x,iK (.ref x)=some false) ∧
  (mn false (some true) (some true)=some (.bool true))∧(mn false (some false) (some true)=some (.bool false))∧(mn true (some true) (some true)=some (.bool false))∧(mn true (some false) (some true)=some (.bool true)) ∧
  (∀ d rest A ty z ok m k,bN A d (.lk ty z ok m k) rest=cK (qy ty z ok (ab A k) (fX A (ab A m))) (c7 d rest A))∧(∀ A n,fX A (.mref n)=wZ (A.o n))∧(∀ A ks vs,fX A (.cL ks vs)=some (ks,vs))∧(∀ ks vs,wZ (some (.cq ks vs))=some (ks,vs)) ∧
  (∀ ty z ok k ks vs,qy ty z ok k (some (ks,vs))=qz ok (fW ty z k ks vs))∧(∀ v b,qz false (some (v,b))=some v)∧(∀ v b,qz true (some (v,b))=some (.tuple [v,.bool b])) ∧
  (∀ rest A ty m k v,bN A none (.gn ty m k v) rest=xi A ty (ab A k) (ab A v) rest (ab A m))∧(∀ A ty k v rest n,xi A ty k v rest (.mref n)=xj A n ty k v rest (A.o n))∧(∀ A n ty k v rest ks vs,xj A n ty k v rest (some (.cq ks vs))=xk A n rest (fP ty k v ks vs)) ∧
  (∀ A n rest ks vs,xk A n rest (some (ks,vs))=aA rest (A.aN n (.cq ks vs))) ∧
  (∀ rest A d,bN A (some d) .jB rest=xf A d rest (A.o d))∧(∀ A d rest,xf A d rest none=aA rest ((A.aN d (.cq [] [])).put d (.mref d))) ∧
  (∀ rest A d e bytes z n,bN A (some d) (.j0 e bytes z n) rest=sU A d bytes z (ab A n) rest (A.o d))∧(∀ A d bytes z n rest,sU A d bytes z n rest none=sV A d bytes z rest n) ∧
  (∀ rest A d x,bN A (some d) (.ka x) rest=tE A d (ab A x) rest (A.o d))∧(∀ A d x rest,tE A d x rest none=x7 A d rest x)∧(∀ A d rest ks vs,x7 A d rest (.cL ks vs)=aA rest ((A.aN d (.it ks vs (List.range ks.length) none)).put d (.dj d))) ∧
  (∀ d rest A x,bN A d (.ent x) rest=cK (u4 A (ab A x)) (c7 d rest A))∧(∀ A n,u4 A (.dj n)=u5 (A.o n))∧(∀ ks vs l cur,u5 (some (.it ks vs l cur))=oS ks vs cur) ∧
  (∀ d rest A x,bN A d (.jk x) rest=xn A d rest (ab A x))∧(∀ A d rest n,xn A d rest (.dj n)=py A d n rest (A.o n)) :=
 ⟨agD,fun _ _=>rfl,fun _=>rfl,agH,rfl,fun _ _=>rfl,fun _=>rfl,rfl,rfl,rfl,rfl,agx,afK,fun _ _ _=>rfl,fun _ _=>rfl,fun _ _ _ _ _ _=>rfl,fun _ _=>rfl,fun _ _=>rfl,
  fun rest A ty m k v=>agB rest A ty m k v,fun _ _ _ _ _ _=>rfl,fun _ _ _ _ _ _ _ _=>rfl,fun _ _ _ _ _=>rfl,fun rest A d=>agz rest A d,fun _ _ _=>rfl,fun rest A d e bytes z n=>agA rest A d e bytes z n,fun _ _ _ _ _ _=>rfl,
  fun rest A d x=>agI rest A d x,fun _ _ _ _=>rfl,fun _ _ _ _ _=>rfl,agm,fun _ _=>rfl,fun _ _ _ _=>rfl,agF,fun _ _ _ _=>rfl⟩
theorem eJ:(∀ n p z lo k,bV none (.view n p z lo k)=true)∧(∀ n,bV none (.mref n)=true)∧(∀ n p,bV none (.ptr n p)=true)∧(∀ x,bV none (.ref x)=true)∧bV none .nilp=true∧bV none .da=true∧bV none (.raw (.map none))=true∧(∀ ks vs,bV none (.cL ks vs)=true)∧(∀ {α:Type} [Enc α] (l:List α),bV none (enc l)=true) :=
 ⟨fun _ _ _ _ _=>rfl,fun _=>rfl,fun _ _=>rfl,fun _=>rfl,rfl,rfl,rfl,fun _ _=>rfl,fun l=>by simp[lh,lY]⟩
theorem afU{A:ae}{d bytes:Nat}{z:I}{rest:List az}{n:Nat}(h1:n*bytes≤281474976710656)(h2:n≤maxLen):sV A d bytes z rest (.int .i64 n)=aA rest ((A.aN d (.box (.agg (List.replicate n z)))).put d (.view d [] 1 0 n)):=by
 simp only[sV,Int.toNat_natCast];rw[if_pos ⟨Int.natCast_nonneg n,h1,h2⟩]
section
variable {α:Type} [Enc α] [DecidableEq α] {ty:cH}
theorem vm(av:∀ x y:α,cg ty (enc x) (enc y)=some (decide (x=y)))(k:α):∀ (ks:List α) (i:Nat),eM ty (enc k) (ks.map enc) i=some ((ks.findIdx? fun x=>decide (k=x)).map (· + i))
 | [],i=>rfl
 |x::ks,i=>by
  simp only[zz9,eM,av,List.findIdx?_cons];by_cases h:k=x
  ·simp[h]
  ·simp only[h,decide_false,zz7,if_false];rw[vm av k ks (i+1)];cases ks.findIdx? fun x=>decide (k=x) with
   |none=>rfl
   |some j=>simp;omega
theorem wU(av:∀ x y:α,cg ty (enc x) (enc y)=some (decide (x=y)))(z:I)(k:α)(ks:List α)(vs:List I) :
  fW ty z (enc k) (ks.map enc) vs=match ks.findIdx? fun x=>decide (k=x) with
   |some i=>(vs[i]?).map fun v=>(v,true)
   |none=>some (z,false):=by
 simp only[fW,av,Option.isSome_some,if_true,vm av];cases ks.findIdx? fun x=>decide (k=x) <;>rfl
theorem J2(av:∀ x y:α,cg ty (enc x) (enc y)=some (decide (x=y)))(k:α)(v:I)(hv:v.cd=true)(ks:List α)(vs:List I) :
  fP ty (enc k) v (ks.map enc) vs=match ks.findIdx? fun x=>decide (k=x) with
   |some i=>some (ks.map enc,vs.set i v)
   |none=>some ((ks++[k]).map enc,vs++[v]):=by
 simp only[fP,av,Option.isSome_some,hv,JA (dM k),and_self,if_true,vm av];cases ks.findIdx? fun x=>decide (k=x) with
 |none=>simp
 |some i=>rfl
omit [Enc α] in
theorem CT{k:α}{ks:List α} : (ks.findIdx? fun x=>decide (k=x)).isSome=decide (k∈ks):=by
 induction ks with
 |nil=>rfl
 |cons x ks ih =>
  simp only[List.findIdx?_cons,zw9];by_cases h:k=x
  ·simp[h]
  ·simp only[h,decide_false,zz7,if_false,Option.isSome_map,ih,false_or]
theorem afC(av:∀ x y:α,cg ty (enc x) (enc y)=some (decide (x=y)))(k:α)(ks:List α):fW ty (.bool false) (enc k) (ks.map enc) (List.replicate ks.length (.bool true))=some (.bool (decide (k∈ks)),decide (k∈ks)):=by
 rw[wU av,←CT];cases h:ks.findIdx? fun x=>decide (k=x) with
 |none=>rfl
 |some i =>
  have:=(List.findIdx?_eq_some_iff_getElem.1 h).1;simp[this]
def mJ{α:Type}[DecidableEq α](ks:List α)(k:α):List α:=if k∈ks then ks else ks++[k]
omit [Enc α] in
theorem afO{ks:List α}{k x:α} : x∈mJ ks k↔x=k∨x∈ks:=by
 unfold mJ;split
 ·rename_i h;exact ⟨.inr,fun h2=>h2.elim (fun e=>e▸h) id⟩
 ·simp[or_comm]
theorem af1(av:∀ x y:α,cg ty (enc x) (enc y)=some (decide (x=y)))(k:α)(ks:List α):fP ty (enc k) (.bool true) (ks.map enc) (List.replicate ks.length (.bool true))=some ((mJ ks k).map enc,List.replicate (mJ ks k).length (.bool true)):=by
 rw[J2 av k _ rfl];have hm:=CT (k:=k) (ks:=ks);cases h:ks.findIdx? fun x=>decide (k=x) with
 |none =>
  rw[h] at hm;have:k∉ks:=by simpa using hm.symm
  simp only[mJ,if_neg this]
  congr 2
  rw[zz5,List.length_singleton,List.replicate_succ']
 |some i =>
  rw[h] at hm;have:k∈ks:=by simpa using hm.symm
  simp only[mJ,if_pos this]
  congr 2
  have:=(List.findIdx?_eq_some_iff_getElem.1 h).1;exact List.ext_getElem (by simp) fun j h1 h2=>by
   simp only[List.getElem_set,List.getElem_replicate];split <;>rfl
end
section
variable {α:Type} [Enc α]
theorem zx{xs:List α}{i:Nat}(d:α)(h:i<xs.length):jO i [] (some (xs.map enc))=some (enc (xs.getD i d)):=by
 simp[jO,oK,h,I.at,zz1]
theorem Ny{A:ae}{n i:Nat}{xs:List α}(v ao:α){rest:List az}(hA:Enc.fI α=false)(h:i<xs.length):dO A none n [i] (.agg (xs.map enc)) (enc v) rest (some (enc ao))=aA rest (A.aN n (.box (.agg ((xs.set i v).map enc)))):=by
 rw[eg (dz v) (by rw[lh,hA];rfl) ((ev v).trans (ev ao).symm)];have h2:(xs.map (enc (α:=α)))[i]?=some (enc (xs[i])):=by simp[h]
 simp only[I.dx,h2,List.map_set]
end
theorem aiI{A:ae}{n i:Nat}{xs:List Bool}(h:i<xs.length)(v ao:Bool)(rest:List az):dO A none n [i] (.agg (xs.map enc)) (.bool v) rest (some (.bool ao))=aA rest (A.aN n (.box (.agg ((xs.set i v).map enc)))):=Ny v ao rfl h
theorem nx{A:ae}{n i:Nat}{xs:List Int}(h:i<xs.length)(v ao:Int)(rest:List az):dO A none n [i] (.agg (xs.map enc)) (.int .i64 v) rest (some (.int .i64 ao))=aA rest (A.aN n (.box (.agg ((xs.set i v).map enc)))):=Ny v ao rfl h
theorem zy{xs:List Bool}{i:Nat}(h:i<xs.length):jO i [] (some (xs.map enc))=some (.bool (xs.getD i false)):=zx false h
theorem gA{xs:List Int}{i:Nat}(h:i<xs.length):jO i [] (some (xs.map enc))=some (.int .i64 (xs.getD i 0)):=zx 0 h
theorem Jz{m sz lo l i:Nat}{fs:List I}(h:i<l):ma m [] sz lo l sz (i:Int) (some fs)=some (.ptr m [lo+i]):=by rw[wO h];rfl
theorem X6{α:Type}[Enc α]{A:ae}{m n sz k:Nat}{xs:List α}(ho:A.o n=some (.box (.agg (xs.map enc))))(hs:Enc.sz α=sz)(hk:k=xs.length):dS A (m+1) (.view n [] sz 0 k)=some (enc xs):=by
 subst hk hs;have h1:cz A (.ptr n [])=some (.agg (xs.map enc)):=by simp only[cz,ho];rfl
 simp only[dS,I.bp,zz7,if_false,h1];have h2:((xs.map (enc (α:=α))).drop 0).take xs.length=xs.map enc:=by rw[List.drop_zero,zw6 (by simp)]
 rw[h2,if_pos (kj xs),gE]
theorem gZ:(∀ {α:Type} [Enc α] (x:α),(enc x).bp=true)∧(∀ n p z lo k,(I.view n p z lo k).bp=false)∧(∀ n,(I.mref n).bp=false)∧(∀ n p,(I.ptr n p).bp=false)∧(∀ n k,(I.own n k).bp=false) :=
 ⟨@dM,fun _ _ _ _ _=>rfl,fun _=>rfl,fun _ _=>rfl,fun _ _=>rfl⟩
end Go.Abs
namespace Go.Abs
open Go Go.RowKit
open Enc (enc)
theorem aF.PH{A:ae}{d n T z:Nat}(hd:A.t d=.nils z)(hn:A.o n=none)(hlt:n<1000000):aF A ((A.aN n (.cO T [])).put d (.own n 0)):=by
 rintro c a w ⟨D,E,h⟩;have av:E n=none:=by have:=h.bU n;rw[hn] at this;exact this
 have hl:dG w D E w D (fun m=>if m=n then some (.rw none 0) else E m):=by
  have ee:∀ {m:Nat} {e:bS},E m=some e→(if m=n then some (.rw none 0) else E m)=some e:=fun {m e} he=>by
   have:m≠n:=fun e=>by rw[e,av] at he;cases he
   rw[if_neg this];exact he
  refine ⟨fun _ _ h=>h,fun _ _ _ _ h=>h,fun m b aJ he=>ee he,fun m aD l he =>?_,fun m b he=>ee he,fun m b he=>ee he,fun _ _ _ _ h=>h⟩
  ·have:m≠n:=fun e=>by rw[e,av] at he;cases he
   exact ⟨aD,l,by simp only[if_neg this];exact he,zz6 _,fun _=>rfl⟩
 refine ⟨D,fun m=>if m=n then some (.rw none 0) else E m,h.sz,h.eF,fun t =>?_,h.dK,h.cV,h.c9,fun m =>?_,fun m m' e e' b h1 h2 h3 h4 =>?_,fun m e hm =>?_,h.eO,h.cG,h.eS,h.fq⟩
 ·simp only[ae.put,ae.aN];by_cases ht:t=d
  ·subst ht;simp only[if_true];have hv:=h.ea t;rw[hd] at hv;obtain ⟨cs,q1,q2⟩:=hv;simp only[af] at q2;subst q2;refine ⟨[.slice none 0 0],by simpa[bG,I.isAgg] using q1,?_⟩;simp only[af,if_true];exact ⟨none,0,rfl,zz6 _,⟨_,_,_,rfl⟩,fun _=>trivial⟩
  ·simp only[if_neg ht];exact aS.bE hl (h.ea t)
 ·simp only[ae.put,ae.aN];by_cases hm:m=n
  ·subst hm;simp only[if_true,cY];exact ⟨none,by simp,by simp,trivial⟩
  ·simp only[if_neg hm];exact (h.bU m).bE hl (by simp only[if_neg hm]) fun _ _ _ _=>⟨rfl,fun _ ho=>ho⟩
 ·by_cases hm:m=n <;>by_cases hm':m'=n
  ·rw[hm,hm']
  ·simp only[if_pos hm,u8] at h1;subst h1;simp[bS.aD] at h3
  ·simp only[if_pos hm',u8] at h2;subst h2;simp[bS.aD] at h4
  ·simp only[if_neg hm] at h1;simp only[if_neg hm'] at h2;exact h.cM m m' e e' b h1 h2 h3 h4
 ·have hmn:m≠n:=fun e=>by rw[e,h.jU (.inr hlt)] at hm;cases hm
  simp only[if_neg hmn];exact h.dQ m e hm
theorem aF.zk{ts:List (Nat×I)}{os:List (Nat×ah)}(d n T z:Nat)(hd:b9 ts d=.nils z)(hn:aj os n=none){B:ae}(h:aF (ar ((d,.own n 0)::ts) ((n,.cO T [])::os)) B)(hlt:n<1000000:=by decide):aF (ar ts os) B :=
 ((aF.PH (A:=ar ts os) (T:=T) hd hn hlt).trans (by rw[nV,sR];exact aF.refl _)).trans h
theorem aF.PI{A:ae}{m n T z:Nat}{p:List Nat}{b:I}(hm:A.o m=some (.box b))(hp:b.at p=some (.nils z))(hn:A.o n=none)(hlt:n<1000000):aF A ((A.aN n (.cO T [])).aN m (.box (b.dx p (.own n 0)))):=by
 rintro c a w ⟨D,E,h⟩;have av:E n=none:=by have:=h.bU n;rw[hn] at this;exact this
 have hmn:m≠n:=fun e=>by rw[e,hn] at hm;cases hm
 have hl:dG w D E w D (fun m=>if m=n then some (.rw none 0) else E m):=by
  have ee:∀ {m:Nat} {e:bS},E m=some e→(if m=n then some (.rw none 0) else E m)=some e:=fun {m e} he=>by
   have:m≠n:=fun e=>by rw[e,av] at he;cases he
   rw[if_neg this];exact he
  refine ⟨fun _ _ h=>h,fun _ _ _ _ h=>h,fun m b aJ he=>ee he,fun m aD l he =>?_,fun m b he=>ee he,fun m b he=>ee he,fun _ _ _ _ h=>h⟩
  ·have:m≠n:=fun e=>by rw[e,av] at he;cases he
   exact ⟨aD,l,by simp only[if_neg this];exact he,zz6 _,fun _=>rfl⟩
 refine ⟨D,fun m=>if m=n then some (.rw none 0) else E m,h.sz,h.eF,fun t=>aS.bE hl (h.ea t),h.dK,h.cV,h.c9,fun k =>?_,fun m m' e e' b h1 h2 h3 h4 =>?_,fun m e hm =>?_,h.eO,h.cG,h.eS,h.fq⟩
 ·simp only[ae.aN];by_cases hk:k=m
  ·subst hk;have ho:=h.bU k;rw[hm] at ho;obtain ⟨b',cs,T',h1,h2,h3,h4,h5⟩:=ho;obtain ⟨q1,q2⟩:=MF (y:=.own n 0) (af.bE hl _ _ h4) hp (fun ds hd=>by
    simp only[af] at hd;subst hd;simp only[af,if_true];exact ⟨none,0,rfl,zz6 _,⟨_,_,_,rfl⟩,fun _=>trivial⟩) rfl
   simp only[if_true,cY];exact ⟨b',cs,T',by rw[q2];simp only[if_neg hmn];exact h1,h2,h3,q1,h5⟩
  ·simp only[if_neg hk];by_cases hkn:k=n
   ·subst hkn;simp only[if_true,cY];exact ⟨none,by simp,by simp,trivial⟩
   ·simp only[if_neg hkn];exact (h.bU k).bE hl (by simp only[if_neg hkn]) fun _ _ _ _=>⟨rfl,fun _ ho=>ho⟩
 ·by_cases hm:m=n <;>by_cases hm':m'=n
  ·rw[hm,hm']
  ·simp only[if_pos hm,u8] at h1;subst h1;simp[bS.aD] at h3
  ·simp only[if_pos hm',u8] at h2;subst h2;simp[bS.aD] at h4
  ·simp only[if_neg hm] at h1;simp only[if_neg hm'] at h2;exact h.cM m m' e e' b h1 h2 h3 h4
 ·have hmn:m≠n:=fun e=>by rw[e,h.jU (.inr hlt)] at hm;cases hm
  simp only[if_neg hmn];exact h.dQ m e hm
theorem aF.PJ{ts:List (Nat×I)}{os:List (Nat×ah)}(m n T z:Nat)(p:List Nat)(b:I)(hm:aj os m=some (.box b))(hp:b.at p=some (.nils z))(hn:aj os n=none){B:ae}(h:aF (ar ts ((m,.box (b.dx p (.own n 0)))::(n,.cO T [])::os)) B)(hlt:n<1000000:=by decide):aF (ar ts os) B :=
 ((aF.PI (A:=ar ts os) (T:=T) hm hp hn hlt).trans (by rw[nV,nV];exact aF.refl _)).trans h
theorem um{A:ae}{d:Option Nat}{e bytes n l:Nat}{xs:List Int}{y:Int}{rest:List az}(hl:l=xs.length)(h1:xs.length+1≤maxLen)(h2:(xs.length+1)*bytes≤140737488355328) :
  oH A d e 1 bytes (.int .i64 0) n l e xs rest (enc [y])=aA rest ((A.aN n (.cO e (xs++[y]))).aK d (.own n (xs.length+1))):=by
 show oH A d e 1 bytes (.int .i64 0) n l e xs rest (.slice 1 [.int .i64 y])=_
 simp only[oH];rw[if_pos ⟨hl,rfl,rfl,rfl,rfl,by simp,h1,h2⟩];rfl
def ft(n k:Nat):I→I
 | .own n' k'=>if n'=n∧k'=k then .view n [] 1 0 k else .own n' k'
 |v=>v
def fr(n:Nat):I→I
 | .own n' k'=>if n'=n∧k'=0 then .nils 1 else .own n' k'
 |v=>v
def ir(f:I→I):ah→ah
 | .box v=>.box (f v)
 |y=>y
def nh(n k:Nat)(v:I):Prop:=v=.own n k∨v.only (fun j=>j != n)=true
def ag4(n k:Nat)(y:ah):Prop:=y=.box (.own n k)∨y.only (fun j=>j != n)=true
theorem qZ{n k:Nat}{v:I}(h:v.only (fun j=>j != n)=true):ft n k v=v:=by
 cases v <;>try rfl
 rename_i n' k';simp only[I.only,bne_iff_ne,ne_eq] at h;simp only[ft,h,false_and,if_false]
theorem yB{n:Nat}{v:I}(h:v.only (fun j=>j != n)=true):fr n v=v:=by
 cases v <;>try rfl
 rename_i n' k';simp only[I.only,bne_iff_ne,ne_eq] at h;simp only[fr,h,false_and,if_false]
theorem pf(f:I→I)(hf:f .c8=.c8)(ts:List (Nat×I))(t:Nat):b9 (ts.map fun q=>(q.1,f q.2)) t=f (b9 ts t):=by
 induction ts with
 |nil=>exact hf.symm
 |cons q ts ih =>
  obtain ⟨k,v⟩:=q;simp only[zz9,b9];split
  ·rfl
  ·exact ih
theorem sM(f:ah→ah)(os:List (Nat×ah))(t:Nat):aj (os.map fun q=>(q.1,f q.2)) t=(aj os t).map f:=by
 induction os with
 |nil=>rfl
 |cons q os ih =>
  obtain ⟨k,v⟩:=q;simp only[zz9,aj];split
  ·rfl
  ·exact ih
theorem cY.dq{M:Nat→Prop}{w:World}{D:aL}{E E':aT}{p:Nat→Bool}(hp:∀ n,p n=true→E' n=E n){m:Nat}(av:E' m=E m){y:ah}(hon:y.only p=true)(ho:cY M w D E m (some y)):cY M w D E' m (some y):=by
 cases y with
 |box x =>
  obtain ⟨b,cs,T,k1,k2,k3,k4,k5⟩:=ho;exact ⟨b,cs,T,av.trans k1,k2,k3,af.dq hp _ _ (by simpa[ah.only] using hon) k4,k5⟩
 |bT T sz es =>
  obtain ⟨aD,k1,k2,k3⟩:=ho;refine ⟨aD,av.trans k1,k2,?_⟩;cases aD with
  |none=>exact k3
  |some bc =>
   obtain ⟨b,cap⟩:=bc;obtain ⟨cs,pre,rest,q1,q2,q3,q4,q5⟩:=k3;exact ⟨cs,pre,rest,q1,q2,q3,aG.dq hp _ _ (by simpa[ah.only] using hon) q4,q5⟩
 |cO T xs =>
  obtain ⟨aD,k1,k2,k3⟩:=ho;exact ⟨aD,av.trans k1,k2,k3⟩
 |dD x =>
  obtain ⟨b,k1,k2⟩:=ho;exact ⟨b,av.trans k1,k2⟩
 |cq ks vs =>
  obtain ⟨b,es,ck,k1,k2,k3,k4,k5,k6,k7⟩:=ho;simp only[ah.only,zz2] at hon;exact ⟨b,es,ck,av.trans k1,k2,k3,k4,aE.dq hp _ _ hon.1 k5,aE.dq hp _ _ hon.2 k6,k7⟩
 |it ks vs left cur =>
  obtain ⟨r,b,es,ck,si,se,la,k1,k2,k3,k4,k5,k6,k7⟩:=ho;simp only[ah.only,zz2] at hon;exact ⟨r,b,es,ck,si,se,la,av.trans k1,k2,k3,k4,aE.dq hp _ _ hon.1 k5,aE.dq hp _ _ hon.2 k6,k7⟩
theorem qW(xs:List Int):(I.agg (xs.map enc)).aJ=.dU (List.replicate xs.length .one):=by
 show cJ.dU (I.cN _)=_
 congr 1
 induction xs with
 |nil=>rfl
 |cons x xs ih=>simp only[zz9,I.cN,ih,zv5,List.replicate_succ];rfl
theorem qO{w:World}{D:aL}{E:aT} : ∀ {xs:List Int},(∀ x∈xs,IntKind.i64.min≤x∧x≤IntKind.i64.max)→aG w D E (xs.map enc) (xs.map (Value.int .i64))
 | [],_=>rfl
 |x::xs,h=>⟨[.int .i64 x],xs.map (Value.int .i64),rfl,⟨rfl,h x (by simp)⟩,qO fun y hy=>h y (by simp[hy])⟩
theorem aF.NN{ts:List (Nat×I)}{os:List (Nat×ah)}{n T:Nat}{B:ae}(hn:aj os n=some (.cO T []))
  (h:aF (ar (ts.map fun q=>(q.1,fr n q.2)) (os.map fun q=>(q.1,ir (fr n) q.2))) B):aF (ar ts os) B:=by
 refine aF.trans ?_ h;rintro c a w ⟨D,E,hs⟩;obtain ⟨aD,av,-,hblk⟩:=hs.q0 (n:=n) (T:=T) (xs:=[]) hn;have hnone:aD=none:=by
  cases aD with
  |none=>rfl
  |some bc=>obtain ⟨b,cap⟩:=bc;obtain ⟨_,_,_,_,_,h,_⟩:=hblk;exact absurd rfl h
 subst hnone;have conv:∀ (v:I) (cs:List Value),af w D E v cs→af w D E (fr n v) cs:=fun v cs hr=>by
  cases v <;>try exact hr
  rename_i n' k';simp only[fr];split
  ·rename_i hh;obtain ⟨rfl,rfl⟩:=hh;obtain ⟨blk',l,q3,q4,q5,q6⟩:=hr;rw[av] at q3;simp only[u8,bS.rw.injEq,List.length_nil] at q3;obtain ⟨rfl,rfl⟩:=q3;exact q6 rfl
  ·exact hr
 refine ⟨D,E,hs.sz,hs.eF,fun t =>?_,hs.dK,hs.cV,hs.c9,fun m =>?_,hs.cM,hs.dQ,hs.eO,hs.cG,hs.eS,hs.fq⟩
 ·show aS w D E (b9 _ t) _
  rw[pf _ rfl];have:=hs.ea t;simp only[ar] at this;revert this;generalize b9 ts t=v;intro hv;cases v <;>try exact hv
  rename_i n' k';obtain ⟨cs,q1,q2⟩:=hv;have:=conv _ _ q2
  revert this;simp only[fr];split
  ·intro this;exact ⟨cs,q1,this⟩
  ·intro this;exact ⟨cs,q1,this⟩
 ·show cY _ w D E m (aj _ m)
  rw[sM];have:=hs.bU m;simp only[ar] at this;revert this;cases aj os m with
  |none=>exact id
  |some y =>
   cases y <;>try exact id
   rename_i x;rintro ⟨b,cs,T,k1,k2,k3,k4,k5⟩;refine ⟨b,cs,T,?_,k2,k3,conv _ _ k4,k5⟩;rw[k1];have:(fr n x).aJ=x.aJ:=by
    cases x <;>try rfl
    simp only[fr];split <;>rfl
   rw[this]
theorem U.NM{c:cI}{x:aM}{Q:Exit→ae→Prop}{ts:List (Nat×I)}{os:List (Nat×ah)}{n T:Nat}{xs:List Int}(hn:aj os n=some (.cO T xs))(hne:xs≠[])(hlt:n<1000000)
  (ht:∀ t,nh n xs.length (b9 ts t)) (ho:∀ m y,aj os m=some y→m≠n→ag4 n xs.length y)
  (h:∀ q:Nat,U c x Q (ar (ts.map fun p=>(p.1,ft n xs.length p.2)) ((n,.box (.agg ((xs++List.replicate q 0).map enc)))::os.map fun p=>(p.1,ir (ft n xs.length) p.2)))):U c x Q (ar ts os):=by
 rintro code hc a w ⟨D,E,hs⟩;obtain ⟨aD,av,hr,hblk⟩:=hs.q0 (n:=n) hn;cases aD with
 |none=>exact absurd hblk hne
 |some bc =>
 obtain ⟨b,cap⟩:=bc;obtain ⟨cs,q,hM,hb,hcs,-,hcap,hmax,hD⟩:=hblk;have hp:∀ j,(fun j=>j != n) j=true→(fun j=>if j=n then some (bS.aB b (.dU (List.replicate (xs.length+q) .one))) else E j) j=E j:=fun j hj=>by
  have:j≠n:=by simpa using hj
  simp only[if_neg this]
 have conv:∀ cs0,af w D E (.own n xs.length) cs0→af w D (fun j=>if j=n then some (bS.aB b (.dU (List.replicate (xs.length+q) .one))) else E j) (.view n [] 1 0 xs.length) cs0:=fun cs0 hr=>by
  obtain ⟨blk',l,q3,q4,q5,q6⟩:=hr;rw[av] at q3;simp only[u8,bS.rw.injEq] at q3;obtain ⟨rfl,rfl⟩:=q3;have:=q6 rfl;refine ⟨b,_,0,List.replicate (xs.length+q) .one,if_pos rfl,rfl,rfl,?_,by rw[List.length_replicate];omega,by rw[List.length_replicate];omega,fun s hs =>?_⟩
  ·rw[this,List.length_replicate];simp only[Nat.zero_mul,Nat.add_zero,Nat.sub_zero,hcap]
  ·rw[List.eq_of_mem_replicate hs];rfl
 refine h q code hc a w ⟨D,fun j=>if j=n then some (.aB b (.dU (List.replicate (xs.length+q) .one))) else E j,hs.sz,hs.eF,fun t =>?_,hs.dK,hs.cV,hs.c9,fun m =>?_,fun m m' e e' b1 h1 h2 h3 h4 =>?_,fun m e hm =>?_,hs.eO,hs.cG,hs.eS,hs.fq⟩
 ·show aS w D _ (b9 _ t) _
  rw[pf _ rfl];have hv:=hs.ea t;simp only[ar] at hv;rcases ht t with h1 | h1
  ·rw[h1] at hv ⊢;simp only[ft,and_self,if_true];obtain ⟨cs0,q1,q2⟩:=hv;exact ⟨cs0,q1,conv _ q2⟩
  ·rw[qZ h1];exact aS.dq hp h1 hv
 ·show cY _ w D _ m (aj _ m)
  simp only[aj];by_cases hm:m=n
  ·subst hm;simp only[if_true];refine ⟨b,cs,T,?_,hM,hb,?_,hD⟩
   ·simp only[if_true];rw[qW,zz5,List.length_replicate]
   ·show aG w D _ _ _
    rw[hcs];refine qO fun y hy =>?_;rcases zy7.1 hy with hy | hy
    ·exact hr y hy
    ·rw[List.eq_of_mem_replicate hy];decide
  ·simp only[if_neg hm];rw[sM];have hob:=hs.bU m;simp only[ar] at hob;cases hy:aj os m with
   |none=>rw[hy] at hob;simp only[cY,Option.map_none] at hob ⊢;rw[if_neg hm];exact hob
   |some y =>
    rw[hy] at hob;rcases ho m y hy hm with rfl | h1
    ·obtain ⟨b1,cs1,T1,k1,k2,k3,k4,k5⟩:=hob;refine ⟨b1,cs1,T1,?_,k2,k3,?_,k5⟩
     ·simp only[if_neg hm];rw[k1];simp only[ft,and_self,if_true];rfl
     ·simp only[ft,and_self,if_true];exact conv _ k4
    ·have e:ir (ft n xs.length) y=y:=by
      cases y <;>try rfl
      simp only[ah.only] at h1;simp only[ir,qZ h1]
     simp only[zy3,e];exact hob.dq hp (if_neg hm) h1
 ·have cut:∀ m e,(if m=n then some (bS.aB b (.dU (List.replicate (xs.length+q) .one))) else E m)=some e→∃ e2,E m=some e2∧e2.aD=e.aD:=fun m e he=>by
   by_cases hm:m=n
   ·subst hm;rw[if_pos rfl] at he;cases he;exact ⟨_,av,rfl⟩
   ·rw[if_neg hm] at he;exact ⟨e,he,rfl⟩
  obtain ⟨e2,k1,k2⟩:=cut m e h1;obtain ⟨e3,k3,k4⟩:=cut m' e' h2;exact hs.cM m m' e2 e3 b1 k1 k3 (k2.trans h3) (k4.trans h4)
 ·have hmn:m≠n:=fun e=>by rw[e,hs.jU (.inr hlt)] at hm;cases hm
  simp only[if_neg hmn];exact hs.dQ m e hm
def wP:Option Nat→Code
 |none=>.ret
 |some id=>.exit id
def CF:Option Nat→Exit
 |none=>.ret
 |some id=>.exit id
def pU(o:Obj)(A:ae)(os:List (Nat×ah)):Prop:=∀ n x,aj (dy o os) n=some x→A.o n=some x∧x.only (aq (dy o os))=true∧x.eH=true
def ah5(o:Obj)(In:List (Nat×ah)→Prop)(Ix:Option Nat→List (Nat×ah)→Prop):Exit→ae→Prop
 | .normal,A=>∃ os,pU o A os∧In os
 | .ret,A=>∃ os,pU o A os∧Ix none os
 | .exit id,A=>∃ os,pU o A os∧Ix (some id) os
 |_,_=>False
def Pv(P:Program)(nn:Nat)(x y:aM)(ps:List Nat)(tsR:List (Nat×I))(N:Nat)(item:Nat→List I)(ai:Nat→List (Nat×ah)→Prop)(Ix:Option Nat→List (Nat×ah)→Prop):Prop :=
 ∀ k osb,k<N→ai k osb→∀ (w:World) (D:aL) (E:aT) (l:Nat) (o1 o2:Obj),
  U ⟨P,w,D,nn,dm E,E,ig,some l⟩ x (al (fun B=>B.o 1999999=some (.dD o1)∧U ⟨P,w,D,nn,dm E,E,ig,some l⟩ y (ah5 o2 (ai (k+1)) Ix) (B.aN 1999999 (.dD o2))) (fun _ _=>False)) (ar (qN ps (item k) tsR) (dy o1 osb))
section
variable {c:cI} {Q:Exit→ae→Prop}
theorem aeQ{o:Obj}{A:ae}{os:List (Nat×ah)}(h:pU o A os)(o':Obj):∀ n x,aj (dy o' os) n=some x→(A.aN 1999999 (.dD o')).o n=some x∧x.only (aq (dy o' os))=true∧x.eH=true:=fun n x hx=>by
 have e:aq (dy o' os)=aq (dy o os):=by funext m;rw[lz,lz]
 rw[e];by_cases hn:n=1999999
 ·subst hn;rw[pd,if_pos rfl,u8] at hx;subst hx;exact ⟨by simp[ae.aN],rfl,rfl⟩
 ·rw[pd,if_neg hn] at hx;obtain ⟨h1,h2⟩:=h n x (by rw[pd,if_neg hn];exact hx);exact ⟨by simp only[ae.aN,if_neg hn];exact h1,h2⟩
theorem U.kH{f:aH}{ps:List Nat}{x y:aM}{ts tsR:List (Nat×I)}{os0 osb0:List (Nat×ah)}{ρ:List (Nat×Nat)}{g:FuncId}{caps:List I}{N:Nat}{item:Nat→List I}
  (ai:Nat→List (Nat×ah)→Prop) (Ix:Option Nat→List (Nat×ah)→Prop) (hr:c.mz=none) (hn6:c.n≤1000000)
  (hf:ab (ar ts os0) f=.func g caps) (hcl:I.bW caps=true) (hcb:gC c.P g=true) (hit:uh c.P g caps N item) (hlen:∀ k,(item k).length=ps.length)
  (hfree:aj os0 999999=none) (h19:aq osb0 1999999=false) (hρ:bD ρ 1999999=999999)
  (hgv:∀ o,fS ρ (dy o osb0) ((999999,.dD o)::os0)) (hts:mF ρ (aq osb0) ts tsR)
  (hI:∀ k os,ai k os→fh osb0 os) (hIx:∀ e os,Ix e os→fh osb0 os) (h0:ai 0 osb0)
  (hround:Pv c.P c.n x y ps tsR N item ai Ix)
  (hdone:∀ os,ai N os→Q .normal (ar ts (dJ ρ os++os0))) (hexit:∀ e os,Ix e os→Q (CF e) (ar ts (dJ ρ os++os0))) :
  U c (.kH f ps x y) Q (ar ts os0):=by
 intro code hc a w hs;cases code <;>simp only[eL] at hc <;>try (first | (cases hc;done) | ((repeat' split at hc) <;>cases hc;done))
 rename_i cf cps cx cy;split at hc
 case h_2=>cases hc
 rename_i f' x' y' hcf hcx hcy;split at hc
 case isFalse=>cases hc
 rename_i hpn;simp only[u8,aM.kH.injEq] at hc;obtain ⟨rfl,rfl,rfl,rfl⟩:=hc;obtain ⟨D,E,hs⟩:=hs;have hF:c.bn=Fence.wide:=by unfold cI.bn;rw[hr]
 have hE0:c.dL 999999=none:=hs.jU (.inr (by decide));have hval:∃ vs:List Value,a.eval cf=.func (.func g) #[] vs.toArray∧aE w D E caps vs:=by
  have hv:=ca hs hcf;rw[hf] at hv;obtain ⟨cs,q1,q2⟩:=hv;simp only[af] at q2;obtain ⟨vs,q3,q4⟩:=q2;exact ⟨vs,by simpa[bG,I.isAgg,q3] using q1.symm,q4⟩
 obtain ⟨vs,hval,hvs⟩:=hval;rw[hF];refine wpIn_rangeFunc fun fn hfn =>?_;obtain ⟨rec,hrec⟩:∃ rec:LoopState→Option Code→Loop,rec=fun bB pe => { state:=bB,pending:=pe,fn,tmps:=a.tmps,params:=cps,assign:=cx,body:=cy,defers:=w.heap.size } :=⟨_,rfl⟩
 obtain ⟨E1,hs1,hE1,hup⟩:=hs.enter hfree hE0 (o:=.loop (rec .ready none)) rfl;obtain ⟨W1,hW1⟩:∃ W1,(w.alloc (.deferred (some []))).alloc (.loop (rec .ready none))=W1:=⟨_,rfl⟩
 rw[hW1] at hs1 hup;obtain ⟨l,hl⟩:∃ l,l=w.heap.size+1:=⟨_,rfl⟩
 rw[←hl] at hE1;obtain ⟨yv,hyv⟩:∃ yv:Value,yv=.func (.yield l) #[] #[]:=⟨_,rfl⟩
 obtain ⟨a1,ha1⟩:∃ a1:Act,a1 = { a with defers := { target:=.collected w.heap.size,args := #[] } :: a.defers } :=⟨_,rfl⟩
 rw[←ha1] at hs1;refine ⟨l,[{ target:=.collected w.heap.size,args := #[] }],W1,{ target:=.fn (.func g) vs.toArray,args := #[yv] },W1,g,#[yv]++vs.toArray,W1,?_,?_,?_,?_,fun _=>by decide,?_⟩
 ·rw[←hW1,hrec,hl];exact run_enterLoop_outer _ _ _ _ _
 ·simp only[resolve,hval,hyv];simp[go_sem]
 ·intro f' _;trivial
 ·simp only[invoke,ya hcb]
 ·-- the iterator's own bargain
  have hG0:=hI 0 osb0 h0;obtain ⟨I',hI'⟩:∃ I':Nat→List (Nat×ah)→Prop,I'=fun k os=>∃ osb,os=dy (.loop (rec .ready none)) osb∧ai k osb:=⟨_,rfl⟩
  obtain ⟨Ix',hIx'⟩:∃ Ix':List (Nat×ah)→Prop,Ix'=fun os=>∃ e osb,os=dy (.loop (rec .done (some (wP e)))) osb∧Ix e osb:=⟨_,rfl⟩
  obtain ⟨os1,hos1⟩:∃ os1,os1=dy (.loop (rec .ready none)) osb0:=⟨_,rfl⟩
  obtain ⟨Y,hY⟩:∃ Y:Value→List I→List (Nat×ah)→cR→Prop,Y=fun v args os post=>v=yv∧∃ k,args=item k∧k<N∧I' k os∧∀ r os2,(r=.bool true∧I' (k+1) os2)∨(r=.bool false∧Ix' os2)→post r os2:=⟨_,rfl⟩
  have jV:∀ k os',I' k os'→fh os1 os':=fun k os' h=>by
   rw[hI'] at h;obtain ⟨osb,rfl,h⟩:=h;rw[hos1];exact (hI k osb h).dy _ _
  have goodx:∀ os',Ix' os'→fh os1 os':=fun os' h=>by
   rw[hIx'] at h;obtain ⟨e,osb,rfl,h⟩:=h;rw[hos1];exact (hIx e osb h).dy _ _
  have hctr:=hit Y yv I' Ix' os1 (by rw[hyv];rfl) (fun k os' post hk h1 h2=>by rw[hY];exact ⟨rfl,k,rfl,hk,h1,h2⟩) jV goodx (by rw[hI'];exact ⟨osb0,hos1,h0⟩);have hgv1:fS ρ os1 ((999999,.dD (.loop (rec .ready none)))::os0):=by rw[hos1];exact hgv _
  obtain ⟨A0,hA0⟩:∃ A0:ae,A0=ar ts ((999999,.dD (.loop (rec .ready none)))::os0):=⟨_,rfl⟩
  have hand:pX (Calls c.P g) (fun w D E=>∀ n,oE ⟨c.P,w,D,n,dm E,E,Y,none⟩) (.raw yv::caps) os1 (fun r os'=>r=.tuple []∧(I' N os'∨Ix' os')):=fun w D E vs hy hlive hheld hv=>by
   refine (hctr.2 w D E vs hy hlive hheld hv).mono fun e w' ⟨v,he,D',E',r,os',q⟩=>⟨v,D',E',r,os',he,q⟩
  have hshare:=hs1.nv;obtain ⟨Dh,hDh⟩:∃ Dh,Dh=oe (ar ts ((999999,.dD (.loop (rec .ready none)))::os0)) D E1:=⟨_,rfl⟩
  rw[←hDh] at hshare;have hsh:=hshare.1;obtain ⟨Eh,hEh⟩:∃ Eh,Eh=av ρ os1 E1:=⟨_,rfl⟩
  have isrec:aq os1 1999999=true:=by rw[hos1,lz];simp
  have hEl:Eh 1999999=some (.op l):=by rw[hEh];simp only[av,isrec,if_true,hρ];exact hE1
  have EhIn:∀ n e,Eh n=some e→aq os1 n=true:=fun n e h=>by
   rw[hEh] at h;simp only[av] at h;split at h
   ·assumption
   ·cases h
  have hyok:∀ n,oE ⟨c.P,W1,Dh,n,dm Eh,Eh,Y,none⟩:=by
   intro n v' args os' post' hYv w2 D2 E2 vs2 hsince hlive hheld hrvs;rw[hY] at hYv;obtain ⟨rfl,k,rfl,hkN,hIk,hpost⟩:=hYv;have hIk0:=hIk;rw[hI'] at hIk;obtain ⟨osb,rfl,hIk⟩:=hIk;have gk:=jV k _ hIk0;have gkb:=hI k osb hIk;have in2:∀ m,aq os1 m=true→E2 m≠none:=fun m hm=>by
    rw[←gk.same m] at hm;cases hx:aj (dy (.loop (rec .ready none)) osb) m with
    |none=>simp[aq,hx] at hm
    |some x=>have:=hheld.bU m;rw[hx] at this;exact s9 this
   have same2:∀ m e,Eh m=some e→e.eH=true→E2 m=some e:=fun m e he hfx=>by
    rcases hsince.dQ m e he with h | ⟨e',h,hle⟩
    ·exact absurd h (in2 m (EhIn m e he))
    ·rw[hle.eq hfx] at h;exact h
   have hEl2:E2 1999999=some (.op l):=same2 _ _ hEl rfl;have hob:=hheld.bU 1999999;rw[pd,if_pos rfl] at hob;obtain ⟨b,j1,_,j3,_,_⟩:=hob;rw[hEl2] at j1;cases j1;have hsz:vs2.toArray.size=cps.size:=by have:=yi hrvs;rw[hlen] at this;simpa using this
   have hyr:=run_yield (P:=c.P) (args:=vs2.toArray) j3 (by rw[hrec];exact hsz);rw[hrec] at hyr;refine ⟨l,hyv,fn,_,cx,cy,hyr,roundIn_of_wpIn trivial ?_⟩;clear hyr
   -- the round's own frame
   obtain ⟨cr,hcr⟩:∃ cr:cI,cr=⟨c.P,w2,D2,c.n,dm E2,E2,ig,some l⟩:=⟨_,rfl⟩
   have hFr:cr.bn=Fence.wide.inRound l:=by rw[hcr];rfl
   have hlat:dG W1 Dh Eh w2 D2 E2:=by
    refine ⟨hsince.cG,hsince.fq.cell,fun m b aJ he=>same2 m _ he rfl,fun m aD l he =>?_,fun m b he=>same2 m _ he rfl,fun m b he=>same2 m _ he rfl,hsince.fq.jj⟩;rcases hsince.dQ m _ he with h | ⟨e',h,hle⟩
    ·exact absurd h (in2 m (EhIn m _ he))
    ·rcases hle with rfl | ⟨_,_,blk',l',e,rfl,k1,k2⟩
     ·exact ⟨aD,l,h,zz6 _,fun _=>rfl⟩
     ·cases e;exact ⟨blk',l',h,k1,k2⟩
   have hslots:mF ρ (aq os1) ts tsR:=by
    have:∀ tsR:List (Nat×I),mF ρ (aq osb0) ts tsR→mF ρ (aq os1) ts tsR:=by
     intro tsR
     induction tsR with
     |nil=>exact fun h=>h
     |cons q r ih =>
      intro h;obtain ⟨h1,h2,h3⟩:=h;exact ⟨h1,iN (fun n hn=>by rw[hos1,lz,hn];simp) _ h2,ih h3⟩
    exact this tsR hts
   have hsr:aP cr (ar tsR (dy (.loop (rec .ready none)) osb)) { tmps:=a.tmps,defers:=[] } w2 D2 E2:=by
    rw[hcr];refine ⟨hs.sz,⟨[],rfl,.nil,fun _ h=>by simp at h⟩,fun t =>?_,fv.refl _ _,fun _ _ h _=>h,hlive,fun m=>(hheld.bU m).me fun e b he hb=>.inr ⟨m,e,he,hb⟩,hheld.cM,fun _ e h=>.inr ⟨e,h,.refl e⟩,fun m hm =>?_,fun _ _ h=>h,(fun _ _ _ _ h=>h.elim),.refl _ _⟩
    ·rcases Nj hslots t with h | ⟨h1,h2⟩
     ·simp only[ar];rw[h];simp[aS]
     ·have h3:=hsh.ea t;rw[ha1] at h3;simp only[ar] at h3 ⊢;rw[h1] at h3;have h4:=(aS.aO (w:=W1) (D:=Dh) (p:=aq os1) (ρ:=bD ρ) (E:=Eh) (E':=E1) (fun n hn=>by rw[hEh];simp only[av,hn,if_true]) h2).1 h3;exact aS.bE hlat h4
    ·have hmi:aq os1 m=true:=by
      rw[←gk.same m];have:=hheld.bU m;cases hx:aj (dy (.loop (rec .ready none)) osb) m with
      |none=>rw[hx] at this;exact absurd this hm
      |some x=>simp[aq,hx]
     have:=gk.nL m hmi;exact ⟨zv7 hn6 this,this⟩
   have hsp:=aP.KT cps.toList vs2 (item k) tsR _ hsr (fun p hp=>by rw[hcr];have:=zy2.1 hpn p hp;simpa using this) hrvs (by have:=hsz;simpa using this.symm);have htm:(cps.zip vs2.toArray).foldl (fun t (q:Tmp×Value)=>t.setIfInBounds q.1 q.2) a.tmps=(cps.toList.zip vs2).foldl (fun t q=>t.setIfInBounds q.1 q.2) a.tmps:=by
    rw[←Array.foldl_toList];simp
   have hx:=hround k osb hkN hIk w2 D2 E2 l (.loop (rec .ready none)) (.loop { rec .ready none with state:=.busy });rw[←hcr] at hx;have hx1:=hx cx (by rw[hcr];exact hcx) _ w2 ⟨D2,E2,hsp⟩;rw[hFr] at hx1;simp only[←htm] at hx1;rw[hcr] at hx1;refine wpIn_mono hx1 ?_;rintro e ax wx ⟨B,hq,hsx⟩;rw[←hcr] at hq hsx;cases e <;>simp only[al] at hq <;>try exact hq.elim
   simp only[Exit.then];obtain ⟨hB1,hB2⟩:=hq;obtain ⟨Dx,Ex,hsx⟩:=hsx;have hElx:Ex 1999999=some (.op l):=by
    have ho:=hsx.bU 1999999;rw[hB1] at ho;rcases hsx.CW (n:=1999999) (by rw[hcr];exact hEl2) rfl with h | h
    ·exact absurd h (s9 ho)
    ·exact h
   have hLx:wx.heap[l]?=some (.loop (rec .ready none)):=by
    have ho:=hsx.bU 1999999;rw[hB1] at ho;obtain ⟨b,k1,_,k3,_⟩:=ho;rw[hElx] at k1;cases k1;exact k3
   refine ⟨_,run_beginRound hLx (by rw[hrec]),?_⟩;have hsb:=hsx.yk (o':=.loop { rec .ready none with state:=.busy }) hB1 hElx rfl;have hy1:=hB2 cy (by rw[hcr];exact hcy) _ _ ⟨Dx,Ex,hsb⟩;rw[hFr] at hy1;rw[hcr] at hy1;refine wpIn_mono hy1 ?_;rintro e a3 w3 ⟨A3,hq3,D3,E3,hs3⟩;rw[←hcr] at hs3
   -- the end of the round
   have bg:∀ (os:List (Nat×ah)) (jump:Option Code),pU (.loop { rec .ready none with state:=.busy }) A3 os→(post' (.bool jump.isNone) (dy (.loop (rec (if jump.isNone then .ready else .done) jump)) os)) →
     ∃ v w',(Instr.endRound l jump).run c.P w3=.ok v w'∧(fun e w'=>∃ v D' E' r os',e=Ending.returned v∧post' r os'∧aS w' D' E' r v∧kO (fun b=>w2.heap.size≤b∨dm E2 b) w' D' E' (aj os') ∧
      fv (fun b=>w2.heap.size≤b∨dm E2 b) w2 w'∧(∀ b o,D2 b o→D' b o)∧(∀ b o,D' b o→b<w'.heap.size)∧(∀ b o,D' b o→b<w2.heap.size→¬ dm E2 b→D2 b o) ∧
      (∀ n e,E2 n=some e→aq os' n=true→∃ e',E' n=some e'∧e.le e')∧gU w2 D2 w') (.returned v) w':=fun os jump hbk hp=>by
    have hA3:A3.o 1999999=some (.dD (.loop { rec .ready none with state:=.busy })):=(hbk 1999999 _ (by rw[pd,if_pos rfl])).1;have hEl3:E3 1999999=some (.op l):=by
     have ho:=hs3.bU 1999999;rw[hA3] at ho;rcases hs3.CW (n:=1999999) (by rw[hcr];exact hEl2) rfl with h | h
     ·exact absurd h (s9 ho)
     ·exact h
    have hL3:w3.heap[l]?=some (.loop { rec .ready none with state:=.busy }):=by
     have ho:=hs3.bU 1999999;rw[hA3] at ho;obtain ⟨b,k1,_,k3,_⟩:=ho;rw[hEl3] at k1;cases k1;exact k3
    have hend:=run_endRound (P:=c.P) jump hL3;have erec:({ rec .ready none with state:=if jump.isNone then LoopState.ready else .done,pending:=jump } : Loop)=rec (if jump.isNone then .ready else .done) jump:=by rw[hrec]
    have hend':(Instr.endRound l jump).run c.P w3=.ok (.bool jump.isNone) (w3.putObj l (.loop (rec (if jump.isNone then .ready else .done) jump))):=by
     rw[hend];rw[hrec]
    have hs4:=hs3.yk (o':=.loop (rec (if jump.isNone then .ready else .done) jump)) hA3 hEl3 rfl;rw[hcr] at hs4;obtain ⟨D',E',_,_,_,q1,q2,q3,q4,q5,q6⟩:=hs4.JE (aeQ hbk _);exact ⟨_,_,hend',_,D',E',.bool jump.isNone,_,rfl,hp,⟨[.bool jump.isNone],by simp[bG,I.isAgg],by simp[af]⟩,q1,q2,q3,q4,q5,q6⟩
   cases e with
   |normal =>
    obtain ⟨os,hbk,hin⟩:=hq3;exact bg os none hbk (hpost _ _ (.inl ⟨rfl,by rw[hI'];exact ⟨os,rfl,hin⟩⟩))
   |ret =>
    obtain ⟨os,hbk,hin⟩:=hq3;exact bg os (some .ret) hbk (hpost _ _ (.inr ⟨rfl,by rw[hIx'];exact ⟨none,os,rfl,hin⟩⟩))
   |exit id =>
    obtain ⟨os,hbk,hin⟩:=hq3;exact bg os (some (.exit id)) hbk (hpost _ _ (.inr ⟨rfl,by rw[hIx'];exact ⟨some id,os,rfl,hin⟩⟩))
   |goto t=>exact hq3.elim
   |panic ch=>exact hq3.elim
   |outgrown=>exact hq3.elim
  -- the call
  have hargs:fE (aS W1 D E1) (.raw yv::caps) (yv::vs):=by
   exact .cons ⟨[yv],by simp[bG,I.isAgg],by rw[hyv];exact ⟨rfl,rfl⟩⟩ (ye (hup caps vs hvs))
  have hus:=hand.use (ρ:=ρ) hs1 false (fun h=>h.mono) ⟨(fun h=>by cases h),fun _=>by rw[←hDh,←hEh];exact hyok⟩ hgv1 (ur _ (by simp[I.bW,I.bp,hcl]))
   (fun r os' hp=>by
    have gg:fh os1 os':=by
     rcases hp.2 with h | h
     ·exact jV _ _ h
     ·exact goodx _ h
    refine ⟨fun m x hx=>⟨(gg.ok m x hx).1,(gg.ok m x hx).2,fun h=>by cases h⟩,fun m m' h1 h2=>hgv1.inj m m' (by rw[←gg.same];exact h1) (by rw[←gg.same];exact h2),fun m hm=>by rw[gg.same];exact hm,fun m h1 h2=>(by rw[gg.same,h2] at h1;cases h1),(by rw[hp.1];simp[I.only,I.b8]),fun h=>by cases h⟩) hargs
  have ecl : #[yv]++vs.toArray=(yv::vs).toArray:=by simp
  rw[ecl];refine CallsIn.mono (callsIn_wide.2 hus) ?_;rintro e w3 ⟨v,r,os',D2,E2,rfl,hp,hs2,_,hE2⟩;have key:∀ (o3:Obj) (osb:List (Nat×ah)),os'=dy o3 osb→o9 o3=true→E2 999999=some (.op l)∧w3.heap[l]?=some o3∧∀ o4,o9 o4=true→cn c (ar ts (dJ ρ osb++os0)) a1 (w3.putObj l o4):=fun o3 osb he h3=>by
   subst he;have hn2:E2 999999=some (.op l):=by
    obtain ⟨e',h1,h2⟩:=hE2 1999999 (.op l) (by rw[←hEh];exact hEl) (by rw[lz];simp);rw[hρ] at h1;rw[h1,h2.eq rfl]
   have eos:dJ ρ (dy o3 osb)=(999999,.dD o3)::dJ ρ osb:=by simp only[dy,dJ,zz9,hρ,ah.aO]
   rw[eos] at hs2;have ha:(ar ts ((999999,ah.dD o3)::dJ ρ osb++(999999,.dD (.loop (rec .ready none)))::os0)).o 999999=some (.dD o3):=by simp[ar,aj]
   have hgb:∀ m,aq osb m=true→bD ρ m≠999999:=fun m hm e=>by
    have h5:aq (dy o3 osb) m=true:=by rw[lz,hm];simp
    have g5:fh os1 (dy o3 osb):=by
     rcases hp.2 with h | h
     ·exact jV _ _ h
     ·exact goodx _ h
    have h6:=hgv1.inj m 1999999 (by rw[←g5.same];exact h5) isrec (by rw[hρ];exact e);subst h6;have h7:fh osb0 osb:=by
     rcases hp.2 with h | h
     ·rw[hI'] at h;obtain ⟨osb',h8,h9⟩:=h;simp only[dy,List.cons.injEq] at h8;rw[h8.2];exact hI _ _ h9
     ·rw[hIx'] at h;obtain ⟨e,osb',h8,h9⟩:=h;simp only[dy,List.cons.injEq] at h8;rw[h8.2];exact hIx _ _ h9
    rw[h7.same,h19] at hm;cases hm
   refine ⟨hn2,?_,fun o4 h4 =>?_⟩
   ·have ho:=hs2.bU 999999;rw[ha] at ho;obtain ⟨b,k1,_,k3,_⟩:=ho;rw[hn2] at k1;cases k1;exact k3
   ·have h5:=(hs2.yk (o':=o4) ha hn2 h4).XD hn2;have hst:(⟨((ar ts ((999999,ah.dD o3)::dJ ρ osb++(999999,.dD (.loop (rec .ready none)))::os0)).aN 999999 (.dD o4)).t,fun m=>if m=999999 then none else
      ((ar ts ((999999,ah.dD o3)::dJ ρ osb++(999999,.dD (.loop (rec .ready none)))::os0)).aN 999999 (.dD o4)).o m⟩:ae)=ar ts (dJ ρ osb++os0):=by
     simp only[ar,ae.aN]
     congr 1
     funext m
     by_cases hm:m=999999
     ·subst hm;simp only[if_true,qA];cases hq:pre ρ osb 999999 with
      |none=>exact hfree.symm
      |some k=>exact absurd (lG hq).2 (hgb k (lG hq).1)
     ·simp only[if_neg hm,zy0,aj,qA]
    rw[hst] at h5;exact ⟨D2,_,h5⟩
  rcases hp.2 with h | h
  ·rw[hI'] at h;obtain ⟨osb,he,hin⟩:=h;obtain ⟨k1,k2,k3⟩:=key _ osb he rfl;refine ⟨none,_,(by have:=run_endLoop (P:=c.P) k2 (by rw[hrec];simp);rw[hrec] at this;exact this),_,hdone osb hin,?_⟩;have:=k3 (.loop { rec .ready none with state:=.exhausted }) rfl;rw[ha1] at this;rw[hrec] at this;exact this
  ·rw[hIx'] at h;obtain ⟨e,osb,he,hin⟩:=h;obtain ⟨k1,k2,k3⟩:=key _ osb he rfl;refine ⟨some (wP e),_,(by have:=run_endLoop (P:=c.P) k2 (by rw[hrec];simp);rw[hrec] at this;exact this),?_⟩;have:=k3 (.loop { rec .done (some (wP e)) with state:=.exhausted }) rfl;rw[ha1] at this;rw[hrec] at this;have hq:JI c Q (CF e) { a with defers := { target:=.collected w.heap.size,args := #[] } :: a.defers } _:=⟨_,hexit e osb hin,this⟩
   cases e with
   |none=>exact wpIn_ret hq
   |some id=>exact wpIn_exit hq
end
mutual
theorem lH{ρ:Nat→Nat}(h:∀ n,ρ n=n):∀ x:I,x.aO ρ=x
 | .agg fs | .tuple fs=>by simp only[I.aO];rw[mw h fs]
 | .slice _ es=>by simp only[I.aO];rw[mw h es]
 | .ref x=>by simp only[I.aO];rw[lH h x]
 | .func _ caps=>by simp only[I.aO];rw[mw h caps]
 | .iface _ v=>by simp only[I.aO];rw[lH h v]
 | .ptr _ _ | .own _ _ | .view _ _ _ _ _ | .mref _ | .dj _=>by simp only[I.aO,h]
 | .cL ks vs=>by simp only[I.aO];rw[mw h ks,mw h vs]
 | .bool _ | .int _ _ | .cQ _ | .nilp | .da | .dN | .raw _ | .nils _ | .c0 _ | .undef | .c8=>by simp only[I.aO]
theorem mw{ρ:Nat→Nat}(h:∀ n,ρ n=n):∀ xs:List I,I.cP ρ xs=xs
 | []=>rfl
 |x::xs=>by simp only[I.cP];rw[lH h x,mw h xs]
end
theorem ah.lH{ρ:Nat→Nat}(h:∀ n,ρ n=n):∀ x:ah,x.aO ρ=x
 | .box x=>by simp only[ah.aO,Abs.lH h]
 | .bT _ _ es=>by simp only[ah.aO,mw h]
 | .dD _=>rfl
 | .cO _ _=>rfl
 | .cq _ _=>by simp only[ah.aO,mw h]
 | .it _ _ _ _=>by simp only[ah.aO,mw h]
theorem tx(os:List (Nat×ah)):dJ [] os=os:=by
 simp only[dJ];have:(fun q:Nat×ah=>(bD [] q.1,q.2.aO (bD [])))=id:=by
  funext q
  rw[ah.lH (ρ:=bD []) (fun n=>rfl)];rfl
 rw[this,List.map_id]
theorem jY(a b:List (Nat×ah))(n:Nat):aj (a++b) n=match aj a n with
  |some x=>some x
  |none=>aj b n:=by
 induction a with
 |nil=>rfl
 |cons q a ih =>
  obtain ⟨k,v⟩:=q;simp only[zy0,aj];split
  ·rfl
  ·exact ih
theorem fh.none{os os':List (Nat×ah)}(h:fh os os'){n:Nat}(hn:n<1000000):aj os' n=none:=by
 cases hx:aj os' n with
 |none=>rfl
 |some x =>
  have h1:aq os' n=true:=by simp[aq,hx]
  rw[h.same] at h1;exact absurd (h.nL n h1) (by omega)
theorem aF.c4{ts ts':List (Nat×I)}{os os':List (Nat×ah)}(h1:aV ts ts')(h2:∀ n,aj os n=aj os' n):aF (ar ts os) (ar ts' os'):=by
 have e:ar ts os=ar ts os':=by
  simp only[ar];congr 1;funext n;exact h2 n
 rw[e];rintro c a w ⟨D,E,hs⟩;refine ⟨D,E,hs.sz,hs.eF,fun t =>?_,hs.dK,hs.cV,hs.c9,hs.bU,hs.cM,hs.dQ,hs.eO,hs.cG,hs.eS,hs.fq⟩;rcases yz h1 t with h | h
 ·simp only[ar];rw[h];simp[aS]
 ·have:=hs.ea t;simp only[ar] at *;rw[h];exact this
theorem zB{os osk os2 ow:List (Nat×ah)}{ts:List (Nat×I)}(h1:fh os osk)(h2:fh os os2)(how:∀ m,aq ow m=true→m<1000000):ar ts (dJ [] os2++(ow++osk))=ar ts (ow++os2):=by
 simp only[ar,tx]
 congr 1
 funext n
 simp only[jY];cases hw:aj ow n with
 |none =>
  simp only;cases h3:aj os2 n with
  |some x=>rfl
  |none =>
   simp only;cases h4:aj osk n with
   |none=>rfl
   |some x =>
    have h5:aq osk n=true:=by simp[aq,h4]
    rw[h1.same,←h2.same] at h5;simp[aq,h3] at h5
 |some x =>
  simp only;rw[h2.none (how n (by simp[aq,hw]))]
theorem fS.jV{os osk ow:List (Nat×ah)}(h1:fh os osk)(how:∀ m,aq ow m=true→m<1000000):fS [] osk (ow++osk):=by
 refine ⟨fun m x hx =>?_,fun m m' _ _ h=>h⟩;have hm:aq osk m=true:=by simp[aq,hx]
 have hg:=h1.nL m (by rw[←h1.same];exact hm);obtain ⟨k1,k2⟩:=h1.ok m x hx;refine ⟨?_,k1,k2⟩;rw[ah.lH (ρ:=bD []) (fun n=>rfl)];simp only[bD,jY];cases hw:aj ow m with
 |none=>exact hx
 |some y=>have:=how m (by simp[aq,hw]);omega
theorem er.jV{os osk os2 os0:List (Nat×ah)}{r:I}(h1:fh os osk)(h2:fh os os2)(hr:r.bp=true):er false [] osk os0 r os2:=by
 refine ⟨fun m x hx=>⟨(h2.ok m x hx).1,(h2.ok m x hx).2,fun h=>by cases h⟩,fun m m' _ _ h=>h,fun m hm=>by rw[h2.same,←h1.same];exact hm,fun m h3 h4 =>?_,mj _ r hr,fun h=>by cases h⟩;rw[h2.same,←h1.same,h4] at h3;cases h3
theorem bh.N0{P:Program}{Y:Value→List I→List (Nat×ah)→cR→Prop}{K:ae→Prop}{v:Value}{vs:List I}{dst:Option Nat}{rest:List az}{ts:List (Nat×I)}{os osk ow:List (Nat×ah)}{In Ix:List (Nat×ah)→Prop}
  (hY:Y v vs osk (fun r os2=>(r=.bool true∧In os2)∨(r=.bool false∧Ix os2))) (hk:fh os osk) (hi:∀ os',In os'→fh os os') (hx:∀ os',Ix os'→fh os os') (hcl:I.bW vs=true) (how:∀ m,aq ow m=true→m<1000000)
  (h1:∀ os2,In os2→bh P Y false K (aA rest ((ar ts (ow++os2)).aK dst (.bool true)))) (h2:∀ os2,Ix os2→bh P Y false K (aA rest ((ar ts (ow++os2)).aK dst (.bool false)))) :
  bh P Y false K (.oQ v vs dst rest (ar ts (ow++osk))):=by
 refine .yI osk vs _ rfl hY (fS.jV hk how) (ur vs hcl) ?_ ?_
 ·rintro r os' (⟨rfl,h⟩ | ⟨rfl,h⟩)
  ·exact er.jV hk (hi _ h) rfl
  ·exact er.jV hk (hx _ h) rfl
 ·rintro r os' (⟨rfl,h⟩ | ⟨rfl,h⟩)
  ·rw[zB hk (hi _ h) how];exact h1 os' h
  ·rw[zB hk (hx _ h) how];exact h2 os' h
theorem BQ(A:ae)(d:Option Nat)(args:List I)(rest:List az)(v:Value):rQ A d args rest (.raw v)=.oQ v args d rest A:=rfl
end Go.Abs
namespace Go.Abs
open Go Go.RowKit
section
variable {c:cI} {A:ae} {o:Oper}
theorem Xs{t e:TypeId}{len n:Nat}{parts:Array (Nat×Operand)}{ps:List (Nat×aH)}{es:List I}(ho:o.op=.buildSlice t len parts)(hu:c.P.underlying t=some (.slice e))(hp:jP c.P parts.toList=some ps)
  (hr:ps.map (·.1)=List.range len) (h0:0<c.P.cellsOf e) (hlen:0<len) (hsm:len*c.P.cellsOf e≤16777216) (hz:((c.P.info? e).bind (·.zero)).isSome=true)
  (hes:bX false A ((ps.map (·.2)).map (ab A))=some es) (hev:∀ x∈es,x.size=c.P.cellsOf e) (hn:A.o n=none) (hnl:n<1000000) (hd:∀ k,o.dst=some k→k<c.n) :
  gT c A o ((A.aN n (.bT e (c.P.cellsOf e) es)).aK o.dst (.own n es.length)):=by
 intro a w D E hs;obtain ⟨hfor,hidx⟩:=xP hs parts.toList ps hp;obtain ⟨hs1,hw⟩:=hs.nv;have hrv:=lq (E':=E) hs (fun _ _ h=>h) hw _ es _ (lL _ _ hfor (oX hes)) hes;obtain ⟨k1,k2,k3⟩:=yh es _ hrv;have k3:=k3 _ hev;have hl:parts.toList.length=len:=by
  have:=congrArg List.length hidx;rw[hr] at this;simpa using this.symm
 have hesl:es.length=len:=by rw[←k2];simp[hl]
 obtain ⟨z,hz⟩:=zw0.1 hz;obtain ⟨ie,hie,hzz⟩:=Option.bind_eq_some_iff.1 hz;have hsz:ie.size=c.P.cellsOf e:=by simp[Program.cellsOf,hie]
 have hfill:Instr.fill (fun i=>some (i*ie.size,ie.size)) ((Array.range (len*ie.size)).map (z.cells[· % z.cells.size]!)) (parts.map fun (q:Nat×Operand)=>(q.1,a.eval q.2)).toList =
   some ((parts.toList.map fun p=>a.eval p.2).flatMap fun v=>v.cells.toList).toArray:=by
  have hpz:(parts.map fun (q:Nat×Operand)=>(q.1,a.eval q.2)).toList=((parts.toList.map fun p=>a.eval p.2).zipIdx 0).map fun x=>(x.2,x.1):=by
   have:=N4 (parts.toList.map fun (q:Nat×Operand)=>(q.1,a.eval q.2)) (by simp only[List.map_map,zy1];rw[hl,←hr,hidx];rfl);rw[Array.toList_map,this,List.map_map];rfl
  rw[hpz,hsz];exact Great.fill_whole h0 _ _ (fun v hv=>k3 v hv) (by simp[hl])
 have hrun:=run_buildSlice (P:=c.P) w t e len (parts.map fun (q:Nat×Operand)=>(q.1,a.eval q.2)) _ ie z hu hie hzz (by rw[hsz];omega) (by rw[hsz];exact Nat.ne_of_gt (Nat.mul_pos hlen h0)) hfill;generalize hcells:((parts.toList.map fun p=>a.eval p.2).flatMap fun v=>v.cells.toList)=cells at *;have hcl:cells.length=es.length*c.P.cellsOf e:=by rw[aG.length _ _ k1,I.gR _ hev]
 have hmx:es.length≤maxLen:=by
  unfold maxLen;have:len≤len*c.P.cellsOf e:=Nat.le_mul_of_pos_right _ h0;omega
 have hs2:=hs1.sY (d:=n) (x:=.bT e (c.P.cellsOf e) es) (o':=.cells cells.toArray e) (e:=.rw (some (w.heap.size,es.length)) es.length) (.inr hnl) hn rfl fun hl hno =>
  ⟨some (w.heap.size,es.length),by simp,hev,cells.toArray,cells,[],.inl hs.dK.size,heap_alloc_new w _,by simp,aG.bE hl _ _ k1,by simpa using hcl,zz6 _,hmx,fun o ho=>absurd ho (hno o)⟩
 refine ⟨_,.inl ⟨_,by simp only[execOp,ho,Sem.run_bind];rw[hrun];rfl,_,_,hs2.aK hd ⟨_,by simp[bG,I.isAgg];rfl,?_⟩⟩⟩;simp only[af,if_true];exact ⟨some (w.heap.size,es.length),es.length,rfl,zz6 _,⟨_,_,_,rfl⟩,fun _=>by rw[hesl]⟩
theorem kV{P:Program}{m:Nat}{bK:Array Oper}{l:List Oper}{gs:List az}(h:gB P m bK (o::l)=some gs):∃ g gs',gs=g::gs'∧nE P m bK o=some g∧gB P m bK l=some gs':=by
 simp only[gB] at h;split at h
 ·rename_i g gs' h1 h2;simp only[u8] at h;exact ⟨g,gs',h.symm,h1,h2⟩
 ·cases h
theorem QL{P:Program}{e esz:Nat}{xs:List aH}(hg:df P o=some (.bs e esz xs)):∃ t len parts ps,o.op=.buildSlice t len parts∧P.underlying t=some (.slice e)∧jP P parts.toList=some ps∧esz=P.cellsOf e∧xs=ps.map (·.2) ∧
  ps.map (·.1)=List.range len∧0<P.cellsOf e∧0<len∧len*P.cellsOf e≤16777216∧((P.info? e).bind (·.zero)).isSome=true:=by
 unfold df at hg;split at hg
 all_goals first
  |(cases hg;done)
  |((repeat' split at hg) <;>first
    |(cases hg;done)
    |(simp only[zz0,reduceCtorEq,and_false,exists_false] at hg;done)
    |(simp only[u8] at hg;done)
    |skip)
 simp only[u8,b7.bs.injEq] at hg;obtain ⟨rfl,rfl,rfl⟩:=hg;refine ⟨_,_,_,_,by assumption,by assumption,by assumption,rfl,rfl,by assumption⟩
theorem U.afB{ts:List (Nat×I)}{os:List (Nat×ah)}{a b d n T esz:Nat}{g1:b7}{x x':I}{y:aM}{Q:Exit→ae→Prop}(hb:a8 (ar ts os) g1=some x)(hx:bX false (ar ((a,x)::ts) os) [x]=some [x'])(hxs:x'.size=esz)(hn:aj os n=none)(hnl:n<1000000)
  (h:U c y Q (ar ((d,.own n 1)::(b,.own n 1)::(a,x)::ts) ((n,.bT T esz [x'])::os))) :
  U c (.seq (.b6 none [⟨some a,g1,none⟩,⟨some b,.bs T esz [.t a],none⟩,⟨some d,.mv (.t b),none⟩]) y) Q (ar ts os):=by
 refine U.seq fun code hc a' w hs =>?_;cases code <;>simp only[eL] at hc <;>try (first | (cases hc;done) | ((repeat' split at hc) <;>cases hc;done))
 rename_i id bK draw;split at hc
 case h_2=>cases hc
 rename_i gs' hgs;split at hc
 case isFalse=>cases hc
 simp only[u8,aM.b6.injEq] at hc;obtain ⟨hdr,rfl⟩:=hc;cases draw with
 |true=>simp at hdr
 |false =>
  refine wpIn_region_list ?_;generalize bK.toList=l at hgs;rcases l with _ | ⟨o1,_ | ⟨o2,_ | ⟨o3,_ | ⟨o4,l⟩⟩⟩⟩
  ·simp[gB] at hgs
  ·obtain ⟨p1,r1,e1,h1,q1⟩:=kV hgs;simp only[gB,u8] at q1;subst q1;simp at e1
  ·obtain ⟨p1,r1,e1,h1,q1⟩:=kV hgs;obtain ⟨g2,dE,e2,h2,q2⟩:=kV q1;simp only[gB,u8] at q2;subst q2 e2;simp at e1
  case' cons.cons.cons.cons =>
   obtain ⟨p1,r1,e1,h1,q1⟩:=kV hgs;obtain ⟨g2,dE,e2,h2,q2⟩:=kV q1;obtain ⟨g3,pG,e3,h3,q3⟩:=kV q2;obtain ⟨g4,ajm,e4,h4,q4⟩:=kV q3;subst e4 e3 e2;simp at e1
  obtain ⟨p1,r1,e1,h1,q1⟩:=kV hgs;obtain ⟨g2,dE,e2,h2,q2⟩:=kV q1;obtain ⟨g3,pG,e3,h3,q3⟩:=kV q2;simp only[gB,u8] at q3;subst q3 e3 e2;simp only[List.cons.injEq,and_true] at e1;obtain ⟨rfl,rfl,rfl⟩:=e1;obtain ⟨a1,a2,a3,a4⟩:=oP h1;obtain ⟨b1,b2,b3,b4⟩:=oP h2;obtain ⟨c1,c2,c3,jd⟩:=oP h3;simp only at a1 a2 b1 b2 c1 c2;have w1:∀ a:Act,Region.wanted o1 (yielded bK a.tmps)=true:=fun a=>by
   rcases a4 with ⟨a5,_⟩ | ⟨_,_,_,_,_,a5⟩
   ·simp[Region.wanted,a5]
   ·simp at a5
  have w2:∀ a:Act,Region.wanted o2 (yielded bK a.tmps)=true:=fun a=>by
   rcases b4 with ⟨a5,_⟩ | ⟨_,_,_,_,_,a5⟩
   ·simp[Region.wanted,a5]
   ·simp at a5
  have w3:∀ a:Act,Region.wanted o3 (yielded bK a.tmps)=true:=fun a=>by
   rcases jd with ⟨a5,_⟩ | ⟨_,_,_,_,_,a5⟩
   ·simp[Region.wanted,a5]
   ·simp at a5
  simp only[wpListIn,w1,if_true];have d1:=(xV a1 hb).does a3;rw[←a2] at d1;refine d1.wp a1 hs fun a'' w' hs' =>?_;simp only[w2,if_true];obtain ⟨t,len,prs,ps,k1,k2,k3,k4,k5,k6,k7,k8,k9,k10⟩:=QL b1;subst k4;have d2:=Xs (A:=ar ((a,x)::ts) os) (n:=n) (es:=[x']) k1 k2 k3 k6 k7 k8 k9 k10 (by rw[←k5];simpa[u7,ar,b9] using hx) (by simpa using hxs) hn hnl b3;rw[←b2] at d2;refine d2.wp b1 hs' fun a3' w3' hs3 =>?_;simp only[w3,if_true];have d3:=(xV (A:=ar ((b,.own n 1)::(a,x)::ts) ((n,.bT T (c.P.cellsOf T) [x'])::os)) c1 (x:=.own n 1) (by simp[a8,u7,ar,b9])).does c3;rw[←c2] at d3;refine d3.wp c1 hs3 fun a4 w4 hs4 =>?_;exact ⟨_,h,hs4⟩
end
end Go.Abs
namespace Go.Abs.C
open Go Go.Abs
abbrev o(a:Nat)(x:b7):az:=⟨some a,x,none⟩
abbrev bR(a:Nat)(x:b7)(k:Nat):az:=⟨some a,x,some (k,true)⟩
abbrev on(a:Nat)(x:b7)(k:Nat):az:=⟨some a,x,some (k,false)⟩
abbrev p(x:b7):az:=⟨none,x,none⟩
abbrev ai(n:Int):aH:=.c (.int .i64 n)
abbrev T:aH:=.c (.bool true)
abbrev bn:aH:=.c (.bool false)
abbrev m(a b:Nat):az:=⟨some a,.mv (.t b),none⟩
abbrev cX(a b k:Nat):az:=⟨some a,.mv (.t b),some (k,true)⟩
abbrev fK(a b k:Nat):az:=⟨some a,.mv (.t b),some (k,false)⟩
abbrev aY(a:Nat)(n:Int):az:=⟨some a,.mv (.c (.int .i64 n)),none⟩
abbrev l(a b:Nat):az:=⟨some a,.ld none (.t b),none⟩
abbrev ej(a b k:Nat):az:=⟨some a,.ld none (.t b),some (k,true)⟩
abbrev lB(a b k:Nat):az:=⟨some a,.ld none (.t b),some (k,false)⟩
abbrev ay(a s b:Nat):az:=⟨some a,.ld (some s) (.t b),none⟩
abbrev f(a b c d:Nat):az:=⟨some a,.fa b c (.t d),none⟩
abbrev dI(a b c d k:Nat):az:=⟨some a,.fa b c (.t d),some (k,true)⟩
abbrev fn(a b c d k:Nat):az:=⟨some a,.fa b c (.t d),some (k,false)⟩
abbrev ad(a b:Nat)(n:Int):az:=⟨some a,.bin .add (.t b) (.c (.int .i64 n)),none⟩
abbrev lt(a b c:Nat):az:=⟨some a,.bin .lss (.t b) (.t c),none⟩
abbrev and(a b c:Nat):az:=⟨some a,.pick (.t b) (.t c) (.c (.bool false)),none⟩
abbrev or(a b c:Nat):az:=⟨some a,.pick (.t b) (.c (.bool true)) (.t c),none⟩
abbrev no(a b:Nat):az:=⟨some a,.un .not (.t b),none⟩
abbrev b(a c:Nat):az:=⟨some a,.box (.t c),none⟩
abbrev s(x y:aM):aM:=.seq x y
abbrev r(g:List az):aM:=.b6 none g
abbrev bH(P:Program)(f:Func)(c:aM):Prop:=f.body.bind (eL P f.ntmps)=some c
abbrev bI(P:Program)(f:Func)(r:List a6):Prop:=iz P f.results.toList=some r
abbrev bF(P:Program)(n:FuncId):Prop:=gC P n=true
theorem e{α:Type}{a b:α}(h:a=b):a=b:=h
end Go.Abs.C
namespace Go.Proofs.YtcldiigclhgafaaGreat
open Go Go.Abs Go.Abs.C
def acG:=[b 2 0,o 4 (.mv bn)]
def acH:=[f 23 0 0 2,l 24 23,o 25 (.call 24 [.t 24]),o 5 (.alloc (.agg [.agg [.int .i64 0,.int .i64 0,.int .i64 0,.int .i64 0,.int .i64 0],.int .i64 0,.nils 7])),p (.bB (some 7) (.t 5) (.t 25))]
def acS:=[m 26 1,o 27 (.call 25 [.t 26,(ai 40)]),m 1 27]
def ac3:=[f 28 2 6 5,l 29 28,o 30 (.len (.t 29)),o 31 (.bin .eql (.t 30) (ai 0))]
def adb:=[o 32 (.call 22 []),m 4 32]
def ade:=[f 33 2 6 5,l 34 33,f 35 1 1 2,l 36 35,f 37 2 6 5,l 38 37,o 39 (.len (.t 38)),o 40 (.call 25 [.t 36,.t 39]),o 41 (.is 7 (.t 34) (.t 40)),ay 42 7 41,o 6 (.alloc (.agg [.int .i64 0,.agg [.int .i64 0,.int .i64 0,.int .i64 0,.int .i64 0,.int .i64 0,.int .i64 0]])),p (.bB (some 7) (.t 6) (.t 42))]
def Xa:=some [[],[0],[],[2],[],[4],[5],[3,6],[1,7],[8],[],[10,9,7,0,1,2,3,4,5,6,7,8,9,10]]
def adf:=[o 43 (.bld [.agg [.int .i64 0,.int .i64 0],.int .i64 0,.int .i64 0,.int .i64 0,.int .i64 0,.int .i64 0,.int .i64 0,.int .i64 0,.agg [.int .i64 0,.int .i64 0,.int .i64 0,.int .i64 0,.int .i64 0,.int .i64 0],.agg [.int .i64 0,.int .i64 0]] [(1,(ai 2)),(4,(ai 7)),(6,(ai 1))]),o 44 (.bs 68 17 [.t 43]),m 7 44]
def adg:=[o 8 (.mv (.c (.nils 6)))]
def adh:=[aY 9 0]
def H3:=[m 45 9,f 46 2 2 2,l 47 46,o 48 (.len (.t 47)),lt 49 45 48,m 50 49,cX 51 9 50,bR 52 (.bin .lss (.t 51) (ai 6)) 50,and 53 50 52]
def acI:=[m 56 9,o 57 (.bin .add (ai 1) (.t 56)),o 58 (.bld [.int .i64 0,.int .i64 0] [(1,(.t 57))]),f 59 2 2 2,l 60 59,m 61 9,o 62 (.is 1 (.t 60) (.t 61)),l 63 62,o 64 (.call 34 [.t 63,(ai 0)]),o 65 (.call 25 [.t 64,(ai 40)]),ay 66 7 5,f 67 1 1 6,ay 68 6 67,f 69 2 2 2,l 70 69,m 71 9,o 72 (.is 1 (.t 70) (.t 71)),l 73 72,o 74 (.call 35 [.t 66,.t 68,.t 73]),o 75 (.bld [.agg [.int .i64 0,.int .i64 0],.int .i64 0,.int .i64 0,.int .i64 0,.int .i64 0,.int .i64 0,.int .i64 0,.int .i64 0,.agg [.int .i64 0,.int .i64 0,.int .i64 0,.int .i64 0,.int .i64 0,.int .i64 0],.agg [.int .i64 0,.int .i64 0]] [(0,(.t 58)),(1,(ai 4)),(2,(ai 2)),(3,(.t 65)),(4,(ai 7)),(8,(.t 74))]),o 10 (.alloc (.agg [.agg [.int .i64 0,.int .i64 0],.int .i64 0,.int .i64 0,.int .i64 0,.int .i64 0,.int .i64 0,.int .i64 0,.int .i64 0,.agg [.int .i64 0,.int .i64 0,.int .i64 0,.int .i64 0,.int .i64 0,.int .i64 0],.agg [.int .i64 0,.int .i64 0]])),p (.bB (some 17) (.t 10) (.t 75))]
def W8:=some [[],[0],[1],[],[3],[],[4,5],[6],[7],[8,8],[],[],[11],[],[13],[],[14,15],[16],[10,12,17,9],[2,9,18],[],[20,19,18,0,1,2,3,4,5,6,7,8,9,10,11,12,13,14,15,16,17,18,19,20]]
def acJ:=[m 76 7,ay 77 17 10,o 78 (.bs 68 17 [.t 77]),o 79 (.dH 68 17 136 (.agg [.agg [.int .i64 0,.int .i64 0],.int .i64 0,.int .i64 0,.int .i64 0,.int .i64 0,.int .i64 0,.int .i64 0,.int .i64 0,.agg [.int .i64 0,.int .i64 0,.int .i64 0,.int .i64 0,.int .i64 0,.int .i64 0],.agg [.int .i64 0,.int .i64 0]]) (.t 76) (.t 78)),m 7 79]
def acK:=[f 80 3 4 10,l 81 80,m 82 1,o 83 (.bin .leq (.t 81) (.t 82))]
def acL:=[m 84 8,f 85 8 9 10,ay 86 6 85,o 87 (.bs 66 6 [.t 86]),o 88 (.dH 66 6 48 (.agg [.int .i64 0,.int .i64 0,.int .i64 0,.int .i64 0,.int .i64 0,.int .i64 0]) (.t 84) (.t 87)),m 8 88]
def acM:=[m 54 9,ad 55 54 1,m 9 55]
def acN:=[ay 90 7 5,m 91 7,m 92 1,o 93 (.call 14 [.t 90,.t 91,(ai 7),.t 92]),m 89 93,o 94 (.ext (.t 89) 0),o 95 (.ext (.t 89) 1),m 11 94,m 12 95]
def acO:=[m 96 12,o 97 (.bin .neq (.t 96) (ai 0)),m 98 97,fK 99 11 98,fn 100 0 0 6 98,lB 101 100 98,on 102 (.call 36 [.t 99,.t 101]) 98,on 103 (.un .not (.t 102)) 98,or 104 98 103]
def acP:=[o 4 (.mv bn)]
def acQ:=[aY 13 0]
def acR:=[m 105 13,f 106 2 6 5,l 107 106,o 108 (.len (.t 107)),lt 109 105 108]
def acT:=[o 14 (.mv T)]
def acU:=[aY 15 0]
def acV:=[m 112 15,m 113 8,o 114 (.len (.t 113)),lt 115 112 114]
def acW:=[f 119 0 0 5,ay 120 5 119,f 121 2 6 5,l 122 121,m 123 13,o 124 (.is 7 (.t 122) (.t 123)),f 125 1 1 124,ay 126 6 125,m 127 8,m 128 15,o 129 (.is 6 (.t 127) (.t 128)),ay 130 6 129,o 131 (.call 37 [.t 120,.t 126,.t 130]),m 118 131,o 132 (.ext (.t 118) 0),o 133 (.ext (.t 118) 1),m 16 132,m 17 133]
def W9:=some [[],[0],[],[2],[],[3,4],[5],[6],[],[],[8,9],[10],[1,7,11],[12],[13],[13],[14,12,0,1,2,3,4,5,6,7,8,9,10,11,12,13,14],[15,16,0,1,2,3,4,5,6,7,8,9,10,11,12,13,14,15,16]]
def acX:=[m 134 14,m 135 134,cX 136 17 135,bR 137 (.bin .eql (.t 136) (ai 0)) 135,and 138 135 137,m 139 138,cX 140 16 139,dI 141 1 5 5 139,ej 142 141 139,bR 143 (.bin .leq (.t 140) (.t 142)) 139,and 144 139 143,m 14 144]
def acY:=[m 116 15,ad 117 116 1,m 15 117]
def acZ:=[m 145 14,m 146 11,f 147 2 6 5,l 148 147,m 149 13,o 150 (.is 7 (.t 148) (.t 149)),f 151 0 0 150,l 152 151,o 153 (.call 36 [.t 146,.t 152]),o 154 (.eqv .b true (.t 145) (.t 153))]
def ac0:=[o 4 (.mv bn)]
def ac1:=[m 110 13,ad 111 110 1,m 13 111]
def ac2:=[aY 18 1]
def ac4:=[m 155 18,m 156 7,o 157 (.len (.t 156)),lt 158 155 157]
def ac5:=[m 162 7,m 163 7,m 164 18,o 165 (.is 17 (.t 163) (.t 164)),f 166 0 0 165,ay 167 2 166,o 168 (.call 38 [.t 162,.t 167]),m 161 168,o 169 (.ext (.t 161) 0),o 170 (.ext (.t 161) 1),m 19 169,m 20 170]
def ac6:=[ay 172 7 5,m 173 19,m 174 1,o 175 (.call 14 [.t 172,.t 173,(ai 7),.t 174]),m 171 175,o 176 (.ext (.t 171) 0),o 177 (.ext (.t 171) 1),m 21 176,m 22 177]
def ac7:=[m 178 20,o 179 (.bin .neq (.t 178) (ai 0)),m 180 179,fK 181 22 180,on 182 (.bin .neq (.t 181) (ai 0)) 180,or 183 180 182,m 184 183,fK 185 21 184,on 186 (.len (.t 185)) 184,fK 187 11 184,on 188 (.len (.t 187)) 184,on 189 (.bin .lss (.t 186) (.t 188)) 184,or 190 184 189]
def ac8:=[o 4 (.mv bn)]
def ac9:=[m 159 18,ad 160 159 1,m 18 160]
def ada:=[o 191 (.call 22 []),m 4 191]
def Bj:aM:=(s (r acG) (s (r acH) (s (r acS) (s (s (r ac3) (.cond (.t 31) (s (r adb) .ret) .skip)) (s (.b6 Xa ade) (s (r adf) (s (r adg) (s (s (r adh) (.block 0 (.loop (s (s (r H3) (.cond (.t 53) .skip (.exit 0))) (s (.block 1 (s (.b6 W8 acI) (s (r acJ) (s (r acK) (.cond (.t 83) (r acL) .skip))))) (r acM)))))) (s (r acN) (s (s (r acO) (.cond (.t 104) (s (r acP) .ret) .skip)) (s (s (r acQ) (.block 2 (.loop (s (s (r acR) (.cond (.t 109) .skip (.exit 2))) (s (.block 3 (s (r acT) (s (s (r acU) (.block 4 (.loop (s (s (r acV) (.cond (.t 115) .skip (.exit 4))) (s (.block 5 (s (.b6 W9 acW) (r acX))) (r acY)))))) (s (r acZ) (.cond (.t 154) (s (r ac0) .ret) .skip))))) (r ac1)))))) (s (s (r ac2) (.block 6 (.loop (s (s (r ac4) (.cond (.t 158) .skip (.exit 6))) (s (.block 7 (s (r ac5) (s (r ac6) (s (r ac7) (.cond (.t 190) (s (r ac8) .ret) .skip))))) (r ac9)))))) (s (r ada) .ret)))))))))))))
def Mh:List a6:=[.tmp 4]
theorem TY:bH Tryz.prog Tryz.f6 Bj:=e (by kernel_rfl)
theorem V0:bI Tryz.prog Tryz.f6 Mh:=e (by kernel_rfl)
theorem R9:bF Tryz.prog 6:=e (by kernel_rfl)
def Zu:=[b 4 0,o 8 (.mv (.c (.nils 1))),aY 9 0]
def Zv:=[ay 13 7 4,o 14 (.call 66 [.t 13]),m 10 14]
def Zx:=[m 15 10,o 16 (.bin .neq (.t 15) (ai 0))]
def Zy:=[m 17 10,o 8 (.mv (.c (.nils 1))),m 9 17]
def Zz:=[m 18 1,m 19 2,o 20 (.bld [.int .i64 0,.int .i64 0] [(0,(.t 19)),(1,(ai 9999))]),o 21 (.bs 28 2 [.t 20]),m 22 3,o 23 (.bs 3 1 [.t 22]),o 24 (.call 67 [.t 18,.t 21,.t 23]),m 11 24]
def ZA:=[m 25 11,o 26 (.bin .neq (.t 25) (ai 0))]
def ZB:=[m 27 11,o 8 (.mv (.c (.nils 1))),m 9 27]
def ZC:=[m 28 1,m 29 3,o 30 (.call 68 [.t 28,.t 29]),o 31 (.nilC (.t 30)),f 32 0 0 31,l 33 32,m 34 2,o 35 (.lk (.i .i64) (.nilp) false (.t 33) (.t 34)),m 12 35]
def ZD:=[m 36 12,o 37 (.ptrE false (.t 36) (.c (.nilp)))]
def ZE:=[o 8 (.mv (.c (.nils 1))),aY 9 42]
def Zw:=[ay 38 7 4,m 39 12,o 40 (.call 69 [.t 38,.t 39]),m 8 40,aY 9 0]
def Ak:aM:=(s (r Zu) (s (s (r Zv) (s (r Zx) (.cond (.t 16) (s (r Zy) .ret) .skip))) (s (s (r Zz) (s (r ZA) (.cond (.t 26) (s (r ZB) .ret) .skip))) (s (r ZC) (s (s (r ZD) (.cond (.t 37) (s (r ZE) .ret) .skip)) (s (r Zw) .ret))))))
def Lk:List a6:=[.tmp 8,.tmp 9]
theorem S2:bH Tryz.prog Tryz.f14 Ak:=e (by kernel_rfl)
theorem U5:bI Tryz.prog Tryz.f14 Lk:=e (by kernel_rfl)
theorem Rg:bF Tryz.prog 14:=e (by kernel_rfl)
def ZJ:=[b 3 0,o 6 (.mv (.c (.nils 1))),aY 7 0]
def ZK:=[ay 10 7 3,o 11 (.call 66 [.t 10]),m 8 11]
def ZL:=[m 12 8,o 13 (.bin .neq (.t 12) (ai 0))]
def ZM:=[m 14 8,o 6 (.mv (.c (.nils 1))),m 7 14]
def ZN:=[m 15 1,m 16 2,o 17 (.bs 3 1 [.t 16]),o 18 (.call 67 [.t 15,(.c (.nils 2)),.t 17]),m 9 18]
def ZO:=[m 19 9,o 20 (.bin .neq (.t 19) (ai 0))]
def ZP:=[m 21 9,o 6 (.mv (.c (.nils 1))),m 7 21]
def ZQ:=[m 22 1,m 23 2,o 24 (.call 68 [.t 22,.t 23]),o 25 (.mk 73 [.t 3]),o 26 (.call 72 [.t 24,.t 25]),m 6 26,aY 7 0]
def Ax:aM:=(s (r ZJ) (s (s (r ZK) (s (r ZL) (.cond (.t 13) (s (r ZM) .ret) .skip))) (s (s (r ZN) (s (r ZO) (.cond (.t 20) (s (r ZP) .ret) .skip))) (s (r ZQ) .ret))))
def Lw:List a6:=[.tmp 6,.tmp 7]
theorem Te:bH Tryz.prog Tryz.f16 Ax:=e (by kernel_rfl)
theorem Vh:bI Tryz.prog Tryz.f16 Lw:=e (by kernel_rfl)
theorem Rr:bF Tryz.prog 16:=e (by kernel_rfl)
def aaz:=[b 4 0,o 8 (.mv (.c (.nils 2))),aY 9 0]
def aaA:=[ay 17 7 4,m 18 1,m 19 2,m 20 3,o 21 (.call 14 [.t 17,.t 18,.t 19,.t 20]),m 16 21,o 22 (.ext (.t 16) 0),o 23 (.ext (.t 16) 1),m 10 22,m 11 23]
def aaE:=[m 24 11,o 25 (.bin .neq (.t 24) (ai 0))]
def aaF:=[m 26 11,o 8 (.mv (.c (.nils 2))),m 9 26]
def aaG:=[m 27 1,m 28 3,o 29 (.call 68 [.t 27,.t 28]),o 30 (.nilC (.t 29)),f 31 0 0 30,l 32 31,m 33 2,o 34 (.lk (.i .i64) (.nilp) false (.t 32) (.t 33)),m 12 34]
def aaH:=[o 13 (.mv (.c (.nils 2)))]
def aaI:=[m 35 1,o 36 (.len (.t 35)),aY 37 0]
def aaJ:=[lt 38 37 36]
def aaK:=[m 39 37,o 40 (.is 17 (.t 35) (.t 37)),ay 41 17 40,o 15 (.alloc (.agg [.agg [.int .i64 0,.int .i64 0],.int .i64 0,.int .i64 0,.int .i64 0,.int .i64 0,.int .i64 0,.int .i64 0,.int .i64 0,.agg [.int .i64 0,.int .i64 0,.int .i64 0,.int .i64 0,.int .i64 0,.int .i64 0],.agg [.int .i64 0,.int .i64 0]])),m 14 39,p (.bB (some 17) (.t 15) (.t 41))]
def aaL:=[ay 42 7 4,m 43 12,m 44 1,m 45 14,o 46 (.call 78 [.t 44,.t 45]),m 47 3,o 48 (.call 68 [.t 46,.t 47]),o 49 (.nilC (.t 48)),f 50 0 0 49,l 51 50,m 52 2,o 53 (.lk (.i .i64) (.nilp) false (.t 51) (.t 52)),o 54 (.call 77 [.t 42,.t 43,.t 53]),no 55 54]
def WN:=some [[],[],[],[],[2,3],[],[4,5,4],[6],[7],[8],[],[9,10],[0,1,11,6],[12]]
def aaB:=[m 56 13,f 57 0 0 15,ay 58 2 57,o 59 (.bs 65 2 [.t 58]),o 60 (.dH 65 2 16 (.agg [.int .i64 0,.int .i64 0]) (.t 56) (.t 59)),m 13 60]
def aaC:=[ad 61 37 1,m 37 61]
def aaD:=[m 62 13,m 8 62,aY 9 0]
def AQ:aM:=(s (r aaz) (s (s (r aaA) (s (r aaE) (.cond (.t 25) (s (r aaF) .ret) .skip))) (s (r aaG) (s (r aaH) (s (s (r aaI) (.block 0 (.loop (s (r aaJ) (s (.cond (.t 38) .skip (.exit 0)) (s (.block 1 (s (r aaK) (s (.b6 WN aaL) (.cond (.t 55) (r aaB) .skip)))) (r aaC))))))) (s (r aaD) .ret))))))
def LP:List a6:=[.tmp 8,.tmp 9]
theorem Tx:bH Tryz.prog Tryz.f18 AQ:=e (by kernel_rfl)
theorem Vz:bI Tryz.prog Tryz.f18 LP:=e (by kernel_rfl)
theorem RI:bF Tryz.prog 18:=e (by kernel_rfl)
def GM:=[o 4 (.mv bn)]
def GN:=[m 6 0,o 7 (.len (.t 6)),m 8 1,o 9 (.len (.t 8)),o 10 (.bin .neq (.t 7) (.t 9))]
def GO:=[o 4 (.mv bn)]
def GP:=[aY 5 0]
def GQ:=[m 11 5,m 12 0,o 13 (.len (.t 12)),lt 14 11 13]
def GR:=[m 17 0,m 18 5,o 19 (.is 1 (.t 17) (.t 18)),l 20 19,m 21 1,m 22 5,o 23 (.is 1 (.t 21) (.t 22)),l 24 23,o 25 (.bin .neq (.t 20) (.t 24))]
def WY:=some [[],[],[0,1],[2],[],[],[4,5],[6],[3,7]]
def GS:=[o 4 (.mv bn)]
def GU:=[m 15 5,ad 16 15 1,m 5 16]
def GV:=[o 4 (.mv T)]
def AY:aM:=(s (r GM) (s (s (r GN) (.cond (.t 10) (s (r GO) .ret) .skip)) (s (s (r GP) (.block 0 (.loop (s (s (r GQ) (.cond (.t 14) .skip (.exit 0))) (s (.block 1 (s (.b6 WY GR) (.cond (.t 25) (s (r GS) .ret) .skip))) (r GU)))))) (s (r GV) .ret))))
def LY:List a6:=[.tmp 4]
theorem TF:bH Tryz.prog Tryz.f20 AY:=e (by kernel_rfl)
theorem VH:bI Tryz.prog Tryz.f20 LY:=e (by kernel_rfl)
theorem RQ:bF Tryz.prog 20:=e (by kernel_rfl)
def abm:=[o 4 (.mv bn)]
def abn:=[m 6 0,o 7 (.len (.t 6)),m 8 1,o 9 (.len (.t 8)),o 10 (.bin .neq (.t 7) (.t 9))]
def abo:=[o 4 (.mv bn)]
def abp:=[aY 5 0]
def abq:=[m 11 5,m 12 0,o 13 (.len (.t 12)),lt 14 11 13]
def abr:=[m 17 0,m 18 5,o 19 (.is 2 (.t 17) (.t 18)),ay 20 2 19,m 21 1,m 22 5,o 23 (.is 2 (.t 21) (.t 22)),ay 24 2 23,o 25 (.eqv (.bB [(.i .i64),(.i .i64)]) true (.t 20) (.t 24))]
def W3:=some [[],[],[0,1],[2],[],[],[4,5],[6],[3,7]]
def abt:=[o 4 (.mv bn)]
def abu:=[m 15 5,ad 16 15 1,m 5 16]
def abv:=[o 4 (.mv T)]
def A2:aM:=(s (r abm) (s (s (r abn) (.cond (.t 10) (s (r abo) .ret) .skip)) (s (s (r abp) (.block 0 (.loop (s (s (r abq) (.cond (.t 14) .skip (.exit 0))) (s (.block 1 (s (.b6 W3 abr) (.cond (.t 25) (s (r abt) .ret) .skip))) (r abu)))))) (s (r abv) .ret))))
def L1:List a6:=[.tmp 4]
theorem TI:bH Tryz.prog Tryz.f21 A2:=e (by kernel_rfl)
theorem VK:bI Tryz.prog Tryz.f21 L1:=e (by kernel_rfl)
theorem RT:bF Tryz.prog 21:=e (by kernel_rfl)
def abw:=[o 0 (.mv bn)]
def abx:=[o 18 (.call 81 []),m 1 18]
def abA:=[o 19 (.call 82 []),o 2 (.alloc (.agg [.agg [.int .i64 0,.int .i64 0,.int .i64 0,.int .i64 0,.int .i64 0],.int .i64 0,.nils 7])),p (.bB (some 7) (.t 2) (.t 19))]
def abB:=[m 21 1,o 22 (.call 27 [.t 21,(ai 10),(ai 6),(ai 7)]),m 20 22,o 23 (.ext (.t 20) 0),o 24 (.ext (.t 20) 1),m 3 23,m 4 24]
def abC:=[ay 26 7 2,m 27 1,o 28 (.call 14 [.t 26,.t 27,(ai 20),(ai 9)]),m 25 28,o 29 (.ext (.t 25) 0),o 30 (.ext (.t 25) 1),m 5 29,m 6 30]
def abD:=[ay 32 7 2,m 33 1,o 34 (.call 14 [.t 32,.t 33,(ai 20),(ai 14)]),m 31 34,o 35 (.ext (.t 31) 0),o 36 (.ext (.t 31) 1),m 7 35,m 8 36]
def abE:=[ay 38 7 2,m 39 1,o 40 (.call 16 [.t 38,.t 39,(ai 11)]),m 37 40,o 41 (.ext (.t 37) 0),o 42 (.ext (.t 37) 1),m 9 41,m 10 42]
def abF:=[m 44 1,o 45 (.call 28 [.t 44,(ai 2),(ai 3),(ai 7),(ai 7)]),m 43 45,o 46 (.ext (.t 43) 0),o 47 (.ext (.t 43) 1),m 11 46,m 12 47]
def abG:=[m 49 1,o 50 (.call 26 [.t 49,(ai 12),(ai 12)]),m 48 50,o 51 (.ext (.t 48) 0),o 52 (.ext (.t 48) 1),m 13 51,m 14 52]
def abH:=[ay 54 7 2,m 55 1,o 56 (.call 18 [.t 54,.t 55,(ai 20),(ai 9)]),m 53 56,o 57 (.ext (.t 53) 0),o 58 (.ext (.t 53) 1),m 15 57,m 16 58]
def aby:=[m 59 4,o 60 (.bin .eql (.t 59) (ai 0)),m 61 60,cX 62 6 61,bR 63 (.bin .eql (.t 62) (ai 0)) 61,and 64 61 63,m 65 64,cX 66 8 65,bR 67 (.bin .eql (.t 66) (ai 0)) 65,and 68 65 67,m 69 68,cX 70 10 69,bR 71 (.bin .eql (.t 70) (ai 0)) 69,and 72 69 71,m 73 72,cX 74 12 73,bR 75 (.bin .eql (.t 74) (ai 0)) 73,and 76 73 75,m 77 76,cX 78 14 77,bR 79 (.bin .eql (.t 78) (ai 0)) 77,and 80 77 79,m 81 80,cX 82 16 81,bR 83 (.bin .eql (.t 82) (ai 0)) 81,and 84 81 83,m 17 84]
def abz:=[m 85 17,m 86 85,cX 87 3 86,bR 88 (.bin .eql (.t 87) (ai 2)) 86,and 89 86 88,m 90 89,cX 91 5 90,bR 92 (.bs 3 1 [(ai 3)]) 90,bR 93 (.call 20 [.t 91,.t 92]) 90,and 94 90 93,m 95 94,cX 96 7 95,bR 97 (.bs 3 1 [(ai 1),(ai 2),(ai 3)]) 95,bR 98 (.call 20 [.t 96,.t 97]) 95,and 99 95 98,m 100 99,cX 101 9 100,bR 102 (.bs 3 1 [(ai 11)]) 100,bR 103 (.call 20 [.t 101,.t 102]) 100,and 104 100 103,m 105 104,cX 106 11 105,bR 107 (.bin .eql (.t 106) (ai 1)) 105,and 108 105 107,m 109 108,cX 110 13 109,bR 111 (.bs 3 1 [(ai 11),(ai 20)]) 109,bR 112 (.call 20 [.t 110,.t 111]) 109,and 113 109 112,m 114 113,cX 115 15 114,bR 116 (.bld [.int .i64 0,.int .i64 0] [(1,(ai 2))]) 114,bR 117 (.bld [.int .i64 0,.int .i64 0] [(1,(ai 5))]) 114,bR 118 (.bs 65 2 [.t 116,.t 117]) 114,bR 119 (.call 21 [.t 115,.t 118]) 114,and 120 114 119,m 0 120]
def A8:aM:=(s (r abw) (s (r abx) (s (r abA) (s (r abB) (s (r abC) (s (r abD) (s (r abE) (s (r abF) (s (r abG) (s (r abH) (s (r aby) (s (r abz) .ret))))))))))))
def L6:List a6:=[.tmp 0]
theorem TN:bH Tryz.prog Tryz.f22 A8:=e (by kernel_rfl)
theorem VP:bI Tryz.prog Tryz.f22 L6:=e (by kernel_rfl)
theorem RY:bF Tryz.prog 22:=e (by kernel_rfl)
def Ha:=[o 2 (.alloc (.agg [.agg [.int .i64 0,.int .i64 0,.int .i64 0,.int .i64 0,.int .i64 0],.int .i64 0,.nils 7]))]
def Hb:=[m 7 0,o 8 (.call 85 [.t 7]),m 9 0,o 10 (.call 34 [.t 9,(ai 5)]),o 11 (.call 25 [.t 10,(ai 2)]),o 12 (.bld [.agg [.int .i64 0,.int .i64 0,.int .i64 0,.int .i64 0,.int .i64 0],.int .i64 0,.nils 7] [(0,(.t 8)),(1,(.t 11))]),o 3 (.alloc (.agg [.agg [.int .i64 0,.int .i64 0,.int .i64 0,.int .i64 0,.int .i64 0],.int .i64 0,.nils 7])),p (.bB (some 7) (.t 3) (.t 12))]
def Hc:=[aY 4 0]
def Hd:=[aY 5 0]
def He:=[m 13 5,m 14 0,o 15 (.len (.t 14)),lt 16 13 15,m 17 16,cX 18 5 17,bR 19 (.bin .lss (.t 18) (ai 12)) 17,and 20 17 19,m 21 20,dI 22 2 6 3 21,ej 23 22 21,bR 24 (.len (.t 23)) 21,bR 25 (.bin .lss (.t 24) (ai 9)) 21,and 26 21 25]
def Hf:=[m 29 4,m 30 0,m 31 5,o 32 (.is 1 (.t 30) (.t 31)),l 33 32,o 34 (.call 25 [.t 33,(ai 4)]),o 35 (.bin .add (ai 1) (.t 34)),o 36 (.bin .add (.t 29) (.t 35)),m 4 36]
def Hg:=[m 37 4,m 38 0,m 39 5,o 40 (.is 1 (.t 38) (.t 39)),l 41 40,o 42 (.bin .mul (.t 41) (ai 7)),m 43 5,o 44 (.bin .mul (.t 43) (ai 2503)),o 45 (.bin .add (.t 42) (.t 44)),o 46 (.call 25 [.t 45,(ai 15625)]),o 47 (.call 86 [.t 46]),o 48 (.bld [.int .i64 0,.agg [.int .i64 0,.int .i64 0,.int .i64 0,.int .i64 0,.int .i64 0,.int .i64 0]] [(0,(.t 37)),(1,(.t 47))]),o 6 (.alloc (.agg [.int .i64 0,.agg [.int .i64 0,.int .i64 0,.int .i64 0,.int .i64 0,.int .i64 0,.int .i64 0]])),p (.bB (some 7) (.t 6) (.t 48))]
def Hh:=[ay 49 7 3,f 50 1 1 6,ay 51 6 50,o 52 (.call 87 [.t 49,.t 51]),no 53 52]
def Hi:=[f 54 2 6 3,l 55 54,ay 56 7 6,o 57 (.bs 63 7 [.t 56]),o 58 (.dH 63 7 56 (.agg [.int .i64 0,.agg [.int .i64 0,.int .i64 0,.int .i64 0,.int .i64 0,.int .i64 0,.int .i64 0]]) (.t 55) (.t 57)),f 59 2 6 3,p (.bB none (.t 59) (.t 58))]
def vX:=[m 27 5,ad 28 27 1,m 5 28]
def sj:=[ay 60 7 3,p (.bB (some 7) (.t 2) (.t 60))]
def A9:aM:=(s (r Ha) (s (r Hb) (s (r Hc) (s (s (r Hd) (.block 0 (.loop (s (s (r He) (.cond (.t 26) .skip (.exit 0))) (s (.block 1 (s (r Hf) (s (r Hg) (s (r Hh) (.cond (.t 53) (r Hi) .skip))))) (r vX)))))) (s (r sj) .ret)))))
def L7:List a6:=[.cell 2 (some 7)]
theorem TO:bH Tryz.prog Tryz.f24 A9:=e (by kernel_rfl)
theorem VQ:bI Tryz.prog Tryz.f24 L7:=e (by kernel_rfl)
theorem RZ:bF Tryz.prog 24:=e (by kernel_rfl)
def Hj:=[aY 4 0]
def Hk:=[m 5 0,m 6 1,o 7 (.bin .rem (.t 5) (.t 6)),m 8 1,o 9 (.bin .add (.t 7) (.t 8)),m 10 1,o 11 (.bin .rem (.t 9) (.t 10)),m 4 11]
def Ba:aM:=(s (r Hj) (s (r Hk) .ret))
def L8:List a6:=[.tmp 4]
theorem TP:bH Tryz.prog Tryz.f25 Ba:=e (by kernel_rfl)
theorem VR:bI Tryz.prog Tryz.f25 L8:=e (by kernel_rfl)
theorem R0:bF Tryz.prog 25:=e (by kernel_rfl)
def abI:=[o 6 (.mv (.c (.nils 1))),aY 7 0]
def abJ:=[m 11 0,m 12 1,m 13 2,o 14 (.bs 3 1 [.t 12,.t 13]),o 15 (.call 67 [.t 11,(.c (.nils 2)),.t 14]),m 8 15]
def abK:=[m 16 8,o 17 (.bin .neq (.t 16) (ai 0))]
def abL:=[m 18 8,o 6 (.mv (.c (.nils 1))),m 7 18]
def abM:=[m 20 0,m 21 1,m 22 2,o 23 (.call 88 [.t 20,.t 21,.t 22]),m 19 23,o 24 (.ext (.t 19) 0),o 25 (.ext (.t 19) 1),m 9 24,m 10 25]
def abN:=[m 26 9,o 27 (.call 72 [.t 26,(.c (.func 89 []))]),m 6 27,aY 7 0]
def Bb:aM:=(s (r abI) (s (s (r abJ) (s (r abK) (.cond (.t 17) (s (r abL) .ret) .skip))) (s (r abM) (s (r abN) .ret))))
def L9:List a6:=[.tmp 6,.tmp 7]
theorem TQ:bH Tryz.prog Tryz.f26 Bb:=e (by kernel_rfl)
theorem VS:bI Tryz.prog Tryz.f26 L9:=e (by kernel_rfl)
theorem R1:bF Tryz.prog 26:=e (by kernel_rfl)
def abO:=[aY 8 0,aY 9 0]
def abP:=[m 14 0,m 15 1,o 16 (.bld [.int .i64 0,.int .i64 0] [(0,(.t 15)),(1,(ai 9999))]),o 17 (.bs 28 2 [.t 16]),m 18 2,m 19 3,o 20 (.bs 3 1 [.t 18,.t 19]),o 21 (.call 67 [.t 14,.t 17,.t 20]),m 10 21]
def abR:=[m 22 10,o 23 (.bin .neq (.t 22) (ai 0))]
def abS:=[m 24 10,aY 8 0,m 9 24]
def abT:=[m 26 0,m 27 2,m 28 3,o 29 (.call 88 [.t 26,.t 27,.t 28]),m 25 29,o 30 (.ext (.t 25) 0),o 31 (.ext (.t 25) 1),m 11 30,m 12 31]
def abU:=[m 32 11,o 33 (.nilC (.t 32)),f 34 0 0 33,l 35 34,m 36 1,o 37 (.lk (.i .i64) (.nilp) false (.t 35) (.t 36)),m 13 37]
def abV:=[m 39 13,o 40 (.ptrE false (.t 39) (.c (.nilp))),m 38 40]
def abW:=[aY 8 0,aY 9 42]
def abX:=[m 42 13,o 43 (.call 90 [.t 42]),m 41 43]
def abY:=[aY 8 0,aY 9 0]
def abQ:=[m 44 13,o 45 (.nilC (.t 44)),f 46 0 0 45,f 47 3 3 46,l 48 47,m 8 48,aY 9 0]
def Bc:aM:=(s (r abO) (s (s (r abP) (s (r abR) (.cond (.t 23) (s (r abS) .ret) .skip))) (s (r abT) (s (r abU) (s (.block 0 (s (r abV) (.cond (.t 38) (s (r abW) .ret) (s (r abX) (.cond (.t 41) (s (r abY) .ret) .skip))))) (s (r abQ) .ret))))))
def Ma:List a6:=[.tmp 8,.tmp 9]
theorem TR:bH Tryz.prog Tryz.f27 Bc:=e (by kernel_rfl)
theorem VT:bI Tryz.prog Tryz.f27 Ma:=e (by kernel_rfl)
theorem R2:bF Tryz.prog 27:=e (by kernel_rfl)
def abZ:=[b 6 1,b 7 2,aY 10 0,aY 11 0]
def ab0:=[m 15 0,l 16 6,o 17 (.bld [.int .i64 0,.int .i64 0] [(0,(.t 16)),(1,(ai 99))]),l 18 7,o 19 (.bld [.int .i64 0,.int .i64 0] [(0,(.t 18)),(1,(ai 9))]),o 20 (.bs 28 2 [.t 17,.t 19]),m 21 3,m 22 4,o 23 (.bs 3 1 [.t 21,.t 22]),o 24 (.call 67 [.t 15,.t 20,.t 23]),m 12 24]
def ab1:=[m 25 12,o 26 (.bin .neq (.t 25) (ai 0))]
def ab2:=[m 27 12,aY 10 0,m 11 27]
def ab3:=[m 29 0,m 30 3,m 31 4,o 32 (.call 88 [.t 29,.t 30,.t 31]),m 28 32,o 33 (.ext (.t 28) 0),o 34 (.ext (.t 28) 1),m 13 33,m 14 34]
def ab4:=[m 35 13,o 36 (.mk 91 [.t 6,.t 7]),o 37 (.call 72 [.t 35,.t 36]),o 38 (.len (.t 37)),m 10 38,aY 11 0]
def Bd:aM:=(s (r abZ) (s (s (r ab0) (s (r ab1) (.cond (.t 26) (s (r ab2) .ret) .skip))) (s (r ab3) (s (r ab4) .ret))))
def Mb:List a6:=[.tmp 10,.tmp 11]
theorem TS:bH Tryz.prog Tryz.f28 Bd:=e (by kernel_rfl)
theorem VU:bI Tryz.prog Tryz.f28 Mb:=e (by kernel_rfl)
theorem R3:bF Tryz.prog 28:=e (by kernel_rfl)
def Hl:=[aY 4 0]
def Hm:=[m 5 0,o 6 (.len (.t 5)),o 7 (.bin .eql (.t 6) (ai 0))]
def Hn:=[aY 4 0]
def Ho:=[m 8 0,m 9 1,m 10 0,o 11 (.len (.t 10)),o 12 (.call 25 [.t 9,.t 11]),o 13 (.is 1 (.t 8) (.t 12)),l 14 13,m 4 14]
def Be:aM:=(s (r Hl) (s (s (r Hm) (.cond (.t 7) (s (r Hn) .ret) .skip)) (s (r Ho) .ret)))
def Mc:List a6:=[.tmp 4]
theorem TT:bH Tryz.prog Tryz.f34 Be:=e (by kernel_rfl)
theorem VV:bI Tryz.prog Tryz.f34 Mc:=e (by kernel_rfl)
theorem R4:bF Tryz.prog 34:=e (by kernel_rfl)
def Hp:=[b 3 0,b 4 1,o 6 (.alloc (.agg [.int .i64 0,.int .i64 0,.int .i64 0,.int .i64 0,.int .i64 0,.int .i64 0]))]
def Hq:=[f 13 0 0 3,ay 14 5 13,ay 15 6 4,m 16 2,o 17 (.call 98 [.t 14,.t 15,.t 16]),m 12 17,o 18 (.ext (.t 12) 0),o 19 (.ext (.t 12) 1),o 7 (.alloc (.agg [.int .i64 0,.int .i64 0,.int .i64 0,.int .i64 0,.int .i64 0,.int .i64 0])),p (.bB (some 6) (.t 7) (.t 18)),m 8 19]
def Ht:=[aY 9 0]
def Hu:=[m 20 9,f 21 1 5 3,l 22 21,lt 23 20 22]
def Hv:=[m 26 2,m 27 9,ad 28 27 2,o 29 (.call 34 [.t 26,.t 28]),o 30 (.call 25 [.t 29,(ai 6)]),m 31 2,m 32 9,ad 33 32 5,o 34 (.call 34 [.t 31,.t 33]),o 35 (.call 25 [.t 34,(ai 5)]),o 36 (.bin .shl (ai 1) (.t 35)),o 37 (.ia 6 1 (.t 7) (.t 30)),p (.bB none (.t 37) (.t 36))]
def Hw:=[m 24 9,ad 25 24 1,m 9 25]
def Hx:=[aY 10 0]
def Hy:=[m 38 10,m 39 2,o 40 (.call 34 [.t 39,(ai 1)]),o 41 (.call 25 [.t 40,(ai 4)]),lt 42 38 41]
def Hz:=[m 45 2,m 46 10,ad 47 46 7,o 48 (.call 34 [.t 45,.t 47]),o 49 (.call 25 [.t 48,(ai 6)]),m 11 49]
def HA:=[m 50 11,m 51 11,o 52 (.ia 6 1 (.t 7) (.t 51)),l 53 52,m 54 2,m 55 10,ad 56 55 3,o 57 (.call 34 [.t 54,.t 56]),o 58 (.call 25 [.t 57,(ai 32)]),o 59 (.bin .or (.t 53) (.t 58)),o 60 (.ia 6 1 (.t 7) (.t 50)),p (.bB none (.t 60) (.t 59))]
def W4:=some [[],[],[1],[2],[],[],[5],[4,6],[7,7],[3,8],[0,0,1,2,3,4,5,6,7,8,9],[10,9,8,0,1,2,3,4,5,6,7,8,9]]
def Hr:=[m 43 10,ad 44 43 1,m 10 44]
def Hs:=[ay 61 6 7,p (.bB (some 6) (.t 6) (.t 61))]
def Bf:aM:=(s (r Hp) (s (r Hq) (s (s (r Ht) (.block 0 (.loop (s (s (r Hu) (.cond (.t 23) .skip (.exit 0))) (s (.block 1 (r Hv)) (r Hw)))))) (s (s (r Hx) (.block 2 (.loop (s (s (r Hy) (.cond (.t 42) .skip (.exit 2))) (s (.block 3 (s (r Hz) (.b6 W4 HA))) (r Hr)))))) (s (r Hs) .ret)))))
def Md:List a6:=[.cell 6 (some 6)]
theorem TU:bH Tryz.prog Tryz.f35 Bf:=e (by kernel_rfl)
theorem VW:bI Tryz.prog Tryz.f35 Md:=e (by kernel_rfl)
theorem R5:bF Tryz.prog 35:=e (by kernel_rfl)
def HB:=[o 4 (.mv bn)]
def HC:=[aY 5 0]
def HD:=[m 6 5,m 7 0,o 8 (.len (.t 7)),lt 9 6 8]
def HE:=[m 12 0,m 13 5,o 14 (.is 1 (.t 12) (.t 13)),l 15 14,m 16 1,o 17 (.bin .eql (.t 15) (.t 16))]
def HF:=[o 4 (.mv T)]
def HG:=[m 10 5,ad 11 10 1,m 5 11]
def HI:=[o 4 (.mv bn)]
def Bg:aM:=(s (r HB) (s (s (r HC) (.block 0 (.loop (s (s (r HD) (.cond (.t 9) .skip (.exit 0))) (s (.block 1 (s (r HE) (.cond (.t 17) (s (r HF) .ret) .skip))) (r HG)))))) (s (r HI) .ret)))
def Me:List a6:=[.tmp 4]
theorem TV:bH Tryz.prog Tryz.f36 Bg:=e (by kernel_rfl)
theorem VX:bI Tryz.prog Tryz.f36 Me:=e (by kernel_rfl)
theorem R6:bF Tryz.prog 36:=e (by kernel_rfl)
def HJ:=[b 3 0,b 4 1,b 5 2,aY 6 0,aY 7 0]
def HK:=[ay 9 5 3,o 10 (.call 99 [.t 9]),o 11 (.bin .neq (.t 10) (ai 0))]
def HL:=[aY 6 0,aY 7 11]
def HM:=[ay 12 6 4,o 13 (.call 100 [.t 12]),o 14 (.bin .neq (.t 13) (ai 0))]
def HN:=[aY 6 0,aY 7 10]
def HO:=[ay 15 6 5,o 16 (.call 101 [.t 15]),o 17 (.bin .neq (.t 16) (ai 0))]
def HP:=[aY 6 0,aY 7 12]
def HQ:=[ay 18 5 3,ay 19 6 4,ay 20 6 5,o 21 (.call 102 [.t 18,.t 19,.t 20]),m 8 21]
def HR:=[m 22 8,m 6 22,aY 7 0]
def Bh:aM:=(s (r HJ) (s (s (r HK) (.cond (.t 11) (s (r HL) .ret) .skip)) (s (s (r HM) (.cond (.t 14) (s (r HN) .ret) .skip)) (s (s (r HO) (.cond (.t 17) (s (r HP) .ret) .skip)) (s (r HQ) (s (r HR) .ret))))))
def Mf:List a6:=[.tmp 6,.tmp 7]
theorem TW:bH Tryz.prog Tryz.f37 Bh:=e (by kernel_rfl)
theorem VY:bI Tryz.prog Tryz.f37 Mf:=e (by kernel_rfl)
theorem R7:bF Tryz.prog 37:=e (by kernel_rfl)
def ab5:=[b 3 1,o 4 (.mv (.c (.nils 17))),aY 5 0]
def ab6:=[m 9 0,o 10 (.call 64 [.t 9]),m 6 10]
def ab7:=[m 11 6,o 12 (.bin .neq (.t 11) (ai 0))]
def ab8:=[m 13 6,o 4 (.mv (.c (.nils 17))),m 5 13]
def ab9:=[m 15 0,ay 16 2 3,o 17 (.call 103 [.t 15,.t 16]),m 14 17,o 18 (.ext (.t 14) 0),o 19 (.ext (.t 14) 1),m 7 18,m 8 19]
def aca:=[m 20 8,no 21 20]
def acb:=[o 4 (.mv (.c (.nils 17))),aY 5 3]
def acd:=[m 22 0,m 23 7,o 24 (.call 78 [.t 22,.t 23]),m 4 24,aY 5 0]
def Bi:aM:=(s (r ab5) (s (s (r ab6) (s (r ab7) (.cond (.t 12) (s (r ab8) .ret) .skip))) (s (r ab9) (s (s (r aca) (.cond (.t 21) (s (r acb) .ret) .skip)) (s (r acd) .ret)))))
def Mg:List a6:=[.tmp 4,.tmp 5]
theorem TX:bH Tryz.prog Tryz.f38 Bi:=e (by kernel_rfl)
theorem VZ:bI Tryz.prog Tryz.f38 Mg:=e (by kernel_rfl)
theorem R8:bF Tryz.prog 38:=e (by kernel_rfl)
def HS:=[aY 2 0]
def HT:=[m 5 0,o 6 (.len (.t 5)),o 7 (.bin .gtr (.t 6) (ai 60))]
def ace:=[aY 2 41]
def HU:=[m 8 0,o 9 (.len (.t 8)),aY 10 0]
def acf:=[lt 11 10 9]
def acg:=[m 12 10,o 13 (.is 17 (.t 8) (.t 10)),ay 14 17 13,o 4 (.alloc (.agg [.agg [.int .i64 0,.int .i64 0],.int .i64 0,.int .i64 0,.int .i64 0,.int .i64 0,.int .i64 0,.int .i64 0,.int .i64 0,.agg [.int .i64 0,.int .i64 0,.int .i64 0,.int .i64 0,.int .i64 0,.int .i64 0],.agg [.int .i64 0,.int .i64 0]])),m 3 12,p (.bB (some 17) (.t 4) (.t 14))]
def ach:=[ay 15 17 4,o 16 (.call 117 [.t 15]),no 17 16,m 18 17,fK 19 3 18,on 20 (.bin .gtr (.t 19) (ai 0)) 18,fK 21 20 18,cX 22 0 21,cX 23 3 21,bR 24 (.bin .sub (.t 23) (ai 1)) 21,bR 25 (.is 17 (.t 22) (.t 24)) 21,dI 26 0 0 25 21,bR 27 (.ld (some 2) (.t 26)) 21,dI 28 0 0 4 21,bR 29 (.ld (some 2) (.t 28)) 21,bR 30 (.call 118 [.t 27,.t 29]) 21,bR 31 (.bin .geq (.t 30) (ai 0)) 21,on 32 (.pick (.t 21) (.t 31) bn) 18,or 33 18 32]
def W5:=some [[],[0],[1],[2,1],[3],[4,3],[5,3,3],[6],[6],[8,6],[7,9,6],[10,6],[11,6],[6],[13,6],[12,14,6,6],[15,6],[6,16,3],[3,17]]
def aci:=[aY 2 41]
def acj:=[ad 34 10 1,m 10 34]
def ack:=[aY 2 0]
def Bk:aM:=(s (r HS) (s (s (r HT) (.cond (.t 7) (s (r ace) .ret) .skip)) (s (s (r HU) (.block 0 (.loop (s (r acf) (s (.cond (.t 11) .skip (.exit 0)) (s (.block 1 (s (r acg) (s (.b6 W5 ach) (.cond (.t 33) (s (r aci) .ret) .skip)))) (r acj))))))) (s (r ack) .ret))))
def Mi:List a6:=[.tmp 2]
theorem TZ:bH Tryz.prog Tryz.f64 Bk:=e (by kernel_rfl)
theorem V1:bI Tryz.prog Tryz.f64 Mi:=e (by kernel_rfl)
theorem Sa:bF Tryz.prog 64:=e (by kernel_rfl)
def HV:=[b 1 0,aY 2 0]
def HW:=[f 5 0 0 1,ay 6 5 5,o 7 (.call 120 [.t 6]),no 8 7,m 9 8,fn 10 1 5 1 9,lB 11 10 9,on 12 (.call 121 [.t 11,(ai 0),(ai 2)]) 9,on 13 (.un .not (.t 12)) 9,or 14 9 13,m 15 14,fn 16 2 6 1 15,lB 17 16 15,on 18 (.len (.t 17)) 15,on 19 (.bin .gtr (.t 18) (ai 40)) 15,or 20 15 19]
def sk:=[aY 2 13]
def HX:=[f 21 2 6 1,l 22 21,o 23 (.len (.t 22)),aY 24 0]
def HY:=[lt 25 24 23]
def HZ:=[m 26 24,o 27 (.is 7 (.t 22) (.t 24)),ay 28 7 27,o 4 (.alloc (.agg [.int .i64 0,.agg [.int .i64 0,.int .i64 0,.int .i64 0,.int .i64 0,.int .i64 0,.int .i64 0]])),m 3 26,p (.bB (some 7) (.t 4) (.t 28))]
def H0:=[f 29 0 0 4,l 30 29,o 31 (.call 122 [.t 30]),no 32 31,m 33 32,fn 34 1 1 4 33,on 35 (.ld (some 6) (.t 34)) 33,on 36 (.call 123 [.t 35]) 33,on 37 (.un .not (.t 36)) 33,or 38 33 37,m 39 38,fK 40 3 39,on 41 (.bin .gtr (.t 40) (ai 0)) 39,fK 42 41 39,dI 43 2 6 1 42,ej 44 43 42,cX 45 3 42,bR 46 (.bin .sub (.t 45) (ai 1)) 42,bR 47 (.is 7 (.t 44) (.t 46)) 42,dI 48 0 0 47 42,ej 49 48 42,dI 50 0 0 4 42,ej 51 50 42,bR 52 (.bin .geq (.t 49) (.t 51)) 42,on 53 (.pick (.t 42) (.t 52) bn) 39,or 54 39 53,m 55 54,on 56 (.ld (some 7) (.t 1)) 55,fn 57 2 6 1 55,lB 58 57 55,fK 59 3 55,on 60 (.sl 7 (.t 58) none (some (.t 59)) none) 55,fn 61 1 1 4 55,on 62 (.ld (some 6) (.t 61)) 55,on 63 (.call 124 [.t 56,.t 60,.t 62]) 55,on 64 (.un .not (.t 63)) 55,or 65 55 64]
def W6:=some [[],[0],[1],[2],[3,2],[4],[5,4],[6,4,4],[7,4],[4,8],[9,7],[10],[11,10],[12,10,10],[13],[14,13],[13],[16,13],[15,17,13],[18,13],[19,13],[13],[21,13],[20,22,13],[13,23,10],[10,24],[25,13],[26],[26],[28,26],[26],[29,30,26],[26],[32,26],[27,31,33,26,26],[34,26],[26,35]]
def oZ:=[aY 2 13]
def vY:=[ad 66 24 1,m 24 66]
def H2:=[aY 2 0]
def Bl:aM:=(s (r HV) (s (s (r HW) (.cond (.t 20) (s (r sk) .ret) .skip)) (s (s (r HX) (.block 0 (.loop (s (r HY) (s (.cond (.t 25) .skip (.exit 0)) (s (.block 1 (s (r HZ) (s (.b6 W6 H0) (.cond (.t 65) (s (r oZ) .ret) .skip)))) (r vY))))))) (s (r H2) .ret))))
def Mj:List a6:=[.tmp 2]
theorem T0:bH Tryz.prog Tryz.f66 Bl:=e (by kernel_rfl)
theorem V2:bI Tryz.prog Tryz.f66 Mj:=e (by kernel_rfl)
theorem Sb:bF Tryz.prog 66:=e (by kernel_rfl)
def acm:=[aY 6 0]
def acn:=[m 10 0,o 11 (.call 64 [.t 10]),m 7 11]
def acr:=[m 12 7,o 13 (.bin .neq (.t 12) (ai 0))]
def acs:=[m 14 7,m 6 14]
def acu:=[m 15 1,o 16 (.len (.t 15)),aY 17 0]
def acv:=[lt 18 17 16]
def acw:=[o 19 (.is 2 (.t 15) (.t 17)),ay 20 2 19,o 9 (.alloc (.agg [.int .i64 0,.int .i64 0])),p (.bB (some 2) (.t 9) (.t 20))]
def acx:=[o 21 (.ia 2 1 (.t 9) (ai 0)),l 22 21,o 23 (.ia 2 1 (.t 9) (ai 1)),l 24 23,o 25 (.call 114 [.t 22,(ai 1),.t 24]),no 26 25]
def acy:=[aY 6 1]
def acz:=[ad 27 17 1,m 17 27]
def aco:=[m 28 2,o 29 (.call 125 [.t 28,(.c (.func 126 []))])]
def acp:=[aY 6 6]
def acq:=[aY 6 0]
def Bm:aM:=(s (r acm) (s (s (r acn) (s (r acr) (.cond (.t 13) (s (r acs) .ret) .skip))) (s (s (r acu) (.block 0 (.loop (s (r acv) (s (.cond (.t 18) .skip (.exit 0)) (s (.block 1 (s (r acw) (s (r acx) (.cond (.t 26) (s (r acy) .ret) .skip)))) (r acz))))))) (s (s (r aco) (.cond (.t 29) (s (r acp) .ret) .skip)) (s (r acq) .ret)))))
def Mk:List a6:=[.tmp 6]
theorem T3:bH Tryz.prog Tryz.f67 Bm:=e (by kernel_rfl)
theorem V3:bI Tryz.prog Tryz.f67 Mk:=e (by kernel_rfl)
theorem Sc:bF Tryz.prog 67:=e (by kernel_rfl)
def acA:=[o 4 (.mv (.c (.nilp)))]
def acB:=[m 8 0,m 9 1,o 10 (.call 88 [.t 8,(ai 100000),.t 9]),m 7 10,o 11 (.ext (.t 7) 0),o 12 (.ext (.t 7) 1),m 5 11,m 6 12]
def acC:=[m 13 5,m 4 13]
def Bn:aM:=(s (r acA) (s (r acB) (s (r acC) .ret)))
def Ml:List a6:=[.tmp 4]
theorem T4:bH Tryz.prog Tryz.f68 Bn:=e (by kernel_rfl)
theorem V4:bI Tryz.prog Tryz.f68 Ml:=e (by kernel_rfl)
theorem Sd:bF Tryz.prog 68:=e (by kernel_rfl)
def acD:=[b 2 0,o 4 (.mv (.c (.nils 1)))]
def acE:=[ay 8 7 2,m 9 1,o 10 (.nilC (.t 9)),f 11 0 0 10,f 12 8 8 11,l 13 12,o 14 (.call 128 [.t 8,.t 13]),m 7 14,o 15 (.ext (.t 7) 0),o 16 (.ext (.t 7) 1),m 5 15,m 6 16]
def W7:=some [[],[],[1],[2],[3],[4],[0,5],[6],[7],[7],[8,6,0,1,2,3,4,5,6,7,8],[9,10,0,1,2,3,4,5,6,7,8,9,10]]
def acF:=[m 17 5,m 4 17]
def Bo:aM:=(s (r acD) (s (.b6 W7 acE) (s (r acF) .ret)))
def Mm:List a6:=[.tmp 4]
theorem T5:bH Tryz.prog Tryz.f69 Bo:=e (by kernel_rfl)
theorem V5:bI Tryz.prog Tryz.f69 Mm:=e (by kernel_rfl)
theorem Se:bF Tryz.prog 69:=e (by kernel_rfl)
def H4:=[o 4 (.mv (.c (.nils 1)))]
def H5:=[o 5 (.mv (.c (.nils 1)))]
def H6:=[m 8 0,o 9 (.nilC (.t 8)),f 10 0 0 9,l 11 10,o 12 (.ka (.t 11))]
def vZ:=[o 13 (.jk (.t 12)),o 14 (.ext (.t 13) 0)]
def H7:=[o 15 (.ent (.t 12)),o 16 (.ext (.t 15) 0),o 17 (.ext (.t 15) 1),m 6 16,m 7 17]
def H8:=[m 18 1,m 19 7,o 20 (.eh (.t 18) [.t 19])]
def adi:=[m 21 5,m 22 6,o 23 (.bs 3 1 [.t 22]),o 24 (.dH 3 1 8 (.int .i64 0) (.t 21) (.t 23)),m 5 24]
def adj:=[m 25 5,o 26 (.call 107 [.t 25])]
def adk:=[m 27 5,m 4 27]
def Bp:aM:=(s (r H4) (s (r H5) (s (s (r H6) (.block 0 (.loop (s (r vZ) (s (.cond (.t 14) .skip (.exit 0)) (.block 1 (s (r H7) (s (r H8) (.cond (.t 20) (r adi) .skip))))))))) (s (r adj) (s (r adk) .ret)))))
def Mn:List a6:=[.tmp 4]
theorem T6:bH Tryz.prog Tryz.f72 Bp:=e (by kernel_rfl)
theorem V6:bI Tryz.prog Tryz.f72 Mn:=e (by kernel_rfl)
theorem Sf:bF Tryz.prog 72:=e (by kernel_rfl)
def adl:=[o 3 (.mv bn)]
def adm:=[m 4 0,o 5 (.nilC (.t 4)),f 6 0 0 5,f 7 4 4 6,l 8 7,o 9 (.bin .gtr (.t 8) (ai 0)),m 10 9,bR 11 (.ld (some 7) (.t 1)) 10,cX 12 0 10,bR 13 (.call 69 [.t 11,.t 12]) 10,cX 14 0 10,bR 15 (.nilC (.t 14)) 10,dI 16 0 0 15 10,dI 17 4 4 16 10,ej 18 17 10,bR 19 (.call 74 [.t 13,.t 18]) 10,bR 20 (.un .not (.t 19)) 10,and 21 10 20,m 3 21]
def Xb:=some [[],[0],[1],[2],[3],[4],[5],[6],[6],[7,8,6,6],[6],[10,6],[11,6],[12,6],[13,6],[9,14,9,6],[15,6],[6,16],[17,15,0,1,2,3,4,5,6,7,8,9,10,11,12,13,14,15,16,17]]
def Bq:aM:=(s (r adl) (s (.b6 Xb adm) .ret))
def Mo:List a6:=[.tmp 3]
theorem T7:bH Tryz.prog Tryz.f73 Bq:=e (by kernel_rfl)
theorem V7:bI Tryz.prog Tryz.f73 Mo:=e (by kernel_rfl)
theorem Sg:bF Tryz.prog 73:=e (by kernel_rfl)
def adn:=[o 4 (.mv bn)]
def ado:=[m 5 0,m 6 1,o 7 (.call 131 [.t 5,.t 6]),o 8 (.bin .geq (.t 7) (ai 0)),m 4 8]
def Br:aM:=(s (r adn) (s (r ado) .ret))
def Mp:List a6:=[.tmp 4]
theorem T8:bH Tryz.prog Tryz.f74 Br:=e (by kernel_rfl)
theorem V8:bI Tryz.prog Tryz.f74 Mp:=e (by kernel_rfl)
theorem Sh:bF Tryz.prog 74:=e (by kernel_rfl)
def adp:=[b 3 0,o 6 (.mv bn)]
def adq:=[m 8 1,o 9 (.ptrE false (.t 8) (.c (.nilp))),m 10 9,fK 11 2 10,on 12 (.ptrE false (.t 11) (.c (.nilp))) 10,or 13 10 12]
def adr:=[m 14 1,m 15 2,o 16 (.ptrE false (.t 14) (.t 15)),m 6 16]
def ads:=[o 7 (.mv (.c (.func 133 [])))]
def adt:=[m 17 7,m 18 1,o 19 (.eh (.t 17) [.t 18]),m 20 7,m 21 2,o 22 (.eh (.t 20) [.t 21]),o 23 (.eqv (.kh 8 (.i .i64)) false (.t 19) (.t 22)),m 24 23,bR 25 (.ld (some 7) (.t 3)) 24,cX 26 1 24,bR 27 (.call 69 [.t 25,.t 26]) 24,bR 28 (.ld (some 7) (.t 3)) 24,cX 29 2 24,bR 30 (.call 69 [.t 28,.t 29]) 24,bR 31 (.call 134 [.t 27,.t 30]) 24,and 32 24 31,m 6 32]
def Xc:=some [[],[],[0,1],[],[],[3,4,2],[2,5],[6,5],[7],[7],[8,9,7,7],[7],[7],[11,12,10,7],[10,13,13,7],[7,14],[15,14,0,1,2,3,4,5,6,7,8,9,10,11,12,13,14,15]]
def rP:aM:=(s (r adp) (s (s (r adq) (.cond (.t 13) (s (r adr) .ret) .skip)) (s (r ads) (s (.b6 Xc adt) .ret))))
def tn:List a6:=[.tmp 6]
theorem uG:bH Tryz.prog Tryz.f77 rP:=e (by kernel_rfl)
theorem uS:bI Tryz.prog Tryz.f77 tn:=e (by kernel_rfl)
theorem uE:bF Tryz.prog 77:=e (by kernel_rfl)
def H9:=[o 4 (.mv (.c (.nils 17)))]
def Ia:=[m 5 0,o 6 (.call 136 [.t 5]),m 7 1,m 8 1,ad 9 8 1,o 10 (.call 135 [.t 6,.t 7,.t 9]),m 4 10]
def Bt:aM:=(s (r H9) (s (r Ia) .ret))
def Mq:List a6:=[.tmp 4]
theorem T9:bH Tryz.prog Tryz.f78 Bt:=e (by kernel_rfl)
theorem V9:bI Tryz.prog Tryz.f78 Mq:=e (by kernel_rfl)
theorem Si:bF Tryz.prog 78:=e (by kernel_rfl)
def Ib:=[o 0 (.mv (.c (.nils 17)))]
def Ic:=[o 1 (.bld [.agg [.int .i64 0,.int .i64 0],.int .i64 0,.int .i64 0,.int .i64 0,.int .i64 0,.int .i64 0,.int .i64 0,.int .i64 0,.agg [.int .i64 0,.int .i64 0,.int .i64 0,.int .i64 0,.int .i64 0,.int .i64 0],.agg [.int .i64 0,.int .i64 0]] [(1,(ai 1)),(2,(ai 1)),(3,(ai 1)),(4,(ai 10)),(6,(ai 3)),(7,(ai 2))]),o 2 (.bld [.int .i64 0,.int .i64 0] [(1,(ai 1))]),o 3 (.bld [.agg [.int .i64 0,.int .i64 0],.int .i64 0,.int .i64 0,.int .i64 0,.int .i64 0,.int .i64 0,.int .i64 0,.int .i64 0,.agg [.int .i64 0,.int .i64 0,.int .i64 0,.int .i64 0,.int .i64 0,.int .i64 0],.agg [.int .i64 0,.int .i64 0]] [(0,(.t 2)),(1,(ai 1)),(2,(ai 5)),(3,(ai 5)),(4,(ai 11)),(6,(ai 3)),(7,(ai 2)),(5,(ai 10))]),o 4 (.bld [.int .i64 0,.int .i64 0] [(1,(ai 2))]),o 5 (.bld [.agg [.int .i64 0,.int .i64 0],.int .i64 0,.int .i64 0,.int .i64 0,.int .i64 0,.int .i64 0,.int .i64 0,.int .i64 0,.agg [.int .i64 0,.int .i64 0,.int .i64 0,.int .i64 0,.int .i64 0,.int .i64 0],.agg [.int .i64 0,.int .i64 0]] [(0,(.t 4)),(1,(ai 2)),(2,(ai 6)),(3,(ai 6)),(4,(ai 20)),(6,(ai 3))]),o 6 (.bld [.int .i64 0,.int .i64 0] [(1,(ai 3))]),o 7 (.bld [.int .i64 0,.int .i64 0,.int .i64 0,.int .i64 0,.int .i64 0,.int .i64 0] [(0,(ai 31)),(1,(ai 1)),(2,(ai 1)),(3,(ai 1)),(4,(ai 1)),(5,(ai 31))]),o 8 (.bld [.agg [.int .i64 0,.int .i64 0],.int .i64 0,.int .i64 0,.int .i64 0,.int .i64 0,.int .i64 0,.int .i64 0,.int .i64 0,.agg [.int .i64 0,.int .i64 0,.int .i64 0,.int .i64 0,.int .i64 0,.int .i64 0],.agg [.int .i64 0,.int .i64 0]] [(0,(.t 6)),(1,(ai 4)),(2,(ai 6)),(3,(ai 6)),(4,(ai 20)),(8,(.t 7))]),o 9 (.bld [.int .i64 0,.int .i64 0] [(1,(ai 4))]),o 10 (.bld [.agg [.int .i64 0,.int .i64 0],.int .i64 0,.int .i64 0,.int .i64 0,.int .i64 0,.int .i64 0,.int .i64 0,.int .i64 0,.agg [.int .i64 0,.int .i64 0,.int .i64 0,.int .i64 0,.int .i64 0,.int .i64 0],.agg [.int .i64 0,.int .i64 0]] [(0,(.t 9)),(1,(ai 3)),(2,(ai 7)),(3,(ai 7)),(4,(ai 10)),(7,(ai 1))]),o 11 (.bld [.int .i64 0,.int .i64 0] [(1,(ai 5))]),o 12 (.bld [.int .i64 0,.int .i64 0,.int .i64 0,.int .i64 0,.int .i64 0,.int .i64 0] [(0,(ai 24)),(1,(ai 1)),(2,(ai 1)),(3,(ai 1)),(4,(ai 1)),(5,(ai 31))]),o 13 (.bld [.agg [.int .i64 0,.int .i64 0],.int .i64 0,.int .i64 0,.int .i64 0,.int .i64 0,.int .i64 0,.int .i64 0,.int .i64 0,.agg [.int .i64 0,.int .i64 0,.int .i64 0,.int .i64 0,.int .i64 0,.int .i64 0],.agg [.int .i64 0,.int .i64 0]] [(0,(.t 11)),(1,(ai 4)),(2,(ai 6)),(3,(ai 9)),(4,(ai 20)),(8,(.t 12))]),o 14 (.bld [.int .i64 0,.int .i64 0] [(1,(ai 6))]),o 15 (.bld [.agg [.int .i64 0,.int .i64 0],.int .i64 0,.int .i64 0,.int .i64 0,.int .i64 0,.int .i64 0,.int .i64 0,.int .i64 0,.agg [.int .i64 0,.int .i64 0,.int .i64 0,.int .i64 0,.int .i64 0,.int .i64 0],.agg [.int .i64 0,.int .i64 0]] [(0,(.t 14)),(1,(ai 5)),(2,(ai 10)),(3,(ai 10)),(4,(ai 20)),(7,(ai 3))]),o 16 (.bld [.int .i64 0,.int .i64 0] [(1,(ai 7))]),o 17 (.bld [.int .i64 0,.int .i64 0,.int .i64 0,.int .i64 0,.int .i64 0,.int .i64 0] [(0,(ai 1)),(1,(ai 1)),(2,(ai 1)),(3,(ai 1)),(4,(ai 1)),(5,(ai 1))]),o 18 (.bld [.agg [.int .i64 0,.int .i64 0],.int .i64 0,.int .i64 0,.int .i64 0,.int .i64 0,.int .i64 0,.int .i64 0,.int .i64 0,.agg [.int .i64 0,.int .i64 0,.int .i64 0,.int .i64 0,.int .i64 0,.int .i64 0],.agg [.int .i64 0,.int .i64 0]] [(0,(.t 16)),(1,(ai 4)),(2,(ai 8)),(3,(ai 11)),(4,(ai 11)),(8,(.t 17))]),o 19 (.bld [.int .i64 0,.int .i64 0] [(1,(ai 8))]),o 20 (.bld [.agg [.int .i64 0,.int .i64 0],.int .i64 0,.int .i64 0,.int .i64 0,.int .i64 0,.int .i64 0,.int .i64 0,.int .i64 0,.agg [.int .i64 0,.int .i64 0,.int .i64 0,.int .i64 0,.int .i64 0,.int .i64 0],.agg [.int .i64 0,.int .i64 0]] [(0,(.t 19)),(1,(ai 6)),(2,(ai 12)),(3,(ai 12)),(4,(ai 10))]),o 21 (.bld [.int .i64 0,.int .i64 0] [(1,(ai 9))]),o 22 (.bld [.int .i64 0,.int .i64 0] [(1,(ai 5))]),o 23 (.bld [.agg [.int .i64 0,.int .i64 0],.int .i64 0,.int .i64 0,.int .i64 0,.int .i64 0,.int .i64 0,.int .i64 0,.int .i64 0,.agg [.int .i64 0,.int .i64 0,.int .i64 0,.int .i64 0,.int .i64 0,.int .i64 0],.agg [.int .i64 0,.int .i64 0]] [(0,(.t 21)),(1,(ai 0)),(3,(ai 14)),(9,(.t 22))]),o 24 (.bs 68 17 [.t 1,.t 3,.t 5,.t 8,.t 10,.t 13,.t 15,.t 18,.t 20,.t 23]),m 0 24]
def Bu:aM:=(s (r Ib) (s (r Ic) .ret))
def Mr:List a6:=[.tmp 0]
theorem Ua:bH Tryz.prog Tryz.f81 Bu:=e (by kernel_rfl)
theorem Wa:bI Tryz.prog Tryz.f81 Mr:=e (by kernel_rfl)
theorem Sj:bF Tryz.prog 81:=e (by kernel_rfl)
def Ie:=[o 0 (.alloc (.agg [.agg [.int .i64 0,.int .i64 0,.int .i64 0,.int .i64 0,.int .i64 0],.int .i64 0,.nils 7]))]
def If:=[o 1 (.bld [.int .i64 0,.int .i64 0,.int .i64 0,.int .i64 0,.int .i64 0] [(0,(ai 1)),(1,(ai 3)),(2,(ai 4)),(3,(ai 24)),(4,(ai 24))]),o 2 (.bld [.int .i64 0,.agg [.int .i64 0,.int .i64 0,.int .i64 0,.int .i64 0,.int .i64 0,.int .i64 0]] [(0,(ai 1))]),o 3 (.bld [.int .i64 0,.int .i64 0,.int .i64 0,.int .i64 0,.int .i64 0,.int .i64 0] [(0,(ai 2)),(1,(ai 0)),(2,(ai 0)),(3,(ai 0)),(4,(ai 0)),(5,(ai 0))]),o 4 (.bld [.int .i64 0,.agg [.int .i64 0,.int .i64 0,.int .i64 0,.int .i64 0,.int .i64 0,.int .i64 0]] [(0,(ai 2)),(1,(.t 3))]),o 5 (.bld [.int .i64 0,.int .i64 0,.int .i64 0,.int .i64 0,.int .i64 0,.int .i64 0] [(0,(ai 3)),(1,(ai 0)),(2,(ai 0)),(3,(ai 0)),(4,(ai 0)),(5,(ai 2))]),o 6 (.bld [.int .i64 0,.agg [.int .i64 0,.int .i64 0,.int .i64 0,.int .i64 0,.int .i64 0,.int .i64 0]] [(0,(ai 3)),(1,(.t 5))]),o 7 (.bs 63 7 [.t 2,.t 4,.t 6]),o 8 (.bld [.agg [.int .i64 0,.int .i64 0,.int .i64 0,.int .i64 0,.int .i64 0],.int .i64 0,.nils 7] [(0,(.t 1)),(2,(.t 7))]),p (.bB (some 7) (.t 0) (.t 8))]
def Bv:aM:=(s (r Ie) (s (r If) .ret))
def Ms:List a6:=[.cell 0 (some 7)]
theorem Ub:bH Tryz.prog Tryz.f82 Bv:=e (by kernel_rfl)
theorem Wb:bI Tryz.prog Tryz.f82 Ms:=e (by kernel_rfl)
theorem Sk:bF Tryz.prog 82:=e (by kernel_rfl)
def adu:=[b 1 0,o 2 (.alloc (.agg [.agg [.int .i64 0,.int .i64 0],.int .i64 0,.int .i64 0,.int .i64 0,.int .i64 0,.int .i64 0,.int .i64 0,.int .i64 0,.agg [.int .i64 0,.int .i64 0,.int .i64 0,.int .i64 0,.int .i64 0,.int .i64 0],.agg [.int .i64 0,.int .i64 0]]))]
def adv:=[f 4 0 0 1,ay 5 2 4,f 6 1 2 1,l 7 6,f 8 2 3 1,l 9 8,f 10 3 4 1,l 11 10,o 12 (.bld [.agg [.int .i64 0,.int .i64 0],.int .i64 0,.int .i64 0,.int .i64 0,.int .i64 0,.int .i64 0,.int .i64 0,.int .i64 0,.agg [.int .i64 0,.int .i64 0,.int .i64 0,.int .i64 0,.int .i64 0,.int .i64 0],.agg [.int .i64 0,.int .i64 0]] [(0,(.t 5)),(1,(.t 7)),(2,(.t 9)),(3,(.t 11))]),o 3 (.alloc (.agg [.agg [.int .i64 0,.int .i64 0],.int .i64 0,.int .i64 0,.int .i64 0,.int .i64 0,.int .i64 0,.int .i64 0,.int .i64 0,.agg [.int .i64 0,.int .i64 0,.int .i64 0,.int .i64 0,.int .i64 0,.int .i64 0],.agg [.int .i64 0,.int .i64 0]])),p (.bB (some 17) (.t 3) (.t 12))]
def adF:=[f 13 1 2 1,l 14 13,o 15 (.bin .eql (.t 14) (ai 0))]
def adG:=[f 16 9 15 1,ay 17 2 16,f 18 9 15 3,p (.bB (some 2) (.t 18) (.t 17))]
def adH:=[ay 19 17 3,p (.bB (some 17) (.t 2) (.t 19))]
def adI:=[f 20 4 5 1,l 21 20,f 22 4 5 3,p (.bB none (.t 22) (.t 21))]
def adJ:=[f 23 1 2 1,l 24 23]
def adK:=[o 26 (.bin .eql (.t 24) (ai 1)),m 25 26]
def adL:=[f 27 6 7 1,l 28 27,f 29 6 7 3,p (.bB none (.t 29) (.t 28))]
def adM:=[f 30 7 8 1,l 31 30,f 32 7 8 3,p (.bB none (.t 32) (.t 31))]
def adw:=[f 33 5 6 1,l 34 33,f 35 5 6 3,p (.bB none (.t 35) (.t 34))]
def adx:=[o 37 (.bin .eql (.t 24) (ai 2)),m 36 37]
def ady:=[f 38 6 7 1,l 39 38,f 40 6 7 3,p (.bB none (.t 40) (.t 39))]
def adz:=[o 42 (.bin .eql (.t 24) (ai 3)),m 41 42]
def adA:=[o 43 (.bin .eql (.t 24) (ai 5)),m 41 43]
def adB:=[f 44 7 8 1,l 45 44,f 46 7 8 3,p (.bB none (.t 46) (.t 45))]
def adC:=[o 48 (.bin .eql (.t 24) (ai 4)),m 47 48]
def adD:=[f 49 8 9 1,ay 50 6 49,f 51 8 9 3,p (.bB (some 6) (.t 51) (.t 50))]
def adE:=[ay 52 17 3,p (.bB (some 17) (.t 2) (.t 52))]
def Bw:aM:=(s (r adu) (s (r adv) (s (s (r adF) (.cond (.t 15) (s (r adG) (s (r adH) .ret)) .skip)) (s (r adI) (s (s (r adJ) (.block 0 (s (r adK) (.cond (.t 25) (s (r adL) (s (r adM) (r adw))) (s (r adx) (.cond (.t 36) (r ady) (s (s (r adz) (.cond (.t 41) .skip (r adA))) (.cond (.t 41) (r adB) (s (r adC) (.cond (.t 47) (r adD) .skip)))))))))) (s (r adE) .ret))))))
def Mt:List a6:=[.cell 2 (some 17)]
theorem Uc:bH Tryz.prog Tryz.f84 Bw:=e (by kernel_rfl)
theorem Wc:bI Tryz.prog Tryz.f84 Mt:=e (by kernel_rfl)
theorem Sl:bF Tryz.prog 84:=e (by kernel_rfl)
def Ig:=[o 2 (.alloc (.agg [.int .i64 0,.int .i64 0,.int .i64 0,.int .i64 0,.int .i64 0]))]
def Ih:=[o 3 (.alloc (.agg [.int .i64 0,.int .i64 0,.int .i64 0,.int .i64 0,.int .i64 0]))]
def Ii:=[aY 4 0]
def Ij:=[m 6 4,o 7 (.bin .lss (.t 6) (ai 5))]
def Ik:=[m 10 4,m 11 4,o 12 (.bin .shl (ai 1) (.t 11)),o 13 (.ia 5 1 (.t 3) (.t 10)),p (.bB none (.t 13) (.t 12))]
def Il:=[m 14 0,m 15 4,o 16 (.call 34 [.t 14,.t 15]),o 17 (.call 25 [.t 16,(ai 12)]),m 5 17]
def Im:=[m 18 5,o 19 (.bin .lss (.t 18) (ai 5))]
def Io:=[m 20 4,m 21 4,o 22 (.ia 5 1 (.t 3) (.t 21)),l 23 22,m 24 5,o 25 (.bin .shl (ai 1) (.t 24)),o 26 (.bin .or (.t 23) (.t 25)),o 27 (.ia 5 1 (.t 3) (.t 20)),p (.bB none (.t 27) (.t 26))]
def Xd:=some [[],[],[1],[2],[],[4],[3,5],[0,0,1,2,3,4,5,6],[7,6,0,1,2,3,4,5,6]]
def v7:=[m 8 4,ad 9 8 1,m 4 9]
def Ip:=[ay 28 5 3,p (.bB (some 5) (.t 2) (.t 28))]
def Bx:aM:=(s (r Ig) (s (r Ih) (s (s (r Ii) (.block 0 (.loop (s (s (r Ij) (.cond (.t 7) .skip (.exit 0))) (s (.block 1 (s (r Ik) (s (r Il) (s (r Im) (.cond (.t 19) (.b6 Xd Io) .skip))))) (r v7)))))) (s (r Ip) .ret))))
def Mu:List a6:=[.cell 2 (some 5)]
theorem Ud:bH Tryz.prog Tryz.f85 Bx:=e (by kernel_rfl)
theorem Wd:bI Tryz.prog Tryz.f85 Mu:=e (by kernel_rfl)
theorem Sm:bF Tryz.prog 85:=e (by kernel_rfl)
def Iq:=[o 2 (.alloc (.agg [.int .i64 0,.int .i64 0,.int .i64 0,.int .i64 0,.int .i64 0,.int .i64 0]))]
def Ir:=[o 3 (.alloc (.agg [.int .i64 0,.int .i64 0,.int .i64 0,.int .i64 0,.int .i64 0,.int .i64 0]))]
def Is:=[aY 4 5]
def It:=[m 5 4,o 6 (.bin .geq (.t 5) (ai 0))]
def Iu:=[m 9 4,m 10 0,o 11 (.bin .rem (.t 10) (ai 5)),o 12 (.ia 6 1 (.t 3) (.t 9)),p (.bB none (.t 12) (.t 11))]
def Iv:=[m 13 0,o 14 (.bin .quo (.t 13) (ai 5)),m 0 14]
def Iw:=[m 7 4,o 8 (.bin .sub (.t 7) (ai 1)),m 4 8]
def Iy:=[ay 15 6 3,p (.bB (some 6) (.t 2) (.t 15))]
def By:aM:=(s (r Iq) (s (r Ir) (s (s (r Is) (.block 0 (.loop (s (s (r It) (.cond (.t 6) .skip (.exit 0))) (s (.block 1 (s (r Iu) (r Iv))) (r Iw)))))) (s (r Iy) .ret))))
def Mv:List a6:=[.cell 2 (some 6)]
theorem Ue:bH Tryz.prog Tryz.f86 By:=e (by kernel_rfl)
theorem We:bI Tryz.prog Tryz.f86 Mv:=e (by kernel_rfl)
theorem Sn:bF Tryz.prog 86:=e (by kernel_rfl)
def Iz:=[b 2 0,b 3 1,o 4 (.mv bn)]
def IA:=[aY 5 0]
def IB:=[m 6 5,f 7 2 6 2,l 8 7,o 9 (.len (.t 8)),lt 10 6 9]
def IC:=[f 13 0 0 2,ay 14 5 13,f 15 2 6 2,l 16 15,m 17 5,o 18 (.is 7 (.t 16) (.t 17)),f 19 1 1 18,ay 20 6 19,ay 21 6 3,o 22 (.call 129 [.t 14,.t 20,.t 21]),f 23 1 5 2,l 24 23,o 25 (.bin .mul (ai 2) (.t 24)),o 26 (.bin .leq (.t 22) (.t 25))]
def Xe:=some [[],[0],[],[2],[],[3,4],[5],[6],[],[1,7,8],[],[10],[11],[9,12]]
def ID:=[o 4 (.mv T)]
def IE:=[m 11 5,ad 12 11 1,m 5 12]
def IF:=[o 4 (.mv bn)]
def Bz:aM:=(s (r Iz) (s (s (r IA) (.block 0 (.loop (s (s (r IB) (.cond (.t 10) .skip (.exit 0))) (s (.block 1 (s (.b6 Xe IC) (.cond (.t 26) (s (r ID) .ret) .skip))) (r IE)))))) (s (r IF) .ret)))
def Mw:List a6:=[.tmp 4]
theorem Uf:bH Tryz.prog Tryz.f87 Bz:=e (by kernel_rfl)
theorem Wf:bI Tryz.prog Tryz.f87 Mw:=e (by kernel_rfl)
theorem Sp:bF Tryz.prog 87:=e (by kernel_rfl)
def IG:=[b 3 0,b 4 1,o 6 (.mv (.c (.nilp))),o 7 (.mv (.c (.nils 1)))]
def IH:=[o 8 (.alloc (.nils 1)),o 9 (.mv (.c (.nils 1)))]
def IM:=[l 15 3,m 16 2,o 17 (.call 105 [.t 15,.t 16])]
def adN:=[m 10 18]
def adO:=[l 19 3,m 20 10,o 21 (.is 17 (.t 19) (.t 20)),f 22 1 2 21,l 23 22,o 24 (.bin .neq (.t 23) (ai 0)),m 25 24,ej 26 3 25,cX 27 10 25,bR 28 (.is 17 (.t 26) (.t 27)) 25,dI 29 2 3 28 25,ej 30 29 25,ej 31 4 25,bR 32 (.bin .leq (.t 30) (.t 31)) 25,and 33 25 32]
def Xf:=some [[],[],[0,1],[2],[3],[4],[5],[6],[6],[7,8,6],[9,6],[10,6],[6],[11,12,6],[6,13]]
def adP:=[l 34 8,m 35 10,o 36 (.bs 3 1 [.t 35]),o 37 (.dH 3 1 8 (.int .i64 0) (.t 34) (.t 36)),p (.bB none (.t 8) (.t 37))]
def wa:=[l 38 8,o 39 (.mk 138 [.t 3]),o 40 (.call 137 [.t 38,.t 39])]
def wb:=[o 41 (.jB),o 42 (.bld [.raw (.map none)] [(0,(.t 41))]),b 43 42,m 11 43]
def wc:=[o 44 (.call 139 []),m 12 44]
def we:=[l 45 8,o 46 (.len (.t 45)),aY 47 0]
def sm:=[lt 48 47 46]
def v8:=[o 49 (.is 1 (.t 45) (.t 47)),l 50 49,m 14 50]
def sq:=[m 51 12,l 52 3,m 53 14,o 54 (.is 17 (.t 52) (.t 53)),f 55 1 2 54,l 56 55,o 57 (.lk (.i .i64) (.da) false (.t 51) (.t 56)),m 58 11,l 59 3,m 60 14,o 61 (.is 17 (.t 59) (.t 60)),ay 62 17 61,o 63 (.eh (.t 57) [.t 58,.t 62]),no 64 63]
def Cb:=some [[],[],[],[1,2],[3],[4],[0,5],[],[],[],[8,9],[10],[6,7,11],[12]]
def II:=[m 65 9,m 66 14,o 67 (.bs 3 1 [.t 66]),o 68 (.dH 3 1 8 (.int .i64 0) (.t 65) (.t 67)),m 9 68]
def IJ:=[ad 69 47 1,m 47 69]
def IK:=[m 70 9,o 71 (.call 107 [.t 70])]
def IL:=[m 72 11,m 73 9,m 6 72,m 7 73]
def BA:aM:=(s (r IG) (s (r IH) (s (s (r IM) (.block 0 (.kH (.t 17) [18] (r adN) (.block 1 (s (.b6 Xf adO) (.cond (.t 33) (r adP) .skip)))))) (s (r wa) (s (r wb) (s (r wc) (s (s (r we) (.block 2 (.loop (s (r sm) (s (.cond (.t 48) .skip (.exit 2)) (s (.block 3 (s (r v8) (s (.b6 Cb sq) (.cond (.t 64) (r II) .skip)))) (r IJ))))))) (s (r IK) (s (r IL) .ret)))))))))
def Mx:List a6:=[.tmp 6,.tmp 7]
theorem Ug:bH Tryz.prog Tryz.f88 BA:=e (by kernel_rfl)
theorem Wg:bI Tryz.prog Tryz.f88 Mx:=e (by kernel_rfl)
theorem Sq:bF Tryz.prog 88:=e (by kernel_rfl)
def adQ:=[o 2 (.mv bn)]
def adR:=[m 3 0,o 4 (.call 90 [.t 3]),no 5 4,m 2 5]
def BB:aM:=(s (r adQ) (s (r adR) .ret))
def My:List a6:=[.tmp 2]
theorem Uh:bH Tryz.prog Tryz.f89 BB:=e (by kernel_rfl)
theorem Wh:bI Tryz.prog Tryz.f89 My:=e (by kernel_rfl)
theorem Sr:bF Tryz.prog 89:=e (by kernel_rfl)
def adS:=[o 2 (.mv bn)]
def adT:=[m 3 0,o 4 (.nilC (.t 3)),f 5 0 0 4,f 6 6 6 5,l 7 6,o 8 (.bin .geq (.t 7) (ai 0)),m 2 8]
def BC:aM:=(s (r adS) (s (r adT) .ret))
def Mz:List a6:=[.tmp 2]
theorem Ui:bH Tryz.prog Tryz.f90 BC:=e (by kernel_rfl)
theorem Wi:bI Tryz.prog Tryz.f90 Mz:=e (by kernel_rfl)
theorem Ss:bF Tryz.prog 90:=e (by kernel_rfl)
def adU:=[o 4 (.mv bn)]
def adV:=[m 5 0,o 6 (.call 90 [.t 5]),no 7 6,m 8 7,cX 9 0 8,bR 10 (.nilC (.t 9)) 8,dI 11 0 0 10 8,dI 12 3 3 11 8,ej 13 12 8,ej 14 1 8,bR 15 (.bin .eql (.t 13) (.t 14)) 8,and 16 8 15,m 17 16,cX 18 0 17,bR 19 (.nilC (.t 18)) 17,dI 20 0 0 19 17,dI 21 1 1 20 17,ej 22 21 17,ej 23 2 17,bR 24 (.bin .eql (.t 22) (.t 23)) 17,and 25 17 24,m 4 25]
def Xg:=some [[],[0],[1],[2,1],[3],[4,3],[5,3],[6,3],[7,3],[3],[8,9,3],[3,10],[11,3],[12],[13,12],[14,12],[15,12],[16,12],[12],[17,18,12],[12,19],[20,12,0,1,2,3,4,5,6,7,8,9,10,11,12,13,14,15,16,17,18,19,20]]
def BD:aM:=(s (r adU) (s (.b6 Xg adV) .ret))
def MA:List a6:=[.tmp 4]
theorem Uj:bH Tryz.prog Tryz.f91 BD:=e (by kernel_rfl)
theorem Wj:bI Tryz.prog Tryz.f91 MA:=e (by kernel_rfl)
theorem St:bF Tryz.prog 91:=e (by kernel_rfl)
def IN:=[o 6 (.mv bn)]
def IP:=[m 7 1,m 8 0,o 9 (.bin .leq (.t 7) (.t 8)),m 10 9,cX 11 0 10,cX 12 2 10,bR 13 (.bin .leq (.t 11) (.t 12)) 10,and 14 10 13,m 6 14]
def BE:aM:=(s (r IN) (s (r IP) .ret))
def MB:List a6:=[.tmp 6]
theorem Uk:bH Tryz.prog Tryz.f94 BE:=e (by kernel_rfl)
theorem Wk:bI Tryz.prog Tryz.f94 MB:=e (by kernel_rfl)
theorem Su:bF Tryz.prog 94:=e (by kernel_rfl)
def IQ:=[b 3 0,b 4 1,o 6 (.alloc (.agg [.int .i64 0,.int .i64 0,.int .i64 0,.int .i64 0,.int .i64 0,.int .i64 0])),aY 7 0]
def IS:=[ay 11 5 3,o 12 (.call 99 [.t 11]),o 13 (.bin .neq (.t 12) (ai 0))]
def IV:=[o 14 (.bld [.int .i64 0,.int .i64 0,.int .i64 0,.int .i64 0,.int .i64 0,.int .i64 0] []),p (.bB (some 6) (.t 6) (.t 14)),aY 7 11]
def IW:=[ay 15 6 4,o 16 (.call 100 [.t 15]),o 17 (.bin .neq (.t 16) (ai 0))]
def IX:=[o 18 (.bld [.int .i64 0,.int .i64 0,.int .i64 0,.int .i64 0,.int .i64 0,.int .i64 0] []),p (.bB (some 6) (.t 6) (.t 18)),aY 7 10]
def IY:=[o 8 (.alloc (.agg [.int .i64 0,.int .i64 0,.int .i64 0,.int .i64 0,.int .i64 0,.int .i64 0]))]
def IZ:=[aY 9 0]
def I0:=[m 19 9,o 20 (.bin .lss (.t 19) (ai 6))]
def I1:=[m 23 9,o 24 (.ia 6 1 (.t 4) (.t 23)),l 25 24,o 26 (.ia 5 1 (.t 3) (.t 25)),l 27 26,o 28 (.call 141 [.t 27]),m 10 28]
def I2:=[m 29 9,m 30 10,m 31 2,m 32 9,o 33 (.call 34 [.t 31,.t 32]),m 34 10,o 35 (.len (.t 34)),o 36 (.call 25 [.t 33,.t 35]),o 37 (.is 1 (.t 30) (.t 36)),l 38 37,o 39 (.bin .shl (ai 1) (.t 38)),o 40 (.ia 6 1 (.t 8) (.t 29)),p (.bB none (.t 40) (.t 39))]
def IT:=[m 21 9,ad 22 21 1,m 9 22]
def IU:=[ay 41 6 8,p (.bB (some 6) (.t 6) (.t 41)),aY 7 0]
def BF:aM:=(s (r IQ) (s (s (r IS) (.cond (.t 13) (s (r IV) .ret) .skip)) (s (s (r IW) (.cond (.t 17) (s (r IX) .ret) .skip)) (s (r IY) (s (s (r IZ) (.block 0 (.loop (s (s (r I0) (.cond (.t 20) .skip (.exit 0))) (s (.block 1 (s (r I1) (r I2))) (r IT)))))) (s (r IU) .ret))))))
def MC:List a6:=[.cell 6 (some 6),.tmp 7]
theorem Ul:bH Tryz.prog Tryz.f98 BF:=e (by kernel_rfl)
theorem Wl:bI Tryz.prog Tryz.f98 MC:=e (by kernel_rfl)
theorem Sv:bF Tryz.prog 98:=e (by kernel_rfl)
def I3:=[b 1 0,aY 2 0]
def I4:=[aY 3 0]
def I5:=[m 4 3,o 5 (.bin .lss (.t 4) (ai 5))]
def I6:=[m 8 3,o 9 (.ia 5 1 (.t 1) (.t 8)),l 10 9,o 11 (.call 94 [.t 10,(ai 0),(ai 31)]),no 12 11,m 13 12,fK 14 3 13,on 15 (.ia 5 1 (.t 1) (.t 14)) 13,lB 16 15 13,fK 17 3 13,on 18 (.bin .shl (ai 1) (.t 17)) 13,on 19 (.bin .and (.t 16) (.t 18)) 13,on 20 (.bin .eql (.t 19) (ai 0)) 13,or 21 13 20]
def Xh:=some [[],[0],[1],[2],[3],[4,3],[5],[6,5],[7,5],[5],[9,5],[8,10,5],[11,5],[5,12]]
def wg:=[aY 2 11]
def I7:=[m 6 3,ad 7 6 1,m 3 7]
def I8:=[aY 2 0]
def BG:aM:=(s (r I3) (s (s (r I4) (.block 0 (.loop (s (s (r I5) (.cond (.t 5) .skip (.exit 0))) (s (.block 1 (s (.b6 Xh I6) (.cond (.t 21) (s (r wg) .ret) .skip))) (r I7)))))) (s (r I8) .ret)))
def MD:List a6:=[.tmp 2]
theorem Um:bH Tryz.prog Tryz.f99 BG:=e (by kernel_rfl)
theorem Wm:bI Tryz.prog Tryz.f99 MD:=e (by kernel_rfl)
theorem Sw:bF Tryz.prog 99:=e (by kernel_rfl)
def C2:=[b 1 0,aY 2 0]
def C3:=[aY 3 0]
def C4:=[m 4 3,o 5 (.bin .lss (.t 4) (ai 6))]
def C5:=[m 8 3,o 9 (.ia 6 1 (.t 1) (.t 8)),l 10 9,o 11 (.call 94 [.t 10,(ai 0),(ai 4)]),no 12 11]
def C6:=[aY 2 10]
def C7:=[m 6 3,ad 7 6 1,m 3 7]
def C8:=[aY 2 0]
def zN:aM:=(s (r C2) (s (s (r C3) (.block 0 (.loop (s (s (r C4) (.cond (.t 5) .skip (.exit 0))) (s (.block 1 (s (r C5) (.cond (.t 12) (s (r C6) .ret) .skip))) (r C7)))))) (s (r C8) .ret)))
def KU:List a6:=[.tmp 2]
theorem SB:bH Tryz.prog Tryz.f100 zN:=e (by kernel_rfl)
theorem UE:bI Tryz.prog Tryz.f100 KU:=e (by kernel_rfl)
theorem QO:bF Tryz.prog 100:=e (by kernel_rfl)
def C9:=[b 1 0,aY 2 0]
def Da:=[aY 3 0]
def Db:=[m 4 3,o 5 (.bin .lss (.t 4) (ai 6))]
def Dc:=[m 8 3,o 9 (.ia 6 1 (.t 1) (.t 8)),l 10 9,o 11 (.call 94 [.t 10,(ai 1),(ai 31)]),no 12 11]
def Dd:=[aY 2 12]
def De:=[m 6 3,ad 7 6 1,m 3 7]
def Df:=[aY 2 0]
def zO:aM:=(s (r C9) (s (s (r Da) (.block 0 (.loop (s (s (r Db) (.cond (.t 5) .skip (.exit 0))) (s (.block 1 (s (r Dc) (.cond (.t 12) (s (r Dd) .ret) .skip))) (r De)))))) (s (r Df) .ret)))
def KV:List a6:=[.tmp 2]
theorem SC:bH Tryz.prog Tryz.f101 zO:=e (by kernel_rfl)
theorem UF:bI Tryz.prog Tryz.f101 KV:=e (by kernel_rfl)
theorem QP:bF Tryz.prog 101:=e (by kernel_rfl)
def Dg:=[b 3 0,b 4 1,b 5 2,aY 6 0]
def Di:=[aY 7 0]
def Dj:=[aY 8 0]
def Dk:=[m 9 8,o 10 (.bin .lss (.t 9) (ai 6))]
def Dl:=[m 13 8,o 14 (.ia 6 1 (.t 4) (.t 13)),l 15 14,o 16 (.ia 5 1 (.t 3) (.t 15)),l 17 16,m 18 8,o 19 (.ia 6 1 (.t 5) (.t 18)),l 20 19,o 21 (.bin .and (.t 17) (.t 20)),o 22 (.bin .eql (.t 21) (ai 0))]
def Wp:=some [[],[0],[1],[2],[3],[],[5],[6],[4,7],[8]]
def Dm:=[m 23 7,ad 24 23 1,m 7 24]
def vn:=[m 11 8,ad 12 11 1,m 8 12]
def Dn:=[m 25 7,m 6 25]
def zP:aM:=(s (r Dg) (s (r Di) (s (s (r Dj) (.block 0 (.loop (s (s (r Dk) (.cond (.t 10) .skip (.exit 0))) (s (.block 1 (s (.b6 Wp Dl) (.cond (.t 22) (r Dm) .skip))) (r vn)))))) (s (r Dn) .ret))))
def KW:List a6:=[.tmp 6]
theorem SD:bH Tryz.prog Tryz.f102 zP:=e (by kernel_rfl)
theorem UG:bI Tryz.prog Tryz.f102 KW:=e (by kernel_rfl)
theorem QR:bF Tryz.prog 102:=e (by kernel_rfl)
def Yp:=[b 3 1,aY 4 0,o 5 (.mv bn)]
def Yq:=[m 6 0,ay 7 2 3,o 8 (.call 142 [.t 6,.t 7,(.c (.func 143 []))]),o 9 (.ext (.t 8) 0),o 10 (.ext (.t 8) 1),m 4 9,m 5 10]
def zQ:aM:=(s (r Yp) (s (r Yq) .ret))
def KX:List a6:=[.tmp 4,.tmp 5]
theorem SE:bH Tryz.prog Tryz.f103 zQ:=e (by kernel_rfl)
theorem UH:bI Tryz.prog Tryz.f103 KX:=e (by kernel_rfl)
theorem QS:bF Tryz.prog 103:=e (by kernel_rfl)
def Dp:=[b 2 0,b 3 1,o 4 (.mv (.c (.da)))]
def Dq:=[o 9 (.jB),o 5 (.alloc (.raw (.map none))),p (.bB none (.t 5) (.t 9))]
def Dr:=[l 10 2,o 11 (.len (.t 10)),o 12 (.j0 4 1 (.bool false) (.t 11)),o 6 (.alloc (.nils 1)),p (.bB none (.t 6) (.t 12))]
def Ds:=[l 13 2,o 14 (.call 145 [.t 13])]
def Yr:=[m 7 15]
def Ys:=[o 8 (.alloc (.agg [.agg [.int .i64 0,.int .i64 0],.int .i64 0,.int .i64 0,.int .i64 0,.int .i64 0,.int .i64 0,.int .i64 0,.int .i64 0,.agg [.int .i64 0,.int .i64 0,.int .i64 0,.int .i64 0,.int .i64 0,.int .i64 0],.agg [.int .i64 0,.int .i64 0]])),p (.bB (some 17) (.t 8) (.t 16))]
def Yt:=[l 17 6,m 18 7,f 19 3 4 8,l 20 19,l 21 3,o 22 (.bin .leq (.t 20) (.t 21)),m 23 22,ej 24 5 23,dI 25 0 0 8 23,bR 26 (.ld (some 2) (.t 25)) 23,bR 27 (.lk (.bB [(.i .i64),(.i .i64)]) (.bool false) false (.t 24) (.t 26)) 23,bR 28 (.un .not (.t 27)) 23,and 29 23 28,o 30 (.is 1 (.t 17) (.t 18)),p (.bB none (.t 30) (.t 29))]
def Wq:=some [[],[],[],[2],[],[3,4],[5],[6],[6],[8,6],[7,9,6],[10,6],[6,11],[0,1,0,1,2,3,4,5,6,7,8,9,10,11,12],[13,12,6,0,1,2,3,4,5,6,7,8,9,10,11,12]]
def Yu:=[l 31 6,m 32 7,o 33 (.is 1 (.t 31) (.t 32)),l 34 33,m 35 34,dI 36 1 2 8 35,ej 37 36 35,bR 38 (.bin .eql (.t 37) (ai 0)) 35,and 39 35 38]
def Yv:=[l 40 5,f 41 9 15 8,ay 42 2 41,p (.gn (.bB [(.i .i64),(.i .i64)]) (.t 40) (.t 42) T)]
def Yw:=[o 43 (.mk 146 [.t 2,.t 6]),m 4 43]
def zR:aM:=(s (r Dp) (s (r Dq) (s (r Dr) (s (s (r Ds) (.block 0 (.kH (.t 14) [15,16] (s (r Yr) (r Ys)) (.block 1 (s (.b6 Wq Yt) (s (r Yu) (.cond (.t 39) (r Yv) .skip))))))) (s (r Yw) .ret)))))
def KY:List a6:=[.tmp 4]
theorem SF:bH Tryz.prog Tryz.f105 zR:=e (by kernel_rfl)
theorem UI:bI Tryz.prog Tryz.f105 KY:=e (by kernel_rfl)
theorem QT:bF Tryz.prog 105:=e (by kernel_rfl)
theorem BH:bF Tryz.prog 107:=e (by kernel_rfl)
end Go.Proofs.YtcldiigclhgafaaGreat
namespace Go.Abs
open Go Go.RowKit
def rR(on:List (List Nat)):List Nat:=on.foldl (fun acc ks=>acc++[ox acc ks]) []
def uV(d:Option (List (List Nat)))(gs:List az):Bool:=match d with
 |none=>true
 |some on=>rV on gs (rR on)
section
variable {c:cI} {Q:Exit→ae→Prop} {A:ae} {d:Option (List (List Nat))} {on:List (List Nat)} {gs:List az}
theorem U.bd(hd:uV d gs=true)(h:∀ K:ae→Prop,(∀ B,Q .normal B→K B)→bh c.P c.Y d.isSome K (aA gs A)):U c (.b6 d gs) Q A:=by
 cases d with
 |none=>exact U.b6 (cl:=[]) rfl h
 |some on=>exact U.b6 (cl:=rR on) hd h
theorem U.ak{y:aM}(hd:uV d gs=true)(h:∀ K:ae→Prop,(∀ B,U c y Q B→K B)→bh c.P c.Y d.isSome K (aA gs A)):U c (.seq (.b6 d gs) y) Q A :=
 U.seq (U.bd hd h)
theorem U.tw(hs:List FuncId)(ay:eK)(σ:List Nat)(hd:tk hs ay on gs (rR on) σ=true)(hi:eT ay A)(h:∀ K:ae→Prop,(∀ B,Q .normal B→K B)→cB c.P hs K (aA (pC σ gs) A)):U c (.b6 (some on) gs) Q A :=
 U.ahL hs ay (rR on) σ hd hi h
def gf(c:cI):aM→(Exit→ae→Prop)→ae→Prop
 | .seq x y,Q,A=>gf c x (al (fun B=>U c y Q B) Q) A
 | .block id x,Q,A=>gf c x (bJ id Q) A
 | .skip,Q,A=>Q .normal A
 | .exit id,Q,A=>Q (.exit id) A
 | .ret,Q,A=>Q .ret A
 | .cond b x y,Q,A=>au (ab A b) (U c x Q A) (U c y Q A)
 |x,Q,A=>U c x Q A
def ae7:aM→Bool
 | .seq _ _ | .block _ _ | .skip | .exit _ | .ret | .cond _ _ _=>true
 |_=>false
theorem gf.uv:∀ (x:aM) {Q:Exit→ae→Prop} {A:ae},gf c x Q A→U c x Q A
 | .seq x y,_,_,h=>U.seq (gf.uv x h)
 | .block id x,_,_,h=>U.block (gf.uv x h)
 | .skip,_,_,h=>U.skip h
 | .exit _,_,_,h=>U.exit h
 | .ret,_,_,h=>U.ret h
 | .cond _ _ _,_,_,h=>U.bx h
 | .b6 _ _,_,_,h | .loop _,_,_,h | .scope _,_,_,h | .label,_,_,h | .mN,_,_,h | .kH _ _ _ _,_,_,h=>h
theorem U.of{x:aM}(_:ae7 x=true)(h:gf c x Q A):U c x Q A:=gf.uv x h
theorem aZ :
  (∀ c x y Q A,gf c (.seq x y) Q A=gf c x (al (fun B=>U c y Q B) Q) A)∧(∀ c id x Q A,gf c (.block id x) Q A=gf c x (bJ id Q) A)∧(∀ c Q A,gf c .skip Q A=Q .normal A)∧(∀ c id Q A,gf c (.exit id) Q A=Q (.exit id) A)∧(∀ c Q A,gf c .ret Q A=Q .ret A) ∧
  (∀ c b x y Q A,gf c (.cond b x y) Q A=au (ab A b) (U c x Q A) (U c y Q A))∧(∀ c d gs Q A,gf c (.b6 d gs) Q A=U c (.b6 d gs) Q A)∧(∀ c x Q A,gf c (.loop x) Q A=U c (.loop x) Q A)∧(∀ c f ps x y Q A,gf c (.kH f ps x y) Q A=U c (.kH f ps x y) Q A) ∧
  (∀ k Q A,al k Q .normal A=k A)∧(∀ k Q A,al k Q .ret A=Q .ret A)∧(∀ k Q A i,al k Q (.exit i) A=Q (.exit i) A)∧(∀ i Q A,bJ i Q .normal A=Q .normal A)∧(∀ i Q A,bJ i Q .ret A=Q .ret A)∧(∀ i Q A j,bJ i Q (.exit j) A=if j=i then Q .normal A else Q (.exit j) A) ∧
  (∀ p q,au (.bool true) p q=p)∧(∀ p q,au (.bool false) p q=q)∧(type_of% @wQ) :=
 ⟨fun _ _ _ _ _=>rfl,fun _ _ _ _ _=>rfl,fun _ _ _=>rfl,fun _ _ _ _=>rfl,fun _ _ _=>rfl,fun _ _ _ _ _ _=>rfl,fun _ _ _ _ _=>rfl,fun _ _ _ _=>rfl,fun _ _ _ _ _ _ _=>rfl,fun _ _ _=>rfl,fun _ _ _=>rfl,fun _ _ _ _=>rfl,fun _ _ _=>rfl,fun _ _ _=>rfl,fun _ _ _ _=>rfl,
  fun p q=>by simp[au],fun p q=>by simp[au],wQ⟩
theorem au.aU{t:Bool}{p q:Prop}(h1:t=true→p)(h2:t=false→q):au (.bool t) p q:=⟨h1,h2⟩
theorem U.aX{g:az}{r:List az}(hd:uV d gs=true)(e:gs=g::r)(h:∀ K:ae→Prop,(∀ B,Q .normal B→K B)→bh c.P c.Y d.isSome K (aA (g::r) A)):U c (.b6 d gs) Q A :=
 U.bd hd (e▸h)
theorem bh.aQ(ay:List Nat){P:Program}{Y:Value→List I→List (Nat×ah)→cR→Prop}{dr:Bool}{x:aM}{K:ae→Prop}{ts:List (Nat×I)}{os:List (Nat×ah)}(hK:∀ B,U c x Q B→K B)(h:U c x Q (ar (gH ay ts) os)):bh P Y dr K (.done (ar ts os)) :=
 .done (hK _ (U.fA ay h))
theorem cB.aQ(ay:List Nat){P:Program}{hs:List FuncId}{x:aM}{K:ae→Prop}{ts:List (Nat×I)}{os:List (Nat×ah)}(hK:∀ B,U c x Q B→K B)(h:U c x Q (ar (gH ay ts) os)):cB P hs K (.done (ar ts os)) :=
 .done (hK _ (U.fA ay h))
end
end Go.Abs
namespace Go.Proofs.YtcldiigclhgafaaGreat
open Go Go.Abs Go.Abs.C
def Dt:=[o 6 (.mv bn)]
def Du:=[m 7 1,m 8 0,o 9 (.bin .leq (.t 7) (.t 8)),m 10 9,cX 11 0 10,cX 12 2 10,bR 13 (.bin .leq (.t 11) (.t 12)) 10,and 14 10 13,m 6 14]
def zS:aM:=(s (r Dt) (s (r Du) .ret))
def KZ:List a6:=[.tmp 6]
theorem SG:bH Tryz.prog Tryz.f114 zS:=e (by kernel_rfl)
theorem UJ:bI Tryz.prog Tryz.f114 KZ:=e (by kernel_rfl)
theorem QU:bF Tryz.prog 114:=e (by kernel_rfl)
def Dv:=[b 1 0,o 2 (.mv bn)]
def Dw:=[f 3 0 0 1,l 4 3,o 5 (.call 114 [.t 4,(ai 0),(ai 5)]),m 6 5,dI 7 1 1 1 6,ej 8 7 6,bR 9 (.call 114 [.t 8,(ai 0),(ai 9999)]) 6,and 10 6 9,m 2 10]
def zT:aM:=(s (r Dv) (s (r Dw) .ret))
def K0:List a6:=[.tmp 2]
theorem SH:bH Tryz.prog Tryz.f115 zT:=e (by kernel_rfl)
theorem UK:bI Tryz.prog Tryz.f115 K0:=e (by kernel_rfl)
theorem QV:bF Tryz.prog 115:=e (by kernel_rfl)
def Dy:=[b 1 0,o 2 (.mv bn)]
def Dz:=[f 5 0 0 1,ay 6 2 5,f 7 1 2 1,l 8 7,f 9 2 3 1,l 10 9,f 11 3 4 1,l 12 11,f 13 4 5 1,l 14 13,o 15 (.bld [.agg [.int .i64 0,.int .i64 0],.int .i64 0,.int .i64 0,.int .i64 0,.int .i64 0,.int .i64 0,.int .i64 0,.int .i64 0,.agg [.int .i64 0,.int .i64 0,.int .i64 0,.int .i64 0,.int .i64 0,.int .i64 0],.agg [.int .i64 0,.int .i64 0]] [(0,(.t 6)),(1,(.t 8)),(2,(.t 10)),(3,(.t 12)),(4,(.t 14))]),o 3 (.alloc (.agg [.agg [.int .i64 0,.int .i64 0],.int .i64 0,.int .i64 0,.int .i64 0,.int .i64 0,.int .i64 0,.int .i64 0,.int .i64 0,.agg [.int .i64 0,.int .i64 0,.int .i64 0,.int .i64 0,.int .i64 0,.int .i64 0],.agg [.int .i64 0,.int .i64 0]])),p (.bB (some 17) (.t 3) (.t 15))]
def DA:=[f 16 4 5 1,l 17 16,o 18 (.call 154 [.t 17]),m 4 18]
def YK:=[f 19 1 2 1,l 20 19]
def YL:=[o 22 (.bin .eql (.t 20) (ai 0)),m 21 22]
def vp:=[f 23 9 15 1,ay 24 2 23,f 25 4 5 3,p (.bB none (.t 25) (ai 0)),f 26 9 15 3,p (.bB (some 2) (.t 26) (.t 24))]
def Wr:=some [[],[0],[],[2],[0,1,2,3],[4,1,3,0,1,2,3]] -- DRAW BAD
def YM:=[f 27 2 3 1,l 28 27,o 29 (.bin .eql (.t 28) (ai 0)),m 30 29,dI 31 9 15 1 30,bR 32 (.ld (some 2) (.t 31)) 30,bR 33 (.call 115 [.t 32]) 30,and 34 30 33,m 35 34,dI 36 9 15 1 35,dI 37 0 0 36 35,ej 38 37 35,dI 39 0 0 1 35,dI 40 0 0 39 35,ej 41 40 35,bR 42 (.bin .eql (.t 38) (.t 41)) 35,and 43 35 42,m 44 43,dI 45 9 15 1 44,dI 46 1 1 45 44,ej 47 46 44,dI 48 0 0 1 44,dI 49 1 1 48 44,ej 50 49 44,bR 51 (.bin .lss (.t 47) (.t 50)) 44,and 52 44 51,m 4 52]
def YN:=[o 54 (.bin .eql (.t 20) (ai 1)),m 53 54]
def vq:=[f 55 6 7 1,l 56 55,f 57 7 8 1,l 58 57,f 59 5 6 1,l 60 59,f 61 6 7 3,p (.bB none (.t 61) (.t 56)),f 62 7 8 3,p (.bB none (.t 62) (.t 58)),f 63 5 6 3,p (.bB none (.t 63) (.t 60))]
def Ws:=some [[],[0],[],[2],[],[4],[0,1],[6,1,0,1],[0,1,2,3,6,7],[8,3,7,0,1,2,3,6,7],[0,1,2,3,4,5,6,7,8,9],[10,5,9,0,1,2,3,4,5,6,7,8,9]] -- DRAW BAD
def YO:=[m 64 4,m 65 64,dI 66 6 7 1 65,ej 67 66 65,bR 68 (.call 155 [.t 67]) 65,and 69 65 68,m 70 69,dI 71 7 8 1 70,ej 72 71 70,bR 73 (.call 156 [.t 72]) 70,and 74 70 73,m 75 74,dI 76 5 6 1 75,ej 77 76 75,bR 78 (.call 114 [.t 77,(ai 0),(ai 9999)]) 75,and 79 75 78,m 80 79,dI 81 5 6 1 80,ej 82 81 80,dI 83 4 5 1 80,ej 84 83 80,bR 85 (.bin .neq (.t 82) (.t 84)) 80,and 86 80 85,m 4 86]
def Yx:=[o 88 (.bin .eql (.t 20) (ai 2)),m 87 88]
def Yy:=[f 89 6 7 1,l 90 89,f 91 6 7 3,p (.bB none (.t 91) (.t 90))]
def Yz:=[m 92 4,m 93 92,dI 94 6 7 1 93,ej 95 94 93,bR 96 (.call 155 [.t 95]) 93,and 97 93 96,m 4 97]
def YA:=[o 99 (.bin .eql (.t 20) (ai 3)),m 98 99]
def YB:=[o 100 (.bin .eql (.t 20) (ai 5)),m 98 100]
def YC:=[f 101 7 8 1,l 102 101,f 103 7 8 3,p (.bB none (.t 103) (.t 102))]
def YD:=[m 104 4,m 105 104,dI 106 7 8 1 105,ej 107 106 105,bR 108 (.call 156 [.t 107]) 105,and 109 105 108,m 4 109]
def YE:=[o 111 (.bin .eql (.t 20) (ai 4)),m 110 111]
def YF:=[f 112 8 9 1,ay 113 6 112,f 114 8 9 3,p (.bB (some 6) (.t 114) (.t 113))]
def YG:=[m 115 4,m 116 115,dI 117 8 9 1 116,bR 118 (.ld (some 6) (.t 117)) 116,bR 119 (.call 157 [.t 118]) 116,bR 120 (.bin .eql (.t 119) (ai 0)) 116,and 121 116 120,m 4 121]
def YH:=[o 123 (.bin .eql (.t 20) (ai 6)),m 122 123]
def YI:=[o 2 (.mv bn)]
def YJ:=[m 124 4,m 125 124,bR 126 (.ld (some 17) (.t 1)) 125,bR 127 (.ld (some 17) (.t 3)) 125,bR 128 (.eqv (.bB [(.bB [(.i .i64),(.i .i64)]),(.i .i64),(.i .i64),(.i .i64),(.i .i64),(.i .i64),(.i .i64),(.i .i64),(.kh 6 (.i .i64)),(.bB [(.i .i64),(.i .i64)])]) false (.t 126) (.t 127)) 125,and 129 125 128,m 130 129,dI 131 0 0 1 130,bR 132 (.ld (some 2) (.t 131)) 130,bR 133 (.call 115 [.t 132]) 130,and 134 130 133,m 135 134,dI 136 2 3 1 135,ej 137 136 135,bR 138 (.call 127 [.t 137]) 135,and 139 135 138,m 140 139,dI 141 3 4 1 140,ej 142 141 140,bR 143 (.call 127 [.t 142]) 140,and 144 140 143,m 2 144]
def zU:aM:=(s (r Dy) (s (r Dz) (s (r DA) (s (s (r YK) (.block 0 (s (r YL) (.cond (.t 21) (s (.b6 Wr vp) (r YM)) (s (r YN) (.cond (.t 53) (s (.b6 Ws vq) (r YO)) (s (r Yx) (.cond (.t 87) (s (r Yy) (r Yz)) (s (s (r YA) (.cond (.t 98) .skip (r YB))) (.cond (.t 98) (s (r YC) (r YD)) (s (r YE) (.cond (.t 110) (s (r YF) (r YG)) (s (r YH) (.cond (.t 122) .skip (s (r YI) .ret))))))))))))))) (s (r YJ) .ret)))))
def K1:List a6:=[.tmp 2]
theorem SI:bH Tryz.prog Tryz.f117 zU:=e (by kernel_rfl)
theorem UL:bI Tryz.prog Tryz.f117 K1:=e (by kernel_rfl)
theorem QW:bF Tryz.prog 117:=e (by kernel_rfl)
def DB:=[b 2 0,b 3 1,aY 4 0]
def DC:=[f 5 0 0 2,l 6 5,f 7 0 0 3,l 8 7,o 9 (.call 159 [.t 6,.t 8]),f 10 1 1 2,l 11 10,f 12 1 1 3,l 13 12,o 14 (.call 159 [.t 11,.t 13]),o 15 (.bs 3 1 [.t 9,.t 14]),o 16 (.call 158 [.t 15]),m 4 16]
def Wt:=some [[],[0],[],[2],[1,3],[],[5],[],[7],[6,8,4],[4,9],[10,9],[11,11,0,1,2,3,4,5,6,7,8,9,10,11]]
def zV:aM:=(s (r DB) (s (.b6 Wt DC) .ret))
def K2:List a6:=[.tmp 4]
theorem SJ:bH Tryz.prog Tryz.f118 zV:=e (by kernel_rfl)
theorem UM:bI Tryz.prog Tryz.f118 K2:=e (by kernel_rfl)
theorem QX:bF Tryz.prog 118:=e (by kernel_rfl)
def DE:=[b 1 0,o 2 (.mv bn)]
def DF:=[ay 6 5 1,aY 7 0]
def DG:=[o 8 (.bin .lss (.t 7) (ai 5))]
def DH:=[m 9 7,o 10 (.ix 5 1 none (.t 6) (.t 7)),m 3 9,m 4 10]
def DI:=[m 11 4,m 5 11]
def DJ:=[m 12 5,o 13 (.call 160 [.t 12]),no 14 13,m 15 14,fK 16 5 15,fK 17 3 15,on 18 (.call 161 [.t 16,.t 17]) 15,on 19 (.un .not (.t 18)) 15,or 20 15 19]
def vr:=[o 2 (.mv bn)]
def DK:=[ad 21 7 1,m 7 21]
def DL:=[o 2 (.mv T)]
def zW:aM:=(s (r DE) (s (s (r DF) (.block 0 (.loop (s (r DG) (s (.cond (.t 8) .skip (.exit 0)) (s (.block 1 (s (r DH) (s (r DI) (s (r DJ) (.cond (.t 20) (s (r vr) .ret) .skip))))) (r DK))))))) (s (r DL) .ret)))
def K3:List a6:=[.tmp 2]
theorem SK:bH Tryz.prog Tryz.f120 zW:=e (by kernel_rfl)
theorem UN:bI Tryz.prog Tryz.f120 K3:=e (by kernel_rfl)
theorem QY:bF Tryz.prog 120:=e (by kernel_rfl)
def DM:=[o 6 (.mv bn)]
def DN:=[m 7 1,m 8 0,o 9 (.bin .leq (.t 7) (.t 8)),m 10 9,cX 11 0 10,cX 12 2 10,bR 13 (.bin .leq (.t 11) (.t 12)) 10,and 14 10 13,m 6 14]
def zX:aM:=(s (r DM) (s (r DN) .ret))
def K4:List a6:=[.tmp 6]
theorem SL:bH Tryz.prog Tryz.f121 zX:=e (by kernel_rfl)
theorem UO:bI Tryz.prog Tryz.f121 K4:=e (by kernel_rfl)
theorem QZ:bF Tryz.prog 121:=e (by kernel_rfl)
def DO:=[o 2 (.mv bn)]
def DP:=[m 3 0,o 4 (.call 121 [.t 3,(ai 1),(ai 99)]),m 2 4]
def zY:aM:=(s (r DO) (s (r DP) .ret))
def K5:List a6:=[.tmp 2]
theorem SM:bH Tryz.prog Tryz.f122 zY:=e (by kernel_rfl)
theorem UP:bI Tryz.prog Tryz.f122 K5:=e (by kernel_rfl)
theorem Q0:bF Tryz.prog 122:=e (by kernel_rfl)
def DQ:=[b 1 0,o 2 (.mv bn)]
def DR:=[o 3 (.va 6 1 (.t 1)),o 4 (.call 125 [.t 3,(.c (.func 162 []))]),no 5 4,m 2 5]
def zZ:aM:=(s (r DQ) (s (r DR) .ret))
def K6:List a6:=[.tmp 2]
theorem SN:bH Tryz.prog Tryz.f123 zZ:=e (by kernel_rfl)
theorem UQ:bI Tryz.prog Tryz.f123 K6:=e (by kernel_rfl)
theorem Q1:bF Tryz.prog 123:=e (by kernel_rfl)
def DS:=[b 3 0,b 5 2,o 6 (.mv bn)]
def DT:=[m 7 1,o 8 (.mk 164 [.t 3,.t 5]),o 9 (.call 163 [.t 7,.t 8]),no 10 9,m 6 10]
def z6:aM:=(s (r DS) (s (r DT) .ret))
def K7:List a6:=[.tmp 6]
theorem SO:bH Tryz.prog Tryz.f124 z6:=e (by kernel_rfl)
theorem UR:bI Tryz.prog Tryz.f124 K7:=e (by kernel_rfl)
theorem Q2:bF Tryz.prog 124:=e (by kernel_rfl)
def DU:=[o 4 (.mv bn)]
def DV:=[m 5 0,m 6 1,o 7 (.call 166 [.t 5,.t 6]),o 8 (.bin .geq (.t 7) (ai 0)),m 4 8]
def z7:aM:=(s (r DU) (s (r DV) .ret))
def K8:List a6:=[.tmp 4]
theorem SP:bH Tryz.prog Tryz.f125 z7:=e (by kernel_rfl)
theorem US:bI Tryz.prog Tryz.f125 K8:=e (by kernel_rfl)
theorem Q3:bF Tryz.prog 125:=e (by kernel_rfl)
def YP:=[o 2 (.mv bn)]
def YQ:=[m 3 0,o 4 (.call 127 [.t 3]),no 5 4,m 2 5]
def z8:aM:=(s (r YP) (s (r YQ) .ret))
def K9:List a6:=[.tmp 2]
theorem SQ:bH Tryz.prog Tryz.f126 z8:=e (by kernel_rfl)
theorem UT:bI Tryz.prog Tryz.f126 K9:=e (by kernel_rfl)
theorem Q4:bF Tryz.prog 126:=e (by kernel_rfl)
def DW:=[o 2 (.mv bn)]
def DX:=[m 3 0,o 4 (.call 114 [.t 3,(ai 0),(ai 100000)]),m 2 4]
def Aa:aM:=(s (r DW) (s (r DX) .ret))
def La:List a6:=[.tmp 2]
theorem SR:bH Tryz.prog Tryz.f127 Aa:=e (by kernel_rfl)
theorem UU:bI Tryz.prog Tryz.f127 La:=e (by kernel_rfl)
theorem Q5:bF Tryz.prog 127:=e (by kernel_rfl)
def DY:=[b 2 0,o 4 (.mv (.c (.nils 1))),aY 5 0]
def DZ:=[ay 11 7 2,o 12 (.call 66 [.t 11]),m 6 12]
def vx:=[m 13 6,o 14 (.bin .neq (.t 13) (ai 0))]
def D4:=[m 15 6,o 4 (.mv (.c (.nils 1))),m 5 15]
def D5:=[m 16 1,o 17 (.len (.t 16)),o 18 (.bin .gtr (.t 17) (ai 60))]
def D6:=[o 4 (.mv (.c (.nils 1))),aY 5 2]
def D7:=[f 19 2 6 2,l 20 19,o 21 (.call 167 [.t 20]),m 7 21]
def vy:=[m 22 1,o 23 (.len (.t 22)),aY 24 0]
def vz:=[lt 25 24 23]
def vA:=[o 26 (.is 6 (.t 22) (.t 24)),ay 27 6 26,o 9 (.alloc (.agg [.int .i64 0,.int .i64 0,.int .i64 0,.int .i64 0,.int .i64 0,.int .i64 0])),p (.bB (some 6) (.t 9) (.t 27))]
def vt:=[ay 28 6 9,o 29 (.call 157 [.t 28]),m 10 29]
def sd:=[m 30 10,o 31 (.bin .neq (.t 30) (ai 0))]
def vu:=[m 32 10,o 4 (.mv (.c (.nils 1))),m 5 32]
def vv:=[f 33 0 0 2,ay 34 5 33,f 35 1 5 2,l 36 35,m 37 7,o 38 (.bld [.agg [.int .i64 0,.int .i64 0,.int .i64 0,.int .i64 0,.int .i64 0],.int .i64 0,.nils 7] [(0,(.t 34)),(1,(.t 36)),(2,(.t 37))]),ay 39 6 9,o 40 (.call 168 [.t 38,.t 39]),m 7 40]
def sf:=[ad 41 24 1,m 24 41]
def vw:=[m 42 7,o 43 (.call 169 [.t 42]),m 4 43,aY 5 0]
def Ab:aM:=(s (r DY) (s (s (r DZ) (s (r vx) (.cond (.t 14) (s (r D4) .ret) .skip))) (s (s (r D5) (.cond (.t 18) (s (r D6) .ret) .skip)) (s (r D7) (s (s (r vy) (.block 0 (.loop (s (r vz) (s (.cond (.t 25) .skip (.exit 0)) (s (.block 1 (s (r vA) (s (s (r vt) (s (r sd) (.cond (.t 31) (s (r vu) .ret) .skip))) (r vv)))) (r sf))))))) (s (r vw) .ret))))))
def Lb:List a6:=[.tmp 4,.tmp 5]
theorem SS:bH Tryz.prog Tryz.f128 Ab:=e (by kernel_rfl)
theorem UW:bI Tryz.prog Tryz.f128 Lb:=e (by kernel_rfl)
theorem Q6:bF Tryz.prog 128:=e (by kernel_rfl)
def D8:=[b 3 0,b 4 1,b 5 2,aY 6 0]
def D9:=[aY 7 0]
def Ea:=[aY 8 0]
def Eb:=[m 9 8,o 10 (.bin .lss (.t 9) (ai 6))]
def Ec:=[m 13 8,o 14 (.ia 6 1 (.t 4) (.t 13)),l 15 14,o 16 (.ia 5 1 (.t 3) (.t 15)),l 17 16,m 18 8,o 19 (.ia 6 1 (.t 5) (.t 18)),l 20 19,o 21 (.ia 5 1 (.t 3) (.t 20)),l 22 21,o 23 (.bin .and (.t 17) (.t 22)),o 24 (.bin .eql (.t 23) (ai 0))]
def Wu:=some [[],[0],[1],[2],[3],[],[5],[6],[7],[8],[4,9],[10]]
def Ed:=[m 25 7,ad 26 25 1,m 7 26]
def vB:=[m 11 8,ad 12 11 1,m 8 12]
def Ee:=[m 27 7,m 6 27]
def Ac:aM:=(s (r D8) (s (r D9) (s (s (r Ea) (.block 0 (.loop (s (s (r Eb) (.cond (.t 10) .skip (.exit 0))) (s (.block 1 (s (.b6 Wu Ec) (.cond (.t 24) (r Ed) .skip))) (r vB)))))) (s (r Ee) .ret))))
def Lc:List a6:=[.tmp 6]
theorem SU:bH Tryz.prog Tryz.f129 Ac:=e (by kernel_rfl)
theorem UX:bI Tryz.prog Tryz.f129 Lc:=e (by kernel_rfl)
theorem Q7:bF Tryz.prog 129:=e (by kernel_rfl)
def YR:=[aY 4 0]
def YS:=[m 6 0,o 7 (.len (.t 6)),aY 8 0]
def YT:=[lt 9 8 7]
def YU:=[m 10 8,m 5 10]
def YV:=[m 11 1,m 12 0,m 13 5,o 14 (.is 1 (.t 12) (.t 13)),l 15 14,o 16 (.bin .eql (.t 11) (.t 15))]
def YW:=[m 17 5,m 4 17]
def YX:=[ad 18 8 1,m 8 18]
def YY:=[aY 4 (-1)]
def Ad:aM:=(s (r YR) (s (s (r YS) (.block 0 (.loop (s (r YT) (s (.cond (.t 9) .skip (.exit 0)) (s (.block 1 (s (r YU) (s (r YV) (.cond (.t 16) (s (r YW) .ret) .skip)))) (r YX))))))) (s (r YY) .ret)))
def Ld:List a6:=[.tmp 4]
theorem SV:bH Tryz.prog Tryz.f131 Ad:=e (by kernel_rfl)
theorem UY:bI Tryz.prog Tryz.f131 Ld:=e (by kernel_rfl)
theorem Q8:bF Tryz.prog 131:=e (by kernel_rfl)
def YZ:=[o 2 (.alloc (.agg [.int .i64 0,.int .i64 0,.int .i64 0,.int .i64 0,.int .i64 0,.int .i64 0,.int .i64 0,.int .i64 0]))]
def Y0:=[aY 3 0]
def Y1:=[m 4 0,o 5 (.nilC (.t 4)),f 6 0 0 5,f 7 7 7 6,l 8 7]
def Y2:=[aY 3 1]
def Y3:=[m 9 0,o 10 (.nilC (.t 9)),f 11 0 0 10,f 12 0 0 11,l 13 12,m 14 0,o 15 (.nilC (.t 14)),f 16 0 0 15,f 17 1 1 16,l 18 17,m 19 0,o 20 (.nilC (.t 19)),f 21 0 0 20,f 22 2 2 21,l 23 22,m 24 0,o 25 (.nilC (.t 24)),f 26 0 0 25,f 27 3 3 26,l 28 27,m 29 0,o 30 (.nilC (.t 29)),f 31 0 0 30,f 32 4 4 31,l 33 32,m 34 0,o 35 (.nilC (.t 34)),f 36 0 0 35,f 37 5 5 36,l 38 37,m 39 0,o 40 (.nilC (.t 39)),f 41 0 0 40,f 42 6 6 41,l 43 42,m 44 3,o 45 (.bld [.int .i64 0,.int .i64 0,.int .i64 0,.int .i64 0,.int .i64 0,.int .i64 0,.int .i64 0,.int .i64 0] [(0,(.t 13)),(1,(.t 18)),(2,(.t 23)),(3,(.t 28)),(4,(.t 33)),(5,(.t 38)),(6,(.t 43)),(7,(.t 44))]),p (.bB (some 8) (.t 2) (.t 45))]
def Wv:=some [[],[0],[1],[2],[3],[],[5],[6],[7],[8],[],[10],[11],[12],[13],[],[15],[16],[17],[18],[],[20],[21],[22],[23],[],[25],[26],[27],[28],[],[30],[31],[32],[33],[],[4,9,14,19,24,29,34,35],[36,0,1,2,3,4,5,6,7,8,9,10,11,12,13,14,15,16,17,18,19,20,21,22,23,24,25,26,27,28,29,30,31,32,33,34,35,36]]
def Ae:aM:=(s (r YZ) (s (r Y0) (s (s (r Y1) (.cond (.t 8) (r Y2) .skip)) (s (.b6 Wv Y3) .ret))))
def Le:List a6:=[.cell 2 (some 8)]
theorem SW:bH Tryz.prog Tryz.f133 Ae:=e (by kernel_rfl)
theorem UZ:bI Tryz.prog Tryz.f133 Le:=e (by kernel_rfl)
theorem Q9:bF Tryz.prog 133:=e (by kernel_rfl)
def Y4:=[o 4 (.mv bn)]
def Y5:=[m 6 0,o 7 (.len (.t 6)),m 8 1,o 9 (.len (.t 8)),o 10 (.bin .neq (.t 7) (.t 9))]
def Y6:=[o 4 (.mv bn)]
def Y7:=[m 11 0,o 12 (.len (.t 11)),aY 13 0]
def Y8:=[lt 14 13 12]
def Y9:=[m 15 13,m 5 15]
def Za:=[m 16 0,m 17 5,o 18 (.is 1 (.t 16) (.t 17)),l 19 18,m 20 1,m 21 5,o 22 (.is 1 (.t 20) (.t 21)),l 23 22,o 24 (.bin .neq (.t 19) (.t 23))]
def Ww:=some [[],[],[0,1],[2],[],[],[4,5],[6],[3,7]]
def Zb:=[o 4 (.mv bn)]
def Zc:=[ad 25 13 1,m 13 25]
def Zd:=[o 4 (.mv T)]
def Af:aM:=(s (r Y4) (s (s (r Y5) (.cond (.t 10) (s (r Y6) .ret) .skip)) (s (s (r Y7) (.block 0 (.loop (s (r Y8) (s (.cond (.t 14) .skip (.exit 0)) (s (.block 1 (s (r Y9) (s (.b6 Ww Za) (.cond (.t 24) (s (r Zb) .ret) .skip)))) (r Zc))))))) (s (r Zd) .ret))))
def Lf:List a6:=[.tmp 4]
theorem SX:bH Tryz.prog Tryz.f134 Af:=e (by kernel_rfl)
theorem U0:bI Tryz.prog Tryz.f134 Lf:=e (by kernel_rfl)
theorem Ra:bF Tryz.prog 134:=e (by kernel_rfl)
def Ef:=[o 6 (.mv (.c (.nils 17)))]
def Eg:=[m 8 0,m 9 1,m 10 2,m 11 0,o 12 (.len (.t 11)),o 13 (.sl 17 (.t 8) (some (.t 9)) (some (.t 10)) (some (.t 12)))]
def Ei:=[m 14 1,m 15 2,o 16 (.bin .eql (.t 14) (.t 15))]
def Ze:=[m 17 0,m 6 17]
def Ej:=[m 18 0,o 19 (.len (.t 18)),m 7 19]
def vC:=[m 20 0,m 21 1,o 22 (.sl 17 (.t 20) none (some (.t 21)) none),m 23 0,m 24 2,o 25 (.sl 17 (.t 23) (some (.t 24)) none none),o 26 (.dH 68 17 136 (.agg [.agg [.int .i64 0,.int .i64 0],.int .i64 0,.int .i64 0,.int .i64 0,.int .i64 0,.int .i64 0,.int .i64 0,.int .i64 0,.agg [.int .i64 0,.int .i64 0,.int .i64 0,.int .i64 0,.int .i64 0,.int .i64 0],.agg [.int .i64 0,.int .i64 0]]) (.t 22) (.t 25)),m 0 26]
def Wx:=some [[],[],[0,1],[],[],[3,4],[2,5],[6,6,0,1,2,3,4,5,6]]
def vD:=[m 27 0,m 28 0,o 29 (.len (.t 28)),m 30 7,o 31 (.sl 17 (.t 27) (some (.t 29)) (some (.t 30)) none),p (.je 17 (.agg [.agg [.int .i64 0,.int .i64 0],.int .i64 0,.int .i64 0,.int .i64 0,.int .i64 0,.int .i64 0,.int .i64 0,.int .i64 0,.agg [.int .i64 0,.int .i64 0,.int .i64 0,.int .i64 0,.int .i64 0,.int .i64 0],.agg [.int .i64 0,.int .i64 0]]) (.t 31))]
def vE:=[m 32 0,m 6 32]
def Ag:aM:=(s (r Ef) (s (r Eg) (s (s (r Ei) (.cond (.t 16) (s (r Ze) .ret) .skip)) (s (r Ej) (s (.b6 Wx vC) (s (r vD) (s (r vE) .ret)))))))
def Lg:List a6:=[.tmp 6]
theorem SY:bH Tryz.prog Tryz.f135 Ag:=e (by kernel_rfl)
theorem U1:bI Tryz.prog Tryz.f135 Lg:=e (by kernel_rfl)
theorem Rb:bF Tryz.prog 135:=e (by kernel_rfl)
def Ek:=[o 2 (.mv (.c (.nils 17)))]
def vF:=[m 3 0,o 4 (.nilS false (.t 3))]
def El:=[o 2 (.mv (.c (.nils 17)))]
def vG:=[o 5 (.bs0 17),m 6 0,o 7 (.dH 68 17 136 (.agg [.agg [.int .i64 0,.int .i64 0],.int .i64 0,.int .i64 0,.int .i64 0,.int .i64 0,.int .i64 0,.int .i64 0,.int .i64 0,.agg [.int .i64 0,.int .i64 0,.int .i64 0,.int .i64 0,.int .i64 0,.int .i64 0],.agg [.int .i64 0,.int .i64 0]]) (.t 5) (.t 6)),m 2 7]
def Ah:aM:=(s (r Ek) (s (s (r vF) (.cond (.t 4) (s (r El) .ret) .skip)) (s (r vG) .ret)))
def Lh:List a6:=[.tmp 2]
theorem SZ:bH Tryz.prog Tryz.f136 Ah:=e (by kernel_rfl)
theorem U2:bI Tryz.prog Tryz.f136 Lh:=e (by kernel_rfl)
theorem Rc:bF Tryz.prog 136:=e (by kernel_rfl)
def Em:=[m 4 0,m 5 0,o 6 (.len (.t 5)),m 7 1,o 8 (.call 171 [.t 4,.t 6,.t 7])]
def uy:aM:=(r Em)
def xX:List a6:=[]
theorem BR:bH Tryz.prog Tryz.f137 uy:=e (by kernel_rfl)
theorem B5:bI Tryz.prog Tryz.f137 xX:=e (by kernel_rfl)
theorem BI:bF Tryz.prog 137:=e (by kernel_rfl)
def Zf:=[aY 5 0]
def Zg:=[l 6 2,m 7 0,o 8 (.is 17 (.t 6) (.t 7)),f 9 2 3 8,l 10 9,l 11 2,m 12 1,o 13 (.is 17 (.t 11) (.t 12)),f 14 2 3 13,l 15 14,o 16 (.bin .sub (.t 10) (.t 15)),m 5 16]
def Wy:=some [[],[],[0,1],[2],[3],[],[],[5,6],[7],[8],[4,9],[10,0,1,2,3,4,5,6,7,8,9,10]]
def Ai:aM:=(s (r Zf) (s (.b6 Wy Zg) .ret))
def Li:List a6:=[.tmp 5]
theorem S0:bH Tryz.prog Tryz.f138 Ai:=e (by kernel_rfl)
theorem U3:bI Tryz.prog Tryz.f138 Li:=e (by kernel_rfl)
theorem Re:bF Tryz.prog 138:=e (by kernel_rfl)
def En:=[o 0 (.mv (.c (.raw (.map none))))]
def Eo:=[o 1 (.jB),p (.gn (.i .i64) (.t 1) (ai 1) (.c (.func 172 []))),p (.gn (.i .i64) (.t 1) (ai 2) (.c (.func 173 []))),p (.gn (.i .i64) (.t 1) (ai 3) (.c (.func 174 []))),p (.gn (.i .i64) (.t 1) (ai 4) (.c (.func 175 []))),p (.gn (.i .i64) (.t 1) (ai 5) (.c (.func 176 []))),p (.gn (.i .i64) (.t 1) (ai 6) (.c (.func 177 []))),m 2 1,m 0 2]
def Aj:aM:=(s (r En) (s (r Eo) .ret))
def Lj:List a6:=[.tmp 0]
theorem S1:bH Tryz.prog Tryz.f139 Aj:=e (by kernel_rfl)
theorem U4:bI Tryz.prog Tryz.f139 Lj:=e (by kernel_rfl)
theorem Rf:bF Tryz.prog 139:=e (by kernel_rfl)
def Ep:=[o 2 (.mv (.c (.nils 1)))]
def Er:=[o 3 (.mv (.c (.nils 1)))]
def Es:=[aY 4 0]
def Et:=[m 5 4,o 6 (.bin .lss (.t 5) (ai 5))]
def Eu:=[m 9 0,m 10 4,o 11 (.bin .shl (ai 1) (.t 10)),o 12 (.bin .and (.t 9) (.t 11)),o 13 (.bin .neq (.t 12) (ai 0))]
def Ev:=[m 14 3,m 15 4,o 16 (.bs 3 1 [.t 15]),o 17 (.dH 3 1 8 (.int .i64 0) (.t 14) (.t 16)),m 3 17]
def vH:=[m 7 4,ad 8 7 1,m 4 8]
def Ew:=[m 18 3,m 2 18]
def Al:aM:=(s (r Ep) (s (r Er) (s (s (r Es) (.block 0 (.loop (s (s (r Et) (.cond (.t 6) .skip (.exit 0))) (s (.block 1 (s (r Eu) (.cond (.t 13) (r Ev) .skip))) (r vH)))))) (s (r Ew) .ret))))
def Ll:List a6:=[.tmp 2]
theorem S3:bH Tryz.prog Tryz.f141 Al:=e (by kernel_rfl)
theorem U6:bI Tryz.prog Tryz.f141 Ll:=e (by kernel_rfl)
theorem Rh:bF Tryz.prog 141:=e (by kernel_rfl)
def Zh:=[b 4 1,aY 6 0,o 7 (.mv bn)]
def Zi:=[m 12 0,o 13 (.len (.t 12)),m 8 13]
def Zj:=[m 14 8,aY 9 0,m 10 14]
def Zk:=[m 15 9,m 16 10,lt 17 15 16]
def Zl:=[m 18 9,m 19 10,o 20 (.bin .add (.t 18) (.t 19)),o 21 (.conv .u64 (.t 20)),o 22 (.bin .shr (.t 21) (.c (.int .u64 1))),o 23 (.conv .i64 (.t 22)),m 11 23]
def Zm:=[m 24 2,m 25 0,m 26 11,o 27 (.is 17 (.t 25) (.t 26)),ay 28 17 27,ay 29 2 4,o 30 (.eh (.t 24) [.t 28,.t 29]),o 31 (.bin .lss (.t 30) (ai 0))]
def Wz:=some [[],[],[],[1,2],[3],[],[0,4,5],[6]]
def Zn:=[m 32 11,ad 33 32 1,m 9 33]
def Zo:=[m 34 11,m 10 34]
def Zp:=[m 35 9,m 36 9,m 37 8,lt 38 36 37,m 39 38,cX 40 2 39,cX 41 0 39,cX 42 9 39,bR 43 (.is 17 (.t 41) (.t 42)) 39,bR 44 (.ld (some 17) (.t 43)) 39,bR 45 (.ld (some 2) (.t 4)) 39,bR 46 (.eh (.t 40) [.t 44,.t 45]) 39,bR 47 (.bin .eql (.t 46) (ai 0)) 39,and 48 39 47,m 6 35,m 7 48]
def WA:=some [[],[],[],[1,2],[3],[4],[4],[4],[6,7,4],[8,4],[4],[5,9,10,4,4],[11,4],[4,12],[0,11,0],[13,14,0,1,2,3,4,5,6,7,8,9,10,11,12,13,14]]
def Am:aM:=(s (r Zh) (s (r Zi) (s (r Zj) (s (.block 0 (.loop (s (s (r Zk) (.cond (.t 17) .skip (.exit 0))) (.block 1 (s (r Zl) (s (.b6 Wz Zm) (.cond (.t 31) (r Zn) (r Zo)))))))) (s (.b6 WA Zp) .ret)))))
def Lm:List a6:=[.tmp 6,.tmp 7]
theorem S4:bH Tryz.prog Tryz.f142 Am:=e (by kernel_rfl)
theorem U7:bI Tryz.prog Tryz.f142 Lm:=e (by kernel_rfl)
theorem Ri:bF Tryz.prog 142:=e (by kernel_rfl)
def Zq:=[b 2 0,b 3 1,aY 4 0]
def Zr:=[f 5 0 0 2,ay 6 2 5,ay 7 2 3,o 8 (.call 118 [.t 6,.t 7]),m 4 8]
def An:aM:=(s (r Zq) (s (r Zr) .ret))
def Ln:List a6:=[.tmp 4]
theorem S5:bH Tryz.prog Tryz.f143 An:=e (by kernel_rfl)
theorem U8:bI Tryz.prog Tryz.f143 Ln:=e (by kernel_rfl)
theorem Rj:bF Tryz.prog 143:=e (by kernel_rfl)
def Zs:=[b 1 0,o 2 (.mv (.c (.da)))]
def Zt:=[o 3 (.mk 178 [.t 1]),m 2 3]
def Ao:aM:=(s (r Zs) (s (r Zt) .ret))
def Lo:List a6:=[.tmp 2]
theorem S6:bH Tryz.prog Tryz.f145 Ao:=e (by kernel_rfl)
theorem U9:bI Tryz.prog Tryz.f145 Lo:=e (by kernel_rfl)
theorem Rk:bF Tryz.prog 145:=e (by kernel_rfl)
def Ey:=[l 5 1,o 6 (.len (.t 5)),aY 7 0]
def Ez:=[lt 8 7 6]
def EA:=[m 9 7,m 4 9]
def vI:=[l 10 2,m 11 4,o 12 (.is 1 (.t 10) (.t 11)),l 13 12,m 14 13,cX 15 0 14,cX 16 4 14,bR 17 (.eh (.t 15) [.t 16]) 14,bR 18 (.un .not (.t 17)) 14,and 19 14 18]
def vJ:=[ad 20 7 1,m 7 20]
def Ap:aM:=(s (r Ey) (.block 0 (.loop (s (r Ez) (s (.cond (.t 8) .skip (.exit 0)) (s (.block 1 (s (r EA) (s (r vI) (.cond (.t 19) .ret .skip)))) (r vJ)))))))
def Lp:List a6:=[]
theorem S7:bH Tryz.prog Tryz.f146 Ap:=e (by kernel_rfl)
theorem Va:bI Tryz.prog Tryz.f146 Lp:=e (by kernel_rfl)
theorem BJ:bF Tryz.prog 146:=e (by kernel_rfl)
def EB:=[o 2 (.mv bn)]
def EC:=[m 3 0,o 4 (.call 114 [.t 3,(ai 1),(ai 9999)]),m 2 4]
def Aq:aM:=(s (r EB) (s (r EC) .ret))
def Lq:List a6:=[.tmp 2]
theorem S8:bH Tryz.prog Tryz.f154 Aq:=e (by kernel_rfl)
theorem Vb:bI Tryz.prog Tryz.f154 Lq:=e (by kernel_rfl)
theorem Rl:bF Tryz.prog 154:=e (by kernel_rfl)
def ED:=[o 2 (.mv bn)]
def EE:=[m 3 0,o 4 (.call 114 [.t 3,(ai 1),(ai 9)]),m 2 4]
def Ar:aM:=(s (r ED) (s (r EE) .ret))
def Lr:List a6:=[.tmp 2]
theorem S9:bH Tryz.prog Tryz.f155 Ar:=e (by kernel_rfl)
theorem Vc:bI Tryz.prog Tryz.f155 Lr:=e (by kernel_rfl)
theorem Rm:bF Tryz.prog 155:=e (by kernel_rfl)
def EF:=[o 2 (.mv bn)]
def EG:=[m 3 0,o 4 (.call 114 [.t 3,(ai 1),(ai 99)]),m 2 4]
def As:aM:=(s (r EF) (s (r EG) .ret))
def Ls:List a6:=[.tmp 2]
theorem Ta:bH Tryz.prog Tryz.f156 As:=e (by kernel_rfl)
theorem Vd:bI Tryz.prog Tryz.f156 Ls:=e (by kernel_rfl)
theorem Rn:bF Tryz.prog 156:=e (by kernel_rfl)
def EH:=[b 1 0,aY 2 0]
def EI:=[ay 3 6 1,o 4 (.call 193 [.t 3]),no 5 4]
def EJ:=[aY 2 12]
def EK:=[aY 2 0]
def Au:aM:=(s (r EH) (s (s (r EI) (.cond (.t 5) (s (r EJ) .ret) .skip)) (s (r EK) .ret)))
def Lt:List a6:=[.tmp 2]
theorem Tb:bH Tryz.prog Tryz.f157 Au:=e (by kernel_rfl)
theorem Ve:bI Tryz.prog Tryz.f157 Lt:=e (by kernel_rfl)
theorem Ro:bF Tryz.prog 157:=e (by kernel_rfl)
def EL:=[aY 2 0]
def EM:=[aY 3 0]
def EN:=[m 6 0,o 7 (.len (.t 6)),aY 8 0]
def EO:=[lt 9 8 7]
def EP:=[o 10 (.is 1 (.t 6) (.t 8)),l 11 10,m 5 11]
def ER:=[m 12 5,m 13 3,o 14 (.bin .neq (.t 12) (.t 13))]
def ES:=[m 15 5,m 2 15]
def ET:=[ad 16 8 1,m 8 16]
def EU:=[m 17 3,m 2 17]
def Av:aM:=(s (r EL) (s (r EM) (s (s (r EN) (.block 0 (.loop (s (r EO) (s (.cond (.t 9) .skip (.exit 0)) (s (.block 1 (s (r EP) (s (r ER) (.cond (.t 14) (s (r ES) .ret) .skip)))) (r ET))))))) (s (r EU) .ret))))
def Lu:List a6:=[.tmp 2]
theorem Tc:bH Tryz.prog Tryz.f158 Av:=e (by kernel_rfl)
theorem Vf:bI Tryz.prog Tryz.f158 Lu:=e (by kernel_rfl)
theorem Rp:bF Tryz.prog 158:=e (by kernel_rfl)
def EV:=[aY 4 0]
def EW:=[m 7 0,o 8 (.call 194 [.t 7]),m 5 8]
def E4:=[m 9 1,o 10 (.call 194 [.t 9]),m 6 10]
def E5:=[m 11 5]
def ZF:=[m 12 6]
def ZG:=[aY 4 0]
def ZH:=[aY 4 (-1)]
def E6:=[m 13 6]
def ZI:=[aY 4 1]
def E7:=[m 14 0,m 15 1,lt 16 14 15]
def EX:=[aY 4 (-1)]
def EY:=[m 17 0,m 18 1,o 19 (.bin .gtr (.t 17) (.t 18))]
def EZ:=[aY 4 1]
def E0:=[aY 4 0]
def Aw:aM:=(s (r EV) (s (r EW) (s (r E4) (s (s (r E5) (.cond (.t 11) (s (s (r ZF) (.cond (.t 12) (s (r ZG) .ret) .skip)) (s (r ZH) .ret)) .skip)) (s (s (r E6) (.cond (.t 13) (s (r ZI) .ret) .skip)) (s (s (r E7) (.cond (.t 16) (s (r EX) .ret) .skip)) (s (s (r EY) (.cond (.t 19) (s (r EZ) .ret) .skip)) (s (r E0) .ret))))))))
def Lv:List a6:=[.tmp 4]
theorem Td:bH Tryz.prog Tryz.f159 Aw:=e (by kernel_rfl)
theorem Vg:bI Tryz.prog Tryz.f159 Lv:=e (by kernel_rfl)
theorem Rq:bF Tryz.prog 159:=e (by kernel_rfl)
def E8:=[o 2 (.mv bn)]
def E9:=[m 3 0,o 4 (.call 121 [.t 3,(ai 0),(ai 31)]),m 2 4]
def Ay:aM:=(s (r E8) (s (r E9) .ret))
def Lx:List a6:=[.tmp 2]
theorem Tf:bH Tryz.prog Tryz.f160 Ay:=e (by kernel_rfl)
theorem Vi:bI Tryz.prog Tryz.f160 Lx:=e (by kernel_rfl)
theorem Rs:bF Tryz.prog 160:=e (by kernel_rfl)
def Fa:=[o 4 (.mv bn)]
def Fb:=[m 5 0,m 6 1,o 7 (.bin .shr (.t 5) (.t 6)),o 8 (.bin .and (.t 7) (ai 1)),o 9 (.bin .eql (.t 8) (ai 1)),m 4 9]
def Az:aM:=(s (r Fa) (s (r Fb) .ret))
def Ly:List a6:=[.tmp 4]
theorem Tg:bH Tryz.prog Tryz.f161 Az:=e (by kernel_rfl)
theorem Vj:bI Tryz.prog Tryz.f161 Ly:=e (by kernel_rfl)
theorem Rt:bF Tryz.prog 161:=e (by kernel_rfl)
def Fc:=[o 2 (.mv bn)]
def Fe:=[m 3 0,o 4 (.call 121 [.t 3,(ai 0),(ai 4)]),no 5 4,m 2 5]
def AA:aM:=(s (r Fc) (s (r Fe) .ret))
def Lz:List a6:=[.tmp 2]
theorem Th:bH Tryz.prog Tryz.f162 AA:=e (by kernel_rfl)
theorem Vk:bI Tryz.prog Tryz.f162 Lz:=e (by kernel_rfl)
theorem Ru:bF Tryz.prog 162:=e (by kernel_rfl)
def Ff:=[o 4 (.mv bn)]
def Fg:=[m 5 0,m 6 1,o 7 (.call 195 [.t 5,.t 6]),o 8 (.bin .geq (.t 7) (ai 0)),m 4 8]
def AB:aM:=(s (r Ff) (s (r Fg) .ret))
def LA:List a6:=[.tmp 4]
theorem Ti:bH Tryz.prog Tryz.f163 AB:=e (by kernel_rfl)
theorem Vl:bI Tryz.prog Tryz.f163 LA:=e (by kernel_rfl)
theorem Rv:bF Tryz.prog 163:=e (by kernel_rfl)
def Fh:=[b 3 0,o 4 (.mv bn)]
def Fi:=[f 5 0 0 1,ay 6 5 5,f 7 1 1 3,ay 8 6 7,ay 9 6 2,o 10 (.call 165 [.t 6,.t 8,.t 9]),f 11 1 5 1,l 12 11,o 13 (.bin .mul (ai 2) (.t 12)),o 14 (.bin .leq (.t 10) (.t 13)),m 4 14]
def WB:=some [[],[0],[],[2],[],[1,3,4],[],[6],[7],[5,8],[9,5,0,1,2,3,4,5,6,7,8,9]]
def AD:aM:=(s (r Fh) (s (.b6 WB Fi) .ret))
def LB:List a6:=[.tmp 4]
theorem Tj:bH Tryz.prog Tryz.f164 AD:=e (by kernel_rfl)
theorem Vm:bI Tryz.prog Tryz.f164 LB:=e (by kernel_rfl)
theorem Rw:bF Tryz.prog 164:=e (by kernel_rfl)
def Fj:=[b 3 0,b 4 1,b 5 2,aY 6 0]
def Fk:=[o 7 (.alloc (.da)),p (.bB none (.t 7) (.c (.func 196 [])))]
def Fl:=[o 8 (.mk 198 [.t 7,.t 3,.t 4,.t 5]),o 9 (.call 197 [.t 8]),m 6 9]
def AE:aM:=(s (r Fj) (s (r Fk) (s (r Fl) .ret)))
def LC:List a6:=[.tmp 6]
theorem Tk:bH Tryz.prog Tryz.f165 AE:=e (by kernel_rfl)
theorem Vn:bI Tryz.prog Tryz.f165 LC:=e (by kernel_rfl)
theorem Rx:bF Tryz.prog 165:=e (by kernel_rfl)
def Fm:=[aY 4 0]
def Fo:=[m 6 0,o 7 (.len (.t 6)),aY 8 0]
def Fp:=[lt 9 8 7]
def Fq:=[m 10 8,m 5 10]
def Fs:=[m 11 1,m 12 0,m 13 5,o 14 (.is 1 (.t 12) (.t 13)),l 15 14,o 16 (.eh (.t 11) [.t 15])]
def Ft:=[m 17 5,m 4 17]
def Fu:=[ad 18 8 1,m 8 18]
def Fv:=[aY 4 (-1)]
def AF:aM:=(s (r Fm) (s (s (r Fo) (.block 0 (.loop (s (r Fp) (s (.cond (.t 9) .skip (.exit 0)) (s (.block 1 (s (r Fq) (s (r Fs) (.cond (.t 16) (s (r Ft) .ret) .skip)))) (r Fu))))))) (s (r Fv) .ret)))
def LD:List a6:=[.tmp 4]
theorem Tl:bH Tryz.prog Tryz.f166 AF:=e (by kernel_rfl)
theorem Vo:bI Tryz.prog Tryz.f166 LD:=e (by kernel_rfl)
theorem Ry:bF Tryz.prog 166:=e (by kernel_rfl)
def Fw:=[o 2 (.mv (.c (.nils 7)))]
def vK:=[m 3 0,o 4 (.nilS false (.t 3))]
def Fx:=[o 2 (.mv (.c (.nils 7)))]
def vL:=[o 5 (.bs0 7),m 6 0,o 7 (.dH 63 7 56 (.agg [.int .i64 0,.agg [.int .i64 0,.int .i64 0,.int .i64 0,.int .i64 0,.int .i64 0,.int .i64 0]]) (.t 5) (.t 6)),m 2 7]
def AG:aM:=(s (r Fw) (s (s (r vK) (.cond (.t 4) (s (r Fx) .ret) .skip)) (s (r vL) .ret)))
def LF:List a6:=[.tmp 2]
theorem Tm:bH Tryz.prog Tryz.f167 AG:=e (by kernel_rfl)
theorem Vp:bI Tryz.prog Tryz.f167 LF:=e (by kernel_rfl)
theorem Rz:bF Tryz.prog 167:=e (by kernel_rfl)
def Fy:=[b 2 0,b 3 1,o 4 (.mv (.c (.nils 7)))]
def Fz:=[f 5 2 6 2,l 6 5,o 7 (.call 167 [.t 6]),o 8 (.mk 201 [.t 2,.t 3]),o 9 (.call 200 [.t 7,.t 8]),m 4 9]
def AH:aM:=(s (r Fy) (s (r Fz) .ret))
def LG:List a6:=[.tmp 4]
theorem Tn:bH Tryz.prog Tryz.f168 AH:=e (by kernel_rfl)
theorem Vq:bI Tryz.prog Tryz.f168 LG:=e (by kernel_rfl)
theorem RA:bF Tryz.prog 168:=e (by kernel_rfl)
def FA:=[o 2 (.mv (.c (.nils 1)))]
def FB:=[o 3 (.mv (.c (.nils 1)))]
def FC:=[m 6 0,o 7 (.len (.t 6)),aY 8 0]
def FD:=[lt 9 8 7]
def FE:=[o 10 (.is 7 (.t 6) (.t 8)),ay 11 7 10,o 5 (.alloc (.agg [.int .i64 0,.agg [.int .i64 0,.int .i64 0,.int .i64 0,.int .i64 0,.int .i64 0,.int .i64 0]])),p (.bB (some 7) (.t 5) (.t 11))]
def FF:=[m 12 3,f 13 0 0 5,l 14 13,o 15 (.bs 3 1 [.t 14]),o 16 (.dH 3 1 8 (.int .i64 0) (.t 12) (.t 15)),m 3 16]
def FG:=[ad 17 8 1,m 8 17]
def FH:=[m 18 3,m 2 18]
def AI:aM:=(s (r FA) (s (r FB) (s (s (r FC) (.block 0 (.loop (s (r FD) (s (.cond (.t 9) .skip (.exit 0)) (s (.block 1 (s (r FE) (r FF))) (r FG))))))) (s (r FH) .ret))))
def LH:List a6:=[.tmp 2]
theorem Tp:bH Tryz.prog Tryz.f169 AI:=e (by kernel_rfl)
theorem Vr:bI Tryz.prog Tryz.f169 LH:=e (by kernel_rfl)
theorem RB:bF Tryz.prog 169:=e (by kernel_rfl)
def vM:=[aY 6 20]
def vN:=[m 10 6,aY 7 0,m 8 10]
def FI:=[m 11 8,m 12 1,o 13 (.bin .leq (.t 11) (.t 12))]
def ZY:=[m 14 0,m 15 7,m 16 8,m 17 2,o 18 (.call 203 [.t 14,.t 15,.t 16,.t 17])]
def ZZ:=[m 19 8,m 7 19]
def Z0:=[m 20 8,m 21 6,o 22 (.bin .add (.t 20) (.t 21)),m 8 22]
def FJ:=[m 23 0,m 24 7,m 25 1,m 26 2,o 27 (.call 203 [.t 23,.t 24,.t 25,.t 26])]
def vO:=[m 28 6,m 29 1,lt 30 28 29]
def FK:=[m 31 6,o 32 (.bin .mul (ai 2) (.t 31)),aY 7 0,m 8 32]
def FL:=[m 33 8,m 34 1,o 35 (.bin .leq (.t 33) (.t 34))]
def ZR:=[m 36 0,m 37 7,m 38 7,m 39 6,o 40 (.bin .add (.t 38) (.t 39)),m 41 8,m 42 2,o 43 (.call 204 [.t 36,.t 37,.t 40,.t 41,.t 42])]
def ZS:=[m 44 8,m 7 44]
def ZT:=[m 45 8,m 46 6,o 47 (.bin .mul (ai 2) (.t 46)),o 48 (.bin .add (.t 45) (.t 47)),m 8 48]
def ZU:=[m 49 7,m 50 6,o 51 (.bin .add (.t 49) (.t 50)),m 9 51]
def ZV:=[m 52 9,m 53 1,lt 54 52 53]
def ZW:=[m 55 0,m 56 7,m 57 9,m 58 1,m 59 2,o 60 (.call 204 [.t 55,.t 56,.t 57,.t 58,.t 59])]
def ZX:=[m 61 6,o 62 (.bin .mul (.t 61) (ai 2)),m 6 62]
def uz:aM:=(s (r vM) (s (r vN) (s (.block 0 (.loop (s (s (r FI) (.cond (.t 13) .skip (.exit 0))) (.block 1 (s (r ZY) (s (r ZZ) (r Z0))))))) (s (r FJ) (.block 2 (.loop (s (s (r vO) (.cond (.t 30) .skip (.exit 2))) (.block 3 (s (r FK) (s (.block 4 (.loop (s (s (r FL) (.cond (.t 35) .skip (.exit 4))) (.block 5 (s (r ZR) (s (r ZS) (r ZT))))))) (s (s (r ZU) (s (r ZV) (.cond (.t 54) (r ZW) .skip))) (r ZX))))))))))))
def xY:List a6:=[]
theorem BS:bH Tryz.prog Tryz.f171 uz:=e (by kernel_rfl)
theorem B6:bI Tryz.prog Tryz.f171 xY:=e (by kernel_rfl)
theorem BK:bF Tryz.prog 171:=e (by kernel_rfl)
def Z1:=[b 3 1,o 4 (.mv bn)]
def Z2:=[f 6 5 6 3,l 7 6,o 8 (.bin .gtr (.t 7) (ai 0))]
def Z3:=[m 9 0,o 10 (.nilC (.t 9)),f 11 0 0 10,l 12 11,f 13 5 6 3,l 14 13,o 15 (.lk (.i .i64) (.nilp) false (.t 12) (.t 14)),m 5 15]
def WC:=some [[],[0],[1],[2],[],[4],[3,5],[6,0,1,2,3,4,5,6]]
def Z4:=[m 16 5,o 17 (.ptrE false (.t 16) (.c (.nilp))),m 18 17,fK 19 5 18,on 20 (.nilC (.t 19)) 18,fn 21 0 0 20 18,fn 22 1 1 21 18,lB 23 22 18,fn 24 6 7 3 18,lB 25 24 18,on 26 (.bin .neq (.t 23) (.t 25)) 18,or 27 18 26,m 28 27,fK 29 5 28,on 30 (.call 90 [.t 29]) 28,fK 31 30 28,cX 32 5 31,bR 33 (.nilC (.t 32)) 31,dI 34 0 0 33 31,dI 35 6 6 34 31,ej 36 35 31,dI 37 2 3 3 31,ej 38 37 31,bR 39 (.bin .lss (.t 36) (.t 38)) 31,on 40 (.pick (.t 31) (.t 39) bn) 28,or 41 28 40]
def WD:=some [[],[0],[1],[2],[3,2],[4,2],[5,2],[6,2],[2],[8,2],[7,9,2],[2,10],[11,2],[12],[13,12,12],[14,14,12],[15],[16,15],[17,15],[18,15],[19,15],[15],[21,15],[20,22,15],[15,23,12],[12,24]]
def Z5:=[o 4 (.mv bn)]
def Z6:=[m 42 0,ay 43 17 3,o 44 (.call 173 [.t 42,.t 43]),m 4 44]
def AJ:aM:=(s (r Z1) (s (s (r Z2) (.cond (.t 8) (s (.b6 WC Z3) (s (.b6 WD Z4) (.cond (.t 41) (s (r Z5) .ret) .skip))) .skip)) (s (r Z6) .ret)))
def LI:List a6:=[.tmp 4]
theorem Tq:bH Tryz.prog Tryz.f172 AJ:=e (by kernel_rfl)
theorem Vs:bI Tryz.prog Tryz.f172 LI:=e (by kernel_rfl)
theorem RC:bF Tryz.prog 172:=e (by kernel_rfl)
def Z7:=[b 3 1,o 4 (.mv bn)]
def Z8:=[m 5 0,o 6 (.nilC (.t 5)),f 7 0 0 6,l 8 7,f 9 4 5 3,l 10 9,o 11 (.lk (.i .i64) (.nilp) false (.t 8) (.t 10)),o 12 (.ptrE true (.t 11) (.c (.nilp)))]
def WE:=some [[],[0],[1],[2],[],[4],[3,5],[6]]
def Z9:=[o 4 (.mv bn)]
def aaa:=[m 13 0,o 14 (.nilC (.t 13)),f 15 0 0 14,l 16 15,f 17 4 5 3,l 18 17,f 19 4 5 3,l 20 19,f 21 6 7 3,l 22 21,f 23 5 6 3,l 24 23,f 25 7 8 3,l 26 25,f 27 7 8 3,l 28 27,f 29 2 3 3,l 30 29,o 31 (.bld [.int .i64 0,.int .i64 0,.int .i64 0,.int .i64 0,.int .i64 0,.int .i64 0,.int .i64 0,.bool false,.nils 6] [(0,(.t 20)),(1,(.t 22)),(2,(.t 24)),(3,(.t 26)),(4,(.t 28)),(5,(.t 30)),(6,(.c (.int .i64 (-1))))]),o 32 (.bld [.agg [.int .i64 0,.int .i64 0,.int .i64 0,.int .i64 0,.int .i64 0,.int .i64 0,.int .i64 0,.bool false,.nils 6]] [(0,(.t 31))]),b 33 32,p (.gn (.i .i64) (.t 16) (.t 18) (.t 33))]
def WG:=some [[],[0],[1],[2],[],[4],[],[6],[],[8],[],[10],[],[12],[],[14],[],[16],[7,9,11,13,15,17],[18],[19],[3,5,20,0,1,2,3,4,5,6,7,8,9,10,11,12,13,14,15,16,17,18,19,20]]
def aab:=[o 4 (.mv T)]
def AK:aM:=(s (r Z7) (s (s (.b6 WE Z8) (.cond (.t 12) (s (r Z9) .ret) .skip)) (s (.b6 WG aaa) (s (r aab) .ret))))
def LJ:List a6:=[.tmp 4]
theorem Tr:bH Tryz.prog Tryz.f173 AK:=e (by kernel_rfl)
theorem Vt:bI Tryz.prog Tryz.f173 LJ:=e (by kernel_rfl)
theorem RD:bF Tryz.prog 173:=e (by kernel_rfl)
def aac:=[b 3 1,o 4 (.mv bn)]
def aad:=[m 6 0,o 7 (.nilC (.t 6)),f 8 0 0 7,l 9 8,f 10 4 5 3,l 11 10,o 12 (.lk (.i .i64) (.nilp) false (.t 9) (.t 11)),m 5 12]
def WH:=some [[],[0],[1],[2],[],[4],[3,5],[6,0,1,2,3,4,5,6]]
def aae:=[m 13 5,o 14 (.ptrE false (.t 13) (.c (.nilp))),m 15 14,fK 16 5 15,on 17 (.call 90 [.t 16]) 15,or 18 15 17,m 19 18,fK 20 5 19,on 21 (.nilC (.t 20)) 19,fn 22 0 0 21 19,fn 23 3 3 22 19,lB 24 23 19,on 25 (.bin .eql (.t 24) (ai 0)) 19,or 26 19 25,m 27 26,fK 28 5 27,on 29 (.nilC (.t 28)) 27,fn 30 0 0 29 27,fn 31 3 3 30 27,lB 32 31 27,fn 33 7 8 3 27,lB 34 33 27,on 35 (.bin .eql (.t 32) (.t 34)) 27,or 36 27 35]
def WI:=some [[],[0],[1],[2],[3,2,2],[2,4],[5,4],[6],[7,6],[8,6],[9,6],[10,6],[11,6],[6,12],[13,6],[14],[15,14],[16,14],[17,14],[18,14],[14],[20,14],[19,21,14],[14,22]]
def aaf:=[o 4 (.mv bn)]
def aag:=[m 37 5,f 38 7 8 3,l 39 38,o 40 (.nilC (.t 37)),f 41 0 0 40,f 42 3 3 41,p (.bB none (.t 42) (.t 39))]
def aah:=[o 4 (.mv T)]
def AL:aM:=(s (r aac) (s (.b6 WH aad) (s (s (.b6 WI aae) (.cond (.t 36) (s (r aaf) .ret) .skip)) (s (r aag) (s (r aah) .ret)))))
def LK:List a6:=[.tmp 4]
theorem Ts:bH Tryz.prog Tryz.f174 AL:=e (by kernel_rfl)
theorem Vu:bI Tryz.prog Tryz.f174 LK:=e (by kernel_rfl)
theorem RE:bF Tryz.prog 174:=e (by kernel_rfl)
def aai:=[b 3 1,o 4 (.mv bn)]
def aaj:=[m 6 0,o 7 (.nilC (.t 6)),f 8 0 0 7,l 9 8,f 10 4 5 3,l 11 10,o 12 (.lk (.i .i64) (.nilp) false (.t 9) (.t 11)),m 5 12]
def WJ:=some [[],[0],[1],[2],[],[4],[3,5],[6,0,1,2,3,4,5,6]]
def aak:=[m 13 5,o 14 (.ptrE false (.t 13) (.c (.nilp)))]
def aal:=[o 4 (.mv bn)]
def vP:=[m 15 5,m 16 5,o 17 (.nilC (.t 16)),f 18 0 0 17,f 19 8 8 18,l 20 19,f 21 8 9 3,ay 22 6 21,o 23 (.bs 66 6 [.t 22]),o 24 (.dH 66 6 48 (.agg [.int .i64 0,.int .i64 0,.int .i64 0,.int .i64 0,.int .i64 0,.int .i64 0]) (.t 20) (.t 23)),o 25 (.nilC (.t 15)),f 26 0 0 25,f 27 8 8 26,p (.bB none (.t 27) (.t 24))]
def WK:=some [[],[],[1],[2],[3],[4],[],[6],[7],[5,8],[0,0,1,2,3,4,5,6,7,8,9],[10,0,1,2,3,4,5,6,7,8,9],[11,0,1,2,3,4,5,6,7,8,9],[12,9,9,0,1,2,3,4,5,6,7,8,9]] -- DRAW BAD
def aam:=[o 4 (.mv T)]
def AM:aM:=(s (r aai) (s (.b6 WJ aaj) (s (s (r aak) (.cond (.t 14) (s (r aal) .ret) .skip)) (s (.b6 WK vP) (s (r aam) .ret)))))
def LL:List a6:=[.tmp 4]
theorem Tt:bH Tryz.prog Tryz.f175 AM:=e (by kernel_rfl)
theorem Vv:bI Tryz.prog Tryz.f175 LL:=e (by kernel_rfl)
theorem RF:bF Tryz.prog 175:=e (by kernel_rfl)
def aan:=[b 3 1,o 4 (.mv bn)]
def aao:=[m 6 0,o 7 (.nilC (.t 6)),f 8 0 0 7,l 9 8,f 10 4 5 3,l 11 10,o 12 (.lk (.i .i64) (.nilp) false (.t 9) (.t 11)),m 5 12]
def WL:=some [[],[0],[1],[2],[],[4],[3,5],[6,0,1,2,3,4,5,6]]
def aap:=[m 13 5,o 14 (.ptrE false (.t 13) (.c (.nilp)))]
def aaq:=[o 4 (.mv bn)]
def aar:=[m 15 5,m 16 5,f 17 7 8 3,l 18 17,o 19 (.nilC (.t 15)),f 20 0 0 19,f 21 3 3 20,p (.bB none (.t 21) (.t 18)),o 22 (.nilC (.t 16)),f 23 0 0 22,f 24 7 7 23,p (.bB none (.t 24) T)]
def aas:=[o 4 (.mv T)]
def AN:aM:=(s (r aan) (s (.b6 WL aao) (s (s (r aap) (.cond (.t 14) (s (r aaq) .ret) .skip)) (s (r aar) (s (r aas) .ret)))))
def LM:List a6:=[.tmp 4]
theorem Tu:bH Tryz.prog Tryz.f176 AN:=e (by kernel_rfl)
theorem Vw:bI Tryz.prog Tryz.f176 LM:=e (by kernel_rfl)
theorem RG:bF Tryz.prog 176:=e (by kernel_rfl)
def aat:=[b 3 1,o 4 (.mv bn)]
def aau:=[m 6 0,o 7 (.nilC (.t 6)),f 8 0 0 7,l 9 8,f 10 4 5 3,l 11 10,o 12 (.lk (.i .i64) (.nilp) false (.t 9) (.t 11)),m 5 12]
def WM:=some [[],[0],[1],[2],[],[4],[3,5],[6,0,1,2,3,4,5,6]]
def aav:=[m 13 5,o 14 (.ptrE false (.t 13) (.c (.nilp))),m 15 14,fK 16 5 15,on 17 (.call 90 [.t 16]) 15,or 18 15 17]
def aaw:=[o 4 (.mv bn)]
def aax:=[m 19 5,f 20 2 3 3,l 21 20,o 22 (.nilC (.t 19)),f 23 0 0 22,f 24 6 6 23,p (.bB none (.t 24) (.t 21))]
def aay:=[o 4 (.mv T)]
def AO:aM:=(s (r aat) (s (.b6 WM aau) (s (s (r aav) (.cond (.t 18) (s (r aaw) .ret) .skip)) (s (r aax) (s (r aay) .ret)))))
def LN:List a6:=[.tmp 4]
theorem Tv:bH Tryz.prog Tryz.f177 AO:=e (by kernel_rfl)
theorem Vx:bI Tryz.prog Tryz.f177 LN:=e (by kernel_rfl)
theorem RH:bF Tryz.prog 177:=e (by kernel_rfl)
def FM:=[l 4 1,o 5 (.len (.t 4)),o 6 (.bin .sub (.t 5) (ai 1)),m 3 6]
def FN:=[m 7 3,o 8 (.bin .geq (.t 7) (ai 0))]
def FO:=[m 11 0,m 12 3,l 13 1,m 14 3,o 15 (.is 17 (.t 13) (.t 14)),ay 16 17 15,o 17 (.eh (.t 11) [.t 12,.t 16]),no 18 17]
def FP:=[m 9 3,o 10 (.bin .sub (.t 9) (ai 1)),m 3 10]
def AP:aM:=(s (r FM) (.block 0 (.loop (s (s (r FN) (.cond (.t 8) .skip (.exit 0))) (s (.block 1 (s (r FO) (.cond (.t 18) .ret .skip))) (r FP))))))
def LO:List a6:=[]
theorem Tw:bH Tryz.prog Tryz.f178 AP:=e (by kernel_rfl)
theorem Vy:bI Tryz.prog Tryz.f178 LO:=e (by kernel_rfl)
theorem BL:bF Tryz.prog 178:=e (by kernel_rfl)
def FQ:=[b 1 0,o 2 (.mv bn)]
def FR:=[o 3 (.va 6 1 (.t 1)),o 4 (.call 125 [.t 3,(.c (.func 211 []))]),no 5 4,m 2 5]
def AR:aM:=(s (r FQ) (s (r FR) .ret))
def LQ:List a6:=[.tmp 2]
theorem Ty:bH Tryz.prog Tryz.f193 AR:=e (by kernel_rfl)
theorem VA:bI Tryz.prog Tryz.f193 LQ:=e (by kernel_rfl)
theorem RJ:bF Tryz.prog 193:=e (by kernel_rfl)
def FT:=[o 2 (.mv bn)]
def FU:=[m 3 0,m 4 0,o 5 (.bin .neq (.t 3) (.t 4)),m 2 5]
def AS:aM:=(s (r FT) (s (r FU) .ret))
def LR:List a6:=[.tmp 2]
theorem Tz:bH Tryz.prog Tryz.f194 AS:=e (by kernel_rfl)
theorem VB:bI Tryz.prog Tryz.f194 LR:=e (by kernel_rfl)
theorem RK:bF Tryz.prog 194:=e (by kernel_rfl)
def FV:=[aY 4 0]
def FW:=[m 6 0,o 7 (.len (.t 6)),aY 8 0]
def FX:=[lt 9 8 7]
def FY:=[m 10 8,m 5 10]
def FZ:=[m 11 1,m 12 0,m 13 5,o 14 (.is 7 (.t 12) (.t 13)),ay 15 7 14,o 16 (.eh (.t 11) [.t 15])]
def F0:=[m 17 5,m 4 17]
def F1:=[ad 18 8 1,m 8 18]
def F2:=[aY 4 (-1)]
def AT:aM:=(s (r FV) (s (s (r FW) (.block 0 (.loop (s (r FX) (s (.cond (.t 9) .skip (.exit 0)) (s (.block 1 (s (r FY) (s (r FZ) (.cond (.t 16) (s (r F0) .ret) .skip)))) (r F1))))))) (s (r F2) .ret)))
def LS:List a6:=[.tmp 4]
theorem TA:bH Tryz.prog Tryz.f195 AT:=e (by kernel_rfl)
theorem VC:bI Tryz.prog Tryz.f195 LS:=e (by kernel_rfl)
theorem RL:bF Tryz.prog 195:=e (by kernel_rfl)
def F3:=[o 4 (.mv bn)]
def F4:=[m 5 0,m 6 1,o 7 (.bin .and (.t 5) (.t 6)),o 8 (.bin .neq (.t 7) (ai 0)),m 4 8]
def AU:aM:=(s (r F3) (s (r F4) .ret))
def LU:List a6:=[.tmp 4]
theorem TB:bH Tryz.prog Tryz.f196 AU:=e (by kernel_rfl)
theorem VD:bI Tryz.prog Tryz.f196 LU:=e (by kernel_rfl)
theorem RM:bF Tryz.prog 196:=e (by kernel_rfl)
def F5:=[aY 2 0]
def F6:=[aY 3 0]
def F7:=[aY 5 0]
def F8:=[o 6 (.bin .lss (.t 5) (ai 6))]
def F9:=[m 7 5,m 4 7]
def Ga:=[m 8 0,m 9 4,o 10 (.eh (.t 8) [.t 9]),no 11 10]
def Gb:=[m 12 3,ad 13 12 1,m 3 13]
def vQ:=[ad 14 5 1,m 5 14]
def Gc:=[m 15 3,m 2 15]
def AV:aM:=(s (r F5) (s (r F6) (s (s (r F7) (.block 0 (.loop (s (r F8) (s (.cond (.t 6) .skip (.exit 0)) (s (.block 1 (s (r F9) (s (r Ga) (.cond (.t 11) (r Gb) .skip)))) (r vQ))))))) (s (r Gc) .ret))))
def LV:List a6:=[.tmp 2]
theorem TC:bH Tryz.prog Tryz.f197 AV:=e (by kernel_rfl)
theorem VE:bI Tryz.prog Tryz.f197 LV:=e (by kernel_rfl)
theorem RN:bF Tryz.prog 197:=e (by kernel_rfl)
def Gd:=[o 6 (.mv bn)]
def Ge:=[l 7 1,ay 8 5 2,ay 9 6 3,m 10 0,o 11 (.call 199 [.t 8,.t 9,.t 10]),ay 12 5 2,ay 13 6 4,m 14 0,o 15 (.call 199 [.t 12,.t 13,.t 14]),o 16 (.eh (.t 7) [.t 11,.t 15]),m 6 16]
def WO:=some [[],[],[],[],[1,2,3],[],[],[],[5,6,7,4],[0,4,8,8],[9,9,0,1,2,3,4,5,6,7,8,9]]
def AW:aM:=(s (r Gd) (s (.b6 WO Ge) .ret))
def LW:List a6:=[.tmp 6]
theorem TD:bH Tryz.prog Tryz.f198 AW:=e (by kernel_rfl)
theorem VF:bI Tryz.prog Tryz.f198 LW:=e (by kernel_rfl)
theorem RO:bF Tryz.prog 198:=e (by kernel_rfl)
def Gf:=[b 3 0,b 4 1,aY 6 0]
def Gg:=[m 7 2,o 8 (.ia 6 1 (.t 4) (.t 7)),l 9 8,o 10 (.ia 5 1 (.t 3) (.t 9)),l 11 10,m 6 11]
def AX:aM:=(s (r Gf) (s (r Gg) .ret))
def LX:List a6:=[.tmp 6]
theorem TE:bH Tryz.prog Tryz.f199 AX:=e (by kernel_rfl)
theorem VG:bI Tryz.prog Tryz.f199 LX:=e (by kernel_rfl)
theorem RP:bF Tryz.prog 199:=e (by kernel_rfl)
def vR:=[o 4 (.mv (.c (.nils 7)))]
def vS:=[m 8 0,m 9 1,o 10 (.call 195 [.t 8,.t 9]),m 5 10]
def sg:=[m 11 5,o 12 (.bin .eql (.t 11) (.c (.int .i64 (-1))))]
def vU:=[m 13 0,m 4 13]
def Gj:=[m 14 5,ad 15 14 1,m 6 15]
def Gk:=[m 16 6,m 17 0,o 18 (.len (.t 17)),lt 19 16 18]
def Gl:=[m 22 0,m 23 6,o 24 (.is 7 (.t 22) (.t 23)),ay 25 7 24,o 7 (.alloc (.agg [.int .i64 0,.agg [.int .i64 0,.int .i64 0,.int .i64 0,.int .i64 0,.int .i64 0,.int .i64 0]])),p (.bB (some 7) (.t 7) (.t 25))]
def Gm:=[m 26 1,ay 27 7 7,o 28 (.eh (.t 26) [.t 27]),no 29 28]
def Gn:=[m 30 0,m 31 5,ay 32 7 7,o 33 (.is 7 (.t 30) (.t 31)),p (.bB (some 7) (.t 33) (.t 32))]
def Gp:=[m 34 5,ad 35 34 1,m 5 35]
def vT:=[m 20 6,ad 21 20 1,m 6 21]
def Gh:=[m 36 0,m 37 5,o 38 (.sl 7 (.t 36) (some (.t 37)) none none),p (.je 7 (.agg [.int .i64 0,.agg [.int .i64 0,.int .i64 0,.int .i64 0,.int .i64 0,.int .i64 0,.int .i64 0]]) (.t 38))]
def Gi:=[m 39 0,m 40 5,o 41 (.sl 7 (.t 39) none (some (.t 40)) none),m 4 41]
def uA:aM:=(s (r vR) (s (r vS) (s (s (r sg) (.cond (.t 12) (s (r vU) .ret) .skip)) (s (s (r Gj) (.block 0 (.loop (s (s (r Gk) (.cond (.t 19) .skip (.exit 0))) (s (.block 1 (s (r Gl) (s (r Gm) (.cond (.t 29) (s (r Gn) (r Gp)) .skip)))) (r vT)))))) (s (r Gh) (s (r Gi) .ret))))))
def xZ:List a6:=[.tmp 4]
theorem BT:bH Tryz.prog Tryz.f200 uA:=e (by kernel_rfl)
theorem B7:bI Tryz.prog Tryz.f200 xZ:=e (by kernel_rfl)
theorem BM:bF Tryz.prog 200:=e (by kernel_rfl)
def Gq:=[b 3 0,o 4 (.mv bn)]
def Gr:=[f 5 0 0 1,ay 6 5 5,f 7 1 1 3,ay 8 6 7,ay 9 6 2,o 10 (.call 202 [.t 6,.t 8,.t 9]),f 11 1 5 1,l 12 11,o 13 (.bin .gtr (.t 10) (.t 12)),m 4 13]
def WQ:=some [[],[0],[],[2],[],[1,3,4],[],[6],[5,7],[8,5,0,1,2,3,4,5,6,7,8]]
def AZ:aM:=(s (r Gq) (s (.b6 WQ Gr) .ret))
def LZ:List a6:=[.tmp 4]
theorem TG:bH Tryz.prog Tryz.f201 AZ:=e (by kernel_rfl)
theorem VI:bI Tryz.prog Tryz.f201 LZ:=e (by kernel_rfl)
theorem RR:bF Tryz.prog 201:=e (by kernel_rfl)
def Gs:=[b 3 0,b 4 1,b 5 2,aY 6 0]
def Gt:=[o 7 (.alloc (.da)),p (.bB none (.t 7) (.c (.func 196 [])))]
def Gu:=[o 8 (.mk 212 [.t 7,.t 3,.t 4,.t 5]),o 9 (.call 197 [.t 8]),m 6 9]
def A1:aM:=(s (r Gs) (s (r Gt) (s (r Gu) .ret)))
def L0:List a6:=[.tmp 6]
theorem TH:bH Tryz.prog Tryz.f202 A1:=e (by kernel_rfl)
theorem VJ:bI Tryz.prog Tryz.f202 L0:=e (by kernel_rfl)
theorem RS:bF Tryz.prog 202:=e (by kernel_rfl)
def vV:=[m 10 1,ad 11 10 1,m 8 11]
def Gv:=[m 12 8,m 13 2,lt 14 12 13]
def Gw:=[m 17 8,m 9 17]
def aaM:=[m 18 9,m 19 1,o 20 (.bin .gtr (.t 18) (.t 19)),m 21 20,cX 22 3 21,cX 23 0 21,cX 24 9 21,bR 25 (.is 1 (.t 23) (.t 24)) 21,ej 26 25 21,cX 27 0 21,cX 28 9 21,bR 29 (.bin .sub (.t 28) (ai 1)) 21,bR 30 (.is 1 (.t 27) (.t 29)) 21,ej 31 30 21,bR 32 (.eh (.t 22) [.t 26,.t 31]) 21,bR 33 (.bin .lss (.t 32) (ai 0)) 21,and 34 21 33]
def WR:=some [[],[],[0,1],[2],[3],[3],[3],[5,6,3],[7,3],[3],[3],[10,3],[9,11,3],[12,3],[4,8,13,3,3],[14,3],[3,15]]
def aaN:=[m 37 0,m 38 9,m 39 0,m 40 9,o 41 (.bin .sub (.t 40) (ai 1)),m 42 0,m 43 9,o 44 (.bin .sub (.t 43) (ai 1)),o 45 (.is 1 (.t 42) (.t 44)),l 46 45,m 47 0,m 48 9,o 49 (.is 1 (.t 47) (.t 48)),l 50 49,o 51 (.is 1 (.t 37) (.t 38)),p (.bB none (.t 51) (.t 46)),o 52 (.is 1 (.t 39) (.t 41)),p (.bB none (.t 52) (.t 50))]
def WS:=some [[],[],[],[],[3],[],[],[6],[5,7],[8],[],[],[10,11],[12],[0,1,0,1,5,6,7,8,9,13],[14,9,0,1,5,6,7,8,9,13],[2,4,0,1,2,3,4,5,6,7,8,9,10,11,12,13,14,15],[16,13,15,0,1,2,3,4,5,6,7,8,9,10,11,12,13,14,15]]
def aaO:=[m 35 9,o 36 (.bin .sub (.t 35) (ai 1)),m 9 36]
def aaP:=[m 15 8,ad 16 15 1,m 8 16]
def uB:aM:=(s (r vV) (.block 0 (.loop (s (s (r Gv) (.cond (.t 14) .skip (.exit 0))) (s (.block 1 (s (r Gw) (.block 2 (.loop (s (s (.b6 WR aaM) (.cond (.t 34) .skip (.exit 2))) (s (.block 3 (.b6 WS aaN)) (r aaO))))))) (r aaP))))))
def x0:List a6:=[]
theorem BU:bH Tryz.prog Tryz.f203 uB:=e (by kernel_rfl)
theorem B8:bI Tryz.prog Tryz.f203 x0:=e (by kernel_rfl)
theorem BN:bF Tryz.prog 203:=e (by kernel_rfl)
def sh:=[m 25 2,m 26 1,o 27 (.bin .sub (.t 25) (.t 26)),o 28 (.bin .eql (.t 27) (ai 1))]
def Gx:=[m 29 2,m 10 29]
def GB:=[m 30 3,m 11 30]
def GH:=[m 31 10,m 32 11,lt 33 31 32]
def aa9:=[m 34 10,m 35 11,o 36 (.bin .add (.t 34) (.t 35)),o 37 (.conv .u64 (.t 36)),o 38 (.bin .shr (.t 37) (.c (.int .u64 1))),o 39 (.conv .i64 (.t 38)),m 12 39]
def abf:=[m 40 4,m 41 0,m 42 12,o 43 (.is 1 (.t 41) (.t 42)),l 44 43,m 45 0,m 46 1,o 47 (.is 1 (.t 45) (.t 46)),l 48 47,o 49 (.eh (.t 40) [.t 44,.t 48]),o 50 (.bin .lss (.t 49) (ai 0))]
def WX:=some [[],[],[],[1,2],[3],[],[],[5,6],[7],[0,4,8],[9]]
def abg:=[m 51 12,ad 52 51 1,m 10 52]
def abh:=[m 53 12,m 11 53]
def GL:=[m 54 1,m 13 54]
def abi:=[m 55 13,m 56 10,o 57 (.bin .sub (.t 56) (ai 1)),lt 58 55 57]
def aaQ:=[m 61 0,m 62 13,m 63 0,m 64 13,ad 65 64 1,m 66 0,m 67 13,ad 68 67 1,o 69 (.is 1 (.t 66) (.t 68)),l 70 69,m 71 0,m 72 13,o 73 (.is 1 (.t 71) (.t 72)),l 74 73,o 75 (.is 1 (.t 61) (.t 62)),p (.bB none (.t 75) (.t 70)),o 76 (.is 1 (.t 63) (.t 65)),p (.bB none (.t 76) (.t 74))]
def WT:=some [[],[],[],[],[3],[],[],[6],[5,7],[8],[],[],[10,11],[12],[0,1,0,1,5,6,7,8,9,13],[14,9,0,1,5,6,7,8,9,13],[2,4,0,1,2,3,4,5,6,7,8,9,10,11,12,13,14,15],[16,13,15,0,1,2,3,4,5,6,7,8,9,10,11,12,13,14,15]]
def aaR:=[m 59 13,ad 60 59 1,m 13 60]
def vW:=[m 77 3,m 78 2,o 79 (.bin .sub (.t 77) (.t 78)),o 80 (.bin .eql (.t 79) (ai 1))]
def Gy:=[m 81 1,m 14 81]
def Gz:=[m 82 2,m 15 82]
def GA:=[m 83 14,m 84 15,lt 85 83 84]
def aaS:=[m 86 14,m 87 15,o 88 (.bin .add (.t 86) (.t 87)),o 89 (.conv .u64 (.t 88)),o 90 (.bin .shr (.t 89) (.c (.int .u64 1))),o 91 (.conv .i64 (.t 90)),m 16 91]
def aaT:=[m 92 4,m 93 0,m 94 2,o 95 (.is 1 (.t 93) (.t 94)),l 96 95,m 97 0,m 98 16,o 99 (.is 1 (.t 97) (.t 98)),l 100 99,o 101 (.eh (.t 92) [.t 96,.t 100]),o 102 (.bin .lss (.t 101) (ai 0)),no 103 102]
def WU:=some [[],[],[],[1,2],[3],[],[],[5,6],[7],[0,4,8],[9],[10]]
def aaU:=[m 104 16,ad 105 104 1,m 14 105]
def aaV:=[m 106 16,m 15 106]
def GC:=[m 107 2,m 17 107]
def aaW:=[m 108 17,m 109 14,o 110 (.bin .gtr (.t 108) (.t 109))]
def aaX:=[m 113 0,m 114 17,m 115 0,m 116 17,o 117 (.bin .sub (.t 116) (ai 1)),m 118 0,m 119 17,o 120 (.bin .sub (.t 119) (ai 1)),o 121 (.is 1 (.t 118) (.t 120)),l 122 121,m 123 0,m 124 17,o 125 (.is 1 (.t 123) (.t 124)),l 126 125,o 127 (.is 1 (.t 113) (.t 114)),p (.bB none (.t 127) (.t 122)),o 128 (.is 1 (.t 115) (.t 117)),p (.bB none (.t 128) (.t 126))]
def WV:=some [[],[],[],[],[3],[],[],[6],[5,7],[8],[],[],[10,11],[12],[0,1,0,1,5,6,7,8,9,13],[14,9,0,1,5,6,7,8,9,13],[2,4,0,1,2,3,4,5,6,7,8,9,10,11,12,13,14,15],[16,13,15,0,1,2,3,4,5,6,7,8,9,10,11,12,13,14,15]]
def aaY:=[m 111 17,o 112 (.bin .sub (.t 111) (ai 1)),m 17 112]
def GD:=[m 129 1,m 130 3,o 131 (.bin .add (.t 129) (.t 130)),o 132 (.conv .u64 (.t 131)),o 133 (.bin .shr (.t 132) (.c (.int .u64 1))),o 134 (.conv .i64 (.t 133)),m 18 134]
def GF:=[m 135 18,m 136 2,o 137 (.bin .add (.t 135) (.t 136)),m 19 137]
def GG:=[aY 20 0,aY 21 0]
def aaZ:=[m 138 2,m 139 18,o 140 (.bin .gtr (.t 138) (.t 139))]
def aa0:=[m 141 19,m 142 3,o 143 (.bin .sub (.t 141) (.t 142)),m 20 143]
def aa1:=[m 144 18,m 21 144]
def aa2:=[m 145 1,m 20 145]
def aa3:=[m 146 2,m 21 146]
def GI:=[m 147 19,o 148 (.bin .sub (.t 147) (ai 1)),m 22 148]
def GJ:=[m 149 20,m 150 21,lt 151 149 150]
def aa4:=[m 152 20,m 153 21,o 154 (.bin .add (.t 152) (.t 153)),o 155 (.conv .u64 (.t 154)),o 156 (.bin .shr (.t 155) (.c (.int .u64 1))),o 157 (.conv .i64 (.t 156)),m 23 157]
def aa5:=[m 158 4,m 159 0,m 160 22,m 161 23,o 162 (.bin .sub (.t 160) (.t 161)),o 163 (.is 1 (.t 159) (.t 162)),l 164 163,m 165 0,m 166 23,o 167 (.is 1 (.t 165) (.t 166)),l 168 167,o 169 (.eh (.t 158) [.t 164,.t 168]),o 170 (.bin .lss (.t 169) (ai 0)),no 171 170]
def WW:=some [[],[],[],[],[2,3],[1,4],[5],[],[],[7,8],[9],[0,6,10],[11],[12]]
def aa6:=[m 172 23,ad 173 172 1,m 20 173]
def aa7:=[m 174 23,m 21 174]
def GK:=[m 175 19,m 176 20,o 177 (.bin .sub (.t 175) (.t 176)),m 24 177]
def aa8:=[m 178 20,m 179 2,lt 180 178 179,m 181 180,cX 182 2 181,cX 183 24 181,bR 184 (.bin .lss (.t 182) (.t 183)) 181,and 185 181 184]
def aba:=[m 186 0,m 187 20,m 188 2,m 189 24,m 190 4,o 191 (.call 213 [.t 186,.t 187,.t 188,.t 189,.t 190])]
def abb:=[m 192 1,m 193 20,lt 194 192 193,m 195 194,cX 196 20 195,cX 197 18 195,bR 198 (.bin .lss (.t 196) (.t 197)) 195,and 199 195 198]
def abc:=[m 200 0,m 201 1,m 202 20,m 203 18,m 204 4,o 205 (.call 204 [.t 200,.t 201,.t 202,.t 203,.t 204])]
def abd:=[m 206 18,m 207 24,lt 208 206 207,m 209 208,cX 210 24 209,cX 211 3 209,bR 212 (.bin .lss (.t 210) (.t 211)) 209,and 213 209 212]
def abe:=[m 214 0,m 215 18,m 216 24,m 217 3,m 218 4,o 219 (.call 204 [.t 214,.t 215,.t 216,.t 217,.t 218])]
def rO:aM:=(s (s (r sh) (.cond (.t 28) (s (r Gx) (s (r GB) (s (.block 0 (.loop (s (s (r GH) (.cond (.t 33) .skip (.exit 0))) (.block 1 (s (r aa9) (s (.b6 WX abf) (.cond (.t 50) (r abg) (r abh)))))))) (s (s (r GL) (.block 2 (.loop (s (s (r abi) (.cond (.t 58) .skip (.exit 2))) (s (.block 3 (.b6 WT aaQ)) (r aaR)))))) .ret)))) .skip)) (s (s (r vW) (.cond (.t 80) (s (r Gy) (s (r Gz) (s (.block 4 (.loop (s (s (r GA) (.cond (.t 85) .skip (.exit 4))) (.block 5 (s (r aaS) (s (.b6 WU aaT) (.cond (.t 103) (r aaU) (r aaV)))))))) (s (s (r GC) (.block 6 (.loop (s (s (r aaW) (.cond (.t 110) .skip (.exit 6))) (s (.block 7 (.b6 WV aaX)) (r aaY)))))) .ret)))) .skip)) (s (r GD) (s (r GF) (s (r GG) (s (s (r aaZ) (.cond (.t 140) (s (r aa0) (r aa1)) (s (r aa2) (r aa3)))) (s (r GI) (s (.block 8 (.loop (s (s (r GJ) (.cond (.t 151) .skip (.exit 8))) (.block 9 (s (r aa4) (s (.b6 WW aa5) (.cond (.t 171) (r aa6) (r aa7)))))))) (s (r GK) (s (s (r aa8) (.cond (.t 185) (r aba) .skip)) (s (s (r abb) (.cond (.t 199) (r abc) .skip)) (s (r abd) (.cond (.t 213) (r abe) .skip)))))))))))))
def tm:List a6:=[]
theorem uF:bH Tryz.prog Tryz.f204 rO:=e (by kernel_rfl)
theorem uR:bI Tryz.prog Tryz.f204 tm:=e (by kernel_rfl)
theorem uD:bF Tryz.prog 204:=e (by kernel_rfl)
def GW:=[o 2 (.mv bn)]
def GX:=[m 3 0,o 4 (.bin .eql (.t 3) (ai 0)),m 5 4,fK 6 0 5,on 7 (.call 160 [.t 6]) 5,on 8 (.un .not (.t 7)) 5,or 9 5 8,m 2 9]
def A4:aM:=(s (r GW) (s (r GX) .ret))
def L2:List a6:=[.tmp 2]
theorem TJ:bH Tryz.prog Tryz.f211 A4:=e (by kernel_rfl)
theorem VL:bI Tryz.prog Tryz.f211 L2:=e (by kernel_rfl)
theorem RU:bF Tryz.prog 211:=e (by kernel_rfl)
def GY:=[o 6 (.mv bn)]
def GZ:=[l 7 1,ay 8 5 2,ay 9 6 3,m 10 0,o 11 (.call 199 [.t 8,.t 9,.t 10]),m 12 0,o 13 (.ia 6 1 (.t 4) (.t 12)),l 14 13,o 15 (.eh (.t 7) [.t 11,.t 14]),m 6 15]
def WZ:=some [[],[],[],[],[1,2,3],[],[5],[6],[0,4,7,4],[8,8,0,1,2,3,4,5,6,7,8]]
def A5:aM:=(s (r GY) (s (.b6 WZ GZ) .ret))
def L3:List a6:=[.tmp 6]
theorem TK:bH Tryz.prog Tryz.f212 A5:=e (by kernel_rfl)
theorem VM:bI Tryz.prog Tryz.f212 L3:=e (by kernel_rfl)
theorem RV:bF Tryz.prog 212:=e (by kernel_rfl)
def G0:=[m 12 2,m 13 1,o 14 (.bin .sub (.t 12) (.t 13)),m 10 14]
def G1:=[m 15 3,m 16 2,o 17 (.bin .sub (.t 15) (.t 16)),m 11 17]
def G2:=[m 18 10,m 19 11,o 20 (.bin .neq (.t 18) (.t 19))]
def G3:=[m 21 10,m 22 11,o 23 (.bin .gtr (.t 21) (.t 22))]
def G4:=[m 24 0,m 25 2,m 26 10,o 27 (.bin .sub (.t 25) (.t 26)),m 28 2,m 29 11,m 30 4,o 31 (.call 216 [.t 24,.t 27,.t 28,.t 29,.t 30])]
def G5:=[m 32 10,m 33 11,o 34 (.bin .sub (.t 32) (.t 33)),m 10 34]
def G6:=[m 35 0,m 36 2,m 37 10,o 38 (.bin .sub (.t 36) (.t 37)),m 39 2,m 40 11,o 41 (.bin .add (.t 39) (.t 40)),m 42 10,o 43 (.bin .sub (.t 41) (.t 42)),m 44 10,m 45 4,o 46 (.call 216 [.t 35,.t 38,.t 43,.t 44,.t 45])]
def G7:=[m 47 11,m 48 10,o 49 (.bin .sub (.t 47) (.t 48)),m 11 49]
def G8:=[m 50 0,m 51 2,m 52 10,o 53 (.bin .sub (.t 51) (.t 52)),m 54 2,m 55 10,m 56 4,o 57 (.call 216 [.t 50,.t 53,.t 54,.t 55,.t 56])]
def A6:aM:=(s (r G0) (s (r G1) (s (.block 0 (.loop (s (s (r G2) (.cond (.t 20) .skip (.exit 0))) (.block 1 (s (r G3) (.cond (.t 23) (s (r G4) (r G5)) (s (r G6) (r G7)))))))) (r G8))))
def L4:List a6:=[]
theorem TL:bH Tryz.prog Tryz.f213 A6:=e (by kernel_rfl)
theorem VN:bI Tryz.prog Tryz.f213 L4:=e (by kernel_rfl)
theorem RW:bF Tryz.prog 213:=e (by kernel_rfl)
def G9:=[aY 10 0]
def abj:=[m 11 10,m 12 3,lt 13 11 12]
def abk:=[m 16 0,m 17 1,m 18 10,o 19 (.bin .add (.t 17) (.t 18)),m 20 0,m 21 2,m 22 10,o 23 (.bin .add (.t 21) (.t 22)),m 24 0,m 25 2,m 26 10,o 27 (.bin .add (.t 25) (.t 26)),o 28 (.is 1 (.t 24) (.t 27)),l 29 28,m 30 0,m 31 1,m 32 10,o 33 (.bin .add (.t 31) (.t 32)),o 34 (.is 1 (.t 30) (.t 33)),l 35 34,o 36 (.is 1 (.t 16) (.t 19)),p (.bB none (.t 36) (.t 29)),o 37 (.is 1 (.t 20) (.t 23)),p (.bB none (.t 37) (.t 35))]
def W2:=some [[],[],[],[1,2],[],[],[],[5,6],[],[],[],[9,10],[8,11],[12],[],[],[],[15,16],[14,17],[18],[0,3,0,1,2,3,8,9,10,11,12,13,19],[20,13,0,1,2,3,8,9,10,11,12,13,19],[4,7,0,1,2,3,4,5,6,7,8,9,10,11,12,13,14,15,16,17,18,19,20,21],[22,19,21,0,1,2,3,4,5,6,7,8,9,10,11,12,13,14,15,16,17,18,19,20,21]]
def abl:=[m 14 10,ad 15 14 1,m 10 15]
def A7:aM:=(s (r G9) (.block 0 (.loop (s (s (r abj) (.cond (.t 13) .skip (.exit 0))) (s (.block 1 (.b6 W2 abk)) (r abl))))))
def L5:List a6:=[]
theorem TM:bH Tryz.prog Tryz.f216 A7:=e (by kernel_rfl)
theorem VO:bI Tryz.prog Tryz.f216 L5:=e (by kernel_rfl)
theorem RX:bF Tryz.prog 216:=e (by kernel_rfl)
end Go.Proofs.YtcldiigclhgafaaGreat
namespace Go.Proofs.YtcldiigclhgafaaGreat
open Go Go.Abs
open Go.Abs.Enc (enc)
theorem uf(n lo hi:Int):aC Tryz.prog 94 [enc n,enc lo,enc hi] (enc (decide (lo≤n)&&decide (n≤hi))):=by
 refine aC.bu Tryz.func94 Su Uk Wk (t7 rfl) (fun hwf W0 D0 E1 =>?_);simp only[BE,MB,bj,zz4,Nat.reduceAdd];refine .ak (by decide +kernel) fun K hK =>?_;simp only[IN,J,simprocAttr];refine .done (hK _ ?_);clear hK K;refine .ak (by decide +kernel) fun K hK =>?_;simp only[IP,J,simprocAttr];refine .guard (fun h =>?_) (fun h =>?_)
 ·simp only[J,simprocAttr,h];refine .done (hK _ ?_);clear hK K;refine U.ret ?_;simp only[J,simprocAttr]
  simp_all
 ·simp only[J,simprocAttr,h];refine .done (hK _ ?_);clear hK K;refine U.ret ?_;simp only[J,simprocAttr];simp at h;simp;omega
theorem y9(l:List Int)(n:Int):aC Tryz.prog 36 [enc l,enc n] (enc (decide (n∈l))):=by
 refine aC.bu Tryz.func36 R6 TV VX (t7 rfl) (fun hwf W0 D0 E1 =>?_);simp only[Bg,Me,bj,zz4];have hlen:l.length≤maxLen:=((kM l).1 hwf.1).1;simp only[maxLen] at hlen;refine .ak (by decide +kernel) fun K hK =>?_;simp only[HB,J,simprocAttr];refine .done (hK _ ?_);clear hK K;refine U.seq ?_;refine .ak (by decide +kernel) fun K hK =>?_;simp only[HC,J,simprocAttr];refine .done (hK _ ?_);clear hK K;refine U.block (U.loop (fun i:Nat=>ar [(0,enc l),(1,.int .i64 n),(4,.bool false),(5,.int .i64 i)] []) (fun i=>i≤l.length∧n∉l.take i) (fun i=>l.length-i) 0 ⟨zv4 _,by simp⟩ ?_ (fun i hi =>?_))
 ·refine aF.bY ?_ ?_ ?_ ?_ <;>simp[aV,bO,bM,br,aW,I.only,bA]
 ·refine U.seq (U.seq ?_);refine .bd (by decide +kernel) fun K hK =>?_;simp only[HD,J,simprocAttr]
  try simp only[bP,J,simprocAttr]
  refine .done (hK _ ?_);clear hK K;try simp only[al]
  refine U.bx ?_;simp only[au,J,simprocAttr];refine ⟨fun h =>?_,fun h =>?_⟩
  ·have hlt:i<l.length:=by simpa using h
   refine U.skip ?_;try simp only[al,simprocAttr]
   refine U.seq (U.block ?_);refine .ak (by decide +kernel) fun K hK =>?_;simp only[HE,J,simprocAttr]
   try simp only[fJ 1 hlt rfl,J,simprocAttr]
   refine .done (hK _ ?_);clear hK K;refine U.bx ?_;simp only[au,J,simprocAttr];refine ⟨fun h =>?_,fun h =>?_⟩
   ·refine .ak (by decide +kernel) fun K hK =>?_;simp only[HF,J,simprocAttr];refine .done (hK _ ?_);clear hK K;refine U.ret ?_;simp only[bJ,al,J,simprocAttr];simp at h;simp[←h]
   ·refine U.skip ?_;try simp only[al,bJ,simprocAttr]
    refine .bd (by decide +kernel) fun K hK =>?_;simp only[HG,J,simprocAttr];refine .done (hK _ ?_);clear hK K;try simp only[al]
    refine ⟨i+1,⟨by omega,fun hm =>?_⟩,by omega,?_⟩
    ·rw[zy5 hlt] at hm;rcases zy7.1 hm with hm | hm
     ·exact hi.2 hm
     ·simp at h hm;exact h hm.symm
    ·rw[cA _ (by omega) (by omega)];refine aF.bY ?_ ?_ ?_ ?_ <;>simp[aV,bO,bM,br,aW,I.only,bA]
  ·have hge:i=l.length:=by simp at h;omega
   refine U.exit ?_;try simp only[al,bJ,simprocAttr]
   refine .ak (by decide +kernel) fun K hK =>?_;simp only[HI,J,simprocAttr];refine .done (hK _ ?_);clear hK K;refine U.ret ?_;simp only[J,simprocAttr];simp[hge] at hi;simp[hi]
theorem yD(n d:Int)(h0:0<d)(h1:d≤4611686018427387904):IntKind.i64.wrap (n.tmod d+d)=n.tmod d+d∧(n.tmod d+d).tmod d=n%d:=by
 have a1:n.tmod d<d:=Int.tmod_lt_of_pos n h0;have a2:-d<n.tmod d:=by
  have:=Int.tmod_lt_of_pos (-n) h0;rw[Int.neg_tmod] at this;omega
 refine ⟨cA _ (by omega) (by omega),?_⟩;rw[Int.tmod_eq_emod_of_nonneg (by omega),Int.add_emod_right];rw[Int.tmod_def,Int.sub_mul_emod_self_left]
theorem ja(n d:Int)(h0:0<d)(h1:d≤4611686018427387904):aC Tryz.prog 25 [enc n,enc d] (enc (n%d)):=by
 refine aC.bu Tryz.func25 R0 TP VR (t7 rfl) (fun hwf W0 D0 E1 =>?_);simp only[Ba,L8,bj,zz4];have hd:¬ d=0:=by omega
 refine .ak (by decide +kernel) fun K hK =>?_;simp only[Hj,J,simprocAttr];refine .done (hK _ ?_);clear hK K;refine .ak (by decide +kernel) fun K hK =>?_;simp only[Hk,J,simprocAttr]
 try simp only[hd,J,simprocAttr]
 refine .done (hK _ ?_);clear hK K;refine U.ret ?_;simp only[J,simprocAttr];rw[(yD n d h0 h1).1,(yD n d h0 h1).2]
def bt(c:List Int)(i:Int):Int:=if c=[] then 0 else c.getD (i%c.length).toNat 0
theorem lQ(c:List Int)(i:Int)(hc:c.length≤4611686018427387904):aC Tryz.prog 34 [enc c,enc i] (enc (bt c i)):=by
 refine aC.bu Tryz.func34 R4 TT VV (t7 rfl) (fun hwf W0 D0 E1 =>?_);simp only[Be,Mc,bj,zz4];refine .ak (by decide +kernel) fun K hK =>?_;simp only[Hl,J,simprocAttr];refine .done (hK _ ?_);clear hK K;refine U.seq (U.seq ?_);refine .bd (by decide +kernel) fun K hK =>?_;simp only[Hm,J,simprocAttr]
 try simp only[bP,J,simprocAttr]
 refine .done (hK _ ?_);clear hK K;try simp only[al]
 refine U.bx ?_;simp only[au,J,simprocAttr];refine ⟨fun h =>?_,fun h =>?_⟩
 ·refine .ak (by decide +kernel) fun K hK =>?_;simp only[Hn,J,simprocAttr];refine .done (hK _ ?_);clear hK K;refine U.ret ?_;simp only[al,J,simprocAttr];simp at h;simp[bt,h]
 ·simp at h;have hpos:0<c.length:=List.length_pos_iff.2 h;have k1:0≤i%(c.length:Int):=Int.emod_nonneg _ (by omega);have k2:i%(c.length:Int)<c.length:=Int.emod_lt_of_pos _ (by omega);have k3:(i%(c.length:Int)).toNat<c.length:=by omega
  refine U.skip ?_;try simp only[al,simprocAttr]
  refine .ak (by decide +kernel) fun K hK =>?_;simp only[Ho,J,simprocAttr]
  try simp only[bP,zz9,zx2,J,simprocAttr]
  refine .flat _ (ja i c.length (by omega) (by omega)) rfl ?_
  try simp only[J,simprocAttr]
  try simp only[Jv 1 ⟨k1,k3⟩ rfl,J,simprocAttr]
  refine .done (hK _ ?_);clear hK K;refine U.ret ?_;simp only[J,simprocAttr];simp[bt,h,zz1,k3]
def cm(lo hi n:Int):Bool:=decide (lo≤n)&&decide (n≤hi)
def kS(a b:Int):Int:=IntKind.i64.wrap ((BitVec.ofInt IntKind.i64.bits a &&& BitVec.ofInt IntKind.i64.bits b).toNat:Int)
def shl(a:Int)(k:Nat):Int:=IntKind.i64.wrap (a*2^min k IntKind.i64.bits)
theorem N6(m:aI 6 Int):aC Tryz.prog 100 [enc m] (enc (if (List.range 6).all (fun i=>cm 0 4 (m.g i)) then (0:Int) else 10)):=by
 refine aC.bu Tryz.func100 QO SB UE (t7 rfl) (fun hwf W0 D0 E1 =>?_);simp only[zN,KU,bj];refine .ak (by decide +kernel) fun K hK =>?_;simp only[C2,J,simprocAttr];refine .done (hK _ ?_);clear hK K;refine U.seq ?_;refine .ak (by decide +kernel) fun K hK =>?_;simp only[C3,J,simprocAttr];refine .done (hK _ ?_);clear hK K;refine U.block (U.loop (fun i:Nat=>ar [(1,.ptr 1 []),(2,.int .i64 0),(3,.int .i64 i)] [(1,.box (enc m))]) (fun j=>j≤6∧∀ i,i<j→cm 0 4 (m.g i)=true) (fun i=>6-i) 0 ⟨by omega,fun k h=>by omega⟩ ?_ (fun i hi =>?_))
 ·refine aF.bY ?_ ?_ ?_ ?_ <;>simp[aV,bO,bM,br,aq,aW,ct,I.only,ah.only,bA]
 ·refine U.seq (U.seq ?_);refine .bd (by decide +kernel) fun K hK =>?_;simp only[C4,J,simprocAttr];refine .done (hK _ ?_);clear hK K;try simp only[al]
  refine U.bx ?_;simp only[au,J,simprocAttr];refine ⟨fun h =>?_,fun h =>?_⟩
  ·have hlt:i<6:=by simp at h;omega
   refine U.skip ?_;try simp only[al,simprocAttr]
   refine U.seq (U.block ?_);refine .ak (by decide +kernel) fun K hK =>?_;simp only[C5,J,simprocAttr]
   try simp only[bP,iI 1 m hlt rfl,fF m hlt,J,simprocAttr]
   refine .flat _ (uf _ 0 4) rfl ?_
   try simp only[J,simprocAttr]
   refine .done (hK _ ?_);clear hK K;refine U.bx ?_;simp only[au,J,simprocAttr];refine ⟨fun h =>?_,fun h =>?_⟩
   ·refine .ak (by decide +kernel) fun K hK =>?_;simp only[C6,J,simprocAttr];refine .done (hK _ ?_);clear hK K;refine U.ret ?_;simp only[bJ,al,J,simprocAttr];rw[mM i hlt]
    ·simp
    ·simp at h;simp[cm];omega
   ·refine U.skip ?_;try simp only[al,bJ,simprocAttr]
    refine .bd (by decide +kernel) fun K hK =>?_;simp only[C7,J,simprocAttr];refine .done (hK _ ?_);clear hK K;try simp only[al]
    refine ⟨i+1,⟨by omega,fun k hk =>?_⟩,by omega,?_⟩
    ·by_cases hk':k=i
     ·subst hk';simpa[cm] using h
     ·exact hi.2 k (by omega)
    ·rw[cA _ (by omega) (by omega)];refine aF.bY ?_ ?_ ?_ ?_ <;>simp[aV,bO,bM,br,aq,aW,ct,I.only,ah.only,bA]
  ·have hge:i=6:=by simp at h;omega
   subst hge;refine U.exit ?_;try simp only[al,bJ,simprocAttr]
   refine .ak (by decide +kernel) fun K hK =>?_;simp only[C8,J,simprocAttr];refine .done (hK _ ?_);clear hK K;refine U.ret ?_;simp only[J,simprocAttr];rw[oG hi.2];simp
theorem N7(m:aI 6 Int):aC Tryz.prog 101 [enc m] (enc (if (List.range 6).all (fun i=>cm 1 31 (m.g i)) then (0:Int) else 12)):=by
 refine aC.bu Tryz.func101 QP SC UF (t7 rfl) (fun hwf W0 D0 E1 =>?_);simp only[zO,KV,bj];refine .ak (by decide +kernel) fun K hK =>?_;simp only[C9,J,simprocAttr];refine .done (hK _ ?_);clear hK K;refine U.seq ?_;refine .ak (by decide +kernel) fun K hK =>?_;simp only[Da,J,simprocAttr];refine .done (hK _ ?_);clear hK K;refine U.block (U.loop (fun i:Nat=>ar [(1,.ptr 1 []),(2,.int .i64 0),(3,.int .i64 i)] [(1,.box (enc m))]) (fun j=>j≤6∧∀ i,i<j→cm 1 31 (m.g i)=true) (fun i=>6-i) 0 ⟨by omega,fun k h=>by omega⟩ ?_ (fun i hi =>?_))
 ·refine aF.bY ?_ ?_ ?_ ?_ <;>simp[aV,bO,bM,br,aq,aW,ct,I.only,ah.only,bA]
 ·refine U.seq (U.seq ?_);refine .bd (by decide +kernel) fun K hK =>?_;simp only[Db,J,simprocAttr];refine .done (hK _ ?_);clear hK K;try simp only[al]
  refine U.bx ?_;simp only[au,J,simprocAttr];refine ⟨fun h =>?_,fun h =>?_⟩
  ·have hlt:i<6:=by simp at h;omega
   refine U.skip ?_;try simp only[al,simprocAttr]
   refine U.seq (U.block ?_);refine .ak (by decide +kernel) fun K hK =>?_;simp only[Dc,J,simprocAttr]
   try simp only[bP,iI 1 m hlt rfl,fF m hlt,J,simprocAttr]
   refine .flat _ (uf _ 1 31) rfl ?_
   try simp only[J,simprocAttr]
   refine .done (hK _ ?_);clear hK K;refine U.bx ?_;simp only[au,J,simprocAttr];refine ⟨fun h =>?_,fun h =>?_⟩
   ·refine .ak (by decide +kernel) fun K hK =>?_;simp only[Dd,J,simprocAttr];refine .done (hK _ ?_);clear hK K;refine U.ret ?_;simp only[bJ,al,J,simprocAttr];rw[mM i hlt]
    ·simp
    ·simp at h;simp[cm];omega
   ·refine U.skip ?_;try simp only[al,bJ,simprocAttr]
    refine .bd (by decide +kernel) fun K hK =>?_;simp only[De,J,simprocAttr];refine .done (hK _ ?_);clear hK K;try simp only[al]
    refine ⟨i+1,⟨by omega,fun k hk =>?_⟩,by omega,?_⟩
    ·by_cases hk':k=i
     ·subst hk';simpa[cm] using h
     ·exact hi.2 k (by omega)
    ·rw[cA _ (by omega) (by omega)];refine aF.bY ?_ ?_ ?_ ?_ <;>simp[aV,bO,bM,br,aq,aW,ct,I.only,ah.only,bA]
  ·have hge:i=6:=by simp at h;omega
   subst hge;refine U.exit ?_;try simp only[al,bJ,simprocAttr]
   refine .ak (by decide +kernel) fun K hK =>?_;simp only[Df,J,simprocAttr];refine .done (hK _ ?_);clear hK K;refine U.ret ?_;simp only[J,simprocAttr];rw[oG hi.2];simp
structure bZ where
 b5:Int
 mark:aI 6 Int
instance:Enc bZ where
 enc g:=.agg [.int .i64 g.b5,enc g.mark]
 sz:=7
 aJ:=.dU [.one,.dU (List.replicate 6 .one)]
 fI:=true
 done g:=by simp only[I.done,I.eG,Enc.done,zw3]
 size g:=by simp only[I.size,I.sizes,fy,jS,jT]
 jG g:=by simp only[I.aJ,I.cN,ev,rY,rZ]
 agg _:=rfl
structure bQ where
 c5:aI 5 Int
 dh:Int
 given:List bZ
instance:Enc bQ where
 enc m:=.agg [enc m.c5,.int .i64 m.dh,enc m.given]
 sz:=7
 aJ:=.dU [.dU (List.replicate 5 .one),.one,.one]
 fI:=true
 done m:=by simp only[I.done,I.eG,Enc.done,zw3]
 size m:=by simp only[I.size,I.sizes,fy,jS,jT,r2]
 jG m:=by simp only[I.aJ,I.cN,ev,rY,rZ,Cr]
 agg _:=rfl
theorem kB{fs:List I}{f off:Nat}{v:I}(h1:f<fs.length)(h:I.sizes (fs.take f)=off):dB fs f off v=some v:=by simp[dB,h,h1]
theorem cv :
  (∀ m:bQ,(enc m).dg=some [enc m.c5,.int .i64 m.dh,enc m.given])∧(∀ g:bZ,(enc g).dg=some [.int .i64 g.b5,enc g.mark]) ∧
  (∀ (w:aI 5 Int) (n:Int) (g:List bZ) v,dB [enc w,.int .i64 n,enc g] 0 0 v=some v)∧(∀ (w:aI 5 Int) (n:Int) (g:List bZ) v,dB [enc w,.int .i64 n,enc g] 1 5 v=some v)∧(∀ (w:aI 5 Int) (n:Int) (g:List bZ) v,dB [enc w,.int .i64 n,enc g] 2 6 v=some v) ∧
  (∀ (n:Int) (m:aI 6 Int) v,dB [.int .i64 n,enc m] 0 0 v=some v)∧(∀ (n:Int) (m:aI 6 Int) v,dB [.int .i64 n,enc m] 1 1 v=some v) ∧
  (∀ (g:List bZ),bV none (enc g)=true)∧(∀ (g:List Int),bV none (enc g)=true)∧(∀ (g:aI 5 Int),bV (some 5) (enc g)=true)∧(∀ (g:aI 6 Int),bV (some 6) (enc g)=true)∧(∀ (g:bZ),bV (some 7) (enc g)=true)∧(∀ (g:bQ),bV (some 7) (enc g)=true) ∧
  (∀ (fs:List I) x,(x::fs)[0]?=some x)∧(∀ (fs:List I) x n,(x::fs)[n+1]?=fs[n]?)∧(∀ (fs:List I) x,(x::fs)[1]?=fs[0]?)∧(∀ (fs:List I) x,(x::fs)[2]?=fs[1]?) :=
 ⟨fun _=>rfl,fun _=>rfl,fun _ _ _ _=>kB (t7 rfl) rfl,fun w n g v=>kB (t7 rfl) (by simp[I.sizes,fy,jS,jT]),fun w n g v=>kB (t7 rfl) (by simp[I.sizes,I.size,fy,jS,jT]),fun _ _ _=>kB (t7 rfl) rfl,fun _ _ _=>kB (t7 rfl) (by simp[I.sizes,I.size]),
  fun _=>by simp[lh,lY],fun _=>by simp[lh,lY],fun _=>by simp[fx,u3,jS,jT],fun _=>by simp[fx,u3,jS,jT],fun _=>by rw[fx];rfl,fun _=>by rw[fx];rfl,
  fun _ _=>rfl,fun _ _ _=>rfl,fun _ _=>rfl,fun _ _=>rfl⟩
theorem rp(n lo hi:Int):aC Tryz.prog 121 [enc n,enc lo,enc hi] (enc (cm lo hi n)):=by
 refine aC.bu Tryz.func121 QZ SL UO (t7 rfl) (fun hwf W0 D0 E1 =>?_);simp only[zX,K4,bj,zz4,Nat.reduceAdd];refine .ak (by decide +kernel) fun K hK =>?_;simp only[DM,J,simprocAttr];refine .done (hK _ ?_);clear hK K;refine .ak (by decide +kernel) fun K hK =>?_;simp only[DN,J,simprocAttr];refine .guard (fun h =>?_) (fun h =>?_)
 ·simp only[J,simprocAttr,h];refine .done (hK _ ?_);clear hK K;refine U.ret ?_;simp only[J,simprocAttr]
  simp_all[cm]
 ·simp only[J,simprocAttr,h];refine .done (hK _ ?_);clear hK K;refine U.ret ?_;simp only[J,simprocAttr];simp at h;simp[cm];omega
theorem yV(n:Int):aC Tryz.prog 160 [enc n] (enc (cm 0 31 n)):=by
 refine aC.bu Tryz.func160 Rs Tf Vi (t7 rfl) (fun hwf W0 D0 E1 =>?_);simp only[Ay,Lx,bj];refine .ak (by decide +kernel) fun K hK =>?_;simp only[E8,J,simprocAttr];refine .done (hK _ ?_);clear hK K;refine .ak (by decide +kernel) fun K hK =>?_;simp only[E9,J,simprocAttr];refine .flat _ (rp n 0 31) rfl ?_
 try simp only[J,simprocAttr]
 refine .done (hK _ ?_);clear hK K;refine U.ret ?_;simp only[J,simprocAttr]
theorem yY(a b:Int):aC Tryz.prog 196 [enc a,enc b] (enc (kS a b != 0)):=by
 refine aC.bu Tryz.func196 RM TB VD (t7 rfl) (fun hwf W0 D0 E1 =>?_);simp only[AU,LU,bj,zz4];refine .ak (by decide +kernel) fun K hK =>?_;simp only[F3,J,simprocAttr];refine .done (hK _ ?_);clear hK K;refine .ak (by decide +kernel) fun K hK =>?_;simp only[F4,J,simprocAttr];refine .done (hK _ ?_);clear hK K;refine U.ret ?_;simp only[J,simprocAttr];rfl
theorem ub(w:aI 5 Int)(m:aI 6 Int)(i:Nat)(hi:i<6)(h0:0≤m.g i)(h5:m.g i<5):aC Tryz.prog 199 [enc w,enc m,enc (i:Int)] (enc (w.g (m.g i).toNat)):=by
 refine aC.bu Tryz.func199 RP TE VG (t7 rfl) (fun hwf W0 D0 E1 =>?_);simp only[AX,LX,bj,zz4,Nat.reduceAdd];refine .ak (by decide +kernel) fun K hK =>?_;simp only[Gf,J,simprocAttr];refine .done (hK _ ?_);clear hK K;refine .ak (by decide +kernel) fun K hK =>?_;simp only[Gg,J,simprocAttr];have hk:(m.g i).toNat<5:=by omega
 try simp only[bP,iI 1 m hi rfl,fF m hi,J,simprocAttr]
 try simp only[bP,ky 1 w ⟨h0,h5⟩ rfl,fF w hk,J,simprocAttr]
 refine .done (hK _ ?_);clear hK K;refine U.ret ?_;simp only[J,simprocAttr]
def dn(p:Nat→Bool):Nat→Nat
 |0=>0
 |n+1=>dn p n+if p n then 1 else 0
theorem uO(p:Nat→Bool):∀ n,dn p n≤n
 |0=>zz6 _
 |n+1=>by have:=uO p n;simp only[dn];split <;>omega
def iw(w:aI 5 Int)(a b:aI 6 Int)(i:Nat):Bool:=kS (w.g (a.g i).toNat) (w.g (b.g i).toNat)==0
def cZ(m:aI 6 Int):Bool:=(List.range 6).all fun i=>cm 0 4 (m.g i)
theorem mh{m:aI 6 Int}(h:cZ m=true){i:Nat}(hi:i<6):0≤m.g i∧m.g i<5:=by
 simp only[cZ,zy2,zx4] at h;have:=h i hi;simp[cm] at this;omega
theorem Oj(w:aI 5 Int)(a b:aI 6 Int)(ha:cZ a=true)(hb:cZ b=true):aC Tryz.prog 129 [enc w,enc a,enc b] (enc (dn (iw w a b) 6:Int)):=by
 refine aC.bu Tryz.func129 Q7 SU UX (t7 rfl) (fun hwf W0 D0 E1 =>?_);simp only[Ac,Lc,bj,zz4,Nat.reduceAdd];refine .ak (by decide +kernel) fun K hK =>?_;simp only[D8,J,simprocAttr];refine .done (hK _ ?_);clear hK K;refine .ak (by decide +kernel) fun K hK =>?_;simp only[D9,J,simprocAttr];refine .done (hK _ ?_);clear hK K;refine U.seq (U.seq ?_);refine .bd (by decide +kernel) fun K hK =>?_;simp only[Ea,J,simprocAttr];refine .done (hK _ ?_);clear hK K;try simp only[al]
 refine U.block (U.loop (fun i:Nat=>ar [(3,.ptr 3 []),(4,.ptr 4 []),(5,.ptr 5 []),(7,.int .i64 (dn (iw w a b) i)),(8,.int .i64 i)] [(3,.box (enc w)),(4,.box (enc a)),(5,.box (enc b))]) (fun i=>i≤6) (fun i=>6-i) 0 (by omega) ?_ (fun i hi =>?_))
 ·simp only[dn];refine aF.bY ?_ ?_ ?_ ?_ <;>simp[aV,bO,bM,br,aq,aW,ct,I.only,ah.only,bA]
 ·have hc:=uO (iw w a b) i;refine U.seq (U.seq ?_);refine .bd (by decide +kernel) fun K hK =>?_;simp only[Eb,J,simprocAttr];refine .done (hK _ ?_);clear hK K;try simp only[al]
  refine U.bx ?_;simp only[au,J,simprocAttr];refine ⟨fun h =>?_,fun h =>?_⟩
  ·have hlt:i<6:=by simp at h;omega
   have h1:=mh ha hlt;have h2:=mh hb hlt;refine U.skip ?_;try simp only[al,simprocAttr]
   refine U.seq (U.block ?_);refine .ak (by decide +kernel) fun K hK =>?_;simp only[Ec,J,simprocAttr];have k1:(a.g i).toNat<5:=by omega
   have k2:(b.g i).toNat<5:=by omega
   try simp only[bP,iI 1 a hlt rfl,fF a hlt,J,simprocAttr]
   try simp only[bP,ky 1 w h1 rfl,fF w k1,J,simprocAttr]
   try simp only[bP,iI 1 b hlt rfl,fF b hlt,J,simprocAttr]
   try simp only[bP,ky 1 w h2 rfl,fF w k2,J,simprocAttr]
   refine .done (hK _ ?_);clear hK K;refine U.bx ?_;simp only[au,J,simprocAttr];refine ⟨fun h =>?_,fun h =>?_⟩
   ·have hap:iw w a b i=true:=h;refine .bd (by decide +kernel) fun K hK =>?_;simp only[Ed,J,simprocAttr];refine .done (hK _ ?_);clear hK K;try simp only[al,bJ]
    refine .bd (by decide +kernel) fun K hK =>?_;simp only[vB,J,simprocAttr];refine .done (hK _ ?_);clear hK K;try simp only[al]
    refine ⟨i+1,by omega,by omega,?_⟩;rw[cA _ (by omega) (by omega),cA _ (by omega) (by omega)];simp only[dn,hap,if_true];refine aF.bY ?_ ?_ ?_ ?_ <;>simp[aV,bO,bM,br,aq,aW,ct,I.only,ah.only,bA]
   ·have hap:iw w a b i=false:=h;refine U.skip ?_;try simp only[al,bJ,simprocAttr]
    refine .bd (by decide +kernel) fun K hK =>?_;simp only[vB,J,simprocAttr];refine .done (hK _ ?_);clear hK K;try simp only[al]
    refine ⟨i+1,by omega,by omega,?_⟩;rw[cA _ (by omega) (by omega)];simp only[dn,hap,zz7,if_false];refine aF.bY ?_ ?_ ?_ ?_ <;>simp[aV,bO,bM,br,aq,aW,ct,I.only,ah.only,bA]
  ·have hge:i=6:=by simp at h;omega
   subst hge;refine U.exit ?_;try simp only[al,bJ,simprocAttr]
   refine .ak (by decide +kernel) fun K hK =>?_;simp only[Ee,J,simprocAttr];refine .done (hK _ ?_);clear hK K;refine U.ret ?_;simp only[J,simprocAttr]
end Go.Proofs.YtcldiigclhgafaaGreat
