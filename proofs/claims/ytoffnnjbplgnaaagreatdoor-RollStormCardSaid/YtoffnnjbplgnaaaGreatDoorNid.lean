/-
  A part of the proof that the law RollStorm returns true for every input; five variables of Go's library start as the text lays them (the card ties them); conditions: none beyond the statement's own. (part 4 of 6)
-/
import Derived.ProofKit
import Derived.SizedLaws
import Derived.Lib.SplitLaws
import Derived.Lib.AtoiAll
import Derived.Lib.ItoaMem
import Derived.Shelf.Strings.Split
import Derived.Shelf.Small.Wraps
import Derived.Shelf.Strconv.ErrVarAll
import Derived.Lib.FieldsP
import Derived.Laws.RangeAny
import Derived.Shelf.Strconv.Itoa3
import Derived.Lib.ItoaLen
import Derived.Shelf.Strings.Prefix
import Derived.Shelf.Strings.Cut
import Derived.Shelf.Small.Strs
import Derived.Shelf.Strconv.Clone
import Derived.Shelf.Strings.FieldsFuncAny
import Derived.WalkKit
import Derived.Tactics
import Derived.Tactics2
import Derived.RecoverIn
import Derived.Deep.MidRow
import Derived.Shelf.Strings.BuilderK
import Derived.BigCall
import Derived.Deep.RegionWith
import Derived.Test.YtoffnnjbplgnaaaGreatDoorNic
set_option linter.unusedSimpArgs false
set_option linter.unusedVariables false
set_option maxHeartbeats 16000000
set_option maxRecDepth 100000
namespace Go.Abs
open Go Go.RowKit
open Enc (enc)
def jt(w:World):aH:=fun b _=>b<w.heap.size
structure n9 (P:Program) (t:TypeId) (α:Type) [Enc α]:Prop where
 cells:P.cellsOf t=Enc.sz α
 o9:0<Enc.sz α
 mu:∀ {H:Type} {enc0:TypeId×Value→H} {w:World} {fuel:Nat} {cs:List Value} {x:DataW H×List MemPlace},DataW.trod enc0 P w 0 (fun _=>true) true fuel t cs=some x→∃ a:α,af w (jt w) cu (enc a) cs
theorem XV{P:Program}{t:TypeId}(ht:P.underlying t=some (.int .i64))(hc:P.cellsOf t=1):n9 P t Int :=
 ⟨hc,by decide,fun h=>by
  obtain ⟨n,rfl,_,hw⟩:=DataW.trod_int ht h;refine ⟨n,?_⟩;rw[pX,af];simp only[Lit.wf,Z7,decide_eq_true_eq] at hw;exact ⟨rfl,hw.1,hw.2⟩⟩
theorem Ah{α:Type}[Enc α]{w:World}{D:aH}(c:Nat):∀ (n:Nat) (cs:List Value),cs.length=n*c→(∀ i,i<n→∃ a:α,af w D cu (enc a) ((cs.drop (i*c)).take c))→∃ l:List α,l.length=n∧aA w D cu (l.map enc) cs
 |0,cs,hl,_=>⟨[],rfl,by simp only[Nat.zero_mul,List.length_eq_zero_iff] at hl;subst hl;simp[aA]⟩
 |n+1,cs,hl,h=>by
  obtain ⟨a,ha⟩:=h 0 (by omega);simp only[Nat.zero_mul,List.drop_zero] at ha;obtain ⟨l,h1,h2⟩:=Ah c n (cs.drop c) (by rw[zv1,hl,Nat.succ_mul];omega) (fun i hi=>by
   obtain ⟨b,hb⟩:=h (i+1) (by omega);refine ⟨b,?_⟩;rw[List.drop_drop]
   rwa [Nat.succ_mul,Nat.add_comm] at hb)
  refine ⟨a::l,by simp[h1],?_⟩;simp only[zz1,aA];exact ⟨cs.take c,cs.drop c,(zx1 c cs).symm,ha,h2⟩
theorem ZG{H:Type}{enc0:TypeId×Value→H}{P:Program}{w:World}{dF:Nat}{spare:Nat→Bool}{held:Bool}{fuel n:Nat}{t e:TypeId}{cs:List Value}{x:DataW H×List MemPlace}(ht:P.underlying t=some (.array n e))(h:DataW.trod enc0 P w dF spare held fuel t cs=some x) :
  ∃ (xs:List (DataW H×List MemPlace)) (m:Nat),cs.length=P.cellsOf t∧xs.length=n∧∀ (i:Nat),i<n→DataW.trod enc0 P w dF spare held m e ((cs.drop (i*P.cellsOf e)).take (P.cellsOf e))=xs[i]?:=by
 cases fuel with
 |zero=>simp[DataW.trod] at h
 |succ m =>
  unfold DataW.trod at h;rw[ht] at h;split at h <;>simp_all
  obtain ⟨hl,xs,hp,hd⟩:=h;exact ⟨xs,by simpa using mapM_some_length hp,m,fun i hi=>mapM_some_get hp i i (by simp[hi])⟩
theorem XU{P:Program}{t e:TypeId}{n:Nat}{α:Type}[Enc α](ht:P.underlying t=some (.array n e))(he:n9 P e α)(hc:P.cellsOf t=n*Enc.sz α)(hn:0<n):n9 P t (ef n α) :=
 ⟨hc,Nat.mul_pos hn he.o9,fun {H enc0 w fuel cs x} h=>by
  obtain ⟨xs,m,hl,hx,hp⟩:=ZG ht h;obtain ⟨l,h1,h2⟩:=Ah (α:=α) (w:=w) (D:=jt w) (Enc.sz α) n cs (by rw[hl,hc]) (fun i hi=>by
   have h3:=hp i hi;rw[he.cells,zy0 (by omega)] at h3;exact he.mu h3)
  refine ⟨⟨l,h1⟩,?_⟩
  show af w (jt w) cu (.agg (l.map enc)) cs
  simp only[af];exact h2⟩
theorem GO(a:Addr)(i j:Nat):(a.add i).add j=a.add (i+j):=by
 unfold Addr.add;by_cases hi:i=0 <;>by_cases hj:j=0 <;>simp[hi,hj,Nat.add_assoc]
end Go.Abs
namespace Go.Abs
open Go Go.RowKit Go.ChangeShapes
open Enc (enc)
def sw(P:Program)(t:TypeId)(l:List (TypeId×Nat)):Bool:=match P.underlying t with
 |some (.struct fs)=>fs.toList.map (fun f=>(f.type,f.offset))==l
 |_=>false
def BV(P:Program)(t:TypeId)(n:Nat)(e:TypeId):Bool:=match P.underlying t with
 |some (.array n' e')=>n'==n&&e'==e
 |_=>false
theorem VJ{P:Program}{t:TypeId}{n:Nat}{e:TypeId}(h:BV P t n e=true):P.underlying t=some (.array n e):=by
 unfold BV at h;split at h
 ·rename_i n' e' ht;simp only[Z7,beq_iff_eq] at h;rw[ht,h.1,h.2]
 ·cases h
theorem VL{P:Program}{t:TypeId}{l:List (TypeId×Nat)}(h:sw P t l=true):∃ fs,P.underlying t=some (.struct fs)∧fs.toList.map (fun f=>(f.type,f.offset))=l:=by
 unfold sw at h;split at h
 ·rename_i fs ht;exact ⟨fs,ht,by simpa using h⟩
 ·cases h
theorem X5{H:Type}{enc0:TypeId×Value→H}{P:Program}{f:Func}{s:ChangeSpec}{apart jx handsOn again:Bool}{W W':World}{args:Array Value}{v:Value}{ds gs:List (DataW H)}{before pa pv:List MemPlace}
  (hW:DataW.Whole enc0 P f.params.toList s.vars apart W args.toList ds gs before)
  (hres:∀ (b:Nat) (sp:Nat→Bool) (hd:Bool),DataW.TrodAll enc0 P W' b sp hd f.resultTypes.toList (v.resultList f.resultTypes.size) (s.fn H (ds++gs)).results [])
  (hargs:∀ sp:Nat→Bool,(∀ p∈before,sp p.block=true)→DataW.TrodAll enc0 P W' 0 sp true f.params.toList args.toList (s.fn H (ds++gs)).args pa)
  (hvars:∀ sp:Nat→Bool,(∀ p∈before,sp p.block=true)→DataW.TrodVars enc0 P W' sp s.vars (s.fn H (ds++gs)).vars pv)
  (hps:before=pa++pv) (hb:Below W.heap.size W W')
  (hok:∀ (j:Nat) (t:TypeId) (r:Value),f.resultTypes[j]?=some t→(v.resultList f.resultTypes.size)[j]?=some r→Value.okWide P W' .any 0 t r) :
  s.post enc0 P f apart jx handsOn again W args v W':=by
 have hlt:∀ p∈before,p.block<W.heap.size:=fun p hp=>by simpa using hW.lt p hp
 have hold:∀ p∈before,(fun b=>decide (b<W.heap.size)) p.block=true:=fun p hp=>by simpa using hlt p hp
 refine ⟨ds,gs,before,[],pa,pv,hW,hres _ _ _,hargs _ hold,hvars _ hold,World.keptBut_mono (fun p hp=>⟨hp,?_⟩) (hb.frame (· ∈ before)),fun _ =>?_⟩
 ·rw[hps,zy2] at hp;exact Or.inr hp
 ·obtain ⟨_,_,_,_,_,hz,hn⟩:=hW;refine ⟨hok,_,_,([]++pa)++pv,⟨[]++pa,pv,trodAll_append (hargs _ (fun _ _=>rfl)) (hres _ _ _),hvars _ (fun _ _=>rfl),rfl,?_,?_⟩,?_⟩
  ·intro b off hp;have hp':MemPlace.cell b off∈before:=by rw[hps];simpa using hp
   rw[hb.frozen (p:=⟨b,off,none⟩) (hlt _ hp')];exact hz b off hp'
  ·intro ha;have:=hn ha;rw[hps] at this;simpa using this
  ·intro p hp _;rw[hps];simpa using hp
theorem V2{P:Program}{f:FuncId}{fn:Func}{s:ChangeSpec}{H:Type}{enc0:TypeId×Value→H}{W:World}{ds gs:List (DataW H)}{before:List MemPlace}{xs:List I}{tb:TypeId}{v0 v1 v2:Value}{t0 t1 t2:TypeId}{d0 d1 d2:DataW H}{p0 p1 p2:List MemPlace}{again handsOn jx:Bool}
  (hl:laidOutB P=true) (hpar:fn.params.toList=[t0,t1,t2]) (hds:ds=[d0,d1,d2]) (hgs:gs=[]) (hbef:before=p0++p1++p2)
  (hvars:s.vars=[]) (hfn:s.fn H [d0,d1,d2] = { results:=[.lit (.bool true)],args:=[d0,d1,d2] }) (hres:fn.resultTypes = #[tb]) (htb:P.underlying tb=some .bool)
  (hW:DataW.Whole enc0 P fn.params.toList s.vars false W #[v0,v1,v2].toList ds gs before)
  (h0:DataW.Trod enc0 P W 0 (fun _=>true) true t0 v0 d0 p0) (h1:DataW.Trod enc0 P W 0 (fun _=>true) true t1 v1 d1 p1) (h2:DataW.Trod enc0 P W 0 (fun _=>true) true t2 v2 d2 p2)
  (hr:∀ t∈[t0,t1,t2],P.readableRec t=true∧t<P.types.size)
  (hctr:aS P f xs (enc true)) (hlaid:eJ P W (fun _=>False)) (ab:ao W (jt W) cu xs [v0,v1,v2]) :
  Calls P f #[v0,v1,v2] W fun e W'=>∃ v,e=.returned v∧s.post enc0 P fn false jx handsOn again W #[v0,v1,v2] v W':=by
 subst hds hgs;refine (hctr.2 W (jt W) [v0,v1,v2] hlaid (fun _ _ h=>h) ab).mono fun e W' ⟨v,D',he,hrv,hb,_,_⟩=>⟨v,he,?_⟩
 have hvb:v=.bool true:=kS hrv;subst hvb;have hlt:∀ x∈before,x.block<W.heap.size:=fun x hx=>by simpa using hW.lt x hx
 rw[hbef] at hlt;refine X5 (pa:=p0++(p1++p2)) (pv:=[]) hW (fun _ _ _ =>?_) (fun sp hsp =>?_) (fun _ _ =>?_) (by rw[hbef];simp) hb ?_
 ·simp only[zx9,hfn,hres];exact trodAll_mk1 (shut_bool htb true)
 ·simp only[zx9,hfn,hpar];rw[hbef] at hsp;have aV:∀ {t:TypeId} {v:Value} {d:DataW H} {p:List MemPlace},t∈[t0,t1,t2]→DataW.Trod enc0 P W 0 (fun _=>true) true t v d p→(∀ x∈p,x∈p0++p1++p2)→DataW.Trod enc0 P W' 0 sp true t v d p:=fun ht h hp =>
   WideElems.Trod_stays hl (hr _ ht).1 (hr _ ht).2 h (fun x hx=>hb.same (hlt x (hp x hx))) (fun x hx=>hsp x (hp x hx))
  exact trodAll_mk3 (aV (by simp) h0 fun x hx=>by simp[hx]) (aV (by simp) h1 fun x hx=>by simp[hx]) (aV (by simp) h2 fun x hx=>by simp[hx])
 ·simp only[zx9,hfn,hvars];rfl
 ·intro j t r hj hv';rw[hres] at hj hv'
  match j,hj,hv' with
  |0,hj,hv' =>
   simp[Value.resultList] at hj hv';subst hj;subst hv';simp[Value.okWide,htb,Cell.okWide,Cell.ok]
def GF(P:Program)(u:TypeId)(n:Nat)(S:I→Prop):Prop:=P.cellsOf u=n ∧
 ∀ {H:Type} {enc0:TypeId×Value→H} {w:World} {fuel:Nat} {cs:List Value} {x:DataW H×List MemPlace},DataW.trod enc0 P w 0 (fun _=>true) true fuel u cs=some x→∃ v,S v∧af w (jt w) cu v cs
def XH(P:Program):Nat→List (TypeId×Nat)→List (Nat×(I→Prop))→Prop
 |_,[],[]=>True
 |o,(u,off)::l,(n,S)::Ss=>off=o∧GF P u n S∧XH P (o+n) l Ss
 |_,_,_=>False
def oc:List (Nat×(I→Prop))→List I→Prop
 | [],[]=>True
 |(_,S)::Ss,v::vs=>S v∧oc Ss vs
 |_,_=>False
theorem uv{n:Nat}{S:I→Prop}{Ss:List (Nat×(I→Prop))} : ∀ {vs:List I},oc ((n,S)::Ss) vs→∃ v vs',vs=v::vs'∧S v∧oc Ss vs'
 | [],h=>h.elim
 |v::vs,h=>⟨v,vs,rfl,h.1,h.2⟩
theorem GV:∀ {vs:List I},oc [] vs→vs=[]
 | [],_=>rfl
 |_::_,h=>h.elim
def re:List (Nat×(I→Prop))→Nat
 | []=>0
 |(n,_)::Ss=>n+re Ss
structure jL (P:Program) (t:TypeId) (α:Type) [Enc α] (B:α→Prop):Prop where
 cells:P.cellsOf t=Enc.sz α
 o9:0<Enc.sz α
 mu:∀ {H:Type} {enc0:TypeId×Value→H} {w:World} {fuel:Nat} {cs:List Value} {x:DataW H×List MemPlace},DataW.trod enc0 P w 0 (fun _=>true) true fuel t cs=some x→(∀ k∈x.1.weights P t,k≤reachBytes)→∃ a:α,B a∧af w (jt w) cu (enc a) cs
theorem n9.CY{P:Program}{t:TypeId}{α:Type}[Enc α](h:n9 P t α):jL P t α fun _=>True:=⟨h.cells,h.o9,fun hx _=>by
 obtain ⟨a,ha⟩:=h.mu hx;exact ⟨a,trivial,ha⟩⟩
theorem FN{H:Type}{P:Program}{e:TypeId} : ∀ {l:List (DataW H)} {d:DataW H},d∈l→∀ n∈d.weights P e,n∈DataW.weightsAll P e l
 |d'::r,d,hd,n,hn=>by
  simp only[DataW.weightsAll,zy2];rcases zy8.1 hd with rfl | h
  ·exact .inl hn
  ·exact .inr (FN h n hn)
theorem CZ{P:Program}{t e:TypeId}{α:Type}[Enc α]{B:α→Prop}(ht:P.underlying t=some (.slice e))(he:jL P e α B)(hc:P.cellsOf t=1):jL P t (List α) fun l=>(∀ a∈l,B a)∧l.length*P.bytesOf e≤reachBytes :=
 ⟨hc,by rw[AL];exact Nat.one_pos,fun {H enc0 w fuel cs x} h hwt=>by
  rcases DataW.trod_slice ht h with ⟨rfl,_⟩ | ⟨a,len,cap,elems,rest,n,_,rfl,hxx,hb,hl,hm,hlen,hel,_⟩
  ·refine ⟨[],⟨by simp,by simp⟩,?_⟩;simp only[gM,zy5];rw[af];exact ⟨none,0,rfl,zz2 _,by decide,.inl rfl,by simp⟩
  ·have hw1:∀ y∈elems,∀ k∈y.1.weights P e,k≤reachBytes:=fun y hy k hk=>by
    refine hwt k ?_;rw[hxx];simp only[DataW.weights,ht,zy8,zy2];exact .inr (.inl (FN (zx4.2 ⟨y,hy,rfl⟩) k hk))
   have hw2:len*P.bytesOf e≤reachBytes:=by
    have:=hwt ((elems.length+rest.length)*P.bytesOf e) (by rw[hxx];simp[DataW.weights,ht]);have h3:elems.length*P.bytesOf e≤(elems.length+rest.length)*P.bytesOf e:=Nat.mul_le_mul_right _ (by omega);rw[←hlen];omega
   have key:∀ k,k≤len→∃ (l:List α) (cs':List Value),l.length=k∧aA w (jt w) cu (l.map enc) cs'∧cs'.length=k*Enc.sz α∧(∀ j v,cs'[j]?=some v→w.cell? (a.add j)=some v)∧∀ b∈l,B b:=by
    intro k
    induction k with
    |zero=>exact fun _=>⟨[],[],rfl,by simp[aA],by simp,by simp,by simp⟩
    |succ k ih =>
     intro hk;obtain ⟨l,cs',h1,h2,h3,h4,hB⟩:=ih (by omega);have h5:=hel k (by omega);have h6:k<elems.length:=by omega
     rw[zy0 h6] at h5;obtain ⟨ce,h7,h8⟩:=zw6.1 h5;obtain ⟨y,hyB,hy⟩:=he.mu h8 (hw1 _ (List.getElem_mem h6));rw[he.cells] at h7;obtain ⟨_,h9,h10⟩:=World.cells?_some h7;refine ⟨l++[y],cs'++ce,by simp[h1],?_,by rw[Z8,h3,h9,Nat.succ_mul],fun j v hj =>?_,fun b hb=>(zy2.1 hb).elim (hB b) fun h=>by rw[zx2.1 h];exact hyB⟩
     ·rw[zx5];refine jl _ _ _ _ h2 ?_;simp only[zz1,zy5,aA];exact ⟨ce,[],by simp,hy,rfl⟩
     ·rcases Nat.lt_or_ge j cs'.length with hlt | hge
      ·rw[zy6 hlt] at hj;exact h4 j v hj
      ·rw[zw3 hge] at hj;have hlt:j-cs'.length<Enc.sz α:=by
        have:=(zz6.1 hj).1;omega
       have:=h10 (j-cs'.length) hlt;rw[GO,←h3,Nat.add_sub_cancel' hge] at this;rw[this];exact hj
   obtain ⟨l,cs',h1,h2,h3,h4,hB⟩:=key len (zz2 _);refine ⟨l,⟨hB,by rw[h1];exact hw2⟩,?_⟩;simp only[gM,af,Z9];refine ⟨some a,cap,by rw[h1],by omega,hm,?_,GW l⟩;by_cases hz:len=0
   ·left;have:l=[]:=List.length_eq_zero_iff.1 (by omega);rw[this];rfl
   right
   have hpos:0<cs'.length:=by rw[h3];exact Nat.mul_pos (Nat.pos_of_ne_zero hz) he.o9
   have h0:=h4 0 cs'[0] (zy0 hpos);have hsp:a.spot=none:=by
    simp only[Addr.add,if_true] at h0;unfold World.cell? at h0;split at h0
    ·split at h0
     ·cases h0
     ·rename_i hs;cases hh:a.spot <;>simp_all
    ·cases h0
   have ha:∀ j,a.add j=⟨a.block,a.off+j,none⟩:=fun j=>by
    unfold Addr.add;split
    ·rename_i hj;subst hj;cases a;simp_all
    ·rfl
   refine ⟨a.block,a.off,cs',by cases a;simp_all,fun j v hj =>?_,h2⟩;have h5:=h4 j v hj;rw[ha] at h5;refine ⟨h5,?_⟩
   show (⟨a.block,a.off+j,none⟩:Addr).block<_
   exact World.block_lt_of_cell? w _ h5⟩
theorem Zu{H:Type}{enc0:TypeId×Value→H}{P:Program}{w:World}{fuel:Nat}{t:TypeId}{l:List (TypeId×Nat)}{cs:List Value}{x:DataW H×List MemPlace}(ht:sw P t l=true)(h:DataW.trod enc0 P w 0 (fun _=>true) true fuel t cs=some x)(hwt:∀ k∈x.1.weights P t,k≤reachBytes) :
  cs.length=P.cellsOf t∧∃ m:Nat,∀ (i:Nat) (u:TypeId) (o:Nat),l[i]?=some (u,o)→∃ y,DataW.trod enc0 P w 0 (fun _=>true) true m u ((cs.drop o).take (P.cellsOf u))=some y∧∀ k∈y.1.weights P u,k≤reachBytes:=by
 obtain ⟨fs,h1,h2⟩:=VL ht;obtain ⟨xs,m,_,hx,h3,h4,h5⟩:=DataW.trod_struct h1 h;refine ⟨h3,m,fun i u o hi =>?_⟩;rw[←h2] at hi;simp only[zx3,t7,Prod.mk.injEq] at hi;obtain ⟨f,hf,rfl,rfl⟩:=hi;have hf':fs[i]?=some f:=by simpa using hf
 have h6:=h5 i f hf';have hlt:i<fs.size:=(zy1.1 hf').1;rw[zy0 (by omega)] at h6;refine ⟨_,h6,fun k hk=>hwt k ?_⟩;rw[hx];simp only[DataW.weights,h1];refine DataW.weights_mem_each (j:=i) ?_ ?_ k hk
 ·rw[zx3,hf];rfl
 ·rw[zx3,zy0 (by omega)];rfl
end Go.Abs
namespace Go.Abs
open Go Go.RowKit
open Enc (enc)
structure ar where
 b:ByteArray
 deriving DecidableEq,Inhabited
instance:Enc ar where
 enc s:=.ak s.b
 sz:=1
 aL:=.one
 gC:=false
 done _:=rfl
 size _:=by simp[I.size]
 iI _:=by simp[I.aL]
 agg _:=rfl
instance:Enc UInt8 where
 enc b:=.int .u8 b.toNat
 sz:=1
 aL:=.one
 gC:=false
 done _:=rfl
 size _:=by simp[I.size]
 iI _:=by simp[I.aL]
 agg _:=rfl
def ar.l(s:ar):List UInt8:=s.b.data.toList
def ar.of(l:List UInt8):ar:=⟨⟨l.toArray⟩⟩
theorem ar.wy(s:ar):ar.of s.l=s:=by obtain ⟨⟨⟨l⟩⟩⟩:=s;rfl
theorem ar.dQ(l:List UInt8):(ar.of l).l=l:=rfl
theorem ar.MJ{s t:ar}(h:s.l=t.l):s=t:=by rw[←ar.wy s,←ar.wy t,h]
theorem ar.s8{s t:List UInt8} : ar.of s=ar.of t↔s=t:=⟨fun h=>by rw[←ar.dQ s,h,ar.dQ],fun h=>by rw[h]⟩
theorem ar.size(s:ar):s.b.size=s.l.length:=Lib.size_eq s.b
theorem xC(s t:ByteArray):(s.toList==t.toList)=decide ((⟨s⟩:ar)=⟨t⟩):=by
 obtain ⟨⟨l⟩⟩:=s;obtain ⟨⟨m⟩⟩:=t;simp;by_cases h:l=m <;>simp[h]
def EX(a b:ar):ar:=⟨a.b++b.b⟩
theorem tF(s:ar):enc s=I.ak s.b:=rfl
theorem Y4(a b:ar)(h:a.l.length+b.l.length≤9223372036854775807):bG .add (enc a) (enc b)=some (enc (EX a b)):=by
 rw[←ar.size,←ar.size] at h;simp only[tF,bG,if_pos h,EX]
theorem xd(a b:ar):bG .eql (enc a) (enc b)=some (.bool (decide (a=b))):=by
 simp only[tF,bG,xC]
theorem xe(a b:ar):bG .neq (enc a) (enc b)=some (.bool (!decide (a=b))):=by
 simp only[tF,bG,xC]
theorem qT(a:ar):mg (enc a)=some (.int .i64 a.l.length):=by
 simp only[tF,mg,ar.size]
theorem E7(a:ar){i:Nat}(h:i<a.l.length):eF .ea [enc a,.int .i64 (i:Int)]=some (.int .u8 (a.l[i].toNat:Int)):=by
 show (if 0≤(i:Int) then (a.b.data.toList[(i:Int).toNat]?).map fun b=>I.int .u8 b.toNat else none)=_
 rw[if_pos (by omega),Int.toNat_natCast,zy0 (show i<a.b.data.toList.length from h)];rfl
theorem AW(s:ByteArray)(i j:Nat):(⟨s.extract i j⟩:ar)=ar.of ((s.data.toList.drop i).take (j-i)):=ar.MJ (Lib.extract_data s i j)
theorem xg(a:ar){i:Nat}(h2:i≤a.l.length):eF (.ss true false) [enc a,.int .i64 (i:Int)]=some (enc (ar.of (a.l.drop i))):=by
 show (if 0≤(i:Int)∧(i:Int)≤a.b.size then some (I.ak (a.b.extract (i:Int).toNat a.b.size)) else none)=_
 rw[if_pos ⟨by omega,by rw[ar.size];omega⟩,Int.toNat_natCast];refine (congrArg (fun s:ar=>some (enc s)) (AW a.b i a.b.size)).trans ?_;rw[ar.size,zw4 (by simp[ar.l])];rfl
theorem qU(a:ar){j:Nat}(h2:j≤a.l.length):eF (.ss false true) [enc a,.int .i64 (j:Int)]=some (enc (ar.of (a.l.take j))):=by
 show (if 0≤(j:Int)∧(j:Int)≤a.b.size then some (I.ak (a.b.extract 0 (j:Int).toNat)) else none)=_
 rw[if_pos ⟨by omega,by rw[ar.size];omega⟩,Int.toNat_natCast];exact congrArg (fun s:ar=>some (enc s)) (AW a.b 0 j)
theorem E0(n:Int):gu 1 (some [.int .u8 n])=some (.slice 1 [.int .u8 n]):=by
 simp[gu,I.size,I.cv,I.bC]
theorem EZ(A:ae)(n:Int):lj (c7 A 1 (.slice 1 [.int .u8 n]))=some (enc (ar.of [UInt8.ofNat n.toNat])):=rfl
theorem qV(b:UInt8):enc b=I.int .u8 (b.toNat:Int):=rfl
theorem E6(s:ar):lO (enc s)=some (s.l.map enc):=rfl
theorem EW{A:ae}{d:Nat}{k:ae→bZ}{l:List UInt8}(hd:A.o d=none) :
  ∃ p:Nat→Prop,iF A (some d) k (some (l.map enc))=.any p fun m=>k ((A.aQ d (.box (.agg ((l++List.replicate m 0).map enc)))).aP (some d) (.view d [] 1 0 l.length)):=by
 refine ⟨fun m=>(l.map enc).length+m≤maxLen,?_⟩;have e:∀ m,(l++List.replicate m (0:UInt8)).map enc=l.map enc++List.replicate m (I.int .u8 0):=fun m=>by
  rw[zx5,List.map_replicate];rfl
 simp only[iF,hd,e,Z9]
theorem aZ.eO{P:Program}{Y:Value→List I→List (Nat×aj)→b9→Prop}{K:ae→Prop}{ts:List (Nat×I)}{os:List (Nat×aj)}{d:Nat}{rest:List au}{l:List UInt8}(hd:aD os d=none)
  (h:∀ m,aZ P Y false K (al rest (aw ((d,.view d [] 1 0 l.length)::ts) ((d,.box (.agg ((l++List.replicate m 0).map enc)))::os)))):aZ P Y false K (iF (aw ts os) (some d) (al rest) (some (l.map enc))):=by
 obtain ⟨p,e⟩:=EW (A:=aw ts os) (k:=al rest) (l:=l) hd;rw[e];exact .any rfl fun m _=>h m
theorem A4{A:ae}{n:Nat}{l q:List UInt8}(h:A.o n=some (.box (.agg ((l++q).map enc)))):bf true A (.view n [] 1 0 l.length)=some (enc l):=by
 have h1:bf true A (.view n [] 1 0 l.length)=jU 1 0 l.length (some ((l++q).map enc)):=by
  rw[r2,h];rfl
 have e:jU 1 0 l.length (some ((l++q).map enc))=some (enc ((l++q).take l.length)):=oA rfl;rw[h1,e,List.take_left]
theorem bM.eO{P:Program}{Y:Value→List I→List (Nat×aj)→b9→Prop}{hs:List FuncId}{K:ae→Prop}{ts:List (Nat×I)}{os:List (Nat×aj)}{d:Nat}{rest:List au}{l:List UInt8}(hd:aD os d=none)
  (h:∀ m,bM P Y hs K (al rest (aw ((d,.view d [] 1 0 l.length)::ts) ((d,.box (.agg ((l++List.replicate m 0).map enc)))::os)))):bM P Y hs K (iF (aw ts os) (some d) (al rest) (some (l.map enc))):=by
 obtain ⟨p,e⟩:=EW (A:=aw ts os) (k:=al rest) (l:=l) hd;rw[e];exact .any fun m _=>h m
theorem E5(a:ar):bN none (enc a)=true:=rfl
theorem br :
  (∀ d rest A p xs,bm A d (.prim p xs) rest=cq (eF p (xs.map (ah A))) (cK d rest A))∧(∀ d rest A x,bm A d (.b2s x) rest=cq (lj (c7 A 1 (ah A x))) (cK d rest A)) ∧
  (∀ b,eF (.nf b) [.cU]=some (.bool (!b)))∧(∀ b t v,eF (.nf b) [.iface t v]=some (.bool b))∧(type_of% @xd)∧(type_of% @xe)∧(type_of% @qT)∧(type_of% @E0)∧(type_of% @EZ)∧(type_of% @E5)∧(∀ d rest A x,bm A d (.eO x) rest=iF A d (al rest) (lO (ah A x)))∧(type_of% @E6)∧(∀ a b,eF .min2 [.int .i64 a,.int .i64 b]=some (.int .i64 (if b<a then b else a))) ∧
  (∀ a b,bG .eql (.int .u8 a) (.int .u8 b)=some (.bool (a==b)))∧(∀ a b,bG .neq (.int .u8 a) (.int .u8 b)=some (.bool (a != b)))∧(∀ a b,bG .lss (.int .u8 a) (.int .u8 b)=some (.bool (decide (a<b))))∧(∀ a b,bG .gtr (.int .u8 a) (.int .u8 b)=some (.bool (decide (a>b)))) ∧
  (∀ a b,bG .leq (.int .u8 a) (.int .u8 b)=some (.bool (decide (a≤b))))∧(∀ a b,bG .geq (.int .u8 a) (.int .u8 b)=some (.bool (decide (a≥b))))∧(∀ a b,bG .sub (.int .u8 a) (.int .u8 b)=some (.int .u8 (IntKind.u8.wrap (a-b)))) :=
 ⟨fun _ _ _ _ _=>rfl,fun _ _ _ _=>rfl,fun _=>rfl,fun _ _ _=>rfl,xd,xe,qT,E0,EZ,E5,fun _ _ _ _=>rfl,E6,fun _ _=>rfl,fun _ _=>rfl,fun _ _=>rfl,fun _ _=>rfl,fun _ _=>rfl,fun _ _=>rfl,fun _ _=>rfl,fun _ _=>rfl⟩
end Go.Abs
namespace Go.Abs
open Go
open Enc (enc)
def jw(c:UInt8)(iq:Bool):List UInt8→List (List UInt8)
 | []=>[[]]
 |b::l=>if b=c then (if iq then [b] else [])::jw c iq l else match jw c iq l with
  |h::t=>(b::h)::t
  | []=>[[b]]
theorem Lt(c:UInt8)(iq:Bool)(l:List UInt8):jw c iq l≠[]:=by
 cases l with
 |nil=>simp[jw]
 |cons b l =>
  simp only[jw];split
  ·simp
  ·split <;>simp
theorem Aw{c:UInt8}{iq:Bool} : ∀ {l:List UInt8},(∀ b∈l,b≠c)→jw c iq l=[l]
 | [],_=>rfl
 |b::l,h=>by
  simp only[jw,if_neg (h b (by simp)),Aw (l:=l) fun x hx=>h x (by simp[hx])]
theorem Av{c:UInt8}{iq:Bool} : ∀ {x:List UInt8} (y:List UInt8),(∀ b∈x,b≠c)→jw c iq (x++c::y)=(x++if iq then [c] else [])::jw c iq y
 | [],y,_=>by cases iq <;>simp[jw]
 |b::x,y,h=>by
  simp only[zz8,jw,if_neg (h b (by simp)),Av (x:=x) y fun z hz=>h z (by simp[hz])]
def jf(b:UInt8):Bool:=decide (48≤b.toNat∧b.toNat≤57)
def eM(acc:Nat):List UInt8→Option Nat
 | []=>some acc
 |b::l=>if jf b then eM (acc*10+(b.toNat-48)) l else none
def sY(most:Nat)(w:List UInt8):Option Nat:=if w=[]∨most<w.length∨(w.head?=some 48∧1<w.length) then none else eM 0 w
theorem uY(x y:List UInt8):∀ acc,eM acc (x++y)=(eM acc x).bind fun n=>eM n y:=by
 induction x with
 |nil=>intro acc;rfl
 |cons b x ih =>
  intro acc;simp only[zz8,eM];split
  ·exact ih _
  ·rfl
theorem Ay:∀ (l:List UInt8) (acc n:Nat),eM acc l=some n→n<(acc+1)*10^l.length
 | [],acc,n,h=>by simp only[eM,v6] at h;simp;omega
 |b::l,acc,n,h=>by
  simp only[eM] at h;split at h
  case isFalse=>cases h
  rename_i hd;simp only[jf,decide_eq_true_eq] at hd;have:=Ay l _ n h;have h2:(acc*10+(b.toNat-48)+1)*10^l.length≤((acc+1)*10)*10^l.length:=Nat.mul_le_mul_right _ (by omega);rw[zx7,Nat.pow_succ]
  calc n<_:=this
   _≤_:=h2
   _=_:=by rw[Nat.mul_assoc,Nat.mul_comm 10 (10^l.length)]
theorem LY{l:List UInt8}{n k:Nat}(h:eM 0 l=some n)(hl:l.length≤k):n<10^k:=by
 have:=Ay l 0 n h;have h2:10^l.length≤10^k:=Nat.pow_le_pow_right (by omega) hl;omega
theorem C3:∀ (l:List UInt8) (acc:Nat),(acc+1)*10^l.length≤1000000000000000000→Lib.parseUint10 acc l=match eM acc l with | some n=>.ok n | none=>Lib.parseUint10 0 [97]
 | [],acc,_=>rfl
 |b::l,acc,h=>by
  have hp:1≤10^l.length:=Nat.one_le_pow _ _ (by decide);rw[zx7,Nat.pow_succ] at h;have hacc:(acc+1)*10≤1000000000000000000:=by
   calc (acc+1)*10=(acc+1)*(1*10):=by omega
    _≤(acc+1)*(10^l.length*10):=Nat.mul_le_mul_left _ (Nat.mul_le_mul_right _ hp)
    _≤_:=h
  simp only[Lib.parseUint10,eM,jf,decide_eq_true_eq];split
  ·rename_i hd;rw[if_neg (by omega),if_neg (by omega)];refine C3 l _ ?_
   calc (acc*10+(b.toNat-48)+1)*10^l.length≤((acc+1)*10)*10^l.length:=Nat.mul_le_mul_right _ (by omega)
    _=(acc+1)*(10^l.length*10):=by rw[Nat.mul_assoc,Nat.mul_comm 10 (10^l.length)]
    _≤_:=h
  ·rfl
theorem BL{x y:List UInt8}(h:x≠[]):(x++y).head?=x.head?:=by cases x with
 |nil=>exact absurd rfl h
 |cons _ _=>rfl
theorem AD(d:Nat)(h:d<10):(UInt8.ofNat (48+d)).toNat=48+d:=by simp;omega
theorem rW{u:Nat}(h:¬ u<10):Lib.decDigits u=Lib.decDigits (u / 10)++[UInt8.ofNat (48+u%10)]:=by
 rw[Lib.decDigits,dif_neg h]
theorem ot:∀ u:Nat,eM 0 (Lib.decDigits u)=some u∧Lib.decDigits u≠[]∧((Lib.decDigits u).head?=some 48→u=0)
 |u=>by
  by_cases h:u<10
  ·rw[Lib.decDigits_one h];have e:=AD u h;refine ⟨?_,by simp,fun h0 =>?_⟩
   ·have hd:jf (UInt8.ofNat (48+u))=true:=by simp only[jf,e,decide_eq_true_eq];omega
    simp only[eM,hd,if_true,e]
    congr 1;omega
   ·simp only[List.head?_cons,v6] at h0;have:=congrArg UInt8.toNat h0;rw[e] at this;simpa using this
  ·obtain ⟨h1,h2,h3⟩:=ot (u / 10);rw[rW h];have e:=AD (u%10) (by omega);refine ⟨?_,by simp,fun h0 =>?_⟩
   ·rw[uY,h1];have hd:jf (UInt8.ofNat (48+u%10))=true:=by simp only[jf,e,decide_eq_true_eq];omega
    simp only[zw8,eM,hd,if_true,e]
    congr 1;omega
   ·rw[BL h2] at h0;have:=h3 h0;omega
termination_by u=>u
decreasing_by omega
theorem AA:∀ (k:Nat) (w:List UInt8) (n:Nat),w.length≤k→w≠[]→¬ (w.head?=some 48∧1<w.length)→eM 0 w=some n→Lib.decDigits n=w
 |0,w,n,hk,hne,_,_=>absurd (zw1 (by omega)) hne
 |k+1,w,n,hk,hne,hz,h=>by
  have hw:=List.dropLast_concat_getLast hne;generalize w.getLast hne=b at hw;generalize w.dropLast=x at hw;subst hw;rw[uY] at h;cases hx:eM 0 x with
  |none=>rw[hx] at h;cases h
  |some m =>
   rw[hx] at h;simp only[zw8,eM] at h;split at h
   case isFalse=>cases h
   rename_i hd;simp only[v6] at h;simp only[jf,decide_eq_true_eq] at hd;have hb:UInt8.ofNat (48+(b.toNat-48))=b:=by
    rw[show 48+(b.toNat-48)=b.toNat by omega];simp
   by_cases hx0:x=[]
   ·subst hx0;simp only[eM,v6] at hx;subst hx;have hn:n=b.toNat-48:=by omega
    rw[Lib.decDigits_one (show n<10 by omega),hn,hb];rfl
   ·have hl:x.length+1≤k+1:=by simpa using hk
    have hz':¬ (x.head?=some 48):=fun e=>hz ⟨by rw[BL hx0];exact e,by have:=List.length_pos_iff.2 hx0;simp;omega⟩;have ih:=AA k x m (by omega) hx0 (fun e=>hz' e.1) hx;have hm:m≠0:=fun e=>by
     subst e;rw[Lib.decDigits_one (by omega)] at ih;rw[←ih] at hz';exact hz' rfl
    rw[rW (show ¬ n<10 by omega),show n / 10=m by omega,ih,show n%10=b.toNat-48 by omega,hb]
theorem WS{most:Nat}(hm:most≤18){w:List UInt8}{n:Nat}(h:sY most w=some n):Lib.atoiAll w=.ok (n:Int)∧w.length≤most∧Lib.itoa (n:Int)=w∧n<10^most:=by
 simp only[sY] at h;split at h
 ·cases h
 rename_i hc;rw[not_or,not_or] at hc;obtain ⟨h1,h2,h3⟩:=hc;have hs:=LY h (show w.length≤most by omega);have hb:n<9223372036854775808:=by
  have h5:10^most≤10^18:=Nat.pow_le_pow_right (by omega) hm;omega
 have hd:=AA w.length w n (zz2 _) h1 h3 h;refine ⟨?_,by omega,by rw[Lib.itoa_nonneg];exact hd,hs⟩;cases w with
 |nil=>exact absurd rfl h1
 |cons c r =>
  have hdc:jf c=true:=by
   simp only[eM] at h;split at h
   ·assumption
   ·cases h
  simp only[jf,decide_eq_true_eq] at hdc;have hp:=C3 (c::r) 0 (by
   have:10^(c::r).length≤10^18:=Nat.pow_le_pow_right (by omega) (by omega);omega)
  rw[h] at hp;simp only[Lib.atoiAll];rw[if_neg (by omega),Lib.parseMag,if_neg (by simp),hp];simp only;rw[if_neg (by omega),if_neg (by omega),if_neg (by omega)]
theorem AB{n:Int}(h:0≤n){c:UInt8}(hc:c.toNat<48):∀ b∈Lib.itoa n,b≠c:=by
 obtain ⟨m,rfl⟩:=zz9 h;rw[Lib.itoa_nonneg];have key:∀ (l:List UInt8) (acc:Nat),eM acc l≠none→∀ b∈l,b≠c:=by
  intro l
  induction l with
  |nil=>intro _ _ b hb;cases hb
  |cons x l ih =>
   intro acc hne b hb;simp only[eM] at hne;split at hne
   case isFalse=>exact absurd rfl hne
   rename_i hd;simp only[jf,decide_eq_true_eq] at hd;rcases zy8.1 hb with rfl | hb
   ·intro e;rw[e] at hd;omega
   ·exact ih _ hne b hb
 exact key _ 0 (by rw[(ot m).1];simp)
theorem Mn{α:Type}{l:List α}{i:Nat}(h:i<l.length):l.drop i=l[i]::l.drop (i+1):=List.drop_eq_getElem_cons h
theorem LZ{l:List UInt8}{j:Nat}(h:j<l.length)(hb:jf l[j]=false):eM 0 l=none:=by
 conv=>lhs;rw[←zx1 j l,Mn h]
 rw[uY];cases eM 0 (l.take j) with
 |none=>rfl
 |some n=>simp only[zw8,eM,hb,zz3,if_false]
theorem Fh{α:Type}[Enc α](A:ae){l:List α}{esz:Nat}{k:Nat}(hs:Enc.sz α=esz)(h:k≤l.length):iJ A esz none (some (.int .i64 (k:Int))) none (enc l)=some (enc (l.take k)):=by
 simp only[iJ,gM,hs,if_true,il,gJ,Z9];rw[if_pos (by omega)];simp only[Option.isSome_none,zz3,false_and,if_false,Int.toNat_natCast,Int.toNat_zero,List.drop_zero];rw[List.map_take]
end Go.Abs
namespace Go.Abs
open Go Go.Shelf Go.Proofs
open Enc (enc)
theorem He{w:World}{D:aH}{x y:ar}{vs:List Value}(ab:ao w D cu [enc x,enc y] vs):vs=[.string x.b,.string y.b]:=by
 have hv':ao w D cu [.ak x.b,.ak y.b] vs:=ab;simp only[ao] at hv';obtain ⟨v,rest,cs,rfl,h1,h2,v2,rest2,cs2,rfl,h3,h4,rfl⟩:=hv';rw[(gn (fG h1 h2)).1,(gn (fG h3 h4)).1]
theorem Lq{P:Program}{ρ:Ren}(av:Lays.n104 P ρ)(hc:dZ P (ρ.f 104)=true)(s p:ar):aS P (ρ.f 104) [enc s,enc p] (.tuple [enc (ar.of (Lib.trimSuffix s.l p.l)),enc (Lib.hasSuffix s.l p.l)]):=by
 refine ⟨hc,fun w D vs hl hD ab =>?_⟩;have hsz:s.b.size≤maxLen:=by
  have hv':ao w D cu [.ak s.b,.ak p.b] vs:=ab;simp only[ao] at hv';obtain ⟨v,rest,cs,rfl,h1,h2,_⟩:=hv';exact (gn (fG h1 h2)).2
 rw[He ab];refine (Any.strings_CutSuffix av s.b p.b w (by unfold maxLen at hsz;omega)).mono ?_;rintro e w' ⟨rfl,rfl⟩;refine ⟨_,D,rfl,⟨[_,_],rfl,?_⟩,Go.RowKit.Below.refl _ w',hD,fun _ _ h _=>h⟩;simp only[ao];refine ⟨_,_,[_],rfl,by simp[ba,I.isAgg,enc];rfl,?_,_,_,[_],rfl,by simp[ba,I.isAgg,enc];rfl,?_,rfl⟩
 ·show af _ _ _ (.ak _) _
  simp only[af];refine ⟨rfl,?_⟩
  show (Lib.trimSuffix s.l p.l).toArray.size≤maxLen
  have h1:(Lib.trimSuffix s.l p.l).length≤s.l.length:=by unfold Lib.trimSuffix;split <;>simp
  rw[ar.size] at hsz;simp only[List.size_toArray];omega
 ·show af _ _ _ (.bool _) _
  simp only[af];rfl
def gZ(T:TypeId)(l:List UInt8):I:=match Lib.atoiAll l with
 | .ok v=>.tuple [enc v,.cU]
 | .range=>.tuple [enc (Lib.atoiSat l),.iface T .any]
 | _ =>.tuple [enc (0:Int),.iface T .any]
theorem Lo {P : Program} {ρ : Ren} (av : LaysC.n172 P ρ) (hc : dZ P (ρ.f 172) = true) (g1 : P.globalNamed "strconv.ErrSyntax" = some (ρ.g 15)) (g2 : P.globalNamed "strconv.ErrRange" = some (ρ.g 16)) {T : TypeId} (hT : ρ.t 168 = T) (s : ar) (hs : s.l.length ≤ 281474976710656) : aS P (ρ.f 172) [enc s] (gZ T s.l) := by
 refine ⟨hc,fun w D vs hl hD ab =>?_⟩;subst hT;have hv':ao w D cu [.ak s.b] vs:=ab;simp only[ao] at hv';obtain ⟨v,rest,cs,rfl,h1,h2,rfl⟩:=hv';rw[(gn (fG h1 h2)).1];rw[←ar.size] at hs;obtain ⟨_, hv1, t1, p1, rfl⟩ := hl.sf (n := "strconv.ErrSyntax") (k := .ov) (by simp [mZ]) g1
 obtain ⟨_, hv2, t2, p2, rfl⟩ := hl.sf (n := "strconv.ErrRange") (k := .ov) (by simp [mZ]) g2
 have fail:∀ (n:Int) (w':World) (N:Nat),IntKind.i64.min≤n∧n≤IntKind.i64.max→Go.RowKit.Below w.heap.size w w' →
   ∃ v D',(Ending.returned (.tuple #[.int .i64 n,.iface (ρ.t 168) (.pointer (some ⟨N,0,none⟩))])=.returned v)∧aR w' D' cu (.tuple [enc n,.iface (ρ.t 168) .any]) v∧Go.RowKit.Below w.heap.size w w'∧(∀ b o,D' b o→b<w'.heap.size)∧∀ b o,D' b o→b<w.heap.size→D b o:=by
  intro n w' N hn hb;refine ⟨_,D,rfl,⟨[_,_],rfl,?_⟩,hb,fun b o hd=>zw9 (hD b o hd) hb.size,fun _ _ h _=>h⟩;simp only[ao];refine ⟨_,_,[_],rfl,by simp[ba,I.isAgg,enc];rfl,?_,_,_,[_],rfl,by simp[ba,I.isAgg];rfl,?_,rfl⟩
  ·show af _ _ _ (.int .i64 n) _
   simp only[af,true_and];exact hn
  ·simp only[af];exact ⟨_,[_],rfl,by simp[ba,I.isAgg];rfl,_,rfl,rfl⟩
 have hmin:IntKind.i64.min=-9223372036854775808:=by decide
 have hmax:IntKind.i64.max=9223372036854775807:=by decide
 cases hr:Lib.atoiAll s.b.data.toList with
 |ok n =>
  refine (Any.strconv_Atoi_ok av s.b (by omega) n hr w).mono ?_;rintro e w' ⟨rfl,hw⟩;have hb:Go.RowKit.Below w.heap.size w w':=by
   rcases hw with rfl | ⟨t,rfl⟩
   ·exact Go.RowKit.Below.refl _ _
   ·exact Lib.bytesWorld_below _ _ _
  have hn:=Lib.atoiAll_bounds hr;have e0:gZ (ρ.t 168) s.l=.tuple [enc n,.cU]:=by
   show gZ (ρ.t 168) s.b.data.toList=_
   simp only[gZ,hr]
  rw[e0];refine ⟨_,D,rfl,⟨[_,_],rfl,?_⟩,hb,fun b o hd=>zw9 (hD b o hd) hb.size,fun _ _ h _=>h⟩;simp only[ao];refine ⟨_,_,[_],rfl,by simp[ba,I.isAgg,enc];rfl,?_,_,_,[_],rfl,by simp[ba,I.isAgg];rfl,?_,rfl⟩
  ·show af _ _ _ (.int .i64 n) _
   simp only[af,true_and];rw[hmin,hmax];omega
  ·simp only[af]
 |range =>
  have e0:gZ (ρ.t 168) s.l=.tuple [enc (Lib.atoiSat s.l),.iface (ρ.t 168) .any]:=by
   show gZ (ρ.t 168) s.b.data.toList=_
   simp only[gZ,hr];rfl
  rw[e0];refine (Any.strconv_Atoi_range_var av s.b hs hr t2 p2 w hv2).mono ?_;rintro e w' ⟨N,rfl,_,_,hb⟩;have hn:=Lib.atoiSat_bounds s.b.data.toList;exact fail _ w' N (by rw[hmin,hmax];exact hn) hb
 | _ =>
  have e0:gZ (ρ.t 168) s.l=.tuple [enc (0:Int),.iface (ρ.t 168) .any]:=by
   show gZ (ρ.t 168) s.b.data.toList=_
   simp only[gZ,hr]
  rw[e0];refine (Any.strconv_Atoi_syntax_var av s.b hs hr t1 p1 w hv1).mono ?_;rintro e w' ⟨N,rfl,_,_,hb⟩;exact fail 0 w' N (by rw[hmin,hmax];omega) hb
end Go.Abs
namespace Go.Abs
open Go Go.Shelf Go.Proofs
open Enc (enc)
def vO(n:Int):ar:=ar.of (Lib.itoa n)
open Go.Sort Go.RowKit in
theorem uE(w:World)(k:Nat)(os:Array Obj):Go.RowKit.Below w.heap.size w (grow (w.drewN k) os) :=
 ⟨rfl,rfl,rfl,by simp,fun i hi=>by rw[heap_grow_old _ _ (by simpa using hi)];rfl⟩
theorem Ls{P:Program}{ρ:Ren}(av:LaysM.n171 P ρ)(hc:dZ P (ρ.f 171)=true){g:Nat}(hg:P.globalNamed sy=some g)(n:Int):aS P (ρ.f 171) [enc n] (enc (vO n)):=by
 refine ⟨hc,fun w D vs hl hD ab =>?_⟩;have hv':ao w D cu [.int .i64 n] vs:=ab;simp only[ao] at hv';obtain ⟨v,rest,cs,rfl,h1,h2,rfl⟩:=hv';obtain ⟨rfl,h3,h4⟩:=dB (fG h1 h2);have h3':-9223372036854775808≤n:=h3;have h4':n≤9223372036854775807:=h4;obtain ⟨_,htab,rfl⟩:=hl.sf (n:=sy) (k:=.tf) (by simp[mZ]) hg;refine (Any.strconv_Itoa av n h3' h4' w htab).mono ?_;rintro e w' ⟨rfl,k,os,rfl⟩;refine ⟨_,D,rfl,⟨[.string ⟨(Lib.itoa n).toArray⟩],by simp[ba,I.isAgg,enc],?_⟩,uE w k os,fun b o hd=>zw9 (hD b o hd) (uE w k os).size,fun _ _ h _=>h⟩;have hlen:=Lib.itoa_length_le n h3' h4'
 show af _ _ _ (.ak _) _
 simp only[af];refine ⟨rfl,?_⟩
 show (Lib.itoa n).toArray.size≤maxLen
 simp only[List.size_toArray,maxLen];omega
theorem xB{w:World}{D:aH}{s:ar}{p:List I}{vs:List Value}(ab:ao w D cu (enc s::p) vs):∃ rest,vs=.string s.b::rest∧s.b.size≤maxLen∧ao w D cu p rest:=by
 have hv':ao w D cu (.ak s.b::p) vs:=ab;simp only[ao] at hv';obtain ⟨v,rest,cs,rfl,h1,h2,h3⟩:=hv';obtain ⟨rfl,h4⟩:=gn (fG h1 h2);exact ⟨rest,rfl,h4,h3⟩
theorem ER{w:World}{D:aH}{E:aN}{l:List UInt8}(h:l.length≤maxLen):aR w D E (enc (ar.of l)) (.string ⟨l.toArray⟩):=by
 refine ⟨[.string ⟨l.toArray⟩],by simp[ba,I.isAgg,enc,ar.of],?_⟩
 show af _ _ _ (.ak _) _
 simp only[af];exact ⟨rfl,by show l.toArray.size≤maxLen;simpa using h⟩
theorem Lr{P:Program}{ρ:Ren}(av:Lays.n137 P ρ)(hc:dZ P (ρ.f 137)=true)(s:ar)(c:UInt8):aS P (ρ.f 137) [enc s,.int .u8 c.toNat] (enc (Lib.indexByte s.l c)):=by
 refine ⟨hc,fun w D vs hl hD ab =>?_⟩;obtain ⟨rest,rfl,hsz,hv2⟩:=xB ab;simp only[ao] at hv2;obtain ⟨v,rest2,cs,rfl,h1,h2,rfl⟩:=hv2;obtain ⟨rfl,_⟩:=dB (fG h1 h2);have key:=Any.strings_IndexByte av s.b (c.toNat:Int) w;have hcc:((c.toNat:Int)).toNat.toUInt8=c:=by simp
 rw[hcc] at key;refine Calls.mono key ?_;rintro e w' ⟨rfl,rfl⟩;refine ⟨_,D,rfl,⟨[_],by simp[ba,I.isAgg,enc];rfl,?_⟩,Go.RowKit.Below.refl _ w',hD,fun _ _ h _=>h⟩
 show af _ _ _ (.int .i64 (Lib.indexByte s.l c)) _
 simp only[af];refine ⟨rfl,?_⟩;have g1:=Lib.indexByte_ge s.l c;have g2:∀ l:List UInt8,Lib.indexByte l c≤l.length:=by
  intro l
  induction l with
  |nil=>simp[Lib.indexByte]
  |cons b l ih =>
   unfold Lib.indexByte
   (repeat' split) <;>simp only[zx7] <;>omega
 have g3:=g2 s.l;rw[ar.size] at hsz;have hmin:IntKind.i64.min=-9223372036854775808:=by decide
 have hmax:IntKind.i64.max=9223372036854775807:=by decide
 unfold maxLen at hsz;rw[hmin,hmax];omega
theorem Lp{P:Program}{ρ:Ren}(av:LaysM.n316 P ρ)(hc:dZ P (ρ.f 316)=true)(s:ar)(hs:s.l.length≤281474976710656):aS P (ρ.f 316) [enc s] (enc s):=by
 refine ⟨hc,fun w D vs hl hD ab =>?_⟩;obtain ⟨rest,rfl,hsz,hv2⟩:=xB ab;simp only[ao] at hv2;subst hv2;refine (Any.stringslite_Clone av s.b w (by rw[ar.size];exact hs)).mono ?_;rintro e w' ⟨rfl,hb⟩;refine ⟨_,D,rfl,⟨[_],by simp[ba,I.isAgg,enc];rfl,?_⟩,hb,fun b o hd=>zw9 (hD b o hd) hb.size,fun _ _ h _=>h⟩
 show af _ _ _ (.ak s.b) _
 simp only[af,true_and];exact hsz
end Go.Abs
namespace Go.Abs
open Go
theorem Bc(c:UInt8):∀ l:List UInt8,(∀ b∈l,b≠c)∨∃ x y,(∀ b∈x,b≠c)∧l=x++c::y
 | []=>.inl (by simp)
 |b::l=>by
  by_cases hb:b=c
  ·exact .inr ⟨[],l,by simp,by rw[hb];rfl⟩
  ·rcases Bc c l with h | ⟨x,y,h,rfl⟩
   ·refine .inl fun z hz =>?_;rcases zy8.1 hz with rfl | hz
    ·exact hb
    ·exact h z hz
   ·refine .inr ⟨b::x,y,fun z hz =>?_,rfl⟩;rcases zy8.1 hz with rfl | hz
    ·exact hb
    ·exact h z hz
theorem uZ:∀ (k n:Nat),n<10^(k+1)→(Lib.decDigits n).length≤k+1
 |0,n,h=>by rw[Lib.decDigits_one (by omega)];simp
 |k+1,n,h=>by
  by_cases q:n<10
  ·rw[Lib.decDigits_one q];simp
  ·rw[rW q,Z8];have:=uZ k (n / 10) (by rw[Nat.pow_succ] at h;omega);simp only[zx7,zw2];omega
theorem WR{k n:Nat}(h:n<10^(k+1)):sY (k+1) (Lib.itoa (n:Int))=some n:=by
 rw[Lib.itoa_nonneg];obtain ⟨h1,h2,h3⟩:=ot n;have hl:=uZ k n h;simp only[sY];rw[if_neg,h1];rintro (h | h | ⟨h4,h5⟩)
 ·exact h2 h
 ·omega
 ·rw[h3 h4,Lib.decDigits_one (by omega)] at h5;simp at h5
theorem VV{n:Int}(h:0≤n):Lib.itoa n≠[]:=by
 obtain ⟨m,rfl⟩:=zz9 h;rw[Lib.itoa_nonneg];exact (ot m).2.1
theorem ql{k:Nat}{n:Int}(h:0≤n∧n<((10^(k+1):Nat):Int)):(Lib.itoa n).length≤k+1:=by
 obtain ⟨m,rfl⟩:=zz9 h.1;rw[Lib.itoa_nonneg];exact uZ k m (by omega)
end Go.Abs
namespace Go.Abs
open Go Go.RowKit
open Enc (enc)
def sx:Option Nat→Code
 |none=>.ret
 |some id=>.exit id
def vg:Option Nat→Exit
 |none=>.ret
 |some id=>.exit id
def pB(o:Obj)(A:ae)(os:List (Nat×aj)):Prop:=∀ n x,aD (bR o os) n=some x→A.o n=some x∧x.only (aC (bR o os))=true∧x.eB=true
def EI(o:Obj)(In:List (Nat×aj)→Prop)(Ix:Option Nat→List (Nat×aj)→Prop):Exit→ae→Prop
 | .normal,A=>∃ os,pB o A os∧In os
 | .ret,A=>∃ os,pB o A os∧Ix none os
 | .exit id,A=>∃ os,pB o A os∧Ix (some id) os
 |_,_=>False
section
variable {c:ct} {Q:Exit→ae→Prop}
theorem VD{o:Obj}{A:ae}{os:List (Nat×aj)}(h:pB o A os)(o':Obj):∀ n x,aD (bR o' os) n=some x→(A.aQ 1999999 (.dm o')).o n=some x∧x.only (aC (bR o' os))=true∧x.eB=true:=fun n x hx=>by
 have e:aC (bR o' os)=aC (bR o os):=by funext m;rw[jZ,jZ]
 rw[e];by_cases hn:n=1999999
 ·subst hn;rw[oQ,if_pos rfl,v6] at hx;subst hx;exact ⟨by simp[ae.aQ],rfl,rfl⟩
 ·rw[oQ,if_neg hn] at hx;obtain ⟨h1,h2⟩:=h n x (by rw[oQ,if_neg hn];exact hx);exact ⟨by simp only[ae.aQ,if_neg hn];exact h1,h2⟩
end
mutual
theorem nw{ρ:Nat→Nat}(h:∀ n,ρ n=n):∀ x:I,x.aT ρ=x
 | .agg fs | .tuple fs=>by simp only[I.aT];rw[lL h fs]
 | .slice _ es=>by simp only[I.aT];rw[lL h es]
 | .ref x=>by simp only[I.aT];rw[nw h x]
 | .func _ caps=>by simp only[I.aT];rw[lL h caps]
 | .iface _ v=>by simp only[I.aT];rw[nw h v]
 | .ptr _ _ | .own _ _ | .view _ _ _ _ _ | .mref _ | .c8 _=>by simp only[I.aT,h]
 | .da ks vs=>by simp only[I.aT];rw[lL h ks,lL h vs]
 | .bool _ | .int _ _ | .ak _ | .nilp | .di | .cU | .any | .raw _ | .nils _ | .c0 _ | .undef | .dc=>by simp only[I.aT]
theorem lL{ρ:Nat→Nat}(h:∀ n,ρ n=n):∀ xs:List I,I.db ρ xs=xs
 | []=>rfl
 |x::xs=>by simp only[I.db];rw[nw h x,lL h xs]
end
theorem aj.nw{ρ:Nat→Nat}(h:∀ n,ρ n=n):∀ x:aj,x.aT ρ=x
 | .box x=>by simp only[aj.aT,Abs.nw h]
 | .bF _ _ es=>by simp only[aj.aT,lL h]
 | .dm _=>rfl
 | .dW _ _=>rfl
 | .cn _ _=>by simp only[aj.aT,lL h]
 | .it _ _ _ _=>by simp only[aj.aT,lL h]
theorem YF(os:List (Nat×aj)):df [] os=os:=by
 simp only[df];have:(fun q:Nat×aj=>(bo [] q.1,q.2.aT (bo [])))=id:=by
  funext q
  rw[aj.nw (ρ:=bo []) (fun n=>rfl)];rfl
 rw[this,List.map_id]
theorem Ck(a b:List (Nat×aj))(n:Nat):aD (a++b) n=match aD a n with
  |some x=>some x
  |none=>aD b n:=by
 induction a with
 |nil=>rfl
 |cons q a ih =>
  obtain ⟨k,v⟩:=q;simp only[zz8,aD];split
  ·rfl
  ·exact ih
theorem fC.none{os os':List (Nat×aj)}(h:fC os os'){n:Nat}(hn:n<1000000):aD os' n=none:=by
 cases hx:aD os' n with
 |none=>rfl
 |some x =>
  have h1:aC os' n=true:=by simp[aC,hx]
  rw[h.same] at h1;exact absurd (h.mc n h1) (by omega)
theorem bx.slots{ts ts':List (Nat×I)}{os os':List (Nat×aj)}(h1:bV ts ts')(h2:∀ n,aD os n=aD os' n):bx (aw ts os) (aw ts' os'):=by
 have e:aw ts os=aw ts os':=by
  simp only[aw];congr 1;funext n;exact h2 n
 rw[e];rintro c a w ⟨D,E,hs⟩;refine ⟨D,E,hs.sz,hs.er,fun t =>?_,hs.dn,hs.cO,hs.cS,hs.bD,hs.cD,hs.dG,hs.eN,hs.cE,hs.eV,hs.fy⟩;rcases xD h1 t with h | h
 ·simp only[aw];rw[h];simp[aR]
 ·have:=hs.dK t;simp only[aw] at *;rw[h];exact this
theorem yK{os osk os2 ow:List (Nat×aj)}{ts:List (Nat×I)}(h1:fC os osk)(h2:fC os os2)(how:∀ m,aC ow m=true→m<1000000):aw ts (df [] os2++(ow++osk))=aw ts (ow++os2):=by
 simp only[aw,YF]
 congr 1
 funext n
 simp only[Ck];cases hw:aD ow n with
 |none =>
  simp only;cases h3:aD os2 n with
  |some x=>rfl
  |none =>
   simp only;cases h4:aD osk n with
   |none=>rfl
   |some x =>
    have h5:aC osk n=true:=by simp[aC,h4]
    rw[h1.same,←h2.same] at h5;simp[aC,h3] at h5
 |some x =>
  simp only;rw[h2.none (how n (by simp[aC,hw]))]
theorem eX.jW{os osk ow:List (Nat×aj)}(h1:fC os osk)(how:∀ m,aC ow m=true→m<1000000):eX [] osk (ow++osk):=by
 refine ⟨fun m x hx =>?_,fun m m' _ _ h=>h⟩;have hm:aC osk m=true:=by simp[aC,hx]
 have hg:=h1.mc m (by rw[←h1.same];exact hm);obtain ⟨k1,k2⟩:=h1.ok m x hx;refine ⟨?_,k1,k2⟩;rw[aj.nw (ρ:=bo []) (fun n=>rfl)];simp only[bo,Ck];cases hw:aD ow m with
 |none=>exact hx
 |some y=>have:=how m (by simp[aC,hw]);omega
theorem dL.jW{os osk os2 os0:List (Nat×aj)}{r:I}(h1:fC os osk)(h2:fC os os2)(hr:r.bC=true):dL false [] osk os0 r os2:=by
 refine ⟨fun m x hx=>⟨(h2.ok m x hx).1,(h2.ok m x hx).2,fun h=>by cases h⟩,fun m m' _ _ h=>h,fun m hm=>by rw[h2.same,←h1.same];exact hm,fun m h3 h4 =>?_,mq _ r hr,fun h=>by cases h⟩;rw[h2.same,←h1.same,h4] at h3;cases h3
theorem aZ.ZW{P:Program}{Y:Value→List I→List (Nat×aj)→b9→Prop}{K:ae→Prop}{v:Value}{vs:List I}{dst:Option Nat}{rest:List au}{ts:List (Nat×I)}{os osk ow:List (Nat×aj)}{In Ix:List (Nat×aj)→Prop}
  (hY:Y v vs osk (fun r os2=>(r=.bool true∧In os2)∨(r=.bool false∧Ix os2))) (hk:fC os osk) (hi:∀ os',In os'→fC os os') (hx:∀ os',Ix os'→fC os os') (hcl:I.cv vs=true) (how:∀ m,aC ow m=true→m<1000000)
  (h1:∀ os2,In os2→aZ P Y false K (al rest ((aw ts (ow++os2)).aP dst (.bool true)))) (h2:∀ os2,Ix os2→aZ P Y false K (al rest ((aw ts (ow++os2)).aP dst (.bool false)))) :
  aZ P Y false K (.lu v vs dst rest (aw ts (ow++osk))):=by
 refine .tY osk vs _ rfl hY (eX.jW hk how) (yG vs hcl) ?_ ?_
 ·rintro r os' (⟨rfl,h⟩ | ⟨rfl,h⟩)
  ·exact dL.jW hk (hi _ h) rfl
  ·exact dL.jW hk (hx _ h) rfl
 ·rintro r os' (⟨rfl,h⟩ | ⟨rfl,h⟩)
  ·rw[yK hk (hi _ h) how];exact h1 os' h
  ·rw[yK hk (hx _ h) how];exact h2 os' h
theorem I9(A:ae)(d:Option Nat)(args:List I)(rest:List au)(v:Value):pT A d args rest (.raw v)=.lu v args d rest A:=rfl
end Go.Abs
namespace Go.Proofs.YtoffnnjbplgnaaaGreatDoor
open Go Go.Abs
open Go.Abs.Enc (enc)
structure Item where
 aO:Int
 no:Int
 deriving DecidableEq,Inhabited
instance:Enc Item where
 enc x:=.agg [.int .i64 x.aO,.int .i64 x.no]
 sz:=2
 aL:=.eE [.one,.one]
 gC:=true
 done _:=rfl
 size _:=by simp[I.size,I.sizes]
 iI _:=by simp[I.aL,I.cJ]
 agg _:=rfl
structure ai where
 aO:Int
 no:Int
 kind:Int
 ec:Int
 known:Int
 fi:Int
 ft:Int
 text:List UInt8
 deriving DecidableEq,Inhabited
def ai.bp(r:ai):Item:=⟨r.aO,r.no⟩
def ai.fQ(r:ai):Item:=⟨r.fi,r.ft⟩
instance:Enc ai where
 enc r:=.agg [enc r.bp,.int .i64 r.kind,.int .i64 r.ec,.int .i64 r.known,enc r.fQ,enc (ar.of r.text)]
 sz:=8
 aL:=.eE [.eE [.one,.one],.one,.one,.one,.eE [.one,.one],.one]
 gC:=true
 done e:=by simp only[I.done,I.iP,Enc.done,Bool.and_self]
 size e:=by simp only[I.size,I.sizes,jT];rfl
 iI e:=by simp only[I.aL,I.cJ,ed];rfl
 agg _:=rfl
structure dp where
 bz:List UInt8
 cX:List UInt8
 deriving DecidableEq,Inhabited
instance:Enc dp where
 enc r:=.agg [enc (ar.of r.bz),enc (ar.of r.cX)]
 sz:=2
 aL:=.eE [.one,.one]
 gC:=true
 done e:=by simp only[I.done,I.iP,Enc.done,Bool.and_self]
 size e:=by simp only[I.size,I.sizes,jT];rfl
 iI e:=by simp only[I.aL,I.cJ,ed];rfl
 agg _:=rfl
structure cF where
 cd:dp
 copy:dp
 deriving DecidableEq,Inhabited
instance:Enc cF where
 enc r:=.agg [enc r.cd,enc r.copy]
 sz:=4
 aL:=.eE [.eE [.one,.one],.eE [.one,.one]]
 gC:=true
 done e:=by simp only[I.done,I.iP,Enc.done,Bool.and_self]
 size e:=by simp only[I.size,I.sizes,jT];rfl
 iI e:=by simp only[I.aL,I.cJ,ed];rfl
 agg _:=rfl
structure jb where
 l:List ai
 deriving DecidableEq,Inhabited
instance:Enc jb where
 enc b:=.agg [enc b.l]
 sz:=1
 aL:=.eE [.one]
 gC:=true
 done e:=by simp only[I.done,I.iP,Enc.done,Bool.and_self]
 size e:=by simp only[I.size,I.sizes,jT];rfl
 iI e:=by simp only[I.aL,I.cJ,ed];rfl
 agg _:=rfl
theorem oV{fs:List I}{f off:Nat}{v:I}(h1:f<fs.length)(h:I.sizes (fs.take f)=off):fI fs f off v=some v:=by simp[fI,h,h1]
theorem Mu:Enc.sz Item=2:=rfl
theorem Mw:Enc.sz ar=1:=rfl
theorem Mv:Enc.sz dp=2:=rfl
theorem CK(x:I)(fs:List I)(v:I):fI (x::fs) 0 0 v=some v:=oV (by simp) (by simp[I.sizes])
theorem CH(a b:Item)(n1 n2 n3:Int)(s:ar)(v:I) :
  (fI [enc a,.int .i64 n1,.int .i64 n2,.int .i64 n3,enc b,enc s] 1 2 v=some v)∧(fI [enc a,.int .i64 n1,.int .i64 n2,.int .i64 n3,enc b,enc s] 2 3 v=some v)∧(fI [enc a,.int .i64 n1,.int .i64 n2,.int .i64 n3,enc b,enc s] 3 4 v=some v) ∧
  (fI [enc a,.int .i64 n1,.int .i64 n2,.int .i64 n3,enc b,enc s] 4 5 v=some v)∧(fI [enc a,.int .i64 n1,.int .i64 n2,.int .i64 n3,enc b,enc s] 5 7 v=some v):=by
 refine ⟨?_,?_,?_,?_,?_⟩ <;>refine oV (t8 rfl) ?_ <;>simp[I.sizes,I.size,jT,Mu]
theorem CG(n1 n2:Int)(v:I):fI [.int .i64 n1,.int .i64 n2] 1 1 v=some v:=oV (t8 rfl) (by simp[I.sizes,I.size])
theorem CJ(a b:ar)(v:I):fI [enc a,enc b] 1 1 v=some v:=oV (t8 rfl) (by simp[I.sizes,jT,Mw])
theorem CI(a b:dp)(v:I):fI [enc a,enc b] 1 2 v=some v:=oV (t8 rfl) (by simp[I.sizes,jT,Mv])
theorem FK :
  (∀ x:Item,(enc x).dh=some [.int .i64 x.aO,.int .i64 x.no])∧(∀ r:ai,(enc r).dh=some [enc r.bp,.int .i64 r.kind,.int .i64 r.ec,.int .i64 r.known,enc r.fQ,enc (ar.of r.text)])∧(∀ r:dp,(enc r).dh=some [enc (ar.of r.bz),enc (ar.of r.cX)]) ∧
  (∀ r:cF,(enc r).dh=some [enc r.cd,enc r.copy])∧(∀ b:jb,(enc b).dh=some [enc b.l])∧(type_of% @CK)∧(type_of% @CH)∧(type_of% @CG)∧(type_of% @CJ)∧(type_of% @CI) ∧
  (∀ x:Item,bN (some 2) (enc x)=true)∧(∀ x:ai,bN (some 8) (enc x)=true)∧(∀ x:dp,bN (some 2) (enc x)=true)∧(∀ x:cF,bN (some 4) (enc x)=true)∧(∀ x:jb,bN (some 1) (enc x)=true)∧(∀ x:ar,bN none (enc x)=true)∧(∀ x:List ai,bN none (enc x)=true) ∧
  (∀ r:ai,r.bp.aO=r.aO)∧(∀ r:ai,r.bp.no=r.no)∧(∀ r:ai,r.fQ.aO=r.fi)∧(∀ r:ai,r.fQ.no=r.ft) ∧
  (∀ (fs:List I) x,(x::fs)[0]?=some x)∧(∀ (fs:List I) x n,(x::fs)[n+1]?=fs[n]?)∧(∀ (fs:List I) x,(x::fs)[1]?=fs[0]?)∧(∀ (fs:List I) x,(x::fs)[2]?=fs[1]?)∧(∀ (fs:List I) x,(x::fs)[3]?=fs[2]?)∧(∀ (fs:List I) x,(x::fs)[4]?=fs[3]?)∧(∀ (fs:List I) x,(x::fs)[5]?=fs[4]?) :=
 ⟨fun _=>rfl,fun _=>rfl,fun _=>rfl,fun _=>rfl,fun _=>rfl,CK,CH,CG,CJ,CI,fun _=>by rw[gy];rfl,fun _=>by rw[gy];rfl,fun _=>by rw[gy];rfl,fun _=>by rw[gy];rfl,fun _=>by rw[gy];rfl,fun _=>rfl,fun _=>rfl,
  fun _=>rfl,fun _=>rfl,fun _=>rfl,fun _=>rfl,fun _ _=>rfl,fun _ _ _=>rfl,fun _ _=>rfl,fun _ _=>rfl,fun _ _=>rfl,fun _ _=>rfl,fun _ _=>rfl⟩
theorem vd(x y:Item):bW (.aV [.i .i64,.i .i64]) (enc x) (enc y)=some (decide (x=y)):=by
 show bW (.aV [.i .i64,.i .i64]) (.agg [.int .i64 x.aO,.int .i64 x.no]) (.agg [.int .i64 y.aO,.int .i64 y.no])=_
 have:x=y↔x.aO=y.aO∧x.no=y.no:=by cases x;cases y;simp
 simp[bW,gN,iN,this];rfl
theorem AO(x y:ar):bW .s (enc x) (enc y)=some (decide (x=y)):=by
 show bW .s (.ak x.b) (.ak y.b)=_
 simp only[bW];exact congrArg some (xC _ _)
theorem AM(x y:ai):bW (.aV [.aV [.i .i64,.i .i64],.i .i64,.i .i64,.i .i64,.aV [.i .i64,.i .i64],.s]) (enc x) (enc y)=some (decide (x=y)):=by
 show bW (.aV [.aV [.i .i64,.i .i64],.i .i64,.i .i64,.i .i64,.aV [.i .i64,.i .i64],.s]) (.agg [enc x.bp,.int .i64 x.kind,.int .i64 x.ec,.int .i64 x.known,enc x.fQ,enc (ar.of x.text)]) (.agg [enc y.bp,.int .i64 y.kind,.int .i64 y.ec,.int .i64 y.known,enc y.fQ,enc (ar.of y.text)])=_
 have:x=y↔x.bp=y.bp∧x.kind=y.kind∧x.ec=y.ec∧x.known=y.known∧x.fQ=y.fQ∧x.text=y.text:=by cases x;cases y;simp[ai.bp,ai.fQ,and_assoc]
 rw[bW];simp only[gN,vd,AO,ar.s8];simp[bW,iN,this];rfl
theorem ve(x y:dp):bW (.aV [.s,.s]) (enc x) (enc y)=some (decide (x=y)):=by
 show bW (.aV [.s,.s]) (.agg [enc (ar.of x.bz),enc (ar.of x.cX)]) (.agg [enc (ar.of y.bz),enc (ar.of y.cX)])=_
 have:x=y↔x.bz=y.bz∧x.cX=y.cX:=by cases x;cases y;simp
 rw[bW];simp only[gN,AO,ar.s8];simp[iN,this]
theorem AN(x y:cF):bW (.aV [.aV [.s,.s],.aV [.s,.s]]) (enc x) (enc y)=some (decide (x=y)):=by
 show bW (.aV [.aV [.s,.s],.aV [.s,.s]]) (.agg [enc x.cd,enc x.copy]) (.agg [enc y.cd,enc y.copy])=_
 have:x=y↔x.cd=y.cd∧x.copy=y.copy:=by cases x;cases y;simp
 rw[bW];simp only[gN,ve];simp[iN,this]
theorem C6:(∀ r:ai,(enc r).at [0,0]=some (.int .i64 r.aO))∧(∀ r:ai,(enc r).at [0,1]=some (.int .i64 r.no))∧(∀ r:ai,(enc r).at [4,0]=some (.int .i64 r.fi))∧(∀ r:ai,(enc r).at [4,1]=some (.int .i64 r.ft))∧(∀ zs,eT zs []=some zs) ∧
  (∀ (a b:Nat) (l:List Nat),[a]++(b::l)=a::b::l)∧(∀ (a b c:Nat) (l:List Nat),[a,b]++(c::l)=a::b::c::l) :=
 ⟨fun _=>rfl,fun _=>rfl,fun _=>rfl,fun _=>rfl,fun _=>rfl,fun _ _ _=>rfl,fun _ _ _ _=>rfl⟩
theorem aF:(type_of% @C6)∧(type_of% @FK)∧(∀ {α:Type} [Enc α] (aE:Bool) (A:ae) (x:α),bf aE A (enc x)=some (enc x))∧(∀ {α:Type} [Enc α] (x:α),(enc x).cC=true)∧(type_of% @vd)∧(type_of% @AM)∧(type_of% @ve)∧(type_of% @AN)∧(type_of% @Ai)∧(type_of% @jn)∧(type_of% @bd) :=
 ⟨C6,FK,@jg,@eQ,vd,AM,ve,AN,Ai,jn,bd⟩
theorem fr{i n:Nat}(h:i<n):decide ((i:Int)<(n:Int))=true:=by simp;omega
theorem fM{i n:Nat}(h:¬ i<n):decide ((i:Int)<(n:Int))=false:=by simp;omega
theorem eU{i:Nat}(h:i<9223372036854775807):IntKind.i64.wrap ((i:Int)+1)=((i+1:Nat):Int):=by rw[dX _ (by omega) (by omega)];rfl
def eC(lo hi n:Int):Bool:=decide (lo≤n)&&decide (n≤hi)
theorem mE(n lo hi:Int):aS Tryz.prog 128 [enc n,enc lo,enc hi] (enc (eC lo hi n)):=by
 refine aS.bS Tryz.func128 H3 Ji Kx (t8 rfl) (fun hwf W0 bL E1 =>?_);simp only[y9,Dn,bH,zz5,Nat.reduceAdd];have R:=aF
 repeat' ((first |(with_reducible refine .guard (fun hb =>?_) (fun hb =>?_) <;>try simp only[hb])|refine U.aJ (by decide +kernel) rfl fun K hK =>?_|(refine .aG [0,1,2,6] hK ?_;clear hK K)|(with_reducible refine .done (hK _ ?_);clear hK K)|refine U.of rfl ?_|(with_reducible refine az.aI (fun h =>?_) (fun h =>?_) <;>try simp only[h])) <;>try simp only[aK,R,simprocAttr])
 all_goals clear R
 all_goals (simp at *;simp_all[eC])
 all_goals omega
theorem mG(n lo hi:Int):aS Tryz.prog 82 [enc n,enc lo,enc hi] (enc (eC lo hi n)):=by
 refine aS.bS Tryz.func82 IU JY Le (t8 rfl) (fun hwf W0 bL E1 =>?_);simp only[zN,Ea,bH,zz5,Nat.reduceAdd];have R:=aF
 repeat' ((first |(with_reducible refine .guard (fun hb =>?_) (fun hb =>?_) <;>try simp only[hb])|refine U.aJ (by decide +kernel) rfl fun K hK =>?_|(refine .aG [0,1,2,6] hK ?_;clear hK K)|(with_reducible refine .done (hK _ ?_);clear hK K)|refine U.of rfl ?_|(with_reducible refine az.aI (fun h =>?_) (fun h =>?_) <;>try simp only[h])) <;>try simp only[aK,R,simprocAttr])
 all_goals clear R
 all_goals (simp at *;simp_all[eC])
 all_goals omega
theorem xU(n:Int):aS Tryz.prog 105 [enc n] (enc (eC 0 100000 n)):=by
 refine aS.bS Tryz.func105 HX Jf Ks (t8 rfl) (fun hwf W0 bL E1 =>?_);simp only[y5,Dj,bH];have R:=aF
 repeat' ((first |refine U.aJ (by decide +kernel) rfl fun K hK =>?_|refine .flat _ (mE n 0 100000) rfl ?_|(refine .aG [0,2] hK ?_;clear hK K)|(with_reducible refine .done (hK _ ?_);clear hK K)|refine U.of rfl ?_|(with_reducible refine az.aI (fun h =>?_) (fun h =>?_) <;>try simp only[h])) <;>try simp only[aK,R,simprocAttr])
 all_goals clear R
theorem yk(n:Int):aS Tryz.prog 79 [enc n] (enc (eC 0 1000002 n)):=by
 refine aS.bS Tryz.func79 IP JU La (t8 rfl) (fun hwf W0 bL E1 =>?_);simp only[zK,D6,bH];have R:=aF
 repeat' ((first |refine U.aJ (by decide +kernel) rfl fun K hK =>?_|refine .flat _ (mE n 0 1000002) rfl ?_|(refine .aG [0,2] hK ?_;clear hK K)|(with_reducible refine .done (hK _ ?_);clear hK K)|refine U.of rfl ?_|(with_reducible refine az.aI (fun h =>?_) (fun h =>?_) <;>try simp only[h])) <;>try simp only[aK,R,simprocAttr])
 all_goals clear R
def iz(x:Item):Bool:=eC 0 5 x.aO&&eC 0 9999 x.no
theorem xW(x:Item):aS Tryz.prog 129 [enc x] (enc (iz x)):=by
 refine aS.bS Tryz.func129 H4 Jj Ky (t8 rfl) (fun hwf W0 bL E1 =>?_);simp only[za,Dp,bH];cases q:eC 0 5 x.aO
 ·simp only[iz,q,Bool.false_and];have R:=y6 @q aF
  repeat' ((first |(with_reducible refine .guard (fun hb =>?_) (fun hb =>?_) <;>try simp only[hb])|refine U.aJ (by decide +kernel) rfl fun K hK =>?_|refine .flat _ (mE x.aO 0 5) rfl ?_|refine .flat _ (mE x.no 0 9999) rfl ?_|(refine .aG [0,1,2] hK ?_;clear hK K)|(with_reducible refine .done (hK _ ?_);clear hK K)|refine U.of rfl ?_|(with_reducible refine az.aI (fun h =>?_) (fun h =>?_) <;>try simp only[h])) <;>try simp only[aK,R,simprocAttr])
  all_goals clear R
 ·simp only[iz,q,Bool.true_and];have R:=y6 @q aF
  repeat' ((first |(with_reducible refine .guard (fun hb =>?_) (fun hb =>?_) <;>try simp only[hb])|refine U.aJ (by decide +kernel) rfl fun K hK =>?_|refine .flat _ (mE x.aO 0 5) rfl ?_|refine .flat _ (mE x.no 0 9999) rfl ?_|(refine .aG [0,1,2] hK ?_;clear hK K)|(with_reducible refine .done (hK _ ?_);clear hK K)|refine U.of rfl ?_|(with_reducible refine az.aI (fun h =>?_) (fun h =>?_) <;>try simp only[h])) <;>try simp only[aK,R,simprocAttr])
  all_goals clear R
theorem yl(x:Item):aS Tryz.prog 85 [enc x] (enc (iz x)):=by
 refine aS.bS Tryz.func85 IW J0 Lg (t8 rfl) (fun hwf W0 bL E1 =>?_);simp only[c85,Ec,bH];cases q:eC 0 5 x.aO
 ·simp only[iz,q,Bool.false_and];have R:=y6 @q aF
  repeat' ((first |(with_reducible refine .guard (fun hb =>?_) (fun hb =>?_) <;>try simp only[hb])|refine U.aJ (by decide +kernel) rfl fun K hK =>?_|refine .flat _ (mG x.aO 0 5) rfl ?_|refine .flat _ (mG x.no 0 9999) rfl ?_|(refine .aG [0,1,2] hK ?_;clear hK K)|(with_reducible refine .done (hK _ ?_);clear hK K)|refine U.of rfl ?_|(with_reducible refine az.aI (fun h =>?_) (fun h =>?_) <;>try simp only[h])) <;>try simp only[aK,R,simprocAttr])
  all_goals clear R
 ·simp only[iz,q,Bool.true_and];have R:=y6 @q aF
  repeat' ((first |(with_reducible refine .guard (fun hb =>?_) (fun hb =>?_) <;>try simp only[hb])|refine U.aJ (by decide +kernel) rfl fun K hK =>?_|refine .flat _ (mG x.aO 0 5) rfl ?_|refine .flat _ (mG x.no 0 9999) rfl ?_|(refine .aG [0,1,2] hK ?_;clear hK K)|(with_reducible refine .done (hK _ ?_);clear hK K)|refine U.of rfl ?_|(with_reducible refine az.aI (fun h =>?_) (fun h =>?_) <;>try simp only[h])) <;>try simp only[aK,R,simprocAttr])
  all_goals clear R
end Go.Proofs.YtoffnnjbplgnaaaGreatDoor
namespace Go.Proofs.YtoffnnjbplgnaaaGreatDoor
open Go Go.Abs Go.Shelf
open Go.Abs.Enc (enc)
def Wa:Go.Shelf.Ren:=⟨fun | 104=>125 | 211=>153 | 207=>169 | n=>n,fun | 9=>9 | 4=>4 | 24=>42 | 3=>3 | n=>n,fun | n=>n⟩
theorem V9:Go.Proofs.Lays.n104 Tryz.prog Wa := {
 mixed:=by kernel_rfl
 f104:=Tryz.func125.trans (congrArg some (by kernel_rfl))
 f207:=Tryz.func169.trans (congrArg some (by kernel_rfl))
 f211:=Tryz.func153.trans (congrArg some (by kernel_rfl))
 t3:=Tryz.underlying3
 a3:=Tryz.isAgg3
 z3:=Tryz.sizeOf3
 v3:=Tryz.zeroValue3
 t4:=Tryz.underlying4
 a4:=Tryz.isAgg4
 z4:=Tryz.sizeOf4
 v4:=Tryz.zeroValue4
 t9:=Tryz.underlying9
 a9:=Tryz.isAgg9
 z9:=Tryz.sizeOf9
 v9:=Tryz.zeroValue9
 t24:=Tryz.underlying42
 a24:=Tryz.isAgg42
 z24:=Tryz.sizeOf42
 v24:=Tryz.zeroValue42 }
def B8:Go.Shelf.Ren:=⟨fun | 137=>123 | 217=>152 | 266=>168 | n=>n,fun | 9=>9 | 5=>5 | 3=>3 | n=>n,fun | n=>n⟩
theorem B7:Go.Proofs.Lays.n137 Tryz.prog B8 := {
 mixed:=by kernel_rfl
 f137:=Tryz.func123.trans (congrArg some (by kernel_rfl))
 f217:=Tryz.func152.trans (congrArg some (by kernel_rfl))
 f266:=Tryz.func168.trans (congrArg some (by kernel_rfl))
 t3:=Tryz.underlying3
 a3:=Tryz.isAgg3
 z3:=Tryz.sizeOf3
 v3:=Tryz.zeroValue3
 t5:=Tryz.underlying5
 a5:=Tryz.isAgg5
 z5:=Tryz.sizeOf5
 v5:=Tryz.zeroValue5
 t9:=Tryz.underlying9
 a9:=Tryz.isAgg9
 z9:=Tryz.sizeOf9
 v9:=Tryz.zeroValue9 }
def V5:Go.Shelf.Ren:=⟨fun | 172=>155 | 244=>171 | 245=>172 | 247=>189 | 279=>190 | 280=>191 | 281=>192 | 282=>193 | 287=>207 | 316=>127 | 171=>132 | 205=>208 | 321=>215 | 322=>216 | 243=>158 | 246=>174 | 283=>195 | 284=>196 | 285=>197 | 286=>198 | 129=>185 | 317=>209 | 318=>210 | 319=>211 | 320=>212 | 337=>217 | 338=>218 | n=>n,fun | 9=>9 | 3=>3 | 75=>199 | 76=>200 | 4=>4 | 5=>5 | 167=>231 | 37=>45 | 0=>0 | 85=>232 | 2=>2 | 168=>234 | 53=>227 | 175=>250 | 46=>208 | 210=>253 | 127=>202 | 145=>266 | 143=>264 | 21=>21 | 171=>239 | 173=>241 | 212=>256 | 51=>225 | 20=>20 | 213=>257 | 232=>267 | 233=>268 | 80=>206 | n=>n,fun | 15=>1 | 16=>2 | 17=>3 | 18=>4 | 19=>5 | n=>n⟩
theorem V4:Go.Proofs.LaysC.n172 Tryz.prog V5 := {
 mixed:=by kernel_rfl
 f129:=Tryz.func185.trans (congrArg some (by kernel_rfl))
 f171:=Tryz.func132.trans (congrArg some (by kernel_rfl))
 f172:=Tryz.func155.trans (congrArg some (by kernel_rfl))
 f205:=Tryz.func208.trans (congrArg some (by kernel_rfl))
 f243:=Tryz.func158.trans (congrArg some (by kernel_rfl))
 f244:=Tryz.func171.trans (congrArg some (by kernel_rfl))
 f245:=Tryz.func172.trans (congrArg some (by kernel_rfl))
 f246:=Tryz.func174.trans (congrArg some (by kernel_rfl))
 f247:=Tryz.func189.trans (congrArg some (by kernel_rfl))
 f279:=Tryz.func190.trans (congrArg some (by kernel_rfl))
 f280:=Tryz.func191.trans (congrArg some (by kernel_rfl))
 f281:=Tryz.func192.trans (congrArg some (by kernel_rfl))
 f282:=Tryz.func193.trans (congrArg some (by kernel_rfl))
 f283:=Tryz.func195.trans (congrArg some (by kernel_rfl))
 f284:=Tryz.func196.trans (congrArg some (by kernel_rfl))
 f285:=Tryz.func197.trans (congrArg some (by kernel_rfl))
 f286:=Tryz.func198.trans (congrArg some (by kernel_rfl))
 f287:=Tryz.func207.trans (congrArg some (by kernel_rfl))
 f316:=Tryz.func127.trans (congrArg some (by kernel_rfl))
 f317:=Tryz.func209.trans (congrArg some (by kernel_rfl))
 f318:=Tryz.func210.trans (congrArg some (by kernel_rfl))
 f319:=Tryz.func211.trans (congrArg some (by kernel_rfl))
 f320:=Tryz.func212.trans (congrArg some (by kernel_rfl))
 f321:=Tryz.func215.trans (congrArg some (by kernel_rfl))
 f322:=Tryz.func216.trans (congrArg some (by kernel_rfl))
 f337:=Tryz.func217.trans (congrArg some (by kernel_rfl))
 f338:=Tryz.func218.trans (congrArg some (by kernel_rfl))
 t0:=Tryz.underlying0
 a0:=Tryz.isAgg0
 z0:=Tryz.sizeOf0
 v0:=Tryz.zeroValue0
 t2:=Tryz.underlying2
 a2:=Tryz.isAgg2
 z2:=Tryz.sizeOf2
 v2:=Tryz.zeroValue2
 t3:=Tryz.underlying3
 a3:=Tryz.isAgg3
 z3:=Tryz.sizeOf3
 v3:=Tryz.zeroValue3
 t4:=Tryz.underlying4
 a4:=Tryz.isAgg4
 z4:=Tryz.sizeOf4
 v4:=Tryz.zeroValue4
 t5:=Tryz.underlying5
 a5:=Tryz.isAgg5
 z5:=Tryz.sizeOf5
 v5:=Tryz.zeroValue5
 t9:=Tryz.underlying9
 a9:=Tryz.isAgg9
 z9:=Tryz.sizeOf9
 v9:=Tryz.zeroValue9
 t20:=Tryz.underlying20
 a20:=Tryz.isAgg20
 z20:=Tryz.sizeOf20
 v20:=Tryz.zeroValue20
 t21:=Tryz.underlying21
 a21:=Tryz.isAgg21
 z21:=Tryz.sizeOf21
 v21:=Tryz.zeroValue21
 t37:=Tryz.underlying45
 a37:=Tryz.isAgg45
 z37:=Tryz.sizeOf45
 v37:=Tryz.zeroValue45
 t46:=Tryz.underlying208
 a46:=Tryz.isAgg208
 z46:=Tryz.sizeOf208
 v46:=Tryz.zeroValue208
 t51:=Tryz.underlying225
 a51:=Tryz.isAgg225
 z51:=Tryz.sizeOf225
 v51:=Tryz.zeroValue225
 t53:=Tryz.underlying227
 a53:=Tryz.isAgg227
 z53:=Tryz.sizeOf227
 v53:=Tryz.zeroValue227
 t75:=Tryz.underlying199
 a75:=Tryz.isAgg199
 z75:=Tryz.sizeOf199
 v75:=Tryz.zeroValue199
 t76:=Tryz.underlying200
 a76:=Tryz.isAgg200
 z76:=Tryz.sizeOf200
 v76:=Tryz.zeroValue200
 t85:=Tryz.underlying232
 a85:=Tryz.isAgg232
 z85:=Tryz.sizeOf232
 v85:=Tryz.zeroValue232
 t127:=Tryz.underlying202
 a127:=Tryz.isAgg202
 z127:=Tryz.sizeOf202
 v127:=Tryz.zeroValue202
 t143:=Tryz.underlying264
 a143:=Tryz.isAgg264
 z143:=Tryz.sizeOf264
 v143:=Tryz.zeroValue264
 t145:=Tryz.underlying266
 a145:=Tryz.isAgg266
 z145:=Tryz.sizeOf266
 v145:=Tryz.zeroValue266
 t167:=Tryz.underlying231
 a167:=Tryz.isAgg231
 z167:=Tryz.sizeOf231
 v167:=Tryz.zeroValue231
 t168:=Tryz.underlying234
 a168:=Tryz.isAgg234
 z168:=Tryz.sizeOf234
 v168:=Tryz.zeroValue234
 t171:=Tryz.underlying239
 a171:=Tryz.isAgg239
 z171:=Tryz.sizeOf239
 v171:=Tryz.zeroValue239
 t173:=Tryz.underlying241
 a173:=Tryz.isAgg241
 z173:=Tryz.sizeOf241
 v173:=Tryz.zeroValue241
 t175:=Tryz.underlying250
 a175:=Tryz.isAgg250
 z175:=Tryz.sizeOf250
 v175:=Tryz.zeroValue250
 t210:=Tryz.underlying253
 a210:=Tryz.isAgg253
 z210:=Tryz.sizeOf253
 v210:=Tryz.zeroValue253
 t212:=Tryz.underlying256
 a212:=Tryz.isAgg256
 z212:=Tryz.sizeOf256
 v212:=Tryz.zeroValue256
 t213:=Tryz.underlying257
 a213:=Tryz.isAgg257
 z213:=Tryz.sizeOf257
 t232:=Tryz.underlying267
 a232:=Tryz.isAgg267
 z232:=Tryz.sizeOf267
 v232:=Tryz.zeroValue267
 t233:=Tryz.underlying268
 a233:=Tryz.isAgg268
 z233:=Tryz.sizeOf268
 v233:=Tryz.zeroValue268
 g15:=by kernel_rfl
 g16:=by kernel_rfl
 g17:=by kernel_rfl
 g18:=by kernel_rfl
 g19:=by kernel_rfl
 t80:=Tryz.underlying206
 a80:=Tryz.isAgg206
 z80:=Tryz.sizeOf206
 v80:=Tryz.zeroValue206
 i0:=by kernel_rfl
 i2:=by kernel_rfl
 i3:=by kernel_rfl
 i4:=by kernel_rfl
 i5:=by kernel_rfl
 i9:=by kernel_rfl
 i20:=by kernel_rfl
 i21:=by kernel_rfl
 i37:=by kernel_rfl
 i46:=by kernel_rfl
 i51:=by kernel_rfl
 i53:=by kernel_rfl
 i75:=by kernel_rfl
 i76:=by kernel_rfl
 i80:=by kernel_rfl
 i85:=by kernel_rfl
 i127:=by kernel_rfl
 i143:=by kernel_rfl
 i145:=by kernel_rfl
 i167:=by kernel_rfl
 i168:=by kernel_rfl
 i171:=by kernel_rfl
 i173:=by kernel_rfl
 i175:=by kernel_rfl
 i210:=by kernel_rfl
 i212:=by kernel_rfl
 i232:=by kernel_rfl
 i233:=by kernel_rfl
 m15:=by kernel_rfl
 m16:=by kernel_rfl
 m17:=by kernel_rfl
 m18:=by kernel_rfl
 m19:=by kernel_rfl
 c0:=by kernel_rfl
 c2:=by kernel_rfl
 c3:=by kernel_rfl
 c4:=by kernel_rfl
 c5:=by kernel_rfl
 c9:=by kernel_rfl
 c20:=by kernel_rfl
 c21:=by kernel_rfl
 c37:=by kernel_rfl
 c46:=by kernel_rfl
 c51:=by kernel_rfl
 c53:=by kernel_rfl
 c75:=by kernel_rfl
 c76:=by kernel_rfl
 c80:=by kernel_rfl
 c85:=by kernel_rfl
 c127:=by kernel_rfl
 c143:=by kernel_rfl
 c145:=by kernel_rfl
 c167:=by kernel_rfl
 c168:=by kernel_rfl
 c171:=by kernel_rfl
 c173:=by kernel_rfl
 c175:=by kernel_rfl
 c210:=by kernel_rfl
 c212:=by kernel_rfl
 c213:=by kernel_rfl
 c232:=by kernel_rfl
 c233:=by kernel_rfl }
def V6:Go.Shelf.Ren:=⟨fun | 171=>132 | 243=>158 | 246=>174 | 283=>195 | 284=>196 | 285=>197 | 286=>198 | 129=>185 | 317=>209 | 318=>210 | 319=>211 | 320=>212 | 337=>217 | 338=>218 | n=>n,fun | 3=>3 | 9=>9 | 2=>2 | 4=>4 | 171=>239 | 0=>0 | 53=>227 | 37=>45 | 5=>5 | 173=>241 | 212=>256 | 51=>225 | 20=>20 | 213=>257 | 46=>208 | 232=>267 | 233=>268 | n=>n,fun | 17=>3 | 18=>4 | 19=>5 | n=>n⟩
theorem B6:Go.Proofs.LaysM.n171 Tryz.prog V6 := {
 mixed:=by kernel_rfl
 f129:=Tryz.func185.trans (congrArg some (by kernel_rfl))
 f171:=Tryz.func132.trans (congrArg some (by kernel_rfl))
 f243:=Tryz.func158.trans (congrArg some (by kernel_rfl))
 f246:=Tryz.func174.trans (congrArg some (by kernel_rfl))
 f283:=Tryz.func195.trans (congrArg some (by kernel_rfl))
 f284:=Tryz.func196.trans (congrArg some (by kernel_rfl))
 f285:=Tryz.func197.trans (congrArg some (by kernel_rfl))
 f286:=Tryz.func198.trans (congrArg some (by kernel_rfl))
 f317:=Tryz.func209.trans (congrArg some (by kernel_rfl))
 f318:=Tryz.func210.trans (congrArg some (by kernel_rfl))
 f319:=Tryz.func211.trans (congrArg some (by kernel_rfl))
 f320:=Tryz.func212.trans (congrArg some (by kernel_rfl))
 f337:=Tryz.func217.trans (congrArg some (by kernel_rfl))
 f338:=Tryz.func218.trans (congrArg some (by kernel_rfl))
 t0:=Tryz.underlying0
 a0:=Tryz.isAgg0
 z0:=Tryz.sizeOf0
 v0:=Tryz.zeroValue0
 t2:=Tryz.underlying2
 a2:=Tryz.isAgg2
 z2:=Tryz.sizeOf2
 v2:=Tryz.zeroValue2
 t3:=Tryz.underlying3
 a3:=Tryz.isAgg3
 z3:=Tryz.sizeOf3
 v3:=Tryz.zeroValue3
 t4:=Tryz.underlying4
 a4:=Tryz.isAgg4
 z4:=Tryz.sizeOf4
 v4:=Tryz.zeroValue4
 t5:=Tryz.underlying5
 a5:=Tryz.isAgg5
 z5:=Tryz.sizeOf5
 v5:=Tryz.zeroValue5
 t9:=Tryz.underlying9
 a9:=Tryz.isAgg9
 z9:=Tryz.sizeOf9
 v9:=Tryz.zeroValue9
 t20:=Tryz.underlying20
 a20:=Tryz.isAgg20
 z20:=Tryz.sizeOf20
 v20:=Tryz.zeroValue20
 t37:=Tryz.underlying45
 a37:=Tryz.isAgg45
 z37:=Tryz.sizeOf45
 v37:=Tryz.zeroValue45
 t46:=Tryz.underlying208
 a46:=Tryz.isAgg208
 z46:=Tryz.sizeOf208
 v46:=Tryz.zeroValue208
 t51:=Tryz.underlying225
 a51:=Tryz.isAgg225
 z51:=Tryz.sizeOf225
 v51:=Tryz.zeroValue225
 t53:=Tryz.underlying227
 a53:=Tryz.isAgg227
 z53:=Tryz.sizeOf227
 v53:=Tryz.zeroValue227
 t171:=Tryz.underlying239
 a171:=Tryz.isAgg239
 z171:=Tryz.sizeOf239
 v171:=Tryz.zeroValue239
 t173:=Tryz.underlying241
 a173:=Tryz.isAgg241
 z173:=Tryz.sizeOf241
 v173:=Tryz.zeroValue241
 t212:=Tryz.underlying256
 a212:=Tryz.isAgg256
 z212:=Tryz.sizeOf256
 v212:=Tryz.zeroValue256
 t213:=Tryz.underlying257
 a213:=Tryz.isAgg257
 z213:=Tryz.sizeOf257
 t232:=Tryz.underlying267
 a232:=Tryz.isAgg267
 z232:=Tryz.sizeOf267
 v232:=Tryz.zeroValue267
 t233:=Tryz.underlying268
 a233:=Tryz.isAgg268
 z233:=Tryz.sizeOf268
 v233:=Tryz.zeroValue268
 g17:=by kernel_rfl
 g18:=by kernel_rfl
 g19:=by kernel_rfl
 i0:=by kernel_rfl
 i2:=by kernel_rfl
 i3:=by kernel_rfl
 i4:=by kernel_rfl
 i5:=by kernel_rfl
 i9:=by kernel_rfl
 i20:=by kernel_rfl
 i37:=by kernel_rfl
 i46:=by kernel_rfl
 i51:=by kernel_rfl
 i53:=by kernel_rfl
 i171:=by kernel_rfl
 i173:=by kernel_rfl
 i212:=by kernel_rfl
 i232:=by kernel_rfl
 i233:=by kernel_rfl
 m17:=by kernel_rfl
 m18:=by kernel_rfl
 m19:=by kernel_rfl }
def V8:Go.Shelf.Ren:=⟨fun | 316=>127 | n=>n,fun | 9=>9 | 3=>3 | 4=>4 | 37=>45 | 0=>0 | 127=>202 | 5=>5 | n=>n,fun | n=>n⟩
theorem V7:Go.Proofs.LaysM.n316 Tryz.prog V8 := {
 mixed:=by kernel_rfl
 f316:=Tryz.func127.trans (congrArg some (by kernel_rfl))
 t0:=Tryz.underlying0
 a0:=Tryz.isAgg0
 z0:=Tryz.sizeOf0
 v0:=Tryz.zeroValue0
 t3:=Tryz.underlying3
 a3:=Tryz.isAgg3
 z3:=Tryz.sizeOf3
 v3:=Tryz.zeroValue3
 t4:=Tryz.underlying4
 a4:=Tryz.isAgg4
 z4:=Tryz.sizeOf4
 v4:=Tryz.zeroValue4
 t9:=Tryz.underlying9
 a9:=Tryz.isAgg9
 z9:=Tryz.sizeOf9
 v9:=Tryz.zeroValue9
 t37:=Tryz.underlying45
 a37:=Tryz.isAgg45
 z37:=Tryz.sizeOf45
 v37:=Tryz.zeroValue45
 t127:=Tryz.underlying202
 a127:=Tryz.isAgg202
 z127:=Tryz.sizeOf202
 v127:=Tryz.zeroValue202
 t5:=Tryz.underlying5
 a5:=Tryz.isAgg5
 z5:=Tryz.sizeOf5
 v5:=Tryz.zeroValue5
 i0:=by kernel_rfl
 i3:=by kernel_rfl
 i4:=by kernel_rfl
 i5:=by kernel_rfl
 i9:=by kernel_rfl
 i37:=by kernel_rfl
 i127:=by kernel_rfl }
theorem F2(s p:ar):aS Tryz.prog 125 [enc s,enc p] (.tuple [enc (ar.of (Lib.trimSuffix s.l p.l)),enc (Lib.hasSuffix s.l p.l)]):=Lq V9 H0 s p
theorem F1(s:ar)(c:UInt8):aS Tryz.prog 123 [enc s,.int .u8 c.toNat] (enc (Lib.indexByte s.l c)):=Lr B7 HZ s c
theorem ue(s:ar)(hs:s.l.length≤281474976710656):aS Tryz.prog 155 [enc s] (gZ 234 s.l):=Lo V4 Im (by kernel_rfl) (by kernel_rfl) rfl s hs
theorem F7(n:Int):aS Tryz.prog 132 [enc n] (enc (vO n)):=Ls B6 H7 (g:=3) (by kernel_rfl) n
theorem F4(s:ar)(hs:s.l.length≤281474976710656):aS Tryz.prog 127 [enc s] (enc s):=Lp V7 H2 s hs
theorem V3:Go.Proofs.Lays.n217 Tryz.prog B8 := { B7 with }
theorem VH(l:List UInt8)(c:UInt8):-1≤Lib.indexByte l c∧Lib.indexByte l c≤l.length:=by
 refine ⟨Lib.indexByte_ge l c,?_⟩
 induction l with
 |nil=>simp[Lib.indexByte]
 |cons b l ih =>
  unfold Lib.indexByte
  (repeat' split) <;>simp only[zx7] <;>omega
theorem Gg(s:ar)(c:UInt8):aS Tryz.prog 152 [enc s,.int .u8 c.toNat] (enc (Lib.indexByte s.l c)):=by
 refine ⟨Ik,fun w D vs hl hD ab =>?_⟩;obtain ⟨rest,rfl,hsz,hv2⟩:=xB ab;simp only[ao] at hv2;obtain ⟨v,rest2,cs,rfl,h1,h2,rfl⟩:=hv2;obtain ⟨rfl,_⟩:=dB (fG h1 h2);have key:=Any.stringslite_IndexByte V3 s.b (c.toNat:Int) w;have hcc:((c.toNat:Int)).toNat.toUInt8=c:=by simp
 rw[hcc] at key;refine Calls.mono key ?_;rintro e w' ⟨rfl,rfl⟩;refine ⟨_,D,rfl,⟨[_],by simp[ba,I.isAgg,enc];rfl,?_⟩,Go.RowKit.Below.refl _ w',hD,fun _ _ h _=>h⟩
 show af _ _ _ (.int .i64 (Lib.indexByte s.l c)) _
 simp only[af];refine ⟨rfl,?_⟩;have g:=VH s.l c;rw[ar.size] at hsz;have hmin:IntKind.i64.min=-9223372036854775808:=by decide
 have hmax:IntKind.i64.max=9223372036854775807:=by decide
 unfold maxLen at hsz;rw[hmin,hmax];omega
theorem Gk(s:ar)(c:UInt8):aS Tryz.prog 188 [enc s,enc (ar.of [c])] (enc (Lib.indexByte s.l c)):=by
 refine aS.bS Tryz.func188 Iu JC KR (t8 rfl) (fun hwf W0 bL E1 =>?_);simp only[zt,DK,bH,zz5];have hsi:=E7 (ar.of [c]) (i:=0) (by rw[ar.dQ];exact Nat.zero_lt_one);have hl1:mg (enc (ar.of [c]))=some (.int .i64 1):=by rw[qT];rfl
 have hsi':eF .ea [enc (ar.of [c]),.int .i64 0]=some (.int .u8 (c.toNat:Int)):=hsi;cases q:decide (ar.of [c]=s)
 ·have R:=y6 @hsi' (y6 @hl1 (y6 @q (y6 @br aF)))
  repeat' ((first |(with_reducible refine .guard (fun hb =>?_) (fun hb =>?_) <;>try simp only[hb])|refine U.aJ (by decide +kernel) rfl fun K hK =>?_|refine .flat _ (Gg s c) rfl ?_|(refine .aG [0,1,4,5,6,7,8,9,10,11,12,13,16,24,31,36,59,64,73,93,107,114,132,139] hK ?_;clear hK K)|(with_reducible refine .done (hK _ ?_);clear hK K)|refine U.of rfl ?_|(with_reducible refine az.aI (fun h =>?_) (fun h =>?_) <;>try simp only[h])) <;>try simp only[aK,R,simprocAttr])
  all_goals clear R
 ·have e:=of_decide_eq_true q;subst e;have R:=y6 @hl1 (y6 @br aF)
  repeat' ((first |(with_reducible refine .guard (fun hb =>?_) (fun hb =>?_) <;>try simp only[hb])|refine U.aJ (by decide +kernel) rfl fun K hK =>?_|(refine .aG [0,1,4,5,6,7,8,9,10,11,12,13,16,24,31,36,59,64,73,93,107,114,132,139] hK ?_;clear hK K)|(with_reducible refine .done (hK _ ?_);clear hK K)|refine U.of rfl ?_|(with_reducible refine az.aI (fun h =>?_) (fun h =>?_) <;>try simp only[h])) <;>try simp only[aK,R,eq_self,decide_true,simprocAttr])
  all_goals clear R
  show I.int .i64 0=I.int .i64 (Lib.indexByte [c] c)
  simp[Lib.indexByte]
def dA(c:UInt8):List UInt8→Option (List UInt8×List UInt8)
 | []=>none
 |b::l=>if b=c then some ([],l) else (dA c l).map fun p=>(b::p.1,p.2)
def jP(c:UInt8)(l:List UInt8):List UInt8×List UInt8×Bool:=match dA c l with
 |some p=>(p.1,p.2,true)
 |none=>(l,[],false)
theorem rT(c:UInt8):∀ l:List UInt8,(dA c l=none∧Lib.indexByte l c=-1)∨∃ i:Nat,i<l.length∧Lib.indexByte l c=i∧dA c l=some (l.take i,l.drop (i+1))
 | []=>.inl ⟨rfl,rfl⟩
 |b::l=>by
  by_cases h:b=c
  ·refine .inr ⟨0,by simp,by simp[Lib.indexByte,h],by simp[dA,h]⟩
  ·rcases rT c l with ⟨h1,h2⟩ | ⟨i,h0,h1,h2⟩
   ·refine .inl ⟨by simp[dA,h,h1],by simp[Lib.indexByte,h,h2]⟩
   ·refine .inr ⟨i+1,by simpa using h0,?_,by simp[dA,h,h2]⟩;simp only[Lib.indexByte,h1];simp[h]
    try omega
theorem Gj(s:ar)(c:UInt8):aS Tryz.prog 170 [enc s,enc (ar.of [c])] (.tuple [enc (ar.of (jP c s.l).1),enc (ar.of (jP c s.l).2.1),enc (jP c s.l).2.2]):=by
 refine aS.wf z7 fun hwf0 =>?_;have hlen:s.l.length≤maxLen:=by
  have:=hwf0.1;rw[←ar.size];exact this
 simp only[maxLen] at hlen;refine aS.bS Tryz.func170 z7 Jz KO (t8 rfl) (fun hwf W0 bL E1 =>?_);simp only[zq,DH,bH,zz5];clear hwf;have hF:=Gk s c;have hl1:mg (enc (ar.of [c]))=some (.int .i64 1):=by rw[qT];rfl
 rcases rT c s.l with ⟨h1,h2⟩ | ⟨i,h0,h1,h2⟩
 ·rw[h2] at hF;simp only[jP,h1];have R:=y6 @hl1 (y6 @br aF)
  repeat' ((first |refine U.aJ (by decide +kernel) rfl fun K hK =>?_|refine .flat _ (hF) rfl ?_|(refine .aG [0,1,4,5,6,7,12] hK ?_;clear hK K)|(with_reducible refine .done (hK _ ?_);clear hK K)|refine U.of rfl ?_|(with_reducible refine az.aI (fun h =>?_) (fun h =>?_) <;>try simp only[h])) <;>try simp only[aK,R,decide_false,simprocAttr])
  all_goals clear R
  rw[ar.wy];rfl
 ·rw[h1] at hF;simp only[jP,h2];have g1:=qU s (j:=i) (by omega);have g2:=xg s (i:=i+1) (by omega);have hw:=eU (i:=i) (by omega);have hd:decide ((i:Int)≥0)=true:=decide_eq_true (by omega);have R:=y6 @hd (y6 @hl1 (y6 @hw (y6 @g1 (y6 @g2 (y6 @br aF)))))
  repeat' ((first |refine U.aJ (by decide +kernel) rfl fun K hK =>?_|refine .flat _ (hF) rfl ?_|(refine .aG [0,1,4,5,6,7,12] hK ?_;clear hK K)|(with_reducible refine .done (hK _ ?_);clear hK K)|refine U.of rfl ?_|(with_reducible refine az.aI (fun h =>?_) (fun h =>?_) <;>try simp only[h])) <;>try simp only[aK,R,decide_true,simprocAttr])
  all_goals clear R
  trace_state
  all_goals rfl
theorem x9(s:ar)(c:UInt8):aS Tryz.prog 154 [enc s,enc (ar.of [c])] (.tuple [enc (ar.of (jP c s.l).1),enc (ar.of (jP c s.l).2.1),enc (jP c s.l).2.2]):=by
 refine aS.bS Tryz.func154 Il Ju KJ (t8 rfl) (fun hwf W0 bL E1 =>?_);simp only[zl,DB,bH,zz5];have R:=y6 @br aF
 repeat' ((first |refine U.aJ (by decide +kernel) rfl fun K hK =>?_|refine .flat _ (Gj s c) rfl ?_|(refine .aG [0,1,4,5,6] hK ?_;clear hK K)|(with_reducible refine .done (hK _ ?_);clear hK K)|refine U.of rfl ?_|(with_reducible refine az.aI (fun h =>?_) (fun h =>?_) <;>try simp only[h])) <;>try simp only[aK,R,simprocAttr])
 all_goals clear R
 all_goals rfl
theorem Gr(s:ar)(hs:s.l.length≤281474976710656):aS Tryz.prog 74 [enc s] (enc s):=by
 refine aS.bS Tryz.func74 IL JR K7 (t8 rfl) (fun hwf W0 bL E1 =>?_);simp only[zI,DZ,bH];have R:=y6 @br aF
 repeat' ((first |refine U.aJ (by decide +kernel) rfl fun K hK =>?_|refine .flat _ (F4 s hs) rfl ?_|(refine .aG [0,2] hK ?_;clear hK K)|(with_reducible refine .done (hK _ ?_);clear hK K)|refine U.of rfl ?_|(with_reducible refine az.aI (fun h =>?_) (fun h =>?_) <;>try simp only[h])) <;>try simp only[aK,R,simprocAttr])
 all_goals clear R
 all_goals rfl
end Go.Proofs.YtoffnnjbplgnaaaGreatDoor
namespace Go.Proofs.YtoffnnjbplgnaaaGreatDoor
open Go Go.Abs
open Go.Abs.Enc (enc)
theorem As{c:UInt8} : ∀ {x:List UInt8} (y:List UInt8),(∀ b∈x,b≠c)→dA c (x++c::y)=some (x,y)
 | [],y,_=>by simp[dA]
 |b::x,y,h=>by
  have ih:=As (x:=x) y fun z hz=>h z (by simp[hz]);simp only[zz8,dA,if_neg (h b (by simp)),ih,zz7]
def dj(l:List Int):List UInt8:=l.flatMap fun n=>Lib.itoa n++[32]
def gU(f:List UInt8→Option Int):Nat→List UInt8→Option (List Int×List UInt8)
 |0,s=>some ([],s)
 |k+1,s=>match dA 32 s with
  |none=>none
  |some (w,t)=>match f w with
   |none=>none
   |some n=>(gU f k t).map fun p=>(n::p.1,p.2)
theorem xG{f:List UInt8→Option Int}(t:List UInt8):∀ {l:List Int},(∀ n∈l,0≤n∧f (Lib.itoa n)=some n)→gU f l.length (dj l++t)=some (l,t)
 | [],_=>rfl
 |n::l,h=>by
  have ih:=xG t (l:=l) fun m hm=>h m (by simp[hm]);have hn:=h n (by simp);simp only[zx7,gU,dj,List.flatMap_cons,zz0,zz8,zy3];rw[As _ (AB hn.1 (by decide))];simp only[hn.2];rw[dj] at ih;rw[ih,zz7]
def fT(w:List UInt8):Option Int:=match Lib.atoiAll w with
 | .ok n=>some n
 |_=>none
def mn(w:List UInt8):Option Int:=if w=[]∨8<w.length then none else (eM 0 w).map fun n=>(n:Int)
theorem CS{n:Int}(h:0≤n∧n<100000000):fT (Lib.itoa n)=some n∧mn (Lib.itoa n)=some n:=by
 obtain ⟨m,rfl⟩:=zz9 h.1;have hm:=WR (k:=7) (show m<10^(7+1) by omega);obtain ⟨h1,h2,_⟩:=WS (by omega) hm;refine ⟨by rw[fT,h1],?_⟩;rw[mn,if_neg]
 ·rw[Lib.itoa_nonneg,(ot m).1];rfl
 ·rintro (k | k)
  ·exact VV h.1 k
  ·omega
def dS(r:ai):List Int:=[r.aO,r.no,r.kind,r.ec,r.known,r.fi,r.ft]
def iS(n:List Int)(t:List UInt8):ai:=⟨n.getD 1 0,n.getD 2 0,n.getD 3 0,n.getD 4 0,n.getD 5 0,n.getD 6 0,n.getD 7 0,t⟩
theorem Cv(s:Int)(r:ai):iS (s::dS r) r.text=r:=rfl
def cN(r:ai):List UInt8:=dj (dS r)++r.text
def cV(s:Int)(l:List UInt8):Int:=l.foldl (fun s c=>(257*s+c.toNat+1)%1000003) s
theorem ki{s:Int}(h:0≤s∧s<1000003):∀ l,0≤cV s l∧cV s l<1000003:=by
 intro l
 induction l generalizing s with
 |nil=>exact h
 |cons c l ih =>
  rw[cV,List.foldl_cons];exact ih (by omega)
def cR(s:Int)(r:ai):List UInt8:=dj [cV s (cN r)]++cN r++[10]
theorem vV(s:Int)(r:ai):cR s r=(dj (cV s (cN r)::dS r)++r.text)++[10]:=by
 simp only[cR,cN,dj,List.flatMap_cons,List.flatMap_nil,zx9,zz0]
section
variable (ok:ai→Bool)
def lz(s:Int)(t:List UInt8)(r:ai):Option (ai×Int):=if ok r=true∧cR s r=t then some (r,cV s (cN r)) else none
def dv(s:Int)(t:List UInt8):Option (ai×Int):=if t.getLast?=some 10 then
  (gU fT 8 t.dropLast).bind fun p=>(lz ok s t (iS p.1 p.2)).bind fun q=>if p.1.headD 0=q.2 then some q else none
 else none
def Ev(s:Int)(t:List UInt8):Option (ai×Int) :=
 (gU mn 8 t).bind fun p=>if t.getLast?=some 10∧p.2≠[] then lz ok s t (iS p.1 p.2.dropLast) else none
theorem Mx{s:Int}{t:List UInt8}{r:ai}{q:ai×Int}(h:lz ok s t r=some q):ok q.1=true∧cR s q.1=t∧q.2=cV s (cN q.1):=by
 rw[lz] at h;by_cases c:ok r=true∧cR s r=t
 ·rw[if_pos c] at h;cases h;exact ⟨c.1,c.2,rfl⟩
 ·rw[if_neg c] at h;cases h
theorem Eu{s:Int}{t:List UInt8}{q:ai×Int}(h:dv ok s t=some q):ok q.1=true∧cR s q.1=t∧q.2=cV s (cN q.1):=by
 rw[dv] at h;by_cases c:t.getLast?=some 10
 ·rw[if_pos c] at h;cases hp:gU fT 8 t.dropLast with
  |none=>rw[hp] at h;cases h
  |some p =>
   rw[hp,zw8] at h;cases he:lz ok s t (iS p.1 p.2) with
   |none=>rw[he] at h;cases h
   |some q' =>
    rw[he,zw8] at h;by_cases k:p.1.headD 0=q'.2
    ·rw[if_pos k] at h;cases h;exact Mx ok he
    ·rw[if_neg k] at h;cases h
 ·rw[if_neg c] at h;cases h
theorem Yt{s:Int}(hs:0≤s∧s<1000003){r:ai}(h:ok r=true)(hn:∀ n∈dS r,0≤n∧n<100000000) :
  dv ok s (cR s r)=some (r,cV s (cN r))∧Ev ok s (cR s r)=some (r,cV s (cN r)):=by
 have hb:=ki hs (cN r);have hm:∀ n∈cV s (cN r)::dS r,0≤n∧n<100000000:=fun n hn'=>by
  rcases zy8.1 hn' with rfl | hn'
  ·omega
  ·exact hn n hn'
 have e:=vV s r;have hl:(cR s r).getLast?=some 10:=by rw[e,List.getLast?_append];rfl
 have hd:(cR s r).dropLast=dj (cV s (cN r)::dS r)++r.text:=by rw[e,List.dropLast_concat]
 have he:lz ok s (cR s r) r=some (r,cV s (cN r)):=by rw[lz,if_pos ⟨h,rfl⟩]
 constructor
 ·rw[dv,if_pos hl,hd,show 8=(cV s (cN r)::dS r).length from rfl,xG (f:=fT) r.text fun n hn'=>⟨(hm n hn').1,(CS (hm n hn')).1⟩,zw8];simp only[Cv,he,zw8,List.headD_cons,if_true]
 ·have ht:gU mn 8 (cR s r)=some (cV s (cN r)::dS r,r.text++[10]):=by
   rw[e,zz0];exact xG (f:=mn) (r.text++[10]) fun n hn'=>⟨(hm n hn').1,(CS (hm n hn')).2⟩
  rw[Ev,ht,zw8,if_pos ⟨hl,by simp⟩];simp only[List.dropLast_concat,Cv,he]
end
def jN:List PanicEntry:=[{ v:=.iface 176 (.agg #[]),recovered:=false }]
theorem np{Q:Exit→ae→Prop}{x:ay}{A:ae}(h:ah A x=.iface 176 (.agg []))(hq:Q (.panic jN) A):lZ Tryz.prog Q (.prim .kM [x]) A:=.kM h hq
theorem j2:(∀ T:TypeId,eF (.mi T) [.agg []]=some (.iface T (.agg [])))∧eT [] []=some []:=⟨fun _=>rfl,rfl⟩
theorem wI{A:ae} : wJ jN (fun os'=>os'=[]) (.panic jN) A:=⟨rfl,[],[],vI,trivial,rfl,rfl⟩
theorem mT:(I.ak ⟨#[32]⟩)=enc (ar.of [32]):=rfl
theorem pZ:(I.ak ⟨#[10]⟩)=enc (ar.of [10]):=rfl
theorem CR{w:List UInt8}{n:Int}(h:fT w=some n):gZ 234 w=.tuple [enc n,.cU]:=by
 unfold fT at h;split at h
 ·rename_i m hm;cases h;simp only[gZ,hm]
 ·cases h
theorem CQ{w:List UInt8}(h:fT w=none):∃ n:Int,gZ 234 w=.tuple [enc n,.iface 234 .any]:=by
 unfold fT at h;split at h
 ·cases h
 ·rename_i hm;cases hr:Lib.atoiAll w with
  |ok n=>exact absurd hr (hm n)
  |range=>exact ⟨_,by simp only[gZ,hr];rfl⟩
  | _ =>exact ⟨0,by simp only[gZ,hr]⟩
theorem rV{c:UInt8}{l:List UInt8}{p:List UInt8×List UInt8}(h:dA c l=some p):p.1.length+p.2.length<l.length:=by
 rcases rT c l with ⟨h1,_⟩ | ⟨i,h0,_,h2⟩
 ·rw[h1] at h;cases h
 ·rw[h2] at h;cases h;simp only[zz4,zv1];omega
theorem xV(s:ar)(hlen:s.l.length≤281474976710656)(w t:List UInt8)(n:Int)(h1:dA 32 s.l=some (w,t))(h2:fT w=some n):aS Tryz.prog 126 [enc s] (.tuple [enc n,enc (ar.of t)]):=by
 refine aS.bS Tryz.func126 z6 Ae Kv (t8 rfl) (fun hwf W0 bL E1 =>?_);simp only[uK,Dm,bH];clear hwf;have hc:=x9 s 32;simp only[jP,h1] at hc;have hl:=rV h1;simp only at hl;have ha:=ue (ar.of w) (by rw[ar.dQ];omega);rw[ar.dQ,CR h2] at ha;have R:=y6 @mT (y6 @br aF)
 repeat' ((first |(with_reducible refine .guard (fun hb =>?_) (fun hb =>?_) <;>try simp only[hb])|refine U.aJ (by decide +kernel) rfl fun K hK =>?_|refine .flat _ (hc) rfl ?_|refine .lead _ (ha) ?_|(refine .aG [0,2,3,4,5,6,7,8,25] hK ?_;clear hK K)|(with_reducible refine .done (hK _ ?_);clear hK K)|refine U.of rfl ?_|(with_reducible refine az.aI (fun h =>?_) (fun h =>?_) <;>try simp only[h])) <;>try simp only[aK,R,simprocAttr])
 all_goals clear R
 all_goals rfl
theorem F3(s:ar)(hlen:s.l.length≤281474976710656)(h:∀ w t,dA 32 s.l=some (w,t)→fT w=none):pC Tryz.prog 126 jN [enc s] [] (fun os'=>os'=[]):=by
 refine pC.mk Tryz.func126 z6 Ae (t8 rfl) (t8 rfl) (fun m hm=>by simp[aC,aD] at hm) (fun hwf W0 bL E1 =>?_);simp only[uK,bH];clear hwf;have hc:=x9 s 32;cases h1:dA 32 s.l with
 |none =>
  simp only[jP,h1] at hc;have ha:=ue (ar.of s.l) (by rw[ar.dQ];omega);rw[ar.dQ] at ha;cases ho:fT s.l with
  |some n =>
   rw[CR ho] at ha;have R:=y6 @mT (y6 @j2 (y6 @br aF))
   repeat' ((first |(with_reducible refine .guard (fun hb =>?_) (fun hb =>?_) <;>try simp only[hb])|(refine U.lK (gs:=sc) (gs1:=[_,_]) rfl fun K hK =>?_)|refine U.aJ (by decide +kernel) rfl fun K hK =>?_|refine .flat _ (hc) rfl ?_|refine .lead _ (ha) ?_|(refine .aG [0,2,3,4,5,6,7,8,25] hK ?_;clear hK K)|(with_reducible refine .done (hK _ ?_);clear hK K)|refine U.of rfl ?_|(with_reducible refine az.aI (fun h =>?_) (fun h =>?_) <;>try simp only[h])) <;>try simp only[aK,R,simprocAttr])
   all_goals clear R
   refine np ?_ wI;rfl
  |none =>
   obtain ⟨n,hn⟩:=CQ ho;rw[hn] at ha;have R:=y6 @mT (y6 @j2 (y6 @br aF))
   repeat' ((first |(with_reducible refine .guard (fun hb =>?_) (fun hb =>?_) <;>try simp only[hb])|(refine U.lK (gs:=sc) (gs1:=[_,_]) rfl fun K hK =>?_)|refine U.aJ (by decide +kernel) rfl fun K hK =>?_|refine .flat _ (hc) rfl ?_|refine .lead _ (ha) ?_|(refine .aG [0,2,3,4,5,6,7,8,25] hK ?_;clear hK K)|(with_reducible refine .done (hK _ ?_);clear hK K)|refine U.of rfl ?_|(with_reducible refine az.aI (fun h =>?_) (fun h =>?_) <;>try simp only[h])) <;>try simp only[aK,R,simprocAttr])
   all_goals clear R
   refine np ?_ wI;rfl
 |some p =>
  obtain ⟨w,t⟩:=p;simp only[jP,h1] at hc;have hl:=rV h1;simp only at hl;have ha:=ue (ar.of w) (by rw[ar.dQ];omega);obtain ⟨n,hn⟩:=CQ (h w t h1);rw[ar.dQ,hn] at ha;have R:=y6 @mT (y6 @j2 (y6 @br aF))
  repeat' ((first |(with_reducible refine .guard (fun hb =>?_) (fun hb =>?_) <;>try simp only[hb])|(refine U.lK (gs:=sc) (gs1:=[_,_]) rfl fun K hK =>?_)|refine U.aJ (by decide +kernel) rfl fun K hK =>?_|refine .flat _ (hc) rfl ?_|refine .lead _ (ha) ?_|(refine .aG [0,2,3,4,5,6,7,8,25] hK ?_;clear hK K)|(with_reducible refine .done (hK _ ?_);clear hK K)|refine U.of rfl ?_|(with_reducible refine az.aI (fun h =>?_) (fun h =>?_) <;>try simp only[h])) <;>try simp only[aK,R,simprocAttr])
  all_goals clear R
  refine np ?_ wI;rfl
theorem VF:rv Tryz.prog 124 3:=⟨zZ,fun bs w hb=>by
 obtain ⟨b1,b2,b3,rfl⟩:∃ b1 b2 b3,bs=[b1,b2,b3]:=by
  match bs,hb with
  | [a,b,c],_=>exact ⟨a,b,c,rfl⟩
 refine callsDIn_of_wpSIn Tryz.func124 rfl trivial fun c₀ cs hu =>?_;apply wpSIn_seq;apply wpSIn_region;simp[wpOpsSIn,go_sem,recoverD,hu,Tryz.ntmps124,Exit.thenS];refine wpSIn_of_wpIn rfl (wpIn_block (wpIn_seq (wpIn_region_list ?_)));simp[wpListIn,go_sem];refine wpIn_cond (t:=true) (by simp[Act.eval,Array.replicate]) ?_;simp only[if_true];refine wpIn_region_list ?_;simp[wpListIn,go_sem,Exit.inBlock];cases c₀
 simp_all[bodyPostS,results,Tryz.results124]⟩
theorem wE{P:Program}{o:Oper}{a:Act}{w w':World}{Kw:Act→World→Prop}{Q:Exit→Act→World→Prop}{n:Nat}(h:(execOp a.eval o).run P w=.ok .skip w')(hK:Kw (a.put o.dst undef) w'):o.wpIn Fence.wide n P a w Kw Q:=by
 refine ⟨fun _ _=>trivial,?_⟩
 show o.uponIn _ _ _ _ _ _ ((execOp a.eval o).run P w)
 rw[h,Oper.uponIn_skip];exact hK
theorem XS{P:Program}{o:Oper}{a:Act}{w w':World}{v:Value}{Kw:Act→World→Prop}{Q:Exit→Act→World→Prop}{n:Nat}(h:(execOp a.eval o).run P w=.ok (.value v) w')(hK:Kw (a.put o.dst v) w'):o.wpIn Fence.wide n P a w Kw Q:=by
 refine ⟨fun _ _=>trivial,?_⟩
 show o.uponIn _ _ _ _ _ _ ((execOp a.eval o).run P w)
 rw[h,Oper.uponIn_value];exact hK
theorem xy{P:Program}{o:Oper}{ρ:Operand→Value}{t:TypeId}{x y:Operand}{p v:Value}{w w':World}(ho:o.op=.store t x y)(hx:ρ x=p)(hy:ρ y=v)(h:(Instr.storeAt t p v).run P w=.ok () w'):(execOp ρ o).run P w=.ok .skip w':=by
 simp only[execOp,ho,hx,hy,Sem.run_bind,h];rfl
theorem xA{c:ct}{A:ae}{a:Act}{w:World}{D:aH}{E:aN}{P:Program}(hs:aM c A a w D E){N b:Nat}{x z:I}{v:Value}{ds:List Value}{t:TypeId}{i:TypeInfo}(hn:A.o N=some (.box x))(aq:E N=some (.aE b z.aL))(hsh:x.aL=z.aL)
  (hz:af w D E z ds) (ab:v.cells.toList=ds) (hi:P.info? t=some i) (hsz:i.size=ds.length) :
  ∃ w',(Instr.storeAt t (ka b) v).run P w=.ok () w'∧aM c (A.aQ N (.box z)) a w' D E:=by
 obtain ⟨b',cs,T,k1,k2,k3,k4,k5⟩:=hs.box hn;rw[aq] at k1;simp only[v6,bw.aE.injEq] at k1;obtain ⟨rfl,_⟩:=k1;have l1:=af.length _ _ k4;have l2:=af.length _ _ hz;have l3:x.size=z.size:=by rw[←I.iH x,←I.iH z,hsh]
 have hcl:cs.size=ds.length:=by rw[←zx6,l1,l2,l3]
 have hrun:=tE P b 0 T ds 0 cs w k3 (by omega) (af.kL _ _ hz);simp only[Nat.add_zero] at hrun;have e:(cs.toList.take 0++ds++cs.toList.drop (0+ds.length))=ds:=by
  rw[List.take_zero,zy3,zz5,List.drop_eq_nil_of_le (by rw[zx6];omega),zx9]
 rw[e] at hrun;have hs2:=hs.xj (y:=z) (cs':=ds.toArray) hn (hsh▸aq) hsh.symm (by simpa using hz);refine ⟨w.setRow b ds.toArray,?_,hs2⟩;have hg:¬ v.cells.size≠i.size:=by rw[hsz,←ab];simp
 have e2:P.cellsOf t=i.size:=by simp[Program.cellsOf,hi]
 simp only[ka,Instr.storeAt,Instr.sureAddr,storeVar,Sem.run_bind,Sem.run_pure,Result.andThen_ok,gT hi,Sem.run_ite,e2,if_neg hg,ab,hrun]
theorem Jc:rp Tryz.prog 124 jN [enc (default:ai),.int .i64 0,.bool false]:=⟨zZ,fun c A a w D E Ns bs hP hs aq hA=>by
 have hta:∀ W,(Instr.typeAssert (.iface 176 (.agg #[])) 20 176 true).run Tryz.prog W=.ok (.tuple #[.agg #[],.bool true]) W:=fun W=>by
  simp[Instr.typeAssert,run_underlying Tryz.underlying176]
 obtain ⟨N1,N2,N3,rfl⟩:∃ a b c,Ns=[a,b,c]:=by
  match Ns,aq.len.2 with
  | [a,b,c],_=>exact ⟨a,b,c,rfl⟩
 obtain ⟨b1,b2,b3,rfl⟩:∃ a b c,bs=[a,b,c]:=by
  match bs,aq.len.1 with
  | [a,b,c],_=>exact ⟨a,b,c,rfl⟩
 obtain ⟨hE1,hE2,hE3,_⟩:=aq;obtain ⟨⟨x1,hx1,hsh1⟩,⟨x2,hx2,hsh2⟩,⟨x3,hx3,hsh3⟩,_⟩:=hA;refine callsDIn_of_wpSIn Tryz.func124 rfl trivial fun c₀ cs hu =>?_;apply wpSIn_seq;apply wpSIn_region;simp[wpOpsSIn,go_sem,recoverD,hu,Tryz.ntmps124,Exit.thenS,jN];refine wpSIn_of_wpIn rfl (wpIn_block (wpIn_seq (wpIn_region_list ?_)));simp[wpListIn,go_sem];refine wpIn_cond (t:=false) (by simp[Act.eval,Array.replicate]) ?_;simp only[zz3,if_false];refine wpIn_seq (wpIn_region_list ?_);simp[wpListIn,go_sem,hta];refine wpIn_cond (t:=true) (by simp[Act.eval,Array.replicate]) ?_;simp only[if_true];refine wpIn_seq (wpIn_region_list ?_);simp[wpListIn,go_sem];refine wpIn_region_list ?_;have hb:Go.RowKit.Below w.heap.size w (w.alloc (Obj.cells #[] 176)):=ju _ _;have hs1:=hs.grow (D':=D) hb (fun _ _ h=>h) (fun _ _ h _=>h) (fun b o hd=>zw9 (hs.cS b o hd) hb.size);generalize w.alloc (Obj.cells #[] 176)=W1 at *;have nx:∀ {A:ae} {N M b d:Nat} {z y:I},E N=some (.aE b z.aL)→E M=some (.aE d y.aL)→(∃ x,A.o M=some (.box x)∧x.aL=y.aL)→∃ x,(A.aQ N (.box z)).o M=some (.box x)∧x.aL=y.aL:=by
  intro A N M b d z y h1 h2 ⟨x,h3,h4⟩;by_cases e:M=N
  ·subst e;rw[h1] at h2;simp only[v6,bw.aE.injEq] at h2;exact ⟨z,by simp[ae.aQ],h2.2⟩
  ·exact ⟨x,by simp[ae.aQ,e,h3],h4⟩
 obtain ⟨i50,hi50,hz50⟩:∃ i,Tryz.prog.info? 50=some i∧i.size=8:=by
  have h:(Tryz.prog.info? 50).map (·.size)=some 8:=by kernel_rfl
  obtain ⟨i,h1,h2⟩:=t7.1 h;exact ⟨i,h1,h2⟩
 obtain ⟨i3,hi3,hz3⟩:∃ i,Tryz.prog.info? 3=some i∧i.size=1:=by
  have h:(Tryz.prog.info? 3).map (·.size)=some 1:=by kernel_rfl
  obtain ⟨i,h1,h2⟩:=t7.1 h;exact ⟨i,h1,h2⟩
 obtain ⟨i4,hi4,hz4⟩:∃ i,Tryz.prog.info? 4=some i∧i.size=1:=by
  have h:(Tryz.prog.info? 4).map (·.size)=some 1:=by kernel_rfl
  obtain ⟨i,h1,h2⟩:=t7.1 h;exact ⟨i,h1,h2⟩
 obtain ⟨W2,hst1,hs2⟩:=xA (P:=Tryz.prog) (t:=50) (z:=enc (default:ai)) (v:=.agg #[.int .i64 0,.int .i64 0,.int .i64 0,.int .i64 0,.int .i64 0,.int .i64 0,.int .i64 0,.string ⟨#[]⟩]) hs1 hx1 hE1 hsh1
  (ds:=[.int .i64 0,.int .i64 0,.int .i64 0,.int .i64 0,.int .i64 0,.int .i64 0,.int .i64 0,.string ⟨#[]⟩]) (by
   show af _ _ _ (.agg [.agg [.int .i64 0,.int .i64 0],.int .i64 0,.int .i64 0,.int .i64 0,.agg [.int .i64 0,.int .i64 0],.ak ⟨#[]⟩]) _
   simp only[af,aA];refine ⟨[.int .i64 0,.int .i64 0],_,rfl,⟨[.int .i64 0],_,rfl,⟨rfl,by decide⟩,[.int .i64 0],_,rfl,⟨rfl,by decide⟩,rfl⟩,[.int .i64 0],_,rfl,⟨rfl,by decide⟩,[.int .i64 0],_,rfl,⟨rfl,by decide⟩,[.int .i64 0],_,rfl,⟨rfl,by decide⟩,[.int .i64 0,.int .i64 0],_,rfl,⟨[.int .i64 0],_,rfl,⟨rfl,by decide⟩,[.int .i64 0],_,rfl,⟨rfl,by decide⟩,rfl⟩,[.string ⟨#[]⟩],[],rfl,⟨rfl,by decide⟩,rfl⟩) rfl hi50 hz50
 obtain ⟨y2,hy2,hsh2'⟩:=nx hE1 hE2 ⟨x2,hx2,hsh2⟩;obtain ⟨W3,hst2,hs3⟩:=xA (P:=Tryz.prog) (t:=3) (z:=.int .i64 0) (v:=.int .i64 0) hs2 hy2 hE2 hsh2' (ds:=[.int .i64 0]) (by simp only[af];exact ⟨trivial,by decide⟩) rfl hi3 hz3;obtain ⟨y3,hy3,hsh3'⟩:=nx hE2 hE3 (nx hE1 hE3 ⟨x3,hx3,hsh3⟩);obtain ⟨W4,hst3,hs4⟩:=xA (P:=Tryz.prog) (t:=4) (z:=.bool false) (v:=.bool false) hs3 hy3 hE3 hsh3' (ds:=[.bool false]) (by simp only[af]) rfl hi4 hz4;have hbl:∀ W,(Instr.build 50 #[]).run Tryz.prog W=.ok (.agg #[.int .i64 0,.int .i64 0,.int .i64 0,.int .i64 0,.int .i64 0,.int .i64 0,.int .i64 0,.string ⟨#[]⟩]) W:=fun W=>by
  simp[Instr.build,Tryz.zeroValue50,Instr.fill,Value.cells]
 simp only[wpListIn,Region.wanted,if_true];refine XS (v:=.agg #[.int .i64 0,.int .i64 0,.int .i64 0,.int .i64 0,.int .i64 0,.int .i64 0,.int .i64 0,.string ⟨#[]⟩]) (by simp only[execOp,Array.map_empty,Sem.run_bind,hbl];rfl) ?_;refine wE (xy rfl (by simp[Act.eval,Act.put]) (by simp[Act.eval,Act.put]) hst1) ?_;refine wE (xy rfl (by simp[Act.eval,Act.put]) (by simp[Act.eval]) hst2) ?_;refine wE (xy rfl (by simp[Act.eval,Act.put]) (by simp[Act.eval]) hst3) ?_;simp[Exit.inBlock,bodyPostS,results,Tryz.results124,settle];exact ⟨rfl,hs4⟩⟩
end Go.Proofs.YtoffnnjbplgnaaaGreatDoor
namespace Go.Proofs.YtoffnnjbplgnaaaGreatDoor
open Go Go.Abs Go.Shelf Go.RowKit
open Go.Abs.Enc (enc)
def B9:Go.Shelf.Ren:=⟨fun | 166=>156 | 240=>173 | 276=>194 | n=>n,fun | 70=>203 | 9=>9 | 3=>3 | 75=>199 | 0=>0 | 72=>205 | 37=>45 | 4=>4 | 164=>237 | 80=>206 | 5=>5 | n=>n,fun | n=>n⟩
theorem Wd:Go.Proofs.Lays.n166 Tryz.prog B9 := {
 mixed:=by kernel_rfl
 f166:=Tryz.func156.trans (congrArg some (by kernel_rfl))
 f240:=Tryz.func173.trans (congrArg some (by kernel_rfl))
 f276:=Tryz.func194.trans (congrArg some (by kernel_rfl))
 t0:=Tryz.underlying0
 a0:=Tryz.isAgg0
 z0:=Tryz.sizeOf0
 v0:=Tryz.zeroValue0
 t3:=Tryz.underlying3
 a3:=Tryz.isAgg3
 z3:=Tryz.sizeOf3
 v3:=Tryz.zeroValue3
 t4:=Tryz.underlying4
 a4:=Tryz.isAgg4
 z4:=Tryz.sizeOf4
 v4:=Tryz.zeroValue4
 t9:=Tryz.underlying9
 a9:=Tryz.isAgg9
 z9:=Tryz.sizeOf9
 v9:=Tryz.zeroValue9
 t20:=Tryz.underlying20
 a20:=Tryz.isAgg20
 z20:=Tryz.sizeOf20
 v20:=Tryz.zeroValue20
 t37:=Tryz.underlying45
 a37:=Tryz.isAgg45
 z37:=Tryz.sizeOf45
 v37:=Tryz.zeroValue45
 t70:=Tryz.underlying203
 a70:=Tryz.isAgg203
 z70:=Tryz.sizeOf203
 v70:=Tryz.zeroValue203
 t72:=Tryz.underlying205
 a72:=Tryz.isAgg205
 z72:=Tryz.sizeOf205
 v72:=Tryz.zeroValue205
 t75:=Tryz.underlying199
 a75:=Tryz.isAgg199
 z75:=Tryz.sizeOf199
 v75:=Tryz.zeroValue199
 t164:=Tryz.underlying237
 a164:=Tryz.isAgg237
 z164:=Tryz.sizeOf237
 v164:=Tryz.zeroValue237 }
def Ca:Go.Shelf.Ren:=⟨fun | 169=>157 | n=>n,fun | 70=>203 | 9=>9 | 0=>0 | 72=>205 | 37=>45 | 127=>202 | 3=>3 | 5=>5 | n=>n,fun | n=>n⟩
theorem We:Go.Proofs.Lays.n169 Tryz.prog Ca := {
 mixed:=by kernel_rfl
 f169:=Tryz.func157.trans (congrArg some (by kernel_rfl))
 t0:=Tryz.underlying0
 a0:=Tryz.isAgg0
 z0:=Tryz.sizeOf0
 v0:=Tryz.zeroValue0
 t3:=Tryz.underlying3
 a3:=Tryz.isAgg3
 z3:=Tryz.sizeOf3
 v3:=Tryz.zeroValue3
 t9:=Tryz.underlying9
 a9:=Tryz.isAgg9
 z9:=Tryz.sizeOf9
 v9:=Tryz.zeroValue9
 t37:=Tryz.underlying45
 a37:=Tryz.isAgg45
 z37:=Tryz.sizeOf45
 v37:=Tryz.zeroValue45
 t70:=Tryz.underlying203
 a70:=Tryz.isAgg203
 z70:=Tryz.sizeOf203
 v70:=Tryz.zeroValue203
 t72:=Tryz.underlying205
 a72:=Tryz.isAgg205
 z72:=Tryz.sizeOf205
 v72:=Tryz.zeroValue205
 t127:=Tryz.underlying202
 a127:=Tryz.isAgg202
 z127:=Tryz.sizeOf202
 v127:=Tryz.zeroValue202 }
theorem MK:Builder.Extra Tryz.prog B9 where
 sizeBuilder:=by kernel_rfl
 liesBuilder:=by kernel_rfl
 t5:=Tryz.underlying5
 a5:=Tryz.isAgg5
 z5:=Tryz.sizeOf5
 v5:=Tryz.zeroValue5
 infoByte:=by kernel_rfl
 cellsByte:=by kernel_rfl
 sizeByte:=by kernel_rfl
 neB5:=by decide
theorem ML:Builder.Extra Tryz.prog Ca where
 sizeBuilder:=by kernel_rfl
 liesBuilder:=by kernel_rfl
 t5:=Tryz.underlying5
 a5:=Tryz.isAgg5
 z5:=Tryz.sizeOf5
 v5:=Tryz.zeroValue5
 infoByte:=by kernel_rfl
 cellsByte:=by kernel_rfl
 sizeByte:=by kernel_rfl
 neB5:=by decide
abbrev lf(B b:Nat)(l:List UInt8)(w:World):Prop:=Lib.IsBuilderF 205 5 B b (Lib.byteCells l) w
abbrev uj(b:Nat)(w w':World):Prop:=Lib.OthersKept 5 (some b) w w'
theorem FQ(B b:Nat)(l:List UInt8)(s:ByteArray)(w:World)(h:lf B b l w)(hlen:l.length+s.size≤140737488355328)(hB:B≤w.heap.size) :
  Calls Tryz.prog 156 #[.pointer (some ⟨b,0,none⟩),.string s] w fun e w'=>e=.returned (.tuple #[.int .i64 s.size,.nilIface])∧(lf B b (l++s.data.toList) w'∧Below B w w'∧uj b w w'):=by
 refine (Any.Builder_WriteString_k Wd MK B b (Lib.byteCells l) s w h (by rw[Lib.byteCells_length];exact hlen) hB).mono ?_;rintro e w' ⟨rfl,h1,h2,h3⟩;refine ⟨rfl,.inr ?_,h2,h3⟩;rw[Lib.byteCells_append];exact h1
theorem yQ(B b:Nat)(l:List UInt8)(w:World)(h:lf B b l w)(hB:B≤w.heap.size) :
  Calls Tryz.prog 157 #[.pointer (some ⟨b,0,none⟩)] w fun e w'=>e=.returned (.string ⟨l.toArray⟩)∧(lf B b l w'∧Below B w w'∧uj b w w'):=Any.Builder_String_any_k We ML B b l w h hB
theorem VT(n:Int)(h:IntKind.i64.min≤n∧n≤IntKind.i64.max)(W:World)(hl:eJ Tryz.prog W (fun _=>False)):Calls Tryz.prog 132 #[.int .i64 n] W fun e w'=>e=.returned (.string ⟨(Lib.itoa n).toArray⟩)∧Below W.heap.size W w':=by
 have h3':-9223372036854775808≤n:=h.1;have h4':n≤9223372036854775807:=h.2;obtain ⟨_,htab,rfl⟩:=hl.sf (n:=sy) (k:=.tf) (g:=3) (by simp[mZ]) (by kernel_rfl);refine (Any.strconv_Itoa B6 n h3' h4' W htab).mono ?_;rintro e w' ⟨rfl,k,os,rfl⟩;exact ⟨rfl,uE W k os⟩
theorem B5{w wr:World}(hl:eJ Tryz.prog w (fun _=>False))(h:Below w.heap.size w wr):eJ Tryz.prog wr (fun _=>False) :=
 hl.B3 (M:=fun b=>w.heap.size≤b) ⟨h.os,h.tape,h.output,h.size,fun k hk=>h.block k (by omega)⟩ (fun b hb=>.inl hb) (fun b hb=>hb.elim)
theorem sv{B b:Nat}{l:List UInt8}{w w':World}(hI:lf B b l w)(h:Below w.heap.size w w'):lf B b l w':=by
 have key:∀ p,Lib.BuilderAtF 205 5 B b p (Lib.byteCells l) w→Lib.BuilderAtF 205 5 B b p (Lib.byteCells l) w':=by
  rintro p ⟨h1,v,h2,⟨h3,h4⟩,h5⟩;refine ⟨h1,v,(h.block b (eR h2)).trans h2,⟨h3,?_⟩,h5⟩;rcases h4 with h4 | ⟨g,cap,cur,fz,k1,k2,k3,k4⟩
  ·exact .inl h4
  ·exact .inr ⟨g,cap,cur,fz,k1,k2,(h.block g (eR k3)).trans k3,k4⟩
 exact hI.imp (key _) (key _)
theorem Jb(a:List UInt8)(t:ByteArray):((⟨a.toArray⟩:ByteArray)++t)=⟨(a++t.data.toList).toArray⟩:=by
 apply ByteArray.ext;simp[ByteArray.data_append]
theorem YY(l:List Int)(n:Int):dj (l++[n])=dj l++(Lib.itoa n++[32]):=by simp[dj]
theorem HL(m n k d mY om on:Int)(t:ByteArray)(w:World)(hl:eJ Tryz.prog w (fun _=>False))(hbd:∀ x∈[m,n,k,d,mY,om,on],IntKind.i64.min≤x∧x≤IntKind.i64.max)(ht:t.size≤1000000000000) :
  Calls Tryz.prog 131 #[.agg #[.int .i64 m,.int .i64 n,.int .i64 k,.int .i64 d,.int .i64 mY,.int .i64 om,.int .i64 on,.string t]] w fun e w'=>e=.returned (.string ⟨(dj [m,n,k,d,mY,om,on]++t.data.toList).toArray⟩)∧Below w.heap.size w w':=by
 obtain ⟨vs,hvs⟩:∃ vs:List Int,vs=[m,n,k,d,mY,om,on]:=⟨_,rfl⟩
 have hvl:vs.length=7:=by rw[hvs];rfl
 rw[←hvs] at hbd;have hlen:∀ j,(dj (vs.take j)).length≤22*j:=by
  intro j;have:∀ l:List Int,(∀ x∈l,IntKind.i64.min≤x∧x≤IntKind.i64.max)→(dj l).length≤22*l.length:=by
   intro l
   induction l with
   |nil=>intro _;simp[dj]
   |cons x l ih =>
    intro h;have h1:=ih fun y hy=>h y (by simp[hy]);have h2:=Lib.itoa_length_le x (h x (by simp)).1 (h x (by simp)).2;simp only[dj] at h1;simp only[dj,List.flatMap_cons,Z8,zx7,zw2];omega
  have h3:=this (vs.take j) fun x hx=>hbd x (zw5 hx);have h4:(vs.take j).length≤j:=by rw[zz4];omega
  omega
 go_enter Tryz.func131,Tryz.ntmps131
 go_wp2
 go_loopw [26] (fun i wr=>∃ j:Nat,j≤7∧i=.int .i64 j∧lf w.heap.size (w.heap.size+1) (dj (vs.take j)) wr∧wr.heap[w.heap.size]?=some (.cells #[.int .i64 m,.int .i64 n,.int .i64 k,.int .i64 d,.int .i64 mY,.int .i64 om,.int .i64 on,.string t] 50) ∧
  wr.heap[w.heap.size+1+1]?=some (.cells (vs.map (Value.int .i64)).toArray 3)∧Below w.heap.size w wr) (fun i _=>7-(RowKit.intOf i).toNat)
 case atStart =>
  obtain ⟨c1,hc1⟩:∃ c1,c1=Obj.cells #[.int .i64 m,.int .i64 n,.int .i64 k,.int .i64 d,.int .i64 mY,.int .i64 om,.int .i64 on,.string t] 50:=⟨_,rfl⟩
  have hv0:(#[.int .i64 m,.int .i64 n,.int .i64 k,.int .i64 d,.int .i64 mY,.int .i64 om,.int .i64 on]:Array Value)=(vs.map (Value.int .i64)).toArray:=by rw[hvs];rfl
  rw[←hc1,hv0];obtain ⟨w1,hw1⟩:∃ w1,w1=w.alloc c1:=⟨_,rfl⟩
  obtain ⟨w2,hw2⟩:∃ w2,w2=w1.alloc (Obj.cells #[Value.pointer none,Value.slice none 0 0] 205):=⟨_,rfl⟩
  obtain ⟨w3,hw3⟩:∃ w3,w3=w2.alloc (Obj.cells (vs.map (Value.int .i64)).toArray 3):=⟨_,rfl⟩
  have s1:w1.heap.size=w.heap.size+1:=by rw[hw1];simp
  have s2:w2.heap.size=w.heap.size+1+1:=by rw[hw2];simp[s1]
  have b1:Below w.heap.size w w1:=hw1▸ju w c1;have b2:Below w1.heap.size w1 w2:=hw2▸ju w1 _;have b3:Below w2.heap.size w2 w3:=hw3▸ju w2 _;have e1:w1.heap[w.heap.size]?=some c1:=hw1▸heap_alloc_new w c1;have e2:w2.heap[w1.heap.size]?=some (Obj.cells #[Value.pointer none,Value.slice none 0 0] 205):=hw2▸heap_alloc_new w1 _;have e3:w3.heap[w2.heap.size]?=some (Obj.cells (vs.map (Value.int .i64)).toArray 3):=hw3▸heap_alloc_new w2 _;rw[←hw1,←hw2,←hw3];refine ⟨0,by omega,rfl,.inl ⟨by omega,.slice none 0 0,?_,⟨rfl,.inl ⟨rfl,rfl⟩⟩,by simp[Value.ownBlock]⟩,?_,?_,?_⟩
  ·rw[b3.block _ (by omega),←s1];exact e2
  ·rw[b3.block _ (by omega),b2.block _ (by omega)];exact e1
  ·rw[←s2];exact e3
  ·exact (b1.trans (b2.mono (by omega))).trans (b3.mono (by omega))
 case round =>
  obtain ⟨j,hj,rfl,hI,hr,ab,hbw⟩:=hrel;have hB1:w.heap.size≤wr.heap.size:=hbw.size;by_cases hlt:j<7
  ·have hjv:j<vs.length:=by omega
   have hc:wr.cell? ⟨w.heap.size+1+1,j,none⟩=some (.int .i64 vs[j]):=by
    simp[World.cell?,ab,hjv]
   have hbx:=hbd vs[j] (List.getElem_mem hjv);have jY:=Lib.itoa_length_le vs[j] hbx.1 hbx.2;have hj2:=hlen j;have htk:dj (vs.take (j+1))=dj (vs.take j)++(Lib.itoa vs[j]++[32]):=by rw[List.take_succ_eq_append_getElem hjv,YY]
   generalize vs[j]=x at *;have hsz:((⟨(Lib.itoa x).toArray⟩:ByteArray)++⟨#[32]⟩).size=(Lib.itoa x).length+1:=by rw[ByteArray.size_append];rfl
   have hdat:((⟨(Lib.itoa x).toArray⟩:ByteArray)++⟨#[32]⟩).data.toList=Lib.itoa x++[32]:=by simp
   have hlt':decide ((j:Int)<7)=true:=by simp;omega
   have hw:=eU (i:=j) (by omega)
   go_wp2_with (first | (go_at_call 132;refine (VT x hbx _ (B5 hl hbw)).mono ?_;rintro e W1 ⟨rfl,hb1⟩) | (go_at_call 156;refine (FQ w.heap.size (w.heap.size+1) _ _ _ (sv hI hb1) (by rw[hsz];omega) (by have:=hb1.size;omega)).mono ?_;rintro e W2 ⟨rfl,hI2,hb2,hk2⟩))
   have q1:w.heap.size<wr.heap.size:=eR hr;have q2:w.heap.size+1+1<wr.heap.size:=eR ab;refine ⟨⟨j+1,by omega,rfl,?_,?_,?_,?_⟩,by simp only[RowKit.intOf];omega⟩
   ·rw[htk];rw[hdat] at hI2;exact hI2
   ·exact hk2 _ _ ((hb1.block _ q1).trans hr) (by simp) (fun c fz e=>by cases e)
   ·exact hk2 _ _ ((hb1.block _ q2).trans ab) (by simp) (fun c fz e=>by cases e)
   ·exact (hbw.trans (hb1.mono hB1)).trans hb2
  ·have hj7:j=7:=by omega
   subst hj7;have hlt':decide (((7:Nat):Int)<7)=false:=by decide
   rw[zw4 (by omega)] at hI;have hcr:wr.cell? ⟨w.heap.size,7,none⟩=some (.string t):=by simp[World.cell?,hr]
   have q1:w.heap.size<wr.heap.size:=eR hr
   go_wp2
   have hI1:lf w.heap.size (w.heap.size+1) (dj vs) wr.drew:=sv hI ⟨rfl,rfl,rfl,zz2 _,fun _ _=>rfl⟩;have hcd:wr.drew.cell? ⟨w.heap.size,7,none⟩=some (.string t):=hcr;have bf:∀ W2,uj (w.heap.size+1) wr.drew W2→W2.cell? ⟨w.heap.size,7,none⟩=some (.string t):=fun W2 hk=>by
    have:=hk _ _ hr (by simp) (fun c fz e=>by cases e);simp[World.cell?,this]
   have hl7:=hlen 7;rw[zw4 (by omega)] at hl7;have hsum:¬ (9223372036854775807<(⟨(dj vs).toArray⟩:ByteArray).size+t.size):=by
    have e1:(⟨(dj vs).toArray⟩:ByteArray).size=(dj vs).length:=by show (dj vs).toArray.size=_;simp
    rw[e1];omega
   have hdr:Below w.heap.size wr wr.drew:=⟨rfl,rfl,rfl,zz2 _,fun _ _=>rfl⟩
   have hcall:=yQ w.heap.size (w.heap.size+1) _ _ hI1 (by show _≤wr.heap.size;omega);generalize hS:(⟨(dj vs).toArray⟩:ByteArray)=S at *
   go_region_with (go_at_call 157;refine (hcall).mono ?_;rintro e W2 ⟨rfl,hI2,hb2,hk2⟩;have hc2:=bf W2 hk2)
   all_goals go_wp2
   all_goals go_ret
   all_goals refine ⟨?_,(hbw.trans hdr).trans hb2⟩
   all_goals rw[←hvs,←hS,Jb]
   all_goals rfl
theorem Ew{w:World}{D:aH}{E:aN}{r:ai}{v:Value}(h:aR w D E (enc r) v):v=.agg #[.int .i64 r.aO,.int .i64 r.no,.int .i64 r.kind,.int .i64 r.ec,.int .i64 r.known,.int .i64 r.fi,.int .i64 r.ft,.string ⟨r.text.toArray⟩] ∧
  (∀ x∈dS r,IntKind.i64.min≤x∧x≤IntKind.i64.max)∧r.text.length≤maxLen:=by
 obtain ⟨cs,h1,h2⟩:=h;have h2':af w D E (.agg [.agg [.int .i64 r.aO,.int .i64 r.no],.int .i64 r.kind,.int .i64 r.ec,.int .i64 r.known,.agg [.int .i64 r.fi,.int .i64 r.ft],.ak ⟨r.text.toArray⟩]) cs:=h2;simp only[af,aA] at h2';obtain ⟨_,_,rfl,⟨_,_,rfl,⟨rfl,a1⟩,_,_,rfl,⟨rfl,a2⟩,rfl⟩,_,_,rfl,⟨rfl,a3⟩,_,_,rfl,⟨rfl,a4⟩,_,_,rfl,⟨rfl,a5⟩,_,_,rfl,⟨_,_,rfl,⟨rfl,a6⟩,_,_,rfl,⟨rfl,a7⟩,rfl⟩,_,_,rfl,⟨rfl,a8⟩,rfl⟩:=h2';refine ⟨h1,?_,by simpa[ByteArray.size] using a8⟩;intro x hx;simp only[dS,zy8,List.not_mem_nil,or_false] at hx;rcases hx with rfl | rfl | rfl | rfl | rfl | rfl | rfl <;>assumption
theorem F6(r:ai)(hs:r.text.length≤1000000000000):aS Tryz.prog 131 [enc r] (enc (ar.of (cN r))):=by
 refine ⟨H6,fun w D vs hl hD ab =>?_⟩;have hv':=ab;simp only[ao] at hv';obtain ⟨v,rest,cs,rfl,h1,h2,rfl⟩:=hv';obtain ⟨rfl,hb,_⟩:=Ew (fG h1 h2);refine (HL _ _ _ _ _ _ _ ⟨r.text.toArray⟩ w hl hb (by show r.text.toArray.size≤_;simpa using hs)).mono ?_;rintro e w' ⟨rfl,hbl⟩;have hlen:(cN r).length≤1000000001000:=by
  have:∀ l:List Int,(∀ x∈l,IntKind.i64.min≤x∧x≤IntKind.i64.max)→(dj l).length≤22*l.length:=by
   intro l
   induction l with
   |nil=>intro _;simp[dj]
   |cons x l ih =>
    intro h;have h1:=ih fun y hy=>h y (by simp[hy]);have h2:=Lib.itoa_length_le x (h x (by simp)).1 (h x (by simp)).2;simp only[dj] at h1;simp only[dj,List.flatMap_cons,Z8,zx7,zw2];omega
  have h3:=this (dS r) hb;have h4:(dS r).length=7:=rfl;rw[cN,Z8];omega
 exact ⟨_,D,rfl,ER (l:=cN r) (by unfold maxLen;omega),hbl,fun b o hd=>zw9 (hD b o hd) hbl.size,fun _ _ h _=>h⟩
end Go.Proofs.YtoffnnjbplgnaaaGreatDoor
namespace Go.Proofs.YtoffnnjbplgnaaaGreatDoor
open Go Go.Abs
open Go.Abs.Enc (enc)
def gl(c:UInt8):Bool := !(decide ((c.toNat:Int)<32)||(decide ((c.toNat:Int)>126)||((c.toNat:Int)==63)))
def gm(t:List UInt8):Bool:=decide (t.length≤160)&&t.all gl
theorem CO{t:List UInt8}{i:Nat}(h:i<t.length)(h1:(t.take i).all gl=true):(gl t[i]=true→(t.take (i+1)).all gl=true)∧(gl t[i]=false→t.all gl=false):=by
 refine ⟨fun h2 =>?_,fun h2 =>?_⟩
 ·rw[List.take_succ_eq_append_getElem h,List.all_append,h1];simp[h2]
 ·rw[List.all_eq_false];exact ⟨t[i],List.getElem_mem h,by simp[h2]⟩
theorem pn(t:List UInt8):mg (enc (ar.of t))=some (.int .i64 (t.length:Int)):=by rw[qT,ar.dQ]
theorem E8(t:List UInt8){i:Nat}(h:i<t.length):eF .ea [enc (ar.of t),.int .i64 (i:Int)]=some (.int .u8 (t[i].toNat:Int)):=E7 (ar.of t) h
theorem xf(t:List UInt8):lO (enc (ar.of t))=some (t.map enc):=rfl
theorem F5(t:List UInt8):aS Tryz.prog 130 [enc (ar.of t)] (enc (gm t)):=by
 refine aS.bS Tryz.func130 H5 Jk Kz (t8 rfl) (fun hwf W0 bL E1 =>?_);simp only[zb,Dq,bH];clear hwf;have hl:=pn t;have hsb:=xf t;rcases q:decide ((t.length:Int)>160)
 rotate_left
 ·have h1:(t.length:Int)>160:=of_decide_eq_true q;rw[show gm t=false by simp only[gm];rw[decide_eq_false (by omega)];rfl];have R:=y6 @hl (y6 @q (y6 @br aF))
  repeat' ((first |(with_reducible refine .guard (fun hb =>?_) (fun hb =>?_) <;>try simp only[hb])|refine U.aJ (by decide +kernel) rfl fun K hK =>?_|(refine .aG [0,2,4,7,9,10,11,12,24] hK ?_;clear hK K)|(with_reducible refine .done (hK _ ?_);clear hK K)|refine U.of rfl ?_|(with_reducible refine az.aI (fun h =>?_) (fun h =>?_) <;>try simp only[h])) <;>try simp only[aK,R,simprocAttr])
  all_goals clear R
  all_goals rfl
 have h1:¬ (t.length:Int)>160:=of_decide_eq_false q;rw[show gm t=t.all gl by simp only[gm];rw[decide_eq_true (by omega)];rfl];have R:=y6 @hl (y6 @hsb (y6 @q (y6 @br (y6 @gV aF))))
 repeat' ((first |(with_reducible refine .guard (fun hb =>?_) (fun hb =>?_) <;>try simp only[hb])|refine aZ.eO rfl fun m =>?_|refine U.aJ (by decide +kernel) rfl fun K hK =>?_|(refine .aG [0,2,4,7,9,10,11,12,24] hK ?_;clear hK K)|(with_reducible refine .done (hK _ ?_);clear hK K)|refine U.of rfl ?_|(with_reducible refine az.aI (fun h =>?_) (fun h =>?_) <;>try simp only[h])) <;>try simp only[aK,R,simprocAttr])
 all_goals clear R
 refine U.loop (fun i:Nat=>aw [(0,enc (ar.of t)),(9,enc t),(10,.int .i64 t.length),(11,.int .i64 i)] []) (fun i=>i≤t.length∧(t.take i).all gl=true) (fun i=>t.length-i) 0 ⟨zv0 _,rfl⟩ ?_ ?_
 ·refine bx.oD [9] 9 (x:=.view 9 [] 1 0 t.length) (y:=enc t) rfl (A4 rfl) ?_ ?_ ?_ ?_ ?_ <;>simp[cZ,bI,bV,b7,b6,gb,bX,I.only,bu]
 rintro i ⟨hi,hok⟩;by_cases hlt:i<t.length
 ·have hlc:=fr hlt;have he:=fun A=>fg (A:=A) 1 hlt rfl;have hw:=eU (i:=i) (by omega);obtain ⟨h2,h3⟩:=CO hlt hok;generalize t[i]=c at *;rcases q1:decide ((c.toNat:Int)<32)
  rotate_left
  ·rw[h3 (by simp[gl,q1])];have R:=y6 @hl (y6 @hlc (y6 @he (y6 @hw (y6 @q1 (y6 @qV (y6 @br aF))))))
   repeat' ((first |(with_reducible refine .guard (fun hb =>?_) (fun hb =>?_) <;>try simp only[hb])|refine U.aJ (by decide +kernel) rfl fun K hK =>?_|(refine .aG [0,2,4,7,9,10,11,12,24] hK ?_;clear hK K)|(with_reducible refine .done (hK _ ?_);clear hK K)|refine U.of rfl ?_|(with_reducible refine az.aI (fun h =>?_) (fun h =>?_) <;>try simp only[h])) <;>try simp only[aK,R,simprocAttr])
   all_goals clear R
   all_goals rfl
  rcases q2:decide ((c.toNat:Int)>126)
  rotate_left
  ·rw[h3 (by simp only[gl,q1,q2];rfl)];have R:=y6 @hl (y6 @hlc (y6 @he (y6 @hw (y6 @q1 (y6 @q2 (y6 @qV (y6 @br aF)))))))
   repeat' ((first |(with_reducible refine .guard (fun hb =>?_) (fun hb =>?_) <;>try simp only[hb])|refine U.aJ (by decide +kernel) rfl fun K hK =>?_|(refine .aG [0,2,4,7,9,10,11,12,24] hK ?_;clear hK K)|(with_reducible refine .done (hK _ ?_);clear hK K)|refine U.of rfl ?_|(with_reducible refine az.aI (fun h =>?_) (fun h =>?_) <;>try simp only[h])) <;>try simp only[aK,R,simprocAttr])
   all_goals clear R
   all_goals rfl
  rcases q3:((c.toNat:Int)==63)
  rotate_left
  ·rw[h3 (by simp only[gl,q1,q2,q3];rfl)];have R:=y6 @hl (y6 @hlc (y6 @he (y6 @hw (y6 @q1 (y6 @q2 (y6 @q3 (y6 @qV (y6 @br aF))))))))
   repeat' ((first |(with_reducible refine .guard (fun hb =>?_) (fun hb =>?_) <;>try simp only[hb])|refine U.aJ (by decide +kernel) rfl fun K hK =>?_|(refine .aG [0,2,4,7,9,10,11,12,24] hK ?_;clear hK K)|(with_reducible refine .done (hK _ ?_);clear hK K)|refine U.of rfl ?_|(with_reducible refine az.aI (fun h =>?_) (fun h =>?_) <;>try simp only[h])) <;>try simp only[aK,R,simprocAttr])
   all_goals clear R
   all_goals rfl
  have h4:=h2 (by simp only[gl,q1,q2,q3];rfl);have R:=y6 @hl (y6 @hlc (y6 @he (y6 @hw (y6 @q1 (y6 @q2 (y6 @q3 (y6 @qV (y6 @br aF))))))))
  repeat' ((first |(with_reducible refine .guard (fun hb =>?_) (fun hb =>?_) <;>try simp only[hb])|refine U.aJ (by decide +kernel) rfl fun K hK =>?_|(refine .aG [0,2,4,7,9,10,11,12,24] hK ?_;clear hK K)|(with_reducible refine .done (hK _ ?_);clear hK K)|refine U.of rfl ?_|(with_reducible refine az.aI (fun h =>?_) (fun h =>?_) <;>try simp only[h])) <;>try simp only[aK,R,simprocAttr])
  all_goals clear R
  refine ⟨i+1,⟨by omega,h4⟩,by omega,?_⟩;clear h2 h3 h4 hok;refine bx.cQ ?_ ?_ ?_ ?_ <;>simp[bV,b7,b6,bI,bX,I.only,bu]
 ·have hlc:=fM hlt;have hge:i=t.length:=by omega
  rw[hge,List.take_length] at hok;rw[hok];have R:=y6 @hl (y6 @hlc (y6 @br aF))
  repeat' ((first |(with_reducible refine .guard (fun hb =>?_) (fun hb =>?_) <;>try simp only[hb])|refine U.aJ (by decide +kernel) rfl fun K hK =>?_|(refine .aG [0,2,4,7,9,10,11,12,24] hK ?_;clear hK K)|(with_reducible refine .done (hK _ ?_);clear hK K)|refine U.of rfl ?_|(with_reducible refine az.aI (fun h =>?_) (fun h =>?_) <;>try simp only[h])) <;>try simp only[aK,R,simprocAttr])
  all_goals clear R
  all_goals rfl
theorem Gv(t:List UInt8):aS Tryz.prog 86 [enc (ar.of t)] (enc (gm t)):=by
 refine aS.bS Tryz.func86 IX J1 Lh (t8 rfl) (fun hwf W0 bL E1 =>?_);simp only[zP,Ed,bH];clear hwf;have hl:=pn t;rcases q:decide ((t.length:Int)>160)
 rotate_left
 ·have h1:(t.length:Int)>160:=of_decide_eq_true q;rw[show gm t=false by simp only[gm];rw[decide_eq_false (by omega)];rfl];have R:=y6 @hl (y6 @q (y6 @br aF))
  repeat' ((first |(with_reducible refine .guard (fun hb =>?_) (fun hb =>?_) <;>try simp only[hb])|refine U.aJ (by decide +kernel) rfl fun K hK =>?_|(refine .aG [0,2,3,6,10,28] hK ?_;clear hK K)|(with_reducible refine .done (hK _ ?_);clear hK K)|refine U.of rfl ?_|(with_reducible refine az.aI (fun h =>?_) (fun h =>?_) <;>try simp only[h])) <;>try simp only[aK,R,simprocAttr])
  all_goals clear R
  all_goals rfl
 have h1:¬ (t.length:Int)>160:=of_decide_eq_false q;rw[show gm t=t.all gl by simp only[gm];rw[decide_eq_true (by omega)];rfl];have R:=y6 @hl (y6 @q (y6 @br aF))
 repeat' ((first |(with_reducible refine .guard (fun hb =>?_) (fun hb =>?_) <;>try simp only[hb])|refine U.aJ (by decide +kernel) rfl fun K hK =>?_|(refine .aG [0,2,3,6,10,28] hK ?_;clear hK K)|(with_reducible refine .done (hK _ ?_);clear hK K)|refine U.of rfl ?_|(with_reducible refine az.aI (fun h =>?_) (fun h =>?_) <;>try simp only[h])) <;>try simp only[aK,R,simprocAttr])
 all_goals clear R
 refine U.loop (fun i:Nat=>aw [(0,enc (ar.of t)),(3,.int .i64 i)] []) (fun i=>i≤t.length∧(t.take i).all gl=true) (fun i=>t.length-i) 0 ⟨zv0 _,rfl⟩ ?_ ?_
 ·refine bx.cQ ?_ ?_ ?_ ?_ <;>simp[bV,b7,b6,bI,bX,I.only,bu]
 rintro i ⟨hi,hok⟩;by_cases hlt:i<t.length
 ·have hlc:=fr hlt;have he:=E8 t hlt;have hw:=eU (i:=i) (by omega);obtain ⟨h2,h3⟩:=CO hlt hok;generalize t[i]=c at *;rcases q1:decide ((c.toNat:Int)<32)
  rotate_left
  ·rw[h3 (by simp[gl,q1])];have R:=y6 @hl (y6 @hlc (y6 @he (y6 @hw (y6 @q1 (y6 @br aF)))))
   repeat' ((first |(with_reducible refine .guard (fun hb =>?_) (fun hb =>?_) <;>try simp only[hb])|refine U.aJ (by decide +kernel) rfl fun K hK =>?_|(refine .aG [0,2,3,6,10,28] hK ?_;clear hK K)|(with_reducible refine .done (hK _ ?_);clear hK K)|refine U.of rfl ?_|(with_reducible refine az.aI (fun h =>?_) (fun h =>?_) <;>try simp only[h])) <;>try simp only[aK,R,simprocAttr])
   all_goals clear R
   all_goals rfl
  rcases q2:decide ((c.toNat:Int)>126)
  rotate_left
  ·rw[h3 (by simp only[gl,q1,q2];rfl)];have R:=y6 @hl (y6 @hlc (y6 @he (y6 @hw (y6 @q1 (y6 @q2 (y6 @br aF))))))
   repeat' ((first |(with_reducible refine .guard (fun hb =>?_) (fun hb =>?_) <;>try simp only[hb])|refine U.aJ (by decide +kernel) rfl fun K hK =>?_|(refine .aG [0,2,3,6,10,28] hK ?_;clear hK K)|(with_reducible refine .done (hK _ ?_);clear hK K)|refine U.of rfl ?_|(with_reducible refine az.aI (fun h =>?_) (fun h =>?_) <;>try simp only[h])) <;>try simp only[aK,R,simprocAttr])
   all_goals clear R
   all_goals rfl
  rcases q3:((c.toNat:Int)==63)
  rotate_left
  ·rw[h3 (by simp only[gl,q1,q2,q3];rfl)];have R:=y6 @hl (y6 @hlc (y6 @he (y6 @hw (y6 @q1 (y6 @q2 (y6 @q3 (y6 @br aF)))))))
   repeat' ((first |(with_reducible refine .guard (fun hb =>?_) (fun hb =>?_) <;>try simp only[hb])|refine U.aJ (by decide +kernel) rfl fun K hK =>?_|(refine .aG [0,2,3,6,10,28] hK ?_;clear hK K)|(with_reducible refine .done (hK _ ?_);clear hK K)|refine U.of rfl ?_|(with_reducible refine az.aI (fun h =>?_) (fun h =>?_) <;>try simp only[h])) <;>try simp only[aK,R,simprocAttr])
   all_goals clear R
   all_goals rfl
  have h4:=h2 (by simp only[gl,q1,q2,q3];rfl);have R:=y6 @hl (y6 @hlc (y6 @he (y6 @hw (y6 @q1 (y6 @q2 (y6 @q3 (y6 @br aF)))))))
  repeat' ((first |(with_reducible refine .guard (fun hb =>?_) (fun hb =>?_) <;>try simp only[hb])|refine U.aJ (by decide +kernel) rfl fun K hK =>?_|(refine .aG [0,2,3,6,10,28] hK ?_;clear hK K)|(with_reducible refine .done (hK _ ?_);clear hK K)|refine U.of rfl ?_|(with_reducible refine az.aI (fun h =>?_) (fun h =>?_) <;>try simp only[h])) <;>try simp only[aK,R,simprocAttr])
  all_goals clear R
  refine ⟨i+1,⟨by omega,h4⟩,by omega,?_⟩;clear h2 h3 h4 hok;refine bx.cQ ?_ ?_ ?_ ?_ <;>simp[bV,b7,b6,bI,bX,I.only,bu]
 ·have hlc:=fM hlt;have hge:i=t.length:=by omega
  rw[hge,List.take_length] at hok;rw[hok];have R:=y6 @hl (y6 @hlc (y6 @br aF))
  repeat' ((first |(with_reducible refine .guard (fun hb =>?_) (fun hb =>?_) <;>try simp only[hb])|refine U.aJ (by decide +kernel) rfl fun K hK =>?_|(refine .aG [0,2,3,6,10,28] hK ?_;clear hK K)|(with_reducible refine .done (hK _ ?_);clear hK K)|refine U.of rfl ?_|(with_reducible refine az.aI (fun h =>?_) (fun h =>?_) <;>try simp only[h])) <;>try simp only[aK,R,simprocAttr])
  all_goals clear R
  all_goals rfl
def nk(r:ai):Bool:=(r.ec==0)&&(decide (r.text=[])&&(iz r.fQ&&((r.fi==r.aO)&&decide (r.ft<r.no))))
def fR(r:ai):Bool:=iz r.bp&&(eC 0 40 r.kind&&(eC 0 100000 r.ec&&(eC 0 100000 r.known&&gm r.text)))
def bh(r:ai):Bool:=fR r&&(if r.kind=0 then nk r else decide (r.fQ=⟨0,0⟩))
theorem hv:(I.ak ⟨#[]⟩)=enc (ar.of []):=rfl
theorem pY:(I.agg [.int .i64 0,.int .i64 0])=enc (⟨0,0⟩:Item):=rfl
theorem lP(a b:List UInt8):bG .eql (enc (ar.of a)) (enc (ar.of b))=some (.bool (decide (a=b))):=by rw[xd];simp only[ar.s8]
theorem ik(a b:List UInt8):bG .neq (enc (ar.of a)) (enc (ar.of b))=some (.bool (!decide (a=b))):=by rw[xe];simp only[ar.s8]
theorem pE(r:ai):aS Tryz.prog 80 [enc r] (enc (bh r)):=by
 refine aS.bS Tryz.func80 IS JW Lc (t8 rfl) (fun hwf W0 bL E1 =>?_);simp only[c80,D8,bH];clear hwf;have f1:=xW r.bp;have f2:=mE r.kind 0 40;have f3:=xU r.ec;have f4:=xU r.known;have f5:=F5 r.text;have f6:=xW r.fQ;cases q1:iz r.bp
 ·rw[q1] at f1;rw[show bh r=false by simp only[bh,fR,q1,Bool.false_and]];have R:=y6 @q1 (y6 @br aF)
  repeat' ((first |(with_reducible refine .guard (fun hb =>?_) (fun hb =>?_) <;>try simp only[hb])|refine U.aJ (by decide +kernel) rfl fun K hK =>?_|refine .flat _ (f1) rfl ?_|refine .flat _ (f2) rfl ?_|refine .flat _ (f3) rfl ?_|refine .flat _ (f4) rfl ?_|refine .flat _ (f5) rfl ?_|(refine .aG [0,1,2,30,33] hK ?_;clear hK K)|(with_reducible refine .done (hK _ ?_);clear hK K)|refine U.of rfl ?_|(with_reducible refine az.aI (fun h =>?_) (fun h =>?_) <;>try simp only[h])) <;>try simp only[aK,R,simprocAttr])
  all_goals clear R
  all_goals rfl
 rw[q1] at f1;cases q2:eC 0 40 r.kind
 ·rw[q2] at f2;rw[show bh r=false by simp only[bh,fR,q1,q2,Bool.false_and,Bool.and_false]];have R:=y6 @br aF
  repeat' ((first |(with_reducible refine .guard (fun hb =>?_) (fun hb =>?_) <;>try simp only[hb])|refine U.aJ (by decide +kernel) rfl fun K hK =>?_|refine .flat _ (f1) rfl ?_|refine .flat _ (f2) rfl ?_|refine .flat _ (f3) rfl ?_|refine .flat _ (f4) rfl ?_|refine .flat _ (f5) rfl ?_|(refine .aG [0,1,2,30,33] hK ?_;clear hK K)|(with_reducible refine .done (hK _ ?_);clear hK K)|refine U.of rfl ?_|(with_reducible refine az.aI (fun h =>?_) (fun h =>?_) <;>try simp only[h])) <;>try simp only[aK,R,simprocAttr])
  all_goals clear R
  all_goals rfl
 rw[q2] at f2;cases q3:eC 0 100000 r.ec
 ·rw[q3] at f3;rw[show bh r=false by simp only[bh,fR,q1,q2,q3,Bool.false_and,Bool.and_false]];have R:=y6 @br aF
  repeat' ((first |(with_reducible refine .guard (fun hb =>?_) (fun hb =>?_) <;>try simp only[hb])|refine U.aJ (by decide +kernel) rfl fun K hK =>?_|refine .flat _ (f1) rfl ?_|refine .flat _ (f2) rfl ?_|refine .flat _ (f3) rfl ?_|refine .flat _ (f4) rfl ?_|refine .flat _ (f5) rfl ?_|(refine .aG [0,1,2,30,33] hK ?_;clear hK K)|(with_reducible refine .done (hK _ ?_);clear hK K)|refine U.of rfl ?_|(with_reducible refine az.aI (fun h =>?_) (fun h =>?_) <;>try simp only[h])) <;>try simp only[aK,R,simprocAttr])
  all_goals clear R
  all_goals rfl
 rw[q3] at f3;cases q4:eC 0 100000 r.known
 ·rw[q4] at f4;rw[show bh r=false by simp only[bh,fR,q1,q2,q3,q4,Bool.false_and,Bool.and_false]];have R:=y6 @br aF
  repeat' ((first |(with_reducible refine .guard (fun hb =>?_) (fun hb =>?_) <;>try simp only[hb])|refine U.aJ (by decide +kernel) rfl fun K hK =>?_|refine .flat _ (f1) rfl ?_|refine .flat _ (f2) rfl ?_|refine .flat _ (f3) rfl ?_|refine .flat _ (f4) rfl ?_|refine .flat _ (f5) rfl ?_|(refine .aG [0,1,2,30,33] hK ?_;clear hK K)|(with_reducible refine .done (hK _ ?_);clear hK K)|refine U.of rfl ?_|(with_reducible refine az.aI (fun h =>?_) (fun h =>?_) <;>try simp only[h])) <;>try simp only[aK,R,simprocAttr])
  all_goals clear R
  all_goals rfl
 rw[q4] at f4;cases q5:gm r.text
 ·rw[q5] at f5;rw[show bh r=false by simp only[bh,fR,q1,q2,q3,q4,q5,Bool.false_and,Bool.and_false]];have R:=y6 @br aF
  repeat' ((first |(with_reducible refine .guard (fun hb =>?_) (fun hb =>?_) <;>try simp only[hb])|refine U.aJ (by decide +kernel) rfl fun K hK =>?_|refine .flat _ (f1) rfl ?_|refine .flat _ (f2) rfl ?_|refine .flat _ (f3) rfl ?_|refine .flat _ (f4) rfl ?_|refine .flat _ (f5) rfl ?_|(refine .aG [0,1,2,30,33] hK ?_;clear hK K)|(with_reducible refine .done (hK _ ?_);clear hK K)|refine U.of rfl ?_|(with_reducible refine az.aI (fun h =>?_) (fun h =>?_) <;>try simp only[h])) <;>try simp only[aK,R,simprocAttr])
  all_goals clear R
  all_goals rfl
 rw[q5] at f5;have hH:fR r=true:=by simp only[fR,q1,q2,q3,q4,q5,Bool.and_self]
 cases k:(r.kind==0)
 ·rw[show bh r=decide (r.fQ=⟨0,0⟩) by simp only[bh,hH,Bool.true_and];rw[if_neg (by simpa using k)]];have R:=y6 @k (y6 @pY (y6 @br aF))
  repeat' ((first |(with_reducible refine .guard (fun hb =>?_) (fun hb =>?_) <;>try simp only[hb])|refine U.aJ (by decide +kernel) rfl fun K hK =>?_|refine .flat _ (f1) rfl ?_|refine .flat _ (f2) rfl ?_|refine .flat _ (f3) rfl ?_|refine .flat _ (f4) rfl ?_|refine .flat _ (f5) rfl ?_|(refine .aG [0,1,2,30,33] hK ?_;clear hK K)|(with_reducible refine .done (hK _ ?_);clear hK K)|refine U.of rfl ?_|(with_reducible refine az.aI (fun h =>?_) (fun h =>?_) <;>try simp only[h])) <;>try simp only[aK,R,simprocAttr])
  all_goals clear R
  all_goals rfl
 rw[show bh r=nk r by simp only[bh,hH,Bool.true_and];rw[if_pos (by simpa using k)]];simp only[nk];cases w1:(r.ec==0)
 ·have R:=y6 @k (y6 @w1 (y6 @hv (y6 @lP (y6 @br aF))))
  repeat' ((first |(with_reducible refine .guard (fun hb =>?_) (fun hb =>?_) <;>try simp only[hb])|refine U.aJ (by decide +kernel) rfl fun K hK =>?_|refine .flat _ (f1) rfl ?_|refine .flat _ (f2) rfl ?_|refine .flat _ (f3) rfl ?_|refine .flat _ (f4) rfl ?_|refine .flat _ (f5) rfl ?_|refine .flat _ (f6) rfl ?_|(refine .aG [0,1,2,30,33] hK ?_;clear hK K)|(with_reducible refine .done (hK _ ?_);clear hK K)|refine U.of rfl ?_|(with_reducible refine az.aI (fun h =>?_) (fun h =>?_) <;>try simp only[h])) <;>try simp only[aK,R,simprocAttr])
  all_goals clear R
  all_goals rfl
 cases w2:decide (r.text=[])
 ·have R:=y6 @k (y6 @w1 (y6 @w2 (y6 @hv (y6 @lP (y6 @br aF)))))
  repeat' ((first |(with_reducible refine .guard (fun hb =>?_) (fun hb =>?_) <;>try simp only[hb])|refine U.aJ (by decide +kernel) rfl fun K hK =>?_|refine .flat _ (f1) rfl ?_|refine .flat _ (f2) rfl ?_|refine .flat _ (f3) rfl ?_|refine .flat _ (f4) rfl ?_|refine .flat _ (f5) rfl ?_|refine .flat _ (f6) rfl ?_|(refine .aG [0,1,2,30,33] hK ?_;clear hK K)|(with_reducible refine .done (hK _ ?_);clear hK K)|refine U.of rfl ?_|(with_reducible refine az.aI (fun h =>?_) (fun h =>?_) <;>try simp only[h])) <;>try simp only[aK,R,simprocAttr])
  all_goals clear R
  all_goals rfl
 cases w3:iz r.fQ
 ·rw[w3] at f6;have R:=y6 @k (y6 @w1 (y6 @w2 (y6 @hv (y6 @lP (y6 @br aF)))))
  repeat' ((first |(with_reducible refine .guard (fun hb =>?_) (fun hb =>?_) <;>try simp only[hb])|refine U.aJ (by decide +kernel) rfl fun K hK =>?_|refine .flat _ (f1) rfl ?_|refine .flat _ (f2) rfl ?_|refine .flat _ (f3) rfl ?_|refine .flat _ (f4) rfl ?_|refine .flat _ (f5) rfl ?_|refine .flat _ (f6) rfl ?_|(refine .aG [0,1,2,30,33] hK ?_;clear hK K)|(with_reducible refine .done (hK _ ?_);clear hK K)|refine U.of rfl ?_|(with_reducible refine az.aI (fun h =>?_) (fun h =>?_) <;>try simp only[h])) <;>try simp only[aK,R,simprocAttr])
  all_goals clear R
  all_goals rfl
 rw[w3] at f6;cases w4:(r.fi==r.aO)
 ·have R:=y6 @k (y6 @w1 (y6 @w2 (y6 @w4 (y6 @hv (y6 @lP (y6 @br aF))))))
  repeat' ((first |(with_reducible refine .guard (fun hb =>?_) (fun hb =>?_) <;>try simp only[hb])|refine U.aJ (by decide +kernel) rfl fun K hK =>?_|refine .flat _ (f1) rfl ?_|refine .flat _ (f2) rfl ?_|refine .flat _ (f3) rfl ?_|refine .flat _ (f4) rfl ?_|refine .flat _ (f5) rfl ?_|refine .flat _ (f6) rfl ?_|(refine .aG [0,1,2,30,33] hK ?_;clear hK K)|(with_reducible refine .done (hK _ ?_);clear hK K)|refine U.of rfl ?_|(with_reducible refine az.aI (fun h =>?_) (fun h =>?_) <;>try simp only[h])) <;>try simp only[aK,R,simprocAttr])
  all_goals clear R
  all_goals rfl
 have R:=y6 @k (y6 @w1 (y6 @w2 (y6 @w4 (y6 @hv (y6 @lP (y6 @br aF))))))
 repeat' ((first |(with_reducible refine .guard (fun hb =>?_) (fun hb =>?_) <;>try simp only[hb])|refine U.aJ (by decide +kernel) rfl fun K hK =>?_|refine .flat _ (f1) rfl ?_|refine .flat _ (f2) rfl ?_|refine .flat _ (f3) rfl ?_|refine .flat _ (f4) rfl ?_|refine .flat _ (f5) rfl ?_|refine .flat _ (f6) rfl ?_|(refine .aG [0,1,2,30,33] hK ?_;clear hK K)|(with_reducible refine .done (hK _ ?_);clear hK K)|refine U.of rfl ?_|(with_reducible refine az.aI (fun h =>?_) (fun h =>?_) <;>try simp only[h])) <;>try simp only[aK,R,simprocAttr])
 all_goals clear R
 all_goals rfl
def pU(r:ai):Int:=if bh r=true then 0 else 80
def du(t:List UInt8):List (List UInt8):=(jw 10 true t).dropLast
theorem oO{t:List UInt8}(h:∀ b∈t,b≠10):du t=[]:=by rw[du,Aw h];rfl
theorem vW{x:List UInt8}(y:List UInt8)(h:∀ b∈x,b≠10):du (x++10::y)=(x++[10])::du y:=by
 rw[du,Av y h,if_pos rfl,List.dropLast_cons_of_ne_nil (Lt 10 true y)];rfl
def eS(cz:Int→List UInt8→Option (ai×Int))(nx:List ai→ai→Bool):List ai→Int→Nat→List (List UInt8)→List ai×Nat
 |out,_,size,[]=>(out,size)
 |out,s,size,x::t=>match cz s x with
  |none=>(out,size)
  |some q=>if nx out q.1=true then eS cz nx (out++[q.1]) q.2 (size+x.length) t else (out,size)
def bK:Int→List ai→List UInt8
 |_,[]=>[]
 |s,r::l=>cR s r++bK (cV s (cN r)) l
def dx:Int→List ai→Int
 |s,[]=>s
 |s,r::l=>dx (cV s (cN r)) l
theorem ri:∀ (a b:List ai) (s:Int),bK s (a++b)=bK s a++bK (dx s a) b
 | [],_,_=>rfl
 |r::a,b,s=>by simp only[zz8,bK,dx,ri a b,zz0]
theorem xE:∀ (a b:List ai) (s:Int),dx s (a++b)=dx (dx s a) b
 | [],_,_=>rfl
 |r::a,b,s=>by simp only[zz8,dx,xE a b]
theorem tQ:∀ (a:List ai) {s:Int},0≤s∧s<1000003→0≤dx s a∧dx s a<1000003
 | [],_,h=>h
 |_::a,_,h=>tQ a (ki h _)
theorem tT(a:List ai)(r:ai)(s:Int):bK s (a++[r])=bK s a++cR (dx s a) r∧dx s (a++[r])=cV (dx s a) (cN r):=by
 rw[ri,xE];simp only[bK,dx,zx9,and_self]
structure jr (ok:ai→Bool):Prop where
 small:∀ r,ok r=true→∀ n∈dS r,0≤n∧n<100000000
 WM:∀ r,ok r=true→∀ b∈r.text,b≠10
theorem YX:∀ {l:List Int},(∀ n∈l,0≤n)→∀ b∈dj l,b≠10:=by
 intro l h b hb;obtain ⟨n,hn,hb⟩:=List.mem_flatMap.1 hb;rcases zy2.1 hb with hb | hb
 ·exact AB (h n hn) (by decide) b hb
 ·rw[zx2.1 hb];decide
theorem Cj{ok:ai→Bool}(hk:jr ok){s:Int}(hs:0≤s∧s<1000003){r:ai}(h:ok r=true) :
  ∃ x,cR s r=x++[10]∧∀ b∈x,b≠10:=by
 refine ⟨_,vV s r,fun b hb =>?_⟩;rcases zy2.1 hb with hb | hb
 ·refine YX (fun n hn =>?_) b hb;rcases zy8.1 hn with rfl | hn
  ·exact (ki hs _).1
  ·exact (hk.small r h n hn).1
 ·exact hk.WM r h b hb
def cY(ok:ai→Bool)(nx:List ai→ai→Bool):List ai→List ai→Prop
 |_,[]=>True
 |out,r::l=>ok r=true∧nx out r=true∧cY ok nx (out++[r]) l
theorem qW{ok:ai→Bool}(hk:jr ok)(nx:List ai→ai→Bool)(z:List UInt8):∀ (l out:List ai) (s:Int) (size:Nat),0≤s∧s<1000003→cY ok nx out l →
  eS (dv ok) nx out s size (du (bK s l++z))=eS (dv ok) nx (out++l) (dx s l) (size+(bK s l).length) (du z)
 | [],out,s,size,_,_=>by simp only[bK,dx,zy3,zx9,zw2,Nat.add_zero]
 |r::l,out,s,size,hs,hw=>by
  obtain ⟨h1,h2,h3⟩:=hw;obtain ⟨x,e,hx⟩:=Cj hk hs h1;have hb:=(Yt ok hs h1 (hk.small r h1)).1;have ih:=qW hk nx z l (out++[r]) (cV s (cN r)) (size+(cR s r).length) (ki hs _) h3;rw[bK,zz0,e,zz0,List.singleton_append,vW _ hx,←e,eS,hb];simp only[h2,if_true];rw[ih];simp only[dx,zz0,List.singleton_append,Z8,Nat.add_assoc]
theorem Y9{ok:ai→Bool}(hk:jr ok)(nx:List ai→ai→Bool){l:List ai}(h:cY ok nx [] l){z:List UInt8}(hz:∀ b∈z,b≠10) :
  eS (dv ok) nx [] 1 0 (du (bK 1 l++z))=(l,(bK 1 l).length):=by
 rw[qW hk nx z l [] 1 0 (by omega) h,oO hz,eS];simp
theorem uX{ok:ai→Bool}(hk:jr ok)(nx:List ai→ai→Bool):∀ (l out:List ai) (s:Int) (A C:List UInt8),0≤s∧s<1000003→cY ok nx out l→bK s l=A++C→C≠[] →
  ∃ l1 l2 A2,l=l1++l2∧l2≠[]∧A=bK s l1++A2∧(∀ b∈A2,b≠10)∧A.count 10=l1.length
 | [],_,_,A,C,_,_,e,hC=>by
  simp only[bK] at e;have:=congrArg List.length e;cases C with
  |nil=>exact absurd rfl hC
  |cons c t=>simp at this
 |r::l,out,s,A,C,hs,hw,e,hC=>by
  obtain ⟨h1,h2,h3⟩:=hw;obtain ⟨x,ex,hx⟩:=Cj hk hs h1;have hc:(cR s r).count 10=1:=by
   rw[ex,List.count_append,List.count_eq_zero.2 (fun k=>hx 10 k rfl)];rfl
  have step:∀ a',A=cR s r++a'→bK (cV s (cN r)) l=a'++C→∃ l1 l2 A2,r::l=l1++l2∧l2≠[]∧A=bK s l1++A2∧(∀ b∈A2,b≠10)∧A.count 10=l1.length:=by
   intro a' e1 e2;obtain ⟨l1,l2,A2,q1,q2,q3,q4,q5⟩:=uX hk nx l (out++[r]) _ a' C (ki hs _) h3 e2 hC;refine ⟨r::l1,l2,A2,by rw[q1];rfl,q2,by rw[e1,q3,bK,zz0],q4,?_⟩;rw[e1,List.count_append,hc,q5,zx7];omega
  rw[bK] at e;rcases List.append_eq_append_iff.1 e with ⟨a',e1,e2⟩ | ⟨c',e1,e2⟩
  ·exact step a' e1 e2
  ·by_cases hc':c'=[]
   ·subst hc';exact step [] (by rw[e1];simp) (by rw[e2];simp)
   ·have hA:∀ b∈A,b≠10:=by
     rw[ex] at e1;rcases List.append_eq_append_iff.1 e1 with ⟨y,f1,f2⟩ | ⟨y,f1,f2⟩
     ·have:y=[]:=by
       have h':=congrArg List.length f2;have h'':=List.length_pos_iff.2 hc';rw[Z8,List.length_singleton] at h';exact zw1 (by omega)
      rw[this,zx9] at f1;rw[f1];exact hx
     ·intro b hb;exact hx b (by rw[f1];exact List.mem_append_left _ hb)
    exact ⟨[],r::l,A,rfl,by simp,rfl,hA,by rw[List.count_eq_zero.2 (fun k=>hA 10 k rfl)];rfl⟩
theorem cY.left{ok:ai→Bool}{nx:List ai→ai→Bool} : ∀ {a b out:List ai},cY ok nx out (a++b)→cY ok nx out a
 | [],_,_,_=>trivial
 |_::_,_,_,h=>⟨h.1,h.2.1,cY.left h.2.2⟩
theorem VU(m:Nat)(b:UInt8)(h:b∈Lib.itoa (m:Int)):57<b.toNat→False:=by
 intro hb;rw[Lib.itoa_nonneg] at h;have hd:=(ot m).1;generalize Lib.decDigits m=l at h hd;obtain ⟨j,hj,rfl⟩:=List.getElem_of_mem h;rw[LZ hj (by simp only[jf,decide_eq_false_iff_not];omega)] at hd;cases hd
theorem WN{ok:ai→Bool}(hk:jr ok)(hq:∀ r,ok r=true→∀ b∈r.text,b≠63){s:Int}(hs:0≤s∧s<1000003){t:List UInt8}(h:(63:UInt8)∈t):dv ok s t=none:=by
 cases hr:dv ok s t with
 |none=>rfl
 |some q =>
  exfalso
  obtain ⟨h1,h2,_⟩:=Eu ok hr;rw[←h2,vV] at h;rcases zy2.1 h with h | h
  ·rcases zy2.1 h with h | h
   ·obtain ⟨n,hn,hb⟩:=List.mem_flatMap.1 h;have h0:0≤n:=by
     rcases zy8.1 hn with rfl | hn
     ·exact (ki hs _).1
     ·exact (hk.small _ h1 n hn).1
    rcases zy2.1 hb with hb | hb
    ·obtain ⟨m,rfl⟩:=zz9 h0;exact VU m 63 hb (by decide)
    ·exact absurd (zx2.1 hb) (by decide)
   ·exact hq _ h1 63 h rfl
  ·exact absurd (zx2.1 h) (by decide)
inductive fK (t:List UInt8):List UInt8→Prop
 |kv (k:Nat):fK t (t.take k)
 |xt (k j:Nat) (h:j<(t.take k).length):fK t ((t.take k).set j 63)
theorem Za{ok:ai→Bool}(hk:jr ok)(hq:∀ r,ok r=true→∀ b∈r.text,b≠63)(nx:List ai→ai→Bool){l out:List ai}{s:Int}(hs:0≤s∧s<1000003)(size:Nat)
  (h:cY ok nx out l) {A:List UInt8} (hA:fK (bK s l) A) :
  ∃ l1 l2 A2,l=l1++l2∧A=bK s l1++A2∧eS (dv ok) nx out s size (du A)=(out++l1,size+(bK s l1).length):=by
 have dF:∀ l1 l2 z,l=l1++l2→(∀ b∈z,b≠10)→eS (dv ok) nx out s size (du (bK s l1++z))=(out++l1,size+(bK s l1).length):=by
  intro l1 l2 z e hz;rw[qW hk nx z l1 out s size hs (cY.left (e▸h)),oO hz,eS]
 cases hA with
 |kv k =>
  by_cases hC:(bK s l).drop k=[]
  ·have e:(bK s l).take k=bK s l:=by
    have:=zx1 k (bK s l);rw[hC,zx9] at this;exact this
   refine ⟨l,[],[],by simp,by rw[e];simp,?_⟩;have:=dF l [] [] (by simp) (by simp);rw[zx9] at this;rw[e,this]
  ·obtain ⟨l1,l2,A2,q1,_,q3,q4,_⟩:=uX hk nx l out s _ _ hs h (zx1 k (bK s l)).symm hC;refine ⟨l1,l2,A2,q1,q3,?_⟩;rw[q3];exact dF l1 l2 A2 q1 q4
 |xt k j hj =>
  have hj':j<(bK s l).length:=by rw[zz4] at hj;omega
  have hjk:j<k:=by rw[zz4] at hj;omega
  obtain ⟨l1,l2,A2,q1,_,q3,q4,_⟩:=uX hk nx l out s _ _ hs h (zx1 j (bK s l)).symm (by rw[Ne,List.drop_eq_nil_iff];omega);have e:((bK s l).take k).set j 63=bK s l1++(A2++63::((bK s l).take k).drop (j+1)):=by
   rw[List.set_eq_take_append_cons_drop,if_pos hj,List.take_take,Nat.min_eq_left (Nat.le_of_lt hjk),q3,zz0]
  refine ⟨l1,l2,_,q1,e,?_⟩;rw[e,qW hk nx _ l1 out s size hs (cY.left (q1▸h))];generalize ((bK s l).take k).drop (j+1)=C;rcases Bc 10 C with hC | ⟨x,y,hx,rfl⟩
  ·rw[oO,eS];intro z hz;rcases zy2.1 hz with hz | hz
   ·exact q4 z hz
   ·rcases zy8.1 hz with rfl | hz
    ·decide
    ·exact hC z hz
  ·rw[show A2++63::(x++10::y)=(A2++63::x)++10::y by simp,vW y (by
    intro z hz;rcases zy2.1 hz with hz | hz
    ·exact q4 z hz
    ·rcases zy8.1 hz with rfl | hz
     ·decide
     ·exact hx z hz),eS,WN hk hq (tQ l1 hs) (by simp)]
theorem cY.right{ok:ai→Bool}{nx:List ai→ai→Bool} : ∀ {a b out:List ai},cY ok nx out (a++b)→cY ok nx (out++a) b
 | [],_,_,h=>by simpa using h
 |r::a,b,out,h=>by
  have:=cY.right (a:=a) h.2.2
  rwa [zz0,List.singleton_append] at this
theorem Zd{ok:ai→Bool}(hk:jr ok)(hq:∀ r,ok r=true→∀ b∈r.text,b≠63)(nx:List ai→ai→Bool){l1 l2:List ai}(h:cY ok nx [] (l1++l2)){A:List UInt8}(hA:fK (bK (dx 1 l1) l2) A) :
  ∃ m m' A2,l2=m++m'∧bK 1 l1++A=bK 1 (l1++m)++A2∧eS (dv ok) nx [] 1 0 (du (bK 1 l1++A))=(l1++m,(bK 1 (l1++m)).length):=by
 have hw:=cY.right (out:=[]) h;rw[zy3] at hw;obtain ⟨m,m',A2,q1,q2,q3⟩:=Za hk hq nx (tQ l1 (by omega)) (0+(bK 1 l1).length) hw hA;refine ⟨m,m',A2,q1,by rw[q2,ri,zz0],?_⟩;rw[qW hk nx A l1 [] 1 0 (by omega) (cY.left h),zy3,q3,ri,Z8,zz5]
def fV(ok:ai→Bool)(nx:List ai→ai→Bool)(t:List UInt8):List ai×List UInt8:=((eS (dv ok) nx [] 1 0 (du t)).1,t.take (eS (dv ok) nx [] 1 0 (du t)).2)
def mr(ok:ai→Bool)(nx:List ai→ai→Bool)(a b:List UInt8):List ai×List UInt8 :=
 if (fV ok nx a).1.length<(fV ok nx b).1.length then fV ok nx b else fV ok nx a
theorem Fa(ok:ai→Bool)(nx:List ai→ai→Bool):fV ok nx []=([],[]):=by
 rw[fV,oO (by simp),eS];rfl
theorem Wj{A:List UInt8}(h:fK [] A):A=[]:=by
 cases h with
 |kv k=>simp
 |xt k j hj=>simp
theorem Y8{ok:ai→Bool}(hk:jr ok)(hq:∀ r,ok r=true→∀ b∈r.text,b≠63)(nx:List ai→ai→Bool){l1 l2:List ai}(h:cY ok nx [] (l1++l2)){A:List UInt8}(hA:fK (bK (dx 1 l1) l2) A) :
  ∃ m m',l2=m++m'∧fV ok nx (bK 1 l1++A)=(l1++m,bK 1 (l1++m)):=by
 obtain ⟨m,m',A2,q1,q2,q3⟩:=Zd hk hq nx h hA;refine ⟨m,m',q1,?_⟩;rw[fV,q3,q2,List.take_left]
theorem Y7{ok:ai→Bool}(hk:jr ok)(nx:List ai→ai→Bool){l:List ai}(h:cY ok nx [] l):fV ok nx (bK 1 l)=(l,bK 1 l):=by
 have:=Y9 hk nx h (z:=[]) (by simp);rw[zx9] at this;rw[fV,this,List.take_length]
theorem XT{ok:ai→Bool}(hk:jr ok)(hq:∀ r,ok r=true→∀ b∈r.text,b≠63)(nx:List ai→ai→Bool){l1 l2:List ai}(h:cY ok nx [] (l1++l2)){A:List UInt8}(hA:fK (bK (dx 1 l1) l2) A)
  {a b:List UInt8} (hab:(a=bK 1 l1++A∧(b=bK 1 l1∨b=[]))∨(a=[]∧b=bK 1 l1)) :
  ∃ m m',l2=m++m'∧mr ok nx a b=(l1++m,bK 1 (l1++m)):=by
 have hd:=Y7 hk nx (cY.left h);rcases hab with ⟨rfl,hb⟩ | ⟨rfl,rfl⟩
 ·obtain ⟨m,m',q1,q2⟩:=Y8 hk hq nx h hA;refine ⟨m,m',q1,?_⟩;have hle:¬ (fV ok nx (bK 1 l1++A)).1.length<(fV ok nx b).1.length:=by
   rw[q2];rcases hb with rfl | rfl
   ·rw[hd];simp
   ·rw[Fa];simp
  rw[mr,if_neg hle,q2]
 ·refine ⟨[],l2,rfl,?_⟩;rw[mr,Fa,hd,zx9];cases l1 with
  |nil=>rfl
  |cons r l=>rfl
structure gH (firm:Nat) (w:List ai) (gO gP gw gL:List UInt8):Prop where
 eD:firm≤w.length
 gO:gO=bK 1 (w.take firm)
 gP:gP=bK (dx 1 (w.take firm)) (w.drop firm)
 gw:gw=bK 1 (w.take firm)
 gL:gL=[]
theorem gH.zero:gH 0 [] [] [] [] []:=⟨zz2 _,rfl,rfl,rfl,rfl⟩
theorem gH.all(w:List ai):gH w.length w (bK 1 w) [] (bK 1 w) [] :=
 ⟨zz2 _,by rw[List.take_length],by rw[List.drop_length];rfl,by rw[List.take_length],rfl⟩
theorem gH.cd{firm:Nat}{w:List ai}{gO gP gw gL:List UInt8}(h:gH firm w gO gP gw gL):gO++gP=bK 1 w:=by
 rw[h.gO,h.gP,←ri,zx1]
theorem gH.copy{firm:Nat}{w:List ai}{gO gP gw gL:List UInt8}(h:gH firm w gO gP gw gL):gw++gL=bK 1 (w.take firm):=by
 rw[h.gw,h.gL,zx9]
theorem gH.xO{firm:Nat}{w:List ai}{gO gP gw gL:List UInt8}(h:gH firm w gO gP gw gL)(x:ai):gH firm (w++[x]) gO (gP++cR (dx 1 w) x) gw gL:=by
 have e1:(w++[x]).take firm=w.take firm:=List.take_append_of_le_length h.eD;have e2:(w++[x]).drop firm=w.drop firm++[x]:=List.drop_append_of_le_length h.eD;refine ⟨by rw[Z8];have:=h.eD;omega,by rw[e1];exact h.gO,?_,by rw[e1];exact h.gw,h.gL⟩;rw[e1,e2,(tT _ _ _).1,←xE,zx1,←h.gP]
theorem gH.tP{ok:ai→Bool}(hk:jr ok)(hq:∀ r,ok r=true→∀ b∈r.text,b≠63)(nx:List ai→ai→Bool){firm:Nat}{w:List ai}{gO gP gw gL:List UInt8}(h:gH firm w gO gP gw gL)(hw:cY ok nx [] w)
  {A B:List UInt8} (hA:fK gP A) (hB:fK gL B) {a b:List UInt8} (hab:(a=gO++A∧(b=gw++B∨b=[]))∨(a=[]∧b=gw++B)) :
  ∃ n,firm≤n∧n≤w.length∧mr ok nx a b=(w.take n,bK 1 (w.take n)):=by
 have hB0:B=[]:=Wj (h.gL▸hB);have e:w.take firm++w.drop firm=w:=zx1 firm w;rw[h.gP] at hA;rw[h.gO,h.gw,hB0,zx9] at hab;obtain ⟨m,m',q1,q2⟩:=XT hk hq nx (by rw[e];exact hw) hA hab;have hl:=congrArg List.length q1;rw[zv1,Z8] at hl;have hle:=h.eD;refine ⟨firm+m.length,by omega,by omega,?_⟩;have et:w.take (firm+m.length)=w.take firm++m:=by
  rw[List.take_add,q1,List.take_left]
 rw[q2,et]
def cG(l:List ai)(m:Int):Nat:=l.countP fun r=>decide (r.aO=m)
def dq(a b:ai):Bool:=decide (a.aO<b.aO∨(a.aO=b.aO∧a.no<b.no))
def iL(l:List ai)(r:ai):Bool:=match l.getLast? with
 |none=>decide ((r.aO=-1∧r.no=1)∨(-1<r.aO∧r.no=0))
 |some a=>decide ((r.aO=a.aO∧r.no=a.no+1)∨(a.aO<r.aO∧r.no=0))
def lW(l:List ai)(r:ai):Bool:=(match l.getLast? with
 |none=>true
 |some a=>dq a r)&&decide ((cG l r.aO:Int)=r.no)
def e9(aV:List ai→ai→Bool):List ai→List ai→Bool
 |_,[]=>true
 |out,r::l=>aV out r&&e9 aV (out++[r]) l
def nY(l:List ai):Prop:=match l.getLast? with
 |none=>True
 |some a=>(cG l a.aO:Int)=a.no+1∧∀ m,a.aO<m→cG l m=0
theorem mR(l:List ai)(r:ai)(m:Int):cG (l++[r]) m=cG l m+if r.aO=m then 1 else 0:=by
 rw[cG,List.countP_append,←cG,List.countP_cons,List.countP_nil];simp
theorem FB{l:List ai}(h:nY l){r:ai}(hr:0≤r.aO∧0≤r.no):iL l r=lW l r∧(iL l r=true→nY (l++[r])):=by
 rw[nY] at h;have hl:(l++[r]).getLast?=some r:=by rw[List.getLast?_append];rfl
 rw[nY,hl,iL,lW];cases e:l.getLast? with
 |none =>
  have hnil:l=[]:=List.getLast?_eq_none_iff.1 e;subst hnil;have c0:∀ m,cG [] m=0:=fun _=>rfl;have c1:=c0 r.aO;simp only[Bool.true_and];refine ⟨?_,?_⟩
  ·rw[Bool.eq_iff_iff,decide_eq_true_iff,decide_eq_true_iff];constructor
   ·intro h;rcases h with h | h <;>omega
   ·intro h;right;omega
  ·intro h;rw[decide_eq_true_eq] at h;refine ⟨by rw[mR,if_pos rfl];omega,fun m hm =>?_⟩;rw[mR,if_neg (by omega),c0]
 |some a =>
  rw[e] at h;obtain ⟨h1,h2⟩:=h;simp only;refine ⟨?_,?_⟩
  ·rw[dq,Bool.eq_iff_iff,Z7,decide_eq_true_eq,decide_eq_true_eq,decide_eq_true_eq];rcases Int.lt_trichotomy a.aO r.aO with c | c | c
   ·have:=h2 r.aO c;constructor
    ·intro k;exact ⟨.inl c,by omega⟩
    ·intro k;right;omega
   ·rw[←c];constructor
    ·intro k;exact ⟨.inr ⟨rfl,by omega⟩,by omega⟩
    ·intro k;left;omega
   ·constructor
    ·intro k;omega
    ·intro k;omega
  ·intro k;rw[decide_eq_true_eq] at k;rw[mR,if_pos rfl];refine ⟨?_,fun m hm =>?_⟩
   ·rcases k with k | k
    ·rw[k.1];omega
    ·have:=h2 r.aO k.1;omega
   ·rw[mR,if_neg (by omega),h2 m (by omega)]
theorem yA:∀ (l out:List ai),nY out→(∀ r∈l,0≤r.aO∧0≤r.no)→e9 iL out l=e9 lW out l
 | [],_,_,_=>rfl
 |r::l,out,h,hr=>by
  obtain ⟨e,k⟩:=FB h (hr r (by simp));simp only[e9,←e];cases hs:iL out r with
  |false=>rfl
  |true=>rw[yA l (out++[r]) (k hs) fun x hx=>hr x (by simp[hx])]
theorem yR{l:List ai}(hr:∀ r∈l,0≤r.aO∧0≤r.no):e9 iL [] l=e9 lW [] l:=yA l [] trivial hr
theorem yT:∀ (l out:List ai),nY out→(∀ r∈l,0≤r.aO∧0≤r.no)→e9 iL out l=true→out.Pairwise (fun a b=>dq a b=true)→(out++l).Pairwise (fun a b=>dq a b=true)
 | [],out,_,_,_,h=>by simpa using h
 |r::l,out,h,hr,hb,hp=>by
  simp only[e9,Z7] at hb;obtain ⟨e,k⟩:=FB h (hr r (by simp));have:=yT l (out++[r]) (k hb.1) (fun x hx=>hr x (by simp[hx])) hb.2 (by
   rw[List.pairwise_append];refine ⟨hp,by simp,fun a ha b hb' =>?_⟩;rw[zx2.1 hb'];have hs:=hb.1;rw[e,lW,Z7] at hs;have hne:out≠[]:=fun k=>by rw[k] at ha;cases ha
   have hlast:=List.getLast?_eq_some_getLast hne;rw[hlast] at hs;have h1:=hs.1;have hcat:=List.dropLast_concat_getLast hne;rw[←hcat] at ha hp;rcases zy2.1 ha with ha | ha
   ·have h2:=(List.pairwise_append.1 hp).2.2 a ha _ (zx2.2 rfl);simp only[dq,decide_eq_true_eq] at h1 h2 ⊢;omega
   ·rw[zx2.1 ha];exact h1)
  rwa [zz0,List.singleton_append] at this
def dk(out:List ai)(r:ai):Bool:=decide (out.length<60)&&decide ((cG out r.aO:Int)=r.no)
def lg(l:List ai)(r:ai):Nat:=l.countP fun q=>decide (q.aO=r.aO∧q.no<r.no)
structure gX (l:List ai):Prop where
 lt:∀ r∈l,0≤r.no∧r.no<cG l r.aO
 bp:∀ r∈l,(lg l r:Int)=r.no
theorem gX.nil:gX []:=⟨by simp,by simp⟩
theorem gX.Fm{l:List ai}(h:gX l){r:ai}(hn:(cG l r.aO:Int)=r.no):gX (l++[r]):=by
 have ha:∀ q,lg (l++[r]) q=lg l q+if r.aO=q.aO∧r.no<q.no then 1 else 0:=fun q=>by
  rw[lg,List.countP_append,←lg,List.countP_cons,List.countP_nil];simp
 refine ⟨fun q hq =>?_,fun q hq =>?_⟩
 ·rw[mR];rcases zy2.1 hq with hq | hq
  ·have:=h.lt q hq;split <;>omega
  ·rw[zx2.1 hq,if_pos rfl];omega
 ·rw[ha];rcases zy2.1 hq with hq | hq
  ·rw[if_neg,Nat.add_zero]
   ·exact h.bp q hq
   ·rintro ⟨k1,k2⟩;have:=(h.lt q hq).2;rw[←k1] at this;omega
  ·rw[zx2.1 hq,if_neg (by omega),Nat.add_zero,←hn,lg,cG]
   congr 1
   refine List.countP_congr fun x hx =>?_;rw[decide_eq_true_eq,decide_eq_true_eq];constructor
   ·exact fun k=>k.1
   ·intro k;refine ⟨k,?_⟩;have:=(h.lt x hx).2;rw[k] at this;omega
theorem cY.wo{ok:ai→Bool} : ∀ {l out:List ai},gX out→cY ok dk out l→gX (out++l)
 | [],out,h,_=>by simpa using h
 |r::l,out,h,hw=>by
  have hn:=hw.2.1;simp only[dk,Z7,decide_eq_true_eq] at hn;have:=cY.wo (h.Fm hn.2) hw.2.2
  rwa [zz0,List.singleton_append] at this
theorem cY.len{ok:ai→Bool} : ∀ {l out:List ai},out.length≤60→cY ok dk out l→out.length+l.length≤60
 | [],out,h,_=>by simpa using h
 |r::l,out,h,hw=>by
  have hn:=hw.2.1;simp only[dk,Z7,decide_eq_true_eq] at hn;have:=cY.len (out:=out++[r]) (by simp;omega) hw.2.2;simp only[Z8,zx7,zw2] at this ⊢;omega
theorem yS:∀ (b a l:List ai),l=a++b→l.Pairwise (fun x y=>dq x y=true)→gX l→e9 lW a b=true
 | [],_,_,_,_,_=>rfl
 |r::b,a,l,e,hs,hn=>by
  subst e;have ih:=yS b (a++[r]) (a++r::b) (by simp) hs hn;have hp:=List.pairwise_append.1 hs;have hb:=List.pairwise_cons.1 hp.2.1;have hat:=hn.bp r (by simp);have hc:lg (a++r::b) r=cG a r.aO:=by
   rw[lg,List.countP_append,List.countP_cons,cG];have e1:a.countP (fun q=>decide (q.aO=r.aO∧q.no<r.no))=a.countP (fun q=>decide (q.aO=r.aO)):=by
    refine List.countP_congr fun x hx =>?_;rw[decide_eq_true_eq,decide_eq_true_eq];have:=hp.2.2 x hx r (by simp);simp only[dq,decide_eq_true_eq] at this;constructor
    ·exact fun k=>k.1
    ·intro k;exact ⟨k,by omega⟩
   have e2:b.countP (fun q=>decide (q.aO=r.aO∧q.no<r.no))=0:=by
    refine List.countP_eq_zero.2 fun x hx =>?_;rw[decide_eq_true_eq];have:=hb.1 x hx;simp only[dq,decide_eq_true_eq] at this;omega
   rw[e1,e2];simp
  rw[e9,ih,Bool.and_true,lW,Z7,decide_eq_true_eq];refine ⟨?_,by rw[←hc];exact hat⟩;cases hl:a.getLast? with
  |none=>rfl
  |some x =>
   have hx:x∈a:=List.mem_of_getLast? hl;exact hp.2.2 x hx r (by simp)
theorem gX.X1{l s:List ai}(h:gX l)(p:s.Perm l):gX s :=
 ⟨fun r hr=>by rw[cG,p.countP_eq];exact h.lt r (p.mem_iff.1 hr),fun r hr=>by rw[lg,p.countP_eq];exact h.bp r (p.mem_iff.1 hr)⟩
theorem cY.inj{ok:ai→Bool} : ∀ {l out:List ai},gX out→cY ok dk out l→out.Pairwise (fun x y=>¬ (x.aO=y.aO∧x.no=y.no))→(out++l).Pairwise (fun x y=>¬ (x.aO=y.aO∧x.no=y.no))
 | [],out,_,_,hp=>by simpa using hp
 |r::l,out,h,hw,hp=>by
  have hn:=hw.2.1;simp only[dk,Z7,decide_eq_true_eq] at hn;have:=cY.inj (h.Fm hn.2) hw.2.2 (by
   rw[List.pairwise_append];refine ⟨hp,by simp,fun x hx y hy k =>?_⟩;rw[zx2.1 hy] at k;have:=(h.lt x hx).2;rw[k.1] at this;omega)
  rwa [zz0,List.singleton_append] at this
theorem Zo{ok:ai→Bool}{l s:List ai}(hw:cY ok dk [] l)(p:s.Perm l)(hs:s.Pairwise (fun x y=>dq x y=true)):e9 lW [] s=true∧s.length≤60:=by
 have hn:=cY.wo gX.nil hw;have hl:=cY.len (zv0 _) hw;rw[zy3] at hn;simp only[zw2,zz5] at hl;exact ⟨yS s [] s rfl hs (hn.X1 p),by rw[p.length_eq];exact hl⟩
theorem cY.ok{ok:ai→Bool}{nx:List ai→ai→Bool} : ∀ {l out:List ai},cY ok nx out l→∀ r∈l,ok r=true
 | [],_,_,r,h=>by cases h
 |_::_,_,hw,r,h=>by
  rcases zy8.1 h with rfl | h
  ·exact hw.1
  ·exact cY.ok hw.2.2 r h
theorem Ho{a b:ai}(h:dq a b=true)(k:dq b a=true):False:=by
 simp only[dq,decide_eq_true_eq] at h k;omega
theorem yM{a b c:ai}(h:dq a b=true)(k:dq b c=true):dq a c=true:=by
 simp only[dq,decide_eq_true_eq] at h k ⊢;omega
theorem Fx:∀ {a b:List ai},a.Pairwise (fun x y=>dq x y=true)→b.Pairwise (fun x y=>dq x y=true)→a.Perm b→a=b
 | [],b,_,_,p=>(List.nil_perm.1 p).symm
 |x::a,[],_,_,p=>absurd (List.perm_nil.1 p) (by simp)
 |x::a,y::b,ha,hb,p=>by
  obtain ⟨h1,h2⟩:=List.pairwise_cons.1 ha;obtain ⟨k1,k2⟩:=List.pairwise_cons.1 hb;by_cases e:x=y
  ·subst e;rw[Fx h2 k2 ((List.perm_cons x).1 p)]
  ·have hx:x∈b:=by
    rcases zy8.1 (p.mem_iff.1 (List.mem_cons_self (a:=x) (l:=a))) with h | h
    ·exact absurd h e
    ·exact h
   have hy:y∈a:=by
    rcases zy8.1 (p.mem_iff.2 (List.mem_cons_self (a:=y) (l:=b))) with h | h
    ·exact absurd h.symm e
    ·exact h
   exact (Ho (h1 y hy) (k1 x hx)).elim
def fU(l:List ai)(r:ai):List ai:=l.takeWhile (fun q=>dq q r)++r::l.dropWhile (fun q=>dq q r)
theorem wO(l:List ai)(r:ai):(fU l r).Perm (r::l):=by
 have:=List.takeWhile_append_dropWhile (p:=fun q=>dq q r) (l:=l);refine List.perm_middle.trans ?_;rw[this]
theorem Yl{l:List ai}{r:ai}(h:l.Pairwise (fun x y=>dq x y=true))(hr:∀ q∈l,¬ (q.aO=r.aO∧q.no=r.no)):(fU l r).Pairwise (fun x y=>dq x y=true):=by
 induction l with
 |nil=>simp[fU]
 |cons q l ih =>
  obtain ⟨h1,h2⟩:=List.pairwise_cons.1 h;have ih:=ih h2 fun x hx=>hr x (by simp[hx]);by_cases c:dq q r=true
  ·have e:fU (q::l) r=q::fU l r:=by simp[fU,c]
   rw[e,List.pairwise_cons];refine ⟨fun x hx =>?_,ih⟩;rcases zy8.1 ((wO l r).mem_iff.1 hx) with rfl | hx
   ·exact c
   ·exact h1 x hx
  ·have e:fU (q::l) r=r::q::l:=by simp[fU,c]
   have hq:=hr q (by simp);have hrq:dq r q=true:=by
    simp only[dq,decide_eq_true_eq] at c ⊢;omega
   rw[e,List.pairwise_cons];refine ⟨fun x hx =>?_,h⟩;rcases zy8.1 hx with rfl | hx
   ·exact hrq
   ·exact yM hrq (h1 x hx)
def dw(l:List ai):List ai:=l.foldl fU []
theorem Fp:∀ (l out:List ai),(out++l).Pairwise (fun x y=>¬ (x.aO=y.aO∧x.no=y.no))→∀ s:List ai,s.Perm out→s.Pairwise (fun x y=>dq x y=true) →
  (l.foldl fU s).Perm (out++l)∧(l.foldl fU s).Pairwise (fun x y=>dq x y=true)
 | [],out,_,s,p,hs=>by simpa using ⟨p,hs⟩
 |r::l,out,hp,s,p,hs=>by
  have hq:∀ q∈s,¬ (q.aO=r.aO∧q.no=r.no):=fun q hq=>(List.pairwise_append.1 hp).2.2 q (p.mem_iff.1 hq) r (by simp);have e:out++r::l=(out++[r])++l:=by simp
  rw[e] at hp ⊢;rw[List.foldl_cons];refine Fp l (out++[r]) hp (fU s r) ?_ (Yl hs hq);exact (wO s r).trans ((List.Perm.cons r p).trans (List.perm_append_singleton r out).symm)
theorem tH{l:List ai}(hp:l.Pairwise (fun x y=>¬ (x.aO=y.aO∧x.no=y.no))):(dw l).Perm l∧(dw l).Pairwise (fun x y=>dq x y=true):=by
 have:=Fp l [] (by simpa using hp) [] (List.Perm.refl _) List.Pairwise.nil
 rwa [zy3] at this
theorem Zn{l s:List ai}(hp:l.Pairwise (fun x y=>¬ (x.aO=y.aO∧x.no=y.no)))(p:s.Perm l)(hs:s.Pairwise (fun x y=>dq x y=true)):s=dw l :=
 Fx hs (tH hp).2 (p.trans (tH hp).1.symm)
theorem oH{lo hi n:Int} : eC lo hi n=true↔lo≤n∧n≤hi:=by simp[eC]
theorem qB{x:Item} : iz x=true↔(0≤x.aO∧x.aO≤5)∧0≤x.no∧x.no≤9999:=by simp[iz,oH]
theorem nj{r:ai}(h:bh r=true):fR r=true:=by
 simp only[bh,Z7] at h;exact h.1
theorem ni{r:ai}(h:fR r=true):(0≤r.aO∧r.aO≤5)∧(0≤r.no∧r.no≤9999)∧(0≤r.kind∧r.kind≤40)∧(0≤r.ec∧r.ec≤100000)∧(0≤r.known∧r.known≤100000)∧gm r.text=true:=by
 simp only[fR,qB,oH,Z7] at h;exact ⟨h.1.1,h.1.2,h.2.1,h.2.2.1,h.2.2.2.1,h.2.2.2.2⟩
theorem XI{r:ai}(h:bh r=true):(0≤r.fi∧r.fi≤5)∧(0≤r.ft∧r.ft≤9999):=by
 simp only[bh,Z7] at h;obtain ⟨_,h⟩:=h;split at h
 ·simp only[nk,qB,Z7] at h;exact h.2.2.1
 ·simp only[decide_eq_true_eq,ai.fQ,Item.mk.injEq] at h;omega
theorem qC{r:ai}(h:bh r=true):∀ n∈dS r,0≤n∧n<100000000:=by
 obtain ⟨a1,a2,a3,a4,a5,_⟩:=ni (nj h);obtain ⟨a6,a7⟩:=XI h;intro n hn;simp only[dS,zy8,List.not_mem_nil,or_false] at hn;rcases hn with rfl | rfl | rfl | rfl | rfl | rfl | rfl <;>omega
theorem XP{t:List UInt8}(h:gm t=true):t.length≤160:=by
 simp only[gm,Z7,decide_eq_true_eq] at h;exact h.1
theorem ta{r:ai}(h:bh r=true):r.text.length≤160:=XP (ni (nj h)).2.2.2.2.2
theorem CN{t:List UInt8}{c:UInt8}(h:gm t=true)(hc:gl c=false):∀ b∈t,b≠c:=by
 simp only[gm,Z7,zx8] at h;intro b hb e;rw[e] at hb;rw[h.2 c hb] at hc;cases hc
theorem XO:jr bh:=⟨fun _ h=>qC h,fun _ h=>CN (ni (nj h)).2.2.2.2.2 (by decide)⟩
theorem XJ:∀ r,bh r=true→∀ b∈r.text,b≠63:=fun _ h=>CN (ni (nj h)).2.2.2.2.2 (by decide)
theorem Z2(r:ai):aS Tryz.prog 34 [enc r] (enc (pU r)):=by
 refine aS.bS Tryz.func34 ID JK KZ (t8 rfl) (fun hwf W0 bL E1 =>?_);simp only[zC,DS,bH];clear hwf;have f1:=yl r.bp;have f2:=mG r.kind 0 40;have f3:=mG r.ec 0 100000;have f4:=mG r.known 0 100000;have f5:=Gv r.text;have f6:=yl r.fQ;have no:bh r=false→pU r=80:=fun h=>by simp[pU,h]
 have ye:bh r=true→pU r=0:=fun h=>by simp[pU,h]
 cases q1:iz r.bp
 ·rw[q1] at f1;rw[no (by simp only[bh,fR,q1,Bool.false_and])];have R:=y6 @q1 (y6 @br aF)
  repeat' ((first |(with_reducible refine .guard (fun hb =>?_) (fun hb =>?_) <;>try simp only[hb])|refine U.aJ (by decide +kernel) rfl fun K hK =>?_|refine .flat _ (f1) rfl ?_|refine .flat _ (f2) rfl ?_|refine .flat _ (f3) rfl ?_|refine .flat _ (f4) rfl ?_|refine .flat _ (f5) rfl ?_|(refine .aG [0,1,2,30,33,65,69] hK ?_;clear hK K)|(with_reducible refine .done (hK _ ?_);clear hK K)|refine U.of rfl ?_|(with_reducible refine az.aI (fun h =>?_) (fun h =>?_) <;>try simp only[h])) <;>try simp only[aK,R,simprocAttr])
  all_goals clear R
  all_goals rfl
 rw[q1] at f1;cases q2:eC 0 40 r.kind
 ·rw[q2] at f2;rw[no (by simp only[bh,fR,q1,q2,Bool.false_and,Bool.and_false])];have R:=y6 @br aF
  repeat' ((first |(with_reducible refine .guard (fun hb =>?_) (fun hb =>?_) <;>try simp only[hb])|refine U.aJ (by decide +kernel) rfl fun K hK =>?_|refine .flat _ (f1) rfl ?_|refine .flat _ (f2) rfl ?_|refine .flat _ (f3) rfl ?_|refine .flat _ (f4) rfl ?_|refine .flat _ (f5) rfl ?_|(refine .aG [0,1,2,30,33,65,69] hK ?_;clear hK K)|(with_reducible refine .done (hK _ ?_);clear hK K)|refine U.of rfl ?_|(with_reducible refine az.aI (fun h =>?_) (fun h =>?_) <;>try simp only[h])) <;>try simp only[aK,R,simprocAttr])
  all_goals clear R
  all_goals rfl
 rw[q2] at f2;cases q3:eC 0 100000 r.ec
 ·rw[q3] at f3;rw[no (by simp only[bh,fR,q1,q2,q3,Bool.false_and,Bool.and_false])];have R:=y6 @br aF
  repeat' ((first |(with_reducible refine .guard (fun hb =>?_) (fun hb =>?_) <;>try simp only[hb])|refine U.aJ (by decide +kernel) rfl fun K hK =>?_|refine .flat _ (f1) rfl ?_|refine .flat _ (f2) rfl ?_|refine .flat _ (f3) rfl ?_|refine .flat _ (f4) rfl ?_|refine .flat _ (f5) rfl ?_|(refine .aG [0,1,2,30,33,65,69] hK ?_;clear hK K)|(with_reducible refine .done (hK _ ?_);clear hK K)|refine U.of rfl ?_|(with_reducible refine az.aI (fun h =>?_) (fun h =>?_) <;>try simp only[h])) <;>try simp only[aK,R,simprocAttr])
  all_goals clear R
  all_goals rfl
 rw[q3] at f3;cases q4:eC 0 100000 r.known
 ·rw[q4] at f4;rw[no (by simp only[bh,fR,q1,q2,q3,q4,Bool.false_and,Bool.and_false])];have R:=y6 @br aF
  repeat' ((first |(with_reducible refine .guard (fun hb =>?_) (fun hb =>?_) <;>try simp only[hb])|refine U.aJ (by decide +kernel) rfl fun K hK =>?_|refine .flat _ (f1) rfl ?_|refine .flat _ (f2) rfl ?_|refine .flat _ (f3) rfl ?_|refine .flat _ (f4) rfl ?_|refine .flat _ (f5) rfl ?_|(refine .aG [0,1,2,30,33,65,69] hK ?_;clear hK K)|(with_reducible refine .done (hK _ ?_);clear hK K)|refine U.of rfl ?_|(with_reducible refine az.aI (fun h =>?_) (fun h =>?_) <;>try simp only[h])) <;>try simp only[aK,R,simprocAttr])
  all_goals clear R
  all_goals rfl
 rw[q4] at f4;cases q5:gm r.text
 ·rw[q5] at f5;rw[no (by simp only[bh,fR,q1,q2,q3,q4,q5,Bool.false_and,Bool.and_false])];have R:=y6 @br aF
  repeat' ((first |(with_reducible refine .guard (fun hb =>?_) (fun hb =>?_) <;>try simp only[hb])|refine U.aJ (by decide +kernel) rfl fun K hK =>?_|refine .flat _ (f1) rfl ?_|refine .flat _ (f2) rfl ?_|refine .flat _ (f3) rfl ?_|refine .flat _ (f4) rfl ?_|refine .flat _ (f5) rfl ?_|(refine .aG [0,1,2,30,33,65,69] hK ?_;clear hK K)|(with_reducible refine .done (hK _ ?_);clear hK K)|refine U.of rfl ?_|(with_reducible refine az.aI (fun h =>?_) (fun h =>?_) <;>try simp only[h])) <;>try simp only[aK,R,simprocAttr])
  all_goals clear R
  all_goals rfl
 rw[q5] at f5;have hH:fR r=true:=by simp only[fR,q1,q2,q3,q4,q5,Bool.and_self]
 cases k:(r.kind==0)
 ·cases z:decide (r.fQ=⟨0,0⟩)
  ·rw[no (by simp only[bh,hH,Bool.true_and];rw[if_neg (by simpa using k)];exact z)];have R:=y6 @k (y6 @z (y6 @pY (y6 @br aF)))
   repeat' ((first |(with_reducible refine .guard (fun hb =>?_) (fun hb =>?_) <;>try simp only[hb])|refine U.aJ (by decide +kernel) rfl fun K hK =>?_|refine .flat _ (f1) rfl ?_|refine .flat _ (f2) rfl ?_|refine .flat _ (f3) rfl ?_|refine .flat _ (f4) rfl ?_|refine .flat _ (f5) rfl ?_|(refine .aG [0,1,2,30,33,65,69] hK ?_;clear hK K)|(with_reducible refine .done (hK _ ?_);clear hK K)|refine U.of rfl ?_|(with_reducible refine az.aI (fun h =>?_) (fun h =>?_) <;>try simp only[h])) <;>try simp only[aK,R,simprocAttr])
   all_goals clear R
   all_goals rfl
  ·rw[ye (by simp only[bh,hH,Bool.true_and];rw[if_neg (by simpa using k)];exact z)];have R:=y6 @k (y6 @z (y6 @pY (y6 @br aF)))
   repeat' ((first |(with_reducible refine .guard (fun hb =>?_) (fun hb =>?_) <;>try simp only[hb])|refine U.aJ (by decide +kernel) rfl fun K hK =>?_|refine .flat _ (f1) rfl ?_|refine .flat _ (f2) rfl ?_|refine .flat _ (f3) rfl ?_|refine .flat _ (f4) rfl ?_|refine .flat _ (f5) rfl ?_|(refine .aG [0,1,2,30,33,65,69] hK ?_;clear hK K)|(with_reducible refine .done (hK _ ?_);clear hK K)|refine U.of rfl ?_|(with_reducible refine az.aI (fun h =>?_) (fun h =>?_) <;>try simp only[h])) <;>try simp only[aK,R,simprocAttr])
   all_goals clear R
   all_goals rfl
 have hK:bh r=nk r:=by simp only[bh,hH,Bool.true_and];rw[if_pos (by simpa using k)]
 simp only[nk] at hK;cases w1:(r.ec==0)
 ·have w1':(r.ec != 0)=true:=by simp[bne,w1]
  rw[no (by rw[hK,w1];rfl)];have R:=y6 @k (y6 @w1' (y6 @hv (y6 @ik (y6 @br aF))))
  repeat' ((first |(with_reducible refine .guard (fun hb =>?_) (fun hb =>?_) <;>try simp only[hb])|refine U.aJ (by decide +kernel) rfl fun K hK =>?_|refine .flat _ (f1) rfl ?_|refine .flat _ (f2) rfl ?_|refine .flat _ (f3) rfl ?_|refine .flat _ (f4) rfl ?_|refine .flat _ (f5) rfl ?_|refine .flat _ (f6) rfl ?_|(refine .aG [0,1,2,30,33,65,69] hK ?_;clear hK K)|(with_reducible refine .done (hK _ ?_);clear hK K)|refine U.of rfl ?_|(with_reducible refine az.aI (fun h =>?_) (fun h =>?_) <;>try simp only[h])) <;>try simp only[aK,R,simprocAttr])
  all_goals clear R
  all_goals rfl
 have w1':(r.ec != 0)=false:=by simp[bne,w1]
 cases w2:decide (r.text=[])
 ·rw[no (by rw[hK,w1,w2];rfl)];have R:=y6 @k (y6 @w1' (y6 @w2 (y6 @hv (y6 @ik (y6 @br aF)))))
  repeat' ((first |(with_reducible refine .guard (fun hb =>?_) (fun hb =>?_) <;>try simp only[hb])|refine U.aJ (by decide +kernel) rfl fun K hK =>?_|refine .flat _ (f1) rfl ?_|refine .flat _ (f2) rfl ?_|refine .flat _ (f3) rfl ?_|refine .flat _ (f4) rfl ?_|refine .flat _ (f5) rfl ?_|refine .flat _ (f6) rfl ?_|(refine .aG [0,1,2,30,33,65,69] hK ?_;clear hK K)|(with_reducible refine .done (hK _ ?_);clear hK K)|refine U.of rfl ?_|(with_reducible refine az.aI (fun h =>?_) (fun h =>?_) <;>try simp only[h])) <;>try simp only[aK,R,simprocAttr])
  all_goals clear R
  all_goals rfl
 cases w3:iz r.fQ
 ·rw[w3] at f6;rw[no (by rw[hK,w1,w2,w3];rfl)];have R:=y6 @k (y6 @w1' (y6 @w2 (y6 @hv (y6 @ik (y6 @br aF)))))
  repeat' ((first |(with_reducible refine .guard (fun hb =>?_) (fun hb =>?_) <;>try simp only[hb])|refine U.aJ (by decide +kernel) rfl fun K hK =>?_|refine .flat _ (f1) rfl ?_|refine .flat _ (f2) rfl ?_|refine .flat _ (f3) rfl ?_|refine .flat _ (f4) rfl ?_|refine .flat _ (f5) rfl ?_|refine .flat _ (f6) rfl ?_|(refine .aG [0,1,2,30,33,65,69] hK ?_;clear hK K)|(with_reducible refine .done (hK _ ?_);clear hK K)|refine U.of rfl ?_|(with_reducible refine az.aI (fun h =>?_) (fun h =>?_) <;>try simp only[h])) <;>try simp only[aK,R,simprocAttr])
  all_goals clear R
  all_goals rfl
 rw[w3] at f6;cases w4:(r.fi==r.aO)
 ·have w4':(r.fi != r.aO)=true:=by simp[bne,w4]
  rw[no (by rw[hK,w1,w2,w3,w4];rfl)];have R:=y6 @k (y6 @w1' (y6 @w2 (y6 @w4' (y6 @hv (y6 @ik (y6 @br aF))))))
  repeat' ((first |(with_reducible refine .guard (fun hb =>?_) (fun hb =>?_) <;>try simp only[hb])|refine U.aJ (by decide +kernel) rfl fun K hK =>?_|refine .flat _ (f1) rfl ?_|refine .flat _ (f2) rfl ?_|refine .flat _ (f3) rfl ?_|refine .flat _ (f4) rfl ?_|refine .flat _ (f5) rfl ?_|refine .flat _ (f6) rfl ?_|(refine .aG [0,1,2,30,33,65,69] hK ?_;clear hK K)|(with_reducible refine .done (hK _ ?_);clear hK K)|refine U.of rfl ?_|(with_reducible refine az.aI (fun h =>?_) (fun h =>?_) <;>try simp only[h])) <;>try simp only[aK,R,simprocAttr])
  all_goals clear R
  all_goals rfl
 have w4':(r.fi != r.aO)=false:=by simp[bne,w4]
 cases w5:decide (r.ft<r.no)
 ·have w5':decide (r.ft≥r.no)=true:=by rw[decide_eq_false_iff_not] at w5;exact decide_eq_true (by omega)
  rw[no (by rw[hK,w1,w2,w3,w4,w5];rfl)];have R:=y6 @k (y6 @w1' (y6 @w2 (y6 @w4' (y6 @w5' (y6 @hv (y6 @ik (y6 @br aF)))))))
  repeat' ((first |(with_reducible refine .guard (fun hb =>?_) (fun hb =>?_) <;>try simp only[hb])|refine U.aJ (by decide +kernel) rfl fun K hK =>?_|refine .flat _ (f1) rfl ?_|refine .flat _ (f2) rfl ?_|refine .flat _ (f3) rfl ?_|refine .flat _ (f4) rfl ?_|refine .flat _ (f5) rfl ?_|refine .flat _ (f6) rfl ?_|(refine .aG [0,1,2,30,33,65,69] hK ?_;clear hK K)|(with_reducible refine .done (hK _ ?_);clear hK K)|refine U.of rfl ?_|(with_reducible refine az.aI (fun h =>?_) (fun h =>?_) <;>try simp only[h])) <;>try simp only[aK,R,simprocAttr])
  all_goals clear R
  all_goals rfl
 ·have w5':decide (r.ft≥r.no)=false:=by rw[decide_eq_true_eq] at w5;exact decide_eq_false (by omega)
  rw[ye (by rw[hK,w1,w2,w3,w4,w5];rfl)];have R:=y6 @k (y6 @w1' (y6 @w2 (y6 @w4' (y6 @w5' (y6 @hv (y6 @ik (y6 @br aF)))))))
  repeat' ((first |(with_reducible refine .guard (fun hb =>?_) (fun hb =>?_) <;>try simp only[hb])|refine U.aJ (by decide +kernel) rfl fun K hK =>?_|refine .flat _ (f1) rfl ?_|refine .flat _ (f2) rfl ?_|refine .flat _ (f3) rfl ?_|refine .flat _ (f4) rfl ?_|refine .flat _ (f5) rfl ?_|refine .flat _ (f6) rfl ?_|(refine .aG [0,1,2,30,33,65,69] hK ?_;clear hK K)|(with_reducible refine .done (hK _ ?_);clear hK K)|refine U.of rfl ?_|(with_reducible refine az.aI (fun h =>?_) (fun h =>?_) <;>try simp only[h])) <;>try simp only[aK,R,simprocAttr])
  all_goals clear R
  all_goals rfl
theorem ZH{n:Int}(h:0≤n∧n<256):IntKind.u8.wrap n=n:=by
 simp only[IntKind.wrap,IntKind.bits,IntKind.signed];simp;omega
theorem e8(a b:List UInt8)(h:a.length+b.length≤9223372036854775807):bG .add (enc (ar.of a)) (enc (ar.of b))=some (enc (ar.of (a++b))):=by
 rw[Y4 _ _ (by rw[ar.dQ,ar.dQ];exact h)];rfl
def ky(m:Nat):UInt8:=UInt8.ofNat (48+m%10)
theorem VR{m:Nat}(h:10≤m):Lib.itoa (m:Int)=Lib.itoa ((m / 10:Nat):Int)++[ky m]:=by
 rw[Lib.itoa_nonneg,Lib.itoa_nonneg,rW (by omega)];rfl
theorem VS{m:Nat}(h:m<10):Lib.itoa (m:Int)=[ky m]:=by
 rw[Lib.itoa_nonneg,Lib.decDigits_one (by omega),ky,Nat.mod_eq_of_lt h]
def um(t:Nat×List UInt8):ae:=aw [(0,.int .i64 (t.1:Int)),(3,enc (ar.of (ky t.1::t.2)))] []
theorem xX(m:Nat)(hm:m≤9223372036854775807):aS Tryz.prog 134 [enc (m:Int)] (enc (ar.of (Lib.itoa (m:Int)))):=by
 refine aS.bS Tryz.func134 H9 Jm KB (t8 rfl) (fun hwf W0 bL E1 =>?_);simp only[zd,Ds,bH];clear hwf;have hd:∀ k:Nat,k≤9223372036854775807→IntKind.i64.wrap (48+(k:Int).tmod 10)=48+(k:Int).tmod 10∧IntKind.u8.wrap (48+(k:Int).tmod 10)=48+(k:Int).tmod 10∧ar.of [UInt8.ofNat (48+(k:Int).tmod 10).toNat]=ar.of [ky k]:=fun k hk=>by
  have e:((k:Int)).tmod 10=((k%10:Nat):Int):=rfl;rw[e];refine ⟨dX _ (by omega) (by omega),ZH (by omega),?_⟩;rw[ky,show ((48:Int)+((k%10:Nat):Int)).toNat=48+k%10 by omega]
 obtain ⟨h1,h2,h3⟩:=hd m hm;have R:=y6 @h1 (y6 @h2 (y6 @h3 (y6 @br aF)))
 repeat' ((first |refine U.aJ (by decide +kernel) rfl fun K hK =>?_|(refine .aG [0,2,3,11] hK ?_;clear hK K)|(with_reducible refine .done (hK _ ?_);clear hK K)|refine U.of rfl ?_|(with_reducible refine az.aI (fun h =>?_) (fun h =>?_) <;>try simp only[h])) <;>try simp only[aK,R,simprocAttr])
 all_goals clear R
 refine U.loop um (fun t=>t.1≤9223372036854775807∧Lib.itoa (m:Int)=Lib.itoa (t.1:Int)++t.2) (fun t=>t.1) (m,[]) ⟨hm,by simp⟩ ?_ ?_
 ·simp only[um];refine bx.cQ ?_ ?_ ?_ ?_ <;>simp[bV,b7,b6,bI,bX,I.only,bu]
 rintro ⟨k,t⟩ ⟨hk,hin⟩;simp only at hk hin;simp only[um];by_cases hlt:k<10
 ·have hlc:decide ((k:Int)≥10)=false:=decide_eq_false (by omega);rw[VS hlt] at hin;rw[hin];have R:=y6 @hlc (y6 @br aF)
  repeat' ((first |refine U.aJ (by decide +kernel) rfl fun K hK =>?_|(refine .aG [0,2,3,11] hK ?_;clear hK K)|(with_reducible refine .done (hK _ ?_);clear hK K)|refine U.of rfl ?_|(with_reducible refine az.aI (fun h =>?_) (fun h =>?_) <;>try simp only[h])) <;>try simp only[aK,R,simprocAttr])
  all_goals clear R
  all_goals rfl
 ·have hlc:decide ((k:Int)≥10)=true:=decide_eq_true (by omega);have hq:IntKind.i64.wrap ((k:Int).tdiv 10)=((k / 10:Nat):Int):=by
   have e:((k:Int)).tdiv 10=((k / 10:Nat):Int):=rfl;rw[e];exact dX _ (by omega) (by omega)
  obtain ⟨g1,g2,g3⟩:=hd (k / 10) (by omega);rw[VR (m:=k) (by omega),zz0,List.singleton_append] at hin;have hlen:(ky k::t).length≤100:=by
   have h4:=congrArg List.length hin;rw[Z8] at h4;have h5:=Lib.itoa_length_le (m:Int) (by omega) (by omega);omega
  have hadd:=e8 [ky (k / 10)] (ky k::t) (by simp only[List.length_singleton];omega);have R:=y6 @hlc (y6 @hq (y6 @g1 (y6 @g2 (y6 @g3 (y6 @hadd (y6 @br aF))))))
  repeat' ((first |refine U.aJ (by decide +kernel) rfl fun K hK =>?_|(refine .aG [0,2,3,11] hK ?_;clear hK K)|(with_reducible refine .done (hK _ ?_);clear hK K)|refine U.of rfl ?_|(with_reducible refine az.aI (fun h =>?_) (fun h =>?_) <;>try simp only[h])) <;>try simp only[aK,R,simprocAttr])
  all_goals clear R
  refine ⟨(k / 10,ky k::t),⟨by simp only;omega,hin⟩,by simp only;omega,?_⟩;clear hin hd hadd hlen;refine bx.cQ ?_ ?_ ?_ ?_ <;>simp[bV,b7,b6,bI,bX,I.only,bu]
theorem mF{n:Int}(h:0≤n∧n<100000000):aS Tryz.prog 134 [.int .i64 n] (enc (ar.of (Lib.itoa n)))∧(Lib.itoa n).length≤8:=by
 obtain ⟨m,rfl⟩:=zz9 h.1;exact ⟨xX m (by omega),ql (k:=7) (by omega)⟩
theorem F8(r:ai)(hs:r.text.length≤1000000000000)(hn:∀ n∈dS r,0≤n∧n<100000000):aS Tryz.prog 133 [enc r] (enc (ar.of (cN r))):=by
 obtain ⟨c1,l1⟩:=mF (hn r.aO (by simp[dS]));obtain ⟨c2,l2⟩:=mF (hn r.no (by simp[dS]));obtain ⟨c3,l3⟩:=mF (hn r.kind (by simp[dS]));obtain ⟨c4,l4⟩:=mF (hn r.ec (by simp[dS]));obtain ⟨c5,l5⟩:=mF (hn r.known (by simp[dS]));obtain ⟨HS,l6⟩:=mF (hn r.fi (by simp[dS]));obtain ⟨HT,l7⟩:=mF (hn r.ft (by simp[dS]));have hb:cN r=Lib.itoa r.aO++[32]++Lib.itoa r.no++[32]++Lib.itoa r.kind++[32]++Lib.itoa r.ec++[32]++Lib.itoa r.known++[32]++Lib.itoa r.fi++[32]++Lib.itoa r.ft++[32]++r.text:=by
  simp[cN,dj,dS]
 rw[hb];generalize Lib.itoa r.aO=x1 at *;generalize Lib.itoa r.no=x2 at *;generalize Lib.itoa r.kind=x3 at *;generalize Lib.itoa r.ec=x4 at *;generalize Lib.itoa r.known=x5 at *;generalize Lib.itoa r.fi=x6 at *;generalize Lib.itoa r.ft=x7 at *;have ls:([32]:List UInt8).length=1:=rfl;have a1:=e8 x1 [32] (by omega);have a2:=e8 (x1++[32]) x2 (by simp only[Z8,ls];omega);have a3:=e8 (x1++[32]++x2) [32] (by simp only[Z8,ls];omega);have a4:=e8 (x1++[32]++x2++[32]) x3 (by simp only[Z8,ls];omega);have a5:=e8 (x1++[32]++x2++[32]++x3) [32] (by simp only[Z8,ls];omega);have a6:=e8 (x1++[32]++x2++[32]++x3++[32]) x4 (by simp only[Z8,ls];omega);have a7:=e8 (x1++[32]++x2++[32]++x3++[32]++x4) [32] (by simp only[Z8,ls];omega);have a8:=e8 (x1++[32]++x2++[32]++x3++[32]++x4++[32]) x5 (by simp only[Z8,ls];omega);have a9:=e8 (x1++[32]++x2++[32]++x3++[32]++x4++[32]++x5) [32] (by simp only[Z8,ls];omega);have b1:=e8 (x1++[32]++x2++[32]++x3++[32]++x4++[32]++x5++[32]) x6 (by simp only[Z8,ls];omega);have b2:=e8 (x1++[32]++x2++[32]++x3++[32]++x4++[32]++x5++[32]++x6) [32] (by simp only[Z8,ls];omega);have b3:=e8 (x1++[32]++x2++[32]++x3++[32]++x4++[32]++x5++[32]++x6++[32]) x7 (by simp only[Z8,ls];omega);have b4:=e8 (x1++[32]++x2++[32]++x3++[32]++x4++[32]++x5++[32]++x6++[32]++x7) [32] (by simp only[Z8,ls];omega);have b5:=e8 (x1++[32]++x2++[32]++x3++[32]++x4++[32]++x5++[32]++x6++[32]++x7++[32]) r.text (by simp only[Z8,ls];omega);refine aS.bS Tryz.func133 H8 Jl KA (t8 rfl) (fun hwf W0 bL E1 =>?_);simp only[zc,Dr,bH];clear hwf hb hn;have R:=y6 @mT (y6 @a1 (y6 @a2 (y6 @a3 (y6 @a4 (y6 @a5 (y6 @a6 (y6 @a7 (y6 @a8 (y6 @a9 (y6 @b1 (y6 @b2 (y6 @b3 (y6 @b4 (y6 @b5 aF))))))))))))))
 repeat' ((first |refine U.aJ (by decide +kernel) rfl fun K hK =>?_|refine .flat _ (c1) rfl ?_|refine .flat _ (c2) rfl ?_|refine .flat _ (c3) rfl ?_|refine .flat _ (c4) rfl ?_|refine .flat _ (c5) rfl ?_|refine .flat _ (HS) rfl ?_|refine .flat _ (HT) rfl ?_|(refine .aG [0,1,2,3] hK ?_;clear hK K)|(with_reducible refine .done (hK _ ?_);clear hK K)|refine U.of rfl ?_|(with_reducible refine az.aI (fun h =>?_) (fun h =>?_) <;>try simp only[h])) <;>try simp only[aK,R,simprocAttr])
 all_goals clear R
 all_goals rfl
theorem FE(s:Int)(l:List UInt8)(c:UInt8):cV s (l++[c])=(257*cV s l+c.toNat+1)%1000003:=by simp[cV]
theorem FC{s:Int}{c:UInt8}(h:0≤s∧s<1000003):IntKind.i64.wrap (257*s)=257*s∧IntKind.i64.wrap (c.toNat:Int)=c.toNat∧IntKind.i64.wrap (257*s+c.toNat)=257*s+c.toNat∧IntKind.i64.wrap (257*s+c.toNat+1)=257*s+c.toNat+1 ∧
  (257*s+(c.toNat:Int)+1).tmod 1000003=(257*s+c.toNat+1)%1000003:=by
 have hc:=c.toNat_lt;exact ⟨dX _ (by omega) (by omega),dX _ (by omega) (by omega),dX _ (by omega) (by omega),dX _ (by omega) (by omega),Int.tmod_eq_emod_of_nonneg (by omega)⟩
theorem uG{r:ai}{k:Nat}(ht:r.text.length≤k)(hn:∀ n∈dS r,0≤n∧n<100000000):(cN r).length≤63+k:=by
 have h:∀ l:List Int,(∀ x∈l,0≤x∧x<100000000)→(dj l).length≤9*l.length:=by
  intro l
  induction l with
  |nil=>intro _;simp[dj]
  |cons x l ih =>
   intro h;have h1:=ih fun y hy=>h y (by simp[hy]);have h2:=ql (k:=7) (n:=x) (by have:=h x (by simp);omega);simp only[dj] at h1;simp only[dj,List.flatMap_cons,Z8,zx7,zw2];omega
 have:=h _ hn;have h4:(dS r).length=7:=rfl;rw[cN,Z8];omega
theorem pF(s:Int)(hs:0≤s∧s<1000003)(r:ai)(hr:bh r=true):aS Tryz.prog 81 [enc s,enc r] (.tuple [enc (ar.of (cR s r)),enc (cV s (cN r))]):=by
 have ht:=ta hr;have hn:=qC hr;have hbl:=uG ht hn;have hF:=F6 r (by omega);have hsum:=fun l=>ki hs l;simp only[cR];generalize hb:cN r=b at *;have hsb:=xf b;refine aS.bS Tryz.func81 IT JX Ld (t8 rfl) (fun hwf W0 bL E1 =>?_);simp only[zM,D9,bH,zz5];clear hwf;have R:=y6 @hsb (y6 @br (y6 @gV aF))
 repeat' ((first |refine aZ.eO rfl fun m =>?_|refine U.aJ (by decide +kernel) rfl fun K hK =>?_|refine .flat _ (hF) rfl ?_|(refine .aG [0,1,3,4,5,6,8,12,13,14,15] hK ?_;clear hK K)|(with_reducible refine .done (hK _ ?_);clear hK K)|refine U.of rfl ?_|(with_reducible refine az.aI (fun h =>?_) (fun h =>?_) <;>try simp only[h])) <;>try simp only[aK,R,simprocAttr])
 all_goals clear R
 refine U.loop (fun i:Nat=>aw [(0,.int .i64 (cV s (b.take i))),(3,.ptr 3 []),(6,enc (ar.of b)),(12,enc b),(13,.int .i64 b.length),(14,.int .i64 i)] [(3,.box (enc r))]) (fun i=>i≤b.length) (fun i=>b.length-i) 0 (zv0 _) ?_ ?_
 ·refine bx.oD [12] 12 (x:=.view 12 [] 1 0 b.length) (y:=enc b) rfl (A4 rfl) ?_ ?_ ?_ ?_ ?_ <;>simp[cZ,bI,bV,b7,b6,aC,gb,bX,aD,aj.only,I.only,bu]
  all_goals rfl
 intro i hi;have hst:=hsum (b.take i);by_cases hlt:i<b.length
 ·have hlc:=fr hlt;have he:=fun A=>fg (A:=A) 1 hlt rfl;have hw:=eU (i:=i) (by omega);have hsn:=FE s (b.take i) b[i];rw[←List.take_succ_eq_append_getElem hlt] at hsn;generalize b[i]=c at *;generalize cV s (b.take i)=z at *;obtain ⟨g1,g2,g3,g4,g5⟩:=FC (c:=c) hst;have R:=y6 @hlc (y6 @he (y6 @hw (y6 @g1 (y6 @g2 (y6 @g3 (y6 @g4 (y6 @g5 (y6 @qV (y6 @br aF)))))))))
  repeat' ((first |refine U.aJ (by decide +kernel) rfl fun K hK =>?_|(refine .aG [0,1,3,4,5,6,8,12,13,14,15] hK ?_;clear hK K)|(with_reducible refine .done (hK _ ?_);clear hK K)|refine U.of rfl ?_|(with_reducible refine az.aI (fun h =>?_) (fun h =>?_) <;>try simp only[h])) <;>try simp only[aK,R,simprocAttr])
  all_goals clear R
  refine ⟨i+1,by omega,by omega,?_⟩;rw[hsn];refine bx.cQ ?_ ?_ ?_ ?_ <;>simp[bV,b7,b6,bI,aC,bX,dR,I.only,aj.only,bu]
  all_goals rfl
 ·have hlc:=fM hlt;have hge:i=b.length:=by omega
  subst hge;rw[List.take_length] at hst ⊢;generalize cV s b=z at *;obtain ⟨q,rfl⟩:=zz9 hst.1;have hz:=F7 (q:Int);have hzl:=ql (k:=7) (n:=(q:Int)) (by omega);rw[vO] at hz;have a1:=e8 (Lib.itoa (q:Int)) [32] (by simp;omega);have a2:=e8 (Lib.itoa (q:Int)++[32]) b (by simp;omega);have a3:=e8 (Lib.itoa (q:Int)++[32]++b) [10] (by simp;omega);have e:dj [(q:Int)]=Lib.itoa (q:Int)++[32]:=by simp[dj]
  rw[e];have R:=y6 @hlc (y6 @mT (y6 @pZ (y6 @a1 (y6 @a2 (y6 @a3 aF)))))
  repeat' ((first |refine U.aJ (by decide +kernel) rfl fun K hK =>?_|refine .flat _ (hz) rfl ?_|(refine .aG [0,1,3,4,5,6,8,12,13,14,15] hK ?_;clear hK K)|(with_reducible refine .done (hK _ ?_);clear hK K)|refine U.of rfl ?_|(with_reducible refine az.aI (fun h =>?_) (fun h =>?_) <;>try simp only[h])) <;>try simp only[aK,R,simprocAttr])
  all_goals clear R
  all_goals rfl
theorem Gu(s:Int)(hs:0≤s∧s<1000003)(r:ai)(hr:bh r=true):aS Tryz.prog 83 [enc s,enc r] (.tuple [enc (ar.of (cR s r)),enc (cV s (cN r))]):=by
 have ht:=ta hr;have hn:=qC hr;have hbl:=uG ht hn;have hF:=F8 r (by omega) hn;have hsum:=fun l=>ki hs l;simp only[cR];generalize hb:cN r=b at *;have hl:=pn b;refine aS.bS Tryz.func83 IV JZ Lf (t8 rfl) (fun hwf W0 bL E1 =>?_);simp only[zO,Eb,bH,zz5];clear hwf;have R:=y6 @br aF
 repeat' ((first |refine U.aJ (by decide +kernel) rfl fun K hK =>?_|refine .flat _ (hF) rfl ?_|(refine .aG [0,1,3,4,5,6,7,13] hK ?_;clear hK K)|(with_reducible refine .done (hK _ ?_);clear hK K)|refine U.of rfl ?_|(with_reducible refine az.aI (fun h =>?_) (fun h =>?_) <;>try simp only[h])) <;>try simp only[aK,R,simprocAttr])
 all_goals clear R
 refine U.loop (fun i:Nat=>aw [(0,.int .i64 (cV s (b.take i))),(3,.ptr 3 []),(6,enc (ar.of b)),(7,.int .i64 i)] [(3,.box (enc r))]) (fun i=>i≤b.length) (fun i=>b.length-i) 0 (zv0 _) ?_ ?_
 ·refine bx.cQ ?_ ?_ ?_ ?_ <;>simp[bV,b7,b6,bI,aC,bX,dR,I.only,aj.only,bu]
  all_goals rfl
 intro i hi;have hst:=hsum (b.take i);by_cases hlt:i<b.length
 ·have hlc:=fr hlt;have he:=E8 b hlt;have hw:=eU (i:=i) (by omega);have hsn:=FE s (b.take i) b[i];rw[←List.take_succ_eq_append_getElem hlt] at hsn;generalize b[i]=c at *;generalize cV s (b.take i)=z at *;obtain ⟨g1,g2,g3,g4,g5⟩:=FC (c:=c) hst;have R:=y6 @hl (y6 @hlc (y6 @he (y6 @hw (y6 @g1 (y6 @g2 (y6 @g3 (y6 @g4 (y6 @g5 (y6 @br aF)))))))))
  repeat' ((first |refine U.aJ (by decide +kernel) rfl fun K hK =>?_|(refine .aG [0,1,3,4,5,6,7,13] hK ?_;clear hK K)|(with_reducible refine .done (hK _ ?_);clear hK K)|refine U.of rfl ?_|(with_reducible refine az.aI (fun h =>?_) (fun h =>?_) <;>try simp only[h])) <;>try simp only[aK,R,simprocAttr])
  all_goals clear R
  refine ⟨i+1,by omega,by omega,?_⟩;rw[hsn];refine bx.cQ ?_ ?_ ?_ ?_ <;>simp[bV,b7,b6,bI,aC,bX,dR,I.only,aj.only,bu]
  all_goals rfl
 ·have hlc:=fM hlt;have hge:i=b.length:=by omega
  subst hge;rw[List.take_length] at hst ⊢;generalize cV s b=z at *;obtain ⟨q,rfl⟩:=zz9 hst.1;have hz:=xX q (by omega);have hzl:=ql (k:=7) (n:=(q:Int)) (by omega);have a1:=e8 (Lib.itoa (q:Int)) [32] (by simp;omega);have a2:=e8 (Lib.itoa (q:Int)++[32]) b (by simp;omega);have a3:=e8 (Lib.itoa (q:Int)++[32]++b) [10] (by simp;omega);have e:dj [(q:Int)]=Lib.itoa (q:Int)++[32]:=by simp[dj]
  rw[e];have R:=y6 @hl (y6 @hlc (y6 @mT (y6 @pZ (y6 @a1 (y6 @a2 (y6 @a3 aF))))))
  repeat' ((first |refine U.aJ (by decide +kernel) rfl fun K hK =>?_|refine .flat _ (hz) rfl ?_|(refine .aG [0,1,3,4,5,6,7,13] hK ?_;clear hK K)|(with_reducible refine .done (hK _ ?_);clear hK K)|refine U.of rfl ?_|(with_reducible refine az.aI (fun h =>?_) (fun h =>?_) <;>try simp only[h])) <;>try simp only[aK,R,simprocAttr])
  all_goals clear R
  all_goals rfl
def kI(s:Int)(r:ai):List UInt8×Int×Int:=if eC 0 1000002 s=false then ([],0,1) else if bh r=false then ([],0,80) else (cR s r,cV s (cN r),0)
theorem Wl{s:Int}{r:ai}(h:eC 0 1000002 s=false):kI s r=([],0,1):=by rw[kI,if_pos h]
theorem Wm{s:Int}{r:ai}(h:eC 0 1000002 s=true)(h2:bh r=false):kI s r=([],0,80):=by rw[kI,h,if_neg (by decide),if_pos h2]
theorem Wn{s:Int}{r:ai}(h:eC 0 1000002 s=true)(h2:bh r=true):kI s r=(cR s r,cV s (cN r),0):=by rw[kI,h,h2,if_neg (by decide),if_neg (by decide)]
theorem Gm(s:Int)(r:ai):aS Tryz.prog 29 [enc s,enc r] (.tuple [enc (ar.of (kI s r).1),enc (kI s r).2.1,enc (kI s r).2.2]):=by
 refine aS.bS Tryz.func29 IB JI KX (t8 rfl) (fun hwf W0 bL E1 =>?_);simp only[zA,DQ,bH,zz5];clear hwf;have f1:=yk s;have f2:=pE r;cases q1:eC 0 1000002 s
 ·rw[q1] at f1;rw[Wl q1];have R:=aF
  repeat' ((first |refine U.aJ (by decide +kernel) rfl fun K hK =>?_|refine .flat _ (f1) rfl ?_|(refine .aG [0,1,3,4,5,6,7,8,9,13] hK ?_;clear hK K)|(with_reducible refine .done (hK _ ?_);clear hK K)|refine U.of rfl ?_|(with_reducible refine az.aI (fun h =>?_) (fun h =>?_) <;>try simp only[h])) <;>try simp only[aK,R,simprocAttr])
  all_goals clear R
  all_goals rfl
 cases q2:bh r
 ·rw[q1] at f1;rw[q2] at f2;rw[Wm q1 q2];have R:=aF
  repeat' ((first |refine U.aJ (by decide +kernel) rfl fun K hK =>?_|refine .flat _ (f1) rfl ?_|refine .flat _ (f2) rfl ?_|(refine .aG [0,1,3,4,5,6,7,8,9,13] hK ?_;clear hK K)|(with_reducible refine .done (hK _ ?_);clear hK K)|refine U.of rfl ?_|(with_reducible refine az.aI (fun h =>?_) (fun h =>?_) <;>try simp only[h])) <;>try simp only[aK,R,simprocAttr])
  all_goals clear R
  all_goals rfl
 have f3:=pF s (by have:=oH.1 q1;omega) r q2;rw[q1] at f1;rw[q2] at f2;rw[Wn q1 q2];have R:=aF
 repeat' ((first |refine U.aJ (by decide +kernel) rfl fun K hK =>?_|refine .flat _ (f1) rfl ?_|refine .flat _ (f2) rfl ?_|refine .lead _ (f3) ?_|(refine .aG [0,1,3,4,5,6,7,8,9,13] hK ?_;clear hK K)|(with_reducible refine .done (hK _ ?_);clear hK K)|refine U.of rfl ?_|(with_reducible refine az.aI (fun h =>?_) (fun h =>?_) <;>try simp only[h])) <;>try simp only[aK,R,simprocAttr])
 all_goals clear R
 all_goals rfl
def wY:bj:=(.seq (.bY none Ru) (.seq (.seq (.bY none RA) (.cond (.t 20) (.bY none By) .skip)) (.seq (.bY none RB) (.seq (.bY none RC) (.seq (.bY none Bz) (.seq (.seq (.bY none RD) (.block 0 (.loop (.seq (.bY none RE) (.seq (.cond (.t 29) .skip (.exit 0)) (.seq (.block 1 (.seq (.bY none RF) (.bY none Bw))) (.bY none Rv))))))) (.seq (.bY none Rw) (.seq (.seq (.bY none Rx) (.cond (.t 59) (.bY none Bx) .skip)) (.seq (.bY none Ry) (.seq (.seq (.bY none Rz) (.cond (.t 75) (.bY none vv) .skip)) (.seq (.bY LK vx) .ret)))))))))))
theorem L0:Tryz.f70.body.bind (u1 Tryz.prog Tryz.f70.ntmps)=some (.bY none Bv,124,[4,5,6],13,wY):=by kernel_rfl
def ij(s:Int)(t:List UInt8):ai×Int×Bool:=match dv bh s t with
 |some (r,n)=>(r,n,true)
 |none=>(default,0,false)
def ig(r:ai)(n:Int)(b:Bool):List (Nat×aj):=[(1900004,.box (enc r)),(1900005,.box (.int .i64 n)),(1900006,.box (.bool b))]
def kX(x:ai×Int×Bool):I:=.tuple [enc x.1,.int .i64 x.2.1,.bool x.2.2]
def qF(s:Int)(t:List UInt8):b9:=fun r os'=>r=kX (ij s t)∧os'=ig (ij s t).1 (ij s t).2.1 (ij s t).2.2
def nC:List (Nat×Nat):=[(1900004,4),(1900005,5),(1900006,6)]
def wG:List (Nat×aj):=[(6,.box (.bool false)),(5,.box (.int .i64 0)),(4,.box (enc (default:ai)))]
def nh:List Nat:=[1900004,1900005,1900006]
def nW:List I:=[enc (default:ai),.int .i64 0,.bool false]
theorem tC(m:Nat):bo nC m=if m=1900004 then 4 else if m=1900005 then 5 else if m=1900006 then 6 else m:=rfl
theorem sH{r:ai}{n:Int}{b:Bool}{m:Nat}{y:aj}(h:aD (ig r n b) m=some y):(m=1900004∧y=.box (enc r))∨(m=1900005∧y=.box (.int .i64 n))∨(m=1900006∧y=.box (.bool b)):=by
 simp only[ig,aD] at h;split at h
 ·rename_i e;cases h;exact .inl ⟨e,rfl⟩
 split at h
 ·rename_i e;cases h;exact .inr (.inl ⟨e,rfl⟩)
 split at h
 ·rename_i e;cases h;exact .inr (.inr ⟨e,rfl⟩)
 ·cases h
theorem lE{r:ai}{n:Int}{b:Bool}{m:Nat} : aC (ig r n b) m=true↔m=1900004∨m=1900005∨m=1900006:=by
 constructor
 ·intro h;cases hy:aD (ig r n b) m with
  |none=>rw[aC,hy] at h;cases h
  |some y=>rcases sH hy with ⟨h,_⟩ | ⟨h,_⟩ | ⟨h,_⟩ <;>simp[h]
 ·rintro (rfl | rfl | rfl) <;>rfl
theorem nl{r:ai}{n:Int}{b:Bool}{m:Nat}{y:aj}(h:aD (ig r n b) m=some y)(p:Nat→Bool):y.only p=true∧y.eB=true∧y.aT (bo nC)=y:=by
 rcases sH h with ⟨_,rfl⟩ | ⟨_,rfl⟩ | ⟨_,rfl⟩
 ·exact ⟨bu _ _,rfl,by simp only[aj.aT,iQ]⟩
 ·exact ⟨rfl,rfl,rfl⟩
 ·exact ⟨rfl,rfl,rfl⟩
theorem VC:eX nC (ig default 0 false) wG:=by
 refine ⟨fun m y hy=>⟨?_,(nl hy _).1,(nl hy (fun _=>true)).2.1⟩,fun m m' hm hm' e =>?_⟩
 ·rw[(nl hy (fun _=>true)).2.2];rcases sH hy with ⟨rfl,rfl⟩ | ⟨rfl,rfl⟩ | ⟨rfl,rfl⟩ <;>rfl
 ·have k1:=lE.1 hm;have k2:=lE.1 hm';rw[tC,tC] at e
  (repeat' split at e) <;>omega
theorem Hn(s:Int)(t:List UInt8):∀ r os',qF s t r os'→dL false nC (ig default 0 false) wG r os':=by
 rintro r os' ⟨rfl,rfl⟩;refine ⟨fun m y hy=>⟨(nl hy _).1,(nl hy (fun _=>true)).2.1,fun h=>by cases h⟩,fun m m' hm hm' e =>?_,fun m hm=>lE.2 (lE.1 hm),fun m hm hno =>?_,⟨?_,fun h=>by cases h⟩⟩
 ·have k1:=lE.1 hm;have k2:=lE.1 hm';rw[tC,tC] at e
  (repeat' split at e) <;>omega
 ·rw[lE.2 (lE.1 hm)] at hno;cases hno
 ·simp only[kX,I.only,I.cI,bu,Bool.and_self]
theorem Hm(s:Int)(t:List UInt8):∀ r os',qF s t r os'→∃ osF,r.flat=true∧r.aT (bo nC)=r∧(∀ m z,aD osF m=some z→aD (df nC os'++wG) m=some z∧z.only (aC osF)=true∧z.eB=true)∧(r=kX (ij s t)∧osF=[]):=by
 rintro r os' ⟨rfl,rfl⟩;refine ⟨[],?_,?_,fun m z hz=>by simp[aD] at hz,rfl,rfl⟩
 ·rfl
 ·simp only[kX,I.aT,I.db,iQ]
theorem EH{r:ai}{n:Int}{b:Bool}{post:b9}{A:ae}(hp:post (kX (r,n,b)) (ig r n b))(t4:A.t 4=.ptr 1900004 [])(t5:A.t 5=.ptr 1900005 [])(t6:A.t 6=.ptr 1900006 [])(o4:A.o 1900004=some (.box (enc r)))(o5:A.o 1900005=some (.box (.int .i64 n)))(o6:A.o 1900006=some (.box (.bool b))) :
  jd tk post A:=by
 refine ⟨ig r n b,[enc r,.int .i64 n,.bool b],fun m z hz=>⟨?_,(nl hz _).1,(nl hz (fun _=>true)).2.1⟩,⟨⟨enc r,?_,.inl ⟨rfl,eQ _,bu _ _⟩⟩,⟨.int .i64 n,?_,.inl ⟨rfl,rfl,rfl⟩⟩,⟨.bool b,?_,.inl ⟨rfl,rfl,rfl⟩⟩,trivial⟩,hp⟩
 ·rcases sH hz with ⟨rfl,rfl⟩ | ⟨rfl,rfl⟩ | ⟨rfl,rfl⟩ <;>assumption
 ·simp only[nr,t4,bT,o4];rfl
 ·simp only[nr,t5,bT,o5];rfl
 ·simp only[nr,t6,bT,o6];rfl
theorem o7{s:Int}{t:List UInt8}(hn:dv bh s t=none){A:ae}{x:ai}{n:Int}{b:Bool}(t4:A.t 4=.ptr 1900004 [])(t5:A.t 5=.ptr 1900005 [])(t6:A.t 6=.ptr 1900006 [])(o4:A.o 1900004=some (.box (enc x)))(o5:A.o 1900005=some (.box (.int .i64 n)))(o6:A.o 1900006=some (.box (.bool b))) :
  qI tk (qF s t) jN nh nW (.panic jN) A:=by
 refine ⟨rfl,⟨⟨_,o4,(ed _).trans (ed _).symm⟩,⟨_,o5,rfl⟩,⟨_,o6,rfl⟩,trivial⟩,?_⟩;refine EH (r:=default) (n:=0) (b:=false) ?_ t4 t5 t6 ?_ ?_ ?_
 ·show _∧_
  rw[ij,hn];exact ⟨rfl,rfl⟩
 ·simp[nh,nW,nG,ae.aQ]
 ·simp[nh,nW,nG,ae.aQ]
 ·simp[nh,nW,nG,ae.aQ]
theorem C2{Q:Exit→ae→Prop}{ts:List (Nat×I)}{os0:List (Nat×aj)}{u:List UInt8}{v:I}(ab:v=enc (ar.of u))(hlen:u.length≤281474976710656)(h:∀ w t,dA 32 u=some (w,t)→fT w=none)(hq:Q (.panic jN) (aw ts os0)):pI Tryz.prog Q 126 [v] (aw ts os0):=by
 subst ab;exact .mk false [] [] [enc (ar.of u)] jN _ (F3 (ar.of u) (by rw[ar.dQ];exact hlen) (by rw[ar.dQ];exact h)) ⟨fun m x h=>by simp[aD] at h,fun m m' h=>by simp[aC,aD] at h⟩ ⟨.inl ⟨(iQ _ _).symm,bu _ _,eQ _⟩,trivial⟩
  (fun os' h=>by subst h;exact ⟨fun m x h=>by simp[aD] at h,fun m m' h=>by simp[aC,aD] at h,fun m h=>h,fun m h=>by simp[aC,aD] at h,⟨rfl,fun h=>by cases h⟩⟩) (fun os' h=>by subst h;exact hq)
def dU(l:List Int):ef 7 Int:=⟨(l++List.replicate 7 0).take 7,by simp⟩
theorem XZ{l:List Int}(h:l.length<7)(v:Int):(⟨(dU l).l.set l.length v,by simp[(dU l).h]⟩:ef 7 Int)=dU (l++[v]):=by
 simp only[dU,ef.mk.injEq];refine List.ext_getElem (by simp) fun i h1 h2 =>?_;simp only[zz4,Z8,List.length_replicate,List.length_set,zx7,zw2] at h1 h2;simp only[List.getElem_set,List.getElem_take,List.getElem_append];by_cases e:l.length=i
 ·subst e;simp
 ·by_cases k:i<l.length
  ·rw[if_neg e,dif_pos k,dif_pos (by simp;omega),dif_pos k]
  ·rw[if_neg e,dif_neg k,dif_neg (by simp;omega)];simp only[List.getElem_replicate]
theorem AI:I.agg [.int .i64 0,.int .i64 0,.int .i64 0,.int .i64 0,.int .i64 0,.int .i64 0,.int .i64 0]=enc (dU []):=rfl
theorem XY{l:List Int}(h:l.length=7)(k:Nat):(dU l).g k=l.getD k 0:=by
 simp only[ef.g,dU];rw[List.take_left' h]
theorem Zf{l:List Int}(h:l.length<7)(v:Int):(enc (dU l):I).dI [l.length] (.int .i64 v)=enc (dU (l++[v])):=by
 have h1:(enc (dU l):I).dh=some ((dU l).l.map enc):=rfl;rw[xi,h1];simp only[po,BC (dU l) h,qX,fx];rw[←XZ h]
 change I.agg _=I.agg (((dU l).l.set l.length v).map enc)
 rw[List.map_set];rfl
theorem Zr{A:ae}{n:Nat}{l:List Int}(h:l.length<7){v u:Int}{rest:List au} : eb A none n [l.length] (enc (dU l)) (.int .i64 v) rest (some (.int .i64 u))=al rest (A.aQ n (.box (enc (dU (l++[v]))))):=by
 rw[eP (s:=none) (v:=.int .i64 v) (old:=.int .i64 u) rfl rfl rfl,Zf h]
theorem BZ(t:List UInt8):Lib.hasSuffix t [10]=decide (t.getLast?=some 10):=by
 have:Lib.hasSuffix t [10]=true↔t.getLast?=some 10:=by
  rw[Lib.hasSuffix,List.isSuffixOf_iff_suffix];constructor
  ·rintro ⟨x,rfl⟩;simp
  ·intro h;obtain ⟨x,rfl⟩:=List.getLast?_eq_some_iff.1 h;exact ⟨x,rfl⟩
 cases h:Lib.hasSuffix t [10]
 ·rw[h] at this;exact (decide_eq_false fun k=>by simpa using this.2 k).symm
 ·rw[h] at this;exact (decide_eq_true (this.1 rfl)).symm
theorem ZF{t:List UInt8}(h:t.getLast?=some 10):Lib.trimSuffix t [10]=t.dropLast:=by
 rw[Lib.trimSuffix,BZ,decide_eq_true h,if_pos rfl,List.dropLast_eq_take];rfl
theorem fj:(∀ A n b rest (q r:ai),eb A (some 8) n [] b (enc q) rest (some (enc r))=al rest (A.aQ n (.box (enc q))))∧(∀ A n b rest (q:ai) v,v=enc q→eb A (some 8) n [] b v rest (some (enc (default:ai)))=al rest (A.aQ n (.box (enc q)))) :=
 ⟨fun A n b rest q r=>by rw[eP (eQ _) (by rw[gy];rfl) ((ed _).trans (ed _).symm),fx],fun A n b rest q v h=>by rw[h,eP (eQ _) (by rw[gy];rfl) ((ed _).trans (ed _).symm),fx]⟩
theorem ff:I.agg [.agg [.int .i64 0,.int .i64 0],.int .i64 0,.int .i64 0,.int .i64 0,.agg [.int .i64 0,.int .i64 0],.ak ⟨#[]⟩]=enc (default:ai):=rfl
theorem og:(∀ x y,eT [.int .i64 0,.int .i64 0] [(0,.int .i64 x),(1,.int .i64 y)]=some [.int .i64 x,.int .i64 y]) ∧
  (∀ (x1 x2 n1 n2 n3 y1 y2:Int) (u:List UInt8),eT [.agg [.int .i64 0,.int .i64 0],.int .i64 0,.int .i64 0,.int .i64 0,.agg [.int .i64 0,.int .i64 0],.ak ⟨#[]⟩] [(0,.agg [.int .i64 x1,.int .i64 x2]),(1,.int .i64 n1),(2,.int .i64 n2),(3,.int .i64 n3),(4,.agg [.int .i64 y1,.int .i64 y2]),(5,enc (ar.of u))]=some [.agg [.int .i64 x1,.int .i64 x2],.int .i64 n1,.int .i64 n2,.int .i64 n3,.agg [.int .i64 y1,.int .i64 y2],enc (ar.of u)]) :=
 ⟨fun _ _=>rfl,fun _ _ _ _ _ _ _ _=>rfl⟩
theorem qY:(∀ A n b rest (q r:Int),eb A none n [] b (.int .i64 q) rest (some (.int .i64 r))=al rest (A.aQ n (.box (.int .i64 q))))∧(∀ A n b rest (q r:Bool),eb A none n [] b (.bool q) rest (some (.bool r))=al rest (A.aQ n (.box (.bool q)))) :=
 ⟨fun A n b rest q r=>by rw[eP (s:=none) (v:=.int .i64 q) (old:=.int .i64 r) rfl rfl rfl,fx],fun A n b rest q r=>by rw[eP (s:=none) (v:=.bool q) (old:=.bool r) rfl rfl rfl,fx]⟩
theorem Mq{n0:Int}{l:List Int}{u:List UInt8}(h:l.length=7):I.agg [.agg [.int .i64 ((dU l).g 0),.int .i64 ((dU l).g 1)],.int .i64 ((dU l).g 2),.int .i64 ((dU l).g 3),.int .i64 ((dU l).g 4),.agg [.int .i64 ((dU l).g 5),.int .i64 ((dU l).g 6)],enc (ar.of u)]=enc (iS (n0::l) u):=by
 simp only[XY h];rfl
theorem Ys{s n0:Int}{t u:List UInt8}{l:List Int}(h:t.getLast?=some 10)(hp:gU fT 8 t.dropLast=some (n0::l,u)) :
  dv bh s t=if bh (iS (n0::l) u)=true∧cR s (iS (n0::l) u)=t∧n0=cV s (cN (iS (n0::l) u)) then some (iS (n0::l) u,cV s (cN (iS (n0::l) u))) else none:=by
 rw[dv,if_pos h,hp,zw8];generalize iS (n0::l) u=r;simp only[List.headD_cons,lz];by_cases a:bh r=true
 ·by_cases b:cR s r=t
  ·by_cases c:n0=cV s (cN r)
   ·simp[a,b,c]
   ·simp[a,b,c]
  ·simp[b]
 ·simp[a]
structure yu where
 n0:Int
 l:List Int
 u:List UInt8
def uq(s:Int)(t:List UInt8)(x:yu):ae:=aw [(0,enc s),(1,enc (ar.of t)),(4,.ptr 1900004 []),(5,.ptr 1900005 []),(6,.ptr 1900006 []),(7,enc (ar.of x.u)),(9,enc x.n0),(10,.ptr 10 []),(28,.int .i64 x.l.length)] ((10,.box (enc (dU x.l)))::ig default 0 false)
def FX(t:List UInt8)(x:yu):Prop:=x.l.length≤7∧x.u.length≤t.length∧gU fT 8 t.dropLast=(gU fT (7-x.l.length) x.u).map fun p=>(x.n0::x.l++p.1,p.2)
theorem FH{f:List UInt8→Option Int}{k:Nat}{u w v:List UInt8}{n:Int}(h1:dA 32 u=some (w,v))(h2:f w=some n):gU f (k+1) u=(gU f k v).map fun p=>(n::p.1,p.2):=by
 rw[gU,h1];simp only[h2]
theorem FG{f:List UInt8→Option Int}{k:Nat}{u:List UInt8}(h:∀ w t,dA 32 u=some (w,t)→f w=none):gU f (k+1) u=none:=by
 rw[gU];cases h1:dA 32 u with
 |none=>rfl
 |some p=>simp only[h p.1 p.2 h1]
theorem Ax(u:List UInt8):(∃ w v n,dA 32 u=some (w,v)∧fT w=some n∧v.length≤u.length)∨∀ w t,dA 32 u=some (w,t)→fT w=none:=by
 cases h1:dA 32 u with
 |none=>exact .inr fun w t h=>by cases h
 |some p =>
  obtain ⟨w,v⟩:=p;cases h2:fT w with
  |none=>exact .inr fun w' t' h=>by cases h;exact h2
  |some n=>exact .inl ⟨w,v,n,rfl,h2,by have:=rV h1;simp only at this;omega⟩
theorem YM{s:Int}(hs:0≤s∧s<1000003){t:List UInt8}(ht:t.length≤281474976710656)(W:World)(D:aH)(E:aN)(n:Nat)(d:Deferred) :
  U ⟨Tryz.prog,W,D,n,bU E,E,fO,none,some [d]⟩ wY (qI tk (qF s t) jN nh nW) (aw [(0,enc s),(1,enc (ar.of t)),(4,.ptr 1900004 []),(5,.ptr 1900005 []),(6,.ptr 1900006 [])] (ig default 0 false)):=by
 have hC:=F2 (ar.of t) (ar.of [10]);rw[ar.dQ,ar.dQ,BZ] at hC;simp only[wY,ig];by_cases hl:t.getLast?=some 10
 ·have hd:decide (t.getLast?=some 10)=true:=decide_eq_true hl;rw[hd,ZF hl] at hC;have hT:dv bh s t=(gU fT 8 t.dropLast).bind fun p=>(lz bh s t (iS p.1 p.2)).bind fun q=>if p.1.headD 0=q.2 then some q else none:=by rw[dv,if_pos hl]
  have hlt:t.dropLast.length≤t.length:=by simp
  generalize hu0:t.dropLast=u0 at *;rcases Ax u0 with ⟨cW,v0,m0,hw,ho,ab⟩ | hno
  rotate_left
  ·have hn:dv bh s t=none:=by rw[hT,FG (k:=7) hno];rfl
   have R:=y6 @hd (y6 @pZ (y6 @j2 (y6 @AI (y6 @br aF))))
   repeat' ((first |(with_reducible refine .guard (fun hb =>?_) (fun hb =>?_) <;>try simp only[hb])|(refine U.lK (gs:=Bz) (gs1:=[_]) rfl fun K hK =>?_)|refine U.aJ (by decide +kernel) rfl fun K hK =>?_|refine .flat _ (hC) rfl ?_|(refine .aG [0,1,4,5,6,7,8,9,10,11,12,20,28,29,59,75] hK ?_;clear hK K)|(with_reducible refine .done (hK _ ?_);clear hK K)|refine U.of rfl ?_|(with_reducible refine az.aI (fun h =>?_) (fun h =>?_) <;>try simp only[h])) <;>try simp only[aK,R,simprocAttr])
   all_goals clear R
   exact .call (C2 rfl (by omega) hno (o7 hn rfl rfl rfl rfl rfl rfl))
  have h126:=xV (ar.of u0) (by rw[ar.dQ];omega) cW v0 m0 (by rw[ar.dQ];exact hw) ho;have R:=y6 @hd (y6 @pZ (y6 @j2 (y6 @AI (y6 @br aF))))
  repeat' ((first |(with_reducible refine .guard (fun hb =>?_) (fun hb =>?_) <;>try simp only[hb])|refine U.aJ (by decide +kernel) rfl fun K hK =>?_|refine .flat _ (hC) rfl ?_|refine .lead _ (h126) ?_|(refine .aG [0,1,4,5,6,7,8,9,10,11,12,20,28,29,59,75] hK ?_;clear hK K)|(with_reducible refine .done (hK _ ?_);clear hK K)|refine U.of rfl ?_|(with_reducible refine az.aI (fun h =>?_) (fun h =>?_) <;>try simp only[h])) <;>try simp only[aK,R,simprocAttr])
  all_goals clear R
  refine U.loop (uq s t) (FX t) (fun x=>7-x.l.length) ⟨m0,[],v0⟩ ⟨by simp,by simp only;omega,?_⟩ ?_ ?_
  ·rw[hu0,FH hw ho];rfl
  ·simp only[uq,ig];refine bx.cQ ?_ ?_ ?_ ?_ <;>simp[bV,b7,b6,bI,aC,bX,dR,I.only,aj.only,bu,pX]
   all_goals rfl
  rintro ⟨n0,l,u⟩ ⟨hl7,hul,htk⟩;simp only at hl7 hul htk;rw[hu0] at htk;simp only[uq,ig];by_cases hlt7:l.length<7
  ·have hlc:decide ((l.length:Int)<7)=true:=decide_eq_true (by omega);have hib:=fun {y:Option I} =>sn 1 (dU l) (y:=y) (show (0:Int)≤(l.length:Int)∧(l.length:Int)<(7:Nat) by omega) rfl;have hat:=fun p=>kn (p:=p) (dU l) hlt7;have hst:=fun A n v u rest=>Zr (A:=A) (n:=n) hlt7 (v:=v) (u:=u) (rest:=rest);have hws:=eU (i:=l.length) (by omega);have e7:7-l.length=(7-(l++[(0:Int)]).length)+1:=by simp;omega
   rcases Ax u with ⟨w,v,m,hw1,ho1,hv1⟩ | hno
   ·have h126':=xV (ar.of u) (by rw[ar.dQ];omega) w v m (by rw[ar.dQ];exact hw1) ho1;have R:=y6 @hlc (y6 @hib (y6 @hat (y6 @hst (y6 @hws (y6 @Int.toNat_natCast (y6 @br aF))))))
    repeat' ((first |(with_reducible refine .guard (fun hb =>?_) (fun hb =>?_) <;>try simp only[hb])|refine U.aJ (by decide +kernel) rfl fun K hK =>?_|refine .lead _ (h126') ?_|(refine .aG [0,1,4,5,6,7,8,9,10,11,12,20,28,29,59,75] hK ?_;clear hK K)|(with_reducible refine .done (hK _ ?_);clear hK K)|refine U.of rfl ?_|(with_reducible refine az.aI (fun h =>?_) (fun h =>?_) <;>try simp only[h])) <;>try simp only[aK,R,simprocAttr])
    all_goals clear R
    refine ⟨⟨n0,l++[m],v⟩,⟨by simp;omega,by simp only;omega,?_⟩,by simp;omega,?_⟩
    ·rw[hu0,htk,e7,FH hw1 ho1];simp only[Z8,zx7,zw2,Option.map_map]
     congr 1
     funext p
     simp
    ·have el:((l++[m]).length:Int)=((l.length+1:Nat):Int):=by simp
     simp only[el];refine bx.cQ ?_ ?_ ?_ ?_ <;>simp[bV,b7,b6,bI,aC,bX,dR,I.only,aj.only,bu]
     all_goals rfl
   ·have hn:dv bh s t=none:=by rw[hT,htk,e7,FG hno];rfl
    have R:=y6 @hlc (y6 @hib (y6 @hat (y6 @hst (y6 @hws (y6 @j2 (y6 @br aF))))))
    repeat' ((first |(with_reducible refine .guard (fun hb =>?_) (fun hb =>?_) <;>try simp only[hb])|(refine U.lK (gs:=Bw) (gs1:=[_,_]) rfl fun K hK =>?_)|refine U.aJ (by decide +kernel) rfl fun K hK =>?_|refine .flat _ (hC) rfl ?_|(refine .aG [0,1,4,5,6,7,8,9,10,11,12,20,28,29,59,75] hK ?_;clear hK K)|(with_reducible refine .done (hK _ ?_);clear hK K)|refine U.of rfl ?_|(with_reducible refine az.aI (fun h =>?_) (fun h =>?_) <;>try simp only[h])) <;>try simp only[aK,R,simprocAttr])
    all_goals clear R
    exact .call (C2 rfl (by omega) hno (o7 hn rfl rfl rfl rfl rfl rfl))
  ·have hlc:decide ((l.length:Int)<7)=false:=decide_eq_false (by omega);have h7:l.length=7:=by omega
   have hib:=fun {k:Int} {y:Option I} (h:(0:Int)≤k∧k<(7:Nat))=>sn 1 (dU l) (y:=y) h rfl;have hi0:=fun {y:Option I} =>hib (k:=0) (y:=y) (by decide);have hi1:=fun {y:Option I} =>hib (k:=1) (y:=y) (by decide);have hi2:=fun {y:Option I} =>hib (k:=2) (y:=y) (by decide);have hi3:=fun {y:Option I} =>hib (k:=3) (y:=y) (by decide);have hi4:=fun {y:Option I} =>hib (k:=4) (y:=y) (by decide);have hi5:=fun {y:Option I} =>hib (k:=5) (y:=y) (by decide);have hi6:=fun {y:Option I} =>hib (k:=6) (y:=y) (by decide);have ha0:=fun p=>kn (p:=p) (dU l) (show 0<7 by decide);have ha1:=fun p=>kn (p:=p) (dU l) (show 1<7 by decide);have ha2:=fun p=>kn (p:=p) (dU l) (show 2<7 by decide);have ha3:=fun p=>kn (p:=p) (dU l) (show 3<7 by decide);have ha4:=fun p=>kn (p:=p) (dU l) (show 4<7 by decide);have ha5:=fun p=>kn (p:=p) (dU l) (show 5<7 by decide);have ha6:=fun p=>kn (p:=p) (dU l) (show 6<7 by decide);rw[h7,Nat.sub_self,gU,zz7,zx9] at htk;clear hT;have hT:=Ys (s:=s) hl (hu0▸htk);have hmk:=Mq (n0:=n0) (u:=u) h7;have f80:=pE (iS (n0::l) u);generalize iS (n0::l) u=r at *;have hstr:=fun A n b rest=>fj.2 A n b rest r _ hmk;cases ho2:bh r
   ·have hn:dv bh s t=none:=by rw[hT,if_neg (by simp[ho2])]
    rw[ho2] at f80;have R:=y6 @hlc (y6 @hi0 (y6 @hi1 (y6 @hi2 (y6 @hi3 (y6 @hi4 (y6 @hi5 (y6 @hi6 (y6 @ha0 (y6 @ha1 (y6 @ha2 (y6 @ha3 (y6 @ha4 (y6 @ha5 (y6 @ha6 (y6 @og (y6 @hstr (y6 @fj (y6 @j2 (y6 @br aF)))))))))))))))))))
    repeat' ((first |(with_reducible refine .guard (fun hb =>?_) (fun hb =>?_) <;>try simp only[hb])|(refine U.lK (gs:=Bx) (gs1:=[_,_]) rfl fun K hK =>?_)|refine U.aJ (by decide +kernel) rfl fun K hK =>?_|refine .flat _ (f80) rfl ?_|(refine .aG [0,1,4,5,6,7,8,9,10,11,12,20,28,29,59,75] hK ?_;clear hK K)|(with_reducible refine .done (hK _ ?_);clear hK K)|refine U.of rfl ?_|(with_reducible refine az.aI (fun h =>?_) (fun h =>?_) <;>try simp only[h])) <;>try simp only[aK,R,simprocAttr])
    all_goals clear R
    refine np ?_ (o7 hn rfl rfl rfl rfl rfl rfl);rfl
   rw[ho2] at f80;have f81:=pF s hs r ho2;by_cases hq:cR s r=t
   ·by_cases hz:n0=cV s (cN r)
    ·have hn:ij s t=(r,cV s (cN r),true):=by rw[ij,hT,if_pos ⟨ho2,hq,hz⟩]
     have d1:(n0 != cV s (cN r))=false:=by simp[hz]
     have d2:(decide (cR s r=t))=true:=decide_eq_true hq;have R:=y6 @hlc (y6 @hi0 (y6 @hi1 (y6 @hi2 (y6 @hi3 (y6 @hi4 (y6 @hi5 (y6 @hi6 (y6 @ha0 (y6 @ha1 (y6 @ha2 (y6 @ha3 (y6 @ha4 (y6 @ha5 (y6 @ha6 (y6 @d1 (y6 @d2 (y6 @ik (y6 @og (y6 @hstr (y6 @fj (y6 @qY (y6 @j2 (y6 @br aF)))))))))))))))))))))))
     repeat' ((first |(with_reducible refine .guard (fun hb =>?_) (fun hb =>?_) <;>try simp only[hb])|refine U.aJ (by decide +kernel) rfl fun K hK =>?_|refine .flat _ (f80) rfl ?_|refine .lead _ (f81) ?_|(refine U.lJ (gs:=vx) [] [(4,[1900004]),(5,[1900005]),(6,[1900006])] [0,1,2,3,4] (by decide +kernel) (dP.of (by simp[jz,bX,I.only])) fun K hK =>?_;simp only[j9,vx,List.getD_cons_zero,List.getD_cons_succ,R,simprocAttr])|(refine .aG [0,1,4,5,6,7,8,9,10,11,12,20,28,29,59,75] hK ?_;clear hK K)|(with_reducible refine .done (hK _ ?_);clear hK K)|refine U.of rfl ?_|(with_reducible refine az.aI (fun h =>?_) (fun h =>?_) <;>try simp only[h])) <;>try simp only[aK,R,simprocAttr])
     all_goals clear R
     exact ⟨⟨⟨_,rfl,(ed _).trans (ed _).symm⟩,⟨_,rfl,rfl⟩,⟨_,rfl,rfl⟩,trivial⟩,EH (r:=r) (n:=cV s (cN r)) (b:=true) (show _∧_ by rw[hn];exact ⟨rfl,rfl⟩) rfl rfl rfl rfl rfl rfl⟩
    ·have hn:dv bh s t=none:=by rw[hT,if_neg (fun k=>hz k.2.2)]
     have d1:(n0 != cV s (cN r))=true:=by simp[hz]
     have d2:(decide (cR s r=t))=true:=decide_eq_true hq;have R:=y6 @hlc (y6 @hi0 (y6 @hi1 (y6 @hi2 (y6 @hi3 (y6 @hi4 (y6 @hi5 (y6 @hi6 (y6 @ha0 (y6 @ha1 (y6 @ha2 (y6 @ha3 (y6 @ha4 (y6 @ha5 (y6 @ha6 (y6 @d1 (y6 @d2 (y6 @ik (y6 @og (y6 @hstr (y6 @fj (y6 @qY (y6 @j2 (y6 @br aF)))))))))))))))))))))))
     repeat' ((first |(with_reducible refine .guard (fun hb =>?_) (fun hb =>?_) <;>try simp only[hb])|(refine U.lK (gs:=vv) (gs1:=[_,_]) rfl fun K hK =>?_)|refine U.aJ (by decide +kernel) rfl fun K hK =>?_|refine .flat _ (f80) rfl ?_|refine .lead _ (f81) ?_|(refine .aG [0,1,4,5,6,7,8,9,10,11,12,20,28,29,59,75] hK ?_;clear hK K)|(with_reducible refine .done (hK _ ?_);clear hK K)|refine U.of rfl ?_|(with_reducible refine az.aI (fun h =>?_) (fun h =>?_) <;>try simp only[h])) <;>try simp only[aK,R,simprocAttr])
     all_goals clear R
     refine np ?_ (o7 hn rfl rfl rfl rfl rfl rfl);rfl
   ·have hn:dv bh s t=none:=by rw[hT,if_neg (fun k=>hq k.2.1)]
    have d2:(decide (cR s r=t))=false:=decide_eq_false hq;have R:=y6 @hlc (y6 @hi0 (y6 @hi1 (y6 @hi2 (y6 @hi3 (y6 @hi4 (y6 @hi5 (y6 @hi6 (y6 @ha0 (y6 @ha1 (y6 @ha2 (y6 @ha3 (y6 @ha4 (y6 @ha5 (y6 @ha6 (y6 @d2 (y6 @ik (y6 @og (y6 @hstr (y6 @fj (y6 @qY (y6 @j2 (y6 @br aF))))))))))))))))))))))
    repeat' ((first |(with_reducible refine .guard (fun hb =>?_) (fun hb =>?_) <;>try simp only[hb])|(refine U.lK (gs:=vv) (gs1:=[_,_]) rfl fun K hK =>?_)|refine U.aJ (by decide +kernel) rfl fun K hK =>?_|refine .flat _ (f80) rfl ?_|refine .lead _ (f81) ?_|(refine .aG [0,1,4,5,6,7,8,9,10,11,12,20,28,29,59,75] hK ?_;clear hK K)|(with_reducible refine .done (hK _ ?_);clear hK K)|refine U.of rfl ?_|(with_reducible refine az.aI (fun h =>?_) (fun h =>?_) <;>try simp only[h])) <;>try simp only[aK,R,simprocAttr])
    all_goals clear R
    refine np ?_ (o7 hn rfl rfl rfl rfl rfl rfl);rfl
 ·have hd:decide (t.getLast?=some 10)=false:=decide_eq_false hl;have hn:dv bh s t=none:=by rw[dv,if_neg hl]
  rw[hd] at hC;have R:=y6 @hd (y6 @pZ (y6 @j2 (y6 @br aF)))
  repeat' ((first |(with_reducible refine .guard (fun hb =>?_) (fun hb =>?_) <;>try simp only[hb])|(refine U.lK (gs:=By) (gs1:=[_,_]) rfl fun K hK =>?_)|refine U.aJ (by decide +kernel) rfl fun K hK =>?_|refine .flat _ (hC) rfl ?_|(refine .aG [0,1,4,5,6,7,8,9,10,11,12,20,28,29,59,75] hK ?_;clear hK K)|(with_reducible refine .done (hK _ ?_);clear hK K)|refine U.of rfl ?_|(with_reducible refine az.aI (fun h =>?_) (fun h =>?_) <;>try simp only[h])) <;>try simp only[aK,R,simprocAttr])
  all_goals clear R
  refine np ?_ (o7 hn rfl rfl rfl rfl rfl rfl);rfl
theorem GC{s:Int}(hs:0≤s∧s<1000003){t:List UInt8}(ht:t.length≤281474976710656):eW Tryz.prog 70 [enc s,enc (ar.of t)] [] (fun r os'=>r=kX (ij s t)∧os'=[]):=by
 refine eW.XE Tryz.func70 II L0 K4 (t8 rfl) (t8 rfl) (fun m hm=>by simp[aC,aD] at hm) (zs:=nW) VF Jc (by decide) fun hwf W0 bL E1 =>?_;simp only[bH,zz5];clear hwf;refine .iC (by decide +kernel) fun K hK =>?_
 try simp only[Bv,bd,simprocAttr]
 refine .done (hK _ ?_);simp only[cT];refine ⟨_,_,nC,ig default 0 false,[0,1,4,5,6],[enc s,enc (ar.of t),.ptr 1900004 [],.ptr 1900005 [],.ptr 1900006 []],nh,qF s t,rfl,?_⟩;exact {
  bp:=rfl
  BJ:=VC
  arg:=⟨.inl ⟨rfl,rfl,rfl⟩,.inl ⟨(iQ _ _).symm,bu _ _,eQ _⟩,.inl ⟨rfl,rfl,rfl⟩,.inl ⟨rfl,rfl,rfl⟩,.inl ⟨rfl,rfl,rfl⟩,trivial⟩
  yL:=Hn s t
  Fk:=rfl
  len:=rfl
  box:=fun q hq=>by
   simp only[nh,nW,List.zip_cons_cons,List.zip_nil_right,zy8,List.not_mem_nil,or_false] at hq;rcases hq with rfl | rfl | rfl <;>exact ⟨_,rfl,rfl⟩
  mc:=fun m hm=>by
   have:=lE.1 hm;exact ⟨Nat.le_trans (t8 rfl:_≤1000000) (by omega),by omega⟩
  rest:=fun W D E d=>YM hs ht W D E _ d
  ln:=Hm s t }
theorem yh{s:Int}(hs:0≤s∧s<1000003){t:List UInt8}(ht:t.length≤281474976710656):aS Tryz.prog 70 [enc s,enc (ar.of t)] (kX (ij s t)):=aS.CD (GC hs ht)
def kO(s:Int)(t:List UInt8):ai×Int×Int:=if eC 0 1000002 s=false then (default,0,1) else match dv bh s t with
 |some (r,n)=>(r,n,0)
 |none=>(default,0,87)
theorem Gn(s:Int)(t:List UInt8)(ht:t.length≤281474976710656):aS Tryz.prog 31 [enc s,enc (ar.of t)] (.tuple [enc (kO s t).1,enc (kO s t).2.1,enc (kO s t).2.2]):=by
 refine aS.bS Tryz.func31 IC JJ KY (t8 rfl) (fun hwf W0 bL E1 =>?_);simp only[zB,DR,bH,zz5];clear hwf;have f1:=yk s;cases q1:eC 0 1000002 s
 ·rw[q1] at f1;have e:kO s t=(default,0,1):=by rw[kO,if_pos q1]
  rw[e];have R:=y6 @ff (y6 @fj aF)
  repeat' ((first |refine U.aJ (by decide +kernel) rfl fun K hK =>?_|refine .flat _ (f1) rfl ?_|(refine .aG [0,1,4,5,6,7,8,9,12,22] hK ?_;clear hK K)|(with_reducible refine .done (hK _ ?_);clear hK K)|refine U.of rfl ?_|(with_reducible refine az.aI (fun h =>?_) (fun h =>?_) <;>try simp only[h])) <;>try simp only[aK,R,simprocAttr])
  all_goals clear R
  all_goals rfl
 rw[q1] at f1;have f2:=yh (s:=s) (by have:=oH.1 q1;omega) ht;rw[kX] at f2;cases h:dv bh s t with
 |none =>
  have e:kO s t=(default,0,87):=by rw[kO,if_neg (by simp[q1]),h]
  have e2:ij s t=(default,0,false):=by rw[ij,h]
  rw[e];rw[e2] at f2;have R:=y6 @ff (y6 @fj aF)
  repeat' ((first |refine U.aJ (by decide +kernel) rfl fun K hK =>?_|refine .flat _ (f1) rfl ?_|refine .lead _ (f2) ?_|(refine .aG [0,1,4,5,6,7,8,9,12,22] hK ?_;clear hK K)|(with_reducible refine .done (hK _ ?_);clear hK K)|refine U.of rfl ?_|(with_reducible refine az.aI (fun h =>?_) (fun h =>?_) <;>try simp only[h])) <;>try simp only[aK,R,simprocAttr])
  all_goals clear R
  all_goals rfl
 |some p =>
  obtain ⟨r,n⟩:=p;have e:kO s t=(r,n,0):=by rw[kO,if_neg (by simp[q1]),h]
  have e2:ij s t=(r,n,true):=by rw[ij,h]
  rw[e];rw[e2] at f2;have R:=y6 @ff (y6 @fj aF)
  repeat' ((first |refine U.aJ (by decide +kernel) rfl fun K hK =>?_|refine .flat _ (f1) rfl ?_|refine .lead _ (f2) ?_|(refine .aG [0,1,4,5,6,7,8,9,12,22] hK ?_;clear hK K)|(with_reducible refine .done (hK _ ?_);clear hK K)|refine U.of rfl ?_|(with_reducible refine az.aI (fun h =>?_) (fun h =>?_) <;>try simp only[h])) <;>try simp only[aK,R,simprocAttr])
  all_goals clear R
  all_goals rfl
theorem ja{α:Type}{l:List α}{i:Nat}(h:i<l.length):l.take (i+1)=l.take i++[l[i]]:=List.take_succ_eq_append_getElem h
theorem rf(a:List ai):0≤dx 1 a∧dx 1 a<1000003:=tQ a (by omega)
theorem sF{s:Int}(hs:0≤s∧s<1000003){r:ai}(h:bh r=true):(cR s r).length≤240:=by
 have h1:=uG (k:=160) (ta h) (qC h);have h2:=ki hs (cN r);have h3:=ql (k:=7) (n:=cV s (cN r)) (by omega);simp only[cR,dj,List.flatMap_cons,List.flatMap_nil,Z8,zx7,zw2];omega
theorem pw:∀ (l:List ai) {s:Int},0≤s∧s<1000003→(∀ r∈l,bh r=true)→(bK s l).length≤240*l.length
 | [],_,_,_=>by simp[bK]
 |r::l,s,hs,h=>by
  have h1:=sF hs (h r (by simp));have h2:=pw l (ki hs (cN r)) fun q hq=>h q (by simp[hq]);simp only[bK,Z8,zx7];omega
theorem Ga(l:List ai)(hl:l.length≤4000000000000)(h:∀ r∈l,bh r=true):aS Tryz.prog 137 [enc l] (enc (dx 1 l)):=by
 refine aS.bS Tryz.func137 Ic Jo KD (t8 rfl) (fun hwf W0 bL E1 =>?_);simp only[zf,Du,bH];clear hwf;have R:=aF
 repeat' ((first |refine U.aJ (by decide +kernel) rfl fun K hK =>?_|(refine .aG [0,2,3,5,6,7,8,9] hK ?_;clear hK K)|(with_reducible refine .done (hK _ ?_);clear hK K)|refine U.of rfl ?_|(with_reducible refine az.aI (fun h =>?_) (fun h =>?_) <;>try simp only[h])) <;>try simp only[aK,R,simprocAttr])
 all_goals clear R
 refine U.loop (fun i:Nat=>aw [(0,enc l),(3,.int .i64 (dx 1 (l.take i))),(6,enc l),(7,.int .i64 l.length),(8,.int .i64 i)] []) (fun i=>i≤l.length) (fun i=>l.length-i) 0 (zv0 _) ?_ ?_
 ·refine bx.cQ ?_ ?_ ?_ ?_ <;>simp[bV,b7,b6,bI,bX,I.only,bu]
  all_goals rfl
 intro i hi;by_cases hlt:i<l.length
 ·have hlc:=fr hlt;have he:=fun A=>fg (A:=A) 8 hlt rfl;have hw:=eU (i:=i) (by omega);have hsn:=(tT (l.take i) l[i] 1).2;rw[←ja hlt] at hsn;have hok:=h l[i] (List.getElem_mem hlt);have hst:=rf (l.take i);generalize l[i]=r at *;generalize dx 1 (l.take i)=z at *;have f:=pF z hst r hok;have R:=y6 @hlc (y6 @he (y6 @hw (y6 @ff (y6 @fj aF))))
  repeat' ((first |refine U.aJ (by decide +kernel) rfl fun K hK =>?_|refine .lead _ (f) ?_|(refine .aG [0,2,3,5,6,7,8,9] hK ?_;clear hK K)|(with_reducible refine .done (hK _ ?_);clear hK K)|refine U.of rfl ?_|(with_reducible refine az.aI (fun h =>?_) (fun h =>?_) <;>try simp only[h])) <;>try simp only[aK,R,simprocAttr])
  all_goals clear R
  refine ⟨i+1,by omega,by omega,?_⟩;rw[hsn];refine bx.cQ ?_ ?_ ?_ ?_ <;>simp[bV,b7,b6,bI,bX,I.only,bu]
  all_goals rfl
 ·have hlc:=fM hlt;have hge:i=l.length:=by omega
  subst hge;rw[List.take_length];have R:=y6 @hlc aF
  repeat' ((first |refine U.aJ (by decide +kernel) rfl fun K hK =>?_|(refine .aG [0,2,3,5,6,7,8,9] hK ?_;clear hK K)|(with_reducible refine .done (hK _ ?_);clear hK K)|refine U.of rfl ?_|(with_reducible refine az.aI (fun h =>?_) (fun h =>?_) <;>try simp only[h])) <;>try simp only[aK,R,simprocAttr])
  all_goals clear R
  all_goals rfl
theorem Z3(l:List ai)(hl:l.length≤4000000000000)(h:∀ r∈l,bh r=true):aS Tryz.prog 90 [enc l] (enc (ar.of (bK 1 l))):=by
 refine aS.bS Tryz.func90 I0 J4 Lk (t8 rfl) (fun hwf W0 bL E1 =>?_);simp only[zS,Eg,bH];clear hwf;have R:=aF
 repeat' ((first |refine U.aJ (by decide +kernel) rfl fun K hK =>?_|(refine .aG [0,2,3,4,5,6,7,11] hK ?_;clear hK K)|(with_reducible refine .done (hK _ ?_);clear hK K)|refine U.of rfl ?_|(with_reducible refine az.aI (fun h =>?_) (fun h =>?_) <;>try simp only[h])) <;>try simp only[aK,R,simprocAttr])
 all_goals clear R
 refine U.loop (fun i:Nat=>aw [(0,enc l),(3,enc (ar.of (bK 1 (l.take i)))),(4,.int .i64 (dx 1 (l.take i))),(5,.int .i64 i)] []) (fun i=>i≤l.length) (fun i=>l.length-i) 0 (zv0 _) ?_ ?_
 ·refine bx.cQ ?_ ?_ ?_ ?_ <;>simp[bV,b7,b6,bI,bX,I.only,bu]
  all_goals exact ⟨rfl,rfl⟩
 intro i hi;by_cases hlt:i<l.length
 ·have hlc:=fr hlt;have he:=fun A=>fg (A:=A) 8 hlt rfl;have hw:=eU (i:=i) (by omega);have hsn:=tT (l.take i) l[i] 1;rw[←ja hlt] at hsn;have hok:=h l[i] (List.getElem_mem hlt);have hst:=rf (l.take i);have hln:=pw (l.take i) (s:=1) (by omega) fun q hq=>h q (zw5 hq);have hli:(l.take i).length=i:=by rw[zz4];omega
  generalize l[i]=r at *;have hll:=sF hst hok;generalize dx 1 (l.take i)=z at *;generalize bK 1 (l.take i)=u at *;have f:=Gu z hst r hok;have ha:=e8 u (cR z r) (by omega);have R:=y6 @hlc (y6 @he (y6 @hw (y6 @ha aF)))
  repeat' ((first |refine U.aJ (by decide +kernel) rfl fun K hK =>?_|refine .lead _ (f) ?_|(refine .aG [0,2,3,4,5,6,7,11] hK ?_;clear hK K)|(with_reducible refine .done (hK _ ?_);clear hK K)|refine U.of rfl ?_|(with_reducible refine az.aI (fun h =>?_) (fun h =>?_) <;>try simp only[h])) <;>try simp only[aK,R,simprocAttr])
  all_goals clear R
  refine ⟨i+1,by omega,by omega,?_⟩;rw[hsn.1,hsn.2];clear hsn;refine bx.cQ ?_ ?_ ?_ ?_ <;>simp[bV,b7,b6,bI,bX,I.only,bu]
  all_goals rfl
 ·have hlc:=fM hlt;have hge:i=l.length:=by omega
  subst hge;rw[List.take_length];have R:=y6 @hlc aF
  repeat' ((first |refine U.aJ (by decide +kernel) rfl fun K hK =>?_|(refine .aG [0,2,3,4,5,6,7,11] hK ?_;clear hK K)|(with_reducible refine .done (hK _ ?_);clear hK K)|refine U.of rfl ?_|(with_reducible refine az.aI (fun h =>?_) (fun h =>?_) <;>try simp only[h])) <;>try simp only[aK,R,simprocAttr])
  all_goals clear R
  all_goals rfl
def dz(l:List ai):ef 6 Int:=⟨(List.range 6).map fun m=>(cG l (m:Nat):Int),by simp⟩
theorem rQ(l:List ai){k:Nat}(h:k<6):(dz l).g k=cG l k:=by
 have:∀ j:Fin 6,(dz l).g j=cG l (j:Nat):=fun j=>by
  match j with
  |0=>rfl
  |1=>rfl
  |2=>rfl
  |3=>rfl
  |4=>rfl
  |5=>rfl
 exact this ⟨k,h⟩
theorem AG:I.agg [.int .i64 0,.int .i64 0,.int .i64 0,.int .i64 0,.int .i64 0,.int .i64 0]=enc (dz []):=rfl
theorem Ko(l:List ai)(r:ai){k:Nat}(h:k<6)(hm:r.aO=(k:Int)):(⟨(dz l).l.set k ((dz l).g k+1),by simp[(dz l).h]⟩:ef 6 Int)=dz (l++[r]):=by
 rw[rQ l h];simp only[dz,ef.mk.injEq];refine List.ext_getElem (by simp) fun i h1 h2 =>?_;simp only[List.getElem_set,List.getElem_map,List.getElem_range,mR,hm];by_cases e:k=i
 ·subst e;simp
 ·rw[if_neg e,if_neg (by omega)];simp
theorem Ze(l:List ai)(r:ai){k:Nat}(h:k<6)(hm:r.aO=(k:Int)):(enc (dz l):I).dI [k] (.int .i64 ((dz l).g k+1))=enc (dz (l++[r])):=by
 have h1:(enc (dz l):I).dh=some ((dz l).l.map enc):=rfl;rw[xi,h1];simp only[po,BC (dz l) h,qX,fx];rw[←Ko l r h hm]
 change I.agg _=I.agg (((dz l).l.set k ((dz l).g k+1)).map enc)
 rw[List.map_set];rfl
theorem Fz(l:List ai)(r:ai){k:Nat}(h:k<6)(hm:r.aO=(k:Int))(A:ae)(n:Nat)(u:Int)(rest:List au):eb A none n [k] (enc (dz l)) (.int .i64 ((dz l).g k+1)) rest (some (.int .i64 u))=al rest (A.aQ n (.box (enc (dz (l++[r]))))):=by
 rw[eP (s:=none) (v:=.int .i64 ((dz l).g k+1)) (old:=.int .i64 u) rfl rfl rfl,Ze l r h hm]
theorem nL:(∀ A n b rest (q r:ef 6 Int),eb A (some 6) n [] b (enc q) rest (some (enc r))=al rest (A.aQ n (.box (enc q))))∧(∀ q:ef 6 Int,bN (some 6) (enc q)=true) :=
 ⟨fun A n b rest q r=>by rw[eP (eQ _) (by rw[gy];rfl) ((ed _).trans (ed _).symm),fx],fun q=>by rw[gy];rfl⟩
theorem uU(l:List ai)(m:Int):cG l m≤l.length:=List.countP_le_length
def me(l:List ai):Prop:=∀ r∈l,0≤r.aO∧r.aO≤5
theorem xT(l:List ai)(hl:l.length≤4000000000000)(h:me l):aS Tryz.prog 100 [enc l] (enc (dz l)):=by
 refine aS.bS Tryz.func100 HV Jd Kq (t8 rfl) (fun hwf W0 bL E1 =>?_);simp only[yY,Dg,bH];clear hwf;have R:=y6 @AG aF
 repeat' ((first |refine U.aJ (by decide +kernel) rfl fun K hK =>?_|(refine .aG [0,2,3,5,6,7,8,9] hK ?_;clear hK K)|(with_reducible refine .done (hK _ ?_);clear hK K)|refine U.of rfl ?_|(with_reducible refine az.aI (fun h =>?_) (fun h =>?_) <;>try simp only[h])) <;>try simp only[aK,R,simprocAttr])
 all_goals clear R
 refine U.loop (fun i:Nat=>aw [(0,enc l),(2,.ptr 2 []),(3,.ptr 3 []),(6,enc l),(7,.int .i64 l.length),(8,.int .i64 i)] [(2,.box (enc (dz []))),(3,.box (enc (dz (l.take i))))]) (fun i=>i≤l.length) (fun i=>l.length-i) 0 (zv0 _) ?_ ?_
 ·refine bx.cQ ?_ ?_ ?_ ?_ <;>simp[bV,b7,b6,bI,aC,bX,dR,I.only,aj.only,bu]
  all_goals rfl
 intro i hi;by_cases hlt:i<l.length
 ·have hlc:=fr hlt;have he:=fun A=>fg (A:=A) 8 hlt rfl;have hw:=eU (i:=i) (by omega);have hsn:=ja hlt;have hin:=h l[i] (List.getElem_mem hlt);have hle:=uU (l.take i);have hli:(l.take i).length=i:=by rw[zz4];omega
  generalize l[i]=r at *;obtain ⟨k,hk⟩:=zz9 hin.1;have hk6:k<6:=by omega
  have hib:=fun {y:Option I} =>sn 1 (dz (l.take i)) (y:=y) (show (0:Int)≤(k:Int)∧(k:Int)<(6:Nat) by omega) rfl;have hat:=fun p=>kn (p:=p) (dz (l.take i)) hk6;have hst:=Fz (l.take i) r hk6 hk;have hw1:IntKind.i64.wrap ((dz (l.take i)).g k+1)=(dz (l.take i)).g k+1:=by
   have:=hle k;rw[rQ _ hk6];exact dX _ (by omega) (by omega)
  rw[←hsn] at hst;have R:=y6 @hlc (y6 @he (y6 @hw (y6 @hk (y6 @hib (y6 @hat (y6 @hst (y6 @hw1 (y6 @Int.toNat_natCast (y6 @ff (y6 @fj aF))))))))))
  repeat' ((first |refine U.aJ (by decide +kernel) rfl fun K hK =>?_|(refine .aG [0,2,3,5,6,7,8,9] hK ?_;clear hK K)|(with_reducible refine .done (hK _ ?_);clear hK K)|refine U.of rfl ?_|(with_reducible refine az.aI (fun h =>?_) (fun h =>?_) <;>try simp only[h])) <;>try simp only[aK,R,simprocAttr])
  all_goals clear R
  refine ⟨i+1,by omega,by omega,?_⟩;clear hsn;refine bx.cQ ?_ ?_ ?_ ?_ <;>simp[bV,b7,b6,bI,aC,bX,dR,I.only,aj.only,bu]
  all_goals rfl
 ·have hlc:=fM hlt;have hge:i=l.length:=by omega
  subst hge;rw[List.take_length];have R:=y6 @hlc (y6 @nL aF)
  repeat' ((first |refine U.aJ (by decide +kernel) rfl fun K hK =>?_|(refine .aG [0,2,3,5,6,7,8,9] hK ?_;clear hK K)|(with_reducible refine .done (hK _ ?_);clear hK K)|refine U.of rfl ?_|(with_reducible refine az.aI (fun h =>?_) (fun h =>?_) <;>try simp only[h])) <;>try simp only[aK,R,simprocAttr])
  all_goals clear R
  all_goals rfl
theorem F0(l:List ai)(hl:l.length≤4000000000000)(h:me l):aS Tryz.prog 102 [enc l] (enc (dz l)):=by
 refine aS.bS Tryz.func102 HW Je Kr (t8 rfl) (fun hwf W0 bL E1 =>?_);simp only[yZ,Di,bH];clear hwf;have R:=y6 @AG aF
 repeat' ((first |refine U.aJ (by decide +kernel) rfl fun K hK =>?_|(refine .aG [0,2,3,4,8] hK ?_;clear hK K)|(with_reducible refine .done (hK _ ?_);clear hK K)|refine U.of rfl ?_|(with_reducible refine az.aI (fun h =>?_) (fun h =>?_) <;>try simp only[h])) <;>try simp only[aK,R,simprocAttr])
 all_goals clear R
 refine U.loop (fun i:Nat=>aw [(0,enc l),(2,.ptr 2 []),(3,.ptr 3 []),(4,.int .i64 i)] [(2,.box (enc (dz []))),(3,.box (enc (dz (l.take i))))]) (fun i=>i≤l.length) (fun i=>l.length-i) 0 (zv0 _) ?_ ?_
 ·refine bx.cQ ?_ ?_ ?_ ?_ <;>simp[bV,b7,b6,bI,aC,bX,dR,I.only,aj.only,bu]
  all_goals rfl
 intro i hi;by_cases hlt:i<l.length
 ·have hlc:=fr hlt;have he:=fun A=>fg (A:=A) 8 hlt rfl;have hw:=eU (i:=i) (by omega);have hsn:=ja hlt;have hin:=h l[i] (List.getElem_mem hlt);have hle:=uU (l.take i);have hli:(l.take i).length=i:=by rw[zz4];omega
  generalize l[i]=r at *;obtain ⟨k,hk⟩:=zz9 hin.1;have hk6:k<6:=by omega
  have hib:=fun {y:Option I} =>sn 1 (dz (l.take i)) (y:=y) (show (0:Int)≤(k:Int)∧(k:Int)<(6:Nat) by omega) rfl;have hat:=fun p=>kn (p:=p) (dz (l.take i)) hk6;have hst:=Fz (l.take i) r hk6 hk;have hw1:IntKind.i64.wrap ((dz (l.take i)).g k+1)=(dz (l.take i)).g k+1:=by
   have:=hle k;rw[rQ _ hk6];exact dX _ (by omega) (by omega)
  rw[←hsn] at hst;have R:=y6 @hlc (y6 @he (y6 @hw (y6 @hk (y6 @hib (y6 @hat (y6 @hst (y6 @hw1 (y6 @Int.toNat_natCast aF))))))))
  repeat' ((first |refine U.aJ (by decide +kernel) rfl fun K hK =>?_|(refine .aG [0,2,3,4,8] hK ?_;clear hK K)|(with_reducible refine .done (hK _ ?_);clear hK K)|refine U.of rfl ?_|(with_reducible refine az.aI (fun h =>?_) (fun h =>?_) <;>try simp only[h])) <;>try simp only[aK,R,simprocAttr])
  all_goals clear R
  refine ⟨i+1,by omega,by omega,?_⟩;clear hsn;refine bx.cQ ?_ ?_ ?_ ?_ <;>simp[bV,b7,b6,bI,aC,bX,dR,I.only,aj.only,bu]
  all_goals rfl
 ·have hlc:=fM hlt;have hge:i=l.length:=by omega
  subst hge;rw[List.take_length];have R:=y6 @hlc (y6 @nL aF)
  repeat' ((first |refine U.aJ (by decide +kernel) rfl fun K hK =>?_|(refine .aG [0,2,3,4,8] hK ?_;clear hK K)|(with_reducible refine .done (hK _ ?_);clear hK K)|refine U.of rfl ?_|(with_reducible refine az.aI (fun h =>?_) (fun h =>?_) <;>try simp only[h])) <;>try simp only[aK,R,simprocAttr])
  all_goals clear R
  all_goals rfl
theorem vP(l:List ai){m:Int}(h:0≤m∧m≤5):mX 6 1 none m (some ((dz l).l.map enc))=some (.int .i64 (cG l m)):=by
 obtain ⟨k,rfl⟩:=zz9 h.1;have hk:k<6:=by omega
 rw[VW (x:=dz l) 1 (k:=(k:Int)) ⟨h.1,by simpa using hk⟩ rfl];have e:enc ((dz l).l[((k:Int)).toNat]'((dz l).lt (by simpa using hk)))=I.int .i64 (cG l k):=by
  have:=rQ l hk;rw[←ef.vE _ hk] at this;rw[←this];rfl
 rw[e];rfl
theorem yi(l:List ai)(r:ai)(hl:l.length≤4000000000000)(h:me l)(hr:0≤r.aO∧r.aO≤5):aS Tryz.prog 71 [enc l,enc r] (enc (dk l r)):=by
 refine aS.bS Tryz.func71 IJ JP K5 (t8 rfl) (fun hwf W0 bL E1 =>?_);simp only[zG,DX,bH,zz5];clear hwf;have hF:=xT l hl h;have hix:=vP l hr;rw[show dk l r=(decide ((l.length:Int)<60)&&((cG l r.aO:Int)==r.no)) by
  simp only[dk];congr 1;rw[decide_eq_decide];omega]
 cases q1:decide ((l.length:Int)<60)
 ·have R:=y6 @q1 (y6 @hix (y6 @nL aF))
  repeat' ((first |(with_reducible refine .guard (fun hb =>?_) (fun hb =>?_) <;>try simp only[hb])|refine U.aJ (by decide +kernel) rfl fun K hK =>?_|refine .lead _ (hF) ?_|(refine .aG [0,1,3,4] hK ?_;clear hK K)|(with_reducible refine .done (hK _ ?_);clear hK K)|refine U.of rfl ?_|(with_reducible refine az.aI (fun h =>?_) (fun h =>?_) <;>try simp only[h])) <;>try simp only[aK,R,simprocAttr])
  all_goals clear R
  all_goals rfl
 ·have R:=y6 @q1 (y6 @hix (y6 @nL aF))
  repeat' ((first |(with_reducible refine .guard (fun hb =>?_) (fun hb =>?_) <;>try simp only[hb])|refine U.aJ (by decide +kernel) rfl fun K hK =>?_|refine .lead _ (hF) ?_|(refine .aG [0,1,3,4] hK ?_;clear hK K)|(with_reducible refine .done (hK _ ?_);clear hK K)|refine U.of rfl ?_|(with_reducible refine az.aI (fun h =>?_) (fun h =>?_) <;>try simp only[h])) <;>try simp only[aK,R,simprocAttr])
  all_goals clear R
  all_goals rfl
def dC:List ai→List ai→Bool
 |_,[]=>true
 |out,r::l=>bh r&&dk out r&&dC (out++[r]) l
theorem nV:∀ (l out:List ai),dC out l=true↔cY bh dk out l
 | [],_=>by simp[dC,cY]
 |r::l,out=>by simp only[dC,cY,Z7,nV l,and_assoc]
theorem ZU{l:List ai}{i:Nat}(h:i<l.length):dC (l.take i) (l.drop i)=(bh l[i]&&dk (l.take i) l[i]&&dC (l.take (i+1)) (l.drop (i+1))):=by
 rw[List.drop_eq_getElem_cons h,dC,←ja h]
theorem oY{r:ai}(h:bh r=true):0≤r.aO∧r.aO≤5:=(ni (nj h)).1
theorem CL{l:List ai}{i:Nat}(hi:i<l.length)(h:∀ r∈l.take i,bh r=true)(h2:bh l[i]=true):∀ r∈l.take (i+1),bh r=true:=fun r hr=>by
 rw[ja hi] at hr;rcases zy2.1 hr with h1 | h1
 ·exact h r h1
 ·rw[zx2.1 h1];exact h2
theorem GA(l:List ai)(hl:l.length≤4000000000000):aS Tryz.prog 98 [enc l] (enc (dC [] l)):=by
 refine aS.bS Tryz.func98 I3 J7 Ln (t8 rfl) (fun hwf W0 bL E1 =>?_);simp only[zV,Ek,bH];clear hwf;have R:=aF
 repeat' ((first |(with_reducible refine .guard (fun hb =>?_) (fun hb =>?_) <;>try simp only[hb])|refine U.aJ (by decide +kernel) rfl fun K hK =>?_|(refine .aG [0,2,3,4,5,6,7,8,22] hK ?_;clear hK K)|(with_reducible refine .done (hK _ ?_);clear hK K)|refine U.of rfl ?_|(with_reducible refine az.aI (fun h =>?_) (fun h =>?_) <;>try simp only[h])) <;>try simp only[aK,R,simprocAttr])
 all_goals clear R
 refine U.loop (fun i:Nat=>aw [(0,enc l),(5,enc l),(6,.int .i64 l.length),(7,.int .i64 i)] []) (fun i=>i≤l.length∧(∀ r∈l.take i,bh r=true)∧dC [] l=dC (l.take i) (l.drop i)) (fun i=>l.length-i) 0 ⟨zv0 _,by simp,by simp⟩ ?_ ?_
 ·refine bx.cQ ?_ ?_ ?_ ?_ <;>simp[bV,b7,b6,bI,bX,I.only,bu]
  all_goals rfl
 rintro i ⟨hi,hk,heq⟩;by_cases hlt:i<l.length
 ·have hlc:=fr hlt;have he:=fun A=>fg (A:=A) 8 hlt rfl;have hw:=eU (i:=i) (by omega);have hnx:=CL hlt hk;rw[ZU hlt] at heq;rw[heq];have hsl:=fun A=>Fh (l:=l) (k:=i) A (esz:=8) rfl (by omega);have hli:(l.take i).length=i:=by rw[zz4];omega
  generalize l[i]=r at *;have f80:=pE r;cases q1:bh r
  ·rw[q1] at f80;have R:=y6 @hlc (y6 @he (y6 @hw (y6 @ff (y6 @fj aF))))
   repeat' ((first |(with_reducible refine .guard (fun hb =>?_) (fun hb =>?_) <;>try simp only[hb])|refine U.aJ (by decide +kernel) rfl fun K hK =>?_|refine .flat _ (f80) rfl ?_|(refine .aG [0,2,3,4,5,6,7,8,22] hK ?_;clear hK K)|(with_reducible refine .done (hK _ ?_);clear hK K)|refine U.of rfl ?_|(with_reducible refine az.aI (fun h =>?_) (fun h =>?_) <;>try simp only[h])) <;>try simp only[aK,R,simprocAttr])
   all_goals clear R
   all_goals rfl
  rw[q1] at f80;have f71:=yi (l.take i) r (by omega) (fun q hq=>oY (hk q hq)) (oY q1);cases q2:dk (l.take i) r
  ·rw[q2] at f71;have R:=y6 @hlc (y6 @he (y6 @hw (y6 @hsl (y6 @ff (y6 @fj aF)))))
   repeat' ((first |(with_reducible refine .guard (fun hb =>?_) (fun hb =>?_) <;>try simp only[hb])|refine U.aJ (by decide +kernel) rfl fun K hK =>?_|refine .flat _ (f80) rfl ?_|refine .flat _ (f71) rfl ?_|(refine .aG [0,2,3,4,5,6,7,8,22] hK ?_;clear hK K)|(with_reducible refine .done (hK _ ?_);clear hK K)|refine U.of rfl ?_|(with_reducible refine az.aI (fun h =>?_) (fun h =>?_) <;>try simp only[h])) <;>try simp only[aK,R,zw0,simprocAttr])
   all_goals clear R
   all_goals rfl
  rw[q2] at f71;have R:=y6 @hlc (y6 @he (y6 @hw (y6 @hsl (y6 @ff (y6 @fj aF)))))
  repeat' ((first |(with_reducible refine .guard (fun hb =>?_) (fun hb =>?_) <;>try simp only[hb])|refine U.aJ (by decide +kernel) rfl fun K hK =>?_|refine .flat _ (f80) rfl ?_|refine .flat _ (f71) rfl ?_|(refine .aG [0,2,3,4,5,6,7,8,22] hK ?_;clear hK K)|(with_reducible refine .done (hK _ ?_);clear hK K)|refine U.of rfl ?_|(with_reducible refine az.aI (fun h =>?_) (fun h =>?_) <;>try simp only[h])) <;>try simp only[aK,R,zw0,simprocAttr])
  all_goals clear R
  refine ⟨i+1,⟨by omega,hnx q1,?_⟩,by omega,?_⟩
  ·rfl
  refine bx.cQ ?_ ?_ ?_ ?_ <;>simp[bV,b7,b6,bI,bX,I.only,bu]
  all_goals rfl
 ·have hlc:=fM hlt;rw[heq,List.drop_eq_nil_of_le (by omega),dC];have R:=y6 @hlc aF
  repeat' ((first |(with_reducible refine .guard (fun hb =>?_) (fun hb =>?_) <;>try simp only[hb])|refine U.aJ (by decide +kernel) rfl fun K hK =>?_|(refine .aG [0,2,3,4,5,6,7,8,22] hK ?_;clear hK K)|(with_reducible refine .done (hK _ ?_);clear hK K)|refine U.of rfl ?_|(with_reducible refine az.aI (fun h =>?_) (fun h =>?_) <;>try simp only[h])) <;>try simp only[aK,R,simprocAttr])
  all_goals clear R
  all_goals rfl
end Go.Proofs.YtoffnnjbplgnaaaGreatDoor
namespace Go.Proofs.YtoffnnjbplgnaaaGreatDoor
open Go Go.Abs Go.Shelf Go.RowKit
open Go.Abs.Enc (enc)
def cP(r:ai):List Value:=[.int .i64 r.aO,.int .i64 r.no,.int .i64 r.kind,.int .i64 r.ec,.int .i64 r.known,.int .i64 r.fi,.int .i64 r.ft,.string ⟨r.text.toArray⟩]
theorem En{w:World}{D:aH}{E:aN}{r:ai}{cs:List Value}(h:af w D E (enc r) cs):cs=cP r:=by
 obtain ⟨h1,_⟩:=Ew (fG (v:=.agg cs.toArray) (by simp[ba,show (enc r:I).isAgg=true from rfl]) h);simp only[Value.agg.injEq] at h1;have:=congrArg Array.toList h1;simpa[cP] using this
theorem BW{n:Int}(h:0≤n∧n<100000000):IntKind.i64.min≤n∧n≤IntKind.i64.max:=by
 have a:IntKind.i64.min=-9223372036854775808:=rfl;have b:IntKind.i64.max=9223372036854775807:=rfl;omega
theorem Yv{w:World}{D:aH}{E:aN}{r:ai}(h:bh r=true):af w D E (enc r) (cP r):=by
 have hn:=qC h;have ht:=ta h
 show af w D E (.agg [.agg [.int .i64 r.aO,.int .i64 r.no],.int .i64 r.kind,.int .i64 r.ec,.int .i64 r.known,.agg [.int .i64 r.fi,.int .i64 r.ft],.ak ⟨r.text.toArray⟩]) _
 have g:∀ n∈dS r,af w D E (.int .i64 n) [.int .i64 n]:=fun n hn'=>⟨rfl,BW (hn n hn')⟩
 simp only[af,aA];refine ⟨[.int .i64 r.aO,.int .i64 r.no],_,rfl,⟨[.int .i64 r.aO],_,rfl,by simpa only[af] using g r.aO (by simp[dS]),[.int .i64 r.no],[],rfl,by simpa only[af] using g r.no (by simp[dS]),rfl⟩,
  [.int .i64 r.kind],_,rfl,by simpa only[af] using g r.kind (by simp[dS]),[.int .i64 r.ec],_,rfl,by simpa only[af] using g r.ec (by simp[dS]),[.int .i64 r.known],_,rfl,by simpa only[af] using g r.known (by simp[dS]),
  [.int .i64 r.fi,.int .i64 r.ft],_,rfl,⟨[.int .i64 r.fi],_,rfl,by simpa only[af] using g r.fi (by simp[dS]),[.int .i64 r.ft],[],rfl,by simpa only[af] using g r.ft (by simp[dS]),rfl⟩,
  [.string ⟨r.text.toArray⟩],[],rfl,⟨rfl,?_⟩,rfl⟩
 show r.text.toArray.size≤maxLen
 simp only[List.size_toArray,maxLen];omega
theorem I8{z:Int}(hz:0≤z∧z<1000003){r:ai}(h:bh r=true)(W:World)(hl:eJ Tryz.prog W (fun _=>False)):Calls Tryz.prog 81 #[.int .i64 z,.agg (cP r).toArray] W fun e w'=>e=.returned (.tuple #[.string ⟨(cR z r).toArray⟩,.int .i64 (cV z (cN r))])∧Below W.heap.size W w':=by
 have hc:=pF z hz r h;refine (hc.2 W (fun _ _=>False) [.int .i64 z,.agg (cP r).toArray] hl (fun _ _ h=>h.elim) ?_).mono ?_
 ·simp only[ao];refine ⟨_,_,[.int .i64 z],rfl,rfl,?_,_,_,cP r,rfl,by simp[ba,show (enc r:I).isAgg=true from rfl],Yv h,rfl⟩
  show af _ _ _ (.int .i64 z) _
  simp only[af];exact ⟨trivial,BW (by omega)⟩
 ·rintro e w' ⟨v,D',rfl,ab,hb,_⟩;refine ⟨?_,hb⟩;have hv':∃ vs:List Value,v=.tuple vs.toArray∧ao w' D' cu [enc (ar.of (cR z r)),enc (cV z (cN r))] vs:=ab;obtain ⟨vs,rfl,h2⟩:=hv';simp only[ao] at h2;obtain ⟨v1,_,c1,rfl,p1,r1,v2,_,c2,rfl,p2,iB,rfl⟩:=h2;have r1':af w' D' cu (.ak ⟨(cR z r).toArray⟩) c1:=r1;have r2':af w' D' cu (.int .i64 (cV z (cN r))) c2:=iB;simp only[af] at r1' r2';obtain ⟨rfl,_⟩:=r1';obtain ⟨rfl,_⟩:=r2';simp[ba,show (enc (ar.of (cR z r)):I).isAgg=false from rfl,show (enc (cV z (cN r)):I).isAgg=false from rfl] at p1 p2;subst p1 p2;rfl
def pJ(w:World)(a:Option Addr)(l:List ai):Prop:=∀ (j:Nat) (h:j<l.length),∃ b off,a=some ⟨b,off,none⟩∧w.rangeAt b (off+j*8) (cP l[j])∧b<w.heap.size
theorem pJ.later{w w':World}{a:Option Addr}{l:List ai}(h:pJ w a l)(hb:Below w.heap.size w w'):pJ w' a l:=by
 intro j hj;obtain ⟨b,off,h1,h2,h3⟩:=h j hj;refine ⟨b,off,h1,fun k v hk =>?_,zw9 h3 hb.size⟩;have:=h2 k v hk;simp only[World.cell?] at this ⊢;rw[hb.block b h3];exact this
theorem YZ{w:World}{D:aH}(hD:∀ b o,D b o→b<w.heap.size){l:List ai}{v:Value}(h:aR w D cu (enc l) v):∃ a cap,v=.slice a l.length cap∧pJ w a l:=by
 have h':aR w D cu (.slice 8 (l.map enc)) v:=h;obtain ⟨a,cap,h1,h2,h3,h4,h5⟩:=kU h';refine ⟨a,cap,by rw[h1,Z9],fun j hj =>?_⟩;rcases h4 with h4 | ⟨b,off,cs,rfl,h6,h7⟩
 ·rw[List.map_eq_nil_iff] at h4;rw[h4] at hj;exact absurd hj (by simp)
 ·obtain ⟨c2,k1,k2⟩:=u9 (k:=j) (x:=enc l[j]) h6 h7 h5 (by simp[hj]);have e:=En k2;subst e;refine ⟨b,off,rfl,fun k v hk=>(k1 k v hk).1,hD b (off+j*8+0) (k1 0 _ rfl).2⟩
theorem ZC(l:List ai)(hl:l.length≤1000000)(h:∀ r∈l,bh r=true)(a:Option Addr)(cap:Nat)(w:World)(hL:eJ Tryz.prog w (fun _=>False))(hR:pJ w a l) :
  Calls Tryz.prog 135 #[.slice a l.length cap] w fun e w'=>e=.returned (.string ⟨(bK 1 l).toArray⟩)∧Below w.heap.size w w':=by
 go_enter Tryz.func135,Tryz.ntmps135
 go_wp2
 go_loopw [4,10] (fun s i wr=>∃ j:Nat,j≤l.length∧i=.int .i64 j∧s=.int .i64 (dx 1 (l.take j))∧lf w.heap.size w.heap.size (bK 1 (l.take j)) wr∧Below w.heap.size w wr) (fun _ i _=>l.length-(RowKit.intOf i).toNat)
 case atStart =>
  refine ⟨0,by omega,rfl,rfl,.inl ⟨by omega,.slice none 0 0,heap_alloc_new w _,⟨rfl,.inl ⟨rfl,rfl⟩⟩,by simp[Value.ownBlock]⟩,ju w _⟩
 case round =>
  obtain ⟨j,hj,rfl,rfl,hI,hbw⟩:=hrel;have hB1:w.heap.size≤wr.heap.size:=hbw.size;by_cases hlt:j<l.length
  ·obtain ⟨b,off,ha,hr,hb⟩:=hR.later hbw j hlt;subst ha;have hok:=h l[j] (List.getElem_mem hlt);have hst:=rf (l.take j);have hsn:=tT (l.take j) l[j] 1;rw[←ja hlt] at hsn;generalize l[j]=r at *;have hcall:=I8 hst hok;have k0:wr.cell? ⟨b,off+j*8,none⟩=some (.int .i64 r.aO):=hr 0 _ rfl;have k1:wr.cell? ⟨b,off+j*8+1,none⟩=some (.int .i64 r.no):=hr 1 _ rfl;have k2:wr.cell? ⟨b,off+j*8+2,none⟩=some (.int .i64 r.kind):=hr 2 _ rfl;have k3:wr.cell? ⟨b,off+j*8+3,none⟩=some (.int .i64 r.ec):=hr 3 _ rfl;have k4:wr.cell? ⟨b,off+j*8+4,none⟩=some (.int .i64 r.known):=hr 4 _ rfl;have k5:wr.cell? ⟨b,off+j*8+5,none⟩=some (.int .i64 r.fi):=hr 5 _ rfl;have k6:wr.cell? ⟨b,off+j*8+6,none⟩=some (.int .i64 r.ft):=hr 6 _ rfl;have k7:wr.cell? ⟨b,off+j*8+7,none⟩=some (.string ⟨r.text.toArray⟩):=hr 7 _ rfl;simp only[cP] at hcall;have hw:=eU (i:=j) (by omega);have hlt':decide ((j:Int)<(l.length:Int))=true:=fr hlt;have hll:=sF hst hok;have htl:=pw (l.take j) (s:=1) (by omega) fun q hq=>h q (zw5 hq);have hli:(l.take j).length=j:=by rw[zz4];omega
   have hsz:(⟨(cR (dx 1 (l.take j)) r).toArray⟩:ByteArray).size=(cR (dx 1 (l.take j)) r).length:=by show (cR _ r).toArray.size=_;simp
   go_wp2_with (first | (go_at_call 81;refine (hcall _ (B5 hL (hbw.trans ((ju wr _).mono hB1)))).mono ?_;rintro e W1 ⟨rfl,hb1⟩) | (go_at_call 156;refine (FQ w.heap.size w.heap.size _ _ _ (sv (sv hI (ju wr _)) hb1) (by rw[hsz];omega) (by have:=hb1.size;simp at this;omega)).mono ?_;rintro e W2 ⟨rfl,hI2,hb2,hk2⟩))
   refine ⟨⟨j+1,by omega,rfl,?_,?_,?_⟩,by simp only[RowKit.intOf];omega⟩
   ·rw[hsn.2]
   ·rw[hsn.1];exact hI2
   ·exact ((hbw.trans ((ju wr _).mono hB1)).trans (hb1.mono (by simp;omega))).trans hb2
  ·have hge:j=l.length:=by omega
   subst hge;have hlt':decide ((l.length:Int)<(l.length:Int))=false:=by simp
   rw[List.take_length] at hI
   go_wp2_with (go_at_call 157;refine (yQ w.heap.size w.heap.size _ _ hI hB1).mono ?_;rintro e W2 ⟨rfl,hI2,hb2,hk2⟩)
   go_ret
   exact ⟨rfl,hbw.trans hb2⟩
theorem xY(l:List ai)(hl:l.length≤1000000)(h:∀ r∈l,bh r=true):aS Tryz.prog 135 [enc l] (enc (ar.of (bK 1 l))):=by
 refine ⟨Ia,fun w D vs hL hD ab =>?_⟩;simp only[ao] at ab;obtain ⟨v,rest,cs,rfl,h1,h2,rfl⟩:=ab;obtain ⟨a,cap,rfl,hR⟩:=YZ hD (fG h1 h2);refine (ZC l hl h a cap w hL hR).mono ?_;rintro e w' ⟨rfl,hbl⟩;have hlen:=pw l (s:=1) (by omega) h;exact ⟨_,D,rfl,ER (l:=bK 1 l) (by unfold maxLen;omega),hbl,fun b o hd=>zw9 (hD b o hd) hbl.size,fun _ _ h _=>h⟩
end Go.Proofs.YtoffnnjbplgnaaaGreatDoor
namespace Go.Proofs.YtoffnnjbplgnaaaGreatDoor
open Go Go.Abs
open Go.Abs.Enc (enc)
theorem Au{c:UInt8} : ∀ {l:List UInt8},dA c l=none→∀ b∈l,b≠c
 | [],_=>by simp
 |b::l,h=>by
  rw[dA] at h;by_cases e:b=c
  ·rw[if_pos e] at h;cases h
  ·rw[if_neg e] at h;cases h2:dA c l with
   |some p=>rw[h2] at h;cases h
   |none =>
    intro x hx;rcases zy8.1 hx with rfl | hx
    ·exact e
    ·exact Au h2 x hx
theorem rU{c:UInt8} : ∀ {l w v:List UInt8},dA c l=some (w,v)→l=w++c::v∧∀ b∈w,b≠c
 | [],_,_,h=>by simp[dA] at h
 |b::l,w,v,h=>by
  rw[dA] at h;by_cases e:b=c
  ·rw[if_pos e] at h;cases h;exact ⟨by rw[e];rfl,by simp⟩
  ·rw[if_neg e] at h;cases h2:dA c l with
   |none=>rw[h2] at h;cases h
   |some p =>
    obtain ⟨w2,v2⟩:=p;rw[h2,zz7] at h;cases h;obtain ⟨h3,h4⟩:=rU h2;refine ⟨by rw[h3];rfl,fun x hx =>?_⟩;rcases zy8.1 hx with rfl | hx
    ·exact e
    ·exact h4 x hx
theorem vX{u:List UInt8}(h:dA 10 u=none):du u=[]:=oO (Au h)
theorem sG{u w v:List UInt8}(h:dA 10 u=some (w,v)):du u=(w++[10])::du v:=by
 obtain ⟨rfl,h2⟩:=rU h;exact vW v h2
def fJ:Nat→List UInt8→List UInt8
 |0,t=>t
 |k+1,t=>match dA 10 t with
  |none=>t
  |some p=>fJ k p.2
theorem w0:∀ {k:Nat} {t w v:List UInt8},dA 10 (fJ k t)=some (w,v)→fJ (k+1) t=v
 |0,t,w,v,h=>by rw[fJ] at h;rw[fJ,h];rfl
 |k+1,t,w,v,h=>by
  rw[fJ] at h ⊢;cases h2:dA 10 t with
  |none=>rw[h2] at h;simp only at h;rw[h2] at h;cases h
  |some p=>rw[h2] at h;exact w0 h
theorem wZ:∀ {k:Nat} {t:List UInt8},k≤(du t).length→du (fJ k t)=(du t).drop k
 |0,t,_=>rfl
 |k+1,t,h=>by
  rw[fJ];cases h2:dA 10 t with
  |none=>rw[vX h2] at h;simp at h
  |some p =>
   obtain ⟨w,v⟩:=p;rw[sG h2] at h ⊢;simp only[zx7] at h;exact wZ (k:=k) (t:=v) (by omega)
theorem EG:∀ (k:Nat) (t:List UInt8),(fJ k t).length≤t.length
 |0,_=>zz2 _
 |k+1,t=>by
  rw[fJ];cases h2:dA 10 t with
  |none=>exact zz2 _
  |some p =>
   have:=rV h2;have:=EG k p.2;simp only;omega
def dJ(u:List UInt8)(out:List ai)(s:Int)(z:Nat):List (Nat×aj):=[(1000001,.box (enc (ar.of u))),(1000004,.box (.own 1000080 out.length)),(1000080,.bF 50 8 (out.map enc)),(1000005,.box (.int .i64 s)),(1000006,.box (.int .i64 (z:Int)))]
theorem nK(u:List UInt8)(out:List ai)(s:Int)(z:Nat)(u':List UInt8)(out':List ai)(s':Int)(z':Nat):fC (dJ u out s z) (dJ u' out' s' z'):=by
 refine ⟨fun n=>by simp only[dJ,aC,aD];(repeat' split) <;>rfl,fun n x h =>?_,fun n h =>?_⟩
 ·simp only[dJ,aD] at h
  repeat' split at h
  all_goals first | (cases h;done) | (simp only[v6] at h;subst h;exact ⟨by simp[dJ,aC,aD,aj.only,bu,I.only,oZ],rfl⟩)
 ·simp only[dJ,aC,aD] at h
  repeat' split at h
  all_goals first | omega | (simp at h;done)
section
variable (t:List UInt8) (P:Nat→List ai→Int→Nat→Prop) (bl:List ai→Nat→Prop)
def sr(k:Nat)(os:List (Nat×aj)):Prop:=∃ out s z,os=dJ (fJ k t) out s z∧P k out s z
def su(k:Nat)(os:List (Nat×aj)):Prop:=∃ out s z,os=dJ (fJ k t) out s z∧P (k+1) out s z
def qi(e:Option Nat)(os:List (Nat×aj)):Prop:=e=some 0∧∃ u out s z,os=dJ u out s z∧bl out z
def oJ(k:Nat):List I:=[enc (ar.of ((du t).getD k []))]
end
def EY(o:Obj)(v:Value)(t:List UInt8)(x:Nat×List ai×Int×Nat):ae:=aw [(0,.raw v),(1,.ptr 1000001 [])] (bR o (dJ (fJ x.1 t) x.2.1 x.2.2.1 x.2.2.2))
theorem BO{o:Obj}{u:List UInt8}{out:List ai}{s:Int}{z:Nat}{ts:List (Nat×I)} : ∀ n x,aD (bR o (dJ u out s z)) n=some x→(aw ts (bR o (dJ u out s z))).o n=some x∧x.only (aC (bR o (dJ u out s z)))=true∧x.eB=true:=fun n x h =>
 ⟨h,(((nK u out s z u out s z).bR o o).ok n x h)⟩
theorem Zt:∀ A n b rest (x y:List UInt8),eb A none n [] b (enc (ar.of x)) rest (some (enc (ar.of y)))=al rest (A.aQ n (.box (enc (ar.of x)))) :=
 fun A n b rest x y=>by rw[eP (s:=none) (v:=enc (ar.of x)) (old:=enc (ar.of y)) (eQ _) rfl rfl,fx]
theorem Wo{t:List UInt8}(ht:t.length≤281474976710656){P:Nat→List ai→Int→Nat→Prop}{bl:List ai→Nat→Prop}{out0:List ai}{s0:Int}{z0:Nat}(h0:P 0 out0 s0 z0)
  (Y:Value→List I→List (Nat×aj)→b9→Prop) (v:Value) (o:Obj) (oX:Option Nat→Obj) (ab:v.oneCell'=true)
  (hY:∀ k osb post,k<(du t).length→sr t P k osb→(∀ r os2,(r=.bool true∧∃ osb2,os2=bR o osb2∧su t P k osb2)∨(r=.bool false∧∃ e osb2,os2=bR (oX e) osb2∧qi bl e osb2)→post r os2)→Y v (oJ t k) (bR o osb) post) :
  jo Tryz.prog 122 Y [.raw v,.ptr 1000001 []] (bR o (dJ t out0 s0 z0)) (fun r os'=>r=.tuple []∧((∃ osb,os'=bR o osb∧sr t P (du t).length osb)∨∃ e osb,os'=bR (oX e) osb∧qi bl e osb)):=by
 refine jo.bS Tryz.func122 zY Jh Ku (t8 rfl) (t8 rfl) (((nK t out0 s0 z0 t out0 s0 z0).bR o o).mc) (fun hwf W0 bL E1 =>?_);simp only[y8,Dl,bH,zz5];clear hwf;refine U.block (U.loop (EY o v t) (fun x=>x.1≤(du t).length∧P x.1 x.2.1 x.2.2.1 x.2.2.2) (fun x=>(du t).length-x.1) (0,out0,s0,z0) ⟨by simp,h0⟩ ?_ ?_)
 ·exact bx.refl _
 rintro ⟨k,out,s,z⟩ ⟨hk,hP⟩;simp only at hk hP;have hrl:=EG k t;have hrd:=wZ hk;have hrn:=fun w v=>w0 (k:=k) (t:=t) (w:=w) (v:=v);obtain ⟨u,hu⟩:∃ u,u=fJ k t:=⟨_,rfl⟩
 have hfin:du u=[]→∃ osb,bR o (dJ u out s z)=bR o osb∧sr t P (du t).length osb:=fun e=>by
  rw[hu,hrd,List.drop_eq_nil_iff] at e;have:k=(du t).length:=by omega
  exact ⟨_,rfl,out,s,z,by rw[←this,←hu],by rw[←this];exact hP⟩
 simp only[EY,←hu];rw[←hu] at hrl hrd hrn;have heldF:=fun ts=>BO (o:=o) (u:=u) (out:=out) (s:=s) (z:=z) (ts:=ts);rcases hq:decide (u=[])
 rotate_left
 ·have hu0:u=[]:=of_decide_eq_true hq;have hf:=hfin (by rw[hu0];exact oO (by simp));simp only[bR,dJ] at hf heldF ⊢;have R:=y6 @hv (y6 @ik (y6 @hq (y6 @br aF)))
  repeat' ((first |(with_reducible refine .guard (fun hb =>?_) (fun hb =>?_) <;>try simp only[hb])|refine U.aJ (by decide +kernel) rfl fun K hK =>?_|(refine .aG [0,1,3,5,18] hK ?_;clear hK K)|(with_reducible refine .done (hK _ ?_);clear hK K)|refine U.of rfl ?_|(with_reducible refine az.aI (fun h =>?_) (fun h =>?_) <;>try simp only[h])) <;>try simp only[aK,R,simprocAttr])
  all_goals clear R
  rw[YO];exact ⟨_,[],heldF _,trivial,rfl,.inl hf⟩
 have hF:=F1 (ar.of u) 10;rw[ar.dQ] at hF;rcases rT 10 u with ⟨h1,h2⟩ | ⟨i,hi,h2,h1⟩
 ·have hf:=hfin (vX h1);obtain ⟨n,hn1⟩:∃ n:Int,n=-1:=⟨_,rfl⟩
  rw[h2,←hn1] at hF;have hneg:decide (n<0)=true:=by rw[hn1];rfl
  simp only[bR,dJ] at hf heldF ⊢;have R:=y6 @hv (y6 @ik (y6 @hq (y6 @hneg (y6 @br aF))))
  repeat' ((first |(with_reducible refine .guard (fun hb =>?_) (fun hb =>?_) <;>try simp only[hb])|refine U.aJ (by decide +kernel) rfl fun K hK =>?_|refine .flat _ (hF) rfl ?_|(refine .aG [0,1,3,5,18] hK ?_;clear hK K)|(with_reducible refine .done (hK _ ?_);clear hK K)|refine U.of rfl ?_|(with_reducible refine az.aI (fun h =>?_) (fun h =>?_) <;>try simp only[h])) <;>try simp only[aK,R,simprocAttr])
  all_goals clear R
  rw[kb];exact ⟨_,[],heldF _,trivial,rfl,.inl hf⟩
 rw[h2] at hF;have hlt:k<(du t).length:=by
  have:=congrArg List.length hrd;rw[sG h1,zv1] at this;simp only[zx7] at this;omega
 have jY:oJ t k=[enc (ar.of (u.take (i+1)))]:=by
  have e:(du t)[k]=u.take i++[10]:=by
   have h3:=hrd;rw[sG h1,List.drop_eq_getElem_cons hlt] at h3;exact (List.cons.inj h3).1.symm
  have h10:u[i]=10:=by
   obtain ⟨e1,_⟩:=rU h1;have:=congrArg (fun l=>l[i]?) e1;simp only[zy0 hi] at this;rw[zw3 (by rw[zz4];omega),zz4,show i-min i u.length=0 by omega] at this;exact Option.some.inj this
  rw[oJ,zy9,zy0 hlt,Option.getD_some,e,ja hi,h10]
 have hlz:decide ((i:Int)<0)=false:=decide_eq_false (by omega);have hw:=eU (i:=i) (by omega);have hsh:=qU (ar.of u) (j:=i+1) (by rw[ar.dQ];omega);have hsl:=xg (ar.of u) (i:=i+1) (by rw[ar.dQ];omega);rw[ar.dQ] at hsh hsl;have hyy:=hY k (dJ u out s z) _ hlt ⟨out,s,z,by rw[←hu],hP⟩ (fun r os2 h=>h);rw[jY] at hyy;simp only[bR,dJ] at hyy ⊢;have R:=y6 @hv (y6 @ik (y6 @hq (y6 @hlz (y6 @hw (y6 @hsh (y6 @I9 (y6 @br aF)))))))
 repeat' ((first |(with_reducible refine .guard (fun hb =>?_) (fun hb =>?_) <;>try simp only[hb])|refine U.aJ (by decide +kernel) rfl fun K hK =>?_|refine .flat _ (hF) rfl ?_|(refine .aG [0,1,3,5,18] hK ?_;clear hK K)|(with_reducible refine .done (hK _ ?_);clear hK K)|refine U.of rfl ?_|(with_reducible refine az.aI (fun h =>?_) (fun h =>?_) <;>try simp only[h])) <;>try simp only[aK,R,simprocAttr])
 all_goals clear R
 refine aZ.ZW (ow:=[]) (In:=fun os2=>∃ osb2,os2=bR o osb2∧su t P k osb2) (Ix:=fun os2=>∃ e osb2,os2=bR (oX e) osb2∧qi bl e osb2) hyy ((nK t out0 s0 z0 u out s z).bR o o) (fun os' h =>?_) (fun os' h =>?_) (by simp[I.cv,kz]) (fun m h=>by simp[aC,aD] at h) (fun os2 h =>?_) (fun os2 h =>?_)
 ·obtain ⟨_,rfl,out',s',z',rfl,_⟩:=h;exact (nK ..).bR _ _
 ·obtain ⟨e,_,rfl,_,u',out',s',z',rfl,_⟩:=h;exact (nK ..).bR _ _
 ·obtain ⟨_,rfl,out',s',z',rfl,hP'⟩:=h;rw[←hu]
  try simp only[bR,dJ,zy3,bd,simprocAttr]
  refine .done (hK _ ?_);clear hK K;have hn:=hrn _ _ h1;have R:=y6 @hw (y6 @hsl (y6 @hlz (y6 @Zt (y6 @br aF))))
  repeat' ((first |(with_reducible refine .guard (fun hb =>?_) (fun hb =>?_) <;>try simp only[hb])|refine U.aJ (by decide +kernel) rfl fun K hK =>?_|(refine .aG [0,1,3,5,18] hK ?_;clear hK K)|(with_reducible refine .done (hK _ ?_);clear hK K)|refine U.of rfl ?_|(with_reducible refine az.aI (fun h =>?_) (fun h =>?_) <;>try simp only[h])) <;>try simp only[aK,R,simprocAttr])
  all_goals clear R
  refine ⟨(k+1,out',s',z'),⟨by simp only;omega,hP'⟩,by simp only;omega,?_⟩;simp only[hn];refine bx.slots ?_ (fun n =>?_)
  ·simp[bV,bX]
  ·simp only[dR];(repeat' split) <;>simp_all
 ·obtain ⟨e,_,rfl,he,u',out',s',z',rfl,hF'⟩:=h
  try simp only[bR,dJ,zy3,bd,simprocAttr]
  refine .done (hK _ ?_);clear hK K;have R:=y6 @br aF
  repeat' ((first |(with_reducible refine .guard (fun hb =>?_) (fun hb =>?_) <;>try simp only[hb])|refine U.aJ (by decide +kernel) rfl fun K hK =>?_|(refine .aG [0,1,3,5,18] hK ?_;clear hK K)|(with_reducible refine .done (hK _ ?_);clear hK K)|refine U.of rfl ?_|(with_reducible refine az.aI (fun h =>?_) (fun h =>?_) <;>try simp only[h])) <;>try simp only[aK,R,simprocAttr])
  all_goals clear R
  rw[kb];exact ⟨_,[],BO (o:=oX e) (u:=u') (out:=out') (s:=s') (z:=z'),trivial,rfl,.inr ⟨e,_,rfl,he,u',out',s',z',rfl,hF'⟩⟩
def X3(t:List UInt8):b9:=fun r os'=>r=.func 122 [.ptr 1 []]∧os'=[(1,.box (enc (ar.of t)))]
theorem Gq(t:List UInt8):eW Tryz.prog 69 [enc (ar.of t)] [] (X3 t):=by
 refine eW.bS Tryz.func69 IH JO K3 (t8 rfl) (t8 rfl) (fun m hm=>by simp[aC,aD] at hm) (fun hwf W0 bL E1 =>?_);simp only[zF,DW,bH];clear hwf;have hall:([I.ptr 1 []].all fun y=>y.cC)=true:=rfl;have R:=y6 @hall (y6 @br aF)
 repeat' ((first |refine U.aJ (by decide +kernel) rfl fun K hK =>?_|(refine .aG [0,1,2] hK ?_;clear hK K)|(with_reducible refine .done (hK _ ?_);clear hK K)|refine U.of rfl ?_|(with_reducible refine az.aI (fun h =>?_) (fun h =>?_) <;>try simp only[h])) <;>try simp only[aK,R,simprocAttr])
 all_goals clear R
 exact ⟨[(1,.box (enc (ar.of t)))],[.func 122 [.ptr 1 []]],oF rfl (fun p=>bu _ _),⟨⟨_,rfl,.inl ⟨rfl,rfl,rfl⟩⟩,trivial⟩,rfl,rfl⟩
end Go.Proofs.YtoffnnjbplgnaaaGreatDoor
namespace Go.Abs
open Go Go.RowKit
open Enc (enc)
def GH(P:Program)(nn:Nat)(x y:bj)(ps:List Nat)(tsR:List (Nat×I))(N:Nat)(item:Nat→List I)(aW J:Nat→List (Nat×aj)→Prop)(Ix:Option Nat→List (Nat×aj)→Prop):Prop :=
 ∀ k osb,k<N→aW k osb→∀ (w:World) (D:aH) (E:aN) (l:Nat) (o1 o2:Obj),
  U ⟨P,w,D,nn,bU E,E,fO,some l,none⟩ x (cT (fun B=>B.o 1999999=some (.dm o1)∧U ⟨P,w,D,nn,bU E,E,fO,some l,none⟩ y (EI o2 (J k) Ix) (B.aQ 1999999 (.dm o2))) (fun _ _=>False)) (aw (tg ps (item k) tsR) (bR o1 osb))
theorem yH{aE:Bool}{A0:ae}{ρ:List (Nat×Nat)}{os:List (Nat×aj)} : ∀ {caps:List I},(∀ x∈caps,x.only (aC os)=true∧x.cC=true)→gr aE A0 ρ os (caps.map fun x=>x.aT (bo ρ)) caps
 | [],_=>trivial
 |x::xs,h=>⟨.inl ⟨rfl,(h x (by simp)).1,(h x (by simp)).2⟩,yH fun y hy=>h y (by simp[hy])⟩
theorem Hd{aE:Bool}{A0:ae}{ρ:List (Nat×Nat)}{os:List (Nat×aj)}{v:Value}{caps0 caps:List I}(hc:caps0=caps.map fun x=>x.aT (bo ρ))(h:∀ x∈caps,x.only (aC os)=true∧x.cC=true):gr aE A0 ρ os (.raw v::caps0) (.raw v::caps):=by
 subst hc;exact ⟨.inl ⟨by simp[I.aT],by simp[I.only],rfl⟩,yH h⟩
section
variable {c:ct} {Q:Exit→ae→Prop}
theorem U.YT{f:ay}{ps:List Nat}{x y:bj}{ts tsR:List (Nat×I)}{os0 osb0:List (Nat×aj)}{ρ:List (Nat×Nat)}{g:FuncId}{caps0 caps:List I}{N:Nat}{item:Nat→List I}
  (aW J:Nat→List (Nat×aj)→Prop) (Ix:Option Nat→List (Nat×aj)→Prop) (hr0:c.qQ=none∧c.dF=none) (hn6:c.n≤1000000)
  (hf:ah (aw ts os0) f=.func g caps0) (hc0:caps0=caps.map fun x=>x.aT (bo ρ)) (hcp:∀ x∈caps,x.only (aC osb0)=true∧x.cC=true) (hcb:dZ c.P g=true)
  (jY:∀ (Y:Value→List I→List (Nat×aj)→b9→Prop) (v:Value) (o:Obj) (oX:Option Nat→Obj),v.oneCell'=true →
   (∀ k osb post,k<N→aW k osb→(∀ r os2,(r=.bool true∧∃ osb2,os2=bR o osb2∧J k osb2)∨(r=.bool false∧∃ e osb2,os2=bR (oX e) osb2∧Ix e osb2)→post r os2)→Y v (item k) (bR o osb) post) →
   jo c.P g Y (.raw v::caps) (bR o osb0) (fun r os'=>r=.tuple []∧((∃ osb,os'=bR o osb∧aW N osb)∨∃ e osb,os'=bR (oX e) osb∧Ix e osb))) (hlen:∀ k,(item k).length=ps.length)
  (hfree:aD os0 999999=none) (h19:aC osb0 1999999=false) (hρ:bo ρ 1999999=999999)
  (hgv:∀ o,eX ρ (bR o osb0) ((999999,.dm o)::os0)) (hts:mC ρ (aC osb0) ts tsR)
  (hI:∀ k os,aW k os→fC osb0 os) (hIx:∀ e os,Ix e os→fC osb0 os) (h0:aW 0 osb0)
  (hround:GH c.P c.n x y ps tsR N item aW J Ix)
  (hdone:∀ os,aW N os→Q .normal (aw ts (df ρ os++os0))) (hexit:∀ e os,Ix e os→Q (vg e) (aw ts (df ρ os++os0))) :
  U c (.nB f ps x y) Q (aw ts os0):=by
 obtain ⟨hr,hbase⟩:=hr0;intro code hc a w hs;cases code <;>simp only[dY] at hc <;>try (first | (cases hc;done) | ((repeat' split at hc) <;>cases hc;done))
 rename_i cf cps cx cy;split at hc
 case h_2=>cases hc
 rename_i f' x' y' hcf hcx hcy;split at hc
 case isFalse=>cases hc
 rename_i hpn;simp only[v6,bj.nB.injEq] at hc;obtain ⟨rfl,rfl,rfl,rfl⟩:=hc;obtain ⟨D,E,hs⟩:=hs;have hF:c.bl=Fence.wide:=by unfold ct.bl;rw[hr]
 have hE0:c.cu 999999=none:=hs.jx (.inr (by decide));have hval:∃ vs:List Value,a.eval cf=.func (.func g) #[] vs.toArray∧ao w D E caps0 vs:=by
  have ab:=bn hs hcf;rw[hf] at ab;obtain ⟨cs,q1,q2⟩:=ab;simp only[af] at q2;obtain ⟨vs,q3,q4⟩:=q2;exact ⟨vs,by rw[←mb (Ac hcb)];simpa[ba,I.isAgg,q3] using q1.symm,q4⟩
 obtain ⟨vs,hval,hvs⟩:=hval;rw[hF];refine wpIn_rangeFunc fun fn hfn =>?_;obtain ⟨rec,hrec⟩:∃ rec:LoopState→Option Code→Loop,rec=fun aV pe => { state:=aV,pending:=pe,fn,tmps:=a.tmps,params:=cps,assign:=cx,body:=cy,defers:=w.heap.size } :=⟨_,rfl⟩
 obtain ⟨E1,hs1,hE1,hup⟩:=hs.enter hbase hfree hE0 (o:=.loop (rec .ready none)) rfl;obtain ⟨W1,hW1⟩:∃ W1,(w.alloc (.deferred (some []))).alloc (.loop (rec .ready none))=W1:=⟨_,rfl⟩
 rw[hW1] at hs1 hup;obtain ⟨l,hl⟩:∃ l,l=w.heap.size+1:=⟨_,rfl⟩
 rw[←hl] at hE1;obtain ⟨yv,hyv⟩:∃ yv:Value,yv=.func (.yield l) #[] #[]:=⟨_,rfl⟩
 obtain ⟨a1,ha1⟩:∃ a1:Act,a1 = { a with defers := { target:=.collected w.heap.size,args := #[] } :: a.defers } :=⟨_,rfl⟩
 rw[←ha1] at hs1;refine ⟨l,[{ target:=.collected w.heap.size,args := #[] }],W1,{ target:=.fn (.func g) vs.toArray,args := #[yv] },W1,g,#[yv]++vs.toArray,W1,?_,?_,?_,?_,fun _=>by decide,?_⟩
 ·rw[←hW1,hrec,hl];exact run_enterLoop_outer _ _ _ _ _
 ·simp only[resolve,hval,hyv];simp[go_sem]
 ·intro f' _;trivial
 ·simp only[invoke,mA hcb]
 ·-- the iterator's own bargain
  have hG0:=hI 0 osb0 h0;obtain ⟨I',hI'⟩:∃ I':Nat→List (Nat×aj)→Prop,I'=fun k os=>∃ osb,os=bR (.loop (rec .ready none)) osb∧aW k osb:=⟨_,rfl⟩
  obtain ⟨J',hJ'⟩:∃ J':Nat→List (Nat×aj)→Prop,J'=fun k os=>∃ osb,os=bR (.loop (rec .ready none)) osb∧J k osb:=⟨_,rfl⟩
  obtain ⟨Ix',hIx'⟩:∃ Ix':List (Nat×aj)→Prop,Ix'=fun os=>∃ e osb,os=bR (.loop (rec .done (some (sx e)))) osb∧Ix e osb:=⟨_,rfl⟩
  obtain ⟨os1,hos1⟩:∃ os1,os1=bR (.loop (rec .ready none)) osb0:=⟨_,rfl⟩
  obtain ⟨Y,hY⟩:∃ Y:Value→List I→List (Nat×aj)→b9→Prop,Y=fun v args os post=>v=yv∧∃ k,args=item k∧k<N∧I' k os∧∀ r os2,(r=.bool true∧J' k os2)∨(r=.bool false∧Ix' os2)→post r os2:=⟨_,rfl⟩
  have jW:∀ k os',I' k os'→fC os1 os':=fun k os' h=>by
   rw[hI'] at h;obtain ⟨osb,rfl,h⟩:=h;rw[hos1];exact (hI k osb h).bR _ _
  have goodx:∀ os',Ix' os'→fC os1 os':=fun os' h=>by
   rw[hIx'] at h;obtain ⟨e,osb,rfl,h⟩:=h;rw[hos1];exact (hIx e osb h).bR _ _
  have hctr:jo c.P g Y (.raw yv::caps) os1 (fun r os'=>r=.tuple []∧(I' N os'∨Ix' os')):=by
   rw[hI',hIx',hos1];refine jY Y yv (.loop (rec .ready none)) (fun e=>.loop (rec .done (some (sx e)))) (by rw[hyv];rfl) (fun k osb post hk h1 h2 =>?_);rw[hY];refine ⟨rfl,k,rfl,hk,by rw[hI'];exact ⟨osb,rfl,h1⟩,fun r os2 h3=>h2 r os2 ?_⟩;rw[hJ',hIx'] at h3;exact h3
  have hgv1:eX ρ os1 ((999999,.dm (.loop (rec .ready none)))::os0):=by rw[hos1];exact hgv _
  obtain ⟨A0,hA0⟩:∃ A0:ae,A0=aw ts ((999999,.dm (.loop (rec .ready none)))::os0):=⟨_,rfl⟩
  have hand:mJ (Calls c.P g) (fun w D E=>∀ n,oa ⟨c.P,w,D,n,bU E,E,Y,none,none⟩) (.raw yv::caps) os1 (fun r os'=>r=.tuple []∧(I' N os'∨Ix' os')):=fun w D E vs hy hlive hheld ab=>by
   refine (hctr.2 w D E vs hy hlive hheld ab).mono fun e w' ⟨v,he,D',E',r,os',q⟩=>⟨v,D',E',r,os',he,q⟩
  have hshare:=hs1.nH;obtain ⟨Dh,hDh⟩:∃ Dh,Dh=nE (aw ts ((999999,.dm (.loop (rec .ready none)))::os0)) D E1:=⟨_,rfl⟩
  rw[←hDh] at hshare;have hsh:=hshare.1;obtain ⟨Eh,hEh⟩:∃ Eh,Eh=aq ρ os1 E1:=⟨_,rfl⟩
  have isrec:aC os1 1999999=true:=by rw[hos1,jZ];simp
  have hEl:Eh 1999999=some (.op l):=by rw[hEh];simp only[aq,isrec,if_true,hρ];exact hE1
  have EhIn:∀ n e,Eh n=some e→aC os1 n=true:=fun n e h=>by
   rw[hEh] at h;simp only[aq] at h;split at h
   ·assumption
   ·cases h
  have hyok:∀ n,oa ⟨c.P,W1,Dh,n,bU Eh,Eh,Y,none,none⟩:=by
   refine fun n=>⟨by rw[hEh];exact hs1.oL,?_⟩
   intro v' args os' post' hYv w2 D2 E2 vs2 hsince hlive hheld hrvs;rw[hY] at hYv;obtain ⟨rfl,k,rfl,hkN,hIk,hpost⟩:=hYv;have hIk0:=hIk;rw[hI'] at hIk;obtain ⟨osb,rfl,hIk⟩:=hIk;have gk:=jW k _ hIk0;have gkb:=hI k osb hIk;have in2:∀ m,aC os1 m=true→E2 m≠none:=fun m hm=>by
    rw[←gk.same m] at hm;cases hx:aD (bR (.loop (rec .ready none)) osb) m with
    |none=>simp[aC,hx] at hm
    |some x=>have:=hheld.bD m;rw[hx] at this;exact qz this
   have same2:∀ m e,Eh m=some e→e.eB=true→E2 m=some e:=fun m e he hfx=>by
    rcases hsince.dG m e he with h | ⟨e',h,hle⟩
    ·exact absurd h (in2 m (EhIn m e he))
    ·rw[hle.eq hfx] at h;exact h
   have hEl2:E2 1999999=some (.op l):=same2 _ _ hEl rfl;have hob:=hheld.bD 1999999;rw[oQ,if_pos rfl] at hob;obtain ⟨b,j1,_,j3,_,_⟩:=hob;rw[hEl2] at j1;cases j1;have hsz:vs2.toArray.size=cps.size:=by have:=qS hrvs;rw[hlen] at this;simpa using this
   have hyr:=run_yield (P:=c.P) (args:=vs2.toArray) j3 (by rw[hrec];exact hsz);rw[hrec] at hyr;refine ⟨l,hyv,fn,_,cx,cy,hyr,roundIn_of_wpIn trivial ?_⟩;clear hyr
   -- the round's own frame
   obtain ⟨cr,hcr⟩:∃ cr:ct,cr=⟨c.P,w2,D2,c.n,bU E2,E2,fO,some l,none⟩:=⟨_,rfl⟩
   have hFr:cr.bl=Fence.wide.inRound l:=by rw[hcr];rfl
   have hlat:dy W1 Dh Eh w2 D2 E2:=by
    refine ⟨hsince.cE,hsince.fy.cell,fun m b aL he=>same2 m _ he rfl,fun m aB l he =>?_,fun m b he=>same2 m _ he rfl,fun m b he=>same2 m _ he rfl,hsince.fy.iR⟩;rcases hsince.dG m _ he with h | ⟨e',h,hle⟩
    ·exact absurd h (in2 m (EhIn m _ he))
    ·rcases hle with rfl | ⟨_,_,blk',l',e,rfl,k1,k2⟩
     ·exact ⟨aB,l,h,zz2 _,fun _=>rfl⟩
     ·cases e;exact ⟨blk',l',h,k1,k2⟩
   have hslots:mC ρ (aC os1) ts tsR:=by
    have:∀ tsR:List (Nat×I),mC ρ (aC osb0) ts tsR→mC ρ (aC os1) ts tsR:=by
     intro tsR
     induction tsR with
     |nil=>exact fun h=>h
     |cons q r ih =>
      intro h;obtain ⟨h1,h2,h3⟩:=h;exact ⟨h1,jI (fun n hn=>by rw[hos1,jZ,hn];simp) _ h2,ih h3⟩
    exact this tsR hts
   have hsr:aM cr (aw tsR (bR (.loop (rec .ready none)) osb)) { tmps:=a.tmps,defers:=[] } w2 D2 E2:=by
    rw[hcr];refine ⟨hs.sz,⟨[],rfl,.nil,fun _ h=>by simp at h⟩,fun t =>?_,eH.refl _ _,fun _ _ h _=>h,hlive,fun m=>(hheld.bD m).jE fun e b he hb=>.inr ⟨m,e,he,hb⟩,hheld.cD,fun _ e h=>.inr ⟨e,h,.refl e⟩,fun m hm =>?_,fun _ _ h=>h,⟨hsince.qo,fun _ _ _ _ h=>h.elim⟩,.refl _ _⟩
    ·rcases Fl hslots t with h | ⟨h1,h2⟩
     ·simp only[aw];rw[h];simp[aR]
     ·have h3:=hsh.dK t;rw[ha1] at h3;simp only[aw] at h3 ⊢;rw[h1] at h3;have h4:=(aR.aT (w:=W1) (D:=Dh) (p:=aC os1) (ρ:=bo ρ) (E:=Eh) (E':=E1) (fun n hn=>by rw[hEh];simp only[aq,hn,if_true]) h2).1 h3;exact aR.later hlat h4
    ·have hmi:aC os1 m=true:=by
      rw[←gk.same m];have:=hheld.bD m;cases hx:aD (bR (.loop (rec .ready none)) osb) m with
      |none=>rw[hx] at this;exact absurd this hm
      |some x=>simp[aC,hx]
     have:=gk.mc m hmi;exact ⟨Nat.le_trans hn6 this,this⟩
   have hsp:=aM.Df cps.toList vs2 (item k) tsR _ hsr (fun p hp=>by rw[hcr];have:=zx8.1 hpn p hp;simpa using this) hrvs (by have:=hsz;simpa using this.symm);have htm:(cps.zip vs2.toArray).foldl (fun t (q:Tmp×Value)=>t.setIfInBounds q.1 q.2) a.tmps=(cps.toList.zip vs2).foldl (fun t q=>t.setIfInBounds q.1 q.2) a.tmps:=by
    rw[←Array.foldl_toList];simp
   have hx:=hround k osb hkN hIk w2 D2 E2 l (.loop (rec .ready none)) (.loop { rec .ready none with state:=.busy });rw[←hcr] at hx;have hx1:=hx cx (by rw[hcr];exact hcx) _ w2 ⟨D2,E2,hsp⟩;rw[hFr] at hx1;simp only[←htm] at hx1;rw[hcr] at hx1;refine wpIn_mono hx1 ?_;rintro e ax wx ⟨B,hq,hsx⟩;rw[←hcr] at hq hsx;cases e <;>simp only[cT] at hq <;>try exact hq.elim
   simp only[Exit.then];obtain ⟨hB1,hB2⟩:=hq;obtain ⟨Dx,Ex,hsx⟩:=hsx;have hElx:Ex 1999999=some (.op l):=by
    have ho:=hsx.bD 1999999;rw[hB1] at ho;rcases hsx.vt (n:=1999999) (by rw[hcr];exact hEl2) rfl with h | h
    ·exact absurd h (qz ho)
    ·exact h
   have hLx:wx.heap[l]?=some (.loop (rec .ready none)):=by
    have ho:=hsx.bD 1999999;rw[hB1] at ho;obtain ⟨b,k1,_,k3,_⟩:=ho;rw[hElx] at k1;cases k1;exact k3
   refine ⟨_,run_beginRound hLx (by rw[hrec]),?_⟩;have hsb:=hsx.xk (o':=.loop { rec .ready none with state:=.busy }) hB1 hElx rfl;have hy1:=hB2 cy (by rw[hcr];exact hcy) _ _ ⟨Dx,Ex,hsb⟩;rw[hFr] at hy1;rw[hcr] at hy1;refine wpIn_mono hy1 ?_;rintro e a3 w3 ⟨A3,hq3,D3,E3,hs3⟩;rw[←hcr] at hs3
   -- the end of the round
   have bf:∀ (os:List (Nat×aj)) (jump:Option Code),pB (.loop { rec .ready none with state:=.busy }) A3 os→(post' (.bool jump.isNone) (bR (.loop (rec (if jump.isNone then .ready else .done) jump)) os)) →
     ∃ v w',(Instr.endRound l jump).run c.P w3=.ok v w'∧(fun e w'=>∃ v D' E' r os',e=Ending.returned v∧post' r os'∧aR w' D' E' r v∧jq (fun b=>w2.heap.size≤b∨bU E2 b) w' D' E' (aD os') ∧
      eH (fun b=>w2.heap.size≤b∨bU E2 b) w2 w'∧(∀ b o,D2 b o→D' b o)∧(∀ b o,D' b o→b<w'.heap.size)∧(∀ b o,D' b o→b<w2.heap.size→¬ bU E2 b→D2 b o) ∧
      (∀ n e,E2 n=some e→aC os' n=true→∃ e',E' n=some e'∧e.eD e')∧gq w2 D2 w') (.returned v) w':=fun os jump hbk hp=>by
    have hA3:A3.o 1999999=some (.dm (.loop { rec .ready none with state:=.busy })):=(hbk 1999999 _ (by rw[oQ,if_pos rfl])).1;have hEl3:E3 1999999=some (.op l):=by
     have ho:=hs3.bD 1999999;rw[hA3] at ho;rcases hs3.vt (n:=1999999) (by rw[hcr];exact hEl2) rfl with h | h
     ·exact absurd h (qz ho)
     ·exact h
    have hL3:w3.heap[l]?=some (.loop { rec .ready none with state:=.busy }):=by
     have ho:=hs3.bD 1999999;rw[hA3] at ho;obtain ⟨b,k1,_,k3,_⟩:=ho;rw[hEl3] at k1;cases k1;exact k3
    have hend:=run_endRound (P:=c.P) jump hL3;have erec:({ rec .ready none with state:=if jump.isNone then LoopState.ready else .done,pending:=jump } : Loop)=rec (if jump.isNone then .ready else .done) jump:=by rw[hrec]
    have hend':(Instr.endRound l jump).run c.P w3=.ok (.bool jump.isNone) (w3.putObj l (.loop (rec (if jump.isNone then .ready else .done) jump))):=by
     rw[hend];rw[hrec]
    have hs4:=hs3.xk (o':=.loop (rec (if jump.isNone then .ready else .done) jump)) hA3 hEl3 rfl;rw[hcr] at hs4;obtain ⟨D',E',_,_,_,q1,q2,q3,q4,q5,q6⟩:=hs4.vU (VD hbk _);exact ⟨_,_,hend',_,D',E',.bool jump.isNone,_,rfl,hp,⟨[.bool jump.isNone],by simp[ba,I.isAgg],by simp[af]⟩,q1,q2,q3,q4,q5,q6⟩
   cases e with
   |normal =>
    obtain ⟨os,hbk,hin⟩:=hq3;exact bf os none hbk (hpost _ _ (.inl ⟨rfl,by rw[hJ'];exact ⟨os,rfl,hin⟩⟩))
   |ret =>
    obtain ⟨os,hbk,hin⟩:=hq3;exact bf os (some .ret) hbk (hpost _ _ (.inr ⟨rfl,by rw[hIx'];exact ⟨none,os,rfl,hin⟩⟩))
   |exit id =>
    obtain ⟨os,hbk,hin⟩:=hq3;exact bf os (some (.exit id)) hbk (hpost _ _ (.inr ⟨rfl,by rw[hIx'];exact ⟨some id,os,rfl,hin⟩⟩))
   |goto t=>exact hq3.elim
   |panic ch=>exact hq3.elim
   |outgrown=>exact hq3.elim
  -- the call
  have hargs:ee (aR W1 D E1) (.raw yv::caps0) (yv::vs):=by
   exact .cons ⟨[yv],by simp[ba,I.isAgg],by rw[hyv];exact ⟨rfl,rfl⟩⟩ (pf (hup caps0 vs hvs))
  have hus:=hand.use (ρ:=ρ) hs1 false (fun h=>h.mono) ⟨(fun h=>by cases h),fun _=>by rw[←hDh,←hEh];exact hyok⟩ hgv1 (Hd hc0 fun x hx=>⟨jI (fun n hn=>by rw[hos1,jZ,hn];simp) _ (hcp x hx).1,(hcp x hx).2⟩)
   (fun r os' hp=>by
    have gg:fC os1 os':=by
     rcases hp.2 with h | h
     ·exact jW _ _ h
     ·exact goodx _ h
    refine ⟨fun m x hx=>⟨(gg.ok m x hx).1,(gg.ok m x hx).2,fun h=>by cases h⟩,fun m m' h1 h2=>hgv1.inj m m' (by rw[←gg.same];exact h1) (by rw[←gg.same];exact h2),fun m hm=>by rw[gg.same];exact hm,fun m h1 h2=>(by rw[gg.same,h2] at h1;cases h1),(by rw[hp.1];simp[I.only,I.cI]),fun h=>by cases h⟩) hargs
  have ecl : #[yv]++vs.toArray=(yv::vs).toArray:=by simp
  rw[ecl];refine CallsIn.mono (callsIn_wide.2 hus) ?_;rintro e w3 ⟨v,r,os',D2,E2,rfl,hp,hs2,_,hE2⟩;have key:∀ (o3:Obj) (osb:List (Nat×aj)),os'=bR o3 osb→oI o3=true→E2 999999=some (.op l)∧w3.heap[l]?=some o3∧∀ o4,oI o4=true→bE c (aw ts (df ρ osb++os0)) a1 (w3.putObj l o4):=fun o3 osb he h3=>by
   subst he;have hn2:E2 999999=some (.op l):=by
    obtain ⟨e',h1,h2⟩:=hE2 1999999 (.op l) (by rw[←hEh];exact hEl) (by rw[jZ];simp);rw[hρ] at h1;rw[h1,h2.eq rfl]
   have eos:df ρ (bR o3 osb)=(999999,.dm o3)::df ρ osb:=by simp only[bR,df,zz1,hρ,aj.aT]
   rw[eos] at hs2;have ha:(aw ts ((999999,aj.dm o3)::df ρ osb++(999999,.dm (.loop (rec .ready none)))::os0)).o 999999=some (.dm o3):=by simp[aw,aD]
   have hgb:∀ m,aC osb m=true→bo ρ m≠999999:=fun m hm e=>by
    have h5:aC (bR o3 osb) m=true:=by rw[jZ,hm];simp
    have g5:fC os1 (bR o3 osb):=by
     rcases hp.2 with h | h
     ·exact jW _ _ h
     ·exact goodx _ h
    have h6:=hgv1.inj m 1999999 (by rw[←g5.same];exact h5) isrec (by rw[hρ];exact e);subst h6;have h7:fC osb0 osb:=by
     rcases hp.2 with h | h
     ·rw[hI'] at h;obtain ⟨osb',h8,h9⟩:=h;simp only[bR,zy7] at h8;rw[h8.2];exact hI _ _ h9
     ·rw[hIx'] at h;obtain ⟨e,osb',h8,h9⟩:=h;simp only[bR,zy7] at h8;rw[h8.2];exact hIx _ _ h9
    rw[h7.same,h19] at hm;cases hm
   refine ⟨hn2,?_,fun o4 h4 =>?_⟩
   ·have ho:=hs2.bD 999999;rw[ha] at ho;obtain ⟨b,k1,_,k3,_⟩:=ho;rw[hn2] at k1;cases k1;exact k3
   ·have h5:=(hs2.xk (o':=o4) ha hn2 h4).Mm hn2;have hst:(⟨((aw ts ((999999,aj.dm o3)::df ρ osb++(999999,.dm (.loop (rec .ready none)))::os0)).aQ 999999 (.dm o4)).t,fun m=>if m=999999 then none else
      ((aw ts ((999999,aj.dm o3)::df ρ osb++(999999,.dm (.loop (rec .ready none)))::os0)).aQ 999999 (.dm o4)).o m⟩:ae)=aw ts (df ρ osb++os0):=by
     simp only[aw,ae.aQ]
     congr 1
     funext m
     by_cases hm:m=999999
     ·subst hm;simp only[if_true,sJ];cases hq:pre ρ osb 999999 with
      |none=>exact hfree.symm
      |some k=>exact absurd (lG hq).2 (hgb k (lG hq).1)
     ·simp only[if_neg hm,zz8,aD,sJ]
    rw[hst] at h5;exact ⟨D2,_,h5⟩
  rcases hp.2 with h | h
  ·rw[hI'] at h;obtain ⟨osb,he,hin⟩:=h;obtain ⟨k1,k2,k3⟩:=key _ osb he rfl;refine ⟨none,_,(by have:=run_endLoop (P:=c.P) k2 (by rw[hrec];simp);rw[hrec] at this;exact this),_,hdone osb hin,?_⟩;have:=k3 (.loop { rec .ready none with state:=.exhausted }) rfl;rw[ha1] at this;rw[hrec] at this;exact this
  ·rw[hIx'] at h;obtain ⟨e,osb,he,hin⟩:=h;obtain ⟨k1,k2,k3⟩:=key _ osb he rfl;refine ⟨some (sx e),_,(by have:=run_endLoop (P:=c.P) k2 (by rw[hrec];simp);rw[hrec] at this;exact this),?_⟩;have:=k3 (.loop { rec .done (some (sx e)) with state:=.exhausted }) rfl;rw[ha1] at this;rw[hrec] at this;have hq:sE c Q (vg e) { a with defers := { target:=.collected w.heap.size,args := #[] } :: a.defers } _:=⟨_,hexit e osb hin,this⟩
   cases e with
   |none=>exact wpIn_ret hq
   |some id=>exact wpIn_exit hq
end
end Go.Abs
