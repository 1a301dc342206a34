/-
  A part of the proof that the law RollSums returns true for every input; five variables of Go's library start as the text lays them (the card ties them); conditions: none beyond the statement's own. (part 4 of 6)
-/
import Derived.ProofKit
import Derived.SizedLaws
import Derived.Lib.SplitLaws
import Derived.Lib.AtoiAll
import Derived.Lib.ItoaMem
import Derived.Shelf.Strings.Split
import Derived.Shelf.Small.Wraps
import Derived.Shelf.Strconv.ErrVarAll
import Derived.Lib.FieldsP
import Derived.Laws.RangeAny
import Derived.Shelf.Strconv.Itoa3
import Derived.Lib.ItoaLen
import Derived.Shelf.Strings.Prefix
import Derived.Shelf.Strings.Cut
import Derived.Shelf.Small.Strs
import Derived.Shelf.Strconv.Clone
import Derived.Shelf.Strings.FieldsFuncAny
import Derived.WalkKit
import Derived.Tactics
import Derived.Tactics2
import Derived.RecoverIn
import Derived.Deep.MidRow
import Derived.Shelf.Strings.BuilderK
import Derived.BigCall
import Derived.Deep.RegionWith
import Derived.Test.YtoffnnjbplgnaaaGreatDoorNfc
set_option linter.unusedSimpArgs false
set_option linter.unusedVariables false
set_option maxHeartbeats 16000000
set_option maxRecDepth 100000
namespace Go.Abs
open Go Go.RowKit
open Enc (enc)
def lZ(w:World):aK:=fun b _=>b<w.heap.size
structure nX (P:Program) (t:TypeId) (α:Type) [Enc α]:Prop where
 cells:P.cellsOf t=Enc.sz α
 qG:0<Enc.sz α
 oS:∀ {H:Type} {enc0:TypeId×Value→H} {w:World} {fuel:Nat} {cs:List Value} {x:DataW H×List MemPlace},DataW.trod enc0 P w 0 (fun _=>true) true fuel t cs=some x→∃ a:α,ae w (lZ w) cB (enc a) cs
theorem XX{P:Program}{t:TypeId}(ht:P.underlying t=some (.int .i64))(hc:P.cellsOf t=1):nX P t Int :=
 ⟨hc,by decide,fun h=>by
  obtain ⟨n,rfl,_,hw⟩:=DataW.trod_int ht h;refine ⟨n,?_⟩;rw[rU,ae];simp only[Lit.wf,Z0,decide_eq_true_eq] at hw;exact ⟨rfl,hw.1,hw.2⟩⟩
theorem Ac{α:Type}[Enc α]{w:World}{D:aK}(c:Nat):∀ (n:Nat) (cs:List Value),cs.length=n*c→(∀ i,i<n→∃ a:α,ae w D cB (enc a) ((cs.drop (i*c)).take c))→∃ l:List α,l.length=n∧aC w D cB (l.map enc) cs
 |0,cs,hl,_=>⟨[],rfl,by simp only[Nat.zero_mul,List.length_eq_zero_iff] at hl;subst hl;simp[aC]⟩
 |n+1,cs,hl,h=>by
  obtain ⟨a,ha⟩:=h 0 (by omega);simp only[Nat.zero_mul,List.drop_zero] at ha;obtain ⟨l,h1,h2⟩:=Ac c n (cs.drop c) (by rw[List.length_drop,hl,Nat.succ_mul];omega) (fun i hi=>by
   obtain ⟨b,hb⟩:=h (i+1) (by omega);refine ⟨b,?_⟩;rw[List.drop_drop]
   rwa [Nat.succ_mul,Nat.add_comm] at hb)
  refine ⟨a::l,by simp[h1],?_⟩;simp only[Z3,aC];exact ⟨cs.take c,cs.drop c,(List.take_append_drop c cs).symm,ha,h2⟩
theorem ZC{H:Type}{enc0:TypeId×Value→H}{P:Program}{w:World}{dN:Nat}{spare:Nat→Bool}{held:Bool}{fuel n:Nat}{t e:TypeId}{cs:List Value}{x:DataW H×List MemPlace}(ht:P.underlying t=some (.array n e))(h:DataW.trod enc0 P w dN spare held fuel t cs=some x) :
  ∃ (xs:List (DataW H×List MemPlace)) (m:Nat),cs.length=P.cellsOf t∧xs.length=n∧∀ (i:Nat),i<n→DataW.trod enc0 P w dN spare held m e ((cs.drop (i*P.cellsOf e)).take (P.cellsOf e))=xs[i]?:=by
 cases fuel with
 |zero=>simp[DataW.trod] at h
 |succ m =>
  unfold DataW.trod at h;rw[ht] at h;split at h <;>simp_all
  obtain ⟨hl,xs,hp,hd⟩:=h;exact ⟨xs,by simpa using mapM_some_length hp,m,fun i hi=>mapM_some_get hp i i (by simp[hi])⟩
theorem XW{P:Program}{t e:TypeId}{n:Nat}{α:Type}[Enc α](ht:P.underlying t=some (.array n e))(he:nX P e α)(hc:P.cellsOf t=n*Enc.sz α)(hn:0<n):nX P t (en n α) :=
 ⟨hc,Nat.mul_pos hn he.qG,fun {H enc0 w fuel cs x} h=>by
  obtain ⟨xs,m,hl,hx,hp⟩:=ZC ht h;obtain ⟨l,h1,h2⟩:=Ac (α:=α) (w:=w) (D:=lZ w) (Enc.sz α) n cs (by rw[hl,hc]) (fun i hi=>by
   have h3:=hp i hi;rw[he.cells,zz2 (by omega)] at h3;exact he.oS h3)
  refine ⟨⟨l,h1⟩,?_⟩
  show ae w (lZ w) cB (.agg (l.map enc)) cs
  simp only[ae];exact h2⟩
theorem Gy(a:Addr)(i j:Nat):(a.add i).add j=a.add (i+j):=by
 unfold Addr.add;by_cases hi:i=0 <;>by_cases hj:j=0 <;>simp[hi,hj,Nat.add_assoc]
end Go.Abs
namespace Go.Abs
open Go Go.RowKit Go.ChangeShapes
open Enc (enc)
def ZV(P:Program)(t:TypeId)(l:List (TypeId×Nat)):Bool:=match P.underlying t with
 |some (.struct fs)=>fs.toList.map (fun f=>(f.type,f.offset))==l
 |_=>false
def BK(P:Program)(t:TypeId)(n:Nat)(e:TypeId):Bool:=match P.underlying t with
 |some (.array n' e')=>n'==n&&e'==e
 |_=>false
theorem VQ{P:Program}{t:TypeId}{n:Nat}{e:TypeId}(h:BK P t n e=true):P.underlying t=some (.array n e):=by
 unfold BK at h;split at h
 ·rename_i n' e' ht;simp only[Z0,beq_iff_eq] at h;rw[ht,h.1,h.2]
 ·cases h
theorem X6{H:Type}{enc0:TypeId×Value→H}{P:Program}{f:Func}{s:ChangeSpec}{apart jt handsOn again:Bool}{W W':World}{args:Array Value}{v:Value}{ds gs:List (DataW H)}{before pa pv:List MemPlace}
  (hW:DataW.Whole enc0 P f.params.toList s.vars apart W args.toList ds gs before)
  (hres:∀ (b:Nat) (sp:Nat→Bool) (hd:Bool),DataW.TrodAll enc0 P W' b sp hd f.resultTypes.toList (v.resultList f.resultTypes.size) (s.fn H (ds++gs)).results [])
  (hargs:∀ sp:Nat→Bool,(∀ p∈before,sp p.block=true)→DataW.TrodAll enc0 P W' 0 sp true f.params.toList args.toList (s.fn H (ds++gs)).args pa)
  (hvars:∀ sp:Nat→Bool,(∀ p∈before,sp p.block=true)→DataW.TrodVars enc0 P W' sp s.vars (s.fn H (ds++gs)).vars pv)
  (hps:before=pa++pv) (hb:Below W.heap.size W W')
  (hok:∀ (j:Nat) (t:TypeId) (r:Value),f.resultTypes[j]?=some t→(v.resultList f.resultTypes.size)[j]?=some r→Value.okWide P W' .any 0 t r) :
  s.post enc0 P f apart jt handsOn again W args v W':=by
 have hlt:∀ p∈before,p.block<W.heap.size:=fun p hp=>by simpa using hW.lt p hp
 have hold:∀ p∈before,(fun b=>decide (b<W.heap.size)) p.block=true:=fun p hp=>by simpa using hlt p hp
 refine ⟨ds,gs,before,[],pa,pv,hW,hres _ _ _,hargs _ hold,hvars _ hold,World.keptBut_mono (fun p hp=>⟨hp,?_⟩) (hb.frame (· ∈ before)),fun _ =>?_⟩
 ·rw[hps,zy0] at hp;exact Or.inr hp
 ·obtain ⟨_,_,_,_,_,hz,hn⟩:=hW;refine ⟨hok,_,_,([]++pa)++pv,⟨[]++pa,pv,trodAll_append (hargs _ (fun _ _=>rfl)) (hres _ _ _),hvars _ (fun _ _=>rfl),rfl,?_,?_⟩,?_⟩
  ·intro b off hp;have hp':MemPlace.cell b off∈before:=by rw[hps];simpa using hp
   rw[hb.frozen (p:=⟨b,off,none⟩) (hlt _ hp')];exact hz b off hp'
  ·intro ha;have:=hn ha;rw[hps] at this;simpa using this
  ·intro p hp _;rw[hps];simpa using hp
theorem Wd{P:Program}{f:FuncId}{fn:Func}{s:ChangeSpec}{H:Type}{enc0:TypeId×Value→H}{W:World}{ds gs:List (DataW H)}{before:List MemPlace}{xs:List I}{tb:TypeId}{v0 v1 v2:Value}{t0 t1 t2:TypeId}{d0 d1 d2:DataW H}{p0 p1 p2:List MemPlace}{again handsOn jt:Bool}
  (hl:laidOutB P=true) (hpar:fn.params.toList=[t0,t1,t2]) (hds:ds=[d0,d1,d2]) (hgs:gs=[]) (hbef:before=p0++p1++p2)
  (hvars:s.vars=[]) (hfn:s.fn H [d0,d1,d2] = { results:=[.lit (.bool true)],args:=[d0,d1,d2] }) (hres:fn.resultTypes = #[tb]) (htb:P.underlying tb=some .bool)
  (hW:DataW.Whole enc0 P fn.params.toList s.vars false W #[v0,v1,v2].toList ds gs before)
  (h0:DataW.Trod enc0 P W 0 (fun _=>true) true t0 v0 d0 p0) (h1:DataW.Trod enc0 P W 0 (fun _=>true) true t1 v1 d1 p1) (h2:DataW.Trod enc0 P W 0 (fun _=>true) true t2 v2 d2 p2)
  (hr:∀ t∈[t0,t1,t2],P.readableRec t=true∧t<P.types.size)
  (hctr:aS P f xs (enc true)) (hlaid:eG P W (fun _=>False)) (hv:al W (lZ W) cB xs [v0,v1,v2]) :
  Calls P f #[v0,v1,v2] W fun e W'=>∃ v,e=.returned v∧s.post enc0 P fn false jt handsOn again W #[v0,v1,v2] v W':=by
 subst hds hgs;refine (hctr.2 W (lZ W) [v0,v1,v2] hlaid (fun _ _ h=>h) hv).mono fun e W' ⟨v,D',he,hrv,hb,_,_⟩=>⟨v,he,?_⟩
 have hvb:v=.bool true:=kP hrv;subst hvb;have hlt:∀ x∈before,x.block<W.heap.size:=fun x hx=>by simpa using hW.lt x hx
 rw[hbef] at hlt;refine X6 (pa:=p0++(p1++p2)) (pv:=[]) hW (fun _ _ _ =>?_) (fun sp hsp =>?_) (fun _ _ =>?_) (by rw[hbef];simp) hb ?_
 ·simp only[zw1,hfn,hres];exact trodAll_mk1 (shut_bool htb true)
 ·simp only[zw1,hfn,hpar];rw[hbef] at hsp;have aT:∀ {t:TypeId} {v:Value} {d:DataW H} {p:List MemPlace},t∈[t0,t1,t2]→DataW.Trod enc0 P W 0 (fun _=>true) true t v d p→(∀ x∈p,x∈p0++p1++p2)→DataW.Trod enc0 P W' 0 sp true t v d p:=fun ht h hp =>
   WideElems.Trod_stays hl (hr _ ht).1 (hr _ ht).2 h (fun x hx=>hb.same (hlt x (hp x hx))) (fun x hx=>hsp x (hp x hx))
  exact trodAll_mk3 (aT (by simp) h0 fun x hx=>by simp[hx]) (aT (by simp) h1 fun x hx=>by simp[hx]) (aT (by simp) h2 fun x hx=>by simp[hx])
 ·simp only[zw1,hfn,hvars];rfl
 ·intro j t r hj hv';rw[hres] at hj hv'
  match j,hj,hv' with
  |0,hj,hv' =>
   simp[Value.resultList] at hj hv';subst hj;subst hv';simp[Value.okWide,htb,Cell.okWide,Cell.ok]
structure mK (P:Program) (t:TypeId) (α:Type) [Enc α] (B:α→Prop):Prop where
 cells:P.cellsOf t=Enc.sz α
 qG:0<Enc.sz α
 oS:∀ {H:Type} {enc0:TypeId×Value→H} {w:World} {fuel:Nat} {cs:List Value} {x:DataW H×List MemPlace},DataW.trod enc0 P w 0 (fun _=>true) true fuel t cs=some x→(∀ k∈x.1.weights P t,k≤reachBytes)→∃ a:α,B a∧ae w (lZ w) cB (enc a) cs
theorem nX.CI{P:Program}{t:TypeId}{α:Type}[Enc α](h:nX P t α):mK P t α fun _=>True:=⟨h.cells,h.qG,fun hx _=>by
 obtain ⟨a,ha⟩:=h.oS hx;exact ⟨a,trivial,ha⟩⟩
theorem FA{H:Type}{P:Program}{e:TypeId} : ∀ {l:List (DataW H)} {d:DataW H},d∈l→∀ n∈d.weights P e,n∈DataW.weightsAll P e l
 |d'::r,d,hd,n,hn=>by
  simp only[DataW.weightsAll,zy0];rcases zy8.1 hd with rfl | h
  ·exact .inl hn
  ·exact .inr (FA h n hn)
theorem XV{P:Program}{t e:TypeId}{α:Type}[Enc α]{B:α→Prop}(ht:P.underlying t=some (.slice e))(he:mK P e α B)(hc:P.cellsOf t=1):mK P t (List α) fun l=>(∀ a∈l,B a)∧l.length*P.bytesOf e≤reachBytes :=
 ⟨hc,by rw[Mi];exact Nat.one_pos,fun {H enc0 w fuel cs x} h hwt=>by
  rcases DataW.trod_slice ht h with ⟨rfl,_⟩ | ⟨a,len,cap,elems,rest,n,_,rfl,hxx,hb,hl,hm,hlen,hel,_⟩
  ·refine ⟨[],⟨by simp,by simp⟩,?_⟩;simp only[iG,zz6];rw[ae];exact ⟨none,0,rfl,Z4 _,by decide,.inl rfl,by simp⟩
  ·have hw1:∀ y∈elems,∀ k∈y.1.weights P e,k≤reachBytes:=fun y hy k hk=>by
    refine hwt k ?_;rw[hxx];simp only[DataW.weights,ht,zy8,zy0];exact .inr (.inl (FA (zy3.2 ⟨y,hy,rfl⟩) k hk))
   have hw2:len*P.bytesOf e≤reachBytes:=by
    have:=hwt ((elems.length+rest.length)*P.bytesOf e) (by rw[hxx];simp[DataW.weights,ht]);have h3:elems.length*P.bytesOf e≤(elems.length+rest.length)*P.bytesOf e:=Nat.mul_le_mul_right _ (by omega);rw[←hlen];omega
   have key:∀ k,k≤len→∃ (l:List α) (cs':List Value),l.length=k∧aC w (lZ w) cB (l.map enc) cs'∧cs'.length=k*Enc.sz α∧(∀ j v,cs'[j]?=some v→w.cell? (a.add j)=some v)∧∀ b∈l,B b:=by
    intro k
    induction k with
    |zero=>exact fun _=>⟨[],[],rfl,by simp[aC],by simp,by simp,by simp⟩
    |succ k ih =>
     intro hk;obtain ⟨l,cs',h1,h2,h3,h4,hB⟩:=ih (by omega);have h5:=hel k (by omega);have h6:k<elems.length:=by omega
     rw[zz2 h6] at h5;obtain ⟨ce,h7,h8⟩:=zx6.1 h5;obtain ⟨y,hyB,hy⟩:=he.oS h8 (hw1 _ (zw0 h6));rw[he.cells] at h7;obtain ⟨_,h9,h10⟩:=World.cells?_some h7;refine ⟨l++[y],cs'++ce,by simp[h1],?_,by rw[Z1,h3,h9,Nat.succ_mul],fun j v hj =>?_,fun b hb=>(zy0.1 hb).elim (hB b) fun h=>by rw[zy6.1 h];exact hyB⟩
     ·rw[zy7];refine jd _ _ _ _ h2 ?_;simp only[Z3,zz6,aC];exact ⟨ce,[],by simp,hy,rfl⟩
     ·rcases Nat.lt_or_ge j cs'.length with hlt | hge
      ·rw[zz9 hlt] at hj;exact h4 j v hj
      ·rw[zx5 hge] at hj;have hlt:j-cs'.length<Enc.sz α:=by
        have:=(Z7.1 hj).1;omega
       have:=h10 (j-cs'.length) hlt;rw[Gy,←h3,Nat.add_sub_cancel' hge] at this;rw[this];exact hj
   obtain ⟨l,cs',h1,h2,h3,h4,hB⟩:=key len (Z4 _);refine ⟨l,⟨hB,by rw[h1];exact hw2⟩,?_⟩;simp only[iG,ae,Z2];refine ⟨some a,cap,by rw[h1],by omega,hm,?_,GF l⟩;by_cases hz:len=0
   ·left;have:l=[]:=List.length_eq_zero_iff.1 (by omega);rw[this];rfl
   right
   have hpos:0<cs'.length:=by rw[h3];exact Nat.mul_pos (Nat.pos_of_ne_zero hz) he.qG
   have h0:=h4 0 cs'[0] (zz2 hpos);have hsp:a.spot=none:=by
    simp only[Addr.add,if_true] at h0;unfold World.cell? at h0;split at h0
    ·split at h0
     ·cases h0
     ·rename_i hs;cases hh:a.spot <;>simp_all
    ·cases h0
   have ha:∀ j,a.add j=⟨a.block,a.off+j,none⟩:=fun j=>by
    unfold Addr.add;split
    ·rename_i hj;subst hj;cases a;simp_all
    ·rfl
   refine ⟨a.block,a.off,cs',by cases a;simp_all,fun j v hj =>?_,h2⟩;have h5:=h4 j v hj;rw[ha] at h5;refine ⟨h5,?_⟩
   show (⟨a.block,a.off+j,none⟩:Addr).block<_
   exact World.block_lt_of_cell? w _ h5⟩
end Go.Abs
namespace Go.Abs
open Go Go.RowKit
open Enc (enc)
structure av where
 b:ByteArray
 deriving DecidableEq,Inhabited
instance:Enc av where
 enc s:=.aj s.b
 sz:=1
 aL:=.one
 gS:=false
 done _:=rfl
 size _:=by simp[I.size]
 iP _:=by simp[I.aL]
 agg _:=rfl
instance:Enc UInt8 where
 enc b:=.int .u8 b.toNat
 sz:=1
 aL:=.one
 gS:=false
 done _:=rfl
 size _:=by simp[I.size]
 iP _:=by simp[I.aL]
 agg _:=rfl
def av.l(s:av):List UInt8:=s.b.data.toList
def av.of(l:List UInt8):av:=⟨⟨l.toArray⟩⟩
theorem av.wk(s:av):av.of s.l=s:=by obtain ⟨⟨⟨l⟩⟩⟩:=s;rfl
theorem av.dG(l:List UInt8):(av.of l).l=l:=rfl
theorem av.Mx{s t:av}(h:s.l=t.l):s=t:=by rw[←av.wk s,←av.wk t,h]
theorem av.sV{s t:List UInt8} : av.of s=av.of t↔s=t:=⟨fun h=>by rw[←av.dG s,h,av.dG],fun h=>by rw[h]⟩
theorem av.size(s:av):s.b.size=s.l.length:=Lib.size_eq s.b
theorem xy(s t:ByteArray):(s.toList==t.toList)=decide ((⟨s⟩:av)=⟨t⟩):=by
 obtain ⟨⟨l⟩⟩:=s;obtain ⟨⟨m⟩⟩:=t;simp;by_cases h:l=m <;>simp[h]
def EK(a b:av):av:=⟨a.b++b.b⟩
theorem tC(s:av):enc s=I.aj s.b:=rfl
theorem Y3(a b:av)(h:a.l.length+b.l.length≤9223372036854775807):bL .add (enc a) (enc b)=some (enc (EK a b)):=by
 rw[←av.size,←av.size] at h;simp only[tC,bL,if_pos h,EK]
theorem w8(a b:av):bL .eql (enc a) (enc b)=some (.bool (decide (a=b))):=by
 simp only[tC,bL,xy]
theorem w9(a b:av):bL .neq (enc a) (enc b)=some (.bool (!decide (a=b))):=by
 simp only[tC,bL,xy]
theorem qR(a:av):mh (enc a)=some (.int .i64 a.l.length):=by
 simp only[tC,mh,av.size]
theorem ER(a:av){i:Nat}(h:i<a.l.length):ez .dJ [enc a,.int .i64 (i:Int)]=some (.int .u8 (a.l[i].toNat:Int)):=by
 show (if 0≤(i:Int) then (a.b.data.toList[(i:Int).toNat]?).map fun b=>I.int .u8 b.toNat else none)=_
 rw[if_pos (by omega),Int.toNat_natCast,zz2 (show i<a.b.data.toList.length from h)];rfl
theorem AP(s:ByteArray)(i j:Nat):(⟨s.extract i j⟩:av)=av.of ((s.data.toList.drop i).take (j-i)):=av.Mx (Lib.extract_data s i j)
theorem xb(a:av){i:Nat}(h2:i≤a.l.length):ez (.ss true false) [enc a,.int .i64 (i:Int)]=some (enc (av.of (a.l.drop i))):=by
 show (if 0≤(i:Int)∧(i:Int)≤a.b.size then some (I.aj (a.b.extract (i:Int).toNat a.b.size)) else none)=_
 rw[if_pos ⟨by omega,by rw[av.size];omega⟩,Int.toNat_natCast];refine (congrArg (fun s:av=>some (enc s)) (AP a.b i a.b.size)).trans ?_;rw[av.size,zx3 (by simp[av.l])];rfl
theorem qS(a:av){j:Nat}(h2:j≤a.l.length):ez (.ss false true) [enc a,.int .i64 (j:Int)]=some (enc (av.of (a.l.take j))):=by
 show (if 0≤(j:Int)∧(j:Int)≤a.b.size then some (I.aj (a.b.extract 0 (j:Int).toNat)) else none)=_
 rw[if_pos ⟨by omega,by rw[av.size];omega⟩,Int.toNat_natCast];exact congrArg (fun s:av=>some (enc s)) (AP a.b 0 j)
theorem EN(n:Int):gm 1 (some [.int .u8 n])=some (.slice 1 [.int .u8 n]):=by
 simp[gm,I.size,I.cu,I.bC]
theorem EM(A:ab)(n:Int):lj (cW A 1 (.slice 1 [.int .u8 n]))=some (enc (av.of [UInt8.ofNat n.toNat])):=rfl
theorem qT(b:UInt8):enc b=I.int .u8 (b.toNat:Int):=rfl
theorem EP(s:av):lK (enc s)=some (s.l.map enc):=rfl
theorem EJ{A:ab}{d:Nat}{k:ab→cg}{l:List UInt8}(hd:A.o d=none) :
  ∃ p:Nat→Prop,iv A (some d) k (some (l.map enc))=.any p fun m=>k ((A.aQ d (.box (.agg ((l++List.replicate m 0).map enc)))).aP (some d) (.view d [] 1 0 l.length)):=by
 refine ⟨fun m=>(l.map enc).length+m≤maxLen,?_⟩;have e:∀ m,(l++List.replicate m (0:UInt8)).map enc=l.map enc++List.replicate m (I.int .u8 0):=fun m=>by
  rw[zy7,List.map_replicate];rfl
 simp only[iv,hd,e,Z2]
theorem aY.eM{P:Program}{Y:Value→List I→List (Nat×ai)→cj→Prop}{K:ab→Prop}{ts:List (Nat×I)}{os:List (Nat×ai)}{d:Nat}{rest:List ay}{l:List UInt8}(hd:aA os d=none)
  (h:∀ m,aY P Y false K (ar rest (aq ((d,.view d [] 1 0 l.length)::ts) ((d,.box (.agg ((l++List.replicate m 0).map enc)))::os)))):aY P Y false K (iv (aq ts os) (some d) (ar rest) (some (l.map enc))):=by
 obtain ⟨p,e⟩:=EJ (A:=aq ts os) (k:=ar rest) (l:=l) hd;rw[e];exact .any rfl fun m _=>h m
theorem AT{A:ab}{n:Nat}{l q:List UInt8}(h:A.o n=some (.box (.agg ((l++q).map enc)))):bd true A (.view n [] 1 0 l.length)=some (enc l):=by
 have h1:bd true A (.view n [] 1 0 l.length)=jP 1 0 l.length (some ((l++q).map enc)):=by
  rw[vm,h];rfl
 have e:jP 1 0 l.length (some ((l++q).map enc))=some (enc ((l++q).take l.length)):=ox rfl;rw[h1,e,List.take_left]
theorem bQ.eM{P:Program}{Y:Value→List I→List (Nat×ai)→cj→Prop}{hs:List FuncId}{K:ab→Prop}{ts:List (Nat×I)}{os:List (Nat×ai)}{d:Nat}{rest:List ay}{l:List UInt8}(hd:aA os d=none)
  (h:∀ m,bQ P Y hs K (ar rest (aq ((d,.view d [] 1 0 l.length)::ts) ((d,.box (.agg ((l++List.replicate m 0).map enc)))::os)))):bQ P Y hs K (iv (aq ts os) (some d) (ar rest) (some (l.map enc))):=by
 obtain ⟨p,e⟩:=EJ (A:=aq ts os) (k:=ar rest) (l:=l) hd;rw[e];exact .any fun m _=>h m
theorem EO(a:av):b6 none (enc a)=true:=rfl
theorem bu :
  (∀ d rest A p xs,bo A d (.prim p xs) rest=cq (ez p (xs.map (af A))) (cF d rest A))∧(∀ d rest A x,bo A d (.b2s x) rest=cq (lj (cW A 1 (af A x))) (cF d rest A)) ∧
  (∀ b,ez (.nc b) [.cS]=some (.bool (!b)))∧(∀ b t v,ez (.nc b) [.iface t v]=some (.bool b))∧(type_of% @w8)∧(type_of% @w9)∧(type_of% @qR)∧(type_of% @EN)∧(type_of% @EM)∧(type_of% @EO)∧(∀ d rest A x,bo A d (.eM x) rest=iv A d (ar rest) (lK (af A x)))∧(type_of% @EP)∧(∀ a b,ez .min2 [.int .i64 a,.int .i64 b]=some (.int .i64 (if b<a then b else a))) ∧
  (∀ a b,bL .eql (.int .u8 a) (.int .u8 b)=some (.bool (a==b)))∧(∀ a b,bL .neq (.int .u8 a) (.int .u8 b)=some (.bool (a != b)))∧(∀ a b,bL .lss (.int .u8 a) (.int .u8 b)=some (.bool (decide (a<b))))∧(∀ a b,bL .gtr (.int .u8 a) (.int .u8 b)=some (.bool (decide (a>b)))) ∧
  (∀ a b,bL .leq (.int .u8 a) (.int .u8 b)=some (.bool (decide (a≤b))))∧(∀ a b,bL .geq (.int .u8 a) (.int .u8 b)=some (.bool (decide (a≥b))))∧(∀ a b,bL .sub (.int .u8 a) (.int .u8 b)=some (.int .u8 (IntKind.u8.wrap (a-b)))) :=
 ⟨fun _ _ _ _ _=>rfl,fun _ _ _ _=>rfl,fun _=>rfl,fun _ _ _=>rfl,w8,w9,qR,EN,EM,EO,fun _ _ _ _=>rfl,EP,fun _ _=>rfl,fun _ _=>rfl,fun _ _=>rfl,fun _ _=>rfl,fun _ _=>rfl,fun _ _=>rfl,fun _ _=>rfl,fun _ _=>rfl⟩
end Go.Abs
namespace Go.Abs
open Go
open Enc (enc)
def jr(c:UInt8)(hE:Bool):List UInt8→List (List UInt8)
 | []=>[[]]
 |b::l=>if b=c then (if hE then [b] else [])::jr c hE l else match jr c hE l with
  |h::t=>(b::h)::t
  | []=>[[b]]
theorem Lk(c:UInt8)(hE:Bool)(l:List UInt8):jr c hE l≠[]:=by
 cases l with
 |nil=>simp[jr]
 |cons b l =>
  simp only[jr];split
  ·simp
  ·split <;>simp
theorem Aq{c:UInt8}{hE:Bool} : ∀ {l:List UInt8},(∀ b∈l,b≠c)→jr c hE l=[l]
 | [],_=>rfl
 |b::l,h=>by
  simp only[jr,if_neg (h b (by simp)),Aq (l:=l) fun x hx=>h x (by simp[hx])]
theorem Ap{c:UInt8}{hE:Bool} : ∀ {x:List UInt8} (y:List UInt8),(∀ b∈x,b≠c)→jr c hE (x++c::y)=(x++if hE then [c] else [])::jr c hE y
 | [],y,_=>by cases hE <;>simp[jr]
 |b::x,y,h=>by
  simp only[Z8,jr,if_neg (h b (by simp)),Ap (x:=x) y fun z hz=>h z (by simp[hz])]
theorem As{u:Nat}(h:¬ u<10):Lib.decDigits u=Lib.decDigits (u / 10)++[UInt8.ofNat (48+u%10)]:=by
 rw[Lib.decDigits,dif_neg h]
theorem EZ{α:Type}[Enc α](A:ab){l:List α}{esz:Nat}{k:Nat}(hs:Enc.sz α=esz)(h:k≤l.length):jF A esz none (some (.int .i64 (k:Int))) none (enc l)=some (enc (l.take k)):=by
 simp only[jF,iG,hs,if_true,iQ,hG,Z2];rw[if_pos (by omega)];simp only[Option.isSome_none,Z6,false_and,if_false,Int.toNat_natCast,Int.toNat_zero,List.drop_zero];rw[List.map_take]
end Go.Abs
namespace Go.Abs
open Go Go.Shelf Go.Proofs
open Enc (enc)
theorem G0{w:World}{D:aK}{x y:av}{vs:List Value}(hv:al w D cB [enc x,enc y] vs):vs=[.string x.b,.string y.b]:=by
 have hv':al w D cB [.aj x.b,.aj y.b] vs:=hv;simp only[al] at hv';obtain ⟨v,rest,cs,rfl,h1,h2,v2,rest2,cs2,rfl,h3,h4,rfl⟩:=hv';rw[(gh (fK h1 h2)).1,(gh (fK h3 h4)).1]
theorem Lh{P:Program}{ρ:Ren}(au:Lays.n104 P ρ)(hc:dS P (ρ.f 104)=true)(s p:av):aS P (ρ.f 104) [enc s,enc p] (.tuple [enc (av.of (Lib.trimSuffix s.l p.l)),enc (Lib.hasSuffix s.l p.l)]):=by
 refine ⟨hc,fun w D vs hl hD hv =>?_⟩;have hsz:s.b.size≤maxLen:=by
  have hv':al w D cB [.aj s.b,.aj p.b] vs:=hv;simp only[al] at hv';obtain ⟨v,rest,cs,rfl,h1,h2,_⟩:=hv';exact (gh (fK h1 h2)).2
 rw[G0 hv];refine (Any.strings_CutSuffix au s.b p.b w (by unfold maxLen at hsz;omega)).mono ?_;rintro e w' ⟨rfl,rfl⟩;refine ⟨_,D,rfl,⟨[_,_],rfl,?_⟩,Go.RowKit.Below.refl _ w',hD,fun _ _ h _=>h⟩;simp only[al];refine ⟨_,_,[_],rfl,by simp[aZ,I.isAgg,enc];rfl,?_,_,_,[_],rfl,by simp[aZ,I.isAgg,enc];rfl,?_,rfl⟩
 ·show ae _ _ _ (.aj _) _
  simp only[ae];refine ⟨rfl,?_⟩
  show (Lib.trimSuffix s.l p.l).toArray.size≤maxLen
  have h1:(Lib.trimSuffix s.l p.l).length≤s.l.length:=by unfold Lib.trimSuffix;split <;>simp
  rw[av.size] at hsz;simp only[List.size_toArray];omega
 ·show ae _ _ _ (.bool _) _
  simp only[ae];rfl
def gP(T:TypeId)(l:List UInt8):I:=match Lib.atoiAll l with
 | .ok v=>.tuple [enc v,.cS]
 | .range=>.tuple [enc (Lib.atoiSat l),.iface T .any]
 | _ =>.tuple [enc (0:Int),.iface T .any]
theorem Lf {P : Program} {ρ : Ren} (au : LaysC.n172 P ρ) (hc : dS P (ρ.f 172) = true) (g1 : P.globalNamed "strconv.ErrSyntax" = some (ρ.g 15)) (g2 : P.globalNamed "strconv.ErrRange" = some (ρ.g 16)) {T : TypeId} (hT : ρ.t 168 = T) (s : av) (hs : s.l.length ≤ 281474976710656) : aS P (ρ.f 172) [enc s] (gP T s.l) := by
 refine ⟨hc,fun w D vs hl hD hv =>?_⟩;subst hT;have hv':al w D cB [.aj s.b] vs:=hv;simp only[al] at hv';obtain ⟨v,rest,cs,rfl,h1,h2,rfl⟩:=hv';rw[(gh (fK h1 h2)).1];rw[←av.size] at hs;obtain ⟨_, hv1, t1, p1, rfl⟩ := hl.r9 (n := "strconv.ErrSyntax") (k := .oq) (by simp [mX]) g1
 obtain ⟨_, hv2, t2, p2, rfl⟩ := hl.r9 (n := "strconv.ErrRange") (k := .oq) (by simp [mX]) g2
 have fail:∀ (n:Int) (w':World) (N:Nat),IntKind.i64.min≤n∧n≤IntKind.i64.max→Go.RowKit.Below w.heap.size w w' →
   ∃ v D',(Ending.returned (.tuple #[.int .i64 n,.iface (ρ.t 168) (.pointer (some ⟨N,0,none⟩))])=.returned v)∧aR w' D' cB (.tuple [enc n,.iface (ρ.t 168) .any]) v∧Go.RowKit.Below w.heap.size w w'∧(∀ b o,D' b o→b<w'.heap.size)∧∀ b o,D' b o→b<w.heap.size→D b o:=by
  intro n w' N hn hb;refine ⟨_,D,rfl,⟨[_,_],rfl,?_⟩,hb,fun b o hd=>zx9 (hD b o hd) hb.size,fun _ _ h _=>h⟩;simp only[al];refine ⟨_,_,[_],rfl,by simp[aZ,I.isAgg,enc];rfl,?_,_,_,[_],rfl,by simp[aZ,I.isAgg];rfl,?_,rfl⟩
  ·show ae _ _ _ (.int .i64 n) _
   simp only[ae,true_and];exact hn
  ·simp only[ae];exact ⟨_,[_],rfl,by simp[aZ,I.isAgg];rfl,_,rfl,rfl⟩
 have hmin:IntKind.i64.min=-9223372036854775808:=by decide
 have hmax:IntKind.i64.max=9223372036854775807:=by decide
 cases hr:Lib.atoiAll s.b.data.toList with
 |ok n =>
  refine (Any.strconv_Atoi_ok au s.b (by omega) n hr w).mono ?_;rintro e w' ⟨rfl,hw⟩;have hb:Go.RowKit.Below w.heap.size w w':=by
   rcases hw with rfl | ⟨t,rfl⟩
   ·exact Go.RowKit.Below.refl _ _
   ·exact Lib.bytesWorld_below _ _ _
  have hn:=Lib.atoiAll_bounds hr;have e0:gP (ρ.t 168) s.l=.tuple [enc n,.cS]:=by
   show gP (ρ.t 168) s.b.data.toList=_
   simp only[gP,hr]
  rw[e0];refine ⟨_,D,rfl,⟨[_,_],rfl,?_⟩,hb,fun b o hd=>zx9 (hD b o hd) hb.size,fun _ _ h _=>h⟩;simp only[al];refine ⟨_,_,[_],rfl,by simp[aZ,I.isAgg,enc];rfl,?_,_,_,[_],rfl,by simp[aZ,I.isAgg];rfl,?_,rfl⟩
  ·show ae _ _ _ (.int .i64 n) _
   simp only[ae,true_and];rw[hmin,hmax];omega
  ·simp only[ae]
 |range =>
  have e0:gP (ρ.t 168) s.l=.tuple [enc (Lib.atoiSat s.l),.iface (ρ.t 168) .any]:=by
   show gP (ρ.t 168) s.b.data.toList=_
   simp only[gP,hr];rfl
  rw[e0];refine (Any.strconv_Atoi_range_var au s.b hs hr t2 p2 w hv2).mono ?_;rintro e w' ⟨N,rfl,_,_,hb⟩;have hn:=Lib.atoiSat_bounds s.b.data.toList;exact fail _ w' N (by rw[hmin,hmax];exact hn) hb
 | _ =>
  have e0:gP (ρ.t 168) s.l=.tuple [enc (0:Int),.iface (ρ.t 168) .any]:=by
   show gP (ρ.t 168) s.b.data.toList=_
   simp only[gP,hr]
  rw[e0];refine (Any.strconv_Atoi_syntax_var au s.b hs hr t1 p1 w hv1).mono ?_;rintro e w' ⟨N,rfl,_,_,hb⟩;exact fail 0 w' N (by rw[hmin,hmax];omega) hb
end Go.Abs
namespace Go.Abs
open Go Go.Shelf Go.Proofs
open Enc (enc)
def vL(n:Int):av:=av.of (Lib.itoa n)
open Go.Sort Go.RowKit in
theorem uA(w:World)(k:Nat)(os:Array Obj):Go.RowKit.Below w.heap.size w (grow (w.drewN k) os) :=
 ⟨rfl,rfl,rfl,by simp,fun i hi=>by rw[heap_grow_old _ _ (by simpa using hi)];rfl⟩
theorem Lj{P:Program}{ρ:Ren}(au:LaysM.n171 P ρ)(hc:dS P (ρ.f 171)=true){g:Nat}(hg:P.globalNamed su=some g)(n:Int):aS P (ρ.f 171) [enc n] (enc (vL n)):=by
 refine ⟨hc,fun w D vs hl hD hv =>?_⟩;have hv':al w D cB [.int .i64 n] vs:=hv;simp only[al] at hv';obtain ⟨v,rest,cs,rfl,h1,h2,rfl⟩:=hv';obtain ⟨rfl,h3,h4⟩:=dq (fK h1 h2);have h3':-9223372036854775808≤n:=h3;have h4':n≤9223372036854775807:=h4;obtain ⟨_,htab,rfl⟩:=hl.r9 (n:=su) (k:=.tc) (by simp[mX]) hg;refine (Any.strconv_Itoa au n h3' h4' w htab).mono ?_;rintro e w' ⟨rfl,k,os,rfl⟩;refine ⟨_,D,rfl,⟨[.string ⟨(Lib.itoa n).toArray⟩],by simp[aZ,I.isAgg,enc],?_⟩,uA w k os,fun b o hd=>zx9 (hD b o hd) (uA w k os).size,fun _ _ h _=>h⟩;have hlen:=Lib.itoa_length_le n h3' h4'
 show ae _ _ _ (.aj _) _
 simp only[ae];refine ⟨rfl,?_⟩
 show (Lib.itoa n).toArray.size≤maxLen
 simp only[List.size_toArray,maxLen];omega
theorem xw{w:World}{D:aK}{s:av}{p:List I}{vs:List Value}(hv:al w D cB (enc s::p) vs):∃ rest,vs=.string s.b::rest∧s.b.size≤maxLen∧al w D cB p rest:=by
 have hv':al w D cB (.aj s.b::p) vs:=hv;simp only[al] at hv';obtain ⟨v,rest,cs,rfl,h1,h2,h3⟩:=hv';obtain ⟨rfl,h4⟩:=gh (fK h1 h2);exact ⟨rest,rfl,h4,h3⟩
theorem EE{w:World}{D:aK}{E:aN}{l:List UInt8}(h:l.length≤maxLen):aR w D E (enc (av.of l)) (.string ⟨l.toArray⟩):=by
 refine ⟨[.string ⟨l.toArray⟩],by simp[aZ,I.isAgg,enc,av.of],?_⟩
 show ae _ _ _ (.aj _) _
 simp only[ae];exact ⟨rfl,by show l.toArray.size≤maxLen;simpa using h⟩
theorem Li{P:Program}{ρ:Ren}(au:Lays.n137 P ρ)(hc:dS P (ρ.f 137)=true)(s:av)(c:UInt8):aS P (ρ.f 137) [enc s,.int .u8 c.toNat] (enc (Lib.indexByte s.l c)):=by
 refine ⟨hc,fun w D vs hl hD hv =>?_⟩;obtain ⟨rest,rfl,hsz,hv2⟩:=xw hv;simp only[al] at hv2;obtain ⟨v,rest2,cs,rfl,h1,h2,rfl⟩:=hv2;obtain ⟨rfl,_⟩:=dq (fK h1 h2);have key:=Any.strings_IndexByte au s.b (c.toNat:Int) w;have hcc:((c.toNat:Int)).toNat.toUInt8=c:=by simp
 rw[hcc] at key;refine Calls.mono key ?_;rintro e w' ⟨rfl,rfl⟩;refine ⟨_,D,rfl,⟨[_],by simp[aZ,I.isAgg,enc];rfl,?_⟩,Go.RowKit.Below.refl _ w',hD,fun _ _ h _=>h⟩
 show ae _ _ _ (.int .i64 (Lib.indexByte s.l c)) _
 simp only[ae];refine ⟨rfl,?_⟩;have g1:=Lib.indexByte_ge s.l c;have g2:∀ l:List UInt8,Lib.indexByte l c≤l.length:=by
  intro l
  induction l with
  |nil=>simp[Lib.indexByte]
  |cons b l ih =>
   unfold Lib.indexByte
   (repeat' split) <;>simp only[zx1] <;>omega
 have g3:=g2 s.l;rw[av.size] at hsz;have hmin:IntKind.i64.min=-9223372036854775808:=by decide
 have hmax:IntKind.i64.max=9223372036854775807:=by decide
 unfold maxLen at hsz;rw[hmin,hmax];omega
theorem Lg{P:Program}{ρ:Ren}(au:LaysM.n316 P ρ)(hc:dS P (ρ.f 316)=true)(s:av)(hs:s.l.length≤281474976710656):aS P (ρ.f 316) [enc s] (enc s):=by
 refine ⟨hc,fun w D vs hl hD hv =>?_⟩;obtain ⟨rest,rfl,hsz,hv2⟩:=xw hv;simp only[al] at hv2;subst hv2;refine (Any.stringslite_Clone au s.b w (by rw[av.size];exact hs)).mono ?_;rintro e w' ⟨rfl,hb⟩;refine ⟨_,D,rfl,⟨[_],by simp[aZ,I.isAgg,enc];rfl,?_⟩,hb,fun b o hd=>zx9 (hD b o hd) hb.size,fun _ _ h _=>h⟩
 show ae _ _ _ (.aj s.b) _
 simp only[ae,true_and];exact hsz
end Go.Abs
namespace Go.Abs
open Go
theorem Au:∀ (k n:Nat),n<10^(k+1)→(Lib.decDigits n).length≤k+1
 |0,n,h=>by rw[Lib.decDigits_one (by omega)];simp
 |k+1,n,h=>by
  by_cases q:n<10
  ·rw[Lib.decDigits_one q];simp
  ·rw[As q,Z1];have:=Au k (n / 10) (by rw[Nat.pow_succ] at h;omega);simp only[zx1,zy9];omega
theorem qh{k:Nat}{n:Int}(h:0≤n∧n<((10^(k+1):Nat):Int)):(Lib.itoa n).length≤k+1:=by
 obtain ⟨m,rfl⟩:=zz7 h.1;rw[Lib.itoa_nonneg];exact Au k m (by omega)
end Go.Abs
namespace Go.Abs
open Go Go.RowKit
open Enc (enc)
def sr:Option Nat→Code
 |none=>.ret
 |some id=>.exit id
def vc:Option Nat→Exit
 |none=>.ret
 |some id=>.exit id
def py(o:Obj)(A:ab)(os:List (Nat×ai)):Prop:=∀ n x,aA (bU o os) n=some x→A.o n=some x∧x.only (ao (bU o os))=true∧x.er=true
def Ew(o:Obj)(In:List (Nat×ai)→Prop)(Ix:Option Nat→List (Nat×ai)→Prop):Exit→ab→Prop
 | .normal,A=>∃ os,py o A os∧In os
 | .ret,A=>∃ os,py o A os∧Ix none os
 | .exit id,A=>∃ os,py o A os∧Ix (some id) os
 |_,_=>False
section
variable {c:ct} {Q:Exit→ab→Prop}
theorem VJ{o:Obj}{A:ab}{os:List (Nat×ai)}(h:py o A os)(o':Obj):∀ n x,aA (bU o' os) n=some x→(A.aQ 1999999 (.da o')).o n=some x∧x.only (ao (bU o' os))=true∧x.er=true:=fun n x hx=>by
 have e:ao (bU o' os)=ao (bU o os):=by funext m;rw[jU,jU]
 rw[e];by_cases hn:n=1999999
 ·subst hn;rw[oM,if_pos rfl,v6] at hx;subst hx;exact ⟨by simp[ab.aQ],rfl,rfl⟩
 ·rw[oM,if_neg hn] at hx;obtain ⟨h1,h2⟩:=h n x (by rw[oM,if_neg hn];exact hx);exact ⟨by simp only[ab.aQ,if_neg hn];exact h1,h2⟩
end
mutual
theorem nt{ρ:Nat→Nat}(h:∀ n,ρ n=n):∀ x:I,x.aO ρ=x
 | .agg fs | .tuple fs=>by simp only[I.aO];rw[lH h fs]
 | .slice _ es=>by simp only[I.aO];rw[lH h es]
 | .ref x=>by simp only[I.aO];rw[nt h x]
 | .func _ caps=>by simp only[I.aO];rw[lH h caps]
 | .iface _ v=>by simp only[I.aO];rw[nt h v]
 | .ptr _ _ | .own _ _ | .view _ _ _ _ _ | .mref _ | .cX _=>by simp only[I.aO,h]
 | .c6 ks vs=>by simp only[I.aO];rw[lH h ks,lH h vs]
 | .bool _ | .int _ _ | .aj _ | .nilp | .de | .cS | .any | .raw _ | .nils _ | .c0 _ | .undef | .cY=>by simp only[I.aO]
theorem lH{ρ:Nat→Nat}(h:∀ n,ρ n=n):∀ xs:List I,I.cV ρ xs=xs
 | []=>rfl
 |x::xs=>by simp only[I.cV];rw[nt h x,lH h xs]
end
theorem ai.nt{ρ:Nat→Nat}(h:∀ n,ρ n=n):∀ x:ai,x.aO ρ=x
 | .box x=>by simp only[ai.aO,Abs.nt h]
 | .bH _ _ es=>by simp only[ai.aO,lH h]
 | .da _=>rfl
 | .dK _ _=>rfl
 | .cm _ _=>by simp only[ai.aO,lH h]
 | .it _ _ _ _=>by simp only[ai.aO,lH h]
theorem YF(os:List (Nat×ai)):cO [] os=os:=by
 simp only[cO];have:(fun q:Nat×ai=>(bh [] q.1,q.2.aO (bh [])))=id:=by
  funext q
  rw[ai.nt (ρ:=bh []) (fun n=>rfl)];rfl
 rw[this,List.map_id]
theorem B7(a b:List (Nat×ai))(n:Nat):aA (a++b) n=match aA a n with
  |some x=>some x
  |none=>aA b n:=by
 induction a with
 |nil=>rfl
 |cons q a ih =>
  obtain ⟨k,v⟩:=q;simp only[Z8,aA];split
  ·rfl
  ·exact ih
theorem fH.none{os os':List (Nat×ai)}(h:fH os os'){n:Nat}(hn:n<1000000):aA os' n=none:=by
 cases hx:aA os' n with
 |none=>rfl
 |some x =>
  have h1:ao os' n=true:=by simp[ao,hx]
  rw[h.same] at h1;exact absurd (h.me n h1) (by omega)
theorem bg.slots{ts ts':List (Nat×I)}{os os':List (Nat×ai)}(h1:bK ts ts')(h2:∀ n,aA os n=aA os' n):bg (aq ts os) (aq ts' os'):=by
 have e:aq ts os=aq ts os':=by
  simp only[aq];congr 1;funext n;exact h2 n
 rw[e];rintro c a w ⟨D,E,hs⟩;refine ⟨D,E,hs.sz,hs.dT,fun t =>?_,hs.db,hs.cH,hs.cN,hs.bB,hs.cw,hs.dp,hs.ee,hs.cz,hs.eF,hs.fe⟩;rcases xz h1 t with h | h
 ·simp only[aq];rw[h];simp[aR]
 ·have:=hs.dv t;simp only[aq] at *;rw[h];exact this
theorem yC{os osk os2 ow:List (Nat×ai)}{ts:List (Nat×I)}(h1:fH os osk)(h2:fH os os2)(how:∀ m,ao ow m=true→m<1000000):aq ts (cO [] os2++(ow++osk))=aq ts (ow++os2):=by
 simp only[aq,YF]
 congr 1
 funext n
 simp only[B7];cases hw:aA ow n with
 |none =>
  simp only;cases h3:aA os2 n with
  |some x=>rfl
  |none =>
   simp only;cases h4:aA osk n with
   |none=>rfl
   |some x =>
    have h5:ao osk n=true:=by simp[ao,h4]
    rw[h1.same,←h2.same] at h5;simp[ao,h3] at h5
 |some x =>
  simp only;rw[h2.none (how n (by simp[ao,hw]))]
theorem eP.jR{os osk ow:List (Nat×ai)}(h1:fH os osk)(how:∀ m,ao ow m=true→m<1000000):eP [] osk (ow++osk):=by
 refine ⟨fun m x hx =>?_,fun m m' _ _ h=>h⟩;have hm:ao osk m=true:=by simp[ao,hx]
 have hg:=h1.me m (by rw[←h1.same];exact hm);obtain ⟨k1,k2⟩:=h1.ok m x hx;refine ⟨?_,k1,k2⟩;rw[ai.nt (ρ:=bh []) (fun n=>rfl)];simp only[bh,B7];cases hw:aA ow m with
 |none=>exact hx
 |some y=>have:=how m (by simp[ao,hw]);omega
theorem dh.jR{os osk os2 os0:List (Nat×ai)}{r:I}(h1:fH os osk)(h2:fH os os2)(hr:r.bC=true):dh false [] osk os0 r os2:=by
 refine ⟨fun m x hx=>⟨(h2.ok m x hx).1,(h2.ok m x hx).2,fun h=>by cases h⟩,fun m m' _ _ h=>h,fun m hm=>by rw[h2.same,←h1.same];exact hm,fun m h3 h4 =>?_,mq _ r hr,fun h=>by cases h⟩;rw[h2.same,←h1.same,h4] at h3;cases h3
theorem aY.ZN{P:Program}{Y:Value→List I→List (Nat×ai)→cj→Prop}{K:ab→Prop}{v:Value}{vs:List I}{dst:Option Nat}{rest:List ay}{ts:List (Nat×I)}{os osk ow:List (Nat×ai)}{In Ix:List (Nat×ai)→Prop}
  (hY:Y v vs osk (fun r os2=>(r=.bool true∧In os2)∨(r=.bool false∧Ix os2))) (hk:fH os osk) (hi:∀ os',In os'→fH os os') (hx:∀ os',Ix os'→fH os os') (hcl:I.cu vs=true) (how:∀ m,ao ow m=true→m<1000000)
  (h1:∀ os2,In os2→aY P Y false K (ar rest ((aq ts (ow++os2)).aP dst (.bool true)))) (h2:∀ os2,Ix os2→aY P Y false K (ar rest ((aq ts (ow++os2)).aP dst (.bool false)))) :
  aY P Y false K (.lu v vs dst rest (aq ts (ow++osk))):=by
 refine .tU osk vs _ rfl hY (eP.jR hk how) (yx vs hcl) ?_ ?_
 ·rintro r os' (⟨rfl,h⟩ | ⟨rfl,h⟩)
  ·exact dh.jR hk (hi _ h) rfl
  ·exact dh.jR hk (hx _ h) rfl
 ·rintro r os' (⟨rfl,h⟩ | ⟨rfl,h⟩)
  ·rw[yC hk (hi _ h) how];exact h1 os' h
  ·rw[yC hk (hx _ h) how];exact h2 os' h
theorem IU(A:ab)(d:Option Nat)(args:List I)(rest:List ay)(v:Value):pQ A d args rest (.raw v)=.lu v args d rest A:=rfl
end Go.Abs
namespace Go.Proofs.YtoffnnjbplgnaaaGreatDoor
open Go Go.Abs
open Go.Abs.Enc (enc)
structure Item where
 aJ:Int
 no:Int
 deriving DecidableEq,Inhabited
instance:Enc Item where
 enc x:=.agg [.int .i64 x.aJ,.int .i64 x.no]
 sz:=2
 aL:=.eK [.one,.one]
 gS:=true
 done _:=rfl
 size _:=by simp[I.size,I.sizes]
 iP _:=by simp[I.aL,I.cK]
 agg _:=rfl
structure ah where
 aJ:Int
 no:Int
 kind:Int
 dY:Int
 known:Int
 fo:Int
 fE:Int
 text:List UInt8
 deriving DecidableEq,Inhabited
def ah.bf(r:ah):Item:=⟨r.aJ,r.no⟩
def ah.fS(r:ah):Item:=⟨r.fo,r.fE⟩
instance:Enc ah where
 enc r:=.agg [enc r.bf,.int .i64 r.kind,.int .i64 r.dY,.int .i64 r.known,enc r.fS,enc (av.of r.text)]
 sz:=8
 aL:=.eK [.eK [.one,.one],.one,.one,.one,.eK [.one,.one],.one]
 gS:=true
 done e:=by simp only[I.done,I.iY,Enc.done,Bool.and_self]
 size e:=by simp only[I.size,I.sizes,ma];rfl
 iP e:=by simp only[I.aL,I.cK,eJ];rfl
 agg _:=rfl
structure dk where
 bS:List UInt8
 eB:List UInt8
 deriving DecidableEq,Inhabited
instance:Enc dk where
 enc r:=.agg [enc (av.of r.bS),enc (av.of r.eB)]
 sz:=2
 aL:=.eK [.one,.one]
 gS:=true
 done e:=by simp only[I.done,I.iY,Enc.done,Bool.and_self]
 size e:=by simp only[I.size,I.sizes,ma];rfl
 iP e:=by simp only[I.aL,I.cK,eJ];rfl
 agg _:=rfl
structure df where
 dw:dk
 copy:dk
 deriving DecidableEq,Inhabited
instance:Enc df where
 enc r:=.agg [enc r.dw,enc r.copy]
 sz:=4
 aL:=.eK [.eK [.one,.one],.eK [.one,.one]]
 gS:=true
 done e:=by simp only[I.done,I.iY,Enc.done,Bool.and_self]
 size e:=by simp only[I.size,I.sizes,ma];rfl
 iP e:=by simp only[I.aL,I.cK,eJ];rfl
 agg _:=rfl
structure di where
 l:List ah
 deriving DecidableEq,Inhabited
instance:Enc di where
 enc b:=.agg [enc b.l]
 sz:=1
 aL:=.eK [.one]
 gS:=true
 done e:=by simp only[I.done,I.iY,Enc.done,Bool.and_self]
 size e:=by simp only[I.size,I.sizes,ma];rfl
 iP e:=by simp only[I.aL,I.cK,eJ];rfl
 agg _:=rfl
theorem qA{fs:List I}{f off:Nat}{v:I}(h1:f<fs.length)(h:I.sizes (fs.take f)=off):gf fs f off v=some v:=by simp[gf,h,h1]
theorem Mh:Enc.sz Item=2:=rfl
theorem Mk:Enc.sz av=1:=rfl
theorem Mj:Enc.sz dk=2:=rfl
theorem Cx(x:I)(fs:List I)(v:I):gf (x::fs) 0 0 v=some v:=qA (by simp) (by simp[I.sizes])
theorem Cu(a b:Item)(n1 n2 n3:Int)(s:av)(v:I) :
  (gf [enc a,.int .i64 n1,.int .i64 n2,.int .i64 n3,enc b,enc s] 1 2 v=some v)∧(gf [enc a,.int .i64 n1,.int .i64 n2,.int .i64 n3,enc b,enc s] 2 3 v=some v)∧(gf [enc a,.int .i64 n1,.int .i64 n2,.int .i64 n3,enc b,enc s] 3 4 v=some v) ∧
  (gf [enc a,.int .i64 n1,.int .i64 n2,.int .i64 n3,enc b,enc s] 4 5 v=some v)∧(gf [enc a,.int .i64 n1,.int .i64 n2,.int .i64 n3,enc b,enc s] 5 7 v=some v):=by
 refine ⟨?_,?_,?_,?_,?_⟩ <;>refine qA (t8 rfl) ?_ <;>simp[I.sizes,I.size,ma,Mh]
theorem Ct(n1 n2:Int)(v:I):gf [.int .i64 n1,.int .i64 n2] 1 1 v=some v:=qA (t8 rfl) (by simp[I.sizes,I.size])
theorem Cw(a b:av)(v:I):gf [enc a,enc b] 1 1 v=some v:=qA (t8 rfl) (by simp[I.sizes,ma,Mk])
theorem Cv(a b:dk)(v:I):gf [enc a,enc b] 1 2 v=some v:=qA (t8 rfl) (by simp[I.sizes,ma,Mj])
theorem Fx :
  (∀ x:Item,(enc x).dc=some [.int .i64 x.aJ,.int .i64 x.no])∧(∀ r:ah,(enc r).dc=some [enc r.bf,.int .i64 r.kind,.int .i64 r.dY,.int .i64 r.known,enc r.fS,enc (av.of r.text)])∧(∀ r:dk,(enc r).dc=some [enc (av.of r.bS),enc (av.of r.eB)]) ∧
  (∀ r:df,(enc r).dc=some [enc r.dw,enc r.copy])∧(∀ b:di,(enc b).dc=some [enc b.l])∧(type_of% @Cx)∧(type_of% @Cu)∧(type_of% @Ct)∧(type_of% @Cw)∧(type_of% @Cv) ∧
  (∀ x:Item,b6 (some 2) (enc x)=true)∧(∀ x:ah,b6 (some 8) (enc x)=true)∧(∀ x:dk,b6 (some 2) (enc x)=true)∧(∀ x:df,b6 (some 4) (enc x)=true)∧(∀ x:di,b6 (some 1) (enc x)=true)∧(∀ x:av,b6 none (enc x)=true)∧(∀ x:List ah,b6 none (enc x)=true) ∧
  (∀ r:ah,r.bf.aJ=r.aJ)∧(∀ r:ah,r.bf.no=r.no)∧(∀ r:ah,r.fS.aJ=r.fo)∧(∀ r:ah,r.fS.no=r.fE) ∧
  (∀ (fs:List I) x,(x::fs)[0]?=some x)∧(∀ (fs:List I) x n,(x::fs)[n+1]?=fs[n]?)∧(∀ (fs:List I) x,(x::fs)[1]?=fs[0]?)∧(∀ (fs:List I) x,(x::fs)[2]?=fs[1]?)∧(∀ (fs:List I) x,(x::fs)[3]?=fs[2]?)∧(∀ (fs:List I) x,(x::fs)[4]?=fs[3]?)∧(∀ (fs:List I) x,(x::fs)[5]?=fs[4]?) :=
 ⟨fun _=>rfl,fun _=>rfl,fun _=>rfl,fun _=>rfl,fun _=>rfl,Cx,Cu,Ct,Cw,Cv,fun _=>by rw[hZ];rfl,fun _=>by rw[hZ];rfl,fun _=>by rw[hZ];rfl,fun _=>by rw[hZ];rfl,fun _=>by rw[hZ];rfl,fun _=>rfl,fun _=>rfl,
  fun _=>rfl,fun _=>rfl,fun _=>rfl,fun _=>rfl,fun _ _=>rfl,fun _ _ _=>rfl,fun _ _=>rfl,fun _ _=>rfl,fun _ _=>rfl,fun _ _=>rfl,fun _ _=>rfl⟩
theorem u7(x y:Item):b9 (.aT [.i .i64,.i .i64]) (enc x) (enc y)=some (decide (x=y)):=by
 show b9 (.aT [.i .i64,.i .i64]) (.agg [.int .i64 x.aJ,.int .i64 x.no]) (.agg [.int .i64 y.aJ,.int .i64 y.no])=_
 have:x=y↔x.aJ=y.aJ∧x.no=y.no:=by cases x;cases y;simp
 simp[b9,gC,iD,this];rfl
theorem AH(x y:av):b9 .s (enc x) (enc y)=some (decide (x=y)):=by
 show b9 .s (.aj x.b) (.aj y.b)=_
 simp only[b9];exact congrArg some (xy _ _)
theorem AF(x y:ah):b9 (.aT [.aT [.i .i64,.i .i64],.i .i64,.i .i64,.i .i64,.aT [.i .i64,.i .i64],.s]) (enc x) (enc y)=some (decide (x=y)):=by
 show b9 (.aT [.aT [.i .i64,.i .i64],.i .i64,.i .i64,.i .i64,.aT [.i .i64,.i .i64],.s]) (.agg [enc x.bf,.int .i64 x.kind,.int .i64 x.dY,.int .i64 x.known,enc x.fS,enc (av.of x.text)]) (.agg [enc y.bf,.int .i64 y.kind,.int .i64 y.dY,.int .i64 y.known,enc y.fS,enc (av.of y.text)])=_
 have:x=y↔x.bf=y.bf∧x.kind=y.kind∧x.dY=y.dY∧x.known=y.known∧x.fS=y.fS∧x.text=y.text:=by cases x;cases y;simp[ah.bf,ah.fS,and_assoc]
 rw[b9];simp only[gC,u7,AH,av.sV];simp[b9,iD,this];rfl
theorem u9(x y:dk):b9 (.aT [.s,.s]) (enc x) (enc y)=some (decide (x=y)):=by
 show b9 (.aT [.s,.s]) (.agg [enc (av.of x.bS),enc (av.of x.eB)]) (.agg [enc (av.of y.bS),enc (av.of y.eB)])=_
 have:x=y↔x.bS=y.bS∧x.eB=y.eB:=by cases x;cases y;simp
 rw[b9];simp only[gC,AH,av.sV];simp[iD,this]
theorem AG(x y:df):b9 (.aT [.aT [.s,.s],.aT [.s,.s]]) (enc x) (enc y)=some (decide (x=y)):=by
 show b9 (.aT [.aT [.s,.s],.aT [.s,.s]]) (.agg [enc x.dw,enc x.copy]) (.agg [enc y.dw,enc y.copy])=_
 have:x=y↔x.dw=y.dw∧x.copy=y.copy:=by cases x;cases y;simp
 rw[b9];simp only[gC,u9];simp[iD,this]
theorem CO:(∀ r:ah,(enc r).at [0,0]=some (.int .i64 r.aJ))∧(∀ r:ah,(enc r).at [0,1]=some (.int .i64 r.no))∧(∀ r:ah,(enc r).at [4,0]=some (.int .i64 r.fo))∧(∀ r:ah,(enc r).at [4,1]=some (.int .i64 r.fE))∧(∀ zs,fF zs []=some zs) ∧
  (∀ (a b:Nat) (l:List Nat),[a]++(b::l)=a::b::l)∧(∀ (a b c:Nat) (l:List Nat),[a,b]++(c::l)=a::b::c::l) :=
 ⟨fun _=>rfl,fun _=>rfl,fun _=>rfl,fun _=>rfl,fun _=>rfl,fun _ _ _=>rfl,fun _ _ _ _=>rfl⟩
theorem aD:(type_of% @CO)∧(type_of% @Fx)∧(∀ {α:Type} [Enc α] (aI:Bool) (A:ab) (x:α),bd aI A (enc x)=some (enc x))∧(∀ {α:Type} [Enc α] (x:α),(enc x).cC=true)∧(type_of% @u7)∧(type_of% @AF)∧(type_of% @u9)∧(type_of% @AG)∧(type_of% @Ad)∧(type_of% @ji)∧(type_of% @ba) :=
 ⟨CO,Fx,@js,@eQ,u7,AF,u9,AG,Ad,ji,ba⟩
theorem e9{i n:Nat}(h:i<n):decide ((i:Int)<(n:Int))=true:=by simp;omega
theorem fB{i n:Nat}(h:¬ i<n):decide ((i:Int)<(n:Int))=false:=by simp;omega
theorem eO{i:Nat}(h:i<9223372036854775807):IntKind.i64.wrap ((i:Int)+1)=((i+1:Nat):Int):=by rw[dX _ (by omega) (by omega)];rfl
def ew(lo hi n:Int):Bool:=decide (lo≤n)&&decide (n≤hi)
theorem mE(n lo hi:Int):aS Tryz.prog 128 [enc n,enc lo,enc hi] (enc (ew lo hi n)):=by
 refine aS.bT Tryz.func128 HL I4 Kl (t8 rfl) (fun hwf W0 bI E1 =>?_);simp only[yV,C4,bF,Z5,Nat.reduceAdd];have R:=aD
 repeat' ((first |(with_reducible refine .guard (fun hb =>?_) (fun hb =>?_) <;>try simp only[hb])|refine U.aG (by decide +kernel) rfl fun K hK =>?_|(refine .aE [0,1,2,6] hK ?_;clear hK K)|(with_reducible refine .done (hK _ ?_);clear hK K)|refine U.of rfl ?_|(with_reducible refine aw.aF (fun h =>?_) (fun h =>?_) <;>try simp only[h])) <;>try simp only[aH,R,simprocAttr])
 all_goals clear R
 all_goals (simp at *;simp_all[ew])
 all_goals omega
theorem mG(n lo hi:Int):aS Tryz.prog 82 [enc n,enc lo,enc hi] (enc (ew lo hi n)):=by
 refine aS.bT Tryz.func82 ID JM K5 (t8 rfl) (fun hwf W0 bI E1 =>?_);simp only[zI,DQ,bF,Z5,Nat.reduceAdd];have R:=aD
 repeat' ((first |(with_reducible refine .guard (fun hb =>?_) (fun hb =>?_) <;>try simp only[hb])|refine U.aG (by decide +kernel) rfl fun K hK =>?_|(refine .aE [0,1,2,6] hK ?_;clear hK K)|(with_reducible refine .done (hK _ ?_);clear hK K)|refine U.of rfl ?_|(with_reducible refine aw.aF (fun h =>?_) (fun h =>?_) <;>try simp only[h])) <;>try simp only[aH,R,simprocAttr])
 all_goals clear R
 all_goals (simp at *;simp_all[ew])
 all_goals omega
theorem xN(n:Int):aS Tryz.prog 105 [enc n] (enc (ew 0 100000 n)):=by
 refine aS.bT Tryz.func105 HF I1 Kh (t8 rfl) (fun hwf W0 bI E1 =>?_);simp only[yS,C0,bF];have R:=aD
 repeat' ((first |refine U.aG (by decide +kernel) rfl fun K hK =>?_|refine .flat _ (mE n 0 100000) rfl ?_|(refine .aE [0,2] hK ?_;clear hK K)|(with_reducible refine .done (hK _ ?_);clear hK K)|refine U.of rfl ?_|(with_reducible refine aw.aF (fun h =>?_) (fun h =>?_) <;>try simp only[h])) <;>try simp only[aH,R,simprocAttr])
 all_goals clear R
theorem yb(n:Int):aS Tryz.prog 79 [enc n] (enc (ew 0 1000002 n)):=by
 refine aS.bT Tryz.func79 IA JJ K2 (t8 rfl) (fun hwf W0 bI E1 =>?_);simp only[zG,DN,bF];have R:=aD
 repeat' ((first |refine U.aG (by decide +kernel) rfl fun K hK =>?_|refine .flat _ (mE n 0 1000002) rfl ?_|(refine .aE [0,2] hK ?_;clear hK K)|(with_reducible refine .done (hK _ ?_);clear hK K)|refine U.of rfl ?_|(with_reducible refine aw.aF (fun h =>?_) (fun h =>?_) <;>try simp only[h])) <;>try simp only[aH,R,simprocAttr])
 all_goals clear R
def il(x:Item):Bool:=ew 0 5 x.aJ&&ew 0 9999 x.no
theorem xP(x:Item):aS Tryz.prog 129 [enc x] (enc (il x)):=by
 refine aS.bT Tryz.func129 HM I5 Km (t8 rfl) (fun hwf W0 bI E1 =>?_);simp only[yW,C5,bF];cases q:ew 0 5 x.aJ
 ·simp only[il,q,Bool.false_and];have R:=y6 @q aD
  repeat' ((first |(with_reducible refine .guard (fun hb =>?_) (fun hb =>?_) <;>try simp only[hb])|refine U.aG (by decide +kernel) rfl fun K hK =>?_|refine .flat _ (mE x.aJ 0 5) rfl ?_|refine .flat _ (mE x.no 0 9999) rfl ?_|(refine .aE [0,1,2] hK ?_;clear hK K)|(with_reducible refine .done (hK _ ?_);clear hK K)|refine U.of rfl ?_|(with_reducible refine aw.aF (fun h =>?_) (fun h =>?_) <;>try simp only[h])) <;>try simp only[aH,R,simprocAttr])
  all_goals clear R
 ·simp only[il,q,Bool.true_and];have R:=y6 @q aD
  repeat' ((first |(with_reducible refine .guard (fun hb =>?_) (fun hb =>?_) <;>try simp only[hb])|refine U.aG (by decide +kernel) rfl fun K hK =>?_|refine .flat _ (mE x.aJ 0 5) rfl ?_|refine .flat _ (mE x.no 0 9999) rfl ?_|(refine .aE [0,1,2] hK ?_;clear hK K)|(with_reducible refine .done (hK _ ?_);clear hK K)|refine U.of rfl ?_|(with_reducible refine aw.aF (fun h =>?_) (fun h =>?_) <;>try simp only[h])) <;>try simp only[aH,R,simprocAttr])
  all_goals clear R
theorem yc(x:Item):aS Tryz.prog 85 [enc x] (enc (il x)):=by
 refine aS.bT Tryz.func85 IF JO K7 (t8 rfl) (fun hwf W0 bI E1 =>?_);simp only[c85,DS,bF];cases q:ew 0 5 x.aJ
 ·simp only[il,q,Bool.false_and];have R:=y6 @q aD
  repeat' ((first |(with_reducible refine .guard (fun hb =>?_) (fun hb =>?_) <;>try simp only[hb])|refine U.aG (by decide +kernel) rfl fun K hK =>?_|refine .flat _ (mG x.aJ 0 5) rfl ?_|refine .flat _ (mG x.no 0 9999) rfl ?_|(refine .aE [0,1,2] hK ?_;clear hK K)|(with_reducible refine .done (hK _ ?_);clear hK K)|refine U.of rfl ?_|(with_reducible refine aw.aF (fun h =>?_) (fun h =>?_) <;>try simp only[h])) <;>try simp only[aH,R,simprocAttr])
  all_goals clear R
 ·simp only[il,q,Bool.true_and];have R:=y6 @q aD
  repeat' ((first |(with_reducible refine .guard (fun hb =>?_) (fun hb =>?_) <;>try simp only[hb])|refine U.aG (by decide +kernel) rfl fun K hK =>?_|refine .flat _ (mG x.aJ 0 5) rfl ?_|refine .flat _ (mG x.no 0 9999) rfl ?_|(refine .aE [0,1,2] hK ?_;clear hK K)|(with_reducible refine .done (hK _ ?_);clear hK K)|refine U.of rfl ?_|(with_reducible refine aw.aF (fun h =>?_) (fun h =>?_) <;>try simp only[h])) <;>try simp only[aH,R,simprocAttr])
  all_goals clear R
end Go.Proofs.YtoffnnjbplgnaaaGreatDoor
namespace Go.Proofs.YtoffnnjbplgnaaaGreatDoor
open Go Go.Abs Go.Shelf
open Go.Abs.Enc (enc)
def Wl:Go.Shelf.Ren:=⟨fun | 104=>125 | 211=>153 | 207=>169 | n=>n,fun | 9=>9 | 4=>4 | 24=>42 | 3=>3 | n=>n,fun | n=>n⟩
theorem Wk:Go.Proofs.Lays.n104 Tryz.prog Wl := {
 mixed:=by kernel_rfl
 f104:=Tryz.func125.trans (congrArg some (by kernel_rfl))
 f207:=Tryz.func169.trans (congrArg some (by kernel_rfl))
 f211:=Tryz.func153.trans (congrArg some (by kernel_rfl))
 t3:=Tryz.underlying3
 a3:=Tryz.isAgg3
 z3:=Tryz.sizeOf3
 v3:=Tryz.zeroValue3
 t4:=Tryz.underlying4
 a4:=Tryz.isAgg4
 z4:=Tryz.sizeOf4
 v4:=Tryz.zeroValue4
 t9:=Tryz.underlying9
 a9:=Tryz.isAgg9
 z9:=Tryz.sizeOf9
 v9:=Tryz.zeroValue9
 t24:=Tryz.underlying42
 a24:=Tryz.isAgg42
 z24:=Tryz.sizeOf42
 v24:=Tryz.zeroValue42 }
def BV:Go.Shelf.Ren:=⟨fun | 137=>123 | 217=>152 | 266=>168 | n=>n,fun | 9=>9 | 5=>5 | 3=>3 | n=>n,fun | n=>n⟩
theorem BU:Go.Proofs.Lays.n137 Tryz.prog BV := {
 mixed:=by kernel_rfl
 f137:=Tryz.func123.trans (congrArg some (by kernel_rfl))
 f217:=Tryz.func152.trans (congrArg some (by kernel_rfl))
 f266:=Tryz.func168.trans (congrArg some (by kernel_rfl))
 t3:=Tryz.underlying3
 a3:=Tryz.isAgg3
 z3:=Tryz.sizeOf3
 v3:=Tryz.zeroValue3
 t5:=Tryz.underlying5
 a5:=Tryz.isAgg5
 z5:=Tryz.sizeOf5
 v5:=Tryz.zeroValue5
 t9:=Tryz.underlying9
 a9:=Tryz.isAgg9
 z9:=Tryz.sizeOf9
 v9:=Tryz.zeroValue9 }
def Wg:Go.Shelf.Ren:=⟨fun | 172=>155 | 244=>171 | 245=>172 | 247=>189 | 279=>190 | 280=>191 | 281=>192 | 282=>193 | 287=>207 | 316=>127 | 171=>132 | 205=>208 | 321=>215 | 322=>216 | 243=>158 | 246=>174 | 283=>195 | 284=>196 | 285=>197 | 286=>198 | 129=>185 | 317=>209 | 318=>210 | 319=>211 | 320=>212 | 337=>217 | 338=>218 | n=>n,fun | 9=>9 | 3=>3 | 75=>199 | 76=>200 | 4=>4 | 5=>5 | 167=>231 | 37=>45 | 0=>0 | 85=>232 | 2=>2 | 168=>234 | 53=>227 | 175=>250 | 46=>208 | 210=>253 | 127=>202 | 145=>266 | 143=>264 | 21=>21 | 171=>239 | 173=>241 | 212=>256 | 51=>225 | 20=>20 | 213=>257 | 232=>267 | 233=>268 | 80=>206 | n=>n,fun | 15=>1 | 16=>2 | 17=>3 | 18=>4 | 19=>5 | n=>n⟩
theorem Wf:Go.Proofs.LaysC.n172 Tryz.prog Wg := {
 mixed:=by kernel_rfl
 f129:=Tryz.func185.trans (congrArg some (by kernel_rfl))
 f171:=Tryz.func132.trans (congrArg some (by kernel_rfl))
 f172:=Tryz.func155.trans (congrArg some (by kernel_rfl))
 f205:=Tryz.func208.trans (congrArg some (by kernel_rfl))
 f243:=Tryz.func158.trans (congrArg some (by kernel_rfl))
 f244:=Tryz.func171.trans (congrArg some (by kernel_rfl))
 f245:=Tryz.func172.trans (congrArg some (by kernel_rfl))
 f246:=Tryz.func174.trans (congrArg some (by kernel_rfl))
 f247:=Tryz.func189.trans (congrArg some (by kernel_rfl))
 f279:=Tryz.func190.trans (congrArg some (by kernel_rfl))
 f280:=Tryz.func191.trans (congrArg some (by kernel_rfl))
 f281:=Tryz.func192.trans (congrArg some (by kernel_rfl))
 f282:=Tryz.func193.trans (congrArg some (by kernel_rfl))
 f283:=Tryz.func195.trans (congrArg some (by kernel_rfl))
 f284:=Tryz.func196.trans (congrArg some (by kernel_rfl))
 f285:=Tryz.func197.trans (congrArg some (by kernel_rfl))
 f286:=Tryz.func198.trans (congrArg some (by kernel_rfl))
 f287:=Tryz.func207.trans (congrArg some (by kernel_rfl))
 f316:=Tryz.func127.trans (congrArg some (by kernel_rfl))
 f317:=Tryz.func209.trans (congrArg some (by kernel_rfl))
 f318:=Tryz.func210.trans (congrArg some (by kernel_rfl))
 f319:=Tryz.func211.trans (congrArg some (by kernel_rfl))
 f320:=Tryz.func212.trans (congrArg some (by kernel_rfl))
 f321:=Tryz.func215.trans (congrArg some (by kernel_rfl))
 f322:=Tryz.func216.trans (congrArg some (by kernel_rfl))
 f337:=Tryz.func217.trans (congrArg some (by kernel_rfl))
 f338:=Tryz.func218.trans (congrArg some (by kernel_rfl))
 t0:=Tryz.underlying0
 a0:=Tryz.isAgg0
 z0:=Tryz.sizeOf0
 v0:=Tryz.zeroValue0
 t2:=Tryz.underlying2
 a2:=Tryz.isAgg2
 z2:=Tryz.sizeOf2
 v2:=Tryz.zeroValue2
 t3:=Tryz.underlying3
 a3:=Tryz.isAgg3
 z3:=Tryz.sizeOf3
 v3:=Tryz.zeroValue3
 t4:=Tryz.underlying4
 a4:=Tryz.isAgg4
 z4:=Tryz.sizeOf4
 v4:=Tryz.zeroValue4
 t5:=Tryz.underlying5
 a5:=Tryz.isAgg5
 z5:=Tryz.sizeOf5
 v5:=Tryz.zeroValue5
 t9:=Tryz.underlying9
 a9:=Tryz.isAgg9
 z9:=Tryz.sizeOf9
 v9:=Tryz.zeroValue9
 t20:=Tryz.underlying20
 a20:=Tryz.isAgg20
 z20:=Tryz.sizeOf20
 v20:=Tryz.zeroValue20
 t21:=Tryz.underlying21
 a21:=Tryz.isAgg21
 z21:=Tryz.sizeOf21
 v21:=Tryz.zeroValue21
 t37:=Tryz.underlying45
 a37:=Tryz.isAgg45
 z37:=Tryz.sizeOf45
 v37:=Tryz.zeroValue45
 t46:=Tryz.underlying208
 a46:=Tryz.isAgg208
 z46:=Tryz.sizeOf208
 v46:=Tryz.zeroValue208
 t51:=Tryz.underlying225
 a51:=Tryz.isAgg225
 z51:=Tryz.sizeOf225
 v51:=Tryz.zeroValue225
 t53:=Tryz.underlying227
 a53:=Tryz.isAgg227
 z53:=Tryz.sizeOf227
 v53:=Tryz.zeroValue227
 t75:=Tryz.underlying199
 a75:=Tryz.isAgg199
 z75:=Tryz.sizeOf199
 v75:=Tryz.zeroValue199
 t76:=Tryz.underlying200
 a76:=Tryz.isAgg200
 z76:=Tryz.sizeOf200
 v76:=Tryz.zeroValue200
 t85:=Tryz.underlying232
 a85:=Tryz.isAgg232
 z85:=Tryz.sizeOf232
 v85:=Tryz.zeroValue232
 t127:=Tryz.underlying202
 a127:=Tryz.isAgg202
 z127:=Tryz.sizeOf202
 v127:=Tryz.zeroValue202
 t143:=Tryz.underlying264
 a143:=Tryz.isAgg264
 z143:=Tryz.sizeOf264
 v143:=Tryz.zeroValue264
 t145:=Tryz.underlying266
 a145:=Tryz.isAgg266
 z145:=Tryz.sizeOf266
 v145:=Tryz.zeroValue266
 t167:=Tryz.underlying231
 a167:=Tryz.isAgg231
 z167:=Tryz.sizeOf231
 v167:=Tryz.zeroValue231
 t168:=Tryz.underlying234
 a168:=Tryz.isAgg234
 z168:=Tryz.sizeOf234
 v168:=Tryz.zeroValue234
 t171:=Tryz.underlying239
 a171:=Tryz.isAgg239
 z171:=Tryz.sizeOf239
 v171:=Tryz.zeroValue239
 t173:=Tryz.underlying241
 a173:=Tryz.isAgg241
 z173:=Tryz.sizeOf241
 v173:=Tryz.zeroValue241
 t175:=Tryz.underlying250
 a175:=Tryz.isAgg250
 z175:=Tryz.sizeOf250
 v175:=Tryz.zeroValue250
 t210:=Tryz.underlying253
 a210:=Tryz.isAgg253
 z210:=Tryz.sizeOf253
 v210:=Tryz.zeroValue253
 t212:=Tryz.underlying256
 a212:=Tryz.isAgg256
 z212:=Tryz.sizeOf256
 v212:=Tryz.zeroValue256
 t213:=Tryz.underlying257
 a213:=Tryz.isAgg257
 z213:=Tryz.sizeOf257
 t232:=Tryz.underlying267
 a232:=Tryz.isAgg267
 z232:=Tryz.sizeOf267
 v232:=Tryz.zeroValue267
 t233:=Tryz.underlying268
 a233:=Tryz.isAgg268
 z233:=Tryz.sizeOf268
 v233:=Tryz.zeroValue268
 g15:=by kernel_rfl
 g16:=by kernel_rfl
 g17:=by kernel_rfl
 g18:=by kernel_rfl
 g19:=by kernel_rfl
 t80:=Tryz.underlying206
 a80:=Tryz.isAgg206
 z80:=Tryz.sizeOf206
 v80:=Tryz.zeroValue206
 i0:=by kernel_rfl
 i2:=by kernel_rfl
 i3:=by kernel_rfl
 i4:=by kernel_rfl
 i5:=by kernel_rfl
 i9:=by kernel_rfl
 i20:=by kernel_rfl
 i21:=by kernel_rfl
 i37:=by kernel_rfl
 i46:=by kernel_rfl
 i51:=by kernel_rfl
 i53:=by kernel_rfl
 i75:=by kernel_rfl
 i76:=by kernel_rfl
 i80:=by kernel_rfl
 i85:=by kernel_rfl
 i127:=by kernel_rfl
 i143:=by kernel_rfl
 i145:=by kernel_rfl
 i167:=by kernel_rfl
 i168:=by kernel_rfl
 i171:=by kernel_rfl
 i173:=by kernel_rfl
 i175:=by kernel_rfl
 i210:=by kernel_rfl
 i212:=by kernel_rfl
 i232:=by kernel_rfl
 i233:=by kernel_rfl
 m15:=by kernel_rfl
 m16:=by kernel_rfl
 m17:=by kernel_rfl
 m18:=by kernel_rfl
 m19:=by kernel_rfl
 c0:=by kernel_rfl
 c2:=by kernel_rfl
 c3:=by kernel_rfl
 c4:=by kernel_rfl
 c5:=by kernel_rfl
 c9:=by kernel_rfl
 c20:=by kernel_rfl
 c21:=by kernel_rfl
 c37:=by kernel_rfl
 c46:=by kernel_rfl
 c51:=by kernel_rfl
 c53:=by kernel_rfl
 c75:=by kernel_rfl
 c76:=by kernel_rfl
 c80:=by kernel_rfl
 c85:=by kernel_rfl
 c127:=by kernel_rfl
 c143:=by kernel_rfl
 c145:=by kernel_rfl
 c167:=by kernel_rfl
 c168:=by kernel_rfl
 c171:=by kernel_rfl
 c173:=by kernel_rfl
 c175:=by kernel_rfl
 c210:=by kernel_rfl
 c212:=by kernel_rfl
 c213:=by kernel_rfl
 c232:=by kernel_rfl
 c233:=by kernel_rfl }
def Wh:Go.Shelf.Ren:=⟨fun | 171=>132 | 243=>158 | 246=>174 | 283=>195 | 284=>196 | 285=>197 | 286=>198 | 129=>185 | 317=>209 | 318=>210 | 319=>211 | 320=>212 | 337=>217 | 338=>218 | n=>n,fun | 3=>3 | 9=>9 | 2=>2 | 4=>4 | 171=>239 | 0=>0 | 53=>227 | 37=>45 | 5=>5 | 173=>241 | 212=>256 | 51=>225 | 20=>20 | 213=>257 | 46=>208 | 232=>267 | 233=>268 | n=>n,fun | 17=>3 | 18=>4 | 19=>5 | n=>n⟩
theorem BT:Go.Proofs.LaysM.n171 Tryz.prog Wh := {
 mixed:=by kernel_rfl
 f129:=Tryz.func185.trans (congrArg some (by kernel_rfl))
 f171:=Tryz.func132.trans (congrArg some (by kernel_rfl))
 f243:=Tryz.func158.trans (congrArg some (by kernel_rfl))
 f246:=Tryz.func174.trans (congrArg some (by kernel_rfl))
 f283:=Tryz.func195.trans (congrArg some (by kernel_rfl))
 f284:=Tryz.func196.trans (congrArg some (by kernel_rfl))
 f285:=Tryz.func197.trans (congrArg some (by kernel_rfl))
 f286:=Tryz.func198.trans (congrArg some (by kernel_rfl))
 f317:=Tryz.func209.trans (congrArg some (by kernel_rfl))
 f318:=Tryz.func210.trans (congrArg some (by kernel_rfl))
 f319:=Tryz.func211.trans (congrArg some (by kernel_rfl))
 f320:=Tryz.func212.trans (congrArg some (by kernel_rfl))
 f337:=Tryz.func217.trans (congrArg some (by kernel_rfl))
 f338:=Tryz.func218.trans (congrArg some (by kernel_rfl))
 t0:=Tryz.underlying0
 a0:=Tryz.isAgg0
 z0:=Tryz.sizeOf0
 v0:=Tryz.zeroValue0
 t2:=Tryz.underlying2
 a2:=Tryz.isAgg2
 z2:=Tryz.sizeOf2
 v2:=Tryz.zeroValue2
 t3:=Tryz.underlying3
 a3:=Tryz.isAgg3
 z3:=Tryz.sizeOf3
 v3:=Tryz.zeroValue3
 t4:=Tryz.underlying4
 a4:=Tryz.isAgg4
 z4:=Tryz.sizeOf4
 v4:=Tryz.zeroValue4
 t5:=Tryz.underlying5
 a5:=Tryz.isAgg5
 z5:=Tryz.sizeOf5
 v5:=Tryz.zeroValue5
 t9:=Tryz.underlying9
 a9:=Tryz.isAgg9
 z9:=Tryz.sizeOf9
 v9:=Tryz.zeroValue9
 t20:=Tryz.underlying20
 a20:=Tryz.isAgg20
 z20:=Tryz.sizeOf20
 v20:=Tryz.zeroValue20
 t37:=Tryz.underlying45
 a37:=Tryz.isAgg45
 z37:=Tryz.sizeOf45
 v37:=Tryz.zeroValue45
 t46:=Tryz.underlying208
 a46:=Tryz.isAgg208
 z46:=Tryz.sizeOf208
 v46:=Tryz.zeroValue208
 t51:=Tryz.underlying225
 a51:=Tryz.isAgg225
 z51:=Tryz.sizeOf225
 v51:=Tryz.zeroValue225
 t53:=Tryz.underlying227
 a53:=Tryz.isAgg227
 z53:=Tryz.sizeOf227
 v53:=Tryz.zeroValue227
 t171:=Tryz.underlying239
 a171:=Tryz.isAgg239
 z171:=Tryz.sizeOf239
 v171:=Tryz.zeroValue239
 t173:=Tryz.underlying241
 a173:=Tryz.isAgg241
 z173:=Tryz.sizeOf241
 v173:=Tryz.zeroValue241
 t212:=Tryz.underlying256
 a212:=Tryz.isAgg256
 z212:=Tryz.sizeOf256
 v212:=Tryz.zeroValue256
 t213:=Tryz.underlying257
 a213:=Tryz.isAgg257
 z213:=Tryz.sizeOf257
 t232:=Tryz.underlying267
 a232:=Tryz.isAgg267
 z232:=Tryz.sizeOf267
 v232:=Tryz.zeroValue267
 t233:=Tryz.underlying268
 a233:=Tryz.isAgg268
 z233:=Tryz.sizeOf268
 v233:=Tryz.zeroValue268
 g17:=by kernel_rfl
 g18:=by kernel_rfl
 g19:=by kernel_rfl
 i0:=by kernel_rfl
 i2:=by kernel_rfl
 i3:=by kernel_rfl
 i4:=by kernel_rfl
 i5:=by kernel_rfl
 i9:=by kernel_rfl
 i20:=by kernel_rfl
 i37:=by kernel_rfl
 i46:=by kernel_rfl
 i51:=by kernel_rfl
 i53:=by kernel_rfl
 i171:=by kernel_rfl
 i173:=by kernel_rfl
 i212:=by kernel_rfl
 i232:=by kernel_rfl
 i233:=by kernel_rfl
 m17:=by kernel_rfl
 m18:=by kernel_rfl
 m19:=by kernel_rfl }
def Wj:Go.Shelf.Ren:=⟨fun | 316=>127 | n=>n,fun | 9=>9 | 3=>3 | 4=>4 | 37=>45 | 0=>0 | 127=>202 | 5=>5 | n=>n,fun | n=>n⟩
theorem Wi:Go.Proofs.LaysM.n316 Tryz.prog Wj := {
 mixed:=by kernel_rfl
 f316:=Tryz.func127.trans (congrArg some (by kernel_rfl))
 t0:=Tryz.underlying0
 a0:=Tryz.isAgg0
 z0:=Tryz.sizeOf0
 v0:=Tryz.zeroValue0
 t3:=Tryz.underlying3
 a3:=Tryz.isAgg3
 z3:=Tryz.sizeOf3
 v3:=Tryz.zeroValue3
 t4:=Tryz.underlying4
 a4:=Tryz.isAgg4
 z4:=Tryz.sizeOf4
 v4:=Tryz.zeroValue4
 t9:=Tryz.underlying9
 a9:=Tryz.isAgg9
 z9:=Tryz.sizeOf9
 v9:=Tryz.zeroValue9
 t37:=Tryz.underlying45
 a37:=Tryz.isAgg45
 z37:=Tryz.sizeOf45
 v37:=Tryz.zeroValue45
 t127:=Tryz.underlying202
 a127:=Tryz.isAgg202
 z127:=Tryz.sizeOf202
 v127:=Tryz.zeroValue202
 t5:=Tryz.underlying5
 a5:=Tryz.isAgg5
 z5:=Tryz.sizeOf5
 v5:=Tryz.zeroValue5
 i0:=by kernel_rfl
 i3:=by kernel_rfl
 i4:=by kernel_rfl
 i5:=by kernel_rfl
 i9:=by kernel_rfl
 i37:=by kernel_rfl
 i127:=by kernel_rfl }
theorem FP(s p:av):aS Tryz.prog 125 [enc s,enc p] (.tuple [enc (av.of (Lib.trimSuffix s.l p.l)),enc (Lib.hasSuffix s.l p.l)]):=Lh Wk HJ s p
theorem FO(s:av)(c:UInt8):aS Tryz.prog 123 [enc s,.int .u8 c.toNat] (enc (Lib.indexByte s.l c)):=Li BU HI s c
theorem tZ(s:av)(hs:s.l.length≤281474976710656):aS Tryz.prog 155 [enc s] (gP 234 s.l):=Lf Wf H4 (by kernel_rfl) (by kernel_rfl) rfl s hs
theorem FV(n:Int):aS Tryz.prog 132 [enc n] (enc (vL n)):=Lj BT HP (g:=3) (by kernel_rfl) n
theorem FR(s:av)(hs:s.l.length≤281474976710656):aS Tryz.prog 127 [enc s] (enc s):=Lg Wi HK s hs
theorem We:Go.Proofs.Lays.n217 Tryz.prog BV := { BU with }
theorem VN(l:List UInt8)(c:UInt8):-1≤Lib.indexByte l c∧Lib.indexByte l c≤l.length:=by
 refine ⟨Lib.indexByte_ge l c,?_⟩
 induction l with
 |nil=>simp[Lib.indexByte]
 |cons b l ih =>
  unfold Lib.indexByte
  (repeat' split) <;>simp only[zx1] <;>omega
theorem F4(s:av)(c:UInt8):aS Tryz.prog 152 [enc s,.int .u8 c.toNat] (enc (Lib.indexByte s.l c)):=by
 refine ⟨H2,fun w D vs hl hD hv =>?_⟩;obtain ⟨rest,rfl,hsz,hv2⟩:=xw hv;simp only[al] at hv2;obtain ⟨v,rest2,cs,rfl,h1,h2,rfl⟩:=hv2;obtain ⟨rfl,_⟩:=dq (fK h1 h2);have key:=Any.stringslite_IndexByte We s.b (c.toNat:Int) w;have hcc:((c.toNat:Int)).toNat.toUInt8=c:=by simp
 rw[hcc] at key;refine Calls.mono key ?_;rintro e w' ⟨rfl,rfl⟩;refine ⟨_,D,rfl,⟨[_],by simp[aZ,I.isAgg,enc];rfl,?_⟩,Go.RowKit.Below.refl _ w',hD,fun _ _ h _=>h⟩
 show ae _ _ _ (.int .i64 (Lib.indexByte s.l c)) _
 simp only[ae];refine ⟨rfl,?_⟩;have g:=VN s.l c;rw[av.size] at hsz;have hmin:IntKind.i64.min=-9223372036854775808:=by decide
 have hmax:IntKind.i64.max=9223372036854775807:=by decide
 unfold maxLen at hsz;rw[hmin,hmax];omega
theorem F8(s:av)(c:UInt8):aS Tryz.prog 188 [enc s,enc (av.of [c])] (enc (Lib.indexByte s.l c)):=by
 refine aS.bT Tryz.func188 Ib Jo KG (t8 rfl) (fun hwf W0 bI E1 =>?_);simp only[zk,Dq,bF,Z5];have hsi:=ER (av.of [c]) (i:=0) (by rw[av.dG];exact Nat.zero_lt_one);have hl1:mh (enc (av.of [c]))=some (.int .i64 1):=by rw[qR];rfl
 have hsi':ez .dJ [enc (av.of [c]),.int .i64 0]=some (.int .u8 (c.toNat:Int)):=hsi;cases q:decide (av.of [c]=s)
 ·have R:=y6 @hsi' (y6 @hl1 (y6 @q (y6 @bu aD)))
  repeat' ((first |(with_reducible refine .guard (fun hb =>?_) (fun hb =>?_) <;>try simp only[hb])|refine U.aG (by decide +kernel) rfl fun K hK =>?_|refine .flat _ (F4 s c) rfl ?_|(refine .aE [0,1,4,5,6,7,8,9,10,11,12,13,16,24,31,36,59,64,73,93,107,114,132,139] hK ?_;clear hK K)|(with_reducible refine .done (hK _ ?_);clear hK K)|refine U.of rfl ?_|(with_reducible refine aw.aF (fun h =>?_) (fun h =>?_) <;>try simp only[h])) <;>try simp only[aH,R,simprocAttr])
  all_goals clear R
 ·have e:=of_decide_eq_true q;subst e;have R:=y6 @hl1 (y6 @bu aD)
  repeat' ((first |(with_reducible refine .guard (fun hb =>?_) (fun hb =>?_) <;>try simp only[hb])|refine U.aG (by decide +kernel) rfl fun K hK =>?_|(refine .aE [0,1,4,5,6,7,8,9,10,11,12,13,16,24,31,36,59,64,73,93,107,114,132,139] hK ?_;clear hK K)|(with_reducible refine .done (hK _ ?_);clear hK K)|refine U.of rfl ?_|(with_reducible refine aw.aF (fun h =>?_) (fun h =>?_) <;>try simp only[h])) <;>try simp only[aH,R,eq_self,decide_true,simprocAttr])
  all_goals clear R
  show I.int .i64 0=I.int .i64 (Lib.indexByte [c] c)
  simp[Lib.indexByte]
def dC(c:UInt8):List UInt8→Option (List UInt8×List UInt8)
 | []=>none
 |b::l=>if b=c then some ([],l) else (dC c l).map fun p=>(b::p.1,p.2)
def jL(c:UInt8)(l:List UInt8):List UInt8×List UInt8×Bool:=match dC c l with
 |some p=>(p.1,p.2,true)
 |none=>(l,[],false)
theorem rQ(c:UInt8):∀ l:List UInt8,(dC c l=none∧Lib.indexByte l c=-1)∨∃ i:Nat,i<l.length∧Lib.indexByte l c=i∧dC c l=some (l.take i,l.drop (i+1))
 | []=>.inl ⟨rfl,rfl⟩
 |b::l=>by
  by_cases h:b=c
  ·refine .inr ⟨0,by simp,by simp[Lib.indexByte,h],by simp[dC,h]⟩
  ·rcases rQ c l with ⟨h1,h2⟩ | ⟨i,h0,h1,h2⟩
   ·refine .inl ⟨by simp[dC,h,h1],by simp[Lib.indexByte,h,h2]⟩
   ·refine .inr ⟨i+1,by simpa using h0,?_,by simp[dC,h,h2]⟩;simp only[Lib.indexByte,h1];simp[h]
    try omega
theorem F7(s:av)(c:UInt8):aS Tryz.prog 170 [enc s,enc (av.of [c])] (.tuple [enc (av.of (jL c s.l).1),enc (av.of (jL c s.l).2.1),enc (jL c s.l).2.2]):=by
 refine aS.wf zW fun hwf0 =>?_;have hlen:s.l.length≤maxLen:=by
  have:=hwf0.1;rw[←av.size];exact this
 simp only[maxLen] at hlen;refine aS.bT Tryz.func170 zW Jl KD (t8 rfl) (fun hwf W0 bI E1 =>?_);simp only[zi,Dm,bF,Z5];clear hwf;have hF:=F8 s c;have hl1:mh (enc (av.of [c]))=some (.int .i64 1):=by rw[qR];rfl
 rcases rQ c s.l with ⟨h1,h2⟩ | ⟨i,h0,h1,h2⟩
 ·rw[h2] at hF;simp only[jL,h1];have R:=y6 @hl1 (y6 @bu aD)
  repeat' ((first |refine U.aG (by decide +kernel) rfl fun K hK =>?_|refine .flat _ (hF) rfl ?_|(refine .aE [0,1,4,5,6,7,12] hK ?_;clear hK K)|(with_reducible refine .done (hK _ ?_);clear hK K)|refine U.of rfl ?_|(with_reducible refine aw.aF (fun h =>?_) (fun h =>?_) <;>try simp only[h])) <;>try simp only[aH,R,decide_false,simprocAttr])
  all_goals clear R
  rw[av.wk];rfl
 ·rw[h1] at hF;simp only[jL,h2];have g1:=qS s (j:=i) (by omega);have g2:=xb s (i:=i+1) (by omega);have hw:=eO (i:=i) (by omega);have hd:decide ((i:Int)≥0)=true:=decide_eq_true (by omega);have R:=y6 @hd (y6 @hl1 (y6 @hw (y6 @g1 (y6 @g2 (y6 @bu aD)))))
  repeat' ((first |refine U.aG (by decide +kernel) rfl fun K hK =>?_|refine .flat _ (hF) rfl ?_|(refine .aE [0,1,4,5,6,7,12] hK ?_;clear hK K)|(with_reducible refine .done (hK _ ?_);clear hK K)|refine U.of rfl ?_|(with_reducible refine aw.aF (fun h =>?_) (fun h =>?_) <;>try simp only[h])) <;>try simp only[aH,R,decide_true,simprocAttr])
  all_goals clear R
  trace_state
  all_goals rfl
theorem xU(s:av)(c:UInt8):aS Tryz.prog 154 [enc s,enc (av.of [c])] (.tuple [enc (av.of (jL c s.l).1),enc (av.of (jL c s.l).2.1),enc (jL c s.l).2.2]):=by
 refine aS.bT Tryz.func154 H3 Jg Ky (t8 rfl) (fun hwf W0 bI E1 =>?_);simp only[zd,Dg,bF,Z5];have R:=y6 @bu aD
 repeat' ((first |refine U.aG (by decide +kernel) rfl fun K hK =>?_|refine .flat _ (F7 s c) rfl ?_|(refine .aE [0,1,4,5,6] hK ?_;clear hK K)|(with_reducible refine .done (hK _ ?_);clear hK K)|refine U.of rfl ?_|(with_reducible refine aw.aF (fun h =>?_) (fun h =>?_) <;>try simp only[h])) <;>try simp only[aH,R,simprocAttr])
 all_goals clear R
 all_goals rfl
theorem Gg(s:av)(hs:s.l.length≤281474976710656):aS Tryz.prog 74 [enc s] (enc s):=by
 refine aS.bT Tryz.func74 Iw JG KZ (t8 rfl) (fun hwf W0 bI E1 =>?_);simp only[zE,DK,bF];have R:=y6 @bu aD
 repeat' ((first |refine U.aG (by decide +kernel) rfl fun K hK =>?_|refine .flat _ (FR s hs) rfl ?_|(refine .aE [0,2] hK ?_;clear hK K)|(with_reducible refine .done (hK _ ?_);clear hK K)|refine U.of rfl ?_|(with_reducible refine aw.aF (fun h =>?_) (fun h =>?_) <;>try simp only[h])) <;>try simp only[aH,R,simprocAttr])
 all_goals clear R
 all_goals rfl
end Go.Proofs.YtoffnnjbplgnaaaGreatDoor
namespace Go.Proofs.YtoffnnjbplgnaaaGreatDoor
open Go Go.Abs
open Go.Abs.Enc (enc)
def dH(l:List Int):List UInt8:=l.flatMap fun n=>Lib.itoa n++[32]
def jg(f:List UInt8→Option Int):Nat→List UInt8→Option (List Int×List UInt8)
 |0,s=>some ([],s)
 |k+1,s=>match dC 32 s with
  |none=>none
  |some (w,t)=>match f w with
   |none=>none
   |some n=>(jg f k t).map fun p=>(n::p.1,p.2)
def gH(w:List UInt8):Option Int:=match Lib.atoiAll w with
 | .ok n=>some n
 |_=>none
def eL(r:ah):List Int:=[r.aJ,r.no,r.kind,r.dY,r.known,r.fo,r.fE]
def jy(n:List Int)(t:List UInt8):ah:=⟨n.getD 1 0,n.getD 2 0,n.getD 3 0,n.getD 4 0,n.getD 5 0,n.getD 6 0,n.getD 7 0,t⟩
def dm(r:ah):List UInt8:=dH (eL r)++r.text
def dB(s:Int)(l:List UInt8):Int:=l.foldl (fun s c=>(257*s+c.toNat+1)%1000003) s
theorem pg{s:Int}(h:0≤s∧s<1000003):∀ l,0≤dB s l∧dB s l<1000003:=by
 intro l
 induction l generalizing s with
 |nil=>exact h
 |cons c l ih =>
  rw[dB,List.foldl_cons];exact ih (by omega)
def dV(s:Int)(r:ah):List UInt8:=dH [dB s (dm r)]++dm r++[10]
section
variable (ok:ah→Bool)
def oj(s:Int)(t:List UInt8)(r:ah):Option (ah×Int):=if ok r=true∧dV s r=t then some (r,dB s (dm r)) else none
def eh(s:Int)(t:List UInt8):Option (ah×Int):=if t.getLast?=some 10 then
  (jg gH 8 t.dropLast).bind fun p=>(oj ok s t (jy p.1 p.2)).bind fun q=>if p.1.headD 0=q.2 then some q else none
 else none
theorem Ml{s:Int}{t:List UInt8}{r:ah}{q:ah×Int}(h:oj ok s t r=some q):ok q.1=true∧dV s q.1=t∧q.2=dB s (dm q.1):=by
 rw[oj] at h;by_cases c:ok r=true∧dV s r=t
 ·rw[if_pos c] at h;cases h;exact ⟨c.1,c.2,rfl⟩
 ·rw[if_neg c] at h;cases h
theorem Yt{s:Int}{t:List UInt8}{q:ah×Int}(h:eh ok s t=some q):ok q.1=true∧dV s q.1=t∧q.2=dB s (dm q.1):=by
 rw[eh] at h;by_cases c:t.getLast?=some 10
 ·rw[if_pos c] at h;cases hp:jg gH 8 t.dropLast with
  |none=>rw[hp] at h;cases h
  |some p =>
   rw[hp,Option.bind_some] at h;cases he:oj ok s t (jy p.1 p.2) with
   |none=>rw[he] at h;cases h
   |some q' =>
    rw[he,Option.bind_some] at h;by_cases k:p.1.headD 0=q'.2
    ·rw[if_pos k] at h;cases h;exact Ml ok he
    ·rw[if_neg k] at h;cases h
 ·rw[if_neg c] at h;cases h
end
def jJ:List PanicEntry:=[{ v:=.iface 176 (.agg #[]),recovered:=false }]
theorem nl{Q:Exit→ab→Prop}{x:az}{A:ab}(h:af A x=.iface 176 (.agg []))(hq:Q (.panic jJ) A):lX Tryz.prog Q (.prim .kJ [x]) A:=.kJ h hq
theorem jW:(∀ T:TypeId,ez (.mj T) [.agg []]=some (.iface T (.agg [])))∧fF [] []=some []:=⟨fun _=>rfl,rfl⟩
theorem wC{A:ab} : wD jJ (fun os'=>os'=[]) (.panic jJ) A:=⟨rfl,[],[],vF,trivial,rfl,rfl⟩
theorem mS:(I.aj ⟨#[32]⟩)=enc (av.of [32]):=rfl
theorem pU:(I.aj ⟨#[10]⟩)=enc (av.of [10]):=rfl
theorem CD{w:List UInt8}{n:Int}(h:gH w=some n):gP 234 w=.tuple [enc n,.cS]:=by
 unfold gH at h;split at h
 ·rename_i m hm;cases h;simp only[gP,hm]
 ·cases h
theorem CC{w:List UInt8}(h:gH w=none):∃ n:Int,gP 234 w=.tuple [enc n,.iface 234 .any]:=by
 unfold gH at h;split at h
 ·cases h
 ·rename_i hm;cases hr:Lib.atoiAll w with
  |ok n=>exact absurd hr (hm n)
  |range=>exact ⟨_,by simp only[gP,hr];rfl⟩
  | _ =>exact ⟨0,by simp only[gP,hr]⟩
theorem rS{c:UInt8}{l:List UInt8}{p:List UInt8×List UInt8}(h:dC c l=some p):p.1.length+p.2.length<l.length:=by
 rcases rQ c l with ⟨h1,_⟩ | ⟨i,h0,_,h2⟩
 ·rw[h1] at h;cases h
 ·rw[h2] at h;cases h;simp only[zz1,List.length_drop];omega
theorem xO(s:av)(hlen:s.l.length≤281474976710656)(w t:List UInt8)(n:Int)(h1:dC 32 s.l=some (w,t))(h2:gH w=some n):aS Tryz.prog 126 [enc s] (.tuple [enc n,enc (av.of t)]):=by
 refine aS.bT Tryz.func126 zV z8 Kk (t8 rfl) (fun hwf W0 bI E1 =>?_);simp only[uH,C3,bF];clear hwf;have hc:=xU s 32;simp only[jL,h1] at hc;have hl:=rS h1;simp only at hl;have ha:=tZ (av.of w) (by rw[av.dG];omega);rw[av.dG,CD h2] at ha;have R:=y6 @mS (y6 @bu aD)
 repeat' ((first |(with_reducible refine .guard (fun hb =>?_) (fun hb =>?_) <;>try simp only[hb])|refine U.aG (by decide +kernel) rfl fun K hK =>?_|refine .flat _ (hc) rfl ?_|refine .lead _ (ha) ?_|(refine .aE [0,2,3,4,5,6,7,8,25] hK ?_;clear hK K)|(with_reducible refine .done (hK _ ?_);clear hK K)|refine U.of rfl ?_|(with_reducible refine aw.aF (fun h =>?_) (fun h =>?_) <;>try simp only[h])) <;>try simp only[aH,R,simprocAttr])
 all_goals clear R
 all_goals rfl
theorem FQ(s:av)(hlen:s.l.length≤281474976710656)(h:∀ w t,dC 32 s.l=some (w,t)→gH w=none):pz Tryz.prog 126 jJ [enc s] [] (fun os'=>os'=[]):=by
 refine pz.mk Tryz.func126 zV z8 (t8 rfl) (t8 rfl) (fun m hm=>by simp[ao,aA] at hm) (fun hwf W0 bI E1 =>?_);simp only[uH,bF];clear hwf;have hc:=xU s 32;cases h1:dC 32 s.l with
 |none =>
  simp only[jL,h1] at hc;have ha:=tZ (av.of s.l) (by rw[av.dG];omega);rw[av.dG] at ha;cases ho:gH s.l with
  |some n =>
   rw[CD ho] at ha;have R:=y6 @mS (y6 @jW (y6 @bu aD))
   repeat' ((first |(with_reducible refine .guard (fun hb =>?_) (fun hb =>?_) <;>try simp only[hb])|(refine U.lG (gs:=r7) (gs1:=[_,_]) rfl fun K hK =>?_)|refine U.aG (by decide +kernel) rfl fun K hK =>?_|refine .flat _ (hc) rfl ?_|refine .lead _ (ha) ?_|(refine .aE [0,2,3,4,5,6,7,8,25] hK ?_;clear hK K)|(with_reducible refine .done (hK _ ?_);clear hK K)|refine U.of rfl ?_|(with_reducible refine aw.aF (fun h =>?_) (fun h =>?_) <;>try simp only[h])) <;>try simp only[aH,R,simprocAttr])
   all_goals clear R
   refine nl ?_ wC;rfl
  |none =>
   obtain ⟨n,hn⟩:=CC ho;rw[hn] at ha;have R:=y6 @mS (y6 @jW (y6 @bu aD))
   repeat' ((first |(with_reducible refine .guard (fun hb =>?_) (fun hb =>?_) <;>try simp only[hb])|(refine U.lG (gs:=r7) (gs1:=[_,_]) rfl fun K hK =>?_)|refine U.aG (by decide +kernel) rfl fun K hK =>?_|refine .flat _ (hc) rfl ?_|refine .lead _ (ha) ?_|(refine .aE [0,2,3,4,5,6,7,8,25] hK ?_;clear hK K)|(with_reducible refine .done (hK _ ?_);clear hK K)|refine U.of rfl ?_|(with_reducible refine aw.aF (fun h =>?_) (fun h =>?_) <;>try simp only[h])) <;>try simp only[aH,R,simprocAttr])
   all_goals clear R
   refine nl ?_ wC;rfl
 |some p =>
  obtain ⟨w,t⟩:=p;simp only[jL,h1] at hc;have hl:=rS h1;simp only at hl;have ha:=tZ (av.of w) (by rw[av.dG];omega);obtain ⟨n,hn⟩:=CC (h w t h1);rw[av.dG,hn] at ha;have R:=y6 @mS (y6 @jW (y6 @bu aD))
  repeat' ((first |(with_reducible refine .guard (fun hb =>?_) (fun hb =>?_) <;>try simp only[hb])|(refine U.lG (gs:=r7) (gs1:=[_,_]) rfl fun K hK =>?_)|refine U.aG (by decide +kernel) rfl fun K hK =>?_|refine .flat _ (hc) rfl ?_|refine .lead _ (ha) ?_|(refine .aE [0,2,3,4,5,6,7,8,25] hK ?_;clear hK K)|(with_reducible refine .done (hK _ ?_);clear hK K)|refine U.of rfl ?_|(with_reducible refine aw.aF (fun h =>?_) (fun h =>?_) <;>try simp only[h])) <;>try simp only[aH,R,simprocAttr])
  all_goals clear R
  refine nl ?_ wC;rfl
theorem VL:ru Tryz.prog 124 3:=⟨zU,fun bs w hb=>by
 obtain ⟨b1,b2,b3,rfl⟩:∃ b1 b2 b3,bs=[b1,b2,b3]:=by
  match bs,hb with
  | [a,b,c],_=>exact ⟨a,b,c,rfl⟩
 refine callsDIn_of_wpSIn Tryz.func124 rfl trivial fun c₀ cs hu =>?_;apply wpSIn_seq;apply wpSIn_region;simp[wpOpsSIn,go_sem,recoverD,hu,Tryz.ntmps124,Exit.thenS];refine wpSIn_of_wpIn rfl (wpIn_block (wpIn_seq (wpIn_region_list ?_)));simp[wpListIn,go_sem];refine wpIn_cond (t:=true) (by simp[Act.eval,Array.replicate]) ?_;simp only[if_true];refine wpIn_region_list ?_;simp[wpListIn,go_sem,Exit.inBlock];cases c₀
 simp_all[bodyPostS,results,Tryz.results124]⟩
theorem wy{P:Program}{o:Oper}{a:Act}{w w':World}{Kw:Act→World→Prop}{Q:Exit→Act→World→Prop}{n:Nat}(h:(execOp a.eval o).run P w=.ok .skip w')(hK:Kw (a.put o.dst undef) w'):o.wpIn Fence.wide n P a w Kw Q:=by
 refine ⟨fun _ _=>trivial,?_⟩
 show o.uponIn _ _ _ _ _ _ ((execOp a.eval o).run P w)
 rw[h,Oper.uponIn_skip];exact hK
theorem XU{P:Program}{o:Oper}{a:Act}{w w':World}{v:Value}{Kw:Act→World→Prop}{Q:Exit→Act→World→Prop}{n:Nat}(h:(execOp a.eval o).run P w=.ok (.value v) w')(hK:Kw (a.put o.dst v) w'):o.wpIn Fence.wide n P a w Kw Q:=by
 refine ⟨fun _ _=>trivial,?_⟩
 show o.uponIn _ _ _ _ _ _ ((execOp a.eval o).run P w)
 rw[h,Oper.uponIn_value];exact hK
theorem xt{P:Program}{o:Oper}{ρ:Operand→Value}{t:TypeId}{x y:Operand}{p v:Value}{w w':World}(ho:o.op=.store t x y)(hx:ρ x=p)(hy:ρ y=v)(h:(Instr.storeAt t p v).run P w=.ok () w'):(execOp ρ o).run P w=.ok .skip w':=by
 simp only[execOp,ho,hx,hy,Sem.run_bind,h];rfl
theorem xv{c:ct}{A:ab}{a:Act}{w:World}{D:aK}{E:aN}{P:Program}(hs:aM c A a w D E){N b:Nat}{x z:I}{v:Value}{ds:List Value}{t:TypeId}{i:TypeInfo}(hn:A.o N=some (.box x))(ak:E N=some (.aI b z.aL))(hsh:x.aL=z.aL)
  (hz:ae w D E z ds) (hv:v.cells.toList=ds) (hi:P.info? t=some i) (hsz:i.size=ds.length) :
  ∃ w',(Instr.storeAt t (j7 b) v).run P w=.ok () w'∧aM c (A.aQ N (.box z)) a w' D E:=by
 obtain ⟨b',cs,T,k1,k2,k3,k4,k5⟩:=hs.box hn;rw[ak] at k1;simp only[v6,bx.aI.injEq] at k1;obtain ⟨rfl,_⟩:=k1;have l1:=ae.length _ _ k4;have l2:=ae.length _ _ hz;have l3:x.size=z.size:=by rw[←I.iy x,←I.iy z,hsh]
 have hcl:cs.size=ds.length:=by rw[←zy4,l1,l2,l3]
 have hrun:=tz P b 0 T ds 0 cs w k3 (by omega) (ae.kH _ _ hz);simp only[Nat.add_zero] at hrun;have e:(cs.toList.take 0++ds++cs.toList.drop (0+ds.length))=ds:=by
  rw[List.take_zero,zz3,Z5,List.drop_eq_nil_of_le (by rw[zy4];omega),zw1]
 rw[e] at hrun;have hs2:=hs.xe (y:=z) (cs':=ds.toArray) hn (hsh▸ak) hsh.symm (by simpa using hz);refine ⟨w.setRow b ds.toArray,?_,hs2⟩;have hg:¬ v.cells.size≠i.size:=by rw[hsz,←hv];simp
 have e2:P.cellsOf t=i.size:=by simp[Program.cellsOf,hi]
 simp only[j7,Instr.storeAt,Instr.sureAddr,storeVar,Sem.run_bind,Sem.run_pure,Result.andThen_ok,gK hi,Sem.run_ite,e2,if_neg hg,hv,hrun]
theorem IX:rl Tryz.prog 124 jJ [enc (default:ah),.int .i64 0,.bool false]:=⟨zU,fun c A a w D E Ns bs hP hs ak hA=>by
 have hta:∀ W,(Instr.typeAssert (.iface 176 (.agg #[])) 20 176 true).run Tryz.prog W=.ok (.tuple #[.agg #[],.bool true]) W:=fun W=>by
  simp[Instr.typeAssert,run_underlying Tryz.underlying176]
 obtain ⟨N1,N2,N3,rfl⟩:∃ a b c,Ns=[a,b,c]:=by
  match Ns,ak.len.2 with
  | [a,b,c],_=>exact ⟨a,b,c,rfl⟩
 obtain ⟨b1,b2,b3,rfl⟩:∃ a b c,bs=[a,b,c]:=by
  match bs,ak.len.1 with
  | [a,b,c],_=>exact ⟨a,b,c,rfl⟩
 obtain ⟨hE1,hE2,hE3,_⟩:=ak;obtain ⟨⟨x1,hx1,hsh1⟩,⟨x2,hx2,hsh2⟩,⟨x3,hx3,hsh3⟩,_⟩:=hA;refine callsDIn_of_wpSIn Tryz.func124 rfl trivial fun c₀ cs hu =>?_;apply wpSIn_seq;apply wpSIn_region;simp[wpOpsSIn,go_sem,recoverD,hu,Tryz.ntmps124,Exit.thenS,jJ];refine wpSIn_of_wpIn rfl (wpIn_block (wpIn_seq (wpIn_region_list ?_)));simp[wpListIn,go_sem];refine wpIn_cond (t:=false) (by simp[Act.eval,Array.replicate]) ?_;simp only[Z6,if_false];refine wpIn_seq (wpIn_region_list ?_);simp[wpListIn,go_sem,hta];refine wpIn_cond (t:=true) (by simp[Act.eval,Array.replicate]) ?_;simp only[if_true];refine wpIn_seq (wpIn_region_list ?_);simp[wpListIn,go_sem];refine wpIn_region_list ?_;have hb:Go.RowKit.Below w.heap.size w (w.alloc (Obj.cells #[] 176)):=jo _ _;have hs1:=hs.grow (D':=D) hb (fun _ _ h=>h) (fun _ _ h _=>h) (fun b o hd=>zx9 (hs.cN b o hd) hb.size);generalize w.alloc (Obj.cells #[] 176)=W1 at *;have nx:∀ {A:ab} {N M b d:Nat} {z y:I},E N=some (.aI b z.aL)→E M=some (.aI d y.aL)→(∃ x,A.o M=some (.box x)∧x.aL=y.aL)→∃ x,(A.aQ N (.box z)).o M=some (.box x)∧x.aL=y.aL:=by
  intro A N M b d z y h1 h2 ⟨x,h3,h4⟩;by_cases e:M=N
  ·subst e;rw[h1] at h2;simp only[v6,bx.aI.injEq] at h2;exact ⟨z,by simp[ab.aQ],h2.2⟩
  ·exact ⟨x,by simp[ab.aQ,e,h3],h4⟩
 obtain ⟨i50,hi50,hz50⟩:∃ i,Tryz.prog.info? 50=some i∧i.size=8:=by
  have h:(Tryz.prog.info? 50).map (·.size)=some 8:=by kernel_rfl
  obtain ⟨i,h1,h2⟩:=t7.1 h;exact ⟨i,h1,h2⟩
 obtain ⟨i3,hi3,hz3⟩:∃ i,Tryz.prog.info? 3=some i∧i.size=1:=by
  have h:(Tryz.prog.info? 3).map (·.size)=some 1:=by kernel_rfl
  obtain ⟨i,h1,h2⟩:=t7.1 h;exact ⟨i,h1,h2⟩
 obtain ⟨i4,hi4,hz4⟩:∃ i,Tryz.prog.info? 4=some i∧i.size=1:=by
  have h:(Tryz.prog.info? 4).map (·.size)=some 1:=by kernel_rfl
  obtain ⟨i,h1,h2⟩:=t7.1 h;exact ⟨i,h1,h2⟩
 obtain ⟨W2,hst1,hs2⟩:=xv (P:=Tryz.prog) (t:=50) (z:=enc (default:ah)) (v:=.agg #[.int .i64 0,.int .i64 0,.int .i64 0,.int .i64 0,.int .i64 0,.int .i64 0,.int .i64 0,.string ⟨#[]⟩]) hs1 hx1 hE1 hsh1
  (ds:=[.int .i64 0,.int .i64 0,.int .i64 0,.int .i64 0,.int .i64 0,.int .i64 0,.int .i64 0,.string ⟨#[]⟩]) (by
   show ae _ _ _ (.agg [.agg [.int .i64 0,.int .i64 0],.int .i64 0,.int .i64 0,.int .i64 0,.agg [.int .i64 0,.int .i64 0],.aj ⟨#[]⟩]) _
   simp only[ae,aC];refine ⟨[.int .i64 0,.int .i64 0],_,rfl,⟨[.int .i64 0],_,rfl,⟨rfl,by decide⟩,[.int .i64 0],_,rfl,⟨rfl,by decide⟩,rfl⟩,[.int .i64 0],_,rfl,⟨rfl,by decide⟩,[.int .i64 0],_,rfl,⟨rfl,by decide⟩,[.int .i64 0],_,rfl,⟨rfl,by decide⟩,[.int .i64 0,.int .i64 0],_,rfl,⟨[.int .i64 0],_,rfl,⟨rfl,by decide⟩,[.int .i64 0],_,rfl,⟨rfl,by decide⟩,rfl⟩,[.string ⟨#[]⟩],[],rfl,⟨rfl,by decide⟩,rfl⟩) rfl hi50 hz50
 obtain ⟨y2,hy2,hsh2'⟩:=nx hE1 hE2 ⟨x2,hx2,hsh2⟩;obtain ⟨W3,hst2,hs3⟩:=xv (P:=Tryz.prog) (t:=3) (z:=.int .i64 0) (v:=.int .i64 0) hs2 hy2 hE2 hsh2' (ds:=[.int .i64 0]) (by simp only[ae];exact ⟨trivial,by decide⟩) rfl hi3 hz3;obtain ⟨y3,hy3,hsh3'⟩:=nx hE2 hE3 (nx hE1 hE3 ⟨x3,hx3,hsh3⟩);obtain ⟨W4,hst3,hs4⟩:=xv (P:=Tryz.prog) (t:=4) (z:=.bool false) (v:=.bool false) hs3 hy3 hE3 hsh3' (ds:=[.bool false]) (by simp only[ae]) rfl hi4 hz4;have hbl:∀ W,(Instr.build 50 #[]).run Tryz.prog W=.ok (.agg #[.int .i64 0,.int .i64 0,.int .i64 0,.int .i64 0,.int .i64 0,.int .i64 0,.int .i64 0,.string ⟨#[]⟩]) W:=fun W=>by
  simp[Instr.build,Tryz.zeroValue50,Instr.fill,Value.cells]
 simp only[wpListIn,Region.wanted,if_true];refine XU (v:=.agg #[.int .i64 0,.int .i64 0,.int .i64 0,.int .i64 0,.int .i64 0,.int .i64 0,.int .i64 0,.string ⟨#[]⟩]) (by simp only[execOp,Array.map_empty,Sem.run_bind,hbl];rfl) ?_;refine wy (xt rfl (by simp[Act.eval,Act.put]) (by simp[Act.eval,Act.put]) hst1) ?_;refine wy (xt rfl (by simp[Act.eval,Act.put]) (by simp[Act.eval]) hst2) ?_;refine wy (xt rfl (by simp[Act.eval,Act.put]) (by simp[Act.eval]) hst3) ?_;simp[Exit.inBlock,bodyPostS,results,Tryz.results124,settle];exact ⟨rfl,hs4⟩⟩
end Go.Proofs.YtoffnnjbplgnaaaGreatDoor
namespace Go.Proofs.YtoffnnjbplgnaaaGreatDoor
open Go Go.Abs Go.Shelf Go.RowKit
open Go.Abs.Enc (enc)
def BW:Go.Shelf.Ren:=⟨fun | 166=>156 | 240=>173 | 276=>194 | n=>n,fun | 70=>203 | 9=>9 | 3=>3 | 75=>199 | 0=>0 | 72=>205 | 37=>45 | 4=>4 | 164=>237 | 80=>206 | 5=>5 | n=>n,fun | n=>n⟩
theorem Wo:Go.Proofs.Lays.n166 Tryz.prog BW := {
 mixed:=by kernel_rfl
 f166:=Tryz.func156.trans (congrArg some (by kernel_rfl))
 f240:=Tryz.func173.trans (congrArg some (by kernel_rfl))
 f276:=Tryz.func194.trans (congrArg some (by kernel_rfl))
 t0:=Tryz.underlying0
 a0:=Tryz.isAgg0
 z0:=Tryz.sizeOf0
 v0:=Tryz.zeroValue0
 t3:=Tryz.underlying3
 a3:=Tryz.isAgg3
 z3:=Tryz.sizeOf3
 v3:=Tryz.zeroValue3
 t4:=Tryz.underlying4
 a4:=Tryz.isAgg4
 z4:=Tryz.sizeOf4
 v4:=Tryz.zeroValue4
 t9:=Tryz.underlying9
 a9:=Tryz.isAgg9
 z9:=Tryz.sizeOf9
 v9:=Tryz.zeroValue9
 t20:=Tryz.underlying20
 a20:=Tryz.isAgg20
 z20:=Tryz.sizeOf20
 v20:=Tryz.zeroValue20
 t37:=Tryz.underlying45
 a37:=Tryz.isAgg45
 z37:=Tryz.sizeOf45
 v37:=Tryz.zeroValue45
 t70:=Tryz.underlying203
 a70:=Tryz.isAgg203
 z70:=Tryz.sizeOf203
 v70:=Tryz.zeroValue203
 t72:=Tryz.underlying205
 a72:=Tryz.isAgg205
 z72:=Tryz.sizeOf205
 v72:=Tryz.zeroValue205
 t75:=Tryz.underlying199
 a75:=Tryz.isAgg199
 z75:=Tryz.sizeOf199
 v75:=Tryz.zeroValue199
 t164:=Tryz.underlying237
 a164:=Tryz.isAgg237
 z164:=Tryz.sizeOf237
 v164:=Tryz.zeroValue237 }
def BX:Go.Shelf.Ren:=⟨fun | 169=>157 | n=>n,fun | 70=>203 | 9=>9 | 0=>0 | 72=>205 | 37=>45 | 127=>202 | 3=>3 | 5=>5 | n=>n,fun | n=>n⟩
theorem Wp:Go.Proofs.Lays.n169 Tryz.prog BX := {
 mixed:=by kernel_rfl
 f169:=Tryz.func157.trans (congrArg some (by kernel_rfl))
 t0:=Tryz.underlying0
 a0:=Tryz.isAgg0
 z0:=Tryz.sizeOf0
 v0:=Tryz.zeroValue0
 t3:=Tryz.underlying3
 a3:=Tryz.isAgg3
 z3:=Tryz.sizeOf3
 v3:=Tryz.zeroValue3
 t9:=Tryz.underlying9
 a9:=Tryz.isAgg9
 z9:=Tryz.sizeOf9
 v9:=Tryz.zeroValue9
 t37:=Tryz.underlying45
 a37:=Tryz.isAgg45
 z37:=Tryz.sizeOf45
 v37:=Tryz.zeroValue45
 t70:=Tryz.underlying203
 a70:=Tryz.isAgg203
 z70:=Tryz.sizeOf203
 v70:=Tryz.zeroValue203
 t72:=Tryz.underlying205
 a72:=Tryz.isAgg205
 z72:=Tryz.sizeOf205
 v72:=Tryz.zeroValue205
 t127:=Tryz.underlying202
 a127:=Tryz.isAgg202
 z127:=Tryz.sizeOf202
 v127:=Tryz.zeroValue202 }
theorem My:Builder.Extra Tryz.prog BW where
 sizeBuilder:=by kernel_rfl
 liesBuilder:=by kernel_rfl
 t5:=Tryz.underlying5
 a5:=Tryz.isAgg5
 z5:=Tryz.sizeOf5
 v5:=Tryz.zeroValue5
 infoByte:=by kernel_rfl
 cellsByte:=by kernel_rfl
 sizeByte:=by kernel_rfl
 neB5:=by decide
theorem Mz:Builder.Extra Tryz.prog BX where
 sizeBuilder:=by kernel_rfl
 liesBuilder:=by kernel_rfl
 t5:=Tryz.underlying5
 a5:=Tryz.isAgg5
 z5:=Tryz.sizeOf5
 v5:=Tryz.zeroValue5
 infoByte:=by kernel_rfl
 cellsByte:=by kernel_rfl
 sizeByte:=by kernel_rfl
 neB5:=by decide
abbrev kY(B b:Nat)(l:List UInt8)(w:World):Prop:=Lib.IsBuilderF 205 5 B b (Lib.byteCells l) w
abbrev ug(b:Nat)(w w':World):Prop:=Lib.OthersKept 5 (some b) w w'
theorem FD(B b:Nat)(l:List UInt8)(s:ByteArray)(w:World)(h:kY B b l w)(hlen:l.length+s.size≤140737488355328)(hB:B≤w.heap.size) :
  Calls Tryz.prog 156 #[.pointer (some ⟨b,0,none⟩),.string s] w fun e w'=>e=.returned (.tuple #[.int .i64 s.size,.nilIface])∧(kY B b (l++s.data.toList) w'∧Below B w w'∧ug b w w'):=by
 refine (Any.Builder_WriteString_k Wo My B b (Lib.byteCells l) s w h (by rw[Lib.byteCells_length];exact hlen) hB).mono ?_;rintro e w' ⟨rfl,h1,h2,h3⟩;refine ⟨rfl,.inr ?_,h2,h3⟩;rw[Lib.byteCells_append];exact h1
theorem yH(B b:Nat)(l:List UInt8)(w:World)(h:kY B b l w)(hB:B≤w.heap.size) :
  Calls Tryz.prog 157 #[.pointer (some ⟨b,0,none⟩)] w fun e w'=>e=.returned (.string ⟨l.toArray⟩)∧(kY B b l w'∧Below B w w'∧ug b w w'):=Any.Builder_String_any_k Wp Mz B b l w h hB
theorem VZ(n:Int)(h:IntKind.i64.min≤n∧n≤IntKind.i64.max)(W:World)(hl:eG Tryz.prog W (fun _=>False)):Calls Tryz.prog 132 #[.int .i64 n] W fun e w'=>e=.returned (.string ⟨(Lib.itoa n).toArray⟩)∧Below W.heap.size W w':=by
 have h3':-9223372036854775808≤n:=h.1;have h4':n≤9223372036854775807:=h.2;obtain ⟨_,htab,rfl⟩:=hl.r9 (n:=su) (k:=.tc) (g:=3) (by simp[mX]) (by kernel_rfl);refine (Any.strconv_Itoa BT n h3' h4' W htab).mono ?_;rintro e w' ⟨rfl,k,os,rfl⟩;exact ⟨rfl,uA W k os⟩
theorem BS{w wr:World}(hl:eG Tryz.prog w (fun _=>False))(h:Below w.heap.size w wr):eG Tryz.prog wr (fun _=>False) :=
 hl.BQ (M:=fun b=>w.heap.size≤b) ⟨h.os,h.tape,h.output,h.size,fun k hk=>h.block k (by omega)⟩ (fun b hb=>.inl hb) (fun b hb=>hb.elim)
theorem sq{B b:Nat}{l:List UInt8}{w w':World}(hI:kY B b l w)(h:Below w.heap.size w w'):kY B b l w':=by
 have key:∀ p,Lib.BuilderAtF 205 5 B b p (Lib.byteCells l) w→Lib.BuilderAtF 205 5 B b p (Lib.byteCells l) w':=by
  rintro p ⟨h1,v,h2,⟨h3,h4⟩,h5⟩;refine ⟨h1,v,(h.block b (eR h2)).trans h2,⟨h3,?_⟩,h5⟩;rcases h4 with h4 | ⟨g,cap,cur,fz,k1,k2,k3,k4⟩
  ·exact .inl h4
  ·exact .inr ⟨g,cap,cur,fz,k1,k2,(h.block g (eR k3)).trans k3,k4⟩
 exact hI.imp (key _) (key _)
theorem IW(a:List UInt8)(t:ByteArray):((⟨a.toArray⟩:ByteArray)++t)=⟨(a++t.data.toList).toArray⟩:=by
 apply ByteArray.ext;simp[ByteArray.data_append]
theorem YX(l:List Int)(n:Int):dH (l++[n])=dH l++(Lib.itoa n++[32]):=by simp[dH]
theorem Hu(m n k d kn om on:Int)(t:ByteArray)(w:World)(hl:eG Tryz.prog w (fun _=>False))(hbd:∀ x∈[m,n,k,d,kn,om,on],IntKind.i64.min≤x∧x≤IntKind.i64.max)(ht:t.size≤1000000000000) :
  Calls Tryz.prog 131 #[.agg #[.int .i64 m,.int .i64 n,.int .i64 k,.int .i64 d,.int .i64 kn,.int .i64 om,.int .i64 on,.string t]] w fun e w'=>e=.returned (.string ⟨(dH [m,n,k,d,kn,om,on]++t.data.toList).toArray⟩)∧Below w.heap.size w w':=by
 obtain ⟨vs,hvs⟩:∃ vs:List Int,vs=[m,n,k,d,kn,om,on]:=⟨_,rfl⟩
 have hvl:vs.length=7:=by rw[hvs];rfl
 rw[←hvs] at hbd;have hlen:∀ j,(dH (vs.take j)).length≤22*j:=by
  intro j;have:∀ l:List Int,(∀ x∈l,IntKind.i64.min≤x∧x≤IntKind.i64.max)→(dH l).length≤22*l.length:=by
   intro l
   induction l with
   |nil=>intro _;simp[dH]
   |cons x l ih =>
    intro h;have h1:=ih fun y hy=>h y (by simp[hy]);have h2:=Lib.itoa_length_le x (h x (by simp)).1 (h x (by simp)).2;simp only[dH] at h1;simp only[dH,List.flatMap_cons,Z1,zx1,zy9];omega
  have h3:=this (vs.take j) fun x hx=>hbd x (List.mem_of_mem_take hx);have h4:(vs.take j).length≤j:=by rw[zz1];omega
  omega
 go_enter Tryz.func131,Tryz.ntmps131
 go_wp2
 go_loopw [26] (fun i wr=>∃ j:Nat,j≤7∧i=.int .i64 j∧kY w.heap.size (w.heap.size+1) (dH (vs.take j)) wr∧wr.heap[w.heap.size]?=some (.cells #[.int .i64 m,.int .i64 n,.int .i64 k,.int .i64 d,.int .i64 kn,.int .i64 om,.int .i64 on,.string t] 50) ∧
  wr.heap[w.heap.size+1+1]?=some (.cells (vs.map (Value.int .i64)).toArray 3)∧Below w.heap.size w wr) (fun i _=>7-(RowKit.intOf i).toNat)
 case atStart =>
  obtain ⟨c1,hc1⟩:∃ c1,c1=Obj.cells #[.int .i64 m,.int .i64 n,.int .i64 k,.int .i64 d,.int .i64 kn,.int .i64 om,.int .i64 on,.string t] 50:=⟨_,rfl⟩
  have hv0:(#[.int .i64 m,.int .i64 n,.int .i64 k,.int .i64 d,.int .i64 kn,.int .i64 om,.int .i64 on]:Array Value)=(vs.map (Value.int .i64)).toArray:=by rw[hvs];rfl
  rw[←hc1,hv0];obtain ⟨w1,hw1⟩:∃ w1,w1=w.alloc c1:=⟨_,rfl⟩
  obtain ⟨w2,hw2⟩:∃ w2,w2=w1.alloc (Obj.cells #[Value.pointer none,Value.slice none 0 0] 205):=⟨_,rfl⟩
  obtain ⟨w3,hw3⟩:∃ w3,w3=w2.alloc (Obj.cells (vs.map (Value.int .i64)).toArray 3):=⟨_,rfl⟩
  have s1:w1.heap.size=w.heap.size+1:=by rw[hw1];simp
  have s2:w2.heap.size=w.heap.size+1+1:=by rw[hw2];simp[s1]
  have b1:Below w.heap.size w w1:=hw1▸jo w c1;have b2:Below w1.heap.size w1 w2:=hw2▸jo w1 _;have b3:Below w2.heap.size w2 w3:=hw3▸jo w2 _;have e1:w1.heap[w.heap.size]?=some c1:=hw1▸heap_alloc_new w c1;have e2:w2.heap[w1.heap.size]?=some (Obj.cells #[Value.pointer none,Value.slice none 0 0] 205):=hw2▸heap_alloc_new w1 _;have e3:w3.heap[w2.heap.size]?=some (Obj.cells (vs.map (Value.int .i64)).toArray 3):=hw3▸heap_alloc_new w2 _;rw[←hw1,←hw2,←hw3];refine ⟨0,by omega,rfl,.inl ⟨by omega,.slice none 0 0,?_,⟨rfl,.inl ⟨rfl,rfl⟩⟩,by simp[Value.ownBlock]⟩,?_,?_,?_⟩
  ·rw[b3.block _ (by omega),←s1];exact e2
  ·rw[b3.block _ (by omega),b2.block _ (by omega)];exact e1
  ·rw[←s2];exact e3
  ·exact (b1.trans (b2.mono (by omega))).trans (b3.mono (by omega))
 case round =>
  obtain ⟨j,hj,rfl,hI,hr,hv,hbw⟩:=hrel;have hB1:w.heap.size≤wr.heap.size:=hbw.size;by_cases hlt:j<7
  ·have hjv:j<vs.length:=by omega
   have hc:wr.cell? ⟨w.heap.size+1+1,j,none⟩=some (.int .i64 vs[j]):=by
    simp[World.cell?,hv,hjv]
   have hbx:=hbd vs[j] (zw0 hjv);have jS:=Lib.itoa_length_le vs[j] hbx.1 hbx.2;have hj2:=hlen j;have htk:dH (vs.take (j+1))=dH (vs.take j)++(Lib.itoa vs[j]++[32]):=by rw[List.take_succ_eq_append_getElem hjv,YX]
   generalize vs[j]=x at *;have hsz:((⟨(Lib.itoa x).toArray⟩:ByteArray)++⟨#[32]⟩).size=(Lib.itoa x).length+1:=by rw[ByteArray.size_append];rfl
   have hdat:((⟨(Lib.itoa x).toArray⟩:ByteArray)++⟨#[32]⟩).data.toList=Lib.itoa x++[32]:=by simp
   have hlt':decide ((j:Int)<7)=true:=by simp;omega
   have hw:=eO (i:=j) (by omega)
   go_wp2_with (first | (go_at_call 132;refine (VZ x hbx _ (BS hl hbw)).mono ?_;rintro e W1 ⟨rfl,hb1⟩) | (go_at_call 156;refine (FD w.heap.size (w.heap.size+1) _ _ _ (sq hI hb1) (by rw[hsz];omega) (by have:=hb1.size;omega)).mono ?_;rintro e W2 ⟨rfl,hI2,hb2,hk2⟩))
   have q1:w.heap.size<wr.heap.size:=eR hr;have q2:w.heap.size+1+1<wr.heap.size:=eR hv;refine ⟨⟨j+1,by omega,rfl,?_,?_,?_,?_⟩,by simp only[RowKit.intOf];omega⟩
   ·rw[htk];rw[hdat] at hI2;exact hI2
   ·exact hk2 _ _ ((hb1.block _ q1).trans hr) (by simp) (fun c fz e=>by cases e)
   ·exact hk2 _ _ ((hb1.block _ q2).trans hv) (by simp) (fun c fz e=>by cases e)
   ·exact (hbw.trans (hb1.mono hB1)).trans hb2
  ·have hj7:j=7:=by omega
   subst hj7;have hlt':decide (((7:Nat):Int)<7)=false:=by decide
   rw[zx3 (by omega)] at hI;have hcr:wr.cell? ⟨w.heap.size,7,none⟩=some (.string t):=by simp[World.cell?,hr]
   have q1:w.heap.size<wr.heap.size:=eR hr
   go_wp2
   have hI1:kY w.heap.size (w.heap.size+1) (dH vs) wr.drew:=sq hI ⟨rfl,rfl,rfl,Z4 _,fun _ _=>rfl⟩;have hcd:wr.drew.cell? ⟨w.heap.size,7,none⟩=some (.string t):=hcr;have bd:∀ W2,ug (w.heap.size+1) wr.drew W2→W2.cell? ⟨w.heap.size,7,none⟩=some (.string t):=fun W2 hk=>by
    have:=hk _ _ hr (by simp) (fun c fz e=>by cases e);simp[World.cell?,this]
   have hl7:=hlen 7;rw[zx3 (by omega)] at hl7;have hsum:¬ (9223372036854775807<(⟨(dH vs).toArray⟩:ByteArray).size+t.size):=by
    have e1:(⟨(dH vs).toArray⟩:ByteArray).size=(dH vs).length:=by show (dH vs).toArray.size=_;simp
    rw[e1];omega
   have hdr:Below w.heap.size wr wr.drew:=⟨rfl,rfl,rfl,Z4 _,fun _ _=>rfl⟩
   have hcall:=yH w.heap.size (w.heap.size+1) _ _ hI1 (by show _≤wr.heap.size;omega);generalize hS:(⟨(dH vs).toArray⟩:ByteArray)=S at *
   go_region_with (go_at_call 157;refine (hcall).mono ?_;rintro e W2 ⟨rfl,hI2,hb2,hk2⟩;have hc2:=bd W2 hk2)
   all_goals go_wp2
   all_goals go_ret
   all_goals refine ⟨?_,(hbw.trans hdr).trans hb2⟩
   all_goals rw[←hvs,←hS,IW]
   all_goals rfl
theorem Ed{w:World}{D:aK}{E:aN}{r:ah}{v:Value}(h:aR w D E (enc r) v):v=.agg #[.int .i64 r.aJ,.int .i64 r.no,.int .i64 r.kind,.int .i64 r.dY,.int .i64 r.known,.int .i64 r.fo,.int .i64 r.fE,.string ⟨r.text.toArray⟩] ∧
  (∀ x∈eL r,IntKind.i64.min≤x∧x≤IntKind.i64.max)∧r.text.length≤maxLen:=by
 obtain ⟨cs,h1,h2⟩:=h;have h2':ae w D E (.agg [.agg [.int .i64 r.aJ,.int .i64 r.no],.int .i64 r.kind,.int .i64 r.dY,.int .i64 r.known,.agg [.int .i64 r.fo,.int .i64 r.fE],.aj ⟨r.text.toArray⟩]) cs:=h2;simp only[ae,aC] at h2';obtain ⟨_,_,rfl,⟨_,_,rfl,⟨rfl,a1⟩,_,_,rfl,⟨rfl,a2⟩,rfl⟩,_,_,rfl,⟨rfl,a3⟩,_,_,rfl,⟨rfl,a4⟩,_,_,rfl,⟨rfl,a5⟩,_,_,rfl,⟨_,_,rfl,⟨rfl,a6⟩,_,_,rfl,⟨rfl,a7⟩,rfl⟩,_,_,rfl,⟨rfl,a8⟩,rfl⟩:=h2';refine ⟨h1,?_,by simpa[ByteArray.size] using a8⟩;intro x hx;simp only[eL,zy8,List.not_mem_nil,or_false] at hx;rcases hx with rfl | rfl | rfl | rfl | rfl | rfl | rfl <;>assumption
theorem FU(r:ah)(hs:r.text.length≤1000000000000):aS Tryz.prog 131 [enc r] (enc (av.of (dm r))):=by
 refine ⟨HO,fun w D vs hl hD hv =>?_⟩;have hv':=hv;simp only[al] at hv';obtain ⟨v,rest,cs,rfl,h1,h2,rfl⟩:=hv';obtain ⟨rfl,hb,_⟩:=Ed (fK h1 h2);refine (Hu _ _ _ _ _ _ _ ⟨r.text.toArray⟩ w hl hb (by show r.text.toArray.size≤_;simpa using hs)).mono ?_;rintro e w' ⟨rfl,hbl⟩;have hlen:(dm r).length≤1000000001000:=by
  have:∀ l:List Int,(∀ x∈l,IntKind.i64.min≤x∧x≤IntKind.i64.max)→(dH l).length≤22*l.length:=by
   intro l
   induction l with
   |nil=>intro _;simp[dH]
   |cons x l ih =>
    intro h;have h1:=ih fun y hy=>h y (by simp[hy]);have h2:=Lib.itoa_length_le x (h x (by simp)).1 (h x (by simp)).2;simp only[dH] at h1;simp only[dH,List.flatMap_cons,Z1,zx1,zy9];omega
  have h3:=this (eL r) hb;have h4:(eL r).length=7:=rfl;rw[dm,Z1];omega
 exact ⟨_,D,rfl,EE (l:=dm r) (by unfold maxLen;omega),hbl,fun b o hd=>zx9 (hD b o hd) hbl.size,fun _ _ h _=>h⟩
end Go.Proofs.YtoffnnjbplgnaaaGreatDoor
namespace Go.Proofs.YtoffnnjbplgnaaaGreatDoor
open Go Go.Abs
open Go.Abs.Enc (enc)
def gw(c:UInt8):Bool := !(decide ((c.toNat:Int)<32)||(decide ((c.toNat:Int)>126)||((c.toNat:Int)==63)))
def gG(t:List UInt8):Bool:=decide (t.length≤160)&&t.all gw
theorem CA{t:List UInt8}{i:Nat}(h:i<t.length)(h1:(t.take i).all gw=true):(gw t[i]=true→(t.take (i+1)).all gw=true)∧(gw t[i]=false→t.all gw=false):=by
 refine ⟨fun h2 =>?_,fun h2 =>?_⟩
 ·rw[List.take_succ_eq_append_getElem h,List.all_append,h1];simp[h2]
 ·rw[List.all_eq_false];exact ⟨t[i],zw0 h,by simp[h2]⟩
theorem pb(t:List UInt8):mh (enc (av.of t))=some (.int .i64 (t.length:Int)):=by rw[qR,av.dG]
theorem ES(t:List UInt8){i:Nat}(h:i<t.length):ez .dJ [enc (av.of t),.int .i64 (i:Int)]=some (.int .u8 (t[i].toNat:Int)):=ER (av.of t) h
theorem xa(t:List UInt8):lK (enc (av.of t))=some (t.map enc):=rfl
theorem FT(t:List UInt8):aS Tryz.prog 130 [enc (av.of t)] (enc (gG t)):=by
 refine aS.bT Tryz.func130 HN I6 Kn (t8 rfl) (fun hwf W0 bI E1 =>?_);simp only[yX,C6,bF];clear hwf;have hl:=pb t;have hsb:=xa t;rcases q:decide ((t.length:Int)>160)
 rotate_left
 ·have h1:(t.length:Int)>160:=of_decide_eq_true q;rw[show gG t=false by simp only[gG];rw[decide_eq_false (by omega)];rfl];have R:=y6 @hl (y6 @q (y6 @bu aD))
  repeat' ((first |(with_reducible refine .guard (fun hb =>?_) (fun hb =>?_) <;>try simp only[hb])|refine U.aG (by decide +kernel) rfl fun K hK =>?_|(refine .aE [0,2,4,7,9,10,11,12,24] hK ?_;clear hK K)|(with_reducible refine .done (hK _ ?_);clear hK K)|refine U.of rfl ?_|(with_reducible refine aw.aF (fun h =>?_) (fun h =>?_) <;>try simp only[h])) <;>try simp only[aH,R,simprocAttr])
  all_goals clear R
  all_goals rfl
 have h1:¬ (t.length:Int)>160:=of_decide_eq_false q;rw[show gG t=t.all gw by simp only[gG];rw[decide_eq_true (by omega)];rfl];have R:=y6 @hl (y6 @hsb (y6 @q (y6 @bu (y6 @iB aD))))
 repeat' ((first |(with_reducible refine .guard (fun hb =>?_) (fun hb =>?_) <;>try simp only[hb])|refine aY.eM rfl fun m =>?_|refine U.aG (by decide +kernel) rfl fun K hK =>?_|(refine .aE [0,2,4,7,9,10,11,12,24] hK ?_;clear hK K)|(with_reducible refine .done (hK _ ?_);clear hK K)|refine U.of rfl ?_|(with_reducible refine aw.aF (fun h =>?_) (fun h =>?_) <;>try simp only[h])) <;>try simp only[aH,R,simprocAttr])
 all_goals clear R
 refine U.loop (fun i:Nat=>aq [(0,enc (av.of t)),(9,enc t),(10,.int .i64 t.length),(11,.int .i64 i)] []) (fun i=>i≤t.length∧(t.take i).all gw=true) (fun i=>t.length-i) 0 ⟨zx8 _,rfl⟩ ?_ ?_
 ·refine bg.mT [9] 9 (x:=.view 9 [] 1 0 t.length) (y:=enc t) rfl (AT rfl) ?_ ?_ ?_ ?_ ?_ <;>simp[dD,bE,bK,bO,bG,ib,bN,I.only,br]
 rintro i ⟨hi,hok⟩;by_cases hlt:i<t.length
 ·have hlc:=e9 hlt;have he:=fun A=>eS (A:=A) 1 hlt rfl;have hw:=eO (i:=i) (by omega);obtain ⟨h2,h3⟩:=CA hlt hok;generalize t[i]=c at *;rcases q1:decide ((c.toNat:Int)<32)
  rotate_left
  ·rw[h3 (by simp[gw,q1])];have R:=y6 @hl (y6 @hlc (y6 @he (y6 @hw (y6 @q1 (y6 @qT (y6 @bu aD))))))
   repeat' ((first |(with_reducible refine .guard (fun hb =>?_) (fun hb =>?_) <;>try simp only[hb])|refine U.aG (by decide +kernel) rfl fun K hK =>?_|(refine .aE [0,2,4,7,9,10,11,12,24] hK ?_;clear hK K)|(with_reducible refine .done (hK _ ?_);clear hK K)|refine U.of rfl ?_|(with_reducible refine aw.aF (fun h =>?_) (fun h =>?_) <;>try simp only[h])) <;>try simp only[aH,R,simprocAttr])
   all_goals clear R
   all_goals rfl
  rcases q2:decide ((c.toNat:Int)>126)
  rotate_left
  ·rw[h3 (by simp only[gw,q1,q2];rfl)];have R:=y6 @hl (y6 @hlc (y6 @he (y6 @hw (y6 @q1 (y6 @q2 (y6 @qT (y6 @bu aD)))))))
   repeat' ((first |(with_reducible refine .guard (fun hb =>?_) (fun hb =>?_) <;>try simp only[hb])|refine U.aG (by decide +kernel) rfl fun K hK =>?_|(refine .aE [0,2,4,7,9,10,11,12,24] hK ?_;clear hK K)|(with_reducible refine .done (hK _ ?_);clear hK K)|refine U.of rfl ?_|(with_reducible refine aw.aF (fun h =>?_) (fun h =>?_) <;>try simp only[h])) <;>try simp only[aH,R,simprocAttr])
   all_goals clear R
   all_goals rfl
  rcases q3:((c.toNat:Int)==63)
  rotate_left
  ·rw[h3 (by simp only[gw,q1,q2,q3];rfl)];have R:=y6 @hl (y6 @hlc (y6 @he (y6 @hw (y6 @q1 (y6 @q2 (y6 @q3 (y6 @qT (y6 @bu aD))))))))
   repeat' ((first |(with_reducible refine .guard (fun hb =>?_) (fun hb =>?_) <;>try simp only[hb])|refine U.aG (by decide +kernel) rfl fun K hK =>?_|(refine .aE [0,2,4,7,9,10,11,12,24] hK ?_;clear hK K)|(with_reducible refine .done (hK _ ?_);clear hK K)|refine U.of rfl ?_|(with_reducible refine aw.aF (fun h =>?_) (fun h =>?_) <;>try simp only[h])) <;>try simp only[aH,R,simprocAttr])
   all_goals clear R
   all_goals rfl
  have h4:=h2 (by simp only[gw,q1,q2,q3];rfl);have R:=y6 @hl (y6 @hlc (y6 @he (y6 @hw (y6 @q1 (y6 @q2 (y6 @q3 (y6 @qT (y6 @bu aD))))))))
  repeat' ((first |(with_reducible refine .guard (fun hb =>?_) (fun hb =>?_) <;>try simp only[hb])|refine U.aG (by decide +kernel) rfl fun K hK =>?_|(refine .aE [0,2,4,7,9,10,11,12,24] hK ?_;clear hK K)|(with_reducible refine .done (hK _ ?_);clear hK K)|refine U.of rfl ?_|(with_reducible refine aw.aF (fun h =>?_) (fun h =>?_) <;>try simp only[h])) <;>try simp only[aH,R,simprocAttr])
  all_goals clear R
  refine ⟨i+1,⟨by omega,h4⟩,by omega,?_⟩;clear h2 h3 h4 hok;refine bg.bZ ?_ ?_ ?_ ?_ <;>simp[bK,bO,bG,bE,bN,I.only,br]
 ·have hlc:=fB hlt;have hge:i=t.length:=by omega
  rw[hge,List.take_length] at hok;rw[hok];have R:=y6 @hl (y6 @hlc (y6 @bu aD))
  repeat' ((first |(with_reducible refine .guard (fun hb =>?_) (fun hb =>?_) <;>try simp only[hb])|refine U.aG (by decide +kernel) rfl fun K hK =>?_|(refine .aE [0,2,4,7,9,10,11,12,24] hK ?_;clear hK K)|(with_reducible refine .done (hK _ ?_);clear hK K)|refine U.of rfl ?_|(with_reducible refine aw.aF (fun h =>?_) (fun h =>?_) <;>try simp only[h])) <;>try simp only[aH,R,simprocAttr])
  all_goals clear R
  all_goals rfl
theorem Gj(t:List UInt8):aS Tryz.prog 86 [enc (av.of t)] (enc (gG t)):=by
 refine aS.bT Tryz.func86 IG JP K8 (t8 rfl) (fun hwf W0 bI E1 =>?_);simp only[zK,DT,bF];clear hwf;have hl:=pb t;rcases q:decide ((t.length:Int)>160)
 rotate_left
 ·have h1:(t.length:Int)>160:=of_decide_eq_true q;rw[show gG t=false by simp only[gG];rw[decide_eq_false (by omega)];rfl];have R:=y6 @hl (y6 @q (y6 @bu aD))
  repeat' ((first |(with_reducible refine .guard (fun hb =>?_) (fun hb =>?_) <;>try simp only[hb])|refine U.aG (by decide +kernel) rfl fun K hK =>?_|(refine .aE [0,2,3,6,10,28] hK ?_;clear hK K)|(with_reducible refine .done (hK _ ?_);clear hK K)|refine U.of rfl ?_|(with_reducible refine aw.aF (fun h =>?_) (fun h =>?_) <;>try simp only[h])) <;>try simp only[aH,R,simprocAttr])
  all_goals clear R
  all_goals rfl
 have h1:¬ (t.length:Int)>160:=of_decide_eq_false q;rw[show gG t=t.all gw by simp only[gG];rw[decide_eq_true (by omega)];rfl];have R:=y6 @hl (y6 @q (y6 @bu aD))
 repeat' ((first |(with_reducible refine .guard (fun hb =>?_) (fun hb =>?_) <;>try simp only[hb])|refine U.aG (by decide +kernel) rfl fun K hK =>?_|(refine .aE [0,2,3,6,10,28] hK ?_;clear hK K)|(with_reducible refine .done (hK _ ?_);clear hK K)|refine U.of rfl ?_|(with_reducible refine aw.aF (fun h =>?_) (fun h =>?_) <;>try simp only[h])) <;>try simp only[aH,R,simprocAttr])
 all_goals clear R
 refine U.loop (fun i:Nat=>aq [(0,enc (av.of t)),(3,.int .i64 i)] []) (fun i=>i≤t.length∧(t.take i).all gw=true) (fun i=>t.length-i) 0 ⟨zx8 _,rfl⟩ ?_ ?_
 ·refine bg.bZ ?_ ?_ ?_ ?_ <;>simp[bK,bO,bG,bE,bN,I.only,br]
 rintro i ⟨hi,hok⟩;by_cases hlt:i<t.length
 ·have hlc:=e9 hlt;have he:=ES t hlt;have hw:=eO (i:=i) (by omega);obtain ⟨h2,h3⟩:=CA hlt hok;generalize t[i]=c at *;rcases q1:decide ((c.toNat:Int)<32)
  rotate_left
  ·rw[h3 (by simp[gw,q1])];have R:=y6 @hl (y6 @hlc (y6 @he (y6 @hw (y6 @q1 (y6 @bu aD)))))
   repeat' ((first |(with_reducible refine .guard (fun hb =>?_) (fun hb =>?_) <;>try simp only[hb])|refine U.aG (by decide +kernel) rfl fun K hK =>?_|(refine .aE [0,2,3,6,10,28] hK ?_;clear hK K)|(with_reducible refine .done (hK _ ?_);clear hK K)|refine U.of rfl ?_|(with_reducible refine aw.aF (fun h =>?_) (fun h =>?_) <;>try simp only[h])) <;>try simp only[aH,R,simprocAttr])
   all_goals clear R
   all_goals rfl
  rcases q2:decide ((c.toNat:Int)>126)
  rotate_left
  ·rw[h3 (by simp only[gw,q1,q2];rfl)];have R:=y6 @hl (y6 @hlc (y6 @he (y6 @hw (y6 @q1 (y6 @q2 (y6 @bu aD))))))
   repeat' ((first |(with_reducible refine .guard (fun hb =>?_) (fun hb =>?_) <;>try simp only[hb])|refine U.aG (by decide +kernel) rfl fun K hK =>?_|(refine .aE [0,2,3,6,10,28] hK ?_;clear hK K)|(with_reducible refine .done (hK _ ?_);clear hK K)|refine U.of rfl ?_|(with_reducible refine aw.aF (fun h =>?_) (fun h =>?_) <;>try simp only[h])) <;>try simp only[aH,R,simprocAttr])
   all_goals clear R
   all_goals rfl
  rcases q3:((c.toNat:Int)==63)
  rotate_left
  ·rw[h3 (by simp only[gw,q1,q2,q3];rfl)];have R:=y6 @hl (y6 @hlc (y6 @he (y6 @hw (y6 @q1 (y6 @q2 (y6 @q3 (y6 @bu aD)))))))
   repeat' ((first |(with_reducible refine .guard (fun hb =>?_) (fun hb =>?_) <;>try simp only[hb])|refine U.aG (by decide +kernel) rfl fun K hK =>?_|(refine .aE [0,2,3,6,10,28] hK ?_;clear hK K)|(with_reducible refine .done (hK _ ?_);clear hK K)|refine U.of rfl ?_|(with_reducible refine aw.aF (fun h =>?_) (fun h =>?_) <;>try simp only[h])) <;>try simp only[aH,R,simprocAttr])
   all_goals clear R
   all_goals rfl
  have h4:=h2 (by simp only[gw,q1,q2,q3];rfl);have R:=y6 @hl (y6 @hlc (y6 @he (y6 @hw (y6 @q1 (y6 @q2 (y6 @q3 (y6 @bu aD)))))))
  repeat' ((first |(with_reducible refine .guard (fun hb =>?_) (fun hb =>?_) <;>try simp only[hb])|refine U.aG (by decide +kernel) rfl fun K hK =>?_|(refine .aE [0,2,3,6,10,28] hK ?_;clear hK K)|(with_reducible refine .done (hK _ ?_);clear hK K)|refine U.of rfl ?_|(with_reducible refine aw.aF (fun h =>?_) (fun h =>?_) <;>try simp only[h])) <;>try simp only[aH,R,simprocAttr])
  all_goals clear R
  refine ⟨i+1,⟨by omega,h4⟩,by omega,?_⟩;clear h2 h3 h4 hok;refine bg.bZ ?_ ?_ ?_ ?_ <;>simp[bK,bO,bG,bE,bN,I.only,br]
 ·have hlc:=fB hlt;have hge:i=t.length:=by omega
  rw[hge,List.take_length] at hok;rw[hok];have R:=y6 @hl (y6 @hlc (y6 @bu aD))
  repeat' ((first |(with_reducible refine .guard (fun hb =>?_) (fun hb =>?_) <;>try simp only[hb])|refine U.aG (by decide +kernel) rfl fun K hK =>?_|(refine .aE [0,2,3,6,10,28] hK ?_;clear hK K)|(with_reducible refine .done (hK _ ?_);clear hK K)|refine U.of rfl ?_|(with_reducible refine aw.aF (fun h =>?_) (fun h =>?_) <;>try simp only[h])) <;>try simp only[aH,R,simprocAttr])
  all_goals clear R
  all_goals rfl
def nh(r:ah):Bool:=(r.dY==0)&&(decide (r.text=[])&&(il r.fS&&((r.fo==r.aJ)&&decide (r.fE<r.no))))
def fT(r:ah):Bool:=il r.bf&&(ew 0 40 r.kind&&(ew 0 100000 r.dY&&(ew 0 100000 r.known&&gG r.text)))
def bn(r:ah):Bool:=fT r&&(if r.kind=0 then nh r else decide (r.fS=⟨0,0⟩))
theorem iF:(I.aj ⟨#[]⟩)=enc (av.of []):=rfl
theorem pT:(I.agg [.int .i64 0,.int .i64 0])=enc (⟨0,0⟩:Item):=rfl
theorem lL(a b:List UInt8):bL .eql (enc (av.of a)) (enc (av.of b))=some (.bool (decide (a=b))):=by rw[w8];simp only[av.sV]
theorem iO(a b:List UInt8):bL .neq (enc (av.of a)) (enc (av.of b))=some (.bool (!decide (a=b))):=by rw[w9];simp only[av.sV]
theorem pB(r:ah):aS Tryz.prog 80 [enc r] (enc (bn r)):=by
 refine aS.bT Tryz.func80 IB JK K3 (t8 rfl) (fun hwf W0 bI E1 =>?_);simp only[c80,DO,bF];clear hwf;have f1:=xP r.bf;have f2:=mE r.kind 0 40;have f3:=xN r.dY;have f4:=xN r.known;have f5:=FT r.text;have f6:=xP r.fS;cases q1:il r.bf
 ·rw[q1] at f1;rw[show bn r=false by simp only[bn,fT,q1,Bool.false_and]];have R:=y6 @q1 (y6 @bu aD)
  repeat' ((first |(with_reducible refine .guard (fun hb =>?_) (fun hb =>?_) <;>try simp only[hb])|refine U.aG (by decide +kernel) rfl fun K hK =>?_|refine .flat _ (f1) rfl ?_|refine .flat _ (f2) rfl ?_|refine .flat _ (f3) rfl ?_|refine .flat _ (f4) rfl ?_|refine .flat _ (f5) rfl ?_|(refine .aE [0,1,2,30,33] hK ?_;clear hK K)|(with_reducible refine .done (hK _ ?_);clear hK K)|refine U.of rfl ?_|(with_reducible refine aw.aF (fun h =>?_) (fun h =>?_) <;>try simp only[h])) <;>try simp only[aH,R,simprocAttr])
  all_goals clear R
  all_goals rfl
 rw[q1] at f1;cases q2:ew 0 40 r.kind
 ·rw[q2] at f2;rw[show bn r=false by simp only[bn,fT,q1,q2,Bool.false_and,Bool.and_false]];have R:=y6 @bu aD
  repeat' ((first |(with_reducible refine .guard (fun hb =>?_) (fun hb =>?_) <;>try simp only[hb])|refine U.aG (by decide +kernel) rfl fun K hK =>?_|refine .flat _ (f1) rfl ?_|refine .flat _ (f2) rfl ?_|refine .flat _ (f3) rfl ?_|refine .flat _ (f4) rfl ?_|refine .flat _ (f5) rfl ?_|(refine .aE [0,1,2,30,33] hK ?_;clear hK K)|(with_reducible refine .done (hK _ ?_);clear hK K)|refine U.of rfl ?_|(with_reducible refine aw.aF (fun h =>?_) (fun h =>?_) <;>try simp only[h])) <;>try simp only[aH,R,simprocAttr])
  all_goals clear R
  all_goals rfl
 rw[q2] at f2;cases q3:ew 0 100000 r.dY
 ·rw[q3] at f3;rw[show bn r=false by simp only[bn,fT,q1,q2,q3,Bool.false_and,Bool.and_false]];have R:=y6 @bu aD
  repeat' ((first |(with_reducible refine .guard (fun hb =>?_) (fun hb =>?_) <;>try simp only[hb])|refine U.aG (by decide +kernel) rfl fun K hK =>?_|refine .flat _ (f1) rfl ?_|refine .flat _ (f2) rfl ?_|refine .flat _ (f3) rfl ?_|refine .flat _ (f4) rfl ?_|refine .flat _ (f5) rfl ?_|(refine .aE [0,1,2,30,33] hK ?_;clear hK K)|(with_reducible refine .done (hK _ ?_);clear hK K)|refine U.of rfl ?_|(with_reducible refine aw.aF (fun h =>?_) (fun h =>?_) <;>try simp only[h])) <;>try simp only[aH,R,simprocAttr])
  all_goals clear R
  all_goals rfl
 rw[q3] at f3;cases q4:ew 0 100000 r.known
 ·rw[q4] at f4;rw[show bn r=false by simp only[bn,fT,q1,q2,q3,q4,Bool.false_and,Bool.and_false]];have R:=y6 @bu aD
  repeat' ((first |(with_reducible refine .guard (fun hb =>?_) (fun hb =>?_) <;>try simp only[hb])|refine U.aG (by decide +kernel) rfl fun K hK =>?_|refine .flat _ (f1) rfl ?_|refine .flat _ (f2) rfl ?_|refine .flat _ (f3) rfl ?_|refine .flat _ (f4) rfl ?_|refine .flat _ (f5) rfl ?_|(refine .aE [0,1,2,30,33] hK ?_;clear hK K)|(with_reducible refine .done (hK _ ?_);clear hK K)|refine U.of rfl ?_|(with_reducible refine aw.aF (fun h =>?_) (fun h =>?_) <;>try simp only[h])) <;>try simp only[aH,R,simprocAttr])
  all_goals clear R
  all_goals rfl
 rw[q4] at f4;cases q5:gG r.text
 ·rw[q5] at f5;rw[show bn r=false by simp only[bn,fT,q1,q2,q3,q4,q5,Bool.false_and,Bool.and_false]];have R:=y6 @bu aD
  repeat' ((first |(with_reducible refine .guard (fun hb =>?_) (fun hb =>?_) <;>try simp only[hb])|refine U.aG (by decide +kernel) rfl fun K hK =>?_|refine .flat _ (f1) rfl ?_|refine .flat _ (f2) rfl ?_|refine .flat _ (f3) rfl ?_|refine .flat _ (f4) rfl ?_|refine .flat _ (f5) rfl ?_|(refine .aE [0,1,2,30,33] hK ?_;clear hK K)|(with_reducible refine .done (hK _ ?_);clear hK K)|refine U.of rfl ?_|(with_reducible refine aw.aF (fun h =>?_) (fun h =>?_) <;>try simp only[h])) <;>try simp only[aH,R,simprocAttr])
  all_goals clear R
  all_goals rfl
 rw[q5] at f5;have hH:fT r=true:=by simp only[fT,q1,q2,q3,q4,q5,Bool.and_self]
 cases k:(r.kind==0)
 ·rw[show bn r=decide (r.fS=⟨0,0⟩) by simp only[bn,hH,Bool.true_and];rw[if_neg (by simpa using k)]];have R:=y6 @k (y6 @pT (y6 @bu aD))
  repeat' ((first |(with_reducible refine .guard (fun hb =>?_) (fun hb =>?_) <;>try simp only[hb])|refine U.aG (by decide +kernel) rfl fun K hK =>?_|refine .flat _ (f1) rfl ?_|refine .flat _ (f2) rfl ?_|refine .flat _ (f3) rfl ?_|refine .flat _ (f4) rfl ?_|refine .flat _ (f5) rfl ?_|(refine .aE [0,1,2,30,33] hK ?_;clear hK K)|(with_reducible refine .done (hK _ ?_);clear hK K)|refine U.of rfl ?_|(with_reducible refine aw.aF (fun h =>?_) (fun h =>?_) <;>try simp only[h])) <;>try simp only[aH,R,simprocAttr])
  all_goals clear R
  all_goals rfl
 rw[show bn r=nh r by simp only[bn,hH,Bool.true_and];rw[if_pos (by simpa using k)]];simp only[nh];cases w1:(r.dY==0)
 ·have R:=y6 @k (y6 @w1 (y6 @iF (y6 @lL (y6 @bu aD))))
  repeat' ((first |(with_reducible refine .guard (fun hb =>?_) (fun hb =>?_) <;>try simp only[hb])|refine U.aG (by decide +kernel) rfl fun K hK =>?_|refine .flat _ (f1) rfl ?_|refine .flat _ (f2) rfl ?_|refine .flat _ (f3) rfl ?_|refine .flat _ (f4) rfl ?_|refine .flat _ (f5) rfl ?_|refine .flat _ (f6) rfl ?_|(refine .aE [0,1,2,30,33] hK ?_;clear hK K)|(with_reducible refine .done (hK _ ?_);clear hK K)|refine U.of rfl ?_|(with_reducible refine aw.aF (fun h =>?_) (fun h =>?_) <;>try simp only[h])) <;>try simp only[aH,R,simprocAttr])
  all_goals clear R
  all_goals rfl
 cases w2:decide (r.text=[])
 ·have R:=y6 @k (y6 @w1 (y6 @w2 (y6 @iF (y6 @lL (y6 @bu aD)))))
  repeat' ((first |(with_reducible refine .guard (fun hb =>?_) (fun hb =>?_) <;>try simp only[hb])|refine U.aG (by decide +kernel) rfl fun K hK =>?_|refine .flat _ (f1) rfl ?_|refine .flat _ (f2) rfl ?_|refine .flat _ (f3) rfl ?_|refine .flat _ (f4) rfl ?_|refine .flat _ (f5) rfl ?_|refine .flat _ (f6) rfl ?_|(refine .aE [0,1,2,30,33] hK ?_;clear hK K)|(with_reducible refine .done (hK _ ?_);clear hK K)|refine U.of rfl ?_|(with_reducible refine aw.aF (fun h =>?_) (fun h =>?_) <;>try simp only[h])) <;>try simp only[aH,R,simprocAttr])
  all_goals clear R
  all_goals rfl
 cases w3:il r.fS
 ·rw[w3] at f6;have R:=y6 @k (y6 @w1 (y6 @w2 (y6 @iF (y6 @lL (y6 @bu aD)))))
  repeat' ((first |(with_reducible refine .guard (fun hb =>?_) (fun hb =>?_) <;>try simp only[hb])|refine U.aG (by decide +kernel) rfl fun K hK =>?_|refine .flat _ (f1) rfl ?_|refine .flat _ (f2) rfl ?_|refine .flat _ (f3) rfl ?_|refine .flat _ (f4) rfl ?_|refine .flat _ (f5) rfl ?_|refine .flat _ (f6) rfl ?_|(refine .aE [0,1,2,30,33] hK ?_;clear hK K)|(with_reducible refine .done (hK _ ?_);clear hK K)|refine U.of rfl ?_|(with_reducible refine aw.aF (fun h =>?_) (fun h =>?_) <;>try simp only[h])) <;>try simp only[aH,R,simprocAttr])
  all_goals clear R
  all_goals rfl
 rw[w3] at f6;cases w4:(r.fo==r.aJ)
 ·have R:=y6 @k (y6 @w1 (y6 @w2 (y6 @w4 (y6 @iF (y6 @lL (y6 @bu aD))))))
  repeat' ((first |(with_reducible refine .guard (fun hb =>?_) (fun hb =>?_) <;>try simp only[hb])|refine U.aG (by decide +kernel) rfl fun K hK =>?_|refine .flat _ (f1) rfl ?_|refine .flat _ (f2) rfl ?_|refine .flat _ (f3) rfl ?_|refine .flat _ (f4) rfl ?_|refine .flat _ (f5) rfl ?_|refine .flat _ (f6) rfl ?_|(refine .aE [0,1,2,30,33] hK ?_;clear hK K)|(with_reducible refine .done (hK _ ?_);clear hK K)|refine U.of rfl ?_|(with_reducible refine aw.aF (fun h =>?_) (fun h =>?_) <;>try simp only[h])) <;>try simp only[aH,R,simprocAttr])
  all_goals clear R
  all_goals rfl
 have R:=y6 @k (y6 @w1 (y6 @w2 (y6 @w4 (y6 @iF (y6 @lL (y6 @bu aD))))))
 repeat' ((first |(with_reducible refine .guard (fun hb =>?_) (fun hb =>?_) <;>try simp only[hb])|refine U.aG (by decide +kernel) rfl fun K hK =>?_|refine .flat _ (f1) rfl ?_|refine .flat _ (f2) rfl ?_|refine .flat _ (f3) rfl ?_|refine .flat _ (f4) rfl ?_|refine .flat _ (f5) rfl ?_|refine .flat _ (f6) rfl ?_|(refine .aE [0,1,2,30,33] hK ?_;clear hK K)|(with_reducible refine .done (hK _ ?_);clear hK K)|refine U.of rfl ?_|(with_reducible refine aw.aF (fun h =>?_) (fun h =>?_) <;>try simp only[h])) <;>try simp only[aH,R,simprocAttr])
 all_goals clear R
 all_goals rfl
def pR(r:ah):Int:=if bn r=true then 0 else 80
def dO(t:List UInt8):List (List UInt8):=(jr 10 true t).dropLast
theorem B6{t:List UInt8}(h:∀ b∈t,b≠10):dO t=[]:=by rw[dO,Aq h];rfl
theorem Wy{x:List UInt8}(y:List UInt8)(h:∀ b∈x,b≠10):dO (x++10::y)=(x++[10])::dO y:=by
 rw[dO,Ap y h,if_pos rfl,List.dropLast_cons_of_ne_nil (Lk 10 true y)];rfl
def je(cv:Int→List UInt8→Option (ah×Int))(nx:List ah→ah→Bool):List ah→Int→Nat→List (List UInt8)→List ah×Nat
 |out,_,size,[]=>(out,size)
 |out,s,size,x::t=>match cv s x with
  |none=>(out,size)
  |some q=>if nx out q.1=true then je cv nx (out++[q.1]) q.2 (size+x.length) t else (out,size)
def fu:Int→List ah→List UInt8
 |_,[]=>[]
 |s,r::l=>dV s r++fu (dB s (dm r)) l
def eE:Int→List ah→Int
 |s,[]=>s
 |s,r::l=>eE (dB s (dm r)) l
theorem Fu:∀ (a b:List ah) (s:Int),fu s (a++b)=fu s a++fu (eE s a) b
 | [],_,_=>rfl
 |r::a,b,s=>by simp only[Z8,fu,eE,Fu a b,Z9]
theorem Fo:∀ (a b:List ah) (s:Int),eE s (a++b)=eE (eE s a) b
 | [],_,_=>rfl
 |r::a,b,s=>by simp only[Z8,eE,Fo a b]
theorem Fp:∀ (a:List ah) {s:Int},0≤s∧s<1000003→0≤eE s a∧eE s a<1000003
 | [],_,h=>h
 |_::a,_,h=>Fp a (pg h _)
theorem xD(a:List ah)(r:ah)(s:Int):fu s (a++[r])=fu s a++dV (eE s a) r∧eE s (a++[r])=dB (eE s a) (dm r):=by
 rw[Fu,Fo];simp only[fu,eE,zw1,and_self]
def ff(ok:ah→Bool)(nx:List ah→ah→Bool):List ah→List ah→Prop
 |_,[]=>True
 |out,r::l=>ok r=true∧nx out r=true∧ff ok nx (out++[r]) l
def jD(ok:ah→Bool)(nx:List ah→ah→Bool)(t:List UInt8):List ah×List UInt8:=((je (eh ok) nx [] 1 0 (dO t)).1,t.take (je (eh ok) nx [] 1 0 (dO t)).2)
def s8(ok:ah→Bool)(nx:List ah→ah→Bool)(a b:List UInt8):List ah×List UInt8 :=
 if (jD ok nx a).1.length<(jD ok nx b).1.length then jD ok nx b else jD ok nx a
def cG(l:List ah)(m:Int):Nat:=l.countP fun r=>decide (r.aJ=m)
def cR(a b:ah):Bool:=decide (a.aJ<b.aJ∨(a.aJ=b.aJ∧a.no<b.no))
def iA(l:List ah)(r:ah):Bool:=match l.getLast? with
 |none=>decide ((r.aJ=-1∧r.no=1)∨(-1<r.aJ∧r.no=0))
 |some a=>decide ((r.aJ=a.aJ∧r.no=a.no+1)∨(a.aJ<r.aJ∧r.no=0))
def lS(l:List ah)(r:ah):Bool:=(match l.getLast? with
 |none=>true
 |some a=>cR a r)&&decide ((cG l r.aJ:Int)=r.no)
def fg(aT:List ah→ah→Bool):List ah→List ah→Bool
 |_,[]=>true
 |out,r::l=>aT out r&&fg aT (out++[r]) l
def nV(l:List ah):Prop:=match l.getLast? with
 |none=>True
 |some a=>(cG l a.aJ:Int)=a.no+1∧∀ m,a.aJ<m→cG l m=0
theorem l9(l:List ah)(r:ah)(m:Int):cG (l++[r]) m=cG l m+if r.aJ=m then 1 else 0:=by
 rw[cG,List.countP_append,←cG,List.countP_cons,List.countP_nil];simp
theorem Fj{l:List ah}(h:nV l){r:ah}(hr:0≤r.aJ∧0≤r.no):iA l r=lS l r∧(iA l r=true→nV (l++[r])):=by
 rw[nV] at h;have hl:(l++[r]).getLast?=some r:=by rw[List.getLast?_append];rfl
 rw[nV,hl,iA,lS];cases e:l.getLast? with
 |none =>
  have hnil:l=[]:=List.getLast?_eq_none_iff.1 e;subst hnil;have c0:∀ m,cG [] m=0:=fun _=>rfl;have c1:=c0 r.aJ;simp only[Bool.true_and];refine ⟨?_,?_⟩
  ·rw[Bool.eq_iff_iff,decide_eq_true_iff,decide_eq_true_iff];constructor
   ·intro h;rcases h with h | h <;>omega
   ·intro h;right;omega
  ·intro h;rw[decide_eq_true_eq] at h;refine ⟨by rw[l9,if_pos rfl];omega,fun m hm =>?_⟩;rw[l9,if_neg (by omega),c0]
 |some a =>
  rw[e] at h;obtain ⟨h1,h2⟩:=h;simp only;refine ⟨?_,?_⟩
  ·rw[cR,Bool.eq_iff_iff,Z0,decide_eq_true_eq,decide_eq_true_eq,decide_eq_true_eq];rcases Int.lt_trichotomy a.aJ r.aJ with c | c | c
   ·have:=h2 r.aJ c;constructor
    ·intro k;exact ⟨.inl c,by omega⟩
    ·intro k;right;omega
   ·rw[←c];constructor
    ·intro k;exact ⟨.inr ⟨rfl,by omega⟩,by omega⟩
    ·intro k;left;omega
   ·constructor
    ·intro k;omega
    ·intro k;omega
  ·intro k;rw[decide_eq_true_eq] at k;rw[l9,if_pos rfl];refine ⟨?_,fun m hm =>?_⟩
   ·rcases k with k | k
    ·rw[k.1];omega
    ·have:=h2 r.aJ k.1;omega
   ·rw[l9,if_neg (by omega),h2 m (by omega)]
theorem yp:∀ (l out:List ah),nV out→(∀ r∈l,0≤r.aJ∧0≤r.no)→fg iA out l=fg lS out l
 | [],_,_,_=>rfl
 |r::l,out,h,hr=>by
  obtain ⟨e,k⟩:=Fj h (hr r (by simp));simp only[fg,←e];cases hs:iA out r with
  |false=>rfl
  |true=>rw[yp l (out++[r]) (k hs) fun x hx=>hr x (by simp[hx])]
theorem yI{l:List ah}(hr:∀ r∈l,0≤r.aJ∧0≤r.no):fg iA [] l=fg lS [] l:=yp l [] trivial hr
theorem yK:∀ (l out:List ah),nV out→(∀ r∈l,0≤r.aJ∧0≤r.no)→fg iA out l=true→out.Pairwise (fun a b=>cR a b=true)→(out++l).Pairwise (fun a b=>cR a b=true)
 | [],out,_,_,_,h=>by simpa using h
 |r::l,out,h,hr,hb,hp=>by
  simp only[fg,Z0] at hb;obtain ⟨e,k⟩:=Fj h (hr r (by simp));have:=yK l (out++[r]) (k hb.1) (fun x hx=>hr x (by simp[hx])) hb.2 (by
   rw[List.pairwise_append];refine ⟨hp,by simp,fun a ha b hb' =>?_⟩;rw[zy6.1 hb'];have hs:=hb.1;rw[e,lS,Z0] at hs;have hne:out≠[]:=fun k=>by rw[k] at ha;cases ha
   have hlast:=List.getLast?_eq_some_getLast hne;rw[hlast] at hs;have h1:=hs.1;have hcat:=List.dropLast_concat_getLast hne;rw[←hcat] at ha hp;rcases zy0.1 ha with ha | ha
   ·have h2:=(List.pairwise_append.1 hp).2.2 a ha _ (zy6.2 rfl);simp only[cR,decide_eq_true_eq] at h1 h2 ⊢;omega
   ·rw[zy6.1 ha];exact h1)
  rwa [Z9,List.singleton_append] at this
def c8(out:List ah)(r:ah):Bool:=decide (out.length<60)&&decide ((cG out r.aJ:Int)=r.no)
def lg(l:List ah)(r:ah):Nat:=l.countP fun q=>decide (q.aJ=r.aJ∧q.no<r.no)
structure gN (l:List ah):Prop where
 lt:∀ r∈l,0≤r.no∧r.no<cG l r.aJ
 bf:∀ r∈l,(lg l r:Int)=r.no
theorem gN.nil:gN []:=⟨by simp,by simp⟩
theorem gN.E8{l:List ah}(h:gN l){r:ah}(hn:(cG l r.aJ:Int)=r.no):gN (l++[r]):=by
 have ha:∀ q,lg (l++[r]) q=lg l q+if r.aJ=q.aJ∧r.no<q.no then 1 else 0:=fun q=>by
  rw[lg,List.countP_append,←lg,List.countP_cons,List.countP_nil];simp
 refine ⟨fun q hq =>?_,fun q hq =>?_⟩
 ·rw[l9];rcases zy0.1 hq with hq | hq
  ·have:=h.lt q hq;split <;>omega
  ·rw[zy6.1 hq,if_pos rfl];omega
 ·rw[ha];rcases zy0.1 hq with hq | hq
  ·rw[if_neg,Nat.add_zero]
   ·exact h.bf q hq
   ·rintro ⟨k1,k2⟩;have:=(h.lt q hq).2;rw[←k1] at this;omega
  ·rw[zy6.1 hq,if_neg (by omega),Nat.add_zero,←hn,lg,cG]
   congr 1
   refine List.countP_congr fun x hx =>?_;rw[decide_eq_true_eq,decide_eq_true_eq];constructor
   ·exact fun k=>k.1
   ·intro k;refine ⟨k,?_⟩;have:=(h.lt x hx).2;rw[k] at this;omega
theorem ff.wg{ok:ah→Bool} : ∀ {l out:List ah},gN out→ff ok c8 out l→gN (out++l)
 | [],out,h,_=>by simpa using h
 |r::l,out,h,hw=>by
  have hn:=hw.2.1;simp only[c8,Z0,decide_eq_true_eq] at hn;have:=ff.wg (h.E8 hn.2) hw.2.2
  rwa [Z9,List.singleton_append] at this
theorem ff.len{ok:ah→Bool} : ∀ {l out:List ah},out.length≤60→ff ok c8 out l→out.length+l.length≤60
 | [],out,h,_=>by simpa using h
 |r::l,out,h,hw=>by
  have hn:=hw.2.1;simp only[c8,Z0,decide_eq_true_eq] at hn;have:=ff.len (out:=out++[r]) (by simp;omega) hw.2.2;simp only[Z1,zx1,zy9] at this ⊢;omega
theorem yJ:∀ (b a l:List ah),l=a++b→l.Pairwise (fun x y=>cR x y=true)→gN l→fg lS a b=true
 | [],_,_,_,_,_=>rfl
 |r::b,a,l,e,hs,hn=>by
  subst e;have ih:=yJ b (a++[r]) (a++r::b) (by simp) hs hn;have hp:=List.pairwise_append.1 hs;have hb:=List.pairwise_cons.1 hp.2.1;have hat:=hn.bf r (by simp);have hc:lg (a++r::b) r=cG a r.aJ:=by
   rw[lg,List.countP_append,List.countP_cons,cG];have e1:a.countP (fun q=>decide (q.aJ=r.aJ∧q.no<r.no))=a.countP (fun q=>decide (q.aJ=r.aJ)):=by
    refine List.countP_congr fun x hx =>?_;rw[decide_eq_true_eq,decide_eq_true_eq];have:=hp.2.2 x hx r (by simp);simp only[cR,decide_eq_true_eq] at this;constructor
    ·exact fun k=>k.1
    ·intro k;exact ⟨k,by omega⟩
   have e2:b.countP (fun q=>decide (q.aJ=r.aJ∧q.no<r.no))=0:=by
    refine List.countP_eq_zero.2 fun x hx =>?_;rw[decide_eq_true_eq];have:=hb.1 x hx;simp only[cR,decide_eq_true_eq] at this;omega
   rw[e1,e2];simp
  rw[fg,ih,Bool.and_true,lS,Z0,decide_eq_true_eq];refine ⟨?_,by rw[←hc];exact hat⟩;cases hl:a.getLast? with
  |none=>rfl
  |some x =>
   have hx:x∈a:=List.mem_of_getLast? hl;exact hp.2.2 x hx r (by simp)
theorem gN.X2{l s:List ah}(h:gN l)(p:s.Perm l):gN s :=
 ⟨fun r hr=>by rw[cG,p.countP_eq];exact h.lt r (p.mem_iff.1 hr),fun r hr=>by rw[lg,p.countP_eq];exact h.bf r (p.mem_iff.1 hr)⟩
theorem ff.inj{ok:ah→Bool} : ∀ {l out:List ah},gN out→ff ok c8 out l→out.Pairwise (fun x y=>¬ (x.aJ=y.aJ∧x.no=y.no))→(out++l).Pairwise (fun x y=>¬ (x.aJ=y.aJ∧x.no=y.no))
 | [],out,_,_,hp=>by simpa using hp
 |r::l,out,h,hw,hp=>by
  have hn:=hw.2.1;simp only[c8,Z0,decide_eq_true_eq] at hn;have:=ff.inj (h.E8 hn.2) hw.2.2 (by
   rw[List.pairwise_append];refine ⟨hp,by simp,fun x hx y hy k =>?_⟩;rw[zy6.1 hy] at k;have:=(h.lt x hx).2;rw[k.1] at this;omega)
  rwa [Z9,List.singleton_append] at this
theorem Zg{ok:ah→Bool}{l s:List ah}(hw:ff ok c8 [] l)(p:s.Perm l)(hs:s.Pairwise (fun x y=>cR x y=true)):fg lS [] s=true∧s.length≤60:=by
 have hn:=ff.wg gN.nil hw;have hl:=ff.len (zx8 _) hw;rw[zz3] at hn;simp only[zy9,Z5] at hl;exact ⟨yJ s [] s rfl hs (hn.X2 p),by rw[p.length_eq];exact hl⟩
def gi(x r:ah):Bool:=decide (r.aJ=x.aJ∧r.no=x.no)
theorem ff.ok{ok:ah→Bool}{nx:List ah→ah→Bool} : ∀ {l out:List ah},ff ok nx out l→∀ r∈l,ok r=true
 | [],_,_,r,h=>by cases h
 |_::_,_,hw,r,h=>by
  rcases zy8.1 h with rfl | h
  ·exact hw.1
  ·exact ff.ok hw.2.2 r h
theorem s9{l:List ah}(h:l.Pairwise (fun x y=>¬ (x.aJ=y.aJ∧x.no=y.no))){a b:ah}(ha:a∈l)(hb:b∈l)(e:a.aJ=b.aJ∧a.no=b.no):a=b:=by
 obtain ⟨i,hi,rfl⟩:=List.getElem_of_mem ha;obtain ⟨j,hj,rfl⟩:=List.getElem_of_mem hb;rcases Nat.lt_trichotomy i j with c | c | c
 ·exact absurd e (List.pairwise_iff_getElem.1 h i j hi hj c)
 ·subst c;rfl
 ·exact absurd ⟨e.1.symm,e.2.symm⟩ (List.pairwise_iff_getElem.1 h j i hj hi c)
theorem G8{a b:ah}(h:cR a b=true)(k:cR b a=true):False:=by
 simp only[cR,decide_eq_true_eq] at h k;omega
theorem yE{a b c:ah}(h:cR a b=true)(k:cR b c=true):cR a c=true:=by
 simp only[cR,decide_eq_true_eq] at h k ⊢;omega
theorem xp:∀ {a b:List ah},a.Pairwise (fun x y=>cR x y=true)→b.Pairwise (fun x y=>cR x y=true)→a.Perm b→a=b
 | [],b,_,_,p=>(List.nil_perm.1 p).symm
 |x::a,[],_,_,p=>absurd (List.perm_nil.1 p) (by simp)
 |x::a,y::b,ha,hb,p=>by
  obtain ⟨h1,h2⟩:=List.pairwise_cons.1 ha;obtain ⟨k1,k2⟩:=List.pairwise_cons.1 hb;by_cases e:x=y
  ·subst e;rw[xp h2 k2 ((List.perm_cons x).1 p)]
  ·have hx:x∈b:=by
    rcases zy8.1 (p.mem_iff.1 (List.mem_cons_self (a:=x) (l:=a))) with h | h
    ·exact absurd h e
    ·exact h
   have hy:y∈a:=by
    rcases zy8.1 (p.mem_iff.2 (List.mem_cons_self (a:=y) (l:=b))) with h | h
    ·exact absurd h.symm e
    ·exact h
   exact (G8 (h1 y hy) (k1 x hx)).elim
def fV(l:List ah)(r:ah):List ah:=l.takeWhile (fun q=>cR q r)++r::l.dropWhile (fun q=>cR q r)
theorem wJ(l:List ah)(r:ah):(fV l r).Perm (r::l):=by
 have:=List.takeWhile_append_dropWhile (p:=fun q=>cR q r) (l:=l);refine List.perm_middle.trans ?_;rw[this]
theorem Ym{l:List ah}{r:ah}(h:l.Pairwise (fun x y=>cR x y=true))(hr:∀ q∈l,¬ (q.aJ=r.aJ∧q.no=r.no)):(fV l r).Pairwise (fun x y=>cR x y=true):=by
 induction l with
 |nil=>simp[fV]
 |cons q l ih =>
  obtain ⟨h1,h2⟩:=List.pairwise_cons.1 h;have ih:=ih h2 fun x hx=>hr x (by simp[hx]);by_cases c:cR q r=true
  ·have e:fV (q::l) r=q::fV l r:=by simp[fV,c]
   rw[e,List.pairwise_cons];refine ⟨fun x hx =>?_,ih⟩;rcases zy8.1 ((wJ l r).mem_iff.1 hx) with rfl | hx
   ·exact c
   ·exact h1 x hx
  ·have e:fV (q::l) r=r::q::l:=by simp[fV,c]
   have hq:=hr q (by simp);have hrq:cR r q=true:=by
    simp only[cR,decide_eq_true_eq] at c ⊢;omega
   rw[e,List.pairwise_cons];refine ⟨fun x hx =>?_,h⟩;rcases zy8.1 hx with rfl | hx
   ·exact hrq
   ·exact yE hrq (h1 x hx)
def bt(l:List ah):List ah:=l.foldl fV []
theorem Fa:∀ (l out:List ah),(out++l).Pairwise (fun x y=>¬ (x.aJ=y.aJ∧x.no=y.no))→∀ s:List ah,s.Perm out→s.Pairwise (fun x y=>cR x y=true) →
  (l.foldl fV s).Perm (out++l)∧(l.foldl fV s).Pairwise (fun x y=>cR x y=true)
 | [],out,_,s,p,hs=>by simpa using ⟨p,hs⟩
 |r::l,out,hp,s,p,hs=>by
  have hq:∀ q∈s,¬ (q.aJ=r.aJ∧q.no=r.no):=fun q hq=>(List.pairwise_append.1 hp).2.2 q (p.mem_iff.1 hq) r (by simp);have e:out++r::l=(out++[r])++l:=by simp
  rw[e] at hp ⊢;rw[List.foldl_cons];refine Fa l (out++[r]) hp (fV s r) ?_ (Ym hs hq);exact (wJ s r).trans ((List.Perm.cons r p).trans (List.perm_append_singleton r out).symm)
theorem nI{l:List ah}(hp:l.Pairwise (fun x y=>¬ (x.aJ=y.aJ∧x.no=y.no))):(bt l).Perm l∧(bt l).Pairwise (fun x y=>cR x y=true):=by
 have:=Fa l [] (by simpa using hp) [] (List.Perm.refl _) List.Pairwise.nil
 rwa [zz3] at this
theorem Fb{l s:List ah}(hp:l.Pairwise (fun x y=>¬ (x.aJ=y.aJ∧x.no=y.no)))(p:s.Perm l)(hs:s.Pairwise (fun x y=>cR x y=true)):s=bt l :=
 xp hs (nI hp).2 (p.trans (nI hp).1.symm)
def dU(a b:List ah):List ah:=b.filter fun r => !a.any (gi r)
def iX(a b:List ah):Bool:=b.any fun r=>a.any fun q=>gi r q&&decide (q≠r)
theorem pf{a:List ah}(h:a.Pairwise (fun x y=>cR x y=true)):a.Pairwise (fun x y=>¬ (x.aJ=y.aJ∧x.no=y.no)) :=
 h.imp fun {x y} k e=>by simp only[cR,decide_eq_true_eq] at k;omega
theorem vO{a b:List ah}(ha:a.Pairwise (fun x y=>cR x y=true))(hb:b.Pairwise (fun x y=>cR x y=true)):(a++dU a b).Pairwise (fun x y=>¬ (x.aJ=y.aJ∧x.no=y.no)):=by
 rw[List.pairwise_append];refine ⟨pf ha,(pf hb).sublist List.filter_sublist,fun x hx y hy e =>?_⟩;have:=(List.mem_filter.1 hy).2;simp only[Bool.not_eq_true',List.any_eq_false,gi,decide_eq_true_eq] at this;exact this x hx e
theorem Wb{a b:List ah}(h:∀ r∈b,r∈a):dU a b=[]:=by
 rw[dU,List.filter_eq_nil_iff];intro r hr;simp only[Bool.not_eq_true',Bool.not_eq_false,List.any_eq_true,gi,decide_eq_true_eq];exact ⟨r,h r hr,rfl,rfl⟩
theorem Aw{a b l:List ah}(hl:l.Pairwise (fun x y=>¬ (x.aJ=y.aJ∧x.no=y.no)))(ha:∀ r∈a,r∈l)(hb:∀ r∈b,r∈l):iX a b=false:=by
 rw[iX,List.any_eq_false];intro r hr k;obtain ⟨q,hq,k⟩:=List.any_eq_true.1 k;simp only[Z0,gi,decide_eq_true_eq] at k;exact k.2 (s9 hl (ha q hq) (hb r hr) k.1)
theorem V4{a b s:List ah}(ha:a.Pairwise (fun x y=>cR x y=true))(hb:b.Pairwise (fun x y=>cR x y=true))(h:∀ r∈a,r∈b)(p:s.Perm (a++dU a b))(hs:s.Pairwise (fun x y=>cR x y=true)):s=b:=by
 refine xp hs hb (p.trans ?_);have hn:=vO ha hb;have nd1:(a++dU a b).Nodup:=hn.imp fun {x y} k e=>k ⟨by rw[e],by rw[e]⟩;have nd2:b.Nodup:=(pf hb).imp fun {x y} k e=>k ⟨by rw[e],by rw[e]⟩;refine (List.perm_ext_iff_of_nodup nd1 nd2).2 fun r =>?_;rw[zy0,dU,List.mem_filter];constructor
 ·rintro (k | k)
  ·exact h r k
  ·exact k.1
 ·intro k;by_cases c:a.any (gi r)=true
  ·obtain ⟨q,hq,e⟩:=List.any_eq_true.1 c;simp only[gi,decide_eq_true_eq] at e;have:=s9 (pf hb) (h q hq) k e;exact .inl (this▸hq)
  ·exact .inr ⟨k,by simpa using c⟩
theorem Fc{l m:List ah}(hl:l.Pairwise (fun x y=>¬ (x.aJ=y.aJ∧x.no=y.no)))(p:m.Perm l):bt m=bt l:=by
 have hm:m.Pairwise (fun x y=>¬ (x.aJ=y.aJ∧x.no=y.no)):=(p.pairwise_iff fun {x y} k e=>k ⟨e.1.symm,e.2.symm⟩).2 hl;exact Fb hl ((nI hm).1.trans p) (nI hm).2
theorem oF{lo hi n:Int} : ew lo hi n=true↔lo≤n∧n≤hi:=by simp[ew]
theorem qC{x:Item} : il x=true↔(0≤x.aJ∧x.aJ≤5)∧0≤x.no∧x.no≤9999:=by simp[il,oF]
theorem qD{r:ah}(h:bn r=true):fT r=true:=by
 simp only[bn,Z0] at h;exact h.1
theorem qB{r:ah}(h:fT r=true):(0≤r.aJ∧r.aJ≤5)∧(0≤r.no∧r.no≤9999)∧(0≤r.kind∧r.kind≤40)∧(0≤r.dY∧r.dY≤100000)∧(0≤r.known∧r.known≤100000)∧gG r.text=true:=by
 simp only[fT,qC,oF,Z0] at h;exact ⟨h.1.1,h.1.2,h.2.1,h.2.2.1,h.2.2.2.1,h.2.2.2.2⟩
theorem XM{r:ah}(h:bn r=true):(0≤r.fo∧r.fo≤5)∧(0≤r.fE∧r.fE≤9999):=by
 simp only[bn,Z0] at h;obtain ⟨_,h⟩:=h;split at h
 ·simp only[nh,qC,Z0] at h;exact h.2.2.1
 ·simp only[decide_eq_true_eq,ah.fS,Item.mk.injEq] at h;omega
theorem sX{r:ah}(h:bn r=true):∀ n∈eL r,0≤n∧n<100000000:=by
 obtain ⟨a1,a2,a3,a4,a5,_⟩:=qB (qD h);obtain ⟨a6,a7⟩:=XM h;intro n hn;simp only[eL,zy8,List.not_mem_nil,or_false] at hn;rcases hn with rfl | rfl | rfl | rfl | rfl | rfl | rfl <;>omega
theorem XR{t:List UInt8}(h:gG t=true):t.length≤160:=by
 simp only[gG,Z0,decide_eq_true_eq] at h;exact h.1
theorem sY{r:ah}(h:bn r=true):r.text.length≤160:=XR (qB (qD h)).2.2.2.2.2
theorem ZS(r:ah):aS Tryz.prog 34 [enc r] (enc (pR r)):=by
 refine aS.bT Tryz.func34 Ik Jw KO (t8 rfl) (fun hwf W0 bI E1 =>?_);simp only[zr,Dz,bF];clear hwf;have f1:=yc r.bf;have f2:=mG r.kind 0 40;have f3:=mG r.dY 0 100000;have f4:=mG r.known 0 100000;have f5:=Gj r.text;have f6:=yc r.fS;have no:bn r=false→pR r=80:=fun h=>by simp[pR,h]
 have ye:bn r=true→pR r=0:=fun h=>by simp[pR,h]
 cases q1:il r.bf
 ·rw[q1] at f1;rw[no (by simp only[bn,fT,q1,Bool.false_and])];have R:=y6 @q1 (y6 @bu aD)
  repeat' ((first |(with_reducible refine .guard (fun hb =>?_) (fun hb =>?_) <;>try simp only[hb])|refine U.aG (by decide +kernel) rfl fun K hK =>?_|refine .flat _ (f1) rfl ?_|refine .flat _ (f2) rfl ?_|refine .flat _ (f3) rfl ?_|refine .flat _ (f4) rfl ?_|refine .flat _ (f5) rfl ?_|(refine .aE [0,1,2,30,33,65,69] hK ?_;clear hK K)|(with_reducible refine .done (hK _ ?_);clear hK K)|refine U.of rfl ?_|(with_reducible refine aw.aF (fun h =>?_) (fun h =>?_) <;>try simp only[h])) <;>try simp only[aH,R,simprocAttr])
  all_goals clear R
  all_goals rfl
 rw[q1] at f1;cases q2:ew 0 40 r.kind
 ·rw[q2] at f2;rw[no (by simp only[bn,fT,q1,q2,Bool.false_and,Bool.and_false])];have R:=y6 @bu aD
  repeat' ((first |(with_reducible refine .guard (fun hb =>?_) (fun hb =>?_) <;>try simp only[hb])|refine U.aG (by decide +kernel) rfl fun K hK =>?_|refine .flat _ (f1) rfl ?_|refine .flat _ (f2) rfl ?_|refine .flat _ (f3) rfl ?_|refine .flat _ (f4) rfl ?_|refine .flat _ (f5) rfl ?_|(refine .aE [0,1,2,30,33,65,69] hK ?_;clear hK K)|(with_reducible refine .done (hK _ ?_);clear hK K)|refine U.of rfl ?_|(with_reducible refine aw.aF (fun h =>?_) (fun h =>?_) <;>try simp only[h])) <;>try simp only[aH,R,simprocAttr])
  all_goals clear R
  all_goals rfl
 rw[q2] at f2;cases q3:ew 0 100000 r.dY
 ·rw[q3] at f3;rw[no (by simp only[bn,fT,q1,q2,q3,Bool.false_and,Bool.and_false])];have R:=y6 @bu aD
  repeat' ((first |(with_reducible refine .guard (fun hb =>?_) (fun hb =>?_) <;>try simp only[hb])|refine U.aG (by decide +kernel) rfl fun K hK =>?_|refine .flat _ (f1) rfl ?_|refine .flat _ (f2) rfl ?_|refine .flat _ (f3) rfl ?_|refine .flat _ (f4) rfl ?_|refine .flat _ (f5) rfl ?_|(refine .aE [0,1,2,30,33,65,69] hK ?_;clear hK K)|(with_reducible refine .done (hK _ ?_);clear hK K)|refine U.of rfl ?_|(with_reducible refine aw.aF (fun h =>?_) (fun h =>?_) <;>try simp only[h])) <;>try simp only[aH,R,simprocAttr])
  all_goals clear R
  all_goals rfl
 rw[q3] at f3;cases q4:ew 0 100000 r.known
 ·rw[q4] at f4;rw[no (by simp only[bn,fT,q1,q2,q3,q4,Bool.false_and,Bool.and_false])];have R:=y6 @bu aD
  repeat' ((first |(with_reducible refine .guard (fun hb =>?_) (fun hb =>?_) <;>try simp only[hb])|refine U.aG (by decide +kernel) rfl fun K hK =>?_|refine .flat _ (f1) rfl ?_|refine .flat _ (f2) rfl ?_|refine .flat _ (f3) rfl ?_|refine .flat _ (f4) rfl ?_|refine .flat _ (f5) rfl ?_|(refine .aE [0,1,2,30,33,65,69] hK ?_;clear hK K)|(with_reducible refine .done (hK _ ?_);clear hK K)|refine U.of rfl ?_|(with_reducible refine aw.aF (fun h =>?_) (fun h =>?_) <;>try simp only[h])) <;>try simp only[aH,R,simprocAttr])
  all_goals clear R
  all_goals rfl
 rw[q4] at f4;cases q5:gG r.text
 ·rw[q5] at f5;rw[no (by simp only[bn,fT,q1,q2,q3,q4,q5,Bool.false_and,Bool.and_false])];have R:=y6 @bu aD
  repeat' ((first |(with_reducible refine .guard (fun hb =>?_) (fun hb =>?_) <;>try simp only[hb])|refine U.aG (by decide +kernel) rfl fun K hK =>?_|refine .flat _ (f1) rfl ?_|refine .flat _ (f2) rfl ?_|refine .flat _ (f3) rfl ?_|refine .flat _ (f4) rfl ?_|refine .flat _ (f5) rfl ?_|(refine .aE [0,1,2,30,33,65,69] hK ?_;clear hK K)|(with_reducible refine .done (hK _ ?_);clear hK K)|refine U.of rfl ?_|(with_reducible refine aw.aF (fun h =>?_) (fun h =>?_) <;>try simp only[h])) <;>try simp only[aH,R,simprocAttr])
  all_goals clear R
  all_goals rfl
 rw[q5] at f5;have hH:fT r=true:=by simp only[fT,q1,q2,q3,q4,q5,Bool.and_self]
 cases k:(r.kind==0)
 ·cases z:decide (r.fS=⟨0,0⟩)
  ·rw[no (by simp only[bn,hH,Bool.true_and];rw[if_neg (by simpa using k)];exact z)];have R:=y6 @k (y6 @z (y6 @pT (y6 @bu aD)))
   repeat' ((first |(with_reducible refine .guard (fun hb =>?_) (fun hb =>?_) <;>try simp only[hb])|refine U.aG (by decide +kernel) rfl fun K hK =>?_|refine .flat _ (f1) rfl ?_|refine .flat _ (f2) rfl ?_|refine .flat _ (f3) rfl ?_|refine .flat _ (f4) rfl ?_|refine .flat _ (f5) rfl ?_|(refine .aE [0,1,2,30,33,65,69] hK ?_;clear hK K)|(with_reducible refine .done (hK _ ?_);clear hK K)|refine U.of rfl ?_|(with_reducible refine aw.aF (fun h =>?_) (fun h =>?_) <;>try simp only[h])) <;>try simp only[aH,R,simprocAttr])
   all_goals clear R
   all_goals rfl
  ·rw[ye (by simp only[bn,hH,Bool.true_and];rw[if_neg (by simpa using k)];exact z)];have R:=y6 @k (y6 @z (y6 @pT (y6 @bu aD)))
   repeat' ((first |(with_reducible refine .guard (fun hb =>?_) (fun hb =>?_) <;>try simp only[hb])|refine U.aG (by decide +kernel) rfl fun K hK =>?_|refine .flat _ (f1) rfl ?_|refine .flat _ (f2) rfl ?_|refine .flat _ (f3) rfl ?_|refine .flat _ (f4) rfl ?_|refine .flat _ (f5) rfl ?_|(refine .aE [0,1,2,30,33,65,69] hK ?_;clear hK K)|(with_reducible refine .done (hK _ ?_);clear hK K)|refine U.of rfl ?_|(with_reducible refine aw.aF (fun h =>?_) (fun h =>?_) <;>try simp only[h])) <;>try simp only[aH,R,simprocAttr])
   all_goals clear R
   all_goals rfl
 have hK:bn r=nh r:=by simp only[bn,hH,Bool.true_and];rw[if_pos (by simpa using k)]
 simp only[nh] at hK;cases w1:(r.dY==0)
 ·have w1':(r.dY != 0)=true:=by simp[bne,w1]
  rw[no (by rw[hK,w1];rfl)];have R:=y6 @k (y6 @w1' (y6 @iF (y6 @iO (y6 @bu aD))))
  repeat' ((first |(with_reducible refine .guard (fun hb =>?_) (fun hb =>?_) <;>try simp only[hb])|refine U.aG (by decide +kernel) rfl fun K hK =>?_|refine .flat _ (f1) rfl ?_|refine .flat _ (f2) rfl ?_|refine .flat _ (f3) rfl ?_|refine .flat _ (f4) rfl ?_|refine .flat _ (f5) rfl ?_|refine .flat _ (f6) rfl ?_|(refine .aE [0,1,2,30,33,65,69] hK ?_;clear hK K)|(with_reducible refine .done (hK _ ?_);clear hK K)|refine U.of rfl ?_|(with_reducible refine aw.aF (fun h =>?_) (fun h =>?_) <;>try simp only[h])) <;>try simp only[aH,R,simprocAttr])
  all_goals clear R
  all_goals rfl
 have w1':(r.dY != 0)=false:=by simp[bne,w1]
 cases w2:decide (r.text=[])
 ·rw[no (by rw[hK,w1,w2];rfl)];have R:=y6 @k (y6 @w1' (y6 @w2 (y6 @iF (y6 @iO (y6 @bu aD)))))
  repeat' ((first |(with_reducible refine .guard (fun hb =>?_) (fun hb =>?_) <;>try simp only[hb])|refine U.aG (by decide +kernel) rfl fun K hK =>?_|refine .flat _ (f1) rfl ?_|refine .flat _ (f2) rfl ?_|refine .flat _ (f3) rfl ?_|refine .flat _ (f4) rfl ?_|refine .flat _ (f5) rfl ?_|refine .flat _ (f6) rfl ?_|(refine .aE [0,1,2,30,33,65,69] hK ?_;clear hK K)|(with_reducible refine .done (hK _ ?_);clear hK K)|refine U.of rfl ?_|(with_reducible refine aw.aF (fun h =>?_) (fun h =>?_) <;>try simp only[h])) <;>try simp only[aH,R,simprocAttr])
  all_goals clear R
  all_goals rfl
 cases w3:il r.fS
 ·rw[w3] at f6;rw[no (by rw[hK,w1,w2,w3];rfl)];have R:=y6 @k (y6 @w1' (y6 @w2 (y6 @iF (y6 @iO (y6 @bu aD)))))
  repeat' ((first |(with_reducible refine .guard (fun hb =>?_) (fun hb =>?_) <;>try simp only[hb])|refine U.aG (by decide +kernel) rfl fun K hK =>?_|refine .flat _ (f1) rfl ?_|refine .flat _ (f2) rfl ?_|refine .flat _ (f3) rfl ?_|refine .flat _ (f4) rfl ?_|refine .flat _ (f5) rfl ?_|refine .flat _ (f6) rfl ?_|(refine .aE [0,1,2,30,33,65,69] hK ?_;clear hK K)|(with_reducible refine .done (hK _ ?_);clear hK K)|refine U.of rfl ?_|(with_reducible refine aw.aF (fun h =>?_) (fun h =>?_) <;>try simp only[h])) <;>try simp only[aH,R,simprocAttr])
  all_goals clear R
  all_goals rfl
 rw[w3] at f6;cases w4:(r.fo==r.aJ)
 ·have w4':(r.fo != r.aJ)=true:=by simp[bne,w4]
  rw[no (by rw[hK,w1,w2,w3,w4];rfl)];have R:=y6 @k (y6 @w1' (y6 @w2 (y6 @w4' (y6 @iF (y6 @iO (y6 @bu aD))))))
  repeat' ((first |(with_reducible refine .guard (fun hb =>?_) (fun hb =>?_) <;>try simp only[hb])|refine U.aG (by decide +kernel) rfl fun K hK =>?_|refine .flat _ (f1) rfl ?_|refine .flat _ (f2) rfl ?_|refine .flat _ (f3) rfl ?_|refine .flat _ (f4) rfl ?_|refine .flat _ (f5) rfl ?_|refine .flat _ (f6) rfl ?_|(refine .aE [0,1,2,30,33,65,69] hK ?_;clear hK K)|(with_reducible refine .done (hK _ ?_);clear hK K)|refine U.of rfl ?_|(with_reducible refine aw.aF (fun h =>?_) (fun h =>?_) <;>try simp only[h])) <;>try simp only[aH,R,simprocAttr])
  all_goals clear R
  all_goals rfl
 have w4':(r.fo != r.aJ)=false:=by simp[bne,w4]
 cases w5:decide (r.fE<r.no)
 ·have w5':decide (r.fE≥r.no)=true:=by rw[decide_eq_false_iff_not] at w5;exact decide_eq_true (by omega)
  rw[no (by rw[hK,w1,w2,w3,w4,w5];rfl)];have R:=y6 @k (y6 @w1' (y6 @w2 (y6 @w4' (y6 @w5' (y6 @iF (y6 @iO (y6 @bu aD)))))))
  repeat' ((first |(with_reducible refine .guard (fun hb =>?_) (fun hb =>?_) <;>try simp only[hb])|refine U.aG (by decide +kernel) rfl fun K hK =>?_|refine .flat _ (f1) rfl ?_|refine .flat _ (f2) rfl ?_|refine .flat _ (f3) rfl ?_|refine .flat _ (f4) rfl ?_|refine .flat _ (f5) rfl ?_|refine .flat _ (f6) rfl ?_|(refine .aE [0,1,2,30,33,65,69] hK ?_;clear hK K)|(with_reducible refine .done (hK _ ?_);clear hK K)|refine U.of rfl ?_|(with_reducible refine aw.aF (fun h =>?_) (fun h =>?_) <;>try simp only[h])) <;>try simp only[aH,R,simprocAttr])
  all_goals clear R
  all_goals rfl
 ·have w5':decide (r.fE≥r.no)=false:=by rw[decide_eq_true_eq] at w5;exact decide_eq_false (by omega)
  rw[ye (by rw[hK,w1,w2,w3,w4,w5];rfl)];have R:=y6 @k (y6 @w1' (y6 @w2 (y6 @w4' (y6 @w5' (y6 @iF (y6 @iO (y6 @bu aD)))))))
  repeat' ((first |(with_reducible refine .guard (fun hb =>?_) (fun hb =>?_) <;>try simp only[hb])|refine U.aG (by decide +kernel) rfl fun K hK =>?_|refine .flat _ (f1) rfl ?_|refine .flat _ (f2) rfl ?_|refine .flat _ (f3) rfl ?_|refine .flat _ (f4) rfl ?_|refine .flat _ (f5) rfl ?_|refine .flat _ (f6) rfl ?_|(refine .aE [0,1,2,30,33,65,69] hK ?_;clear hK K)|(with_reducible refine .done (hK _ ?_);clear hK K)|refine U.of rfl ?_|(with_reducible refine aw.aF (fun h =>?_) (fun h =>?_) <;>try simp only[h])) <;>try simp only[aH,R,simprocAttr])
  all_goals clear R
  all_goals rfl
theorem ZD{n:Int}(h:0≤n∧n<256):IntKind.u8.wrap n=n:=by
 simp only[IntKind.wrap,IntKind.bits,IntKind.signed];simp;omega
theorem fb(a b:List UInt8)(h:a.length+b.length≤9223372036854775807):bL .add (enc (av.of a)) (enc (av.of b))=some (enc (av.of (a++b))):=by
 rw[Y3 _ _ (by rw[av.dG,av.dG];exact h)];rfl
def kq(m:Nat):UInt8:=UInt8.ofNat (48+m%10)
theorem VX{m:Nat}(h:10≤m):Lib.itoa (m:Int)=Lib.itoa ((m / 10:Nat):Int)++[kq m]:=by
 rw[Lib.itoa_nonneg,Lib.itoa_nonneg,As (by omega)];rfl
theorem VY{m:Nat}(h:m<10):Lib.itoa (m:Int)=[kq m]:=by
 rw[Lib.itoa_nonneg,Lib.decDigits_one (by omega),kq,Nat.mod_eq_of_lt h]
def uk(t:Nat×List UInt8):ab:=aq [(0,.int .i64 (t.1:Int)),(3,enc (av.of (kq t.1::t.2)))] []
theorem xQ(m:Nat)(hm:m≤9223372036854775807):aS Tryz.prog 134 [enc (m:Int)] (enc (av.of (Lib.itoa (m:Int)))):=by
 refine aS.bT Tryz.func134 HR I8 Kp (t8 rfl) (fun hwf W0 bI E1 =>?_);simp only[yZ,C8,bF];clear hwf;have hd:∀ k:Nat,k≤9223372036854775807→IntKind.i64.wrap (48+(k:Int).tmod 10)=48+(k:Int).tmod 10∧IntKind.u8.wrap (48+(k:Int).tmod 10)=48+(k:Int).tmod 10∧av.of [UInt8.ofNat (48+(k:Int).tmod 10).toNat]=av.of [kq k]:=fun k hk=>by
  have e:((k:Int)).tmod 10=((k%10:Nat):Int):=rfl;rw[e];refine ⟨dX _ (by omega) (by omega),ZD (by omega),?_⟩;rw[kq,show ((48:Int)+((k%10:Nat):Int)).toNat=48+k%10 by omega]
 obtain ⟨h1,h2,h3⟩:=hd m hm;have R:=y6 @h1 (y6 @h2 (y6 @h3 (y6 @bu aD)))
 repeat' ((first |refine U.aG (by decide +kernel) rfl fun K hK =>?_|(refine .aE [0,2,3,11] hK ?_;clear hK K)|(with_reducible refine .done (hK _ ?_);clear hK K)|refine U.of rfl ?_|(with_reducible refine aw.aF (fun h =>?_) (fun h =>?_) <;>try simp only[h])) <;>try simp only[aH,R,simprocAttr])
 all_goals clear R
 refine U.loop uk (fun t=>t.1≤9223372036854775807∧Lib.itoa (m:Int)=Lib.itoa (t.1:Int)++t.2) (fun t=>t.1) (m,[]) ⟨hm,by simp⟩ ?_ ?_
 ·simp only[uk];refine bg.bZ ?_ ?_ ?_ ?_ <;>simp[bK,bO,bG,bE,bN,I.only,br]
 rintro ⟨k,t⟩ ⟨hk,hin⟩;simp only at hk hin;simp only[uk];by_cases hlt:k<10
 ·have hlc:decide ((k:Int)≥10)=false:=decide_eq_false (by omega);rw[VY hlt] at hin;rw[hin];have R:=y6 @hlc (y6 @bu aD)
  repeat' ((first |refine U.aG (by decide +kernel) rfl fun K hK =>?_|(refine .aE [0,2,3,11] hK ?_;clear hK K)|(with_reducible refine .done (hK _ ?_);clear hK K)|refine U.of rfl ?_|(with_reducible refine aw.aF (fun h =>?_) (fun h =>?_) <;>try simp only[h])) <;>try simp only[aH,R,simprocAttr])
  all_goals clear R
  all_goals rfl
 ·have hlc:decide ((k:Int)≥10)=true:=decide_eq_true (by omega);have hq:IntKind.i64.wrap ((k:Int).tdiv 10)=((k / 10:Nat):Int):=by
   have e:((k:Int)).tdiv 10=((k / 10:Nat):Int):=rfl;rw[e];exact dX _ (by omega) (by omega)
  obtain ⟨g1,g2,g3⟩:=hd (k / 10) (by omega);rw[VX (m:=k) (by omega),Z9,List.singleton_append] at hin;have hlen:(kq k::t).length≤100:=by
   have h4:=congrArg List.length hin;rw[Z1] at h4;have h5:=Lib.itoa_length_le (m:Int) (by omega) (by omega);omega
  have hadd:=fb [kq (k / 10)] (kq k::t) (by simp only[List.length_singleton];omega);have R:=y6 @hlc (y6 @hq (y6 @g1 (y6 @g2 (y6 @g3 (y6 @hadd (y6 @bu aD))))))
  repeat' ((first |refine U.aG (by decide +kernel) rfl fun K hK =>?_|(refine .aE [0,2,3,11] hK ?_;clear hK K)|(with_reducible refine .done (hK _ ?_);clear hK K)|refine U.of rfl ?_|(with_reducible refine aw.aF (fun h =>?_) (fun h =>?_) <;>try simp only[h])) <;>try simp only[aH,R,simprocAttr])
  all_goals clear R
  refine ⟨(k / 10,kq k::t),⟨by simp only;omega,hin⟩,by simp only;omega,?_⟩;clear hin hd hadd hlen;refine bg.bZ ?_ ?_ ?_ ?_ <;>simp[bK,bO,bG,bE,bN,I.only,br]
theorem mF{n:Int}(h:0≤n∧n<100000000):aS Tryz.prog 134 [.int .i64 n] (enc (av.of (Lib.itoa n)))∧(Lib.itoa n).length≤8:=by
 obtain ⟨m,rfl⟩:=zz7 h.1;exact ⟨xQ m (by omega),qh (k:=7) (by omega)⟩
theorem FW(r:ah)(hs:r.text.length≤1000000000000)(hn:∀ n∈eL r,0≤n∧n<100000000):aS Tryz.prog 133 [enc r] (enc (av.of (dm r))):=by
 obtain ⟨c1,l1⟩:=mF (hn r.aJ (by simp[eL]));obtain ⟨c2,l2⟩:=mF (hn r.no (by simp[eL]));obtain ⟨c3,l3⟩:=mF (hn r.kind (by simp[eL]));obtain ⟨c4,l4⟩:=mF (hn r.dY (by simp[eL]));obtain ⟨c5,l5⟩:=mF (hn r.known (by simp[eL]));obtain ⟨Hz,l6⟩:=mF (hn r.fo (by simp[eL]));obtain ⟨HA,l7⟩:=mF (hn r.fE (by simp[eL]));have hb:dm r=Lib.itoa r.aJ++[32]++Lib.itoa r.no++[32]++Lib.itoa r.kind++[32]++Lib.itoa r.dY++[32]++Lib.itoa r.known++[32]++Lib.itoa r.fo++[32]++Lib.itoa r.fE++[32]++r.text:=by
  simp[dm,dH,eL]
 rw[hb];generalize Lib.itoa r.aJ=x1 at *;generalize Lib.itoa r.no=x2 at *;generalize Lib.itoa r.kind=x3 at *;generalize Lib.itoa r.dY=x4 at *;generalize Lib.itoa r.known=x5 at *;generalize Lib.itoa r.fo=x6 at *;generalize Lib.itoa r.fE=x7 at *;have ls:([32]:List UInt8).length=1:=rfl;have a1:=fb x1 [32] (by omega);have a2:=fb (x1++[32]) x2 (by simp only[Z1,ls];omega);have a3:=fb (x1++[32]++x2) [32] (by simp only[Z1,ls];omega);have a4:=fb (x1++[32]++x2++[32]) x3 (by simp only[Z1,ls];omega);have a5:=fb (x1++[32]++x2++[32]++x3) [32] (by simp only[Z1,ls];omega);have a6:=fb (x1++[32]++x2++[32]++x3++[32]) x4 (by simp only[Z1,ls];omega);have a7:=fb (x1++[32]++x2++[32]++x3++[32]++x4) [32] (by simp only[Z1,ls];omega);have a8:=fb (x1++[32]++x2++[32]++x3++[32]++x4++[32]) x5 (by simp only[Z1,ls];omega);have a9:=fb (x1++[32]++x2++[32]++x3++[32]++x4++[32]++x5) [32] (by simp only[Z1,ls];omega);have b1:=fb (x1++[32]++x2++[32]++x3++[32]++x4++[32]++x5++[32]) x6 (by simp only[Z1,ls];omega);have b2:=fb (x1++[32]++x2++[32]++x3++[32]++x4++[32]++x5++[32]++x6) [32] (by simp only[Z1,ls];omega);have b3:=fb (x1++[32]++x2++[32]++x3++[32]++x4++[32]++x5++[32]++x6++[32]) x7 (by simp only[Z1,ls];omega);have b4:=fb (x1++[32]++x2++[32]++x3++[32]++x4++[32]++x5++[32]++x6++[32]++x7) [32] (by simp only[Z1,ls];omega);have b5:=fb (x1++[32]++x2++[32]++x3++[32]++x4++[32]++x5++[32]++x6++[32]++x7++[32]) r.text (by simp only[Z1,ls];omega);refine aS.bT Tryz.func133 HQ I7 Ko (t8 rfl) (fun hwf W0 bI E1 =>?_);simp only[yY,C7,bF];clear hwf hb hn;have R:=y6 @mS (y6 @a1 (y6 @a2 (y6 @a3 (y6 @a4 (y6 @a5 (y6 @a6 (y6 @a7 (y6 @a8 (y6 @a9 (y6 @b1 (y6 @b2 (y6 @b3 (y6 @b4 (y6 @b5 aD))))))))))))))
 repeat' ((first |refine U.aG (by decide +kernel) rfl fun K hK =>?_|refine .flat _ (c1) rfl ?_|refine .flat _ (c2) rfl ?_|refine .flat _ (c3) rfl ?_|refine .flat _ (c4) rfl ?_|refine .flat _ (c5) rfl ?_|refine .flat _ (Hz) rfl ?_|refine .flat _ (HA) rfl ?_|(refine .aE [0,1,2,3] hK ?_;clear hK K)|(with_reducible refine .done (hK _ ?_);clear hK K)|refine U.of rfl ?_|(with_reducible refine aw.aF (fun h =>?_) (fun h =>?_) <;>try simp only[h])) <;>try simp only[aH,R,simprocAttr])
 all_goals clear R
 all_goals rfl
theorem Fm(s:Int)(l:List UInt8)(c:UInt8):dB s (l++[c])=(257*dB s l+c.toNat+1)%1000003:=by simp[dB]
theorem Fk{s:Int}{c:UInt8}(h:0≤s∧s<1000003):IntKind.i64.wrap (257*s)=257*s∧IntKind.i64.wrap (c.toNat:Int)=c.toNat∧IntKind.i64.wrap (257*s+c.toNat)=257*s+c.toNat∧IntKind.i64.wrap (257*s+c.toNat+1)=257*s+c.toNat+1 ∧
  (257*s+(c.toNat:Int)+1).tmod 1000003=(257*s+c.toNat+1)%1000003:=by
 have hc:=c.toNat_lt;exact ⟨dX _ (by omega) (by omega),dX _ (by omega) (by omega),dX _ (by omega) (by omega),dX _ (by omega) (by omega),Int.tmod_eq_emod_of_nonneg (by omega)⟩
theorem uC{r:ah}{k:Nat}(ht:r.text.length≤k)(hn:∀ n∈eL r,0≤n∧n<100000000):(dm r).length≤63+k:=by
 have h:∀ l:List Int,(∀ x∈l,0≤x∧x<100000000)→(dH l).length≤9*l.length:=by
  intro l
  induction l with
  |nil=>intro _;simp[dH]
  |cons x l ih =>
   intro h;have h1:=ih fun y hy=>h y (by simp[hy]);have h2:=qh (k:=7) (n:=x) (by have:=h x (by simp);omega);simp only[dH] at h1;simp only[dH,List.flatMap_cons,Z1,zx1,zy9];omega
 have:=h _ hn;have h4:(eL r).length=7:=rfl;rw[dm,Z1];omega
theorem pC(s:Int)(hs:0≤s∧s<1000003)(r:ah)(hr:bn r=true):aS Tryz.prog 81 [enc s,enc r] (.tuple [enc (av.of (dV s r)),enc (dB s (dm r))]):=by
 have ht:=sY hr;have hn:=sX hr;have hbl:=uC ht hn;have hF:=FU r (by omega);have hsum:=fun l=>pg hs l;simp only[dV];generalize hb:dm r=b at *;have hsb:=xa b;refine aS.bT Tryz.func81 IC JL K4 (t8 rfl) (fun hwf W0 bI E1 =>?_);simp only[zH,DP,bF,Z5];clear hwf;have R:=y6 @hsb (y6 @bu (y6 @iB aD))
 repeat' ((first |refine aY.eM rfl fun m =>?_|refine U.aG (by decide +kernel) rfl fun K hK =>?_|refine .flat _ (hF) rfl ?_|(refine .aE [0,1,3,4,5,6,8,12,13,14,15] hK ?_;clear hK K)|(with_reducible refine .done (hK _ ?_);clear hK K)|refine U.of rfl ?_|(with_reducible refine aw.aF (fun h =>?_) (fun h =>?_) <;>try simp only[h])) <;>try simp only[aH,R,simprocAttr])
 all_goals clear R
 refine U.loop (fun i:Nat=>aq [(0,.int .i64 (dB s (b.take i))),(3,.ptr 3 []),(6,enc (av.of b)),(12,enc b),(13,.int .i64 b.length),(14,.int .i64 i)] [(3,.box (enc r))]) (fun i=>i≤b.length) (fun i=>b.length-i) 0 (zx8 _) ?_ ?_
 ·refine bg.mT [12] 12 (x:=.view 12 [] 1 0 b.length) (y:=enc b) rfl (AT rfl) ?_ ?_ ?_ ?_ ?_ <;>simp[dD,bE,bK,bO,bG,ao,ib,bN,aA,ai.only,I.only,br]
  all_goals rfl
 intro i hi;have hst:=hsum (b.take i);by_cases hlt:i<b.length
 ·have hlc:=e9 hlt;have he:=fun A=>eS (A:=A) 1 hlt rfl;have hw:=eO (i:=i) (by omega);have hsn:=Fm s (b.take i) b[i];rw[←List.take_succ_eq_append_getElem hlt] at hsn;generalize b[i]=c at *;generalize dB s (b.take i)=z at *;obtain ⟨g1,g2,g3,g4,g5⟩:=Fk (c:=c) hst;have R:=y6 @hlc (y6 @he (y6 @hw (y6 @g1 (y6 @g2 (y6 @g3 (y6 @g4 (y6 @g5 (y6 @qT (y6 @bu aD)))))))))
  repeat' ((first |refine U.aG (by decide +kernel) rfl fun K hK =>?_|(refine .aE [0,1,3,4,5,6,8,12,13,14,15] hK ?_;clear hK K)|(with_reducible refine .done (hK _ ?_);clear hK K)|refine U.of rfl ?_|(with_reducible refine aw.aF (fun h =>?_) (fun h =>?_) <;>try simp only[h])) <;>try simp only[aH,R,simprocAttr])
  all_goals clear R
  refine ⟨i+1,by omega,by omega,?_⟩;rw[hsn];refine bg.bZ ?_ ?_ ?_ ?_ <;>simp[bK,bO,bG,bE,ao,bN,cI,I.only,ai.only,br]
  all_goals rfl
 ·have hlc:=fB hlt;have hge:i=b.length:=by omega
  subst hge;rw[List.take_length] at hst ⊢;generalize dB s b=z at *;obtain ⟨q,rfl⟩:=zz7 hst.1;have hz:=FV (q:Int);have hzl:=qh (k:=7) (n:=(q:Int)) (by omega);rw[vL] at hz;have a1:=fb (Lib.itoa (q:Int)) [32] (by simp;omega);have a2:=fb (Lib.itoa (q:Int)++[32]) b (by simp;omega);have a3:=fb (Lib.itoa (q:Int)++[32]++b) [10] (by simp;omega);have e:dH [(q:Int)]=Lib.itoa (q:Int)++[32]:=by simp[dH]
  rw[e];have R:=y6 @hlc (y6 @mS (y6 @pU (y6 @a1 (y6 @a2 (y6 @a3 aD)))))
  repeat' ((first |refine U.aG (by decide +kernel) rfl fun K hK =>?_|refine .flat _ (hz) rfl ?_|(refine .aE [0,1,3,4,5,6,8,12,13,14,15] hK ?_;clear hK K)|(with_reducible refine .done (hK _ ?_);clear hK K)|refine U.of rfl ?_|(with_reducible refine aw.aF (fun h =>?_) (fun h =>?_) <;>try simp only[h])) <;>try simp only[aH,R,simprocAttr])
  all_goals clear R
  all_goals rfl
theorem Gi(s:Int)(hs:0≤s∧s<1000003)(r:ah)(hr:bn r=true):aS Tryz.prog 83 [enc s,enc r] (.tuple [enc (av.of (dV s r)),enc (dB s (dm r))]):=by
 have ht:=sY hr;have hn:=sX hr;have hbl:=uC ht hn;have hF:=FW r (by omega) hn;have hsum:=fun l=>pg hs l;simp only[dV];generalize hb:dm r=b at *;have hl:=pb b;refine aS.bT Tryz.func83 IE JN K6 (t8 rfl) (fun hwf W0 bI E1 =>?_);simp only[zJ,DR,bF,Z5];clear hwf;have R:=y6 @bu aD
 repeat' ((first |refine U.aG (by decide +kernel) rfl fun K hK =>?_|refine .flat _ (hF) rfl ?_|(refine .aE [0,1,3,4,5,6,7,13] hK ?_;clear hK K)|(with_reducible refine .done (hK _ ?_);clear hK K)|refine U.of rfl ?_|(with_reducible refine aw.aF (fun h =>?_) (fun h =>?_) <;>try simp only[h])) <;>try simp only[aH,R,simprocAttr])
 all_goals clear R
 refine U.loop (fun i:Nat=>aq [(0,.int .i64 (dB s (b.take i))),(3,.ptr 3 []),(6,enc (av.of b)),(7,.int .i64 i)] [(3,.box (enc r))]) (fun i=>i≤b.length) (fun i=>b.length-i) 0 (zx8 _) ?_ ?_
 ·refine bg.bZ ?_ ?_ ?_ ?_ <;>simp[bK,bO,bG,bE,ao,bN,cI,I.only,ai.only,br]
  all_goals rfl
 intro i hi;have hst:=hsum (b.take i);by_cases hlt:i<b.length
 ·have hlc:=e9 hlt;have he:=ES b hlt;have hw:=eO (i:=i) (by omega);have hsn:=Fm s (b.take i) b[i];rw[←List.take_succ_eq_append_getElem hlt] at hsn;generalize b[i]=c at *;generalize dB s (b.take i)=z at *;obtain ⟨g1,g2,g3,g4,g5⟩:=Fk (c:=c) hst;have R:=y6 @hl (y6 @hlc (y6 @he (y6 @hw (y6 @g1 (y6 @g2 (y6 @g3 (y6 @g4 (y6 @g5 (y6 @bu aD)))))))))
  repeat' ((first |refine U.aG (by decide +kernel) rfl fun K hK =>?_|(refine .aE [0,1,3,4,5,6,7,13] hK ?_;clear hK K)|(with_reducible refine .done (hK _ ?_);clear hK K)|refine U.of rfl ?_|(with_reducible refine aw.aF (fun h =>?_) (fun h =>?_) <;>try simp only[h])) <;>try simp only[aH,R,simprocAttr])
  all_goals clear R
  refine ⟨i+1,by omega,by omega,?_⟩;rw[hsn];refine bg.bZ ?_ ?_ ?_ ?_ <;>simp[bK,bO,bG,bE,ao,bN,cI,I.only,ai.only,br]
  all_goals rfl
 ·have hlc:=fB hlt;have hge:i=b.length:=by omega
  subst hge;rw[List.take_length] at hst ⊢;generalize dB s b=z at *;obtain ⟨q,rfl⟩:=zz7 hst.1;have hz:=xQ q (by omega);have hzl:=qh (k:=7) (n:=(q:Int)) (by omega);have a1:=fb (Lib.itoa (q:Int)) [32] (by simp;omega);have a2:=fb (Lib.itoa (q:Int)++[32]) b (by simp;omega);have a3:=fb (Lib.itoa (q:Int)++[32]++b) [10] (by simp;omega);have e:dH [(q:Int)]=Lib.itoa (q:Int)++[32]:=by simp[dH]
  rw[e];have R:=y6 @hl (y6 @hlc (y6 @mS (y6 @pU (y6 @a1 (y6 @a2 (y6 @a3 aD))))))
  repeat' ((first |refine U.aG (by decide +kernel) rfl fun K hK =>?_|refine .flat _ (hz) rfl ?_|(refine .aE [0,1,3,4,5,6,7,13] hK ?_;clear hK K)|(with_reducible refine .done (hK _ ?_);clear hK K)|refine U.of rfl ?_|(with_reducible refine aw.aF (fun h =>?_) (fun h =>?_) <;>try simp only[h])) <;>try simp only[aH,R,simprocAttr])
  all_goals clear R
  all_goals rfl
def kE(s:Int)(r:ah):List UInt8×Int×Int:=if ew 0 1000002 s=false then ([],0,1) else if bn r=false then ([],0,80) else (dV s r,dB s (dm r),0)
theorem Wv{s:Int}{r:ah}(h:ew 0 1000002 s=false):kE s r=([],0,1):=by rw[kE,if_pos h]
theorem Ww{s:Int}{r:ah}(h:ew 0 1000002 s=true)(h2:bn r=false):kE s r=([],0,80):=by rw[kE,h,if_neg (by decide),if_pos h2]
theorem Wx{s:Int}{r:ah}(h:ew 0 1000002 s=true)(h2:bn r=true):kE s r=(dV s r,dB s (dm r),0):=by rw[kE,h,h2,if_neg (by decide),if_neg (by decide)]
theorem Gb(s:Int)(r:ah):aS Tryz.prog 29 [enc s,enc r] (.tuple [enc (av.of (kE s r).1),enc (kE s r).2.1,enc (kE s r).2.2]):=by
 refine aS.bT Tryz.func29 Ii Ju KM (t8 rfl) (fun hwf W0 bI E1 =>?_);simp only[zp,Dw,bF,Z5];clear hwf;have f1:=yb s;have f2:=pB r;cases q1:ew 0 1000002 s
 ·rw[q1] at f1;rw[Wv q1];have R:=aD
  repeat' ((first |refine U.aG (by decide +kernel) rfl fun K hK =>?_|refine .flat _ (f1) rfl ?_|(refine .aE [0,1,3,4,5,6,7,8,9,13] hK ?_;clear hK K)|(with_reducible refine .done (hK _ ?_);clear hK K)|refine U.of rfl ?_|(with_reducible refine aw.aF (fun h =>?_) (fun h =>?_) <;>try simp only[h])) <;>try simp only[aH,R,simprocAttr])
  all_goals clear R
  all_goals rfl
 cases q2:bn r
 ·rw[q1] at f1;rw[q2] at f2;rw[Ww q1 q2];have R:=aD
  repeat' ((first |refine U.aG (by decide +kernel) rfl fun K hK =>?_|refine .flat _ (f1) rfl ?_|refine .flat _ (f2) rfl ?_|(refine .aE [0,1,3,4,5,6,7,8,9,13] hK ?_;clear hK K)|(with_reducible refine .done (hK _ ?_);clear hK K)|refine U.of rfl ?_|(with_reducible refine aw.aF (fun h =>?_) (fun h =>?_) <;>try simp only[h])) <;>try simp only[aH,R,simprocAttr])
  all_goals clear R
  all_goals rfl
 have f3:=pC s (by have:=oF.1 q1;omega) r q2;rw[q1] at f1;rw[q2] at f2;rw[Wx q1 q2];have R:=aD
 repeat' ((first |refine U.aG (by decide +kernel) rfl fun K hK =>?_|refine .flat _ (f1) rfl ?_|refine .flat _ (f2) rfl ?_|refine .lead _ (f3) ?_|(refine .aE [0,1,3,4,5,6,7,8,9,13] hK ?_;clear hK K)|(with_reducible refine .done (hK _ ?_);clear hK K)|refine U.of rfl ?_|(with_reducible refine aw.aF (fun h =>?_) (fun h =>?_) <;>try simp only[h])) <;>try simp only[aH,R,simprocAttr])
 all_goals clear R
 all_goals rfl
def wT:bj:=(.seq (.b7 none Sl) (.seq (.seq (.b7 none Ss) (.cond (.t 20) (.b7 none Bo) .skip)) (.seq (.b7 none St) (.seq (.b7 none Su) (.seq (.b7 none Bp) (.seq (.seq (.b7 none Sv) (.block 0 (.loop (.seq (.b7 none Sw) (.seq (.cond (.t 29) .skip (.exit 0)) (.seq (.block 1 (.seq (.b7 none Sx) (.b7 none Bm))) (.b7 none Sm))))))) (.seq (.b7 none Sn) (.seq (.seq (.b7 none Sp) (.cond (.t 59) (.b7 none Bn) .skip)) (.seq (.b7 none Sq) (.seq (.seq (.b7 none Sr) (.cond (.t 75) (.b7 none vr) .skip)) (.seq (.b7 LD vt) .ret)))))))))))
theorem LP:Tryz.f70.body.bind (uW Tryz.prog Tryz.f70.ntmps)=some (.b7 none Bl,124,[4,5,6],13,wT):=by kernel_rfl
def gZ(s:Int)(t:List UInt8):ah×Int×Bool:=match eh bn s t with
 |some (r,n)=>(r,n,true)
 |none=>(default,0,false)
def gY(r:ah)(n:Int)(b:Bool):List (Nat×ai):=[(1900004,.box (enc r)),(1900005,.box (.int .i64 n)),(1900006,.box (.bool b))]
def kV(x:ah×Int×Bool):I:=.tuple [enc x.1,.int .i64 x.2.1,.bool x.2.2]
def qH(s:Int)(t:List UInt8):cj:=fun r os'=>r=kV (gZ s t)∧os'=gY (gZ s t).1 (gZ s t).2.1 (gZ s t).2.2
def nB:List (Nat×Nat):=[(1900004,4),(1900005,5),(1900006,6)]
def wA:List (Nat×ai):=[(6,.box (.bool false)),(5,.box (.int .i64 0)),(4,.box (enc (default:ah)))]
def nd:List Nat:=[1900004,1900005,1900006]
def nT:List I:=[enc (default:ah),.int .i64 0,.bool false]
theorem tv(m:Nat):bh nB m=if m=1900004 then 4 else if m=1900005 then 5 else if m=1900006 then 6 else m:=rfl
theorem sD{r:ah}{n:Int}{b:Bool}{m:Nat}{y:ai}(h:aA (gY r n b) m=some y):(m=1900004∧y=.box (enc r))∨(m=1900005∧y=.box (.int .i64 n))∨(m=1900006∧y=.box (.bool b)):=by
 simp only[gY,aA] at h;split at h
 ·rename_i e;cases h;exact .inl ⟨e,rfl⟩
 split at h
 ·rename_i e;cases h;exact .inr (.inl ⟨e,rfl⟩)
 split at h
 ·rename_i e;cases h;exact .inr (.inr ⟨e,rfl⟩)
 ·cases h
theorem lC{r:ah}{n:Int}{b:Bool}{m:Nat} : ao (gY r n b) m=true↔m=1900004∨m=1900005∨m=1900006:=by
 constructor
 ·intro h;cases hy:aA (gY r n b) m with
  |none=>rw[ao,hy] at h;cases h
  |some y=>rcases sD hy with ⟨h,_⟩ | ⟨h,_⟩ | ⟨h,_⟩ <;>simp[h]
 ·rintro (rfl | rfl | rfl) <;>rfl
theorem ni{r:ah}{n:Int}{b:Bool}{m:Nat}{y:ai}(h:aA (gY r n b) m=some y)(p:Nat→Bool):y.only p=true∧y.er=true∧y.aO (bh nB)=y:=by
 rcases sD h with ⟨_,rfl⟩ | ⟨_,rfl⟩ | ⟨_,rfl⟩
 ·exact ⟨br _ _,rfl,by simp only[ai.aO,gQ]⟩
 ·exact ⟨rfl,rfl,rfl⟩
 ·exact ⟨rfl,rfl,rfl⟩
theorem VI:eP nB (gY default 0 false) wA:=by
 refine ⟨fun m y hy=>⟨?_,(ni hy _).1,(ni hy (fun _=>true)).2.1⟩,fun m m' hm hm' e =>?_⟩
 ·rw[(ni hy (fun _=>true)).2.2];rcases sD hy with ⟨rfl,rfl⟩ | ⟨rfl,rfl⟩ | ⟨rfl,rfl⟩ <;>rfl
 ·have k1:=lC.1 hm;have k2:=lC.1 hm';rw[tv,tv] at e
  (repeat' split at e) <;>omega
theorem G7(s:Int)(t:List UInt8):∀ r os',qH s t r os'→dh false nB (gY default 0 false) wA r os':=by
 rintro r os' ⟨rfl,rfl⟩;refine ⟨fun m y hy=>⟨(ni hy _).1,(ni hy (fun _=>true)).2.1,fun h=>by cases h⟩,fun m m' hm hm' e =>?_,fun m hm=>lC.2 (lC.1 hm),fun m hm hno =>?_,⟨?_,fun h=>by cases h⟩⟩
 ·have k1:=lC.1 hm;have k2:=lC.1 hm';rw[tv,tv] at e
  (repeat' split at e) <;>omega
 ·rw[lC.2 (lC.1 hm)] at hno;cases hno
 ·simp only[kV,I.only,I.bV,br,Bool.and_self]
theorem G6(s:Int)(t:List UInt8):∀ r os',qH s t r os'→∃ osF,r.flat=true∧r.aO (bh nB)=r∧(∀ m z,aA osF m=some z→aA (cO nB os'++wA) m=some z∧z.only (ao osF)=true∧z.er=true)∧(r=kV (gZ s t)∧osF=[]):=by
 rintro r os' ⟨rfl,rfl⟩;refine ⟨[],?_,?_,fun m z hz=>by simp[aA] at hz,rfl,rfl⟩
 ·rfl
 ·simp only[kV,I.aO,I.cV,gQ]
theorem Ev{r:ah}{n:Int}{b:Bool}{post:cj}{A:ab}(hp:post (kV (r,n,b)) (gY r n b))(t4:A.t 4=.ptr 1900004 [])(t5:A.t 5=.ptr 1900005 [])(t6:A.t 6=.ptr 1900006 [])(o4:A.o 1900004=some (.box (enc r)))(o5:A.o 1900005=some (.box (.int .i64 n)))(o6:A.o 1900006=some (.box (.bool b))) :
  iV tg post A:=by
 refine ⟨gY r n b,[enc r,.int .i64 n,.bool b],fun m z hz=>⟨?_,(ni hz _).1,(ni hz (fun _=>true)).2.1⟩,⟨⟨enc r,?_,.inl ⟨rfl,eQ _,br _ _⟩⟩,⟨.int .i64 n,?_,.inl ⟨rfl,rfl,rfl⟩⟩,⟨.bool b,?_,.inl ⟨rfl,rfl,rfl⟩⟩,trivial⟩,hp⟩
 ·rcases sD hz with ⟨rfl,rfl⟩ | ⟨rfl,rfl⟩ | ⟨rfl,rfl⟩ <;>assumption
 ·simp only[np,t4,bW,o4];rfl
 ·simp only[np,t5,bW,o5];rfl
 ·simp only[np,t6,bW,o6];rfl
theorem oT{s:Int}{t:List UInt8}(hn:eh bn s t=none){A:ab}{x:ah}{n:Int}{b:Bool}(t4:A.t 4=.ptr 1900004 [])(t5:A.t 5=.ptr 1900005 [])(t6:A.t 6=.ptr 1900006 [])(o4:A.o 1900004=some (.box (enc x)))(o5:A.o 1900005=some (.box (.int .i64 n)))(o6:A.o 1900006=some (.box (.bool b))) :
  qK tg (qH s t) jJ nd nT (.panic jJ) A:=by
 refine ⟨rfl,⟨⟨_,o4,(eJ _).trans (eJ _).symm⟩,⟨_,o5,rfl⟩,⟨_,o6,rfl⟩,trivial⟩,?_⟩;refine Ev (r:=default) (n:=0) (b:=false) ?_ t4 t5 t6 ?_ ?_ ?_
 ·show _∧_
  rw[gZ,hn];exact ⟨rfl,rfl⟩
 ·simp[nd,nT,nF,ab.aQ]
 ·simp[nd,nT,nF,ab.aQ]
 ·simp[nd,nT,nF,ab.aQ]
theorem CL{Q:Exit→ab→Prop}{ts:List (Nat×I)}{os0:List (Nat×ai)}{u:List UInt8}{v:I}(hv:v=enc (av.of u))(hlen:u.length≤281474976710656)(h:∀ w t,dC 32 u=some (w,t)→gH w=none)(hq:Q (.panic jJ) (aq ts os0)):pE Tryz.prog Q 126 [v] (aq ts os0):=by
 subst hv;exact .mk false [] [] [enc (av.of u)] jJ _ (FQ (av.of u) (by rw[av.dG];exact hlen) (by rw[av.dG];exact h)) ⟨fun m x h=>by simp[aA] at h,fun m m' h=>by simp[ao,aA] at h⟩ ⟨.inl ⟨(gQ _ _).symm,br _ _,eQ _⟩,trivial⟩
  (fun os' h=>by subst h;exact ⟨fun m x h=>by simp[aA] at h,fun m m' h=>by simp[ao,aA] at h,fun m h=>h,fun m h=>by simp[ao,aA] at h,⟨rfl,fun h=>by cases h⟩⟩) (fun os' h=>by subst h;exact hq)
def dQ(l:List Int):en 7 Int:=⟨(l++List.replicate 7 0).take 7,by simp⟩
theorem X0{l:List Int}(h:l.length<7)(v:Int):(⟨(dQ l).l.set l.length v,by simp[(dQ l).h]⟩:en 7 Int)=dQ (l++[v]):=by
 simp only[dQ,en.mk.injEq];refine List.ext_getElem (by simp) fun i h1 h2 =>?_;simp only[zz1,Z1,List.length_replicate,List.length_set,zx1,zy9] at h1 h2;simp only[List.getElem_set,List.getElem_take,List.getElem_append];by_cases e:l.length=i
 ·subst e;simp
 ·by_cases k:i<l.length
  ·rw[if_neg e,dif_pos k,dif_pos (by simp;omega),dif_pos k]
  ·rw[if_neg e,dif_neg k,dif_neg (by simp;omega)];simp only[List.getElem_replicate]
theorem AB:I.agg [.int .i64 0,.int .i64 0,.int .i64 0,.int .i64 0,.int .i64 0,.int .i64 0,.int .i64 0]=enc (dQ []):=rfl
theorem XZ{l:List Int}(h:l.length=7)(k:Nat):(dQ l).g k=l.getD k 0:=by
 simp only[en.g,dQ];rw[List.take_left' h]
theorem Y9{l:List Int}(h:l.length<7)(v:Int):(enc (dQ l):I).du [l.length] (.int .i64 v)=enc (dQ (l++[v])):=by
 have h1:(enc (dQ l):I).dc=some ((dQ l).l.map enc):=rfl;rw[xd,h1];simp only[pd,Bt (dQ l) h,qU,fM];rw[←X0 h]
 change I.agg _=I.agg (((dQ l).l.set l.length v).map enc)
 rw[List.map_set];rfl
theorem Zm{A:ab}{n:Nat}{l:List Int}(h:l.length<7){v u:Int}{rest:List ay} : dW A none n [l.length] (enc (dQ l)) (.int .i64 v) rest (some (.int .i64 u))=ar rest (A.aQ n (.box (enc (dQ (l++[v]))))):=by
 rw[eV (s:=none) (v:=.int .i64 v) (old:=.int .i64 u) rfl rfl rfl,Y9 h]
theorem BO(t:List UInt8):Lib.hasSuffix t [10]=decide (t.getLast?=some 10):=by
 have:Lib.hasSuffix t [10]=true↔t.getLast?=some 10:=by
  rw[Lib.hasSuffix,List.isSuffixOf_iff_suffix];constructor
  ·rintro ⟨x,rfl⟩;simp
  ·intro h;obtain ⟨x,rfl⟩:=List.getLast?_eq_some_iff.1 h;exact ⟨x,rfl⟩
 cases h:Lib.hasSuffix t [10]
 ·rw[h] at this;exact (decide_eq_false fun k=>by simpa using this.2 k).symm
 ·rw[h] at this;exact (decide_eq_true (this.1 rfl)).symm
theorem ZB{t:List UInt8}(h:t.getLast?=some 10):Lib.trimSuffix t [10]=t.dropLast:=by
 rw[Lib.trimSuffix,BO,decide_eq_true h,if_pos rfl,List.dropLast_eq_take];rfl
theorem eN:(∀ A n b rest (q r:ah),dW A (some 8) n [] b (enc q) rest (some (enc r))=ar rest (A.aQ n (.box (enc q))))∧(∀ A n b rest (q:ah) v,v=enc q→dW A (some 8) n [] b v rest (some (enc (default:ah)))=ar rest (A.aQ n (.box (enc q)))) :=
 ⟨fun A n b rest q r=>by rw[eV (eQ _) (by rw[hZ];rfl) ((eJ _).trans (eJ _).symm),fM],fun A n b rest q v h=>by rw[h,eV (eQ _) (by rw[hZ];rfl) ((eJ _).trans (eJ _).symm),fM]⟩
theorem eZ:I.agg [.agg [.int .i64 0,.int .i64 0],.int .i64 0,.int .i64 0,.int .i64 0,.agg [.int .i64 0,.int .i64 0],.aj ⟨#[]⟩]=enc (default:ah):=rfl
theorem n9:(∀ x y,fF [.int .i64 0,.int .i64 0] [(0,.int .i64 x),(1,.int .i64 y)]=some [.int .i64 x,.int .i64 y]) ∧
  (∀ (x1 x2 n1 n2 n3 y1 y2:Int) (u:List UInt8),fF [.agg [.int .i64 0,.int .i64 0],.int .i64 0,.int .i64 0,.int .i64 0,.agg [.int .i64 0,.int .i64 0],.aj ⟨#[]⟩] [(0,.agg [.int .i64 x1,.int .i64 x2]),(1,.int .i64 n1),(2,.int .i64 n2),(3,.int .i64 n3),(4,.agg [.int .i64 y1,.int .i64 y2]),(5,enc (av.of u))]=some [.agg [.int .i64 x1,.int .i64 x2],.int .i64 n1,.int .i64 n2,.int .i64 n3,.agg [.int .i64 y1,.int .i64 y2],enc (av.of u)]) :=
 ⟨fun _ _=>rfl,fun _ _ _ _ _ _ _ _=>rfl⟩
theorem qX:(∀ A n b rest (q r:Int),dW A none n [] b (.int .i64 q) rest (some (.int .i64 r))=ar rest (A.aQ n (.box (.int .i64 q))))∧(∀ A n b rest (q r:Bool),dW A none n [] b (.bool q) rest (some (.bool r))=ar rest (A.aQ n (.box (.bool q)))) :=
 ⟨fun A n b rest q r=>by rw[eV (s:=none) (v:=.int .i64 q) (old:=.int .i64 r) rfl rfl rfl,fM],fun A n b rest q r=>by rw[eV (s:=none) (v:=.bool q) (old:=.bool r) rfl rfl rfl,fM]⟩
theorem Me{n0:Int}{l:List Int}{u:List UInt8}(h:l.length=7):I.agg [.agg [.int .i64 ((dQ l).g 0),.int .i64 ((dQ l).g 1)],.int .i64 ((dQ l).g 2),.int .i64 ((dQ l).g 3),.int .i64 ((dQ l).g 4),.agg [.int .i64 ((dQ l).g 5),.int .i64 ((dQ l).g 6)],enc (av.of u)]=enc (jy (n0::l) u):=by
 simp only[XZ h];rfl
theorem Ys{s n0:Int}{t u:List UInt8}{l:List Int}(h:t.getLast?=some 10)(hp:jg gH 8 t.dropLast=some (n0::l,u)) :
  eh bn s t=if bn (jy (n0::l) u)=true∧dV s (jy (n0::l) u)=t∧n0=dB s (dm (jy (n0::l) u)) then some (jy (n0::l) u,dB s (dm (jy (n0::l) u))) else none:=by
 rw[eh,if_pos h,hp,Option.bind_some];generalize jy (n0::l) u=r;simp only[List.headD_cons,oj];by_cases a:bn r=true
 ·by_cases b:dV s r=t
  ·by_cases c:n0=dB s (dm r)
   ·simp[a,b,c]
   ·simp[a,b,c]
  ·simp[b]
 ·simp[a]
structure yk where
 n0:Int
 l:List Int
 u:List UInt8
def uo(s:Int)(t:List UInt8)(x:yk):ab:=aq [(0,enc s),(1,enc (av.of t)),(4,.ptr 1900004 []),(5,.ptr 1900005 []),(6,.ptr 1900006 []),(7,enc (av.of x.u)),(9,enc x.n0),(10,.ptr 10 []),(28,.int .i64 x.l.length)] ((10,.box (enc (dQ x.l)))::gY default 0 false)
def FJ(t:List UInt8)(x:yk):Prop:=x.l.length≤7∧x.u.length≤t.length∧jg gH 8 t.dropLast=(jg gH (7-x.l.length) x.u).map fun p=>(x.n0::x.l++p.1,p.2)
theorem Ft{f:List UInt8→Option Int}{k:Nat}{u w v:List UInt8}{n:Int}(h1:dC 32 u=some (w,v))(h2:f w=some n):jg f (k+1) u=(jg f k v).map fun p=>(n::p.1,p.2):=by
 rw[jg,h1];simp only[h2]
theorem Fs{f:List UInt8→Option Int}{k:Nat}{u:List UInt8}(h:∀ w t,dC 32 u=some (w,t)→f w=none):jg f (k+1) u=none:=by
 rw[jg];cases h1:dC 32 u with
 |none=>rfl
 |some p=>simp only[h p.1 p.2 h1]
theorem Ar(u:List UInt8):(∃ w v n,dC 32 u=some (w,v)∧gH w=some n∧v.length≤u.length)∨∀ w t,dC 32 u=some (w,t)→gH w=none:=by
 cases h1:dC 32 u with
 |none=>exact .inr fun w t h=>by cases h
 |some p =>
  obtain ⟨w,v⟩:=p;cases h2:gH w with
  |none=>exact .inr fun w' t' h=>by cases h;exact h2
  |some n=>exact .inl ⟨w,v,n,rfl,h2,by have:=rS h1;simp only at this;omega⟩
theorem YM{s:Int}(hs:0≤s∧s<1000003){t:List UInt8}(ht:t.length≤281474976710656)(W:World)(D:aK)(E:aN)(n:Nat)(d:Deferred) :
  U ⟨Tryz.prog,W,D,n,bX E,E,fQ,none,some [d]⟩ wT (qK tg (qH s t) jJ nd nT) (aq [(0,enc s),(1,enc (av.of t)),(4,.ptr 1900004 []),(5,.ptr 1900005 []),(6,.ptr 1900006 [])] (gY default 0 false)):=by
 have hC:=FP (av.of t) (av.of [10]);rw[av.dG,av.dG,BO] at hC;simp only[wT,gY];by_cases hl:t.getLast?=some 10
 ·have hd:decide (t.getLast?=some 10)=true:=decide_eq_true hl;rw[hd,ZB hl] at hC;have hT:eh bn s t=(jg gH 8 t.dropLast).bind fun p=>(oj bn s t (jy p.1 p.2)).bind fun q=>if p.1.headD 0=q.2 then some q else none:=by rw[eh,if_pos hl]
  have hlt:t.dropLast.length≤t.length:=by simp
  generalize hu0:t.dropLast=u0 at *;rcases Ar u0 with ⟨cT,v0,m0,hw,ho,hv⟩ | hno
  rotate_left
  ·have hn:eh bn s t=none:=by rw[hT,Fs (k:=7) hno];rfl
   have R:=y6 @hd (y6 @pU (y6 @jW (y6 @AB (y6 @bu aD))))
   repeat' ((first |(with_reducible refine .guard (fun hb =>?_) (fun hb =>?_) <;>try simp only[hb])|(refine U.lG (gs:=Bp) (gs1:=[_]) rfl fun K hK =>?_)|refine U.aG (by decide +kernel) rfl fun K hK =>?_|refine .flat _ (hC) rfl ?_|(refine .aE [0,1,4,5,6,7,8,9,10,11,12,20,28,29,59,75] hK ?_;clear hK K)|(with_reducible refine .done (hK _ ?_);clear hK K)|refine U.of rfl ?_|(with_reducible refine aw.aF (fun h =>?_) (fun h =>?_) <;>try simp only[h])) <;>try simp only[aH,R,simprocAttr])
   all_goals clear R
   exact .call (CL rfl (by omega) hno (oT hn rfl rfl rfl rfl rfl rfl))
  have h126:=xO (av.of u0) (by rw[av.dG];omega) cT v0 m0 (by rw[av.dG];exact hw) ho;have R:=y6 @hd (y6 @pU (y6 @jW (y6 @AB (y6 @bu aD))))
  repeat' ((first |(with_reducible refine .guard (fun hb =>?_) (fun hb =>?_) <;>try simp only[hb])|refine U.aG (by decide +kernel) rfl fun K hK =>?_|refine .flat _ (hC) rfl ?_|refine .lead _ (h126) ?_|(refine .aE [0,1,4,5,6,7,8,9,10,11,12,20,28,29,59,75] hK ?_;clear hK K)|(with_reducible refine .done (hK _ ?_);clear hK K)|refine U.of rfl ?_|(with_reducible refine aw.aF (fun h =>?_) (fun h =>?_) <;>try simp only[h])) <;>try simp only[aH,R,simprocAttr])
  all_goals clear R
  refine U.loop (uo s t) (FJ t) (fun x=>7-x.l.length) ⟨m0,[],v0⟩ ⟨by simp,by simp only;omega,?_⟩ ?_ ?_
  ·rw[hu0,Ft hw ho];rfl
  ·simp only[uo,gY];refine bg.bZ ?_ ?_ ?_ ?_ <;>simp[bK,bO,bG,bE,ao,bN,cI,I.only,ai.only,br,rU]
   all_goals rfl
  rintro ⟨n0,l,u⟩ ⟨hl7,hul,htk⟩;simp only at hl7 hul htk;rw[hu0] at htk;simp only[uo,gY];by_cases hlt7:l.length<7
  ·have hlc:decide ((l.length:Int)<7)=true:=decide_eq_true (by omega);have hib:=fun {y:Option I} =>si 1 (dQ l) (y:=y) (show (0:Int)≤(l.length:Int)∧(l.length:Int)<(7:Nat) by omega) rfl;have hat:=fun p=>kj (p:=p) (dQ l) hlt7;have hst:=fun A n v u rest=>Zm (A:=A) (n:=n) hlt7 (v:=v) (u:=u) (rest:=rest);have hws:=eO (i:=l.length) (by omega);have e7:7-l.length=(7-(l++[(0:Int)]).length)+1:=by simp;omega
   rcases Ar u with ⟨w,v,m,hw1,ho1,hv1⟩ | hno
   ·have h126':=xO (av.of u) (by rw[av.dG];omega) w v m (by rw[av.dG];exact hw1) ho1;have R:=y6 @hlc (y6 @hib (y6 @hat (y6 @hst (y6 @hws (y6 @Int.toNat_natCast (y6 @bu aD))))))
    repeat' ((first |(with_reducible refine .guard (fun hb =>?_) (fun hb =>?_) <;>try simp only[hb])|refine U.aG (by decide +kernel) rfl fun K hK =>?_|refine .lead _ (h126') ?_|(refine .aE [0,1,4,5,6,7,8,9,10,11,12,20,28,29,59,75] hK ?_;clear hK K)|(with_reducible refine .done (hK _ ?_);clear hK K)|refine U.of rfl ?_|(with_reducible refine aw.aF (fun h =>?_) (fun h =>?_) <;>try simp only[h])) <;>try simp only[aH,R,simprocAttr])
    all_goals clear R
    refine ⟨⟨n0,l++[m],v⟩,⟨by simp;omega,by simp only;omega,?_⟩,by simp;omega,?_⟩
    ·rw[hu0,htk,e7,Ft hw1 ho1];simp only[Z1,zx1,zy9,Option.map_map]
     congr 1
     funext p
     simp
    ·have el:((l++[m]).length:Int)=((l.length+1:Nat):Int):=by simp
     simp only[el];refine bg.bZ ?_ ?_ ?_ ?_ <;>simp[bK,bO,bG,bE,ao,bN,cI,I.only,ai.only,br]
     all_goals rfl
   ·have hn:eh bn s t=none:=by rw[hT,htk,e7,Fs hno];rfl
    have R:=y6 @hlc (y6 @hib (y6 @hat (y6 @hst (y6 @hws (y6 @jW (y6 @bu aD))))))
    repeat' ((first |(with_reducible refine .guard (fun hb =>?_) (fun hb =>?_) <;>try simp only[hb])|(refine U.lG (gs:=Bm) (gs1:=[_,_]) rfl fun K hK =>?_)|refine U.aG (by decide +kernel) rfl fun K hK =>?_|refine .flat _ (hC) rfl ?_|(refine .aE [0,1,4,5,6,7,8,9,10,11,12,20,28,29,59,75] hK ?_;clear hK K)|(with_reducible refine .done (hK _ ?_);clear hK K)|refine U.of rfl ?_|(with_reducible refine aw.aF (fun h =>?_) (fun h =>?_) <;>try simp only[h])) <;>try simp only[aH,R,simprocAttr])
    all_goals clear R
    exact .call (CL rfl (by omega) hno (oT hn rfl rfl rfl rfl rfl rfl))
  ·have hlc:decide ((l.length:Int)<7)=false:=decide_eq_false (by omega);have h7:l.length=7:=by omega
   have hib:=fun {k:Int} {y:Option I} (h:(0:Int)≤k∧k<(7:Nat))=>si 1 (dQ l) (y:=y) h rfl;have hi0:=fun {y:Option I} =>hib (k:=0) (y:=y) (by decide);have hi1:=fun {y:Option I} =>hib (k:=1) (y:=y) (by decide);have hi2:=fun {y:Option I} =>hib (k:=2) (y:=y) (by decide);have hi3:=fun {y:Option I} =>hib (k:=3) (y:=y) (by decide);have hi4:=fun {y:Option I} =>hib (k:=4) (y:=y) (by decide);have hi5:=fun {y:Option I} =>hib (k:=5) (y:=y) (by decide);have hi6:=fun {y:Option I} =>hib (k:=6) (y:=y) (by decide);have ha0:=fun p=>kj (p:=p) (dQ l) (show 0<7 by decide);have ha1:=fun p=>kj (p:=p) (dQ l) (show 1<7 by decide);have ha2:=fun p=>kj (p:=p) (dQ l) (show 2<7 by decide);have ha3:=fun p=>kj (p:=p) (dQ l) (show 3<7 by decide);have ha4:=fun p=>kj (p:=p) (dQ l) (show 4<7 by decide);have ha5:=fun p=>kj (p:=p) (dQ l) (show 5<7 by decide);have ha6:=fun p=>kj (p:=p) (dQ l) (show 6<7 by decide);rw[h7,Nat.sub_self,jg,zz0,zw1] at htk;clear hT;have hT:=Ys (s:=s) hl (hu0▸htk);have hmk:=Me (n0:=n0) (u:=u) h7;have f80:=pB (jy (n0::l) u);generalize jy (n0::l) u=r at *;have hstr:=fun A n b rest=>eN.2 A n b rest r _ hmk;cases ho2:bn r
   ·have hn:eh bn s t=none:=by rw[hT,if_neg (by simp[ho2])]
    rw[ho2] at f80;have R:=y6 @hlc (y6 @hi0 (y6 @hi1 (y6 @hi2 (y6 @hi3 (y6 @hi4 (y6 @hi5 (y6 @hi6 (y6 @ha0 (y6 @ha1 (y6 @ha2 (y6 @ha3 (y6 @ha4 (y6 @ha5 (y6 @ha6 (y6 @n9 (y6 @hstr (y6 @eN (y6 @jW (y6 @bu aD)))))))))))))))))))
    repeat' ((first |(with_reducible refine .guard (fun hb =>?_) (fun hb =>?_) <;>try simp only[hb])|(refine U.lG (gs:=Bn) (gs1:=[_,_]) rfl fun K hK =>?_)|refine U.aG (by decide +kernel) rfl fun K hK =>?_|refine .flat _ (f80) rfl ?_|(refine .aE [0,1,4,5,6,7,8,9,10,11,12,20,28,29,59,75] hK ?_;clear hK K)|(with_reducible refine .done (hK _ ?_);clear hK K)|refine U.of rfl ?_|(with_reducible refine aw.aF (fun h =>?_) (fun h =>?_) <;>try simp only[h])) <;>try simp only[aH,R,simprocAttr])
    all_goals clear R
    refine nl ?_ (oT hn rfl rfl rfl rfl rfl rfl);rfl
   rw[ho2] at f80;have f81:=pC s hs r ho2;by_cases hq:dV s r=t
   ·by_cases hz:n0=dB s (dm r)
    ·have hn:gZ s t=(r,dB s (dm r),true):=by rw[gZ,hT,if_pos ⟨ho2,hq,hz⟩]
     have d1:(n0 != dB s (dm r))=false:=by simp[hz]
     have d2:(decide (dV s r=t))=true:=decide_eq_true hq;have R:=y6 @hlc (y6 @hi0 (y6 @hi1 (y6 @hi2 (y6 @hi3 (y6 @hi4 (y6 @hi5 (y6 @hi6 (y6 @ha0 (y6 @ha1 (y6 @ha2 (y6 @ha3 (y6 @ha4 (y6 @ha5 (y6 @ha6 (y6 @d1 (y6 @d2 (y6 @iO (y6 @n9 (y6 @hstr (y6 @eN (y6 @qX (y6 @jW (y6 @bu aD)))))))))))))))))))))))
     repeat' ((first |(with_reducible refine .guard (fun hb =>?_) (fun hb =>?_) <;>try simp only[hb])|refine U.aG (by decide +kernel) rfl fun K hK =>?_|refine .flat _ (f80) rfl ?_|refine .lead _ (f81) ?_|(refine U.my (gs:=vt) [] [(4,[1900004]),(5,[1900005]),(6,[1900006])] [0,1,2,3,4] (by decide +kernel) (dL.of (by simp[jT,bN,I.only])) fun K hK =>?_;simp only[kK,vt,List.getD_cons_zero,List.getD_cons_succ,R,simprocAttr])|(refine .aE [0,1,4,5,6,7,8,9,10,11,12,20,28,29,59,75] hK ?_;clear hK K)|(with_reducible refine .done (hK _ ?_);clear hK K)|refine U.of rfl ?_|(with_reducible refine aw.aF (fun h =>?_) (fun h =>?_) <;>try simp only[h])) <;>try simp only[aH,R,simprocAttr])
     all_goals clear R
     exact ⟨⟨⟨_,rfl,(eJ _).trans (eJ _).symm⟩,⟨_,rfl,rfl⟩,⟨_,rfl,rfl⟩,trivial⟩,Ev (r:=r) (n:=dB s (dm r)) (b:=true) (show _∧_ by rw[hn];exact ⟨rfl,rfl⟩) rfl rfl rfl rfl rfl rfl⟩
    ·have hn:eh bn s t=none:=by rw[hT,if_neg (fun k=>hz k.2.2)]
     have d1:(n0 != dB s (dm r))=true:=by simp[hz]
     have d2:(decide (dV s r=t))=true:=decide_eq_true hq;have R:=y6 @hlc (y6 @hi0 (y6 @hi1 (y6 @hi2 (y6 @hi3 (y6 @hi4 (y6 @hi5 (y6 @hi6 (y6 @ha0 (y6 @ha1 (y6 @ha2 (y6 @ha3 (y6 @ha4 (y6 @ha5 (y6 @ha6 (y6 @d1 (y6 @d2 (y6 @iO (y6 @n9 (y6 @hstr (y6 @eN (y6 @qX (y6 @jW (y6 @bu aD)))))))))))))))))))))))
     repeat' ((first |(with_reducible refine .guard (fun hb =>?_) (fun hb =>?_) <;>try simp only[hb])|(refine U.lG (gs:=vr) (gs1:=[_,_]) rfl fun K hK =>?_)|refine U.aG (by decide +kernel) rfl fun K hK =>?_|refine .flat _ (f80) rfl ?_|refine .lead _ (f81) ?_|(refine .aE [0,1,4,5,6,7,8,9,10,11,12,20,28,29,59,75] hK ?_;clear hK K)|(with_reducible refine .done (hK _ ?_);clear hK K)|refine U.of rfl ?_|(with_reducible refine aw.aF (fun h =>?_) (fun h =>?_) <;>try simp only[h])) <;>try simp only[aH,R,simprocAttr])
     all_goals clear R
     refine nl ?_ (oT hn rfl rfl rfl rfl rfl rfl);rfl
   ·have hn:eh bn s t=none:=by rw[hT,if_neg (fun k=>hq k.2.1)]
    have d2:(decide (dV s r=t))=false:=decide_eq_false hq;have R:=y6 @hlc (y6 @hi0 (y6 @hi1 (y6 @hi2 (y6 @hi3 (y6 @hi4 (y6 @hi5 (y6 @hi6 (y6 @ha0 (y6 @ha1 (y6 @ha2 (y6 @ha3 (y6 @ha4 (y6 @ha5 (y6 @ha6 (y6 @d2 (y6 @iO (y6 @n9 (y6 @hstr (y6 @eN (y6 @qX (y6 @jW (y6 @bu aD))))))))))))))))))))))
    repeat' ((first |(with_reducible refine .guard (fun hb =>?_) (fun hb =>?_) <;>try simp only[hb])|(refine U.lG (gs:=vr) (gs1:=[_,_]) rfl fun K hK =>?_)|refine U.aG (by decide +kernel) rfl fun K hK =>?_|refine .flat _ (f80) rfl ?_|refine .lead _ (f81) ?_|(refine .aE [0,1,4,5,6,7,8,9,10,11,12,20,28,29,59,75] hK ?_;clear hK K)|(with_reducible refine .done (hK _ ?_);clear hK K)|refine U.of rfl ?_|(with_reducible refine aw.aF (fun h =>?_) (fun h =>?_) <;>try simp only[h])) <;>try simp only[aH,R,simprocAttr])
    all_goals clear R
    refine nl ?_ (oT hn rfl rfl rfl rfl rfl rfl);rfl
 ·have hd:decide (t.getLast?=some 10)=false:=decide_eq_false hl;have hn:eh bn s t=none:=by rw[eh,if_neg hl]
  rw[hd] at hC;have R:=y6 @hd (y6 @pU (y6 @jW (y6 @bu aD)))
  repeat' ((first |(with_reducible refine .guard (fun hb =>?_) (fun hb =>?_) <;>try simp only[hb])|(refine U.lG (gs:=Bo) (gs1:=[_,_]) rfl fun K hK =>?_)|refine U.aG (by decide +kernel) rfl fun K hK =>?_|refine .flat _ (hC) rfl ?_|(refine .aE [0,1,4,5,6,7,8,9,10,11,12,20,28,29,59,75] hK ?_;clear hK K)|(with_reducible refine .done (hK _ ?_);clear hK K)|refine U.of rfl ?_|(with_reducible refine aw.aF (fun h =>?_) (fun h =>?_) <;>try simp only[h])) <;>try simp only[aH,R,simprocAttr])
  all_goals clear R
  refine nl ?_ (oT hn rfl rfl rfl rfl rfl rfl);rfl
theorem Gn{s:Int}(hs:0≤s∧s<1000003){t:List UInt8}(ht:t.length≤281474976710656):eW Tryz.prog 70 [enc s,enc (av.of t)] [] (fun r os'=>r=kV (gZ s t)∧os'=[]):=by
 refine eW.XJ Tryz.func70 It LP KW (t8 rfl) (t8 rfl) (fun m hm=>by simp[ao,aA] at hm) (zs:=nT) VL IX (by decide) fun hwf W0 bI E1 =>?_;simp only[bF,Z5];clear hwf;refine .iq (by decide +kernel) fun K hK =>?_
 try simp only[Bl,ba,simprocAttr]
 refine .done (hK _ ?_);simp only[cQ];refine ⟨_,_,nB,gY default 0 false,[0,1,4,5,6],[enc s,enc (av.of t),.ptr 1900004 [],.ptr 1900005 [],.ptr 1900006 []],nd,qH s t,rfl,?_⟩;exact {
  bf:=rfl
  BA:=VI
  arg:=⟨.inl ⟨rfl,rfl,rfl⟩,.inl ⟨(gQ _ _).symm,br _ _,eQ _⟩,.inl ⟨rfl,rfl,rfl⟩,.inl ⟨rfl,rfl,rfl⟩,.inl ⟨rfl,rfl,rfl⟩,trivial⟩
  yD:=G7 s t
  E5:=rfl
  len:=rfl
  box:=fun q hq=>by
   simp only[nd,nT,List.zip_cons_cons,List.zip_nil_right,zy8,List.not_mem_nil,or_false] at hq;rcases hq with rfl | rfl | rfl <;>exact ⟨_,rfl,rfl⟩
  me:=fun m hm=>by
   have:=lC.1 hm;exact ⟨Nat.le_trans (t8 rfl:_≤1000000) (by omega),by omega⟩
  rest:=fun W D E d=>YM hs ht W D E _ d
  ln:=G6 s t }
theorem x8{s:Int}(hs:0≤s∧s<1000003){t:List UInt8}(ht:t.length≤281474976710656):aS Tryz.prog 70 [enc s,enc (av.of t)] (kV (gZ s t)):=aS.Cq (Gn hs ht)
def kM(s:Int)(t:List UInt8):ah×Int×Int:=if ew 0 1000002 s=false then (default,0,1) else match eh bn s t with
 |some (r,n)=>(r,n,0)
 |none=>(default,0,87)
theorem Gc(s:Int)(t:List UInt8)(ht:t.length≤281474976710656):aS Tryz.prog 31 [enc s,enc (av.of t)] (.tuple [enc (kM s t).1,enc (kM s t).2.1,enc (kM s t).2.2]):=by
 refine aS.bT Tryz.func31 Ij Jv KN (t8 rfl) (fun hwf W0 bI E1 =>?_);simp only[zq,Dy,bF,Z5];clear hwf;have f1:=yb s;cases q1:ew 0 1000002 s
 ·rw[q1] at f1;have e:kM s t=(default,0,1):=by rw[kM,if_pos q1]
  rw[e];have R:=y6 @eZ (y6 @eN aD)
  repeat' ((first |refine U.aG (by decide +kernel) rfl fun K hK =>?_|refine .flat _ (f1) rfl ?_|(refine .aE [0,1,4,5,6,7,8,9,12,22] hK ?_;clear hK K)|(with_reducible refine .done (hK _ ?_);clear hK K)|refine U.of rfl ?_|(with_reducible refine aw.aF (fun h =>?_) (fun h =>?_) <;>try simp only[h])) <;>try simp only[aH,R,simprocAttr])
  all_goals clear R
  all_goals rfl
 rw[q1] at f1;have f2:=x8 (s:=s) (by have:=oF.1 q1;omega) ht;rw[kV] at f2;cases h:eh bn s t with
 |none =>
  have e:kM s t=(default,0,87):=by rw[kM,if_neg (by simp[q1]),h]
  have e2:gZ s t=(default,0,false):=by rw[gZ,h]
  rw[e];rw[e2] at f2;have R:=y6 @eZ (y6 @eN aD)
  repeat' ((first |refine U.aG (by decide +kernel) rfl fun K hK =>?_|refine .flat _ (f1) rfl ?_|refine .lead _ (f2) ?_|(refine .aE [0,1,4,5,6,7,8,9,12,22] hK ?_;clear hK K)|(with_reducible refine .done (hK _ ?_);clear hK K)|refine U.of rfl ?_|(with_reducible refine aw.aF (fun h =>?_) (fun h =>?_) <;>try simp only[h])) <;>try simp only[aH,R,simprocAttr])
  all_goals clear R
  all_goals rfl
 |some p =>
  obtain ⟨r,n⟩:=p;have e:kM s t=(r,n,0):=by rw[kM,if_neg (by simp[q1]),h]
  have e2:gZ s t=(r,n,true):=by rw[gZ,h]
  rw[e];rw[e2] at f2;have R:=y6 @eZ (y6 @eN aD)
  repeat' ((first |refine U.aG (by decide +kernel) rfl fun K hK =>?_|refine .flat _ (f1) rfl ?_|refine .lead _ (f2) ?_|(refine .aE [0,1,4,5,6,7,8,9,12,22] hK ?_;clear hK K)|(with_reducible refine .done (hK _ ?_);clear hK K)|refine U.of rfl ?_|(with_reducible refine aw.aF (fun h =>?_) (fun h =>?_) <;>try simp only[h])) <;>try simp only[aH,R,simprocAttr])
  all_goals clear R
  all_goals rfl
theorem fW{α:Type}{l:List α}{i:Nat}(h:i<l.length):l.take (i+1)=l.take i++[l[i]]:=List.take_succ_eq_append_getElem h
theorem tL(a:List ah):0≤eE 1 a∧eE 1 a<1000003:=Fp a (by omega)
theorem sB{s:Int}(hs:0≤s∧s<1000003){r:ah}(h:bn r=true):(dV s r).length≤240:=by
 have h1:=uC (k:=160) (sY h) (sX h);have h2:=pg hs (dm r);have h3:=qh (k:=7) (n:=dB s (dm r)) (by omega);simp only[dV,dH,List.flatMap_cons,List.flatMap_nil,Z1,zx1,zy9];omega
theorem tM:∀ (l:List ah) {s:Int},0≤s∧s<1000003→(∀ r∈l,bn r=true)→(fu s l).length≤240*l.length
 | [],_,_,_=>by simp[fu]
 |r::l,s,hs,h=>by
  have h1:=sB hs (h r (by simp));have h2:=tM l (pg hs (dm r)) fun q hq=>h q (by simp[hq]);simp only[fu,Z1,zx1];omega
theorem FY(l:List ah)(hl:l.length≤4000000000000)(h:∀ r∈l,bn r=true):aS Tryz.prog 137 [enc l] (enc (eE 1 l)):=by
 refine aS.bT Tryz.func137 HU Ja Kr (t8 rfl) (fun hwf W0 bI E1 =>?_);simp only[y7,Da,bF];clear hwf;have R:=aD
 repeat' ((first |refine U.aG (by decide +kernel) rfl fun K hK =>?_|(refine .aE [0,2,3,5,6,7,8,9] hK ?_;clear hK K)|(with_reducible refine .done (hK _ ?_);clear hK K)|refine U.of rfl ?_|(with_reducible refine aw.aF (fun h =>?_) (fun h =>?_) <;>try simp only[h])) <;>try simp only[aH,R,simprocAttr])
 all_goals clear R
 refine U.loop (fun i:Nat=>aq [(0,enc l),(3,.int .i64 (eE 1 (l.take i))),(6,enc l),(7,.int .i64 l.length),(8,.int .i64 i)] []) (fun i=>i≤l.length) (fun i=>l.length-i) 0 (zx8 _) ?_ ?_
 ·refine bg.bZ ?_ ?_ ?_ ?_ <;>simp[bK,bO,bG,bE,bN,I.only,br]
  all_goals rfl
 intro i hi;by_cases hlt:i<l.length
 ·have hlc:=e9 hlt;have he:=fun A=>eS (A:=A) 8 hlt rfl;have hw:=eO (i:=i) (by omega);have hsn:=(xD (l.take i) l[i] 1).2;rw[←fW hlt] at hsn;have hok:=h l[i] (zw0 hlt);have hst:=tL (l.take i);generalize l[i]=r at *;generalize eE 1 (l.take i)=z at *;have f:=pC z hst r hok;have R:=y6 @hlc (y6 @he (y6 @hw (y6 @eZ (y6 @eN aD))))
  repeat' ((first |refine U.aG (by decide +kernel) rfl fun K hK =>?_|refine .lead _ (f) ?_|(refine .aE [0,2,3,5,6,7,8,9] hK ?_;clear hK K)|(with_reducible refine .done (hK _ ?_);clear hK K)|refine U.of rfl ?_|(with_reducible refine aw.aF (fun h =>?_) (fun h =>?_) <;>try simp only[h])) <;>try simp only[aH,R,simprocAttr])
  all_goals clear R
  refine ⟨i+1,by omega,by omega,?_⟩;rw[hsn];refine bg.bZ ?_ ?_ ?_ ?_ <;>simp[bK,bO,bG,bE,bN,I.only,br]
  all_goals rfl
 ·have hlc:=fB hlt;have hge:i=l.length:=by omega
  subst hge;rw[List.take_length];have R:=y6 @hlc aD
  repeat' ((first |refine U.aG (by decide +kernel) rfl fun K hK =>?_|(refine .aE [0,2,3,5,6,7,8,9] hK ?_;clear hK K)|(with_reducible refine .done (hK _ ?_);clear hK K)|refine U.of rfl ?_|(with_reducible refine aw.aF (fun h =>?_) (fun h =>?_) <;>try simp only[h])) <;>try simp only[aH,R,simprocAttr])
  all_goals clear R
  all_goals rfl
theorem ZT(l:List ah)(hl:l.length≤4000000000000)(h:∀ r∈l,bn r=true):aS Tryz.prog 90 [enc l] (enc (av.of (fu 1 l))):=by
 refine aS.bT Tryz.func90 IJ JS Lb (t8 rfl) (fun hwf W0 bI E1 =>?_);simp only[zN,DW,bF];clear hwf;have R:=aD
 repeat' ((first |refine U.aG (by decide +kernel) rfl fun K hK =>?_|(refine .aE [0,2,3,4,5,6,7,11] hK ?_;clear hK K)|(with_reducible refine .done (hK _ ?_);clear hK K)|refine U.of rfl ?_|(with_reducible refine aw.aF (fun h =>?_) (fun h =>?_) <;>try simp only[h])) <;>try simp only[aH,R,simprocAttr])
 all_goals clear R
 refine U.loop (fun i:Nat=>aq [(0,enc l),(3,enc (av.of (fu 1 (l.take i)))),(4,.int .i64 (eE 1 (l.take i))),(5,.int .i64 i)] []) (fun i=>i≤l.length) (fun i=>l.length-i) 0 (zx8 _) ?_ ?_
 ·refine bg.bZ ?_ ?_ ?_ ?_ <;>simp[bK,bO,bG,bE,bN,I.only,br]
  all_goals exact ⟨rfl,rfl⟩
 intro i hi;by_cases hlt:i<l.length
 ·have hlc:=e9 hlt;have he:=fun A=>eS (A:=A) 8 hlt rfl;have hw:=eO (i:=i) (by omega);have hsn:=xD (l.take i) l[i] 1;rw[←fW hlt] at hsn;have hok:=h l[i] (zw0 hlt);have hst:=tL (l.take i);have hln:=tM (l.take i) (s:=1) (by omega) fun q hq=>h q (List.mem_of_mem_take hq);have hli:(l.take i).length=i:=by rw[zz1];omega
  generalize l[i]=r at *;have hll:=sB hst hok;generalize eE 1 (l.take i)=z at *;generalize fu 1 (l.take i)=u at *;have f:=Gi z hst r hok;have ha:=fb u (dV z r) (by omega);have R:=y6 @hlc (y6 @he (y6 @hw (y6 @ha aD)))
  repeat' ((first |refine U.aG (by decide +kernel) rfl fun K hK =>?_|refine .lead _ (f) ?_|(refine .aE [0,2,3,4,5,6,7,11] hK ?_;clear hK K)|(with_reducible refine .done (hK _ ?_);clear hK K)|refine U.of rfl ?_|(with_reducible refine aw.aF (fun h =>?_) (fun h =>?_) <;>try simp only[h])) <;>try simp only[aH,R,simprocAttr])
  all_goals clear R
  refine ⟨i+1,by omega,by omega,?_⟩;rw[hsn.1,hsn.2];clear hsn;refine bg.bZ ?_ ?_ ?_ ?_ <;>simp[bK,bO,bG,bE,bN,I.only,br]
  all_goals rfl
 ·have hlc:=fB hlt;have hge:i=l.length:=by omega
  subst hge;rw[List.take_length];have R:=y6 @hlc aD
  repeat' ((first |refine U.aG (by decide +kernel) rfl fun K hK =>?_|(refine .aE [0,2,3,4,5,6,7,11] hK ?_;clear hK K)|(with_reducible refine .done (hK _ ?_);clear hK K)|refine U.of rfl ?_|(with_reducible refine aw.aF (fun h =>?_) (fun h =>?_) <;>try simp only[h])) <;>try simp only[aH,R,simprocAttr])
  all_goals clear R
  all_goals rfl
def dn(l:List ah):en 6 Int:=⟨(List.range 6).map fun m=>(cG l (m:Nat):Int),by simp⟩
theorem rN(l:List ah){k:Nat}(h:k<6):(dn l).g k=cG l k:=by
 have:∀ j:Fin 6,(dn l).g j=cG l (j:Nat):=fun j=>by
  match j with
  |0=>rfl
  |1=>rfl
  |2=>rfl
  |3=>rfl
  |4=>rfl
  |5=>rfl
 exact this ⟨k,h⟩
theorem AA:I.agg [.int .i64 0,.int .i64 0,.int .i64 0,.int .i64 0,.int .i64 0,.int .i64 0]=enc (dn []):=rfl
theorem Kc(l:List ah)(r:ah){k:Nat}(h:k<6)(hm:r.aJ=(k:Int)):(⟨(dn l).l.set k ((dn l).g k+1),by simp[(dn l).h]⟩:en 6 Int)=dn (l++[r]):=by
 rw[rN l h];simp only[dn,en.mk.injEq];refine List.ext_getElem (by simp) fun i h1 h2 =>?_;simp only[List.getElem_set,List.getElem_map,List.getElem_range,l9,hm];by_cases e:k=i
 ·subst e;simp
 ·rw[if_neg e,if_neg (by omega)];simp
theorem Y8(l:List ah)(r:ah){k:Nat}(h:k<6)(hm:r.aJ=(k:Int)):(enc (dn l):I).du [k] (.int .i64 ((dn l).g k+1))=enc (dn (l++[r])):=by
 have h1:(enc (dn l):I).dc=some ((dn l).l.map enc):=rfl;rw[xd,h1];simp only[pd,Bt (dn l) h,qU,fM];rw[←Kc l r h hm]
 change I.agg _=I.agg (((dn l).l.set k ((dn l).g k+1)).map enc)
 rw[List.map_set];rfl
theorem Fi(l:List ah)(r:ah){k:Nat}(h:k<6)(hm:r.aJ=(k:Int))(A:ab)(n:Nat)(u:Int)(rest:List ay):dW A none n [k] (enc (dn l)) (.int .i64 ((dn l).g k+1)) rest (some (.int .i64 u))=ar rest (A.aQ n (.box (enc (dn (l++[r]))))):=by
 rw[eV (s:=none) (v:=.int .i64 ((dn l).g k+1)) (old:=.int .i64 u) rfl rfl rfl,Y8 l r h hm]
theorem nL:(∀ A n b rest (q r:en 6 Int),dW A (some 6) n [] b (enc q) rest (some (enc r))=ar rest (A.aQ n (.box (enc q))))∧(∀ q:en 6 Int,b6 (some 6) (enc q)=true) :=
 ⟨fun A n b rest q r=>by rw[eV (eQ _) (by rw[hZ];rfl) ((eJ _).trans (eJ _).symm),fM],fun q=>by rw[hZ];rfl⟩
theorem uT(l:List ah)(m:Int):cG l m≤l.length:=List.countP_le_length
def mf(l:List ah):Prop:=∀ r∈l,0≤r.aJ∧r.aJ≤5
theorem xM(l:List ah)(hl:l.length≤4000000000000)(h:mf l):aS Tryz.prog 100 [enc l] (enc (dn l)):=by
 refine aS.bT Tryz.func100 HD IZ Kf (t8 rfl) (fun hwf W0 bI E1 =>?_);simp only[yQ,CY,bF];clear hwf;have R:=y6 @AA aD
 repeat' ((first |refine U.aG (by decide +kernel) rfl fun K hK =>?_|(refine .aE [0,2,3,5,6,7,8,9] hK ?_;clear hK K)|(with_reducible refine .done (hK _ ?_);clear hK K)|refine U.of rfl ?_|(with_reducible refine aw.aF (fun h =>?_) (fun h =>?_) <;>try simp only[h])) <;>try simp only[aH,R,simprocAttr])
 all_goals clear R
 refine U.loop (fun i:Nat=>aq [(0,enc l),(2,.ptr 2 []),(3,.ptr 3 []),(6,enc l),(7,.int .i64 l.length),(8,.int .i64 i)] [(2,.box (enc (dn []))),(3,.box (enc (dn (l.take i))))]) (fun i=>i≤l.length) (fun i=>l.length-i) 0 (zx8 _) ?_ ?_
 ·refine bg.bZ ?_ ?_ ?_ ?_ <;>simp[bK,bO,bG,bE,ao,bN,cI,I.only,ai.only,br]
  all_goals rfl
 intro i hi;by_cases hlt:i<l.length
 ·have hlc:=e9 hlt;have he:=fun A=>eS (A:=A) 8 hlt rfl;have hw:=eO (i:=i) (by omega);have hsn:=fW hlt;have hin:=h l[i] (zw0 hlt);have hle:=uT (l.take i);have hli:(l.take i).length=i:=by rw[zz1];omega
  generalize l[i]=r at *;obtain ⟨k,hk⟩:=zz7 hin.1;have hk6:k<6:=by omega
  have hib:=fun {y:Option I} =>si 1 (dn (l.take i)) (y:=y) (show (0:Int)≤(k:Int)∧(k:Int)<(6:Nat) by omega) rfl;have hat:=fun p=>kj (p:=p) (dn (l.take i)) hk6;have hst:=Fi (l.take i) r hk6 hk;have hw1:IntKind.i64.wrap ((dn (l.take i)).g k+1)=(dn (l.take i)).g k+1:=by
   have:=hle k;rw[rN _ hk6];exact dX _ (by omega) (by omega)
  rw[←hsn] at hst;have R:=y6 @hlc (y6 @he (y6 @hw (y6 @hk (y6 @hib (y6 @hat (y6 @hst (y6 @hw1 (y6 @Int.toNat_natCast (y6 @eZ (y6 @eN aD))))))))))
  repeat' ((first |refine U.aG (by decide +kernel) rfl fun K hK =>?_|(refine .aE [0,2,3,5,6,7,8,9] hK ?_;clear hK K)|(with_reducible refine .done (hK _ ?_);clear hK K)|refine U.of rfl ?_|(with_reducible refine aw.aF (fun h =>?_) (fun h =>?_) <;>try simp only[h])) <;>try simp only[aH,R,simprocAttr])
  all_goals clear R
  refine ⟨i+1,by omega,by omega,?_⟩;clear hsn;refine bg.bZ ?_ ?_ ?_ ?_ <;>simp[bK,bO,bG,bE,ao,bN,cI,I.only,ai.only,br]
  all_goals rfl
 ·have hlc:=fB hlt;have hge:i=l.length:=by omega
  subst hge;rw[List.take_length];have R:=y6 @hlc (y6 @nL aD)
  repeat' ((first |refine U.aG (by decide +kernel) rfl fun K hK =>?_|(refine .aE [0,2,3,5,6,7,8,9] hK ?_;clear hK K)|(with_reducible refine .done (hK _ ?_);clear hK K)|refine U.of rfl ?_|(with_reducible refine aw.aF (fun h =>?_) (fun h =>?_) <;>try simp only[h])) <;>try simp only[aH,R,simprocAttr])
  all_goals clear R
  all_goals rfl
theorem FN(l:List ah)(hl:l.length≤4000000000000)(h:mf l):aS Tryz.prog 102 [enc l] (enc (dn l)):=by
 refine aS.bT Tryz.func102 HE I0 Kg (t8 rfl) (fun hwf W0 bI E1 =>?_);simp only[yR,CZ,bF];clear hwf;have R:=y6 @AA aD
 repeat' ((first |refine U.aG (by decide +kernel) rfl fun K hK =>?_|(refine .aE [0,2,3,4,8] hK ?_;clear hK K)|(with_reducible refine .done (hK _ ?_);clear hK K)|refine U.of rfl ?_|(with_reducible refine aw.aF (fun h =>?_) (fun h =>?_) <;>try simp only[h])) <;>try simp only[aH,R,simprocAttr])
 all_goals clear R
 refine U.loop (fun i:Nat=>aq [(0,enc l),(2,.ptr 2 []),(3,.ptr 3 []),(4,.int .i64 i)] [(2,.box (enc (dn []))),(3,.box (enc (dn (l.take i))))]) (fun i=>i≤l.length) (fun i=>l.length-i) 0 (zx8 _) ?_ ?_
 ·refine bg.bZ ?_ ?_ ?_ ?_ <;>simp[bK,bO,bG,bE,ao,bN,cI,I.only,ai.only,br]
  all_goals rfl
 intro i hi;by_cases hlt:i<l.length
 ·have hlc:=e9 hlt;have he:=fun A=>eS (A:=A) 8 hlt rfl;have hw:=eO (i:=i) (by omega);have hsn:=fW hlt;have hin:=h l[i] (zw0 hlt);have hle:=uT (l.take i);have hli:(l.take i).length=i:=by rw[zz1];omega
  generalize l[i]=r at *;obtain ⟨k,hk⟩:=zz7 hin.1;have hk6:k<6:=by omega
  have hib:=fun {y:Option I} =>si 1 (dn (l.take i)) (y:=y) (show (0:Int)≤(k:Int)∧(k:Int)<(6:Nat) by omega) rfl;have hat:=fun p=>kj (p:=p) (dn (l.take i)) hk6;have hst:=Fi (l.take i) r hk6 hk;have hw1:IntKind.i64.wrap ((dn (l.take i)).g k+1)=(dn (l.take i)).g k+1:=by
   have:=hle k;rw[rN _ hk6];exact dX _ (by omega) (by omega)
  rw[←hsn] at hst;have R:=y6 @hlc (y6 @he (y6 @hw (y6 @hk (y6 @hib (y6 @hat (y6 @hst (y6 @hw1 (y6 @Int.toNat_natCast aD))))))))
  repeat' ((first |refine U.aG (by decide +kernel) rfl fun K hK =>?_|(refine .aE [0,2,3,4,8] hK ?_;clear hK K)|(with_reducible refine .done (hK _ ?_);clear hK K)|refine U.of rfl ?_|(with_reducible refine aw.aF (fun h =>?_) (fun h =>?_) <;>try simp only[h])) <;>try simp only[aH,R,simprocAttr])
  all_goals clear R
  refine ⟨i+1,by omega,by omega,?_⟩;clear hsn;refine bg.bZ ?_ ?_ ?_ ?_ <;>simp[bK,bO,bG,bE,ao,bN,cI,I.only,ai.only,br]
  all_goals rfl
 ·have hlc:=fB hlt;have hge:i=l.length:=by omega
  subst hge;rw[List.take_length];have R:=y6 @hlc (y6 @nL aD)
  repeat' ((first |refine U.aG (by decide +kernel) rfl fun K hK =>?_|(refine .aE [0,2,3,4,8] hK ?_;clear hK K)|(with_reducible refine .done (hK _ ?_);clear hK K)|refine U.of rfl ?_|(with_reducible refine aw.aF (fun h =>?_) (fun h =>?_) <;>try simp only[h])) <;>try simp only[aH,R,simprocAttr])
  all_goals clear R
  all_goals rfl
theorem vM(l:List ah){m:Int}(h:0≤m∧m≤5):mW 6 1 none m (some ((dn l).l.map enc))=some (.int .i64 (cG l m)):=by
 obtain ⟨k,rfl⟩:=zz7 h.1;have hk:k<6:=by omega
 rw[V0 (x:=dn l) 1 (k:=(k:Int)) ⟨h.1,by simpa using hk⟩ rfl];have e:enc ((dn l).l[((k:Int)).toNat]'((dn l).lt (by simpa using hk)))=I.int .i64 (cG l k):=by
  have:=rN l hk;rw[←en.vA _ hk] at this;rw[←this];rfl
 rw[e];rfl
theorem x9(l:List ah)(r:ah)(hl:l.length≤4000000000000)(h:mf l)(hr:0≤r.aJ∧r.aJ≤5):aS Tryz.prog 71 [enc l,enc r] (enc (c8 l r)):=by
 refine aS.bT Tryz.func71 Iu JE KX (t8 rfl) (fun hwf W0 bI E1 =>?_);simp only[zC,DI,bF,Z5];clear hwf;have hF:=xM l hl h;have hix:=vM l hr;rw[show c8 l r=(decide ((l.length:Int)<60)&&((cG l r.aJ:Int)==r.no)) by
  simp only[c8];congr 1;rw[decide_eq_decide];omega]
 cases q1:decide ((l.length:Int)<60)
 ·have R:=y6 @q1 (y6 @hix (y6 @nL aD))
  repeat' ((first |(with_reducible refine .guard (fun hb =>?_) (fun hb =>?_) <;>try simp only[hb])|refine U.aG (by decide +kernel) rfl fun K hK =>?_|refine .lead _ (hF) ?_|(refine .aE [0,1,3,4] hK ?_;clear hK K)|(with_reducible refine .done (hK _ ?_);clear hK K)|refine U.of rfl ?_|(with_reducible refine aw.aF (fun h =>?_) (fun h =>?_) <;>try simp only[h])) <;>try simp only[aH,R,simprocAttr])
  all_goals clear R
  all_goals rfl
 ·have R:=y6 @q1 (y6 @hix (y6 @nL aD))
  repeat' ((first |(with_reducible refine .guard (fun hb =>?_) (fun hb =>?_) <;>try simp only[hb])|refine U.aG (by decide +kernel) rfl fun K hK =>?_|refine .lead _ (hF) ?_|(refine .aE [0,1,3,4] hK ?_;clear hK K)|(with_reducible refine .done (hK _ ?_);clear hK K)|refine U.of rfl ?_|(with_reducible refine aw.aF (fun h =>?_) (fun h =>?_) <;>try simp only[h])) <;>try simp only[aH,R,simprocAttr])
  all_goals clear R
  all_goals rfl
def c7:List ah→List ah→Bool
 |_,[]=>true
 |out,r::l=>bn r&&c8 out r&&c7 (out++[r]) l
theorem pw:∀ (l out:List ah),c7 out l=true↔ff bn c8 out l
 | [],_=>by simp[c7,ff]
 |r::l,out=>by simp only[c7,ff,Z0,pw l,and_assoc]
theorem FE{l:List ah}{i:Nat}(h:i<l.length):c7 (l.take i) (l.drop i)=(bn l[i]&&c8 (l.take i) l[i]&&c7 (l.take (i+1)) (l.drop (i+1))):=by
 rw[List.drop_eq_getElem_cons h,c7,←fW h]
theorem nf{r:ah}(h:bn r=true):0≤r.aJ∧r.aJ≤5:=(qB (qD h)).1
theorem Cy{l:List ah}{i:Nat}(hi:i<l.length)(h:∀ r∈l.take i,bn r=true)(h2:bn l[i]=true):∀ r∈l.take (i+1),bn r=true:=fun r hr=>by
 rw[fW hi] at hr;rcases zy0.1 hr with h1 | h1
 ·exact h r h1
 ·rw[zy6.1 h1];exact h2
theorem yh(l:List ah)(hl:l.length≤4000000000000):aS Tryz.prog 98 [enc l] (enc (c7 [] l)):=by
 refine aS.bT Tryz.func98 IM JV Le (t8 rfl) (fun hwf W0 bI E1 =>?_);simp only[zQ,DZ,bF];clear hwf;have R:=aD
 repeat' ((first |(with_reducible refine .guard (fun hb =>?_) (fun hb =>?_) <;>try simp only[hb])|refine U.aG (by decide +kernel) rfl fun K hK =>?_|(refine .aE [0,2,3,4,5,6,7,8,22] hK ?_;clear hK K)|(with_reducible refine .done (hK _ ?_);clear hK K)|refine U.of rfl ?_|(with_reducible refine aw.aF (fun h =>?_) (fun h =>?_) <;>try simp only[h])) <;>try simp only[aH,R,simprocAttr])
 all_goals clear R
 refine U.loop (fun i:Nat=>aq [(0,enc l),(5,enc l),(6,.int .i64 l.length),(7,.int .i64 i)] []) (fun i=>i≤l.length∧(∀ r∈l.take i,bn r=true)∧c7 [] l=c7 (l.take i) (l.drop i)) (fun i=>l.length-i) 0 ⟨zx8 _,by simp,by simp⟩ ?_ ?_
 ·refine bg.bZ ?_ ?_ ?_ ?_ <;>simp[bK,bO,bG,bE,bN,I.only,br]
  all_goals rfl
 rintro i ⟨hi,hk,heq⟩;by_cases hlt:i<l.length
 ·have hlc:=e9 hlt;have he:=fun A=>eS (A:=A) 8 hlt rfl;have hw:=eO (i:=i) (by omega);have hnx:=Cy hlt hk;rw[FE hlt] at heq;rw[heq];have hsl:=fun A=>EZ (l:=l) (k:=i) A (esz:=8) rfl (by omega);have hli:(l.take i).length=i:=by rw[zz1];omega
  generalize l[i]=r at *;have f80:=pB r;cases q1:bn r
  ·rw[q1] at f80;have R:=y6 @hlc (y6 @he (y6 @hw (y6 @eZ (y6 @eN aD))))
   repeat' ((first |(with_reducible refine .guard (fun hb =>?_) (fun hb =>?_) <;>try simp only[hb])|refine U.aG (by decide +kernel) rfl fun K hK =>?_|refine .flat _ (f80) rfl ?_|(refine .aE [0,2,3,4,5,6,7,8,22] hK ?_;clear hK K)|(with_reducible refine .done (hK _ ?_);clear hK K)|refine U.of rfl ?_|(with_reducible refine aw.aF (fun h =>?_) (fun h =>?_) <;>try simp only[h])) <;>try simp only[aH,R,simprocAttr])
   all_goals clear R
   all_goals rfl
  rw[q1] at f80;have f71:=x9 (l.take i) r (by omega) (fun q hq=>nf (hk q hq)) (nf q1);cases q2:c8 (l.take i) r
  ·rw[q2] at f71;have R:=y6 @hlc (y6 @he (y6 @hw (y6 @hsl (y6 @eZ (y6 @eN aD)))))
   repeat' ((first |(with_reducible refine .guard (fun hb =>?_) (fun hb =>?_) <;>try simp only[hb])|refine U.aG (by decide +kernel) rfl fun K hK =>?_|refine .flat _ (f80) rfl ?_|refine .flat _ (f71) rfl ?_|(refine .aE [0,2,3,4,5,6,7,8,22] hK ?_;clear hK K)|(with_reducible refine .done (hK _ ?_);clear hK K)|refine U.of rfl ?_|(with_reducible refine aw.aF (fun h =>?_) (fun h =>?_) <;>try simp only[h])) <;>try simp only[aH,R,zx2,simprocAttr])
   all_goals clear R
   all_goals rfl
  rw[q2] at f71;have R:=y6 @hlc (y6 @he (y6 @hw (y6 @hsl (y6 @eZ (y6 @eN aD)))))
  repeat' ((first |(with_reducible refine .guard (fun hb =>?_) (fun hb =>?_) <;>try simp only[hb])|refine U.aG (by decide +kernel) rfl fun K hK =>?_|refine .flat _ (f80) rfl ?_|refine .flat _ (f71) rfl ?_|(refine .aE [0,2,3,4,5,6,7,8,22] hK ?_;clear hK K)|(with_reducible refine .done (hK _ ?_);clear hK K)|refine U.of rfl ?_|(with_reducible refine aw.aF (fun h =>?_) (fun h =>?_) <;>try simp only[h])) <;>try simp only[aH,R,zx2,simprocAttr])
  all_goals clear R
  refine ⟨i+1,⟨by omega,hnx q1,?_⟩,by omega,?_⟩
  ·rfl
  refine bg.bZ ?_ ?_ ?_ ?_ <;>simp[bK,bO,bG,bE,bN,I.only,br]
  all_goals rfl
 ·have hlc:=fB hlt;rw[heq,List.drop_eq_nil_of_le (by omega),c7];have R:=y6 @hlc aD
  repeat' ((first |(with_reducible refine .guard (fun hb =>?_) (fun hb =>?_) <;>try simp only[hb])|refine U.aG (by decide +kernel) rfl fun K hK =>?_|(refine .aE [0,2,3,4,5,6,7,8,22] hK ?_;clear hK K)|(with_reducible refine .done (hK _ ?_);clear hK K)|refine U.of rfl ?_|(with_reducible refine aw.aF (fun h =>?_) (fun h =>?_) <;>try simp only[h])) <;>try simp only[aH,R,simprocAttr])
  all_goals clear R
  all_goals rfl
end Go.Proofs.YtoffnnjbplgnaaaGreatDoor
namespace Go.Proofs.YtoffnnjbplgnaaaGreatDoor
open Go Go.Abs Go.Shelf Go.RowKit
open Go.Abs.Enc (enc)
def cP(r:ah):List Value:=[.int .i64 r.aJ,.int .i64 r.no,.int .i64 r.kind,.int .i64 r.dY,.int .i64 r.known,.int .i64 r.fo,.int .i64 r.fE,.string ⟨r.text.toArray⟩]
theorem D6{w:World}{D:aK}{E:aN}{r:ah}{cs:List Value}(h:ae w D E (enc r) cs):cs=cP r:=by
 obtain ⟨h1,_⟩:=Ed (fK (v:=.agg cs.toArray) (by simp[aZ,show (enc r:I).isAgg=true from rfl]) h);simp only[Value.agg.injEq] at h1;have:=congrArg Array.toList h1;simpa[cP] using this
theorem BL{n:Int}(h:0≤n∧n<100000000):IntKind.i64.min≤n∧n≤IntKind.i64.max:=by
 have a:IntKind.i64.min=-9223372036854775808:=rfl;have b:IntKind.i64.max=9223372036854775807:=rfl;omega
theorem Yv{w:World}{D:aK}{E:aN}{r:ah}(h:bn r=true):ae w D E (enc r) (cP r):=by
 have hn:=sX h;have ht:=sY h
 show ae w D E (.agg [.agg [.int .i64 r.aJ,.int .i64 r.no],.int .i64 r.kind,.int .i64 r.dY,.int .i64 r.known,.agg [.int .i64 r.fo,.int .i64 r.fE],.aj ⟨r.text.toArray⟩]) _
 have g:∀ n∈eL r,ae w D E (.int .i64 n) [.int .i64 n]:=fun n hn'=>⟨rfl,BL (hn n hn')⟩
 simp only[ae,aC];refine ⟨[.int .i64 r.aJ,.int .i64 r.no],_,rfl,⟨[.int .i64 r.aJ],_,rfl,by simpa only[ae] using g r.aJ (by simp[eL]),[.int .i64 r.no],[],rfl,by simpa only[ae] using g r.no (by simp[eL]),rfl⟩,
  [.int .i64 r.kind],_,rfl,by simpa only[ae] using g r.kind (by simp[eL]),[.int .i64 r.dY],_,rfl,by simpa only[ae] using g r.dY (by simp[eL]),[.int .i64 r.known],_,rfl,by simpa only[ae] using g r.known (by simp[eL]),
  [.int .i64 r.fo,.int .i64 r.fE],_,rfl,⟨[.int .i64 r.fo],_,rfl,by simpa only[ae] using g r.fo (by simp[eL]),[.int .i64 r.fE],[],rfl,by simpa only[ae] using g r.fE (by simp[eL]),rfl⟩,
  [.string ⟨r.text.toArray⟩],[],rfl,⟨rfl,?_⟩,rfl⟩
 show r.text.toArray.size≤maxLen
 simp only[List.size_toArray,maxLen];omega
theorem IT{z:Int}(hz:0≤z∧z<1000003){r:ah}(h:bn r=true)(W:World)(hl:eG Tryz.prog W (fun _=>False)):Calls Tryz.prog 81 #[.int .i64 z,.agg (cP r).toArray] W fun e w'=>e=.returned (.tuple #[.string ⟨(dV z r).toArray⟩,.int .i64 (dB z (dm r))])∧Below W.heap.size W w':=by
 have hc:=pC z hz r h;refine (hc.2 W (fun _ _=>False) [.int .i64 z,.agg (cP r).toArray] hl (fun _ _ h=>h.elim) ?_).mono ?_
 ·simp only[al];refine ⟨_,_,[.int .i64 z],rfl,rfl,?_,_,_,cP r,rfl,by simp[aZ,show (enc r:I).isAgg=true from rfl],Yv h,rfl⟩
  show ae _ _ _ (.int .i64 z) _
  simp only[ae];exact ⟨trivial,BL (by omega)⟩
 ·rintro e w' ⟨v,D',rfl,hv,hb,_⟩;refine ⟨?_,hb⟩;have hv':∃ vs:List Value,v=.tuple vs.toArray∧al w' D' cB [enc (av.of (dV z r)),enc (dB z (dm r))] vs:=hv;obtain ⟨vs,rfl,h2⟩:=hv';simp only[al] at h2;obtain ⟨v1,_,c1,rfl,p1,r1,v2,_,c2,rfl,p2,iL,rfl⟩:=h2;have r1':ae w' D' cB (.aj ⟨(dV z r).toArray⟩) c1:=r1;have r2':ae w' D' cB (.int .i64 (dB z (dm r))) c2:=iL;simp only[ae] at r1' r2';obtain ⟨rfl,_⟩:=r1';obtain ⟨rfl,_⟩:=r2';simp[aZ,show (enc (av.of (dV z r)):I).isAgg=false from rfl,show (enc (dB z (dm r)):I).isAgg=false from rfl] at p1 p2;subst p1 p2;rfl
def pF(w:World)(a:Option Addr)(l:List ah):Prop:=∀ (j:Nat) (h:j<l.length),∃ b off,a=some ⟨b,off,none⟩∧w.rangeAt b (off+j*8) (cP l[j])∧b<w.heap.size
theorem pF.later{w w':World}{a:Option Addr}{l:List ah}(h:pF w a l)(hb:Below w.heap.size w w'):pF w' a l:=by
 intro j hj;obtain ⟨b,off,h1,h2,h3⟩:=h j hj;refine ⟨b,off,h1,fun k v hk =>?_,zx9 h3 hb.size⟩;have:=h2 k v hk;simp only[World.cell?] at this ⊢;rw[hb.block b h3];exact this
theorem YY{w:World}{D:aK}(hD:∀ b o,D b o→b<w.heap.size){l:List ah}{v:Value}(h:aR w D cB (enc l) v):∃ a cap,v=.slice a l.length cap∧pF w a l:=by
 have h':aR w D cB (.slice 8 (l.map enc)) v:=h;obtain ⟨a,cap,h1,h2,h3,h4,h5⟩:=kR h';refine ⟨a,cap,by rw[h1,Z2],fun j hj =>?_⟩;rcases h4 with h4 | ⟨b,off,cs,rfl,h6,h7⟩
 ·rw[List.map_eq_nil_iff] at h4;rw[h4] at hj;exact absurd hj (by simp)
 ·obtain ⟨c2,k1,k2⟩:=u4 (k:=j) (x:=enc l[j]) h6 h7 h5 (by simp[hj]);have e:=D6 k2;subst e;refine ⟨b,off,rfl,fun k v hk=>(k1 k v hk).1,hD b (off+j*8+0) (k1 0 _ rfl).2⟩
theorem Zy(l:List ah)(hl:l.length≤1000000)(h:∀ r∈l,bn r=true)(a:Option Addr)(cap:Nat)(w:World)(hL:eG Tryz.prog w (fun _=>False))(hR:pF w a l) :
  Calls Tryz.prog 135 #[.slice a l.length cap] w fun e w'=>e=.returned (.string ⟨(fu 1 l).toArray⟩)∧Below w.heap.size w w':=by
 go_enter Tryz.func135,Tryz.ntmps135
 go_wp2
 go_loopw [4,10] (fun s i wr=>∃ j:Nat,j≤l.length∧i=.int .i64 j∧s=.int .i64 (eE 1 (l.take j))∧kY w.heap.size w.heap.size (fu 1 (l.take j)) wr∧Below w.heap.size w wr) (fun _ i _=>l.length-(RowKit.intOf i).toNat)
 case atStart =>
  refine ⟨0,by omega,rfl,rfl,.inl ⟨by omega,.slice none 0 0,heap_alloc_new w _,⟨rfl,.inl ⟨rfl,rfl⟩⟩,by simp[Value.ownBlock]⟩,jo w _⟩
 case round =>
  obtain ⟨j,hj,rfl,rfl,hI,hbw⟩:=hrel;have hB1:w.heap.size≤wr.heap.size:=hbw.size;by_cases hlt:j<l.length
  ·obtain ⟨b,off,ha,hr,hb⟩:=hR.later hbw j hlt;subst ha;have hok:=h l[j] (zw0 hlt);have hst:=tL (l.take j);have hsn:=xD (l.take j) l[j] 1;rw[←fW hlt] at hsn;generalize l[j]=r at *;have hcall:=IT hst hok;have k0:wr.cell? ⟨b,off+j*8,none⟩=some (.int .i64 r.aJ):=hr 0 _ rfl;have k1:wr.cell? ⟨b,off+j*8+1,none⟩=some (.int .i64 r.no):=hr 1 _ rfl;have k2:wr.cell? ⟨b,off+j*8+2,none⟩=some (.int .i64 r.kind):=hr 2 _ rfl;have k3:wr.cell? ⟨b,off+j*8+3,none⟩=some (.int .i64 r.dY):=hr 3 _ rfl;have k4:wr.cell? ⟨b,off+j*8+4,none⟩=some (.int .i64 r.known):=hr 4 _ rfl;have k5:wr.cell? ⟨b,off+j*8+5,none⟩=some (.int .i64 r.fo):=hr 5 _ rfl;have k6:wr.cell? ⟨b,off+j*8+6,none⟩=some (.int .i64 r.fE):=hr 6 _ rfl;have k7:wr.cell? ⟨b,off+j*8+7,none⟩=some (.string ⟨r.text.toArray⟩):=hr 7 _ rfl;simp only[cP] at hcall;have hw:=eO (i:=j) (by omega);have hlt':decide ((j:Int)<(l.length:Int))=true:=e9 hlt;have hll:=sB hst hok;have htl:=tM (l.take j) (s:=1) (by omega) fun q hq=>h q (List.mem_of_mem_take hq);have hli:(l.take j).length=j:=by rw[zz1];omega
   have hsz:(⟨(dV (eE 1 (l.take j)) r).toArray⟩:ByteArray).size=(dV (eE 1 (l.take j)) r).length:=by show (dV _ r).toArray.size=_;simp
   go_wp2_with (first | (go_at_call 81;refine (hcall _ (BS hL (hbw.trans ((jo wr _).mono hB1)))).mono ?_;rintro e W1 ⟨rfl,hb1⟩) | (go_at_call 156;refine (FD w.heap.size w.heap.size _ _ _ (sq (sq hI (jo wr _)) hb1) (by rw[hsz];omega) (by have:=hb1.size;simp at this;omega)).mono ?_;rintro e W2 ⟨rfl,hI2,hb2,hk2⟩))
   refine ⟨⟨j+1,by omega,rfl,?_,?_,?_⟩,by simp only[RowKit.intOf];omega⟩
   ·rw[hsn.2]
   ·rw[hsn.1];exact hI2
   ·exact ((hbw.trans ((jo wr _).mono hB1)).trans (hb1.mono (by simp;omega))).trans hb2
  ·have hge:j=l.length:=by omega
   subst hge;have hlt':decide ((l.length:Int)<(l.length:Int))=false:=by simp
   rw[List.take_length] at hI
   go_wp2_with (go_at_call 157;refine (yH w.heap.size w.heap.size _ _ hI hB1).mono ?_;rintro e W2 ⟨rfl,hI2,hb2,hk2⟩)
   go_ret
   exact ⟨rfl,hbw.trans hb2⟩
theorem xR(l:List ah)(hl:l.length≤1000000)(h:∀ r∈l,bn r=true):aS Tryz.prog 135 [enc l] (enc (av.of (fu 1 l))):=by
 refine ⟨HS,fun w D vs hL hD hv =>?_⟩;simp only[al] at hv;obtain ⟨v,rest,cs,rfl,h1,h2,rfl⟩:=hv;obtain ⟨a,cap,rfl,hR⟩:=YY hD (fK h1 h2);refine (Zy l hl h a cap w hL hR).mono ?_;rintro e w' ⟨rfl,hbl⟩;have hlen:=tM l (s:=1) (by omega) h;exact ⟨_,D,rfl,EE (l:=fu 1 l) (by unfold maxLen;omega),hbl,fun b o hd=>zx9 (hD b o hd) hbl.size,fun _ _ h _=>h⟩
end Go.Proofs.YtoffnnjbplgnaaaGreatDoor
namespace Go.Proofs.YtoffnnjbplgnaaaGreatDoor
open Go Go.Abs
open Go.Abs.Enc (enc)
theorem Ao{c:UInt8} : ∀ {l:List UInt8},dC c l=none→∀ b∈l,b≠c
 | [],_=>by simp
 |b::l,h=>by
  rw[dC] at h;by_cases e:b=c
  ·rw[if_pos e] at h;cases h
  ·rw[if_neg e] at h;cases h2:dC c l with
   |some p=>rw[h2] at h;cases h
   |none =>
    intro x hx;rcases zy8.1 hx with rfl | hx
    ·exact e
    ·exact Ao h2 x hx
theorem rR{c:UInt8} : ∀ {l w v:List UInt8},dC c l=some (w,v)→l=w++c::v∧∀ b∈w,b≠c
 | [],_,_,h=>by simp[dC] at h
 |b::l,w,v,h=>by
  rw[dC] at h;by_cases e:b=c
  ·rw[if_pos e] at h;cases h;exact ⟨by rw[e];rfl,by simp⟩
  ·rw[if_neg e] at h;cases h2:dC c l with
   |none=>rw[h2] at h;cases h
   |some p =>
    obtain ⟨w2,v2⟩:=p;rw[h2,zz0] at h;cases h;obtain ⟨h3,h4⟩:=rR h2;refine ⟨by rw[h3];rfl,fun x hx =>?_⟩;rcases zy8.1 hx with rfl | hx
    ·exact e
    ·exact h4 x hx
theorem vV{u:List UInt8}(h:dC 10 u=none):dO u=[]:=B6 (Ao h)
theorem sC{u w v:List UInt8}(h:dC 10 u=some (w,v)):dO u=(w++[10])::dO v:=by
 obtain ⟨rfl,h2⟩:=rR h;exact Wy v h2
def fL:Nat→List UInt8→List UInt8
 |0,t=>t
 |k+1,t=>match dC 10 t with
  |none=>t
  |some p=>fL k p.2
theorem wV:∀ {k:Nat} {t w v:List UInt8},dC 10 (fL k t)=some (w,v)→fL (k+1) t=v
 |0,t,w,v,h=>by rw[fL] at h;rw[fL,h];rfl
 |k+1,t,w,v,h=>by
  rw[fL] at h ⊢;cases h2:dC 10 t with
  |none=>rw[h2] at h;simp only at h;rw[h2] at h;cases h
  |some p=>rw[h2] at h;exact wV h
theorem wU:∀ {k:Nat} {t:List UInt8},k≤(dO t).length→dO (fL k t)=(dO t).drop k
 |0,t,_=>rfl
 |k+1,t,h=>by
  rw[fL];cases h2:dC 10 t with
  |none=>rw[vV h2] at h;simp at h
  |some p =>
   obtain ⟨w,v⟩:=p;rw[sC h2] at h ⊢;simp only[zx1] at h;exact wU (k:=k) (t:=v) (by omega)
theorem Eu:∀ (k:Nat) (t:List UInt8),(fL k t).length≤t.length
 |0,_=>Z4 _
 |k+1,t=>by
  rw[fL];cases h2:dC 10 t with
  |none=>exact Z4 _
  |some p =>
   have:=rS h2;have:=Eu k p.2;simp only;omega
def dA(u:List UInt8)(out:List ah)(s:Int)(z:Nat):List (Nat×ai):=[(1000001,.box (enc (av.of u))),(1000004,.box (.own 1000080 out.length)),(1000080,.bH 50 8 (out.map enc)),(1000005,.box (.int .i64 s)),(1000006,.box (.int .i64 (z:Int)))]
theorem nK(u:List UInt8)(out:List ah)(s:Int)(z:Nat)(u':List UInt8)(out':List ah)(s':Int)(z':Nat):fH (dA u out s z) (dA u' out' s' z'):=by
 refine ⟨fun n=>by simp only[dA,ao,aA];(repeat' split) <;>rfl,fun n x h =>?_,fun n h =>?_⟩
 ·simp only[dA,aA] at h
  repeat' split at h
  all_goals first | (cases h;done) | (simp only[v6] at h;subst h;exact ⟨by simp[dA,ao,aA,ai.only,br,I.only,j4],rfl⟩)
 ·simp only[dA,ao,aA] at h
  repeat' split at h
  all_goals first | omega | (simp at h;done)
section
variable (t:List UInt8) (P:Nat→List ah→Int→Nat→Prop) (bm:List ah→Nat→Prop)
def sk(k:Nat)(os:List (Nat×ai)):Prop:=∃ out s z,os=dA (fL k t) out s z∧P k out s z
def sn(k:Nat)(os:List (Nat×ai)):Prop:=∃ out s z,os=dA (fL k t) out s z∧P (k+1) out s z
def qe(e:Option Nat)(os:List (Nat×ai)):Prop:=e=some 0∧∃ u out s z,os=dA u out s z∧bm out z
def oH(k:Nat):List I:=[enc (av.of ((dO t).getD k []))]
end
def EL(o:Obj)(v:Value)(t:List UInt8)(x:Nat×List ah×Int×Nat):ab:=aq [(0,.raw v),(1,.ptr 1000001 [])] (bU o (dA (fL x.1 t) x.2.1 x.2.2.1 x.2.2.2))
theorem BD{o:Obj}{u:List UInt8}{out:List ah}{s:Int}{z:Nat}{ts:List (Nat×I)} : ∀ n x,aA (bU o (dA u out s z)) n=some x→(aq ts (bU o (dA u out s z))).o n=some x∧x.only (ao (bU o (dA u out s z)))=true∧x.er=true:=fun n x h =>
 ⟨h,(((nK u out s z u out s z).bU o o).ok n x h)⟩
theorem Zo:∀ A n b rest (x y:List UInt8),dW A none n [] b (enc (av.of x)) rest (some (enc (av.of y)))=ar rest (A.aQ n (.box (enc (av.of x)))) :=
 fun A n b rest x y=>by rw[eV (s:=none) (v:=enc (av.of x)) (old:=enc (av.of y)) (eQ _) rfl rfl,fM]
theorem Wz{t:List UInt8}(ht:t.length≤281474976710656){P:Nat→List ah→Int→Nat→Prop}{bm:List ah→Nat→Prop}{out0:List ah}{s0:Int}{z0:Nat}(h0:P 0 out0 s0 z0)
  (Y:Value→List I→List (Nat×ai)→cj→Prop) (v:Value) (o:Obj) (oX:Option Nat→Obj) (hv:v.oneCell'=true)
  (hY:∀ k osb post,k<(dO t).length→sk t P k osb→(∀ r os2,(r=.bool true∧∃ osb2,os2=bU o osb2∧sn t P k osb2)∨(r=.bool false∧∃ e osb2,os2=bU (oX e) osb2∧qe bm e osb2)→post r os2)→Y v (oH t k) (bU o osb) post) :
  jj Tryz.prog 122 Y [.raw v,.ptr 1000001 []] (bU o (dA t out0 s0 z0)) (fun r os'=>r=.tuple []∧((∃ osb,os'=bU o osb∧sk t P (dO t).length osb)∨∃ e osb,os'=bU (oX e) osb∧qe bm e osb)):=by
 refine jj.bT Tryz.func122 zT I3 Kj (t8 rfl) (t8 rfl) (((nK t out0 s0 z0 t out0 s0 z0).bU o o).me) (fun hwf W0 bI E1 =>?_);simp only[yU,C2,bF,Z5];clear hwf;refine U.block (U.loop (EL o v t) (fun x=>x.1≤(dO t).length∧P x.1 x.2.1 x.2.2.1 x.2.2.2) (fun x=>(dO t).length-x.1) (0,out0,s0,z0) ⟨by simp,h0⟩ ?_ ?_)
 ·exact bg.refl _
 rintro ⟨k,out,s,z⟩ ⟨hk,hP⟩;simp only at hk hP;have hrl:=Eu k t;have hrd:=wU hk;have hrn:=fun w v=>wV (k:=k) (t:=t) (w:=w) (v:=v);obtain ⟨u,hu⟩:∃ u,u=fL k t:=⟨_,rfl⟩
 have hfin:dO u=[]→∃ osb,bU o (dA u out s z)=bU o osb∧sk t P (dO t).length osb:=fun e=>by
  rw[hu,hrd,List.drop_eq_nil_iff] at e;have:k=(dO t).length:=by omega
  exact ⟨_,rfl,out,s,z,by rw[←this,←hu],by rw[←this];exact hP⟩
 simp only[EL,←hu];rw[←hu] at hrl hrd hrn;have heldF:=fun ts=>BD (o:=o) (u:=u) (out:=out) (s:=s) (z:=z) (ts:=ts);rcases hq:decide (u=[])
 rotate_left
 ·have hu0:u=[]:=of_decide_eq_true hq;have hf:=hfin (by rw[hu0];exact B6 (by simp));simp only[bU,dA] at hf heldF ⊢;have R:=y6 @iF (y6 @iO (y6 @hq (y6 @bu aD)))
  repeat' ((first |(with_reducible refine .guard (fun hb =>?_) (fun hb =>?_) <;>try simp only[hb])|refine U.aG (by decide +kernel) rfl fun K hK =>?_|(refine .aE [0,1,3,5,18] hK ?_;clear hK K)|(with_reducible refine .done (hK _ ?_);clear hK K)|refine U.of rfl ?_|(with_reducible refine aw.aF (fun h =>?_) (fun h =>?_) <;>try simp only[h])) <;>try simp only[aH,R,simprocAttr])
  all_goals clear R
  rw[YO];exact ⟨_,[],heldF _,trivial,rfl,.inl hf⟩
 have hF:=FO (av.of u) 10;rw[av.dG] at hF;rcases rQ 10 u with ⟨h1,h2⟩ | ⟨i,hi,h2,h1⟩
 ·have hf:=hfin (vV h1);obtain ⟨n,hn1⟩:∃ n:Int,n=-1:=⟨_,rfl⟩
  rw[h2,←hn1] at hF;have hneg:decide (n<0)=true:=by rw[hn1];rfl
  simp only[bU,dA] at hf heldF ⊢;have R:=y6 @iF (y6 @iO (y6 @hq (y6 @hneg (y6 @bu aD))))
  repeat' ((first |(with_reducible refine .guard (fun hb =>?_) (fun hb =>?_) <;>try simp only[hb])|refine U.aG (by decide +kernel) rfl fun K hK =>?_|refine .flat _ (hF) rfl ?_|(refine .aE [0,1,3,5,18] hK ?_;clear hK K)|(with_reducible refine .done (hK _ ?_);clear hK K)|refine U.of rfl ?_|(with_reducible refine aw.aF (fun h =>?_) (fun h =>?_) <;>try simp only[h])) <;>try simp only[aH,R,simprocAttr])
  all_goals clear R
  rw[j8];exact ⟨_,[],heldF _,trivial,rfl,.inl hf⟩
 rw[h2] at hF;have hlt:k<(dO t).length:=by
  have:=congrArg List.length hrd;rw[sC h1,List.length_drop] at this;simp only[zx1] at this;omega
 have jS:oH t k=[enc (av.of (u.take (i+1)))]:=by
  have e:(dO t)[k]=u.take i++[10]:=by
   have h3:=hrd;rw[sC h1,List.drop_eq_getElem_cons hlt] at h3;exact (List.cons.inj h3).1.symm
  have h10:u[i]=10:=by
   obtain ⟨e1,_⟩:=rR h1;have:=congrArg (fun l=>l[i]?) e1;simp only[zz2 hi] at this;rw[zx5 (by rw[zz1];omega),zz1,show i-min i u.length=0 by omega] at this;exact Option.some.inj this
  rw[oH,zz5,zz2 hlt,Option.getD_some,e,fW hi,h10]
 have hlz:decide ((i:Int)<0)=false:=decide_eq_false (by omega);have hw:=eO (i:=i) (by omega);have hsh:=qS (av.of u) (j:=i+1) (by rw[av.dG];omega);have hsl:=xb (av.of u) (i:=i+1) (by rw[av.dG];omega);rw[av.dG] at hsh hsl;have hyy:=hY k (dA u out s z) _ hlt ⟨out,s,z,by rw[←hu],hP⟩ (fun r os2 h=>h);rw[jS] at hyy;simp only[bU,dA] at hyy ⊢;have R:=y6 @iF (y6 @iO (y6 @hq (y6 @hlz (y6 @hw (y6 @hsh (y6 @IU (y6 @bu aD)))))))
 repeat' ((first |(with_reducible refine .guard (fun hb =>?_) (fun hb =>?_) <;>try simp only[hb])|refine U.aG (by decide +kernel) rfl fun K hK =>?_|refine .flat _ (hF) rfl ?_|(refine .aE [0,1,3,5,18] hK ?_;clear hK K)|(with_reducible refine .done (hK _ ?_);clear hK K)|refine U.of rfl ?_|(with_reducible refine aw.aF (fun h =>?_) (fun h =>?_) <;>try simp only[h])) <;>try simp only[aH,R,simprocAttr])
 all_goals clear R
 refine aY.ZN (ow:=[]) (In:=fun os2=>∃ osb2,os2=bU o osb2∧sn t P k osb2) (Ix:=fun os2=>∃ e osb2,os2=bU (oX e) osb2∧qe bm e osb2) hyy ((nK t out0 s0 z0 u out s z).bU o o) (fun os' h =>?_) (fun os' h =>?_) (by simp[I.cu,kr]) (fun m h=>by simp[ao,aA] at h) (fun os2 h =>?_) (fun os2 h =>?_)
 ·obtain ⟨_,rfl,out',s',z',rfl,_⟩:=h;exact (nK ..).bU _ _
 ·obtain ⟨e,_,rfl,_,u',out',s',z',rfl,_⟩:=h;exact (nK ..).bU _ _
 ·obtain ⟨_,rfl,out',s',z',rfl,hP'⟩:=h;rw[←hu]
  try simp only[bU,dA,zz3,ba,simprocAttr]
  refine .done (hK _ ?_);clear hK K;have hn:=hrn _ _ h1;have R:=y6 @hw (y6 @hsl (y6 @hlz (y6 @Zo (y6 @bu aD))))
  repeat' ((first |(with_reducible refine .guard (fun hb =>?_) (fun hb =>?_) <;>try simp only[hb])|refine U.aG (by decide +kernel) rfl fun K hK =>?_|(refine .aE [0,1,3,5,18] hK ?_;clear hK K)|(with_reducible refine .done (hK _ ?_);clear hK K)|refine U.of rfl ?_|(with_reducible refine aw.aF (fun h =>?_) (fun h =>?_) <;>try simp only[h])) <;>try simp only[aH,R,simprocAttr])
  all_goals clear R
  refine ⟨(k+1,out',s',z'),⟨by simp only;omega,hP'⟩,by simp only;omega,?_⟩;simp only[hn];refine bg.slots ?_ (fun n =>?_)
  ·simp[bK,bN]
  ·simp only[cI];(repeat' split) <;>simp_all
 ·obtain ⟨e,_,rfl,he,u',out',s',z',rfl,hF'⟩:=h
  try simp only[bU,dA,zz3,ba,simprocAttr]
  refine .done (hK _ ?_);clear hK K;have R:=y6 @bu aD
  repeat' ((first |(with_reducible refine .guard (fun hb =>?_) (fun hb =>?_) <;>try simp only[hb])|refine U.aG (by decide +kernel) rfl fun K hK =>?_|(refine .aE [0,1,3,5,18] hK ?_;clear hK K)|(with_reducible refine .done (hK _ ?_);clear hK K)|refine U.of rfl ?_|(with_reducible refine aw.aF (fun h =>?_) (fun h =>?_) <;>try simp only[h])) <;>try simp only[aH,R,simprocAttr])
  all_goals clear R
  rw[j8];exact ⟨_,[],BD (o:=oX e) (u:=u') (out:=out') (s:=s') (z:=z'),trivial,rfl,.inr ⟨e,_,rfl,he,u',out',s',z',rfl,hF'⟩⟩
def X4(t:List UInt8):cj:=fun r os'=>r=.func 122 [.ptr 1 []]∧os'=[(1,.box (enc (av.of t)))]
theorem Gf(t:List UInt8):eW Tryz.prog 69 [enc (av.of t)] [] (X4 t):=by
 refine eW.bT Tryz.func69 Is JD KV (t8 rfl) (t8 rfl) (fun m hm=>by simp[ao,aA] at hm) (fun hwf W0 bI E1 =>?_);simp only[zB,DH,bF];clear hwf;have hall:([I.ptr 1 []].all fun y=>y.cC)=true:=rfl;have R:=y6 @hall (y6 @bu aD)
 repeat' ((first |refine U.aG (by decide +kernel) rfl fun K hK =>?_|(refine .aE [0,1,2] hK ?_;clear hK K)|(with_reducible refine .done (hK _ ?_);clear hK K)|refine U.of rfl ?_|(with_reducible refine aw.aF (fun h =>?_) (fun h =>?_) <;>try simp only[h])) <;>try simp only[aH,R,simprocAttr])
 all_goals clear R
 exact ⟨[(1,.box (enc (av.of t)))],[.func 122 [.ptr 1 []]],oC rfl (fun p=>br _ _),⟨⟨_,rfl,.inl ⟨rfl,rfl,rfl⟩⟩,trivial⟩,rfl,rfl⟩
end Go.Proofs.YtoffnnjbplgnaaaGreatDoor
namespace Go.Abs
open Go Go.RowKit
open Enc (enc)
def Gr(P:Program)(nn:Nat)(x y:bj)(ps:List Nat)(tsR:List (Nat×I))(N:Nat)(item:Nat→List I)(aX J:Nat→List (Nat×ai)→Prop)(Ix:Option Nat→List (Nat×ai)→Prop):Prop :=
 ∀ k osb,k<N→aX k osb→∀ (w:World) (D:aK) (E:aN) (l:Nat) (o1 o2:Obj),
  U ⟨P,w,D,nn,bX E,E,fQ,some l,none⟩ x (cQ (fun B=>B.o 1999999=some (.da o1)∧U ⟨P,w,D,nn,bX E,E,fQ,some l,none⟩ y (Ew o2 (J k) Ix) (B.aQ 1999999 (.da o2))) (fun _ _=>False)) (aq (td ps (item k) tsR) (bU o1 osb))
theorem yz{aI:Bool}{A0:ab}{ρ:List (Nat×Nat)}{os:List (Nat×ai)} : ∀ {caps:List I},(∀ x∈caps,x.only (ao os)=true∧x.cC=true)→gl aI A0 ρ os (caps.map fun x=>x.aO (bh ρ)) caps
 | [],_=>trivial
 |x::xs,h=>⟨.inl ⟨rfl,(h x (by simp)).1,(h x (by simp)).2⟩,yz fun y hy=>h y (by simp[hy])⟩
theorem GZ{aI:Bool}{A0:ab}{ρ:List (Nat×Nat)}{os:List (Nat×ai)}{v:Value}{caps0 caps:List I}(hc:caps0=caps.map fun x=>x.aO (bh ρ))(h:∀ x∈caps,x.only (ao os)=true∧x.cC=true):gl aI A0 ρ os (.raw v::caps0) (.raw v::caps):=by
 subst hc;exact ⟨.inl ⟨by simp[I.aO],by simp[I.only],rfl⟩,yz h⟩
section
variable {c:ct} {Q:Exit→ab→Prop}
theorem U.YT{f:az}{ps:List Nat}{x y:bj}{ts tsR:List (Nat×I)}{os0 osb0:List (Nat×ai)}{ρ:List (Nat×Nat)}{g:FuncId}{caps0 caps:List I}{N:Nat}{item:Nat→List I}
  (aX J:Nat→List (Nat×ai)→Prop) (Ix:Option Nat→List (Nat×ai)→Prop) (hr0:c.qO=none∧c.dN=none) (hn6:c.n≤1000000)
  (hf:af (aq ts os0) f=.func g caps0) (hc0:caps0=caps.map fun x=>x.aO (bh ρ)) (hcp:∀ x∈caps,x.only (ao osb0)=true∧x.cC=true) (hcb:dS c.P g=true)
  (jS:∀ (Y:Value→List I→List (Nat×ai)→cj→Prop) (v:Value) (o:Obj) (oX:Option Nat→Obj),v.oneCell'=true →
   (∀ k osb post,k<N→aX k osb→(∀ r os2,(r=.bool true∧∃ osb2,os2=bU o osb2∧J k osb2)∨(r=.bool false∧∃ e osb2,os2=bU (oX e) osb2∧Ix e osb2)→post r os2)→Y v (item k) (bU o osb) post) →
   jj c.P g Y (.raw v::caps) (bU o osb0) (fun r os'=>r=.tuple []∧((∃ osb,os'=bU o osb∧aX N osb)∨∃ e osb,os'=bU (oX e) osb∧Ix e osb))) (hlen:∀ k,(item k).length=ps.length)
  (hfree:aA os0 999999=none) (h19:ao osb0 1999999=false) (hρ:bh ρ 1999999=999999)
  (hgv:∀ o,eP ρ (bU o osb0) ((999999,.da o)::os0)) (hts:mB ρ (ao osb0) ts tsR)
  (hI:∀ k os,aX k os→fH osb0 os) (hIx:∀ e os,Ix e os→fH osb0 os) (h0:aX 0 osb0)
  (hround:Gr c.P c.n x y ps tsR N item aX J Ix)
  (hdone:∀ os,aX N os→Q .normal (aq ts (cO ρ os++os0))) (hexit:∀ e os,Ix e os→Q (vc e) (aq ts (cO ρ os++os0))) :
  U c (.nA f ps x y) Q (aq ts os0):=by
 obtain ⟨hr,hbase⟩:=hr0;intro code hc a w hs;cases code <;>simp only[dR] at hc <;>try (first | (cases hc;done) | ((repeat' split at hc) <;>cases hc;done))
 rename_i cf cps cx cy;split at hc
 case h_2=>cases hc
 rename_i f' x' y' hcf hcx hcy;split at hc
 case isFalse=>cases hc
 rename_i hpn;simp only[v6,bj.nA.injEq] at hc;obtain ⟨rfl,rfl,rfl,rfl⟩:=hc;obtain ⟨D,E,hs⟩:=hs;have hF:c.bm=Fence.wide:=by unfold ct.bm;rw[hr]
 have hE0:c.cB 999999=none:=hs.jt (.inr (by decide));have hval:∃ vs:List Value,a.eval cf=.func (.func g) #[] vs.toArray∧al w D E caps0 vs:=by
  have hv:=bp hs hcf;rw[hf] at hv;obtain ⟨cs,q1,q2⟩:=hv;simp only[ae] at q2;obtain ⟨vs,q3,q4⟩:=q2;exact ⟨vs,by rw[←mc (z6 hcb)];simpa[aZ,I.isAgg,q3] using q1.symm,q4⟩
 obtain ⟨vs,hval,hvs⟩:=hval;rw[hF];refine wpIn_rangeFunc fun fn hfn =>?_;obtain ⟨rec,hrec⟩:∃ rec:LoopState→Option Code→Loop,rec=fun aT pe => { state:=aT,pending:=pe,fn,tmps:=a.tmps,params:=cps,assign:=cx,body:=cy,defers:=w.heap.size } :=⟨_,rfl⟩
 obtain ⟨E1,hs1,hE1,hup⟩:=hs.enter hbase hfree hE0 (o:=.loop (rec .ready none)) rfl;obtain ⟨W1,hW1⟩:∃ W1,(w.alloc (.deferred (some []))).alloc (.loop (rec .ready none))=W1:=⟨_,rfl⟩
 rw[hW1] at hs1 hup;obtain ⟨l,hl⟩:∃ l,l=w.heap.size+1:=⟨_,rfl⟩
 rw[←hl] at hE1;obtain ⟨yv,hyv⟩:∃ yv:Value,yv=.func (.yield l) #[] #[]:=⟨_,rfl⟩
 obtain ⟨a1,ha1⟩:∃ a1:Act,a1 = { a with defers := { target:=.collected w.heap.size,args := #[] } :: a.defers } :=⟨_,rfl⟩
 rw[←ha1] at hs1;refine ⟨l,[{ target:=.collected w.heap.size,args := #[] }],W1,{ target:=.fn (.func g) vs.toArray,args := #[yv] },W1,g,#[yv]++vs.toArray,W1,?_,?_,?_,?_,fun _=>by decide,?_⟩
 ·rw[←hW1,hrec,hl];exact run_enterLoop_outer _ _ _ _ _
 ·simp only[resolve,hval,hyv];simp[go_sem]
 ·intro f' _;trivial
 ·simp only[invoke,mz hcb]
 ·-- the iterator's own bargain
  have hG0:=hI 0 osb0 h0;obtain ⟨I',hI'⟩:∃ I':Nat→List (Nat×ai)→Prop,I'=fun k os=>∃ osb,os=bU (.loop (rec .ready none)) osb∧aX k osb:=⟨_,rfl⟩
  obtain ⟨J',hJ'⟩:∃ J':Nat→List (Nat×ai)→Prop,J'=fun k os=>∃ osb,os=bU (.loop (rec .ready none)) osb∧J k osb:=⟨_,rfl⟩
  obtain ⟨Ix',hIx'⟩:∃ Ix':List (Nat×ai)→Prop,Ix'=fun os=>∃ e osb,os=bU (.loop (rec .done (some (sr e)))) osb∧Ix e osb:=⟨_,rfl⟩
  obtain ⟨os1,hos1⟩:∃ os1,os1=bU (.loop (rec .ready none)) osb0:=⟨_,rfl⟩
  obtain ⟨Y,hY⟩:∃ Y:Value→List I→List (Nat×ai)→cj→Prop,Y=fun v args os post=>v=yv∧∃ k,args=item k∧k<N∧I' k os∧∀ r os2,(r=.bool true∧J' k os2)∨(r=.bool false∧Ix' os2)→post r os2:=⟨_,rfl⟩
  have jR:∀ k os',I' k os'→fH os1 os':=fun k os' h=>by
   rw[hI'] at h;obtain ⟨osb,rfl,h⟩:=h;rw[hos1];exact (hI k osb h).bU _ _
  have goodx:∀ os',Ix' os'→fH os1 os':=fun os' h=>by
   rw[hIx'] at h;obtain ⟨e,osb,rfl,h⟩:=h;rw[hos1];exact (hIx e osb h).bU _ _
  have hctr:jj c.P g Y (.raw yv::caps) os1 (fun r os'=>r=.tuple []∧(I' N os'∨Ix' os')):=by
   rw[hI',hIx',hos1];refine jS Y yv (.loop (rec .ready none)) (fun e=>.loop (rec .done (some (sr e)))) (by rw[hyv];rfl) (fun k osb post hk h1 h2 =>?_);rw[hY];refine ⟨rfl,k,rfl,hk,by rw[hI'];exact ⟨osb,rfl,h1⟩,fun r os2 h3=>h2 r os2 ?_⟩;rw[hJ',hIx'] at h3;exact h3
  have hgv1:eP ρ os1 ((999999,.da (.loop (rec .ready none)))::os0):=by rw[hos1];exact hgv _
  obtain ⟨A0,hA0⟩:∃ A0:ab,A0=aq ts ((999999,.da (.loop (rec .ready none)))::os0):=⟨_,rfl⟩
  have hand:mI (Calls c.P g) (fun w D E=>∀ n,nY ⟨c.P,w,D,n,bX E,E,Y,none,none⟩) (.raw yv::caps) os1 (fun r os'=>r=.tuple []∧(I' N os'∨Ix' os')):=fun w D E vs hy hlive hheld hv=>by
   refine (hctr.2 w D E vs hy hlive hheld hv).mono fun e w' ⟨v,he,D',E',r,os',q⟩=>⟨v,D',E',r,os',he,q⟩
  have hshare:=hs1.nG;obtain ⟨Dh,hDh⟩:∃ Dh,Dh=nC (aq ts ((999999,.da (.loop (rec .ready none)))::os0)) D E1:=⟨_,rfl⟩
  rw[←hDh] at hshare;have hsh:=hshare.1;obtain ⟨Eh,hEh⟩:∃ Eh,Eh=ak ρ os1 E1:=⟨_,rfl⟩
  have isrec:ao os1 1999999=true:=by rw[hos1,jU];simp
  have hEl:Eh 1999999=some (.op l):=by rw[hEh];simp only[ak,isrec,if_true,hρ];exact hE1
  have EhIn:∀ n e,Eh n=some e→ao os1 n=true:=fun n e h=>by
   rw[hEh] at h;simp only[ak] at h;split at h
   ·assumption
   ·cases h
  have hyok:∀ n,nY ⟨c.P,W1,Dh,n,bX Eh,Eh,Y,none,none⟩:=by
   refine fun n=>⟨by rw[hEh];exact hs1.oJ,?_⟩
   intro v' args os' post' hYv w2 D2 E2 vs2 hsince hlive hheld hrvs;rw[hY] at hYv;obtain ⟨rfl,k,rfl,hkN,hIk,hpost⟩:=hYv;have hIk0:=hIk;rw[hI'] at hIk;obtain ⟨osb,rfl,hIk⟩:=hIk;have gk:=jR k _ hIk0;have gkb:=hI k osb hIk;have in2:∀ m,ao os1 m=true→E2 m≠none:=fun m hm=>by
    rw[←gk.same m] at hm;cases hx:aA (bU (.loop (rec .ready none)) osb) m with
    |none=>simp[ao,hx] at hm
    |some x=>have:=hheld.bB m;rw[hx] at this;exact qz this
   have same2:∀ m e,Eh m=some e→e.er=true→E2 m=some e:=fun m e he hfx=>by
    rcases hsince.dp m e he with h | ⟨e',h,hle⟩
    ·exact absurd h (in2 m (EhIn m e he))
    ·rw[hle.eq hfx] at h;exact h
   have hEl2:E2 1999999=some (.op l):=same2 _ _ hEl rfl;have hob:=hheld.bB 1999999;rw[oM,if_pos rfl] at hob;obtain ⟨b,j1,_,j3,_,_⟩:=hob;rw[hEl2] at j1;cases j1;have hsz:vs2.toArray.size=cps.size:=by have:=qQ hrvs;rw[hlen] at this;simpa using this
   have hyr:=run_yield (P:=c.P) (args:=vs2.toArray) j3 (by rw[hrec];exact hsz);rw[hrec] at hyr;refine ⟨l,hyv,fn,_,cx,cy,hyr,roundIn_of_wpIn trivial ?_⟩;clear hyr
   -- the round's own frame
   obtain ⟨cr,hcr⟩:∃ cr:ct,cr=⟨c.P,w2,D2,c.n,bX E2,E2,fQ,some l,none⟩:=⟨_,rfl⟩
   have hFr:cr.bm=Fence.wide.inRound l:=by rw[hcr];rfl
   have hlat:dj W1 Dh Eh w2 D2 E2:=by
    refine ⟨hsince.cz,hsince.fe.cell,fun m b aL he=>same2 m _ he rfl,fun m aB l he =>?_,fun m b he=>same2 m _ he rfl,fun m b he=>same2 m _ he rfl,hsince.fe.fk⟩;rcases hsince.dp m _ he with h | ⟨e',h,hle⟩
    ·exact absurd h (in2 m (EhIn m _ he))
    ·rcases hle with rfl | ⟨_,_,blk',l',e,rfl,k1,k2⟩
     ·exact ⟨aB,l,h,Z4 _,fun _=>rfl⟩
     ·cases e;exact ⟨blk',l',h,k1,k2⟩
   have hslots:mB ρ (ao os1) ts tsR:=by
    have:∀ tsR:List (Nat×I),mB ρ (ao osb0) ts tsR→mB ρ (ao os1) ts tsR:=by
     intro tsR
     induction tsR with
     |nil=>exact fun h=>h
     |cons q r ih =>
      intro h;obtain ⟨h1,h2,h3⟩:=h;exact ⟨h1,jA (fun n hn=>by rw[hos1,jU,hn];simp) _ h2,ih h3⟩
    exact this tsR hts
   have hsr:aM cr (aq tsR (bU (.loop (rec .ready none)) osb)) { tmps:=a.tmps,defers:=[] } w2 D2 E2:=by
    rw[hcr];refine ⟨hs.sz,⟨[],rfl,.nil,fun _ h=>by simp at h⟩,fun t =>?_,eC.refl _ _,fun _ _ h _=>h,hlive,fun m=>(hheld.bB m).jx fun e b he hb=>.inr ⟨m,e,he,hb⟩,hheld.cw,fun _ e h=>.inr ⟨e,h,.refl e⟩,fun m hm =>?_,fun _ _ h=>h,⟨hsince.qk,fun _ _ _ _ h=>h.elim⟩,.refl _ _⟩
    ·rcases E6 hslots t with h | ⟨h1,h2⟩
     ·simp only[aq];rw[h];simp[aR]
     ·have h3:=hsh.dv t;rw[ha1] at h3;simp only[aq] at h3 ⊢;rw[h1] at h3;have h4:=(aR.aO (w:=W1) (D:=Dh) (p:=ao os1) (ρ:=bh ρ) (E:=Eh) (E':=E1) (fun n hn=>by rw[hEh];simp only[ak,hn,if_true]) h2).1 h3;exact aR.later hlat h4
    ·have hmi:ao os1 m=true:=by
      rw[←gk.same m];have:=hheld.bB m;cases hx:aA (bU (.loop (rec .ready none)) osb) m with
      |none=>rw[hx] at this;exact absurd this hm
      |some x=>simp[ao,hx]
     have:=gk.me m hmi;exact ⟨Nat.le_trans hn6 this,this⟩
   have hsp:=aM.CW cps.toList vs2 (item k) tsR _ hsr (fun p hp=>by rw[hcr];have:=zy5.1 hpn p hp;simpa using this) hrvs (by have:=hsz;simpa using this.symm);have htm:(cps.zip vs2.toArray).foldl (fun t (q:Tmp×Value)=>t.setIfInBounds q.1 q.2) a.tmps=(cps.toList.zip vs2).foldl (fun t q=>t.setIfInBounds q.1 q.2) a.tmps:=by
    rw[←Array.foldl_toList];simp
   have hx:=hround k osb hkN hIk w2 D2 E2 l (.loop (rec .ready none)) (.loop { rec .ready none with state:=.busy });rw[←hcr] at hx;have hx1:=hx cx (by rw[hcr];exact hcx) _ w2 ⟨D2,E2,hsp⟩;rw[hFr] at hx1;simp only[←htm] at hx1;rw[hcr] at hx1;refine wpIn_mono hx1 ?_;rintro e ax wx ⟨B,hq,hsx⟩;rw[←hcr] at hq hsx;cases e <;>simp only[cQ] at hq <;>try exact hq.elim
   simp only[Exit.then];obtain ⟨hB1,hB2⟩:=hq;obtain ⟨Dx,Ex,hsx⟩:=hsx;have hElx:Ex 1999999=some (.op l):=by
    have ho:=hsx.bB 1999999;rw[hB1] at ho;rcases hsx.vp (n:=1999999) (by rw[hcr];exact hEl2) rfl with h | h
    ·exact absurd h (qz ho)
    ·exact h
   have hLx:wx.heap[l]?=some (.loop (rec .ready none)):=by
    have ho:=hsx.bB 1999999;rw[hB1] at ho;obtain ⟨b,k1,_,k3,_⟩:=ho;rw[hElx] at k1;cases k1;exact k3
   refine ⟨_,run_beginRound hLx (by rw[hrec]),?_⟩;have hsb:=hsx.xf (o':=.loop { rec .ready none with state:=.busy }) hB1 hElx rfl;have hy1:=hB2 cy (by rw[hcr];exact hcy) _ _ ⟨Dx,Ex,hsb⟩;rw[hFr] at hy1;rw[hcr] at hy1;refine wpIn_mono hy1 ?_;rintro e a3 w3 ⟨A3,hq3,D3,E3,hs3⟩;rw[←hcr] at hs3
   -- the end of the round
   have bd:∀ (os:List (Nat×ai)) (jump:Option Code),py (.loop { rec .ready none with state:=.busy }) A3 os→(post' (.bool jump.isNone) (bU (.loop (rec (if jump.isNone then .ready else .done) jump)) os)) →
     ∃ v w',(Instr.endRound l jump).run c.P w3=.ok v w'∧(fun e w'=>∃ v D' E' r os',e=Ending.returned v∧post' r os'∧aR w' D' E' r v∧jl (fun b=>w2.heap.size≤b∨bX E2 b) w' D' E' (aA os') ∧
      eC (fun b=>w2.heap.size≤b∨bX E2 b) w2 w'∧(∀ b o,D2 b o→D' b o)∧(∀ b o,D' b o→b<w'.heap.size)∧(∀ b o,D' b o→b<w2.heap.size→¬ bX E2 b→D2 b o) ∧
      (∀ n e,E2 n=some e→ao os' n=true→∃ e',E' n=some e'∧e.fC e')∧gj w2 D2 w') (.returned v) w':=fun os jump hbk hp=>by
    have hA3:A3.o 1999999=some (.da (.loop { rec .ready none with state:=.busy })):=(hbk 1999999 _ (by rw[oM,if_pos rfl])).1;have hEl3:E3 1999999=some (.op l):=by
     have ho:=hs3.bB 1999999;rw[hA3] at ho;rcases hs3.vp (n:=1999999) (by rw[hcr];exact hEl2) rfl with h | h
     ·exact absurd h (qz ho)
     ·exact h
    have hL3:w3.heap[l]?=some (.loop { rec .ready none with state:=.busy }):=by
     have ho:=hs3.bB 1999999;rw[hA3] at ho;obtain ⟨b,k1,_,k3,_⟩:=ho;rw[hEl3] at k1;cases k1;exact k3
    have hend:=run_endRound (P:=c.P) jump hL3;have erec:({ rec .ready none with state:=if jump.isNone then LoopState.ready else .done,pending:=jump } : Loop)=rec (if jump.isNone then .ready else .done) jump:=by rw[hrec]
    have hend':(Instr.endRound l jump).run c.P w3=.ok (.bool jump.isNone) (w3.putObj l (.loop (rec (if jump.isNone then .ready else .done) jump))):=by
     rw[hend];rw[hrec]
    have hs4:=hs3.xf (o':=.loop (rec (if jump.isNone then .ready else .done) jump)) hA3 hEl3 rfl;rw[hcr] at hs4;obtain ⟨D',E',_,_,_,q1,q2,q3,q4,q5,q6⟩:=hs4.vU (VJ hbk _);exact ⟨_,_,hend',_,D',E',.bool jump.isNone,_,rfl,hp,⟨[.bool jump.isNone],by simp[aZ,I.isAgg],by simp[ae]⟩,q1,q2,q3,q4,q5,q6⟩
   cases e with
   |normal =>
    obtain ⟨os,hbk,hin⟩:=hq3;exact bd os none hbk (hpost _ _ (.inl ⟨rfl,by rw[hJ'];exact ⟨os,rfl,hin⟩⟩))
   |ret =>
    obtain ⟨os,hbk,hin⟩:=hq3;exact bd os (some .ret) hbk (hpost _ _ (.inr ⟨rfl,by rw[hIx'];exact ⟨none,os,rfl,hin⟩⟩))
   |exit id =>
    obtain ⟨os,hbk,hin⟩:=hq3;exact bd os (some (.exit id)) hbk (hpost _ _ (.inr ⟨rfl,by rw[hIx'];exact ⟨some id,os,rfl,hin⟩⟩))
   |goto t=>exact hq3.elim
   |panic ch=>exact hq3.elim
   |outgrown=>exact hq3.elim
  -- the call
  have hargs:ea (aR W1 D E1) (.raw yv::caps0) (yv::vs):=by
   exact .cons ⟨[yv],by simp[aZ,I.isAgg],by rw[hyv];exact ⟨rfl,rfl⟩⟩ (o7 (hup caps0 vs hvs))
  have hus:=hand.use (ρ:=ρ) hs1 false (fun h=>h.mono) ⟨(fun h=>by cases h),fun _=>by rw[←hDh,←hEh];exact hyok⟩ hgv1 (GZ hc0 fun x hx=>⟨jA (fun n hn=>by rw[hos1,jU,hn];simp) _ (hcp x hx).1,(hcp x hx).2⟩)
   (fun r os' hp=>by
    have gg:fH os1 os':=by
     rcases hp.2 with h | h
     ·exact jR _ _ h
     ·exact goodx _ h
    refine ⟨fun m x hx=>⟨(gg.ok m x hx).1,(gg.ok m x hx).2,fun h=>by cases h⟩,fun m m' h1 h2=>hgv1.inj m m' (by rw[←gg.same];exact h1) (by rw[←gg.same];exact h2),fun m hm=>by rw[gg.same];exact hm,fun m h1 h2=>(by rw[gg.same,h2] at h1;cases h1),(by rw[hp.1];simp[I.only,I.bV]),fun h=>by cases h⟩) hargs
  have ecl : #[yv]++vs.toArray=(yv::vs).toArray:=by simp
  rw[ecl];refine CallsIn.mono (callsIn_wide.2 hus) ?_;rintro e w3 ⟨v,r,os',D2,E2,rfl,hp,hs2,_,hE2⟩;have key:∀ (o3:Obj) (osb:List (Nat×ai)),os'=bU o3 osb→oG o3=true→E2 999999=some (.op l)∧w3.heap[l]?=some o3∧∀ o4,oG o4=true→bD c (aq ts (cO ρ osb++os0)) a1 (w3.putObj l o4):=fun o3 osb he h3=>by
   subst he;have hn2:E2 999999=some (.op l):=by
    obtain ⟨e',h1,h2⟩:=hE2 1999999 (.op l) (by rw[←hEh];exact hEl) (by rw[jU];simp);rw[hρ] at h1;rw[h1,h2.eq rfl]
   have eos:cO ρ (bU o3 osb)=(999999,.da o3)::cO ρ osb:=by simp only[bU,cO,Z3,hρ,ai.aO]
   rw[eos] at hs2;have ha:(aq ts ((999999,ai.da o3)::cO ρ osb++(999999,.da (.loop (rec .ready none)))::os0)).o 999999=some (.da o3):=by simp[aq,aA]
   have hgb:∀ m,ao osb m=true→bh ρ m≠999999:=fun m hm e=>by
    have h5:ao (bU o3 osb) m=true:=by rw[jU,hm];simp
    have g5:fH os1 (bU o3 osb):=by
     rcases hp.2 with h | h
     ·exact jR _ _ h
     ·exact goodx _ h
    have h6:=hgv1.inj m 1999999 (by rw[←g5.same];exact h5) isrec (by rw[hρ];exact e);subst h6;have h7:fH osb0 osb:=by
     rcases hp.2 with h | h
     ·rw[hI'] at h;obtain ⟨osb',h8,h9⟩:=h;simp only[bU,zy1] at h8;rw[h8.2];exact hI _ _ h9
     ·rw[hIx'] at h;obtain ⟨e,osb',h8,h9⟩:=h;simp only[bU,zy1] at h8;rw[h8.2];exact hIx _ _ h9
    rw[h7.same,h19] at hm;cases hm
   refine ⟨hn2,?_,fun o4 h4 =>?_⟩
   ·have ho:=hs2.bB 999999;rw[ha] at ho;obtain ⟨b,k1,_,k3,_⟩:=ho;rw[hn2] at k1;cases k1;exact k3
   ·have h5:=(hs2.xf (o':=o4) ha hn2 h4).Md hn2;have hst:(⟨((aq ts ((999999,ai.da o3)::cO ρ osb++(999999,.da (.loop (rec .ready none)))::os0)).aQ 999999 (.da o4)).t,fun m=>if m=999999 then none else
      ((aq ts ((999999,ai.da o3)::cO ρ osb++(999999,.da (.loop (rec .ready none)))::os0)).aQ 999999 (.da o4)).o m⟩:ab)=aq ts (cO ρ osb++os0):=by
     simp only[aq,ab.aQ]
     congr 1
     funext m
     by_cases hm:m=999999
     ·subst hm;simp only[if_true,qt];cases hq:pre ρ osb 999999 with
      |none=>exact hfree.symm
      |some k=>exact absurd (iJ hq).2 (hgb k (iJ hq).1)
     ·simp only[if_neg hm,Z8,aA,qt]
    rw[hst] at h5;exact ⟨D2,_,h5⟩
  rcases hp.2 with h | h
  ·rw[hI'] at h;obtain ⟨osb,he,hin⟩:=h;obtain ⟨k1,k2,k3⟩:=key _ osb he rfl;refine ⟨none,_,(by have:=run_endLoop (P:=c.P) k2 (by rw[hrec];simp);rw[hrec] at this;exact this),_,hdone osb hin,?_⟩;have:=k3 (.loop { rec .ready none with state:=.exhausted }) rfl;rw[ha1] at this;rw[hrec] at this;exact this
  ·rw[hIx'] at h;obtain ⟨e,osb,he,hin⟩:=h;obtain ⟨k1,k2,k3⟩:=key _ osb he rfl;refine ⟨some (sr e),_,(by have:=run_endLoop (P:=c.P) k2 (by rw[hrec];simp);rw[hrec] at this;exact this),?_⟩;have:=k3 (.loop { rec .done (some (sr e)) with state:=.exhausted }) rfl;rw[ha1] at this;rw[hrec] at this;have hq:sA c Q (vc e) { a with defers := { target:=.collected w.heap.size,args := #[] } :: a.defers } _:=⟨_,hexit e osb hin,this⟩
   cases e with
   |none=>exact wpIn_ret hq
   |some id=>exact wpIn_exit hq
end
end Go.Abs
namespace Go.Proofs.YtoffnnjbplgnaaaGreatDoor
open Go Go.Abs
open Go.Abs.Enc (enc)
theorem Y6{out:List ah}{s:Int}{z:Nat}{x:List UInt8}{au:List (List UInt8)}(h:eh bn s x=none):je (eh bn) c8 out s z (x::au)=(out,z):=by rw[je,h]
theorem Y7{out:List ah}{s:Int}{z:Nat}{x:List UInt8}{au:List (List UInt8)}{q:ah×Int}(h:eh bn s x=some q):je (eh bn) c8 out s z (x::au)=if c8 out q.1=true then je (eh bn) c8 (out++[q.1]) q.2 (z+x.length) au else (out,z):=by rw[je,h]
structure pD (t:List UInt8) (k:Nat) (out:List ah) (s:Int) (z:Nat):Prop where
 eq:je (eh bn) c8 [] 1 0 (dO t)=je (eh bn) c8 out s z ((dO t).drop k)
 sum:0≤s∧s<1000003
 ok:∀ r∈out,bn r=true
 len:out.length≤60
 size:z+(fL k t).length=t.length
structure rq (t:List UInt8) (out:List ah) (z:Nat):Prop where
 eq:je (eh bn) c8 [] 1 0 (dO t)=(out,z)
 len:out.length≤60
 size:z≤t.length
theorem YK{t:List UInt8}{k:Nat}(hk:k<(dO t).length):∃ w v,dC 10 (fL k t)=some (w,v)∧(dO t)[k]=w++[10]∧fL (k+1) t=v∧fL k t=w++10::v:=by
 have hrd:=wU (Nat.le_of_lt hk);cases h:dC 10 (fL k t) with
 |none=>rw[vV h] at hrd;have:=congrArg List.length hrd;simp at this;omega
 |some p =>
  obtain ⟨w,v⟩:=p;refine ⟨w,v,rfl,?_,wV h,(rR h).1⟩;rw[sC h,List.drop_eq_getElem_cons hk] at hrd;exact (List.cons.inj hrd).1.symm
theorem CQ(t:List UInt8):pD t 0 [] 1 0:=⟨rfl,by omega,by simp,by simp,by simp[fL]⟩
theorem Yb{t:List UInt8}{out:List ah}{s:Int}{z:Nat}(h:pD t (dO t).length out s z):rq t out z :=
 ⟨by rw[h.eq,List.drop_length,je],h.len,by have:=h.size;omega⟩
theorem A9{t:List UInt8}{out:List ah}{z:Nat}(h:rq t out z):jD bn c8 t=(out,t.take z):=by rw[jD,h.eq]
theorem WZ{out:List ah}{r:ah}(h:c8 out r=true):out.length<60:=by
 simp only[c8,Z0,decide_eq_true_eq] at h;exact h.1
theorem xT(t:List UInt8)(ht:t.length≤281474976710656):aS Tryz.prog 15 [enc (av.of t)] (.tuple [enc (jD bn c8 t).1,enc (av.of (jD bn c8 t).2)]):=by
 refine aS.bT Tryz.func15 H0 Jf Kx (t8 rfl) (fun hwf W0 bI E1 =>?_);simp only[zc,Df,bF];clear hwf;have h69:=Gf t;have R:=y6 @qX (y6 @bu aD)
 repeat' ((first |(with_reducible refine .guard (fun hb =>?_) (fun hb =>?_) <;>try simp only[hb])|refine U.aG (by decide +kernel) rfl fun K hK =>?_|(refine .aE [0,2,3,4,5,6,7,8,9,10,12,13,28] hK ?_;clear hK K)|(with_reducible refine .done (hK _ ?_);clear hK K)|refine U.of rfl ?_|(with_reducible refine aw.aF (fun h =>?_) (fun h =>?_) <;>try simp only[h])) <;>try simp only[aH,R,simprocAttr])
 all_goals clear R
 refine .bB false [] [] [enc (av.of t)] _ rfl h69 ⟨fun m y hy=>by simp[aA] at hy,fun m m' h=>by simp[ao,aA] at h⟩ ⟨.inl ⟨(gQ _ _).symm,br _ _,eQ _⟩,trivial⟩ ?_ ?_
 ·rintro r os' ⟨rfl,rfl⟩;refine ⟨fun m y hy =>?_,fun m m' _ _ h=>h,fun m hm=>by simp[ao,aA] at hm,fun m hm _ =>?_,⟨rfl,fun h=>by cases h⟩⟩
  ·simp only[aA] at hy;split at hy
   ·cases hy;exact ⟨br _ _,rfl,fun h=>by cases h⟩
   ·cases hy
  ·simp only[ao,aA] at hm;split at hm
   ·rename_i e;subst e;exact ⟨rfl,by decide⟩
   ·simp at hm
 rintro r os' ⟨rfl,rfl⟩
 try simp only[cO,Z3,zz6,ai.aO,gQ,bh,I.aO,I.cV,Z8,zz3,ba,simprocAttr]
 refine .done (hK _ ?_);clear hK K;refine U.sub (bg.GB 4 80 50 8 8 [] _ rfl rfl rfl (B:=aq [(0,enc (av.of t)),(4,.ptr 4 []),(5,.ptr 5 []),(6,.ptr 6 []),(12,.func 122 [.ptr 1 []])] [(4,.box (.own 80 0)),(80,.bH 50 8 []),(1,.box (enc (av.of t))),(5,.box (.int .i64 1)),(6,.box (.int .i64 0))]) ?_) ?_
 ·simp only[fM];refine bg.bZ ?_ ?_ ?_ ?_ <;>simp[bK,bO,bG,bE,ao,bN,cI,I.only,I.bV,ai.only,br]
 refine U.block (U.YT (osb0:=dA t [] 1 0) (tsR:=[(4,.ptr 1000004 []),(5,.ptr 1000005 []),(6,.ptr 1000006 [])]) (ρ:=[(1999999,999999),(1000001,1),(1000004,4),(1000080,80),(1000005,5),(1000006,6)]) (g:=122) (caps0:=[.ptr 1 []]) (caps:=[.ptr 1000001 []]) (N:=(dO t).length) (item:=oH t)
  (sk t (pD t)) (sn t (pD t)) (qe (rq t)) ⟨rfl,rfl⟩ (t8 rfl) (by simp only[ba,simprocAttr]) (by simp[I.aO,bh]) ?_ zT (Wz ht (CQ t)) (fun _=>rfl) rfl rfl rfl (fun o=>⟨?_,?_⟩) ?_ ?_ ?_ ?_ ?_ ?_ ?_)
 ·intro x hx;simp only[zy6] at hx;subst hx;exact ⟨rfl,rfl⟩
 ·intro n x hx;simp only[bU,dA,aA] at hx
  repeat' split at hx
  all_goals first | (cases hx;done) | (subst_vars;simp only[v6] at hx;subst hx;simp[bU,dA,ao,bh,aA,ai.aO,I.aO,I.cV,gQ,ai.only,I.only,I.bV,br,ai.er])
 ·intro a b ha hb;simp only[bU,dA,ao,aA] at ha hb
  repeat' split at ha
  all_goals first | (simp at ha;done) | skip
  all_goals (repeat' split at hb)
  all_goals first | (simp at hb;done) | (subst_vars;simp[bh])
 ·simp[mB,bN,I.aO,bh,I.only,dA,ao,aA]
 ·rintro k os ⟨out,s,z,rfl,_⟩;exact nK ..
 ·rintro e os ⟨_,u,out,s,z,rfl,_⟩;exact nK ..
 ·exact ⟨[],1,0,rfl,CQ t⟩
 ·rintro k osb hk ⟨out,s,z,rfl,hP⟩ W1 D1 E1 ZW o1 o2;obtain ⟨w,v,hcut,hL,hnext,hrest⟩:=YK hk;have jS:oH t k=[enc (av.of (w++[10]))]:=by
   rw[oH,zz5,zz2 hk,Option.getD_some,hL]
  have hdrop:(dO t).drop k=(w++[10])::(dO t).drop (k+1):=by rw[List.drop_eq_getElem_cons hk,hL]
  have hsz:=hP.size;rw[hrest] at hsz;have hll:(w++[10]).length+v.length=(w++10::v).length:=by simp;omega
  generalize hx:w++[10]=line at jS hdrop hll;have hlen:z+line.length+v.length=t.length:=by omega
  have h70:=x8 hP.sum (t:=line) (by omega);have hlt:=pb line;have hwz:IntKind.i64.wrap ((z:Int)+(line.length:Int))=((z+line.length:Nat):Int):=by rw[dX _ (by omega) (by omega)];rfl
  have hfo:ky out.length (some (.bH 50 8 (out.map enc)))=some (enc out):=pZ 8 rfl rfl;have hpe:=hP.eq;rw[hdrop] at hpe;generalize hu:fL k t=u at *;rw[jS];simp only[td,bU,dA];have R:=y6 @bu aD
  repeat' ((first |(with_reducible refine .guard (fun hb =>?_) (fun hb =>?_) <;>try simp only[hb])|refine U.aG (by decide +kernel) rfl fun K hK =>?_|(refine .aE [0,2,3,4,5,6,7,8,9,10,12,13,28] hK ?_;clear hK K)|(with_reducible refine .done (hK _ ?_);clear hK K)|refine U.of rfl ?_|(with_reducible refine aw.aF (fun h =>?_) (fun h =>?_) <;>try simp only[h])) <;>try simp only[aH,R,simprocAttr])
  all_goals clear R
  refine ⟨by simp[],?_⟩;have stop:je (eh bn) c8 [] 1 0 (dO t)=(out,z)→∀ ts z1 z2 z3,Ew o2 (sn t (pD t) k) (qe (rq t)) (.exit 0)
    (aq ts ([(8,z1),(8,z2),(1999999,.da o2),(1999999,z3)]++dA u out s z)):=fun h ts z1 z2 z3=>by
   refine ⟨dA u out s z,?_,rfl,u,out,s,z,rfl,h,hP.len,by omega⟩;intro n x hx;simp only[bU,dA,aA] at hx
   (repeat' split at hx) <;>first
    |(cases hx;done)
    |(subst_vars;simp only[v6] at hx;subst hx;simp[bU,dA,ao,aq,aA,ai.only,I.only,br,ai.er,j4])
  cases hq:eh bn s line with
  |none =>
   rw[gZ,hq,kV] at h70;rw[Y6 hq] at hpe;have R:=y6 @eZ (y6 @eN (y6 @bu aD))
   repeat' ((first |(with_reducible refine .guard (fun hb =>?_) (fun hb =>?_) <;>try simp only[hb])|refine U.aG (by decide +kernel) rfl fun K hK =>?_|refine .lead _ (h70) ?_|(refine .aE [0,2,3,4,5,6,7,8,9,10,12,13,28] hK ?_;clear hK K)|(with_reducible refine .done (hK _ ?_);clear hK K)|refine U.of rfl ?_|(with_reducible refine aw.aF (fun h =>?_) (fun h =>?_) <;>try simp only[h])) <;>try simp only[aH,R,simprocAttr])
   all_goals clear R
   exact stop hpe _ _ _ _
  |some q =>
   obtain ⟨r,n⟩:=q;obtain ⟨hok,_,hns⟩:=Yt bn hq;simp only at hok hns;rw[gZ,hq,kV] at h70;rw[Y7 hq] at hpe;simp only at hpe;have h71:=x9 out r (by have:=hP.len;omega) (fun q hq=>nf (hP.ok q hq)) (nf hok);cases hn:c8 out r
   ·rw[hn] at h71 hpe;rw[if_neg (by decide)] at hpe;have R:=y6 @hfo (y6 @eZ (y6 @eN (y6 @bu aD)))
    repeat' ((first |(with_reducible refine .guard (fun hb =>?_) (fun hb =>?_) <;>try simp only[hb])|refine U.aG (by decide +kernel) rfl fun K hK =>?_|refine .lead _ (h70) ?_|refine .flat _ (h71) rfl ?_|(refine .aE [0,2,3,4,5,6,7,8,9,10,12,13,28] hK ?_;clear hK K)|(with_reducible refine .done (hK _ ?_);clear hK K)|refine U.of rfl ?_|(with_reducible refine aw.aF (fun h =>?_) (fun h =>?_) <;>try simp only[h])) <;>try simp only[aH,R,simprocAttr])
    all_goals clear R
    exact stop hpe _ _ _ _
   ·have hol:=WZ hn;rw[hn] at h71 hpe;rw[if_pos rfl] at hpe;have stOwn:∀ (A:ab) n b m k m' k' rest,dW A none n [] b (.own m k) rest (some (.own m' k'))=ar rest (A.aQ n (.box (.own m k))) :=
     fun _ _ _ m k m' k' _=>by rw[eV (s:=none) (v:=.own m k) (old:=.own m' k') rfl rfl rfl,fM]
    have hbs:gm 8 (some [enc r])=some (enc [r]):=oa 8 r rfl;have hap:=fun (A:ab) d rest=>yr (A:=A) (d:=d) 50 8 72 1000080 (l:=out.length) (es:=out) (ys:=[r]) (rest:=rest) rfl rfl (by simp) (by simp[maxLen];omega) (by simp;omega);have R:=y6 @hfo (y6 @hbs (y6 @hap (y6 @stOwn (y6 @hlt (y6 @hwz (y6 @eZ (y6 @eN (y6 @qX (y6 @bu aD)))))))))
    repeat' ((first |(with_reducible refine .guard (fun hb =>?_) (fun hb =>?_) <;>try simp only[hb])|refine U.aG (by decide +kernel) rfl fun K hK =>?_|refine .lead _ (h70) ?_|refine .flat _ (h71) rfl ?_|(refine .aE [0,2,3,4,5,6,7,8,9,10,12,13,28] hK ?_;clear hK K)|(with_reducible refine .done (hK _ ?_);clear hK K)|refine U.of rfl ?_|(with_reducible refine aw.aF (fun h =>?_) (fun h =>?_) <;>try simp only[h])) <;>try simp only[aH,R,simprocAttr])
    all_goals clear R
    refine ⟨dA u (out++[r]) n (z+line.length),?_,out++[r],n,z+line.length,by rw[hu],⟨hpe,?_,?_,?_,?_⟩⟩
    ·intro n x hx;simp only[bU,dA,aA] at hx
     (repeat' split at hx) <;>first
      |(cases hx;done)
      |(subst_vars;simp only[v6] at hx;subst hx;simp[bU,dA,ao,aq,aA,ai.only,I.only,br,ai.er,j4,-List.map_append])
    ·rw[hns];exact pg hP.sum _
    ·intro q hq;rcases zy0.1 hq with h1 | h1
     ·exact hP.ok q h1
     ·rw[zy6.1 h1];exact hok
    ·simp;omega
    ·rw[hnext];exact hlen
 ·rintro os ⟨out,s,z,rfl,hP⟩;have hF:=Yb hP;have hfo:ky out.length (some (.bH 50 8 (out.map enc)))=some (enc out):=pZ 8 rfl rfl;have hsh:=qS (av.of t) (j:=z) (by rw[av.dG];exact hF.size);rw[av.dG] at hsh;rw[A9 hF];simp only[dA,cO,Z3,zz6,bh,ai.aO,I.aO,gQ,jB,cQ,lq,reduceIte,Nat.reduceEqDiff,Z8,zz3];have R:=y6 @hfo (y6 @hsh (y6 @bu aD))
  repeat' ((first |(with_reducible refine .guard (fun hb =>?_) (fun hb =>?_) <;>try simp only[hb])|refine U.aG (by decide +kernel) rfl fun K hK =>?_|(refine .aE [0,2,3,4,5,6,7,8,9,10,12,13,28] hK ?_;clear hK K)|(with_reducible refine .done (hK _ ?_);clear hK K)|refine U.of rfl ?_|(with_reducible refine aw.aF (fun h =>?_) (fun h =>?_) <;>try simp only[h])) <;>try simp only[aH,R,simprocAttr])
  all_goals clear R
  all_goals rfl
 ·rintro e os ⟨rfl,u,out,s,z,rfl,hF⟩;have hfo:ky out.length (some (.bH 50 8 (out.map enc)))=some (enc out):=pZ 8 rfl rfl;have hsh:=qS (av.of t) (j:=z) (by rw[av.dG];exact hF.size);rw[av.dG] at hsh;rw[A9 hF];simp only[dA,cO,Z3,zz6,bh,ai.aO,I.aO,gQ,jB,vc,cQ,lq,reduceIte,Nat.reduceEqDiff,Z8,zz3];have R:=y6 @hfo (y6 @hsh (y6 @bu aD))
  repeat' ((first |(with_reducible refine .guard (fun hb =>?_) (fun hb =>?_) <;>try simp only[hb])|refine U.aG (by decide +kernel) rfl fun K hK =>?_|(refine .aE [0,2,3,4,5,6,7,8,9,10,12,13,28] hK ?_;clear hK K)|(with_reducible refine .done (hK _ ?_);clear hK K)|refine U.of rfl ?_|(with_reducible refine aw.aF (fun h =>?_) (fun h =>?_) <;>try simp only[h])) <;>try simp only[aH,R,simprocAttr])
  all_goals clear R
  all_goals rfl
def bA(a n:Int):Int:=(IntKind.i64.wrap (a.tmod n+n)).tmod n
theorem lW(a n:Int)(hn:n≠0):aS Tryz.prog 28 [enc a,enc n] (enc (bA a n)):=by
 refine aS.bT Tryz.func28 Ih Jt KL (t8 rfl) (fun hwf W0 bI E1 =>?_);simp only[zo,Dv,bF,Z5];clear hwf;have R:=y6 @hn aD
 repeat' ((first |refine U.aG (by decide +kernel) rfl fun K hK =>?_|(refine .aE [0,1,4] hK ?_;clear hK K)|(with_reducible refine .done (hK _ ?_);clear hK K)|refine U.of rfl ?_|(with_reducible refine aw.aF (fun h =>?_) (fun h =>?_) <;>try simp only[h])) <;>try simp only[aH,R,simprocAttr])
 all_goals clear R
 all_goals rfl
theorem WQ{a n:Int}(ha:-9223372036854775808≤a∧a≤9223372036854775807)(hn:0<n∧n≤4611686018427387904):bA a n=a%n:=by
 have h1:-n<a.tmod n∧a.tmod n<n:=⟨Int.lt_tmod_of_pos a hn.1,Int.tmod_lt_of_pos a hn.1⟩
 have h2:(a.tmod n+n).tmod n=a%n:=by
  rw[Int.tmod_eq_emod_of_nonneg (by omega),Int.add_emod_right];have:=Int.tmod_add_mul_tdiv a n
  conv=>rhs;rw[←this]
  rw[Int.add_mul_emod_self_left]
 have h3:=Int.emod_nonneg a (show n≠0 by omega);have h4:=Int.emod_lt_of_pos a hn.1;rw[bA,dX _ (by omega) (by omega),h2]
theorem xW(a b:List ah)(hl:a.length≤4000000000000):aS Tryz.prog 17 [enc a,enc b] (enc (decide (a=b))):=by
 refine aS.bT Tryz.func17 H8 Jk KC (t8 rfl) (fun hwf W0 bI E1 =>?_);simp only[zh,Dl,bF,Z5];clear hwf;cases q:((a.length:Int)==(b.length:Int))
 ·have hne:decide (a=b)=false:=decide_eq_false fun e=>by rw[e] at q;simp at q
  rw[hne];by_cases h0:0<a.length
  ·have hlc:decide ((0:Int)<(a.length:Int))=true:=decide_eq_true (by omega);have R:=y6 @q aD
   repeat' ((first |(with_reducible refine .guard (fun hb =>?_) (fun hb =>?_) <;>try simp only[hb])|refine U.aG (by decide +kernel) rfl fun K hK =>?_|(refine .aE [0,1,4,5,6,18] hK ?_;clear hK K)|(with_reducible refine .done (hK _ ?_);clear hK K)|refine U.of rfl ?_|(with_reducible refine aw.aF (fun h =>?_) (fun h =>?_) <;>try simp only[h])) <;>try simp only[aH,R,simprocAttr])
   all_goals clear R
   refine U.loop (fun _:Unit=>aq [(0,enc a),(1,enc b),(5,.bool false),(6,.int .i64 0)] []) (fun _=>True) (fun _=>0) () trivial ?_ ?_
   ·refine bg.bZ ?_ ?_ ?_ ?_ <;>simp[bK,bO,bG,bE,bN,I.only,br]
   intro _ _;have R:=y6 @q (y6 @hlc aD)
   repeat' ((first |(with_reducible refine .guard (fun hb =>?_) (fun hb =>?_) <;>try simp only[hb])|refine U.aG (by decide +kernel) rfl fun K hK =>?_|(refine .aE [0,1,4,5,6,18] hK ?_;clear hK K)|(with_reducible refine .done (hK _ ?_);clear hK K)|refine U.of rfl ?_|(with_reducible refine aw.aF (fun h =>?_) (fun h =>?_) <;>try simp only[h])) <;>try simp only[aH,R,simprocAttr])
   all_goals clear R
   all_goals rfl
  ·have hlc:decide ((0:Int)<(a.length:Int))=false:=decide_eq_false (by omega);have R:=y6 @q aD
   repeat' ((first |(with_reducible refine .guard (fun hb =>?_) (fun hb =>?_) <;>try simp only[hb])|refine U.aG (by decide +kernel) rfl fun K hK =>?_|(refine .aE [0,1,4,5,6,18] hK ?_;clear hK K)|(with_reducible refine .done (hK _ ?_);clear hK K)|refine U.of rfl ?_|(with_reducible refine aw.aF (fun h =>?_) (fun h =>?_) <;>try simp only[h])) <;>try simp only[aH,R,simprocAttr])
   all_goals clear R
   refine U.loop (fun _:Unit=>aq [(0,enc a),(1,enc b),(5,.bool false),(6,.int .i64 0)] []) (fun _=>True) (fun _=>0) () trivial ?_ ?_
   ·refine bg.bZ ?_ ?_ ?_ ?_ <;>simp[bK,bO,bG,bE,bN,I.only,br]
   intro _ _;have R:=y6 @q (y6 @hlc aD)
   repeat' ((first |(with_reducible refine .guard (fun hb =>?_) (fun hb =>?_) <;>try simp only[hb])|refine U.aG (by decide +kernel) rfl fun K hK =>?_|(refine .aE [0,1,4,5,6,18] hK ?_;clear hK K)|(with_reducible refine .done (hK _ ?_);clear hK K)|refine U.of rfl ?_|(with_reducible refine aw.aF (fun h =>?_) (fun h =>?_) <;>try simp only[h])) <;>try simp only[aH,R,simprocAttr])
   all_goals clear R
   all_goals rfl
 have hlen:a.length=b.length:=by have:=eq_of_beq q;omega
 have R:=y6 @q aD
 repeat' ((first |(with_reducible refine .guard (fun hb =>?_) (fun hb =>?_) <;>try simp only[hb])|refine U.aG (by decide +kernel) rfl fun K hK =>?_|(refine .aE [0,1,4,5,6,18] hK ?_;clear hK K)|(with_reducible refine .done (hK _ ?_);clear hK K)|refine U.of rfl ?_|(with_reducible refine aw.aF (fun h =>?_) (fun h =>?_) <;>try simp only[h])) <;>try simp only[aH,R,simprocAttr])
 all_goals clear R
 refine U.loop (fun x:Nat×Bool=>aq [(0,enc a),(1,enc b),(5,.bool x.2),(6,.int .i64 x.1)] []) (fun x=>x.1≤a.length∧(x.2=true→a.take x.1=b.take x.1)∧(x.2=false→a≠b)) (fun x=>a.length-x.1) (0,true) ⟨zx8 _,by simp,by simp⟩ ?_ ?_
 ·refine bg.bZ ?_ ?_ ?_ ?_ <;>simp[bK,bO,bG,bE,bN,I.only,br]
 rintro ⟨i,t⟩ ⟨hi,h1,h2⟩;simp only at hi h1 h2 ⊢;cases t
 ·have hne:decide (a=b)=false:=decide_eq_false (h2 rfl);rw[hne];by_cases h0:i<a.length
  ·have hlc:=e9 h0;have R:=y6 @hlc aD
   repeat' ((first |(with_reducible refine .guard (fun hb =>?_) (fun hb =>?_) <;>try simp only[hb])|refine U.aG (by decide +kernel) rfl fun K hK =>?_|(refine .aE [0,1,4,5,6,18] hK ?_;clear hK K)|(with_reducible refine .done (hK _ ?_);clear hK K)|refine U.of rfl ?_|(with_reducible refine aw.aF (fun h =>?_) (fun h =>?_) <;>try simp only[h])) <;>try simp only[aH,R,simprocAttr])
   all_goals clear R
   all_goals rfl
  ·have hlc:=fB h0;have R:=y6 @hlc aD
   repeat' ((first |(with_reducible refine .guard (fun hb =>?_) (fun hb =>?_) <;>try simp only[hb])|refine U.aG (by decide +kernel) rfl fun K hK =>?_|(refine .aE [0,1,4,5,6,18] hK ?_;clear hK K)|(with_reducible refine .done (hK _ ?_);clear hK K)|refine U.of rfl ?_|(with_reducible refine aw.aF (fun h =>?_) (fun h =>?_) <;>try simp only[h])) <;>try simp only[aH,R,simprocAttr])
   all_goals clear R
   all_goals rfl
 by_cases hlt:i<a.length
 ·have hlc:=e9 hlt;have he:=fun A=>eS (A:=A) 8 hlt rfl;have he2:=fun A=>eS (A:=A) (l:=b) (k:=i) 8 (by omega) rfl;have hw:=eO (i:=i) (by omega);have e1:=fW hlt;have e2:=fW (l:=b) (i:=i) (by omega);have hg:a=b→a[i]=b[i]'(by omega):=fun e=>by subst e;rfl
  have h1':=h1 rfl;generalize a[i]=r at *;generalize (b[i]'(by omega))=r' at *;have R:=y6 @hlc (y6 @he (y6 @he2 (y6 @hw aD)))
  repeat' ((first |(with_reducible refine .guard (fun hb =>?_) (fun hb =>?_) <;>try simp only[hb])|refine U.aG (by decide +kernel) rfl fun K hK =>?_|(refine .aE [0,1,4,5,6,18] hK ?_;clear hK K)|(with_reducible refine .done (hK _ ?_);clear hK K)|refine U.of rfl ?_|(with_reducible refine aw.aF (fun h =>?_) (fun h =>?_) <;>try simp only[h])) <;>try simp only[aH,R,simprocAttr])
  all_goals clear R
  refine ⟨(i+1,decide (r=r')),⟨by simp only;omega,fun h =>?_,fun h =>?_⟩,by simp only;omega,?_⟩
  ·simp only at h ⊢;rw[e1,e2,h1',of_decide_eq_true h]
  ·simp only at h;exact fun e=>of_decide_eq_false h (hg e)
  ·clear hg h1 h2 h1';refine bg.bZ ?_ ?_ ?_ ?_ <;>simp[bK,bO,bG,bE,bN,I.only,br]
   all_goals rfl
 ·have hlc:=fB hlt;have heq:a=b:=by
   have:=h1 rfl
   rwa [zx3 (by omega),zx3 (by omega)] at this
  rw[decide_eq_true heq];have R:=y6 @hlc aD
  repeat' ((first |(with_reducible refine .guard (fun hb =>?_) (fun hb =>?_) <;>try simp only[hb])|refine U.aG (by decide +kernel) rfl fun K hK =>?_|(refine .aE [0,1,4,5,6,18] hK ?_;clear hK K)|(with_reducible refine .done (hK _ ?_);clear hK K)|refine U.of rfl ?_|(with_reducible refine aw.aF (fun h =>?_) (fun h =>?_) <;>try simp only[h])) <;>try simp only[aH,R,simprocAttr])
  all_goals clear R
  all_goals rfl
end Go.Proofs.YtoffnnjbplgnaaaGreatDoor
