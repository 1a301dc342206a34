/-
  A part of the proof that the law RollJoins returns true for every input; five variables of Go's library start as the text lays them (the card ties them); conditions: none beyond the statement's own. (part 4 of 6)
-/
import Derived.SizedLaws
import Derived.Lib.SplitLaws
import Derived.Lib.AtoiAll
import Derived.Lib.ItoaMem
import Derived.Shelf.Strings.Split
import Derived.Shelf.Small.Wraps
import Derived.Shelf.Strconv.ErrVarAll
import Derived.Lib.FieldsP
import Derived.Laws.RangeAny
import Derived.Shelf.Strconv.Itoa3
import Derived.Lib.ItoaLen
import Derived.Shelf.Strings.Prefix
import Derived.Shelf.Strings.Cut
import Derived.Shelf.Small.Strs
import Derived.Shelf.Strconv.Clone
import Derived.Shelf.Strings.FieldsFuncAny
import Derived.WalkKit
import Derived.Tactics
import Derived.Tactics2
import Derived.RecoverIn
import Derived.Deep.MidRow
import Derived.Shelf.Strings.BuilderK
import Derived.BigCall
import Derived.Deep.RegionWith
import Derived.Test.YtoffnnjbplgnaaaGreatDoorNec
set_option linter.unusedSimpArgs false
set_option linter.unusedVariables false
set_option maxHeartbeats 16000000
set_option maxRecDepth 100000
namespace Go.Abs
open Go Go.RowKit Go.ChangeShapes
open Enc (enc)
def r0(P:Program)(t:TypeId)(l:List (TypeId×Nat)):Bool:=match P.underlying t with
 |some (.struct fs)=>fs.toList.map (fun f=>(f.type,f.offset))==l
 |_=>false
def Bq(P:Program)(t:TypeId)(n:Nat)(e:TypeId):Bool:=match P.underlying t with
 |some (.array n' e')=>n'==n&&e'==e
 |_=>false
theorem VU{P:Program}{t:TypeId}{n:Nat}{e:TypeId}(h:Bq P t n e=true):P.underlying t=some (.array n e):=by
 unfold Bq at h;split at h
 ·rename_i n' e' ht;simp only[Z0,beq_iff_eq] at h;rw[ht,h.1,h.2]
 ·cases h
theorem VW{P:Program}{t:TypeId}{l:List (TypeId×Nat)}(h:r0 P t l=true):∃ fs,P.underlying t=some (.struct fs)∧fs.toList.map (fun f=>(f.type,f.offset))=l:=by
 unfold r0 at h;split at h
 ·rename_i fs ht;exact ⟨fs,ht,by simpa using h⟩
 ·cases h
theorem X8{H:Type}{enc0:TypeId×Value→H}{P:Program}{f:Func}{s:ChangeSpec}{apart jK handsOn again:Bool}{W W':World}{args:Array Value}{v:Value}{ds gs:List (DataW H)}{before pa pv:List MemPlace}
  (hW:DataW.Whole enc0 P f.params.toList s.vars apart W args.toList ds gs before)
  (hres:∀ (b:Nat) (sp:Nat→Bool) (hd:Bool),DataW.TrodAll enc0 P W' b sp hd f.resultTypes.toList (v.resultList f.resultTypes.size) (s.fn H (ds++gs)).results [])
  (hargs:∀ sp:Nat→Bool,(∀ p∈before,sp p.block=true)→DataW.TrodAll enc0 P W' 0 sp true f.params.toList args.toList (s.fn H (ds++gs)).args pa)
  (hvars:∀ sp:Nat→Bool,(∀ p∈before,sp p.block=true)→DataW.TrodVars enc0 P W' sp s.vars (s.fn H (ds++gs)).vars pv)
  (hps:before=pa++pv) (hb:Below W.heap.size W W')
  (hok:∀ (j:Nat) (t:TypeId) (r:Value),f.resultTypes[j]?=some t→(v.resultList f.resultTypes.size)[j]?=some r→Value.okWide P W' .any 0 t r) :
  s.post enc0 P f apart jK handsOn again W args v W':=by
 have hlt:∀ p∈before,p.block<W.heap.size:=fun p hp=>by simpa using hW.lt p hp
 have hold:∀ p∈before,(fun b=>decide (b<W.heap.size)) p.block=true:=fun p hp=>by simpa using hlt p hp
 refine ⟨ds,gs,before,[],pa,pv,hW,hres _ _ _,hargs _ hold,hvars _ hold,World.keptBut_mono (fun p hp=>⟨hp,?_⟩) (hb.frame (· ∈ before)),fun _ =>?_⟩
 ·rw[hps,zy9] at hp;exact Or.inr hp
 ·obtain ⟨_,_,_,_,_,hz,hn⟩:=hW;refine ⟨hok,_,_,([]++pa)++pv,⟨[]++pa,pv,trodAll_append (hargs _ (fun _ _=>rfl)) (hres _ _ _),hvars _ (fun _ _=>rfl),rfl,?_,?_⟩,?_⟩
  ·intro b off hp;have hp':MemPlace.cell b off∈before:=by rw[hps];simpa using hp
   rw[hb.frozen (p:=⟨b,off,none⟩) (hlt _ hp')];exact hz b off hp'
  ·intro ha;have:=hn ha;rw[hps] at this;simpa using this
  ·intro p hp _;rw[hps];simpa using hp
theorem Wf{P:Program}{f:FuncId}{fn:Func}{s:ChangeSpec}{H:Type}{enc0:TypeId×Value→H}{W:World}{ds gs:List (DataW H)}{before:List MemPlace}{xs:List I}{tb:TypeId}{v0 v1 v2:Value}{t0 t1 t2:TypeId}{d0 d1 d2:DataW H}{p0 p1 p2:List MemPlace}{again handsOn jK:Bool}
  (hl:laidOutB P=true) (hpar:fn.params.toList=[t0,t1,t2]) (hds:ds=[d0,d1,d2]) (hgs:gs=[]) (hbef:before=p0++p1++p2)
  (hvars:s.vars=[]) (hfn:s.fn H [d0,d1,d2] = { results:=[.lit (.bool true)],args:=[d0,d1,d2] }) (hres:fn.resultTypes = #[tb]) (htb:P.underlying tb=some .bool)
  (hW:DataW.Whole enc0 P fn.params.toList s.vars false W #[v0,v1,v2].toList ds gs before)
  (h0:DataW.Trod enc0 P W 0 (fun _=>true) true t0 v0 d0 p0) (h1:DataW.Trod enc0 P W 0 (fun _=>true) true t1 v1 d1 p1) (h2:DataW.Trod enc0 P W 0 (fun _=>true) true t2 v2 d2 p2)
  (hr:∀ t∈[t0,t1,t2],P.readableRec t=true∧t<P.types.size)
  (hctr:aQ P f xs (enc true)) (hlaid:eH P W (fun _=>False)) (hv:ar W (jz W) cu xs [v0,v1,v2]) :
  Calls P f #[v0,v1,v2] W fun e W'=>∃ v,e=.returned v∧s.post enc0 P fn false jK handsOn again W #[v0,v1,v2] v W':=by
 subst hds hgs;refine (hctr.2 W (jz W) [v0,v1,v2] hlaid (fun _ _ h=>h) hv).mono fun e W' ⟨v,D',he,hrv,hb,_,_⟩=>⟨v,he,?_⟩
 have hvb:v=.bool true:=kF hrv;subst hvb;have hlt:∀ x∈before,x.block<W.heap.size:=fun x hx=>by simpa using hW.lt x hx
 rw[hbef] at hlt;refine X8 (pa:=p0++(p1++p2)) (pv:=[]) hW (fun _ _ _ =>?_) (fun sp hsp =>?_) (fun _ _ =>?_) (by rw[hbef];simp) hb ?_
 ·simp only[List.append_nil,hfn,hres];exact trodAll_mk1 (shut_bool htb true)
 ·simp only[List.append_nil,hfn,hpar];rw[hbef] at hsp;have aT:∀ {t:TypeId} {v:Value} {d:DataW H} {p:List MemPlace},t∈[t0,t1,t2]→DataW.Trod enc0 P W 0 (fun _=>true) true t v d p→(∀ x∈p,x∈p0++p1++p2)→DataW.Trod enc0 P W' 0 sp true t v d p:=fun ht h hp =>
   WideElems.Trod_stays hl (hr _ ht).1 (hr _ ht).2 h (fun x hx=>hb.same (hlt x (hp x hx))) (fun x hx=>hsp x (hp x hx))
  exact trodAll_mk3 (aT (by simp) h0 fun x hx=>by simp[hx]) (aT (by simp) h1 fun x hx=>by simp[hx]) (aT (by simp) h2 fun x hx=>by simp[hx])
 ·simp only[List.append_nil,hfn,hvars];rfl
 ·intro j t r hj hv';rw[hres] at hj hv'
  match j,hj,hv' with
  |0,hj,hv' =>
   simp[Value.resultList] at hj hv';subst hj;subst hv';simp[Value.okWide,htb,Cell.okWide,Cell.ok]
def Ge(P:Program)(u:TypeId)(n:Nat)(S:I→Prop):Prop:=P.cellsOf u=n ∧
 ∀ {H:Type} {enc0:TypeId×Value→H} {w:World} {fuel:Nat} {cs:List Value} {x:DataW H×List MemPlace},DataW.trod enc0 P w 0 (fun _=>true) true fuel u cs=some x→∃ v,S v∧ae w (jz w) cu v cs
def XM(P:Program):Nat→List (TypeId×Nat)→List (Nat×(I→Prop))→Prop
 |_,[],[]=>True
 |o,(u,off)::l,(n,S)::Ss=>off=o∧Ge P u n S∧XM P (o+n) l Ss
 |_,_,_=>False
def nI:List (Nat×(I→Prop))→List I→Prop
 | [],[]=>True
 |(_,S)::Ss,v::vs=>S v∧nI Ss vs
 |_,_=>False
theorem kR{n:Nat}{S:I→Prop}{Ss:List (Nat×(I→Prop))} : ∀ {vs:List I},nI ((n,S)::Ss) vs→∃ v vs',vs=v::vs'∧S v∧nI Ss vs'
 | [],h=>h.elim
 |v::vs,h=>⟨v,vs,rfl,h.1,h.2⟩
theorem tT:∀ {vs:List I},nI [] vs→vs=[]
 | [],_=>rfl
 |_::_,h=>h.elim
def qy:List (Nat×(I→Prop))→Nat
 | []=>0
 |(n,_)::Ss=>n+qy Ss
structure ir (P:Program) (t:TypeId) (α:Type) [Enc α] (B:α→Prop):Prop where
 cells:P.cellsOf t=Enc.sz α
 sM:0<Enc.sz α
 mS:∀ {H:Type} {enc0:TypeId×Value→H} {w:World} {fuel:Nat} {cs:List Value} {x:DataW H×List MemPlace},DataW.trod enc0 P w 0 (fun _=>true) true fuel t cs=some x→(∀ k∈x.1.weights P t,k≤reachBytes)→∃ a:α,B a∧ae w (jz w) cu (enc a) cs
theorem qO.XW{P:Program}{t:TypeId}{α:Type}[Enc α](h:qO P t α):ir P t α fun _=>True:=⟨h.cells,h.sM,fun hx _=>by
 obtain ⟨a,ha⟩:=h.mS hx;exact ⟨a,trivial,ha⟩⟩
theorem Fg{H:Type}{P:Program}{e:TypeId} : ∀ {l:List (DataW H)} {d:DataW H},d∈l→∀ n∈d.weights P e,n∈DataW.weightsAll P e l
 |d'::r,d,hd,n,hn=>by
  simp only[DataW.weightsAll,zy9];rcases zy8.1 hd with rfl | h
  ·exact .inl hn
  ·exact .inr (Fg h n hn)
theorem XX{P:Program}{t e:TypeId}{α:Type}[Enc α]{B:α→Prop}(ht:P.underlying t=some (.slice e))(he:ir P e α B)(hc:P.cellsOf t=1):ir P t (List α) fun l=>(∀ a∈l,B a)∧l.length*P.bytesOf e≤reachBytes :=
 ⟨hc,by rw[Mm];exact Nat.one_pos,fun {H enc0 w fuel cs x} h hwt=>by
  rcases DataW.trod_slice ht h with ⟨rfl,_⟩ | ⟨a,len,cap,elems,rest,n,_,rfl,hxx,hb,hl,hm,hlen,hel,_⟩
  ·refine ⟨[],⟨by simp,by simp⟩,?_⟩;simp only[gI,zz6];rw[ae];exact ⟨none,0,rfl,Z7 _,by decide,.inl rfl,by simp⟩
  ·have hw1:∀ y∈elems,∀ k∈y.1.weights P e,k≤reachBytes:=fun y hy k hk=>by
    refine hwt k ?_;rw[hxx];simp only[DataW.weights,ht,zy8,zy9];exact .inr (.inl (Fg (zy3.2 ⟨y,hy,rfl⟩) k hk))
   have hw2:len*P.bytesOf e≤reachBytes:=by
    have:=hwt ((elems.length+rest.length)*P.bytesOf e) (by rw[hxx];simp[DataW.weights,ht]);have h3:elems.length*P.bytesOf e≤(elems.length+rest.length)*P.bytesOf e:=Nat.mul_le_mul_right _ (by omega);rw[←hlen];omega
   have key:∀ k,k≤len→∃ (l:List α) (cs':List Value),l.length=k∧aH w (jz w) cu (l.map enc) cs'∧cs'.length=k*Enc.sz α∧(∀ j v,cs'[j]?=some v→w.cell? (a.add j)=some v)∧∀ b∈l,B b:=by
    intro k
    induction k with
    |zero=>exact fun _=>⟨[],[],rfl,by simp[aH],by simp,by simp,by simp⟩
    |succ k ih =>
     intro hk;obtain ⟨l,cs',h1,h2,h3,h4,hB⟩:=ih (by omega);have h5:=hel k (by omega);have h6:k<elems.length:=by omega
     rw[zz0 h6] at h5;obtain ⟨ce,h7,h8⟩:=zx5.1 h5;obtain ⟨y,hyB,hy⟩:=he.mS h8 (hw1 _ (List.getElem_mem h6));rw[he.cells] at h7;obtain ⟨_,h9,h10⟩:=World.cells?_some h7;refine ⟨l++[y],cs'++ce,by simp[h1],?_,by rw[Z1,h3,h9,Nat.succ_mul],fun j v hj =>?_,fun b hb=>(zy9.1 hb).elim (hB b) fun h=>by rw[zx4.1 h];exact hyB⟩
     ·rw[zy7];refine iW _ _ _ _ h2 ?_;simp only[Z3,zz6,aH];exact ⟨ce,[],by simp,hy,rfl⟩
     ·rcases Nat.lt_or_ge j cs'.length with hlt | hge
      ·rw[zz8 hlt] at hj;exact h4 j v hj
      ·rw[zx3 hge] at hj;have hlt:j-cs'.length<Enc.sz α:=by
        have:=(Z6.1 hj).1;omega
       have:=h10 (j-cs'.length) hlt;rw[Gm,←h3,Nat.add_sub_cancel' hge] at this;rw[this];exact hj
   obtain ⟨l,cs',h1,h2,h3,h4,hB⟩:=key len (Z7 _);refine ⟨l,⟨hB,by rw[h1];exact hw2⟩,?_⟩;simp only[gI,ae,Z2];refine ⟨some a,cap,by rw[h1],by omega,hm,?_,Gq l⟩;by_cases hz:len=0
   ·left;have:l=[]:=List.length_eq_zero_iff.1 (by omega);rw[this];rfl
   right
   have hpos:0<cs'.length:=by rw[h3];exact Nat.mul_pos (Nat.pos_of_ne_zero hz) he.sM
   have h0:=h4 0 cs'[0] (zz0 hpos);have hsp:a.spot=none:=by
    simp only[Addr.add,if_true] at h0;unfold World.cell? at h0;split at h0
    ·split at h0
     ·cases h0
     ·rename_i hs;cases hh:a.spot <;>simp_all
    ·cases h0
   have ha:∀ j,a.add j=⟨a.block,a.off+j,none⟩:=fun j=>by
    unfold Addr.add;split
    ·rename_i hj;subst hj;cases a;simp_all
    ·rfl
   refine ⟨a.block,a.off,cs',by cases a;simp_all,fun j v hj =>?_,h2⟩;have h5:=h4 j v hj;rw[ha] at h5;refine ⟨h5,?_⟩
   show (⟨a.block,a.off+j,none⟩:Addr).block<_
   exact World.block_lt_of_cell? w _ h5⟩
theorem Zq{H:Type}{enc0:TypeId×Value→H}{P:Program}{w:World}{fuel:Nat}{t:TypeId}{l:List (TypeId×Nat)}{cs:List Value}{x:DataW H×List MemPlace}(ht:r0 P t l=true)(h:DataW.trod enc0 P w 0 (fun _=>true) true fuel t cs=some x)(hwt:∀ k∈x.1.weights P t,k≤reachBytes) :
  cs.length=P.cellsOf t∧∃ m:Nat,∀ (i:Nat) (u:TypeId) (o:Nat),l[i]?=some (u,o)→∃ y,DataW.trod enc0 P w 0 (fun _=>true) true m u ((cs.drop o).take (P.cellsOf u))=some y∧∀ k∈y.1.weights P u,k≤reachBytes:=by
 obtain ⟨fs,h1,h2⟩:=VW ht;obtain ⟨xs,m,_,hx,h3,h4,h5⟩:=DataW.trod_struct h1 h;refine ⟨h3,m,fun i u o hi =>?_⟩;rw[←h2] at hi;simp only[zy4,t7,Prod.mk.injEq] at hi;obtain ⟨f,hf,rfl,rfl⟩:=hi;have hf':fs[i]?=some f:=by simpa using hf
 have h6:=h5 i f hf';have hlt:i<fs.size:=(zz4.1 hf').1;rw[zz0 (by omega)] at h6;refine ⟨_,h6,fun k hk=>hwt k ?_⟩;rw[hx];simp only[DataW.weights,h1];refine DataW.weights_mem_each (j:=i) ?_ ?_ k hk
 ·rw[zy4,hf];rfl
 ·rw[zy4,zz0 (by omega)];rfl
theorem Ct{P:Program}{t:TypeId}{α:Type}[Enc α]{B:α→Prop}{H:Type}{enc0:TypeId×Value→H}{w:World}{dP:Nat}{v:Value}{d:DataW H}{p:List MemPlace}(ho:ir P t α B)(hA:Enc.gw α=true)(hst:(match P.underlying t with | some (.struct _) | some (.array _ _)=>true | _=>false)=true)(hv:Value.okWide P w .any dP t v)
  (h:DataW.Trod enc0 P w 0 (fun _=>true) true t v d p) (hwt:∀ k∈d.weights P t,k≤reachBytes):∃ (a:α),B a∧∃ (cs:List Value),ba (enc a) v cs∧ae w (jz w) cu (enc a) cs:=by
 obtain ⟨fuel,h⟩:=h;have hagg:∃ cs,v=.agg cs:=by
  unfold Value.okWide at hv;split at hst
  ·rename_i fs ht;rw[ht] at hv;obtain ⟨cs,h1,_⟩:=hv;exact ⟨cs,h1⟩
  ·rename_i n e ht;rw[ht] at hv;obtain ⟨cs,h1,_⟩:=hv;exact ⟨cs,h1⟩
  ·cases hst
 obtain ⟨cs,rfl⟩:=hagg;have e:(Value.agg cs).cells.toList=cs.toList:=rfl;rw[e] at h;obtain ⟨a,hB,ha⟩:=ho.mS h hwt;exact ⟨a,hB,cs.toList,by simp[ba,Enc.agg,hA],ha⟩
end Go.Abs
namespace Go.Abs
open Go Go.RowKit
open Enc (enc)
structure ay where
 b:ByteArray
 deriving DecidableEq,Inhabited
instance:Enc ay where
 enc s:=.ak s.b
 sz:=1
 aK:=.one
 gw:=false
 done _:=rfl
 size _:=by simp[I.size]
 iI _:=by simp[I.aK]
 agg _:=rfl
instance:Enc UInt8 where
 enc b:=.int .u8 b.toNat
 sz:=1
 aK:=.one
 gw:=false
 done _:=rfl
 size _:=by simp[I.size]
 iI _:=by simp[I.aK]
 agg _:=rfl
def ay.l(s:ay):List UInt8:=s.b.data.toList
def ay.of(l:List UInt8):ay:=⟨⟨l.toArray⟩⟩
theorem ay.vH(s:ay):ay.of s.l=s:=by obtain ⟨⟨⟨l⟩⟩⟩:=s;rfl
theorem ay.dI(l:List UInt8):(ay.of l).l=l:=rfl
theorem ay.MB{s t:ay}(h:s.l=t.l):s=t:=by rw[←ay.vH s,←ay.vH t,h]
theorem ay.sD{s t:List UInt8} : ay.of s=ay.of t↔s=t:=⟨fun h=>by rw[←ay.dI s,h,ay.dI],fun h=>by rw[h]⟩
theorem ay.size(s:ay):s.b.size=s.l.length:=Lib.size_eq s.b
theorem wU(s t:ByteArray):(s.toList==t.toList)=decide ((⟨s⟩:ay)=⟨t⟩):=by
 obtain ⟨⟨l⟩⟩:=s;obtain ⟨⟨m⟩⟩:=t;simp;by_cases h:l=m <;>simp[h]
def Et(a b:ay):ay:=⟨a.b++b.b⟩
theorem td(s:ay):enc s=I.ak s.b:=rfl
theorem Y2(a b:ay)(h:a.l.length+b.l.length≤9223372036854775807):bN .add (enc a) (enc b)=some (enc (Et a b)):=by
 rw[←ay.size,←ay.size] at h;simp only[td,bN,if_pos h,Et]
theorem wv(a b:ay):bN .eql (enc a) (enc b)=some (.bool (decide (a=b))):=by
 simp only[td,bN,wU]
theorem wy(a b:ay):bN .neq (enc a) (enc b)=some (.bool (!decide (a=b))):=by
 simp only[td,bN,wU]
theorem qn(a:ay):lT (enc a)=some (.int .i64 a.l.length):=by
 simp only[td,lT,ay.size]
theorem EA(a:ay){i:Nat}(h:i<a.l.length):ep .dK [enc a,.int .i64 (i:Int)]=some (.int .u8 (a.l[i].toNat:Int)):=by
 show (if 0≤(i:Int) then (a.b.data.toList[(i:Int).toNat]?).map fun b=>I.int .u8 b.toNat else none)=_
 rw[if_pos (by omega),Int.toNat_natCast,zz0 (show i<a.b.data.toList.length from h)];rfl
theorem Am(s:ByteArray)(i j:Nat):(⟨s.extract i j⟩:ay)=ay.of ((s.data.toList.drop i).take (j-i)):=ay.MB (Lib.extract_data s i j)
theorem wA(a:ay){i:Nat}(h2:i≤a.l.length):ep (.ss true false) [enc a,.int .i64 (i:Int)]=some (enc (ay.of (a.l.drop i))):=by
 show (if 0≤(i:Int)∧(i:Int)≤a.b.size then some (I.ak (a.b.extract (i:Int).toNat a.b.size)) else none)=_
 rw[if_pos ⟨by omega,by rw[ay.size];omega⟩,Int.toNat_natCast];refine (congrArg (fun s:ay=>some (enc s)) (Am a.b i a.b.size)).trans ?_;rw[ay.size,List.take_of_length_le (by simp[ay.l])];rfl
theorem qo(a:ay){j:Nat}(h2:j≤a.l.length):ep (.ss false true) [enc a,.int .i64 (j:Int)]=some (enc (ay.of (a.l.take j))):=by
 show (if 0≤(j:Int)∧(j:Int)≤a.b.size then some (I.ak (a.b.extract 0 (j:Int).toNat)) else none)=_
 rw[if_pos ⟨by omega,by rw[ay.size];omega⟩,Int.toNat_natCast];exact congrArg (fun s:ay=>some (enc s)) (Am a.b 0 j)
theorem Ew(n:Int):gr 1 (some [.int .u8 n])=some (.slice 1 [.int .u8 n]):=by
 simp[gr,I.size,I.cq,I.bz]
theorem Ev(A:ab)(n:Int):kT (cT A 1 (.slice 1 [.int .u8 n]))=some (enc (ay.of [UInt8.ofNat n.toNat])):=rfl
theorem qp(b:UInt8):enc b=I.int .u8 (b.toNat:Int):=rfl
theorem Ez(s:ay):lB (enc s)=some (s.l.map enc):=rfl
theorem Es{A:ab}{d:Nat}{k:ab→b9}{l:List UInt8}(hd:A.o d=none) :
  ∃ p:Nat→Prop,ig A (some d) k (some (l.map enc))=.any p fun m=>k ((A.aS d (.box (.agg ((l++List.replicate m 0).map enc)))).aP (some d) (.view d [] 1 0 l.length)):=by
 refine ⟨fun m=>(l.map enc).length+m≤maxLen,?_⟩;have e:∀ m,(l++List.replicate m (0:UInt8)).map enc=l.map enc++List.replicate m (I.int .u8 0):=fun m=>by
  rw[zy7,List.map_replicate];rfl
 simp only[ig,hd,e,Z2]
theorem aZ.eN{P:Program}{Y:Value→List I→List (Nat×ai)→cd→Prop}{K:ab→Prop}{ts:List (Nat×I)}{os:List (Nat×ai)}{d:Nat}{rest:List az}{l:List UInt8}(hd:aE os d=none)
  (h:∀ m,aZ P Y false K (av rest (aq ((d,.view d [] 1 0 l.length)::ts) ((d,.box (.agg ((l++List.replicate m 0).map enc)))::os)))):aZ P Y false K (ig (aq ts os) (some d) (av rest) (some (l.map enc))):=by
 obtain ⟨p,e⟩:=Es (A:=aq ts os) (k:=av rest) (l:=l) hd;rw[e];exact .any rfl fun m _=>h m
theorem Ar{A:ab}{n:Nat}{l q:List UInt8}(h:A.o n=some (.box (.agg ((l++q).map enc)))):bd true A (.view n [] 1 0 l.length)=some (enc l):=by
 have h1:bd true A (.view n [] 1 0 l.length)=jk 1 0 l.length (some ((l++q).map enc)):=by
  rw[uT,h];rfl
 have e:jk 1 0 l.length (some ((l++q).map enc))=some (enc ((l++q).take l.length)):=mE rfl;rw[h1,e,List.take_left]
theorem bM.eN{P:Program}{Y:Value→List I→List (Nat×ai)→cd→Prop}{hs:List FuncId}{K:ab→Prop}{ts:List (Nat×I)}{os:List (Nat×ai)}{d:Nat}{rest:List az}{l:List UInt8}(hd:aE os d=none)
  (h:∀ m,bM P Y hs K (av rest (aq ((d,.view d [] 1 0 l.length)::ts) ((d,.box (.agg ((l++List.replicate m 0).map enc)))::os)))):bM P Y hs K (ig (aq ts os) (some d) (av rest) (some (l.map enc))):=by
 obtain ⟨p,e⟩:=Es (A:=aq ts os) (k:=av rest) (l:=l) hd;rw[e];exact .any fun m _=>h m
theorem Ey(a:ay):b8 none (enc a)=true:=rfl
theorem bu :
  (∀ d rest A p xs,bq A d (.prim p xs) rest=cm (ep p (xs.map (af A))) (cE d rest A))∧(∀ d rest A x,bq A d (.b2s x) rest=cm (kT (cT A 1 (af A x))) (cE d rest A)) ∧
  (∀ b,ep (.mN b) [.cQ]=some (.bool (!b)))∧(∀ b t v,ep (.mN b) [.iface t v]=some (.bool b))∧(type_of% @wv)∧(type_of% @wy)∧(type_of% @qn)∧(type_of% @Ew)∧(type_of% @Ev)∧(type_of% @Ey)∧(∀ d rest A x,bq A d (.eN x) rest=ig A d (av rest) (lB (af A x)))∧(type_of% @Ez)∧(∀ a b,ep .min2 [.int .i64 a,.int .i64 b]=some (.int .i64 (if b<a then b else a))) ∧
  (∀ a b,bN .eql (.int .u8 a) (.int .u8 b)=some (.bool (a==b)))∧(∀ a b,bN .neq (.int .u8 a) (.int .u8 b)=some (.bool (a != b)))∧(∀ a b,bN .lss (.int .u8 a) (.int .u8 b)=some (.bool (decide (a<b))))∧(∀ a b,bN .gtr (.int .u8 a) (.int .u8 b)=some (.bool (decide (a>b)))) ∧
  (∀ a b,bN .leq (.int .u8 a) (.int .u8 b)=some (.bool (decide (a≤b))))∧(∀ a b,bN .geq (.int .u8 a) (.int .u8 b)=some (.bool (decide (a≥b))))∧(∀ a b,bN .sub (.int .u8 a) (.int .u8 b)=some (.int .u8 (IntKind.u8.wrap (a-b)))) :=
 ⟨fun _ _ _ _ _=>rfl,fun _ _ _ _=>rfl,fun _=>rfl,fun _ _ _=>rfl,wv,wy,qn,Ew,Ev,Ey,fun _ _ _ _=>rfl,Ez,fun _ _=>rfl,fun _ _=>rfl,fun _ _=>rfl,fun _ _=>rfl,fun _ _=>rfl,fun _ _=>rfl,fun _ _=>rfl,fun _ _=>rfl⟩
end Go.Abs
namespace Go.Abs
open Go
open Enc (enc)
def jj(c:UInt8)(gW:Bool):List UInt8→List (List UInt8)
 | []=>[[]]
 |b::l=>if b=c then (if gW then [b] else [])::jj c gW l else match jj c gW l with
  |h::t=>(b::h)::t
  | []=>[[b]]
theorem Ll(c:UInt8)(gW:Bool)(l:List UInt8):jj c gW l≠[]:=by
 cases l with
 |nil=>simp[jj]
 |cons b l =>
  simp only[jj];split
  ·simp
  ·split <;>simp
theorem zR{c:UInt8}{gW:Bool} : ∀ {l:List UInt8},(∀ b∈l,b≠c)→jj c gW l=[l]
 | [],_=>rfl
 |b::l,h=>by
  simp only[jj,if_neg (h b (by simp)),zR (l:=l) fun x hx=>h x (by simp[hx])]
theorem zQ{c:UInt8}{gW:Bool} : ∀ {x:List UInt8} (y:List UInt8),(∀ b∈x,b≠c)→jj c gW (x++c::y)=(x++if gW then [c] else [])::jj c gW y
 | [],y,_=>by cases gW <;>simp[jj]
 |b::x,y,h=>by
  simp only[zz2,jj,if_neg (h b (by simp)),zQ (x:=x) y fun z hz=>h z (by simp[hz])]
theorem zU{u:Nat}(h:¬ u<10):Lib.decDigits u=Lib.decDigits (u / 10)++[UInt8.ofNat (48+u%10)]:=by
 rw[Lib.decDigits,dif_neg h]
theorem wK{α:Type}[Enc α](A:ab){l:List α}{esz:Nat}{k:Nat}(hs:Enc.sz α=esz)(h:k≤l.length):gB A esz none (some (.int .i64 (k:Int))) none (enc l)=some (enc (l.take k)):=by
 simp only[gB,gI,hs,if_true,gV,gq,Z2];rw[if_pos (by omega)];simp only[Option.isSome_none,Z4,false_and,if_false,Int.toNat_natCast,Int.toNat_zero,List.drop_zero];rw[List.map_take]
end Go.Abs
namespace Go.Abs
open Go Go.Shelf Go.Proofs
open Enc (enc)
theorem GL{w:World}{D:aJ}{x y:ay}{vs:List Value}(hv:ar w D cu [enc x,enc y] vs):vs=[.string x.b,.string y.b]:=by
 have hv':ar w D cu [.ak x.b,.ak y.b] vs:=hv;simp only[ar] at hv';obtain ⟨v,rest,cs,rfl,h1,h2,v2,rest2,cs2,rfl,h3,h4,rfl⟩:=hv';rw[(fS (fB h1 h2)).1,(fS (fB h3 h4)).1]
theorem Li{P:Program}{ρ:Ren}(au:Lays.n104 P ρ)(hc:dR P (ρ.f 104)=true)(s p:ay):aQ P (ρ.f 104) [enc s,enc p] (.tuple [enc (ay.of (Lib.trimSuffix s.l p.l)),enc (Lib.hasSuffix s.l p.l)]):=by
 refine ⟨hc,fun w D vs hl hD hv =>?_⟩;have hsz:s.b.size≤maxLen:=by
  have hv':ar w D cu [.ak s.b,.ak p.b] vs:=hv;simp only[ar] at hv';obtain ⟨v,rest,cs,rfl,h1,h2,_⟩:=hv';exact (fS (fB h1 h2)).2
 rw[GL hv];refine (Any.strings_CutSuffix au s.b p.b w (by unfold maxLen at hsz;omega)).mono ?_;rintro e w' ⟨rfl,rfl⟩;refine ⟨_,D,rfl,⟨[_,_],rfl,?_⟩,Go.RowKit.Below.refl _ w',hD,fun _ _ h _=>h⟩;simp only[ar];refine ⟨_,_,[_],rfl,by simp[ba,I.isAgg,enc];rfl,?_,_,_,[_],rfl,by simp[ba,I.isAgg,enc];rfl,?_,rfl⟩
 ·show ae _ _ _ (.ak _) _
  simp only[ae];refine ⟨rfl,?_⟩
  show (Lib.trimSuffix s.l p.l).toArray.size≤maxLen
  have h1:(Lib.trimSuffix s.l p.l).length≤s.l.length:=by unfold Lib.trimSuffix;split <;>simp
  rw[ay.size] at hsz;simp only[List.size_toArray];omega
 ·show ae _ _ _ (.bool _) _
  simp only[ae];rfl
def gH(T:TypeId)(l:List UInt8):I:=match Lib.atoiAll l with
 | .ok v=>.tuple [enc v,.cQ]
 | .range=>.tuple [enc (Lib.atoiSat l),.iface T .any]
 | _ =>.tuple [enc (0:Int),.iface T .any]
theorem Lg {P : Program} {ρ : Ren} (au : LaysC.n172 P ρ) (hc : dR P (ρ.f 172) = true) (g1 : P.globalNamed "strconv.ErrSyntax" = some (ρ.g 15)) (g2 : P.globalNamed "strconv.ErrRange" = some (ρ.g 16)) {T : TypeId} (hT : ρ.t 168 = T) (s : ay) (hs : s.l.length ≤ 281474976710656) : aQ P (ρ.f 172) [enc s] (gH T s.l) := by
 refine ⟨hc,fun w D vs hl hD hv =>?_⟩;subst hT;have hv':ar w D cu [.ak s.b] vs:=hv;simp only[ar] at hv';obtain ⟨v,rest,cs,rfl,h1,h2,rfl⟩:=hv';rw[(fS (fB h1 h2)).1];rw[←ay.size] at hs;obtain ⟨_, hv1, t1, p1, rfl⟩ := hl.rN (n := "strconv.ErrSyntax") (k := .nV) (by simp [mJ]) g1
 obtain ⟨_, hv2, t2, p2, rfl⟩ := hl.rN (n := "strconv.ErrRange") (k := .nV) (by simp [mJ]) g2
 have fail:∀ (n:Int) (w':World) (N:Nat),IntKind.i64.min≤n∧n≤IntKind.i64.max→Go.RowKit.Below w.heap.size w w' →
   ∃ v D',(Ending.returned (.tuple #[.int .i64 n,.iface (ρ.t 168) (.pointer (some ⟨N,0,none⟩))])=.returned v)∧aR w' D' cu (.tuple [enc n,.iface (ρ.t 168) .any]) v∧Go.RowKit.Below w.heap.size w w'∧(∀ b o,D' b o→b<w'.heap.size)∧∀ b o,D' b o→b<w.heap.size→D b o:=by
  intro n w' N hn hb;refine ⟨_,D,rfl,⟨[_,_],rfl,?_⟩,hb,fun b o hd=>zx8 (hD b o hd) hb.size,fun _ _ h _=>h⟩;simp only[ar];refine ⟨_,_,[_],rfl,by simp[ba,I.isAgg,enc];rfl,?_,_,_,[_],rfl,by simp[ba,I.isAgg];rfl,?_,rfl⟩
  ·show ae _ _ _ (.int .i64 n) _
   simp only[ae,true_and];exact hn
  ·simp only[ae];exact ⟨_,[_],rfl,by simp[ba,I.isAgg];rfl,_,rfl,rfl⟩
 have hmin:IntKind.i64.min=-9223372036854775808:=by decide
 have hmax:IntKind.i64.max=9223372036854775807:=by decide
 cases hr:Lib.atoiAll s.b.data.toList with
 |ok n =>
  refine (Any.strconv_Atoi_ok au s.b (by omega) n hr w).mono ?_;rintro e w' ⟨rfl,hw⟩;have hb:Go.RowKit.Below w.heap.size w w':=by
   rcases hw with rfl | ⟨t,rfl⟩
   ·exact Go.RowKit.Below.refl _ _
   ·exact Lib.bytesWorld_below _ _ _
  have hn:=Lib.atoiAll_bounds hr;have e0:gH (ρ.t 168) s.l=.tuple [enc n,.cQ]:=by
   show gH (ρ.t 168) s.b.data.toList=_
   simp only[gH,hr]
  rw[e0];refine ⟨_,D,rfl,⟨[_,_],rfl,?_⟩,hb,fun b o hd=>zx8 (hD b o hd) hb.size,fun _ _ h _=>h⟩;simp only[ar];refine ⟨_,_,[_],rfl,by simp[ba,I.isAgg,enc];rfl,?_,_,_,[_],rfl,by simp[ba,I.isAgg];rfl,?_,rfl⟩
  ·show ae _ _ _ (.int .i64 n) _
   simp only[ae,true_and];rw[hmin,hmax];omega
  ·simp only[ae]
 |range =>
  have e0:gH (ρ.t 168) s.l=.tuple [enc (Lib.atoiSat s.l),.iface (ρ.t 168) .any]:=by
   show gH (ρ.t 168) s.b.data.toList=_
   simp only[gH,hr];rfl
  rw[e0];refine (Any.strconv_Atoi_range_var au s.b hs hr t2 p2 w hv2).mono ?_;rintro e w' ⟨N,rfl,_,_,hb⟩;have hn:=Lib.atoiSat_bounds s.b.data.toList;exact fail _ w' N (by rw[hmin,hmax];exact hn) hb
 | _ =>
  have e0:gH (ρ.t 168) s.l=.tuple [enc (0:Int),.iface (ρ.t 168) .any]:=by
   show gH (ρ.t 168) s.b.data.toList=_
   simp only[gH,hr]
  rw[e0];refine (Any.strconv_Atoi_syntax_var au s.b hs hr t1 p1 w hv1).mono ?_;rintro e w' ⟨N,rfl,_,_,hb⟩;exact fail 0 w' N (by rw[hmin,hmax];omega) hb
end Go.Abs
namespace Go.Abs
open Go Go.Shelf Go.Proofs
open Enc (enc)
def vh(n:Int):ay:=ay.of (Lib.itoa n)
open Go.Sort Go.RowKit in
theorem ub(w:World)(k:Nat)(os:Array Obj):Go.RowKit.Below w.heap.size w (grow (w.drewN k) os) :=
 ⟨rfl,rfl,rfl,by simp,fun i hi=>by rw[heap_grow_old _ _ (by simpa using hi)];rfl⟩
theorem Lk{P:Program}{ρ:Ren}(au:LaysM.n171 P ρ)(hc:dR P (ρ.f 171)=true){g:Nat}(hg:P.globalNamed r4=some g)(n:Int):aQ P (ρ.f 171) [enc n] (enc (vh n)):=by
 refine ⟨hc,fun w D vs hl hD hv =>?_⟩;have hv':ar w D cu [.int .i64 n] vs:=hv;simp only[ar] at hv';obtain ⟨v,rest,cs,rfl,h1,h2,rfl⟩:=hv';obtain ⟨rfl,h3,h4⟩:=dk (fB h1 h2);have h3':-9223372036854775808≤n:=h3;have h4':n≤9223372036854775807:=h4;obtain ⟨_,htab,rfl⟩:=hl.rN (n:=r4) (k:=.sN) (by simp[mJ]) hg;refine (Any.strconv_Itoa au n h3' h4' w htab).mono ?_;rintro e w' ⟨rfl,k,os,rfl⟩;refine ⟨_,D,rfl,⟨[.string ⟨(Lib.itoa n).toArray⟩],by simp[ba,I.isAgg,enc],?_⟩,ub w k os,fun b o hd=>zx8 (hD b o hd) (ub w k os).size,fun _ _ h _=>h⟩;have hlen:=Lib.itoa_length_le n h3' h4'
 show ae _ _ _ (.ak _) _
 simp only[ae];refine ⟨rfl,?_⟩
 show (Lib.itoa n).toArray.size≤maxLen
 simp only[List.size_toArray,maxLen];omega
theorem wT{w:World}{D:aJ}{s:ay}{p:List I}{vs:List Value}(hv:ar w D cu (enc s::p) vs):∃ rest,vs=.string s.b::rest∧s.b.size≤maxLen∧ar w D cu p rest:=by
 have hv':ar w D cu (.ak s.b::p) vs:=hv;simp only[ar] at hv';obtain ⟨v,rest,cs,rfl,h1,h2,h3⟩:=hv';obtain ⟨rfl,h4⟩:=fS (fB h1 h2);exact ⟨rest,rfl,h4,h3⟩
theorem Em{w:World}{D:aJ}{E:aN}{l:List UInt8}(h:l.length≤maxLen):aR w D E (enc (ay.of l)) (.string ⟨l.toArray⟩):=by
 refine ⟨[.string ⟨l.toArray⟩],by simp[ba,I.isAgg,enc,ay.of],?_⟩
 show ae _ _ _ (.ak _) _
 simp only[ae];exact ⟨rfl,by show l.toArray.size≤maxLen;simpa using h⟩
theorem Lj{P:Program}{ρ:Ren}(au:Lays.n137 P ρ)(hc:dR P (ρ.f 137)=true)(s:ay)(c:UInt8):aQ P (ρ.f 137) [enc s,.int .u8 c.toNat] (enc (Lib.indexByte s.l c)):=by
 refine ⟨hc,fun w D vs hl hD hv =>?_⟩;obtain ⟨rest,rfl,hsz,hv2⟩:=wT hv;simp only[ar] at hv2;obtain ⟨v,rest2,cs,rfl,h1,h2,rfl⟩:=hv2;obtain ⟨rfl,_⟩:=dk (fB h1 h2);have key:=Any.strings_IndexByte au s.b (c.toNat:Int) w;have hcc:((c.toNat:Int)).toNat.toUInt8=c:=by simp
 rw[hcc] at key;refine Calls.mono key ?_;rintro e w' ⟨rfl,rfl⟩;refine ⟨_,D,rfl,⟨[_],by simp[ba,I.isAgg,enc];rfl,?_⟩,Go.RowKit.Below.refl _ w',hD,fun _ _ h _=>h⟩
 show ae _ _ _ (.int .i64 (Lib.indexByte s.l c)) _
 simp only[ae];refine ⟨rfl,?_⟩;have g1:=Lib.indexByte_ge s.l c;have g2:∀ l:List UInt8,Lib.indexByte l c≤l.length:=by
  intro l
  induction l with
  |nil=>simp[Lib.indexByte]
  |cons b l ih =>
   unfold Lib.indexByte
   (repeat' split) <;>simp only[zx0] <;>omega
 have g3:=g2 s.l;rw[ay.size] at hsz;have hmin:IntKind.i64.min=-9223372036854775808:=by decide
 have hmax:IntKind.i64.max=9223372036854775807:=by decide
 unfold maxLen at hsz;rw[hmin,hmax];omega
theorem Lh{P:Program}{ρ:Ren}(au:LaysM.n316 P ρ)(hc:dR P (ρ.f 316)=true)(s:ay)(hs:s.l.length≤281474976710656):aQ P (ρ.f 316) [enc s] (enc s):=by
 refine ⟨hc,fun w D vs hl hD hv =>?_⟩;obtain ⟨rest,rfl,hsz,hv2⟩:=wT hv;simp only[ar] at hv2;subst hv2;refine (Any.stringslite_Clone au s.b w (by rw[ay.size];exact hs)).mono ?_;rintro e w' ⟨rfl,hb⟩;refine ⟨_,D,rfl,⟨[_],by simp[ba,I.isAgg,enc];rfl,?_⟩,hb,fun b o hd=>zx8 (hD b o hd) hb.size,fun _ _ h _=>h⟩
 show ae _ _ _ (.ak s.b) _
 simp only[ae,true_and];exact hsz
end Go.Abs
namespace Go.Abs
open Go
theorem zV:∀ (k n:Nat),n<10^(k+1)→(Lib.decDigits n).length≤k+1
 |0,n,h=>by rw[Lib.decDigits_one (by omega)];simp
 |k+1,n,h=>by
  by_cases q:n<10
  ·rw[Lib.decDigits_one q];simp
  ·rw[zU q,Z1];have:=zV k (n / 10) (by rw[Nat.pow_succ] at h;omega);simp only[zx0,zx1];omega
theorem pN{k:Nat}{n:Int}(h:0≤n∧n<((10^(k+1):Nat):Int)):(Lib.itoa n).length≤k+1:=by
 obtain ⟨m,rfl⟩:=zy1 h.1;rw[Lib.itoa_nonneg];exact zV k m (by omega)
end Go.Abs
namespace Go.Abs
open Go Go.RowKit
open Enc (enc)
def r3:Option Nat→Code
 |none=>.ret
 |some id=>.exit id
def uK:Option Nat→Exit
 |none=>.ret
 |some id=>.exit id
def oT(o:Obj)(A:ab)(os:List (Nat×ai)):Prop:=∀ n x,aE (bX o os) n=some x→A.o n=some x∧x.only (al (bX o os))=true∧x.ej=true
def Ee(o:Obj)(In:List (Nat×ai)→Prop)(Ix:Option Nat→List (Nat×ai)→Prop):Exit→ab→Prop
 | .normal,A=>∃ os,oT o A os∧In os
 | .ret,A=>∃ os,oT o A os∧Ix none os
 | .exit id,A=>∃ os,oT o A os∧Ix (some id) os
 |_,_=>False
section
variable {c:cn} {Q:Exit→ab→Prop}
theorem VP{o:Obj}{A:ab}{os:List (Nat×ai)}(h:oT o A os)(o':Obj):∀ n x,aE (bX o' os) n=some x→(A.aS 1999999 (.c6 o')).o n=some x∧x.only (al (bX o' os))=true∧x.ej=true:=fun n x hx=>by
 have e:al (bX o' os)=al (bX o os):=by funext m;rw[jN,jN]
 rw[e];by_cases hn:n=1999999
 ·subst hn;rw[oo,if_pos rfl,v6] at hx;subst hx;exact ⟨by simp[ab.aS],rfl,rfl⟩
 ·rw[oo,if_neg hn] at hx;obtain ⟨h1,h2⟩:=h n x (by rw[oo,if_neg hn];exact hx);exact ⟨by simp only[ab.aS,if_neg hn];exact h1,h2⟩
end
mutual
theorem mY{ρ:Nat→Nat}(h:∀ n,ρ n=n):∀ x:I,x.aO ρ=x
 | .agg fs | .tuple fs=>by simp only[I.aO];rw[ly h fs]
 | .slice _ es=>by simp only[I.aO];rw[ly h es]
 | .ref x=>by simp only[I.aO];rw[mY h x]
 | .func _ caps=>by simp only[I.aO];rw[ly h caps]
 | .iface _ v=>by simp only[I.aO];rw[mY h v]
 | .ptr _ _ | .own _ _ | .view _ _ _ _ _ | .mref _ | .cU _=>by simp only[I.aO,h]
 | .cY ks vs=>by simp only[I.aO];rw[ly h ks,ly h vs]
 | .bool _ | .int _ _ | .ak _ | .nilp | .c8 | .cQ | .any | .raw _ | .nils _ | .c0 _ | .undef | .cV=>by simp only[I.aO]
theorem ly{ρ:Nat→Nat}(h:∀ n,ρ n=n):∀ xs:List I,I.cS ρ xs=xs
 | []=>rfl
 |x::xs=>by simp only[I.cS];rw[mY h x,ly h xs]
end
theorem ai.mY{ρ:Nat→Nat}(h:∀ n,ρ n=n):∀ x:ai,x.aO ρ=x
 | .box x=>by simp only[ai.aO,Abs.mY h]
 | .bQ _ _ es=>by simp only[ai.aO,ly h]
 | .c6 _=>rfl
 | .dL _ _=>rfl
 | .cg _ _=>by simp only[ai.aO,ly h]
 | .it _ _ _ _=>by simp only[ai.aO,ly h]
theorem YE(os:List (Nat×ai)):cL [] os=os:=by
 simp only[cL];have:(fun q:Nat×ai=>(bg [] q.1,q.2.aO (bg [])))=id:=by
  funext q
  rw[ai.mY (ρ:=bg []) (fun n=>rfl)];rfl
 rw[this,List.map_id]
theorem BR(a b:List (Nat×ai))(n:Nat):aE (a++b) n=match aE a n with
  |some x=>some x
  |none=>aE b n:=by
 induction a with
 |nil=>rfl
 |cons q a ih =>
  obtain ⟨k,v⟩:=q;simp only[zz2,aE];split
  ·rfl
  ·exact ih
theorem fw.none{os os':List (Nat×ai)}(h:fw os os'){n:Nat}(hn:n<1000000):aE os' n=none:=by
 cases hx:aE os' n with
 |none=>rfl
 |some x =>
  have h1:al os' n=true:=by simp[al,hx]
  rw[h.same] at h1;exact absurd (h.lR n h1) (by omega)
theorem bl.slots{ts ts':List (Nat×I)}{os os':List (Nat×ai)}(h1:bG ts ts')(h2:∀ n,aE os n=aE os' n):bl (aq ts os) (aq ts' os'):=by
 have e:aq ts os=aq ts os':=by
  simp only[aq];congr 1;funext n;exact h2 n
 rw[e];rintro c a w ⟨D,E,hs⟩;refine ⟨D,E,hs.sz,hs.eb,fun t =>?_,hs.de,hs.cK,hs.cO,hs.bB,hs.cz,hs.dw,hs.eD,hs.cA,hs.eS,hs.ft⟩;rcases wV h1 t with h | h
 ·simp only[aq];rw[h];simp[aR]
 ·have:=hs.dF t;simp only[aq] at *;rw[h];exact this
theorem xU{os osk os2 ow:List (Nat×ai)}{ts:List (Nat×I)}(h1:fw os osk)(h2:fw os os2)(how:∀ m,al ow m=true→m<1000000):aq ts (cL [] os2++(ow++osk))=aq ts (ow++os2):=by
 simp only[aq,YE]
 congr 1
 funext n
 simp only[BR];cases hw:aE ow n with
 |none =>
  simp only;cases h3:aE os2 n with
  |some x=>rfl
  |none =>
   simp only;cases h4:aE osk n with
   |none=>rfl
   |some x =>
    have h5:al osk n=true:=by simp[al,h4]
    rw[h1.same,←h2.same] at h5;simp[al,h3] at h5
 |some x =>
  simp only;rw[h2.none (how n (by simp[al,hw]))]
theorem eP.jL{os osk ow:List (Nat×ai)}(h1:fw os osk)(how:∀ m,al ow m=true→m<1000000):eP [] osk (ow++osk):=by
 refine ⟨fun m x hx =>?_,fun m m' _ _ h=>h⟩;have hm:al osk m=true:=by simp[al,hx]
 have hg:=h1.lR m (by rw[←h1.same];exact hm);obtain ⟨k1,k2⟩:=h1.ok m x hx;refine ⟨?_,k1,k2⟩;rw[ai.mY (ρ:=bg []) (fun n=>rfl)];simp only[bg,BR];cases hw:aE ow m with
 |none=>exact hx
 |some y=>have:=how m (by simp[al,hw]);omega
theorem df.jL{os osk os2 os0:List (Nat×ai)}{r:I}(h1:fw os osk)(h2:fw os os2)(hr:r.bz=true):df false [] osk os0 r os2:=by
 refine ⟨fun m x hx=>⟨(h2.ok m x hx).1,(h2.ok m x hx).2,fun h=>by cases h⟩,fun m m' _ _ h=>h,fun m hm=>by rw[h2.same,←h1.same];exact hm,fun m h3 h4 =>?_,lY _ r hr,fun h=>by cases h⟩;rw[h2.same,←h1.same,h4] at h3;cases h3
theorem aZ.ZN{P:Program}{Y:Value→List I→List (Nat×ai)→cd→Prop}{K:ab→Prop}{v:Value}{vs:List I}{dst:Option Nat}{rest:List az}{ts:List (Nat×I)}{os osk ow:List (Nat×ai)}{In Ix:List (Nat×ai)→Prop}
  (hY:Y v vs osk (fun r os2=>(r=.bool true∧In os2)∨(r=.bool false∧Ix os2))) (hk:fw os osk) (hi:∀ os',In os'→fw os os') (hx:∀ os',Ix os'→fw os os') (hcl:I.cq vs=true) (how:∀ m,al ow m=true→m<1000000)
  (h1:∀ os2,In os2→aZ P Y false K (av rest ((aq ts (ow++os2)).aP dst (.bool true)))) (h2:∀ os2,Ix os2→aZ P Y false K (av rest ((aq ts (ow++os2)).aP dst (.bool false)))) :
  aZ P Y false K (.kY v vs dst rest (aq ts (ow++osk))):=by
 refine .tC osk vs _ rfl hY (eP.jL hk how) (xO vs hcl) ?_ ?_
 ·rintro r os' (⟨rfl,h⟩ | ⟨rfl,h⟩)
  ·exact df.jL hk (hi _ h) rfl
  ·exact df.jL hk (hx _ h) rfl
 ·rintro r os' (⟨rfl,h⟩ | ⟨rfl,h⟩)
  ·rw[xU hk (hi _ h) how];exact h1 os' h
  ·rw[xU hk (hx _ h) how];exact h2 os' h
theorem IJ(A:ab)(d:Option Nat)(args:List I)(rest:List az)(v:Value):po A d args rest (.raw v)=.kY v args d rest A:=rfl
end Go.Abs
namespace Go.Proofs.YtoffnnjbplgnaaaGreatDoor
open Go Go.Abs
open Go.Abs.Enc (enc)
structure Item where
 aM:Int
 no:Int
 deriving DecidableEq,Inhabited
instance:Enc Item where
 enc x:=.agg [.int .i64 x.aM,.int .i64 x.no]
 sz:=2
 aK:=.eL [.one,.one]
 gw:=true
 done _:=rfl
 size _:=by simp[I.size,I.sizes]
 iI _:=by simp[I.aK,I.cF]
 agg _:=rfl
structure ah where
 aM:Int
 no:Int
 kind:Int
 ea:Int
 known:Int
 fq:Int
 fC:Int
 text:List UInt8
 deriving DecidableEq,Inhabited
def ah.aY(r:ah):Item:=⟨r.aM,r.no⟩
def ah.gf(r:ah):Item:=⟨r.fq,r.fC⟩
instance:Enc ah where
 enc r:=.agg [enc r.aY,.int .i64 r.kind,.int .i64 r.ea,.int .i64 r.known,enc r.gf,enc (ay.of r.text)]
 sz:=8
 aK:=.eL [.eL [.one,.one],.one,.one,.one,.eL [.one,.one],.one]
 gw:=true
 done e:=by simp only[I.done,I.iR,Enc.done,Bool.and_self]
 size e:=by simp only[I.size,I.sizes,lO];rfl
 iI e:=by simp only[I.aK,I.cF,eK];rfl
 agg _:=rfl
structure dh where
 bT:List UInt8
 ev:List UInt8
 deriving DecidableEq,Inhabited
instance:Enc dh where
 enc r:=.agg [enc (ay.of r.bT),enc (ay.of r.ev)]
 sz:=2
 aK:=.eL [.one,.one]
 gw:=true
 done e:=by simp only[I.done,I.iR,Enc.done,Bool.and_self]
 size e:=by simp only[I.size,I.sizes,lO];rfl
 iI e:=by simp only[I.aK,I.cF,eK];rfl
 agg _:=rfl
structure db where
 dn:dh
 copy:dh
 deriving DecidableEq,Inhabited
instance:Enc db where
 enc r:=.agg [enc r.dn,enc r.copy]
 sz:=4
 aK:=.eL [.eL [.one,.one],.eL [.one,.one]]
 gw:=true
 done e:=by simp only[I.done,I.iR,Enc.done,Bool.and_self]
 size e:=by simp only[I.size,I.sizes,lO];rfl
 iI e:=by simp only[I.aK,I.cF,eK];rfl
 agg _:=rfl
structure cN where
 l:List ah
 deriving DecidableEq,Inhabited
instance:Enc cN where
 enc b:=.agg [enc b.l]
 sz:=1
 aK:=.eL [.one]
 gw:=true
 done e:=by simp only[I.done,I.iR,Enc.done,Bool.and_self]
 size e:=by simp only[I.size,I.sizes,lO];rfl
 iI e:=by simp only[I.aK,I.cF,eK];rfl
 agg _:=rfl
theorem p8{fs:List I}{f off:Nat}{v:I}(h1:f<fs.length)(h:I.sizes (fs.take f)=off):fR fs f off v=some v:=by simp[fR,h,h1]
theorem Ml:Enc.sz Item=2:=rfl
theorem Mo:Enc.sz ay=1:=rfl
theorem Mn:Enc.sz dh=2:=rfl
theorem Ci(x:I)(fs:List I)(v:I):fR (x::fs) 0 0 v=some v:=p8 (by simp) (by simp[I.sizes])
theorem Cf(a b:Item)(n1 n2 n3:Int)(s:ay)(v:I) :
  (fR [enc a,.int .i64 n1,.int .i64 n2,.int .i64 n3,enc b,enc s] 1 2 v=some v)∧(fR [enc a,.int .i64 n1,.int .i64 n2,.int .i64 n3,enc b,enc s] 2 3 v=some v)∧(fR [enc a,.int .i64 n1,.int .i64 n2,.int .i64 n3,enc b,enc s] 3 4 v=some v) ∧
  (fR [enc a,.int .i64 n1,.int .i64 n2,.int .i64 n3,enc b,enc s] 4 5 v=some v)∧(fR [enc a,.int .i64 n1,.int .i64 n2,.int .i64 n3,enc b,enc s] 5 7 v=some v):=by
 refine ⟨?_,?_,?_,?_,?_⟩ <;>refine p8 (t8 rfl) ?_ <;>simp[I.sizes,I.size,lO,Ml]
theorem Ce(n1 n2:Int)(v:I):fR [.int .i64 n1,.int .i64 n2] 1 1 v=some v:=p8 (t8 rfl) (by simp[I.sizes,I.size])
theorem Ch(a b:ay)(v:I):fR [enc a,enc b] 1 1 v=some v:=p8 (t8 rfl) (by simp[I.sizes,lO,Mo])
theorem Cg(a b:dh)(v:I):fR [enc a,enc b] 1 2 v=some v:=p8 (t8 rfl) (by simp[I.sizes,lO,Mn])
theorem Fc :
  (∀ x:Item,(enc x).dc=some [.int .i64 x.aM,.int .i64 x.no])∧(∀ r:ah,(enc r).dc=some [enc r.aY,.int .i64 r.kind,.int .i64 r.ea,.int .i64 r.known,enc r.gf,enc (ay.of r.text)])∧(∀ r:dh,(enc r).dc=some [enc (ay.of r.bT),enc (ay.of r.ev)]) ∧
  (∀ r:db,(enc r).dc=some [enc r.dn,enc r.copy])∧(∀ b:cN,(enc b).dc=some [enc b.l])∧(type_of% @Ci)∧(type_of% @Cf)∧(type_of% @Ce)∧(type_of% @Ch)∧(type_of% @Cg) ∧
  (∀ x:Item,b8 (some 2) (enc x)=true)∧(∀ x:ah,b8 (some 8) (enc x)=true)∧(∀ x:dh,b8 (some 2) (enc x)=true)∧(∀ x:db,b8 (some 4) (enc x)=true)∧(∀ x:cN,b8 (some 1) (enc x)=true)∧(∀ x:ay,b8 none (enc x)=true)∧(∀ x:List ah,b8 none (enc x)=true) ∧
  (∀ r:ah,r.aY.aM=r.aM)∧(∀ r:ah,r.aY.no=r.no)∧(∀ r:ah,r.gf.aM=r.fq)∧(∀ r:ah,r.gf.no=r.fC) ∧
  (∀ (fs:List I) x,(x::fs)[0]?=some x)∧(∀ (fs:List I) x n,(x::fs)[n+1]?=fs[n]?)∧(∀ (fs:List I) x,(x::fs)[1]?=fs[0]?)∧(∀ (fs:List I) x,(x::fs)[2]?=fs[1]?)∧(∀ (fs:List I) x,(x::fs)[3]?=fs[2]?)∧(∀ (fs:List I) x,(x::fs)[4]?=fs[3]?)∧(∀ (fs:List I) x,(x::fs)[5]?=fs[4]?) :=
 ⟨fun _=>rfl,fun _=>rfl,fun _=>rfl,fun _=>rfl,fun _=>rfl,Ci,Cf,Ce,Ch,Cg,fun _=>by rw[iy];rfl,fun _=>by rw[iy];rfl,fun _=>by rw[iy];rfl,fun _=>by rw[iy];rfl,fun _=>by rw[iy];rfl,fun _=>rfl,fun _=>rfl,
  fun _=>rfl,fun _=>rfl,fun _=>rfl,fun _=>rfl,fun _ _=>rfl,fun _ _ _=>rfl,fun _ _=>rfl,fun _ _=>rfl,fun _ _=>rfl,fun _ _=>rfl,fun _ _=>rfl⟩
theorem uH(x y:Item):b7 (.aT [.i .i64,.i .i64]) (enc x) (enc y)=some (decide (x=y)):=by
 show b7 (.aT [.i .i64,.i .i64]) (.agg [.int .i64 x.aM,.int .i64 x.no]) (.agg [.int .i64 y.aM,.int .i64 y.no])=_
 have:x=y↔x.aM=y.aM∧x.no=y.no:=by cases x;cases y;simp
 simp[b7,gv,iu,this];rfl
theorem Ae(x y:ay):b7 .s (enc x) (enc y)=some (decide (x=y)):=by
 show b7 .s (.ak x.b) (.ak y.b)=_
 simp only[b7];exact congrArg some (wU _ _)
theorem Ac(x y:ah):b7 (.aT [.aT [.i .i64,.i .i64],.i .i64,.i .i64,.i .i64,.aT [.i .i64,.i .i64],.s]) (enc x) (enc y)=some (decide (x=y)):=by
 show b7 (.aT [.aT [.i .i64,.i .i64],.i .i64,.i .i64,.i .i64,.aT [.i .i64,.i .i64],.s]) (.agg [enc x.aY,.int .i64 x.kind,.int .i64 x.ea,.int .i64 x.known,enc x.gf,enc (ay.of x.text)]) (.agg [enc y.aY,.int .i64 y.kind,.int .i64 y.ea,.int .i64 y.known,enc y.gf,enc (ay.of y.text)])=_
 have:x=y↔x.aY=y.aY∧x.kind=y.kind∧x.ea=y.ea∧x.known=y.known∧x.gf=y.gf∧x.text=y.text:=by cases x;cases y;simp[ah.aY,ah.gf,and_assoc]
 rw[b7];simp only[gv,uH,Ae,ay.sD];simp[b7,iu,this];rfl
theorem uI(x y:dh):b7 (.aT [.s,.s]) (enc x) (enc y)=some (decide (x=y)):=by
 show b7 (.aT [.s,.s]) (.agg [enc (ay.of x.bT),enc (ay.of x.ev)]) (.agg [enc (ay.of y.bT),enc (ay.of y.ev)])=_
 have:x=y↔x.bT=y.bT∧x.ev=y.ev:=by cases x;cases y;simp
 rw[b7];simp only[gv,Ae,ay.sD];simp[iu,this]
theorem Ad(x y:db):b7 (.aT [.aT [.s,.s],.aT [.s,.s]]) (enc x) (enc y)=some (decide (x=y)):=by
 show b7 (.aT [.aT [.s,.s],.aT [.s,.s]]) (.agg [enc x.dn,enc x.copy]) (.agg [enc y.dn,enc y.copy])=_
 have:x=y↔x.dn=y.dn∧x.copy=y.copy:=by cases x;cases y;simp
 rw[b7];simp only[gv,uI];simp[iu,this]
theorem CA:(∀ r:ah,(enc r).at [0,0]=some (.int .i64 r.aM))∧(∀ r:ah,(enc r).at [0,1]=some (.int .i64 r.no))∧(∀ r:ah,(enc r).at [4,0]=some (.int .i64 r.fq))∧(∀ r:ah,(enc r).at [4,1]=some (.int .i64 r.fC))∧(∀ zs,fJ zs []=some zs) ∧
  (∀ (a b:Nat) (l:List Nat),[a]++(b::l)=a::b::l)∧(∀ (a b c:Nat) (l:List Nat),[a,b]++(c::l)=a::b::c::l) :=
 ⟨fun _=>rfl,fun _=>rfl,fun _=>rfl,fun _=>rfl,fun _=>rfl,fun _ _ _=>rfl,fun _ _ _ _=>rfl⟩
theorem aw:(type_of% @CA)∧(type_of% @Fc)∧(∀ {α:Type} [Enc α] (aI:Bool) (A:ab) (x:α),bd aI A (enc x)=some (enc x))∧(∀ {α:Type} [Enc α] (x:α),(enc x).cD=true)∧(type_of% @uH)∧(type_of% @Ac)∧(type_of% @uI)∧(type_of% @Ad)∧(type_of% @zE)∧(type_of% @jb)∧(type_of% @aX) :=
 ⟨CA,Fc,@iS,@e9,uH,Ac,uI,Ad,zE,jb,aX⟩
theorem eC{i n:Nat}(h:i<n):decide ((i:Int)<(n:Int))=true:=by simp;omega
theorem eV{i n:Nat}(h:¬ i<n):decide ((i:Int)<(n:Int))=false:=by simp;omega
theorem ew{i:Nat}(h:i<9223372036854775807):IntKind.i64.wrap ((i:Int)+1)=((i+1:Nat):Int):=by rw[dV _ (by omega) (by omega)];rfl
def en(lo hi n:Int):Bool:=decide (lo≤n)&&decide (n≤hi)
theorem me(n lo hi:Int):aQ Tryz.prog 128 [enc n,enc lo,enc hi] (enc (en lo hi n)):=by
 refine aQ.bO Tryz.func128 Hw IV Kh (t8 rfl) (fun hwf W0 bE E1 =>?_);simp only[ym,CS,bD,Z5,Nat.reduceAdd];have R:=aw
 repeat' ((first |(with_reducible refine .guard (fun hb =>?_) (fun hb =>?_) <;>try simp only[hb])|refine U.aC (by decide +kernel) rfl fun K hK =>?_|(refine .aA [0,1,2,6] hK ?_;clear hK K)|(with_reducible refine .done (hK _ ?_);clear hK K)|refine U.of rfl ?_|(with_reducible refine aj.aB (fun h =>?_) (fun h =>?_) <;>try simp only[h])) <;>try simp only[aD,R,simprocAttr])
 all_goals clear R
 all_goals (simp at *;simp_all[en])
 all_goals omega
theorem mg(n lo hi:Int):aQ Tryz.prog 82 [enc n,enc lo,enc hi] (enc (en lo hi n)):=by
 refine aQ.bO Tryz.func82 Io JD K1 (t8 rfl) (fun hwf W0 bE E1 =>?_);simp only[za,DE,bD,Z5,Nat.reduceAdd];have R:=aw
 repeat' ((first |(with_reducible refine .guard (fun hb =>?_) (fun hb =>?_) <;>try simp only[hb])|refine U.aC (by decide +kernel) rfl fun K hK =>?_|(refine .aA [0,1,2,6] hK ?_;clear hK K)|(with_reducible refine .done (hK _ ?_);clear hK K)|refine U.of rfl ?_|(with_reducible refine aj.aB (fun h =>?_) (fun h =>?_) <;>try simp only[h])) <;>try simp only[aD,R,simprocAttr])
 all_goals clear R
 all_goals (simp at *;simp_all[en])
 all_goals omega
theorem xb(n:Int):aQ Tryz.prog 105 [enc n] (enc (en 0 100000 n)):=by
 refine aQ.bO Tryz.func105 Hq IQ Kc (t8 rfl) (fun hwf W0 bE E1 =>?_);simp only[yi,CN,bD];have R:=aw
 repeat' ((first |refine U.aC (by decide +kernel) rfl fun K hK =>?_|refine .flat _ (me n 0 100000) rfl ?_|(refine .aA [0,2] hK ?_;clear hK K)|(with_reducible refine .done (hK _ ?_);clear hK K)|refine U.of rfl ?_|(with_reducible refine aj.aB (fun h =>?_) (fun h =>?_) <;>try simp only[h])) <;>try simp only[aD,R,simprocAttr])
 all_goals clear R
theorem xt(n:Int):aQ Tryz.prog 79 [enc n] (enc (en 0 1000002 n)):=by
 refine aQ.bO Tryz.func79 Ik JA KY (t8 rfl) (fun hwf W0 bE E1 =>?_);simp only[y8,DA,bD];have R:=aw
 repeat' ((first |refine U.aC (by decide +kernel) rfl fun K hK =>?_|refine .flat _ (me n 0 1000002) rfl ?_|(refine .aA [0,2] hK ?_;clear hK K)|(with_reducible refine .done (hK _ ?_);clear hK K)|refine U.of rfl ?_|(with_reducible refine aj.aB (fun h =>?_) (fun h =>?_) <;>try simp only[h])) <;>try simp only[aD,R,simprocAttr])
 all_goals clear R
def iC(x:Item):Bool:=en 0 5 x.aM&&en 0 9999 x.no
theorem xd(x:Item):aQ Tryz.prog 129 [enc x] (enc (iC x)):=by
 refine aQ.bO Tryz.func129 Hx IW Ki (t8 rfl) (fun hwf W0 bE E1 =>?_);simp only[yn,CT,bD];cases q:en 0 5 x.aM
 ·simp only[iC,q,Bool.false_and];have R:=y6 @q aw
  repeat' ((first |(with_reducible refine .guard (fun hb =>?_) (fun hb =>?_) <;>try simp only[hb])|refine U.aC (by decide +kernel) rfl fun K hK =>?_|refine .flat _ (me x.aM 0 5) rfl ?_|refine .flat _ (me x.no 0 9999) rfl ?_|(refine .aA [0,1,2] hK ?_;clear hK K)|(with_reducible refine .done (hK _ ?_);clear hK K)|refine U.of rfl ?_|(with_reducible refine aj.aB (fun h =>?_) (fun h =>?_) <;>try simp only[h])) <;>try simp only[aD,R,simprocAttr])
  all_goals clear R
 ·simp only[iC,q,Bool.true_and];have R:=y6 @q aw
  repeat' ((first |(with_reducible refine .guard (fun hb =>?_) (fun hb =>?_) <;>try simp only[hb])|refine U.aC (by decide +kernel) rfl fun K hK =>?_|refine .flat _ (me x.aM 0 5) rfl ?_|refine .flat _ (me x.no 0 9999) rfl ?_|(refine .aA [0,1,2] hK ?_;clear hK K)|(with_reducible refine .done (hK _ ?_);clear hK K)|refine U.of rfl ?_|(with_reducible refine aj.aB (fun h =>?_) (fun h =>?_) <;>try simp only[h])) <;>try simp only[aD,R,simprocAttr])
  all_goals clear R
theorem xu(x:Item):aQ Tryz.prog 85 [enc x] (enc (iC x)):=by
 refine aQ.bO Tryz.func85 Iq JF K3 (t8 rfl) (fun hwf W0 bE E1 =>?_);simp only[c85,DG,bD];cases q:en 0 5 x.aM
 ·simp only[iC,q,Bool.false_and];have R:=y6 @q aw
  repeat' ((first |(with_reducible refine .guard (fun hb =>?_) (fun hb =>?_) <;>try simp only[hb])|refine U.aC (by decide +kernel) rfl fun K hK =>?_|refine .flat _ (mg x.aM 0 5) rfl ?_|refine .flat _ (mg x.no 0 9999) rfl ?_|(refine .aA [0,1,2] hK ?_;clear hK K)|(with_reducible refine .done (hK _ ?_);clear hK K)|refine U.of rfl ?_|(with_reducible refine aj.aB (fun h =>?_) (fun h =>?_) <;>try simp only[h])) <;>try simp only[aD,R,simprocAttr])
  all_goals clear R
 ·simp only[iC,q,Bool.true_and];have R:=y6 @q aw
  repeat' ((first |(with_reducible refine .guard (fun hb =>?_) (fun hb =>?_) <;>try simp only[hb])|refine U.aC (by decide +kernel) rfl fun K hK =>?_|refine .flat _ (mg x.aM 0 5) rfl ?_|refine .flat _ (mg x.no 0 9999) rfl ?_|(refine .aA [0,1,2] hK ?_;clear hK K)|(with_reducible refine .done (hK _ ?_);clear hK K)|refine U.of rfl ?_|(with_reducible refine aj.aB (fun h =>?_) (fun h =>?_) <;>try simp only[h])) <;>try simp only[aD,R,simprocAttr])
  all_goals clear R
end Go.Proofs.YtoffnnjbplgnaaaGreatDoor
namespace Go.Proofs.YtoffnnjbplgnaaaGreatDoor
open Go Go.Abs Go.Shelf
open Go.Abs.Enc (enc)
def Wn:Go.Shelf.Ren:=⟨fun | 104=>125 | 211=>153 | 207=>169 | n=>n,fun | 9=>9 | 4=>4 | 24=>42 | 3=>3 | n=>n,fun | n=>n⟩
theorem Wm:Go.Proofs.Lays.n104 Tryz.prog Wn := {
 mixed:=by kernel_rfl
 f104:=Tryz.func125.trans (congrArg some (by kernel_rfl))
 f207:=Tryz.func169.trans (congrArg some (by kernel_rfl))
 f211:=Tryz.func153.trans (congrArg some (by kernel_rfl))
 t3:=Tryz.underlying3
 a3:=Tryz.isAgg3
 z3:=Tryz.sizeOf3
 v3:=Tryz.zeroValue3
 t4:=Tryz.underlying4
 a4:=Tryz.isAgg4
 z4:=Tryz.sizeOf4
 v4:=Tryz.zeroValue4
 t9:=Tryz.underlying9
 a9:=Tryz.isAgg9
 z9:=Tryz.sizeOf9
 v9:=Tryz.zeroValue9
 t24:=Tryz.underlying42
 a24:=Tryz.isAgg42
 z24:=Tryz.sizeOf42
 v24:=Tryz.zeroValue42 }
def BH:Go.Shelf.Ren:=⟨fun | 137=>123 | 217=>152 | 266=>168 | n=>n,fun | 9=>9 | 5=>5 | 3=>3 | n=>n,fun | n=>n⟩
theorem BG:Go.Proofs.Lays.n137 Tryz.prog BH := {
 mixed:=by kernel_rfl
 f137:=Tryz.func123.trans (congrArg some (by kernel_rfl))
 f217:=Tryz.func152.trans (congrArg some (by kernel_rfl))
 f266:=Tryz.func168.trans (congrArg some (by kernel_rfl))
 t3:=Tryz.underlying3
 a3:=Tryz.isAgg3
 z3:=Tryz.sizeOf3
 v3:=Tryz.zeroValue3
 t5:=Tryz.underlying5
 a5:=Tryz.isAgg5
 z5:=Tryz.sizeOf5
 v5:=Tryz.zeroValue5
 t9:=Tryz.underlying9
 a9:=Tryz.isAgg9
 z9:=Tryz.sizeOf9
 v9:=Tryz.zeroValue9 }
def Wi:Go.Shelf.Ren:=⟨fun | 172=>155 | 244=>171 | 245=>172 | 247=>189 | 279=>190 | 280=>191 | 281=>192 | 282=>193 | 287=>207 | 316=>127 | 171=>132 | 205=>208 | 321=>215 | 322=>216 | 243=>158 | 246=>174 | 283=>195 | 284=>196 | 285=>197 | 286=>198 | 129=>185 | 317=>209 | 318=>210 | 319=>211 | 320=>212 | 337=>217 | 338=>218 | n=>n,fun | 9=>9 | 3=>3 | 75=>199 | 76=>200 | 4=>4 | 5=>5 | 167=>231 | 37=>45 | 0=>0 | 85=>232 | 2=>2 | 168=>234 | 53=>227 | 175=>250 | 46=>208 | 210=>253 | 127=>202 | 145=>266 | 143=>264 | 21=>21 | 171=>239 | 173=>241 | 212=>256 | 51=>225 | 20=>20 | 213=>257 | 232=>267 | 233=>268 | 80=>206 | n=>n,fun | 15=>1 | 16=>2 | 17=>3 | 18=>4 | 19=>5 | n=>n⟩
theorem Wh:Go.Proofs.LaysC.n172 Tryz.prog Wi := {
 mixed:=by kernel_rfl
 f129:=Tryz.func185.trans (congrArg some (by kernel_rfl))
 f171:=Tryz.func132.trans (congrArg some (by kernel_rfl))
 f172:=Tryz.func155.trans (congrArg some (by kernel_rfl))
 f205:=Tryz.func208.trans (congrArg some (by kernel_rfl))
 f243:=Tryz.func158.trans (congrArg some (by kernel_rfl))
 f244:=Tryz.func171.trans (congrArg some (by kernel_rfl))
 f245:=Tryz.func172.trans (congrArg some (by kernel_rfl))
 f246:=Tryz.func174.trans (congrArg some (by kernel_rfl))
 f247:=Tryz.func189.trans (congrArg some (by kernel_rfl))
 f279:=Tryz.func190.trans (congrArg some (by kernel_rfl))
 f280:=Tryz.func191.trans (congrArg some (by kernel_rfl))
 f281:=Tryz.func192.trans (congrArg some (by kernel_rfl))
 f282:=Tryz.func193.trans (congrArg some (by kernel_rfl))
 f283:=Tryz.func195.trans (congrArg some (by kernel_rfl))
 f284:=Tryz.func196.trans (congrArg some (by kernel_rfl))
 f285:=Tryz.func197.trans (congrArg some (by kernel_rfl))
 f286:=Tryz.func198.trans (congrArg some (by kernel_rfl))
 f287:=Tryz.func207.trans (congrArg some (by kernel_rfl))
 f316:=Tryz.func127.trans (congrArg some (by kernel_rfl))
 f317:=Tryz.func209.trans (congrArg some (by kernel_rfl))
 f318:=Tryz.func210.trans (congrArg some (by kernel_rfl))
 f319:=Tryz.func211.trans (congrArg some (by kernel_rfl))
 f320:=Tryz.func212.trans (congrArg some (by kernel_rfl))
 f321:=Tryz.func215.trans (congrArg some (by kernel_rfl))
 f322:=Tryz.func216.trans (congrArg some (by kernel_rfl))
 f337:=Tryz.func217.trans (congrArg some (by kernel_rfl))
 f338:=Tryz.func218.trans (congrArg some (by kernel_rfl))
 t0:=Tryz.underlying0
 a0:=Tryz.isAgg0
 z0:=Tryz.sizeOf0
 v0:=Tryz.zeroValue0
 t2:=Tryz.underlying2
 a2:=Tryz.isAgg2
 z2:=Tryz.sizeOf2
 v2:=Tryz.zeroValue2
 t3:=Tryz.underlying3
 a3:=Tryz.isAgg3
 z3:=Tryz.sizeOf3
 v3:=Tryz.zeroValue3
 t4:=Tryz.underlying4
 a4:=Tryz.isAgg4
 z4:=Tryz.sizeOf4
 v4:=Tryz.zeroValue4
 t5:=Tryz.underlying5
 a5:=Tryz.isAgg5
 z5:=Tryz.sizeOf5
 v5:=Tryz.zeroValue5
 t9:=Tryz.underlying9
 a9:=Tryz.isAgg9
 z9:=Tryz.sizeOf9
 v9:=Tryz.zeroValue9
 t20:=Tryz.underlying20
 a20:=Tryz.isAgg20
 z20:=Tryz.sizeOf20
 v20:=Tryz.zeroValue20
 t21:=Tryz.underlying21
 a21:=Tryz.isAgg21
 z21:=Tryz.sizeOf21
 v21:=Tryz.zeroValue21
 t37:=Tryz.underlying45
 a37:=Tryz.isAgg45
 z37:=Tryz.sizeOf45
 v37:=Tryz.zeroValue45
 t46:=Tryz.underlying208
 a46:=Tryz.isAgg208
 z46:=Tryz.sizeOf208
 v46:=Tryz.zeroValue208
 t51:=Tryz.underlying225
 a51:=Tryz.isAgg225
 z51:=Tryz.sizeOf225
 v51:=Tryz.zeroValue225
 t53:=Tryz.underlying227
 a53:=Tryz.isAgg227
 z53:=Tryz.sizeOf227
 v53:=Tryz.zeroValue227
 t75:=Tryz.underlying199
 a75:=Tryz.isAgg199
 z75:=Tryz.sizeOf199
 v75:=Tryz.zeroValue199
 t76:=Tryz.underlying200
 a76:=Tryz.isAgg200
 z76:=Tryz.sizeOf200
 v76:=Tryz.zeroValue200
 t85:=Tryz.underlying232
 a85:=Tryz.isAgg232
 z85:=Tryz.sizeOf232
 v85:=Tryz.zeroValue232
 t127:=Tryz.underlying202
 a127:=Tryz.isAgg202
 z127:=Tryz.sizeOf202
 v127:=Tryz.zeroValue202
 t143:=Tryz.underlying264
 a143:=Tryz.isAgg264
 z143:=Tryz.sizeOf264
 v143:=Tryz.zeroValue264
 t145:=Tryz.underlying266
 a145:=Tryz.isAgg266
 z145:=Tryz.sizeOf266
 v145:=Tryz.zeroValue266
 t167:=Tryz.underlying231
 a167:=Tryz.isAgg231
 z167:=Tryz.sizeOf231
 v167:=Tryz.zeroValue231
 t168:=Tryz.underlying234
 a168:=Tryz.isAgg234
 z168:=Tryz.sizeOf234
 v168:=Tryz.zeroValue234
 t171:=Tryz.underlying239
 a171:=Tryz.isAgg239
 z171:=Tryz.sizeOf239
 v171:=Tryz.zeroValue239
 t173:=Tryz.underlying241
 a173:=Tryz.isAgg241
 z173:=Tryz.sizeOf241
 v173:=Tryz.zeroValue241
 t175:=Tryz.underlying250
 a175:=Tryz.isAgg250
 z175:=Tryz.sizeOf250
 v175:=Tryz.zeroValue250
 t210:=Tryz.underlying253
 a210:=Tryz.isAgg253
 z210:=Tryz.sizeOf253
 v210:=Tryz.zeroValue253
 t212:=Tryz.underlying256
 a212:=Tryz.isAgg256
 z212:=Tryz.sizeOf256
 v212:=Tryz.zeroValue256
 t213:=Tryz.underlying257
 a213:=Tryz.isAgg257
 z213:=Tryz.sizeOf257
 t232:=Tryz.underlying267
 a232:=Tryz.isAgg267
 z232:=Tryz.sizeOf267
 v232:=Tryz.zeroValue267
 t233:=Tryz.underlying268
 a233:=Tryz.isAgg268
 z233:=Tryz.sizeOf268
 v233:=Tryz.zeroValue268
 g15:=by kernel_rfl
 g16:=by kernel_rfl
 g17:=by kernel_rfl
 g18:=by kernel_rfl
 g19:=by kernel_rfl
 t80:=Tryz.underlying206
 a80:=Tryz.isAgg206
 z80:=Tryz.sizeOf206
 v80:=Tryz.zeroValue206
 i0:=by kernel_rfl
 i2:=by kernel_rfl
 i3:=by kernel_rfl
 i4:=by kernel_rfl
 i5:=by kernel_rfl
 i9:=by kernel_rfl
 i20:=by kernel_rfl
 i21:=by kernel_rfl
 i37:=by kernel_rfl
 i46:=by kernel_rfl
 i51:=by kernel_rfl
 i53:=by kernel_rfl
 i75:=by kernel_rfl
 i76:=by kernel_rfl
 i80:=by kernel_rfl
 i85:=by kernel_rfl
 i127:=by kernel_rfl
 i143:=by kernel_rfl
 i145:=by kernel_rfl
 i167:=by kernel_rfl
 i168:=by kernel_rfl
 i171:=by kernel_rfl
 i173:=by kernel_rfl
 i175:=by kernel_rfl
 i210:=by kernel_rfl
 i212:=by kernel_rfl
 i232:=by kernel_rfl
 i233:=by kernel_rfl
 m15:=by kernel_rfl
 m16:=by kernel_rfl
 m17:=by kernel_rfl
 m18:=by kernel_rfl
 m19:=by kernel_rfl
 c0:=by kernel_rfl
 c2:=by kernel_rfl
 c3:=by kernel_rfl
 c4:=by kernel_rfl
 c5:=by kernel_rfl
 c9:=by kernel_rfl
 c20:=by kernel_rfl
 c21:=by kernel_rfl
 c37:=by kernel_rfl
 c46:=by kernel_rfl
 c51:=by kernel_rfl
 c53:=by kernel_rfl
 c75:=by kernel_rfl
 c76:=by kernel_rfl
 c80:=by kernel_rfl
 c85:=by kernel_rfl
 c127:=by kernel_rfl
 c143:=by kernel_rfl
 c145:=by kernel_rfl
 c167:=by kernel_rfl
 c168:=by kernel_rfl
 c171:=by kernel_rfl
 c173:=by kernel_rfl
 c175:=by kernel_rfl
 c210:=by kernel_rfl
 c212:=by kernel_rfl
 c213:=by kernel_rfl
 c232:=by kernel_rfl
 c233:=by kernel_rfl }
def Wj:Go.Shelf.Ren:=⟨fun | 171=>132 | 243=>158 | 246=>174 | 283=>195 | 284=>196 | 285=>197 | 286=>198 | 129=>185 | 317=>209 | 318=>210 | 319=>211 | 320=>212 | 337=>217 | 338=>218 | n=>n,fun | 3=>3 | 9=>9 | 2=>2 | 4=>4 | 171=>239 | 0=>0 | 53=>227 | 37=>45 | 5=>5 | 173=>241 | 212=>256 | 51=>225 | 20=>20 | 213=>257 | 46=>208 | 232=>267 | 233=>268 | n=>n,fun | 17=>3 | 18=>4 | 19=>5 | n=>n⟩
theorem BF:Go.Proofs.LaysM.n171 Tryz.prog Wj := {
 mixed:=by kernel_rfl
 f129:=Tryz.func185.trans (congrArg some (by kernel_rfl))
 f171:=Tryz.func132.trans (congrArg some (by kernel_rfl))
 f243:=Tryz.func158.trans (congrArg some (by kernel_rfl))
 f246:=Tryz.func174.trans (congrArg some (by kernel_rfl))
 f283:=Tryz.func195.trans (congrArg some (by kernel_rfl))
 f284:=Tryz.func196.trans (congrArg some (by kernel_rfl))
 f285:=Tryz.func197.trans (congrArg some (by kernel_rfl))
 f286:=Tryz.func198.trans (congrArg some (by kernel_rfl))
 f317:=Tryz.func209.trans (congrArg some (by kernel_rfl))
 f318:=Tryz.func210.trans (congrArg some (by kernel_rfl))
 f319:=Tryz.func211.trans (congrArg some (by kernel_rfl))
 f320:=Tryz.func212.trans (congrArg some (by kernel_rfl))
 f337:=Tryz.func217.trans (congrArg some (by kernel_rfl))
 f338:=Tryz.func218.trans (congrArg some (by kernel_rfl))
 t0:=Tryz.underlying0
 a0:=Tryz.isAgg0
 z0:=Tryz.sizeOf0
 v0:=Tryz.zeroValue0
 t2:=Tryz.underlying2
 a2:=Tryz.isAgg2
 z2:=Tryz.sizeOf2
 v2:=Tryz.zeroValue2
 t3:=Tryz.underlying3
 a3:=Tryz.isAgg3
 z3:=Tryz.sizeOf3
 v3:=Tryz.zeroValue3
 t4:=Tryz.underlying4
 a4:=Tryz.isAgg4
 z4:=Tryz.sizeOf4
 v4:=Tryz.zeroValue4
 t5:=Tryz.underlying5
 a5:=Tryz.isAgg5
 z5:=Tryz.sizeOf5
 v5:=Tryz.zeroValue5
 t9:=Tryz.underlying9
 a9:=Tryz.isAgg9
 z9:=Tryz.sizeOf9
 v9:=Tryz.zeroValue9
 t20:=Tryz.underlying20
 a20:=Tryz.isAgg20
 z20:=Tryz.sizeOf20
 v20:=Tryz.zeroValue20
 t37:=Tryz.underlying45
 a37:=Tryz.isAgg45
 z37:=Tryz.sizeOf45
 v37:=Tryz.zeroValue45
 t46:=Tryz.underlying208
 a46:=Tryz.isAgg208
 z46:=Tryz.sizeOf208
 v46:=Tryz.zeroValue208
 t51:=Tryz.underlying225
 a51:=Tryz.isAgg225
 z51:=Tryz.sizeOf225
 v51:=Tryz.zeroValue225
 t53:=Tryz.underlying227
 a53:=Tryz.isAgg227
 z53:=Tryz.sizeOf227
 v53:=Tryz.zeroValue227
 t171:=Tryz.underlying239
 a171:=Tryz.isAgg239
 z171:=Tryz.sizeOf239
 v171:=Tryz.zeroValue239
 t173:=Tryz.underlying241
 a173:=Tryz.isAgg241
 z173:=Tryz.sizeOf241
 v173:=Tryz.zeroValue241
 t212:=Tryz.underlying256
 a212:=Tryz.isAgg256
 z212:=Tryz.sizeOf256
 v212:=Tryz.zeroValue256
 t213:=Tryz.underlying257
 a213:=Tryz.isAgg257
 z213:=Tryz.sizeOf257
 t232:=Tryz.underlying267
 a232:=Tryz.isAgg267
 z232:=Tryz.sizeOf267
 v232:=Tryz.zeroValue267
 t233:=Tryz.underlying268
 a233:=Tryz.isAgg268
 z233:=Tryz.sizeOf268
 v233:=Tryz.zeroValue268
 g17:=by kernel_rfl
 g18:=by kernel_rfl
 g19:=by kernel_rfl
 i0:=by kernel_rfl
 i2:=by kernel_rfl
 i3:=by kernel_rfl
 i4:=by kernel_rfl
 i5:=by kernel_rfl
 i9:=by kernel_rfl
 i20:=by kernel_rfl
 i37:=by kernel_rfl
 i46:=by kernel_rfl
 i51:=by kernel_rfl
 i53:=by kernel_rfl
 i171:=by kernel_rfl
 i173:=by kernel_rfl
 i212:=by kernel_rfl
 i232:=by kernel_rfl
 i233:=by kernel_rfl
 m17:=by kernel_rfl
 m18:=by kernel_rfl
 m19:=by kernel_rfl }
def Wl:Go.Shelf.Ren:=⟨fun | 316=>127 | n=>n,fun | 9=>9 | 3=>3 | 4=>4 | 37=>45 | 0=>0 | 127=>202 | 5=>5 | n=>n,fun | n=>n⟩
theorem Wk:Go.Proofs.LaysM.n316 Tryz.prog Wl := {
 mixed:=by kernel_rfl
 f316:=Tryz.func127.trans (congrArg some (by kernel_rfl))
 t0:=Tryz.underlying0
 a0:=Tryz.isAgg0
 z0:=Tryz.sizeOf0
 v0:=Tryz.zeroValue0
 t3:=Tryz.underlying3
 a3:=Tryz.isAgg3
 z3:=Tryz.sizeOf3
 v3:=Tryz.zeroValue3
 t4:=Tryz.underlying4
 a4:=Tryz.isAgg4
 z4:=Tryz.sizeOf4
 v4:=Tryz.zeroValue4
 t9:=Tryz.underlying9
 a9:=Tryz.isAgg9
 z9:=Tryz.sizeOf9
 v9:=Tryz.zeroValue9
 t37:=Tryz.underlying45
 a37:=Tryz.isAgg45
 z37:=Tryz.sizeOf45
 v37:=Tryz.zeroValue45
 t127:=Tryz.underlying202
 a127:=Tryz.isAgg202
 z127:=Tryz.sizeOf202
 v127:=Tryz.zeroValue202
 t5:=Tryz.underlying5
 a5:=Tryz.isAgg5
 z5:=Tryz.sizeOf5
 v5:=Tryz.zeroValue5
 i0:=by kernel_rfl
 i3:=by kernel_rfl
 i4:=by kernel_rfl
 i5:=by kernel_rfl
 i9:=by kernel_rfl
 i37:=by kernel_rfl
 i127:=by kernel_rfl }
theorem Fw(s p:ay):aQ Tryz.prog 125 [enc s,enc p] (.tuple [enc (ay.of (Lib.trimSuffix s.l p.l)),enc (Lib.hasSuffix s.l p.l)]):=Li Wm Hu s p
theorem Fv(s:ay)(c:UInt8):aQ Tryz.prog 123 [enc s,.int .u8 c.toNat] (enc (Lib.indexByte s.l c)):=Lj BG Ht s c
theorem tI(s:ay)(hs:s.l.length≤281474976710656):aQ Tryz.prog 155 [enc s] (gH 234 s.l):=Lg Wh HP (by kernel_rfl) (by kernel_rfl) rfl s hs
theorem FB(n:Int):aQ Tryz.prog 132 [enc n] (enc (vh n)):=Lk BF HA (g:=3) (by kernel_rfl) n
theorem Fy(s:ay)(hs:s.l.length≤281474976710656):aQ Tryz.prog 127 [enc s] (enc s):=Lh Wk Hv s hs
theorem Wg:Go.Proofs.Lays.n217 Tryz.prog BH := { BG with }
theorem VS(l:List UInt8)(c:UInt8):-1≤Lib.indexByte l c∧Lib.indexByte l c≤l.length:=by
 refine ⟨Lib.indexByte_ge l c,?_⟩
 induction l with
 |nil=>simp[Lib.indexByte]
 |cons b l ih =>
  unfold Lib.indexByte
  (repeat' split) <;>simp only[zx0] <;>omega
theorem FK(s:ay)(c:UInt8):aQ Tryz.prog 152 [enc s,.int .u8 c.toNat] (enc (Lib.indexByte s.l c)):=by
 refine ⟨HN,fun w D vs hl hD hv =>?_⟩;obtain ⟨rest,rfl,hsz,hv2⟩:=wT hv;simp only[ar] at hv2;obtain ⟨v,rest2,cs,rfl,h1,h2,rfl⟩:=hv2;obtain ⟨rfl,_⟩:=dk (fB h1 h2);have key:=Any.stringslite_IndexByte Wg s.b (c.toNat:Int) w;have hcc:((c.toNat:Int)).toNat.toUInt8=c:=by simp
 rw[hcc] at key;refine Calls.mono key ?_;rintro e w' ⟨rfl,rfl⟩;refine ⟨_,D,rfl,⟨[_],by simp[ba,I.isAgg,enc];rfl,?_⟩,Go.RowKit.Below.refl _ w',hD,fun _ _ h _=>h⟩
 show ae _ _ _ (.int .i64 (Lib.indexByte s.l c)) _
 simp only[ae];refine ⟨rfl,?_⟩;have g:=VS s.l c;rw[ay.size] at hsz;have hmin:IntKind.i64.min=-9223372036854775808:=by decide
 have hmax:IntKind.i64.max=9223372036854775807:=by decide
 unfold maxLen at hsz;rw[hmin,hmax];omega
theorem FO(s:ay)(c:UInt8):aQ Tryz.prog 188 [enc s,enc (ay.of [c])] (enc (Lib.indexByte s.l c)):=by
 refine aQ.bO Tryz.func188 HW Jf KC (t8 rfl) (fun hwf W0 bE E1 =>?_);simp only[yK,Dc,bD,Z5];have hsi:=EA (ay.of [c]) (i:=0) (by rw[ay.dI];exact Nat.zero_lt_one);have hl1:lT (enc (ay.of [c]))=some (.int .i64 1):=by rw[qn];rfl
 have hsi':ep .dK [enc (ay.of [c]),.int .i64 0]=some (.int .u8 (c.toNat:Int)):=hsi;cases q:decide (ay.of [c]=s)
 ·have R:=y6 @hsi' (y6 @hl1 (y6 @q (y6 @bu aw)))
  repeat' ((first |(with_reducible refine .guard (fun hb =>?_) (fun hb =>?_) <;>try simp only[hb])|refine U.aC (by decide +kernel) rfl fun K hK =>?_|refine .flat _ (FK s c) rfl ?_|(refine .aA [0,1,4,5,6,7,8,9,10,11,12,13,16,24,31,36,59,64,73,93,107,114,132,139] hK ?_;clear hK K)|(with_reducible refine .done (hK _ ?_);clear hK K)|refine U.of rfl ?_|(with_reducible refine aj.aB (fun h =>?_) (fun h =>?_) <;>try simp only[h])) <;>try simp only[aD,R,simprocAttr])
  all_goals clear R
 ·have e:=of_decide_eq_true q;subst e;have R:=y6 @hl1 (y6 @bu aw)
  repeat' ((first |(with_reducible refine .guard (fun hb =>?_) (fun hb =>?_) <;>try simp only[hb])|refine U.aC (by decide +kernel) rfl fun K hK =>?_|(refine .aA [0,1,4,5,6,7,8,9,10,11,12,13,16,24,31,36,59,64,73,93,107,114,132,139] hK ?_;clear hK K)|(with_reducible refine .done (hK _ ?_);clear hK K)|refine U.of rfl ?_|(with_reducible refine aj.aB (fun h =>?_) (fun h =>?_) <;>try simp only[h])) <;>try simp only[aD,R,eq_self,decide_true,simprocAttr])
  all_goals clear R
  show I.int .i64 0=I.int .i64 (Lib.indexByte [c] c)
  simp[Lib.indexByte]
def dB(c:UInt8):List UInt8→Option (List UInt8×List UInt8)
 | []=>none
 |b::l=>if b=c then some ([],l) else (dB c l).map fun p=>(b::p.1,p.2)
def jD(c:UInt8)(l:List UInt8):List UInt8×List UInt8×Bool:=match dB c l with
 |some p=>(p.1,p.2,true)
 |none=>(l,[],false)
theorem rp(c:UInt8):∀ l:List UInt8,(dB c l=none∧Lib.indexByte l c=-1)∨∃ i:Nat,i<l.length∧Lib.indexByte l c=i∧dB c l=some (l.take i,l.drop (i+1))
 | []=>.inl ⟨rfl,rfl⟩
 |b::l=>by
  by_cases h:b=c
  ·refine .inr ⟨0,by simp,by simp[Lib.indexByte,h],by simp[dB,h]⟩
  ·rcases rp c l with ⟨h1,h2⟩ | ⟨i,h0,h1,h2⟩
   ·refine .inl ⟨by simp[dB,h,h1],by simp[Lib.indexByte,h,h2]⟩
   ·refine .inr ⟨i+1,by simpa using h0,?_,by simp[dB,h,h2]⟩;simp only[Lib.indexByte,h1];simp[h]
    try omega
theorem FN(s:ay)(c:UInt8):aQ Tryz.prog 170 [enc s,enc (ay.of [c])] (.tuple [enc (ay.of (jD c s.l).1),enc (ay.of (jD c s.l).2.1),enc (jD c s.l).2.2]):=by
 refine aQ.wf zt fun hwf0 =>?_;have hlen:s.l.length≤maxLen:=by
  have:=hwf0.1;rw[←ay.size];exact this
 simp only[maxLen] at hlen;refine aQ.bO Tryz.func170 zt Jc Kz (t8 rfl) (fun hwf W0 bE E1 =>?_);simp only[yI,C9,bD,Z5];clear hwf;have hF:=FO s c;have hl1:lT (enc (ay.of [c]))=some (.int .i64 1):=by rw[qn];rfl
 rcases rp c s.l with ⟨h1,h2⟩ | ⟨i,h0,h1,h2⟩
 ·rw[h2] at hF;simp only[jD,h1];have R:=y6 @hl1 (y6 @bu aw)
  repeat' ((first |refine U.aC (by decide +kernel) rfl fun K hK =>?_|refine .flat _ (hF) rfl ?_|(refine .aA [0,1,4,5,6,7,12] hK ?_;clear hK K)|(with_reducible refine .done (hK _ ?_);clear hK K)|refine U.of rfl ?_|(with_reducible refine aj.aB (fun h =>?_) (fun h =>?_) <;>try simp only[h])) <;>try simp only[aD,R,decide_false,simprocAttr])
  all_goals clear R
  rw[ay.vH];rfl
 ·rw[h1] at hF;simp only[jD,h2];have g1:=qo s (j:=i) (by omega);have g2:=wA s (i:=i+1) (by omega);have hw:=ew (i:=i) (by omega);have hd:decide ((i:Int)≥0)=true:=decide_eq_true (by omega);have R:=y6 @hd (y6 @hl1 (y6 @hw (y6 @g1 (y6 @g2 (y6 @bu aw)))))
  repeat' ((first |refine U.aC (by decide +kernel) rfl fun K hK =>?_|refine .flat _ (hF) rfl ?_|(refine .aA [0,1,4,5,6,7,12] hK ?_;clear hK K)|(with_reducible refine .done (hK _ ?_);clear hK K)|refine U.of rfl ?_|(with_reducible refine aj.aB (fun h =>?_) (fun h =>?_) <;>try simp only[h])) <;>try simp only[aD,R,decide_true,simprocAttr])
  all_goals clear R
  trace_state
  all_goals rfl
theorem xi(s:ay)(c:UInt8):aQ Tryz.prog 154 [enc s,enc (ay.of [c])] (.tuple [enc (ay.of (jD c s.l).1),enc (ay.of (jD c s.l).2.1),enc (jD c s.l).2.2]):=by
 refine aQ.bO Tryz.func154 HO I7 Kt (t8 rfl) (fun hwf W0 bE E1 =>?_);simp only[yD,C4,bD,Z5];have R:=y6 @bu aw
 repeat' ((first |refine U.aC (by decide +kernel) rfl fun K hK =>?_|refine .flat _ (FN s c) rfl ?_|(refine .aA [0,1,4,5,6] hK ?_;clear hK K)|(with_reducible refine .done (hK _ ?_);clear hK K)|refine U.of rfl ?_|(with_reducible refine aj.aB (fun h =>?_) (fun h =>?_) <;>try simp only[h])) <;>try simp only[aD,R,simprocAttr])
 all_goals clear R
 all_goals rfl
theorem F2(s:ay)(hs:s.l.length≤281474976710656):aQ Tryz.prog 74 [enc s] (enc s):=by
 refine aQ.bO Tryz.func74 Ii Jy KW (t8 rfl) (fun hwf W0 bE E1 =>?_);simp only[y7,Dy,bD];have R:=y6 @bu aw
 repeat' ((first |refine U.aC (by decide +kernel) rfl fun K hK =>?_|refine .flat _ (Fy s hs) rfl ?_|(refine .aA [0,2] hK ?_;clear hK K)|(with_reducible refine .done (hK _ ?_);clear hK K)|refine U.of rfl ?_|(with_reducible refine aj.aB (fun h =>?_) (fun h =>?_) <;>try simp only[h])) <;>try simp only[aD,R,simprocAttr])
 all_goals clear R
 all_goals rfl
end Go.Proofs.YtoffnnjbplgnaaaGreatDoor
namespace Go.Proofs.YtoffnnjbplgnaaaGreatDoor
open Go Go.Abs
open Go.Abs.Enc (enc)
def dJ(l:List Int):List UInt8:=l.flatMap fun n=>Lib.itoa n++[32]
def iZ(f:List UInt8→Option Int):Nat→List UInt8→Option (List Int×List UInt8)
 |0,s=>some ([],s)
 |k+1,s=>match dB 32 s with
  |none=>none
  |some (w,t)=>match f w with
   |none=>none
   |some n=>(iZ f k t).map fun p=>(n::p.1,p.2)
def gx(w:List UInt8):Option Int:=match Lib.atoiAll w with
 | .ok n=>some n
 |_=>none
def eM(r:ah):List Int:=[r.aM,r.no,r.kind,r.ea,r.known,r.fq,r.fC]
def js(n:List Int)(t:List UInt8):ah:=⟨n.getD 1 0,n.getD 2 0,n.getD 3 0,n.getD 4 0,n.getD 5 0,n.getD 6 0,n.getD 7 0,t⟩
def di(r:ah):List UInt8:=dJ (eM r)++r.text
def dA(s:Int)(l:List UInt8):Int:=l.foldl (fun s c=>(257*s+c.toNat+1)%1000003) s
theorem oN{s:Int}(h:0≤s∧s<1000003):∀ l,0≤dA s l∧dA s l<1000003:=by
 intro l
 induction l generalizing s with
 |nil=>exact h
 |cons c l ih =>
  rw[dA,List.foldl_cons];exact ih (by omega)
def dT(s:Int)(r:ah):List UInt8:=dJ [dA s (di r)]++di r++[10]
section
variable (ok:ah→Bool)
def nT(s:Int)(t:List UInt8)(r:ah):Option (ah×Int):=if ok r=true∧dT s r=t then some (r,dA s (di r)) else none
def ed(s:Int)(t:List UInt8):Option (ah×Int):=if t.getLast?=some 10 then
  (iZ gx 8 t.dropLast).bind fun p=>(nT ok s t (js p.1 p.2)).bind fun q=>if p.1.headD 0=q.2 then some q else none
 else none
theorem Mp{s:Int}{t:List UInt8}{r:ah}{q:ah×Int}(h:nT ok s t r=some q):ok q.1=true∧dT s q.1=t∧q.2=dA s (di q.1):=by
 rw[nT] at h;by_cases c:ok r=true∧dT s r=t
 ·rw[if_pos c] at h;cases h;exact ⟨c.1,c.2,rfl⟩
 ·rw[if_neg c] at h;cases h
theorem Yu{s:Int}{t:List UInt8}{q:ah×Int}(h:ed ok s t=some q):ok q.1=true∧dT s q.1=t∧q.2=dA s (di q.1):=by
 rw[ed] at h;by_cases c:t.getLast?=some 10
 ·rw[if_pos c] at h;cases hp:iZ gx 8 t.dropLast with
  |none=>rw[hp] at h;cases h
  |some p =>
   rw[hp,Option.bind_some] at h;cases he:nT ok s t (js p.1 p.2) with
   |none=>rw[he] at h;cases h
   |some q' =>
    rw[he,Option.bind_some] at h;by_cases k:p.1.headD 0=q'.2
    ·rw[if_pos k] at h;cases h;exact Mp ok he
    ·rw[if_neg k] at h;cases h
 ·rw[if_neg c] at h;cases h
end
def jB:List PanicEntry:=[{ v:=.iface 176 (.agg #[]),recovered:=false }]
theorem mT{Q:Exit→ab→Prop}{x:aF}{A:ab}(h:af A x=.iface 176 (.agg []))(hq:Q (.panic jB) A):lL Tryz.prog Q (.prim .ky [x]) A:=.ky h hq
theorem jQ:(∀ T:TypeId,ep (.lV T) [.agg []]=some (.iface T (.agg [])))∧fJ [] []=some []:=⟨fun _=>rfl,rfl⟩
theorem vR{A:ab} : vS jB (fun os'=>os'=[]) (.panic jB) A:=⟨rfl,[],[],vb,trivial,rfl,rfl⟩
theorem mC:(I.ak ⟨#[32]⟩)=enc (ay.of [32]):=rfl
theorem pw:(I.ak ⟨#[10]⟩)=enc (ay.of [10]):=rfl
theorem Co{w:List UInt8}{n:Int}(h:gx w=some n):gH 234 w=.tuple [enc n,.cQ]:=by
 unfold gx at h;split at h
 ·rename_i m hm;cases h;simp only[gH,hm]
 ·cases h
theorem Cn{w:List UInt8}(h:gx w=none):∃ n:Int,gH 234 w=.tuple [enc n,.iface 234 .any]:=by
 unfold gx at h;split at h
 ·cases h
 ·rename_i hm;cases hr:Lib.atoiAll w with
  |ok n=>exact absurd hr (hm n)
  |range=>exact ⟨_,by simp only[gH,hr];rfl⟩
  | _ =>exact ⟨0,by simp only[gH,hr]⟩
theorem rr{c:UInt8}{l:List UInt8}{p:List UInt8×List UInt8}(h:dB c l=some p):p.1.length+p.2.length<l.length:=by
 rcases rp c l with ⟨h1,_⟩ | ⟨i,h0,_,h2⟩
 ·rw[h1] at h;cases h
 ·rw[h2] at h;cases h;simp only[Z9,List.length_drop];omega
theorem xc(s:ay)(hlen:s.l.length≤281474976710656)(w t:List UInt8)(n:Int)(h1:dB 32 s.l=some (w,t))(h2:gx w=some n):aQ Tryz.prog 126 [enc s] (.tuple [enc n,enc (ay.of t)]):=by
 refine aQ.bO Tryz.func126 zr zB Kg (t8 rfl) (fun hwf W0 bE E1 =>?_);simp only[uf,CR,bD];clear hwf;have hc:=xi s 32;simp only[jD,h1] at hc;have hl:=rr h1;simp only at hl;have ha:=tI (ay.of w) (by rw[ay.dI];omega);rw[ay.dI,Co h2] at ha;have R:=y6 @mC (y6 @bu aw)
 repeat' ((first |(with_reducible refine .guard (fun hb =>?_) (fun hb =>?_) <;>try simp only[hb])|refine U.aC (by decide +kernel) rfl fun K hK =>?_|refine .flat _ (hc) rfl ?_|refine .lead _ (ha) ?_|(refine .aA [0,2,3,4,5,6,7,8,25] hK ?_;clear hK K)|(with_reducible refine .done (hK _ ?_);clear hK K)|refine U.of rfl ?_|(with_reducible refine aj.aB (fun h =>?_) (fun h =>?_) <;>try simp only[h])) <;>try simp only[aD,R,simprocAttr])
 all_goals clear R
 all_goals rfl
theorem Fx(s:ay)(hlen:s.l.length≤281474976710656)(h:∀ w t,dB 32 s.l=some (w,t)→gx w=none):oU Tryz.prog 126 jB [enc s] [] (fun os'=>os'=[]):=by
 refine oU.mk Tryz.func126 zr zB (t8 rfl) (t8 rfl) (fun m hm=>by simp[al,aE] at hm) (fun hwf W0 bE E1 =>?_);simp only[uf,bD];clear hwf;have hc:=xi s 32;cases h1:dB 32 s.l with
 |none =>
  simp only[jD,h1] at hc;have ha:=tI (ay.of s.l) (by rw[ay.dI];omega);rw[ay.dI] at ha;cases ho:gx s.l with
  |some n =>
   rw[Co ho] at ha;have R:=y6 @mC (y6 @jQ (y6 @bu aw))
   repeat' ((first |(with_reducible refine .guard (fun hb =>?_) (fun hb =>?_) <;>try simp only[hb])|(refine U.lx (gs:=rK) (gs1:=[_,_]) rfl fun K hK =>?_)|refine U.aC (by decide +kernel) rfl fun K hK =>?_|refine .flat _ (hc) rfl ?_|refine .lead _ (ha) ?_|(refine .aA [0,2,3,4,5,6,7,8,25] hK ?_;clear hK K)|(with_reducible refine .done (hK _ ?_);clear hK K)|refine U.of rfl ?_|(with_reducible refine aj.aB (fun h =>?_) (fun h =>?_) <;>try simp only[h])) <;>try simp only[aD,R,simprocAttr])
   all_goals clear R
   refine mT ?_ vR;rfl
  |none =>
   obtain ⟨n,hn⟩:=Cn ho;rw[hn] at ha;have R:=y6 @mC (y6 @jQ (y6 @bu aw))
   repeat' ((first |(with_reducible refine .guard (fun hb =>?_) (fun hb =>?_) <;>try simp only[hb])|(refine U.lx (gs:=rK) (gs1:=[_,_]) rfl fun K hK =>?_)|refine U.aC (by decide +kernel) rfl fun K hK =>?_|refine .flat _ (hc) rfl ?_|refine .lead _ (ha) ?_|(refine .aA [0,2,3,4,5,6,7,8,25] hK ?_;clear hK K)|(with_reducible refine .done (hK _ ?_);clear hK K)|refine U.of rfl ?_|(with_reducible refine aj.aB (fun h =>?_) (fun h =>?_) <;>try simp only[h])) <;>try simp only[aD,R,simprocAttr])
   all_goals clear R
   refine mT ?_ vR;rfl
 |some p =>
  obtain ⟨w,t⟩:=p;simp only[jD,h1] at hc;have hl:=rr h1;simp only at hl;have ha:=tI (ay.of w) (by rw[ay.dI];omega);obtain ⟨n,hn⟩:=Cn (h w t h1);rw[ay.dI,hn] at ha;have R:=y6 @mC (y6 @jQ (y6 @bu aw))
  repeat' ((first |(with_reducible refine .guard (fun hb =>?_) (fun hb =>?_) <;>try simp only[hb])|(refine U.lx (gs:=rK) (gs1:=[_,_]) rfl fun K hK =>?_)|refine U.aC (by decide +kernel) rfl fun K hK =>?_|refine .flat _ (hc) rfl ?_|refine .lead _ (ha) ?_|(refine .aA [0,2,3,4,5,6,7,8,25] hK ?_;clear hK K)|(with_reducible refine .done (hK _ ?_);clear hK K)|refine U.of rfl ?_|(with_reducible refine aj.aB (fun h =>?_) (fun h =>?_) <;>try simp only[h])) <;>try simp only[aD,R,simprocAttr])
  all_goals clear R
  refine mT ?_ vR;rfl
theorem VQ:qL Tryz.prog 124 3:=⟨zq,fun bs w hb=>by
 obtain ⟨b1,b2,b3,rfl⟩:∃ b1 b2 b3,bs=[b1,b2,b3]:=by
  match bs,hb with
  | [a,b,c],_=>exact ⟨a,b,c,rfl⟩
 refine callsDIn_of_wpSIn Tryz.func124 rfl trivial fun c₀ cs hu =>?_;apply wpSIn_seq;apply wpSIn_region;simp[wpOpsSIn,go_sem,recoverD,hu,Tryz.ntmps124,Exit.thenS];refine wpSIn_of_wpIn rfl (wpIn_block (wpIn_seq (wpIn_region_list ?_)));simp[wpListIn,go_sem];refine wpIn_cond (t:=true) (by simp[Act.eval,Array.replicate]) ?_;simp only[if_true];refine wpIn_region_list ?_;simp[wpListIn,go_sem,Exit.inBlock];cases c₀
 simp_all[bodyPostS,results,Tryz.results124]⟩
theorem vN{P:Program}{o:Oper}{a:Act}{w w':World}{Kw:Act→World→Prop}{Q:Exit→Act→World→Prop}{n:Nat}(h:(execOp a.eval o).run P w=.ok .skip w')(hK:Kw (a.put o.dst undef) w'):o.wpIn Fence.wide n P a w Kw Q:=by
 refine ⟨fun _ _=>trivial,?_⟩
 show o.uponIn _ _ _ _ _ _ ((execOp a.eval o).run P w)
 rw[h,Oper.uponIn_skip];exact hK
theorem XV{P:Program}{o:Oper}{a:Act}{w w':World}{v:Value}{Kw:Act→World→Prop}{Q:Exit→Act→World→Prop}{n:Nat}(h:(execOp a.eval o).run P w=.ok (.value v) w')(hK:Kw (a.put o.dst v) w'):o.wpIn Fence.wide n P a w Kw Q:=by
 refine ⟨fun _ _=>trivial,?_⟩
 show o.uponIn _ _ _ _ _ _ ((execOp a.eval o).run P w)
 rw[h,Oper.uponIn_value];exact hK
theorem wQ{P:Program}{o:Oper}{ρ:Operand→Value}{t:TypeId}{x y:Operand}{p v:Value}{w w':World}(ho:o.op=.store t x y)(hx:ρ x=p)(hy:ρ y=v)(h:(Instr.storeAt t p v).run P w=.ok () w'):(execOp ρ o).run P w=.ok .skip w':=by
 simp only[execOp,ho,hx,hy,Sem.run_bind,h];rfl
theorem wS{c:cn}{A:ab}{a:Act}{w:World}{D:aJ}{E:aN}{P:Program}(hs:aL c A a w D E){N b:Nat}{x z:I}{v:Value}{ds:List Value}{t:TypeId}{i:TypeInfo}(hn:A.o N=some (.box x))(ao:E N=some (.aI b z.aK))(hsh:x.aK=z.aK)
  (hz:ae w D E z ds) (hv:v.cells.toList=ds) (hi:P.info? t=some i) (hsz:i.size=ds.length) :
  ∃ w',(Instr.storeAt t (jX b) v).run P w=.ok () w'∧aL c (A.aS N (.box z)) a w' D E:=by
 obtain ⟨b',cs,T,k1,k2,k3,k4,k5⟩:=hs.box hn;rw[ao] at k1;simp only[v6,bx.aI.injEq] at k1;obtain ⟨rfl,_⟩:=k1;have l1:=ae.length _ _ k4;have l2:=ae.length _ _ hz;have l3:x.size=z.size:=by rw[←I.ik x,←I.ik z,hsh]
 have hcl:cs.size=ds.length:=by rw[←zy5,l1,l2,l3]
 have hrun:=tc P b 0 T ds 0 cs w k3 (by omega) (ae.kr _ _ hz);simp only[Nat.add_zero] at hrun;have e:(cs.toList.take 0++ds++cs.toList.drop (0+ds.length))=ds:=by
  rw[List.take_zero,zz3,Z5,zx9 (by rw[zy5];omega),List.append_nil]
 rw[e] at hrun;have hs2:=hs.wD (y:=z) (cs':=ds.toArray) hn (hsh▸ao) hsh.symm (by simpa using hz);refine ⟨w.setRow b ds.toArray,?_,hs2⟩;have hg:¬ v.cells.size≠i.size:=by rw[hsz,←hv];simp
 have e2:P.cellsOf t=i.size:=by simp[Program.cellsOf,hi]
 simp only[jX,Instr.storeAt,Instr.sureAddr,storeVar,Sem.run_bind,Sem.run_pure,Result.andThen_ok,gA hi,Sem.run_ite,e2,if_neg hg,hv,hrun]
theorem IM:qG Tryz.prog 124 jB [enc (default:ah),.int .i64 0,.bool false]:=⟨zq,fun c A a w D E Ns bs hP hs ao hA=>by
 have hta:∀ W,(Instr.typeAssert (.iface 176 (.agg #[])) 20 176 true).run Tryz.prog W=.ok (.tuple #[.agg #[],.bool true]) W:=fun W=>by
  simp[Instr.typeAssert,run_underlying Tryz.underlying176]
 obtain ⟨N1,N2,N3,rfl⟩:∃ a b c,Ns=[a,b,c]:=by
  match Ns,ao.len.2 with
  | [a,b,c],_=>exact ⟨a,b,c,rfl⟩
 obtain ⟨b1,b2,b3,rfl⟩:∃ a b c,bs=[a,b,c]:=by
  match bs,ao.len.1 with
  | [a,b,c],_=>exact ⟨a,b,c,rfl⟩
 obtain ⟨hE1,hE2,hE3,_⟩:=ao;obtain ⟨⟨x1,hx1,hsh1⟩,⟨x2,hx2,hsh2⟩,⟨x3,hx3,hsh3⟩,_⟩:=hA;refine callsDIn_of_wpSIn Tryz.func124 rfl trivial fun c₀ cs hu =>?_;apply wpSIn_seq;apply wpSIn_region;simp[wpOpsSIn,go_sem,recoverD,hu,Tryz.ntmps124,Exit.thenS,jB];refine wpSIn_of_wpIn rfl (wpIn_block (wpIn_seq (wpIn_region_list ?_)));simp[wpListIn,go_sem];refine wpIn_cond (t:=false) (by simp[Act.eval,Array.replicate]) ?_;simp only[Z4,if_false];refine wpIn_seq (wpIn_region_list ?_);simp[wpListIn,go_sem,hta];refine wpIn_cond (t:=true) (by simp[Act.eval,Array.replicate]) ?_;simp only[if_true];refine wpIn_seq (wpIn_region_list ?_);simp[wpListIn,go_sem];refine wpIn_region_list ?_;have hb:Go.RowKit.Below w.heap.size w (w.alloc (Obj.cells #[] 176)):=jh _ _;have hs1:=hs.grow (D':=D) hb (fun _ _ h=>h) (fun _ _ h _=>h) (fun b o hd=>zx8 (hs.cO b o hd) hb.size);generalize w.alloc (Obj.cells #[] 176)=W1 at *;have nx:∀ {A:ab} {N M b d:Nat} {z y:I},E N=some (.aI b z.aK)→E M=some (.aI d y.aK)→(∃ x,A.o M=some (.box x)∧x.aK=y.aK)→∃ x,(A.aS N (.box z)).o M=some (.box x)∧x.aK=y.aK:=by
  intro A N M b d z y h1 h2 ⟨x,h3,h4⟩;by_cases e:M=N
  ·subst e;rw[h1] at h2;simp only[v6,bx.aI.injEq] at h2;exact ⟨z,by simp[ab.aS],h2.2⟩
  ·exact ⟨x,by simp[ab.aS,e,h3],h4⟩
 obtain ⟨i50,hi50,hz50⟩:∃ i,Tryz.prog.info? 50=some i∧i.size=8:=by
  have h:(Tryz.prog.info? 50).map (·.size)=some 8:=by kernel_rfl
  obtain ⟨i,h1,h2⟩:=t7.1 h;exact ⟨i,h1,h2⟩
 obtain ⟨i3,hi3,hz3⟩:∃ i,Tryz.prog.info? 3=some i∧i.size=1:=by
  have h:(Tryz.prog.info? 3).map (·.size)=some 1:=by kernel_rfl
  obtain ⟨i,h1,h2⟩:=t7.1 h;exact ⟨i,h1,h2⟩
 obtain ⟨i4,hi4,hz4⟩:∃ i,Tryz.prog.info? 4=some i∧i.size=1:=by
  have h:(Tryz.prog.info? 4).map (·.size)=some 1:=by kernel_rfl
  obtain ⟨i,h1,h2⟩:=t7.1 h;exact ⟨i,h1,h2⟩
 obtain ⟨W2,hst1,hs2⟩:=wS (P:=Tryz.prog) (t:=50) (z:=enc (default:ah)) (v:=.agg #[.int .i64 0,.int .i64 0,.int .i64 0,.int .i64 0,.int .i64 0,.int .i64 0,.int .i64 0,.string ⟨#[]⟩]) hs1 hx1 hE1 hsh1
  (ds:=[.int .i64 0,.int .i64 0,.int .i64 0,.int .i64 0,.int .i64 0,.int .i64 0,.int .i64 0,.string ⟨#[]⟩]) (by
   show ae _ _ _ (.agg [.agg [.int .i64 0,.int .i64 0],.int .i64 0,.int .i64 0,.int .i64 0,.agg [.int .i64 0,.int .i64 0],.ak ⟨#[]⟩]) _
   simp only[ae,aH];refine ⟨[.int .i64 0,.int .i64 0],_,rfl,⟨[.int .i64 0],_,rfl,⟨rfl,by decide⟩,[.int .i64 0],_,rfl,⟨rfl,by decide⟩,rfl⟩,[.int .i64 0],_,rfl,⟨rfl,by decide⟩,[.int .i64 0],_,rfl,⟨rfl,by decide⟩,[.int .i64 0],_,rfl,⟨rfl,by decide⟩,[.int .i64 0,.int .i64 0],_,rfl,⟨[.int .i64 0],_,rfl,⟨rfl,by decide⟩,[.int .i64 0],_,rfl,⟨rfl,by decide⟩,rfl⟩,[.string ⟨#[]⟩],[],rfl,⟨rfl,by decide⟩,rfl⟩) rfl hi50 hz50
 obtain ⟨y2,hy2,hsh2'⟩:=nx hE1 hE2 ⟨x2,hx2,hsh2⟩;obtain ⟨W3,hst2,hs3⟩:=wS (P:=Tryz.prog) (t:=3) (z:=.int .i64 0) (v:=.int .i64 0) hs2 hy2 hE2 hsh2' (ds:=[.int .i64 0]) (by simp only[ae];exact ⟨trivial,by decide⟩) rfl hi3 hz3;obtain ⟨y3,hy3,hsh3'⟩:=nx hE2 hE3 (nx hE1 hE3 ⟨x3,hx3,hsh3⟩);obtain ⟨W4,hst3,hs4⟩:=wS (P:=Tryz.prog) (t:=4) (z:=.bool false) (v:=.bool false) hs3 hy3 hE3 hsh3' (ds:=[.bool false]) (by simp only[ae]) rfl hi4 hz4;have hbl:∀ W,(Instr.build 50 #[]).run Tryz.prog W=.ok (.agg #[.int .i64 0,.int .i64 0,.int .i64 0,.int .i64 0,.int .i64 0,.int .i64 0,.int .i64 0,.string ⟨#[]⟩]) W:=fun W=>by
  simp[Instr.build,Tryz.zeroValue50,Instr.fill,Value.cells]
 simp only[wpListIn,Region.wanted,if_true];refine XV (v:=.agg #[.int .i64 0,.int .i64 0,.int .i64 0,.int .i64 0,.int .i64 0,.int .i64 0,.int .i64 0,.string ⟨#[]⟩]) (by simp only[execOp,Array.map_empty,Sem.run_bind,hbl];rfl) ?_;refine vN (wQ rfl (by simp[Act.eval,Act.put]) (by simp[Act.eval,Act.put]) hst1) ?_;refine vN (wQ rfl (by simp[Act.eval,Act.put]) (by simp[Act.eval]) hst2) ?_;refine vN (wQ rfl (by simp[Act.eval,Act.put]) (by simp[Act.eval]) hst3) ?_;simp[Exit.inBlock,bodyPostS,results,Tryz.results124,settle];exact ⟨rfl,hs4⟩⟩
end Go.Proofs.YtoffnnjbplgnaaaGreatDoor
namespace Go.Proofs.YtoffnnjbplgnaaaGreatDoor
open Go Go.Abs Go.Shelf Go.RowKit
open Go.Abs.Enc (enc)
def BI:Go.Shelf.Ren:=⟨fun | 166=>156 | 240=>173 | 276=>194 | n=>n,fun | 70=>203 | 9=>9 | 3=>3 | 75=>199 | 0=>0 | 72=>205 | 37=>45 | 4=>4 | 164=>237 | 80=>206 | 5=>5 | n=>n,fun | n=>n⟩
theorem Wq:Go.Proofs.Lays.n166 Tryz.prog BI := {
 mixed:=by kernel_rfl
 f166:=Tryz.func156.trans (congrArg some (by kernel_rfl))
 f240:=Tryz.func173.trans (congrArg some (by kernel_rfl))
 f276:=Tryz.func194.trans (congrArg some (by kernel_rfl))
 t0:=Tryz.underlying0
 a0:=Tryz.isAgg0
 z0:=Tryz.sizeOf0
 v0:=Tryz.zeroValue0
 t3:=Tryz.underlying3
 a3:=Tryz.isAgg3
 z3:=Tryz.sizeOf3
 v3:=Tryz.zeroValue3
 t4:=Tryz.underlying4
 a4:=Tryz.isAgg4
 z4:=Tryz.sizeOf4
 v4:=Tryz.zeroValue4
 t9:=Tryz.underlying9
 a9:=Tryz.isAgg9
 z9:=Tryz.sizeOf9
 v9:=Tryz.zeroValue9
 t20:=Tryz.underlying20
 a20:=Tryz.isAgg20
 z20:=Tryz.sizeOf20
 v20:=Tryz.zeroValue20
 t37:=Tryz.underlying45
 a37:=Tryz.isAgg45
 z37:=Tryz.sizeOf45
 v37:=Tryz.zeroValue45
 t70:=Tryz.underlying203
 a70:=Tryz.isAgg203
 z70:=Tryz.sizeOf203
 v70:=Tryz.zeroValue203
 t72:=Tryz.underlying205
 a72:=Tryz.isAgg205
 z72:=Tryz.sizeOf205
 v72:=Tryz.zeroValue205
 t75:=Tryz.underlying199
 a75:=Tryz.isAgg199
 z75:=Tryz.sizeOf199
 v75:=Tryz.zeroValue199
 t164:=Tryz.underlying237
 a164:=Tryz.isAgg237
 z164:=Tryz.sizeOf237
 v164:=Tryz.zeroValue237 }
def BJ:Go.Shelf.Ren:=⟨fun | 169=>157 | n=>n,fun | 70=>203 | 9=>9 | 0=>0 | 72=>205 | 37=>45 | 127=>202 | 3=>3 | 5=>5 | n=>n,fun | n=>n⟩
theorem Wr:Go.Proofs.Lays.n169 Tryz.prog BJ := {
 mixed:=by kernel_rfl
 f169:=Tryz.func157.trans (congrArg some (by kernel_rfl))
 t0:=Tryz.underlying0
 a0:=Tryz.isAgg0
 z0:=Tryz.sizeOf0
 v0:=Tryz.zeroValue0
 t3:=Tryz.underlying3
 a3:=Tryz.isAgg3
 z3:=Tryz.sizeOf3
 v3:=Tryz.zeroValue3
 t9:=Tryz.underlying9
 a9:=Tryz.isAgg9
 z9:=Tryz.sizeOf9
 v9:=Tryz.zeroValue9
 t37:=Tryz.underlying45
 a37:=Tryz.isAgg45
 z37:=Tryz.sizeOf45
 v37:=Tryz.zeroValue45
 t70:=Tryz.underlying203
 a70:=Tryz.isAgg203
 z70:=Tryz.sizeOf203
 v70:=Tryz.zeroValue203
 t72:=Tryz.underlying205
 a72:=Tryz.isAgg205
 z72:=Tryz.sizeOf205
 v72:=Tryz.zeroValue205
 t127:=Tryz.underlying202
 a127:=Tryz.isAgg202
 z127:=Tryz.sizeOf202
 v127:=Tryz.zeroValue202 }
theorem MC:Builder.Extra Tryz.prog BI where
 sizeBuilder:=by kernel_rfl
 liesBuilder:=by kernel_rfl
 t5:=Tryz.underlying5
 a5:=Tryz.isAgg5
 z5:=Tryz.sizeOf5
 v5:=Tryz.zeroValue5
 infoByte:=by kernel_rfl
 cellsByte:=by kernel_rfl
 sizeByte:=by kernel_rfl
 neB5:=by decide
theorem MD:Builder.Extra Tryz.prog BJ where
 sizeBuilder:=by kernel_rfl
 liesBuilder:=by kernel_rfl
 t5:=Tryz.underlying5
 a5:=Tryz.isAgg5
 z5:=Tryz.sizeOf5
 v5:=Tryz.zeroValue5
 infoByte:=by kernel_rfl
 cellsByte:=by kernel_rfl
 sizeByte:=by kernel_rfl
 neB5:=by decide
abbrev kP(B b:Nat)(l:List UInt8)(w:World):Prop:=Lib.IsBuilderF 205 5 B b (Lib.byteCells l) w
abbrev tN(b:Nat)(w w':World):Prop:=Lib.OthersKept 5 (some b) w w'
theorem Fi(B b:Nat)(l:List UInt8)(s:ByteArray)(w:World)(h:kP B b l w)(hlen:l.length+s.size≤140737488355328)(hB:B≤w.heap.size) :
  Calls Tryz.prog 156 #[.pointer (some ⟨b,0,none⟩),.string s] w fun e w'=>e=.returned (.tuple #[.int .i64 s.size,.nilIface])∧(kP B b (l++s.data.toList) w'∧Below B w w'∧tN b w w'):=by
 refine (Any.Builder_WriteString_k Wq MC B b (Lib.byteCells l) s w h (by rw[Lib.byteCells_length];exact hlen) hB).mono ?_;rintro e w' ⟨rfl,h1,h2,h3⟩;refine ⟨rfl,.inr ?_,h2,h3⟩;rw[Lib.byteCells_append];exact h1
theorem x8(B b:Nat)(l:List UInt8)(w:World)(h:kP B b l w)(hB:B≤w.heap.size) :
  Calls Tryz.prog 157 #[.pointer (some ⟨b,0,none⟩)] w fun e w'=>e=.returned (.string ⟨l.toArray⟩)∧(kP B b l w'∧Below B w w'∧tN b w w'):=Any.Builder_String_any_k Wr MD B b l w h hB
theorem V4(n:Int)(h:IntKind.i64.min≤n∧n≤IntKind.i64.max)(W:World)(hl:eH Tryz.prog W (fun _=>False)):Calls Tryz.prog 132 #[.int .i64 n] W fun e w'=>e=.returned (.string ⟨(Lib.itoa n).toArray⟩)∧Below W.heap.size W w':=by
 have h3':-9223372036854775808≤n:=h.1;have h4':n≤9223372036854775807:=h.2;obtain ⟨_,htab,rfl⟩:=hl.rN (n:=r4) (k:=.sN) (g:=3) (by simp[mJ]) (by kernel_rfl);refine (Any.strconv_Itoa BF n h3' h4' W htab).mono ?_;rintro e w' ⟨rfl,k,os,rfl⟩;exact ⟨rfl,ub W k os⟩
theorem BE{w wr:World}(hl:eH Tryz.prog w (fun _=>False))(h:Below w.heap.size w wr):eH Tryz.prog wr (fun _=>False) :=
 hl.BA (M:=fun b=>w.heap.size≤b) ⟨h.os,h.tape,h.output,h.size,fun k hk=>h.block k (by omega)⟩ (fun b hb=>.inl hb) (fun b hb=>hb.elim)
theorem rZ{B b:Nat}{l:List UInt8}{w w':World}(hI:kP B b l w)(h:Below w.heap.size w w'):kP B b l w':=by
 have key:∀ p,Lib.BuilderAtF 205 5 B b p (Lib.byteCells l) w→Lib.BuilderAtF 205 5 B b p (Lib.byteCells l) w':=by
  rintro p ⟨h1,v,h2,⟨h3,h4⟩,h5⟩;refine ⟨h1,v,(h.block b (eQ h2)).trans h2,⟨h3,?_⟩,h5⟩;rcases h4 with h4 | ⟨g,cap,cur,fz,k1,k2,k3,k4⟩
  ·exact .inl h4
  ·exact .inr ⟨g,cap,cur,fz,k1,k2,(h.block g (eQ k3)).trans k3,k4⟩
 exact hI.imp (key _) (key _)
theorem IL(a:List UInt8)(t:ByteArray):((⟨a.toArray⟩:ByteArray)++t)=⟨(a++t.data.toList).toArray⟩:=by
 apply ByteArray.ext;simp[ByteArray.data_append]
theorem YW(l:List Int)(n:Int):dJ (l++[n])=dJ l++(Lib.itoa n++[32]):=by simp[dJ]
theorem Hg(m n k d kn om on:Int)(t:ByteArray)(w:World)(hl:eH Tryz.prog w (fun _=>False))(hbd:∀ x∈[m,n,k,d,kn,om,on],IntKind.i64.min≤x∧x≤IntKind.i64.max)(ht:t.size≤1000000000000) :
  Calls Tryz.prog 131 #[.agg #[.int .i64 m,.int .i64 n,.int .i64 k,.int .i64 d,.int .i64 kn,.int .i64 om,.int .i64 on,.string t]] w fun e w'=>e=.returned (.string ⟨(dJ [m,n,k,d,kn,om,on]++t.data.toList).toArray⟩)∧Below w.heap.size w w':=by
 obtain ⟨vs,hvs⟩:∃ vs:List Int,vs=[m,n,k,d,kn,om,on]:=⟨_,rfl⟩
 have hvl:vs.length=7:=by rw[hvs];rfl
 rw[←hvs] at hbd;have hlen:∀ j,(dJ (vs.take j)).length≤22*j:=by
  intro j;have:∀ l:List Int,(∀ x∈l,IntKind.i64.min≤x∧x≤IntKind.i64.max)→(dJ l).length≤22*l.length:=by
   intro l
   induction l with
   |nil=>intro _;simp[dJ]
   |cons x l ih =>
    intro h;have h1:=ih fun y hy=>h y (by simp[hy]);have h2:=Lib.itoa_length_le x (h x (by simp)).1 (h x (by simp)).2;simp only[dJ] at h1;simp only[dJ,List.flatMap_cons,Z1,zx0,zx1];omega
  have h3:=this (vs.take j) fun x hx=>hbd x (List.mem_of_mem_take hx);have h4:(vs.take j).length≤j:=by rw[Z9];omega
  omega
 go_enter Tryz.func131,Tryz.ntmps131
 go_wp2
 go_loopw [26] (fun i wr=>∃ j:Nat,j≤7∧i=.int .i64 j∧kP w.heap.size (w.heap.size+1) (dJ (vs.take j)) wr∧wr.heap[w.heap.size]?=some (.cells #[.int .i64 m,.int .i64 n,.int .i64 k,.int .i64 d,.int .i64 kn,.int .i64 om,.int .i64 on,.string t] 50) ∧
  wr.heap[w.heap.size+1+1]?=some (.cells (vs.map (Value.int .i64)).toArray 3)∧Below w.heap.size w wr) (fun i _=>7-(RowKit.intOf i).toNat)
 case atStart =>
  obtain ⟨c1,hc1⟩:∃ c1,c1=Obj.cells #[.int .i64 m,.int .i64 n,.int .i64 k,.int .i64 d,.int .i64 kn,.int .i64 om,.int .i64 on,.string t] 50:=⟨_,rfl⟩
  have hv0:(#[.int .i64 m,.int .i64 n,.int .i64 k,.int .i64 d,.int .i64 kn,.int .i64 om,.int .i64 on]:Array Value)=(vs.map (Value.int .i64)).toArray:=by rw[hvs];rfl
  rw[←hc1,hv0];obtain ⟨w1,hw1⟩:∃ w1,w1=w.alloc c1:=⟨_,rfl⟩
  obtain ⟨w2,hw2⟩:∃ w2,w2=w1.alloc (Obj.cells #[Value.pointer none,Value.slice none 0 0] 205):=⟨_,rfl⟩
  obtain ⟨w3,hw3⟩:∃ w3,w3=w2.alloc (Obj.cells (vs.map (Value.int .i64)).toArray 3):=⟨_,rfl⟩
  have s1:w1.heap.size=w.heap.size+1:=by rw[hw1];simp
  have s2:w2.heap.size=w.heap.size+1+1:=by rw[hw2];simp[s1]
  have b1:Below w.heap.size w w1:=hw1▸jh w c1;have b2:Below w1.heap.size w1 w2:=hw2▸jh w1 _;have b3:Below w2.heap.size w2 w3:=hw3▸jh w2 _;have e1:w1.heap[w.heap.size]?=some c1:=hw1▸heap_alloc_new w c1;have e2:w2.heap[w1.heap.size]?=some (Obj.cells #[Value.pointer none,Value.slice none 0 0] 205):=hw2▸heap_alloc_new w1 _;have e3:w3.heap[w2.heap.size]?=some (Obj.cells (vs.map (Value.int .i64)).toArray 3):=hw3▸heap_alloc_new w2 _;rw[←hw1,←hw2,←hw3];refine ⟨0,by omega,rfl,.inl ⟨by omega,.slice none 0 0,?_,⟨rfl,.inl ⟨rfl,rfl⟩⟩,by simp[Value.ownBlock]⟩,?_,?_,?_⟩
  ·rw[b3.block _ (by omega),←s1];exact e2
  ·rw[b3.block _ (by omega),b2.block _ (by omega)];exact e1
  ·rw[←s2];exact e3
  ·exact (b1.trans (b2.mono (by omega))).trans (b3.mono (by omega))
 case round =>
  obtain ⟨j,hj,rfl,hI,hr,hv,hbw⟩:=hrel;have hB1:w.heap.size≤wr.heap.size:=hbw.size;by_cases hlt:j<7
  ·have hjv:j<vs.length:=by omega
   have hc:wr.cell? ⟨w.heap.size+1+1,j,none⟩=some (.int .i64 vs[j]):=by
    simp[World.cell?,hv,hjv]
   have hbx:=hbd vs[j] (List.getElem_mem hjv);have jM:=Lib.itoa_length_le vs[j] hbx.1 hbx.2;have hj2:=hlen j;have htk:dJ (vs.take (j+1))=dJ (vs.take j)++(Lib.itoa vs[j]++[32]):=by rw[List.take_succ_eq_append_getElem hjv,YW]
   generalize vs[j]=x at *;have hsz:((⟨(Lib.itoa x).toArray⟩:ByteArray)++⟨#[32]⟩).size=(Lib.itoa x).length+1:=by rw[ByteArray.size_append];rfl
   have hdat:((⟨(Lib.itoa x).toArray⟩:ByteArray)++⟨#[32]⟩).data.toList=Lib.itoa x++[32]:=by simp
   have hlt':decide ((j:Int)<7)=true:=by simp;omega
   have hw:=ew (i:=j) (by omega)
   go_wp2_with (first | (go_at_call 132;refine (V4 x hbx _ (BE hl hbw)).mono ?_;rintro e W1 ⟨rfl,hb1⟩) | (go_at_call 156;refine (Fi w.heap.size (w.heap.size+1) _ _ _ (rZ hI hb1) (by rw[hsz];omega) (by have:=hb1.size;omega)).mono ?_;rintro e W2 ⟨rfl,hI2,hb2,hk2⟩))
   have q1:w.heap.size<wr.heap.size:=eQ hr;have q2:w.heap.size+1+1<wr.heap.size:=eQ hv;refine ⟨⟨j+1,by omega,rfl,?_,?_,?_,?_⟩,by simp only[RowKit.intOf];omega⟩
   ·rw[htk];rw[hdat] at hI2;exact hI2
   ·exact hk2 _ _ ((hb1.block _ q1).trans hr) (by simp) (fun c fz e=>by cases e)
   ·exact hk2 _ _ ((hb1.block _ q2).trans hv) (by simp) (fun c fz e=>by cases e)
   ·exact (hbw.trans (hb1.mono hB1)).trans hb2
  ·have hj7:j=7:=by omega
   subst hj7;have hlt':decide (((7:Nat):Int)<7)=false:=by decide
   rw[List.take_of_length_le (by omega)] at hI;have hcr:wr.cell? ⟨w.heap.size,7,none⟩=some (.string t):=by simp[World.cell?,hr]
   have q1:w.heap.size<wr.heap.size:=eQ hr
   go_wp2
   have hI1:kP w.heap.size (w.heap.size+1) (dJ vs) wr.drew:=rZ hI ⟨rfl,rfl,rfl,Z7 _,fun _ _=>rfl⟩;have hcd:wr.drew.cell? ⟨w.heap.size,7,none⟩=some (.string t):=hcr;have bd:∀ W2,tN (w.heap.size+1) wr.drew W2→W2.cell? ⟨w.heap.size,7,none⟩=some (.string t):=fun W2 hk=>by
    have:=hk _ _ hr (by simp) (fun c fz e=>by cases e);simp[World.cell?,this]
   have hl7:=hlen 7;rw[List.take_of_length_le (by omega)] at hl7;have hsum:¬ (9223372036854775807<(⟨(dJ vs).toArray⟩:ByteArray).size+t.size):=by
    have e1:(⟨(dJ vs).toArray⟩:ByteArray).size=(dJ vs).length:=by show (dJ vs).toArray.size=_;simp
    rw[e1];omega
   have hdr:Below w.heap.size wr wr.drew:=⟨rfl,rfl,rfl,Z7 _,fun _ _=>rfl⟩
   have hcall:=x8 w.heap.size (w.heap.size+1) _ _ hI1 (by show _≤wr.heap.size;omega);generalize hS:(⟨(dJ vs).toArray⟩:ByteArray)=S at *
   go_region_with (go_at_call 157;refine (hcall).mono ?_;rintro e W2 ⟨rfl,hI2,hb2,hk2⟩;have hc2:=bd W2 hk2)
   all_goals go_wp2
   all_goals go_ret
   all_goals refine ⟨?_,(hbw.trans hdr).trans hb2⟩
   all_goals rw[←hvs,←hS,IL]
   all_goals rfl
theorem D5{w:World}{D:aJ}{E:aN}{r:ah}{v:Value}(h:aR w D E (enc r) v):v=.agg #[.int .i64 r.aM,.int .i64 r.no,.int .i64 r.kind,.int .i64 r.ea,.int .i64 r.known,.int .i64 r.fq,.int .i64 r.fC,.string ⟨r.text.toArray⟩] ∧
  (∀ x∈eM r,IntKind.i64.min≤x∧x≤IntKind.i64.max)∧r.text.length≤maxLen:=by
 obtain ⟨cs,h1,h2⟩:=h;have h2':ae w D E (.agg [.agg [.int .i64 r.aM,.int .i64 r.no],.int .i64 r.kind,.int .i64 r.ea,.int .i64 r.known,.agg [.int .i64 r.fq,.int .i64 r.fC],.ak ⟨r.text.toArray⟩]) cs:=h2;simp only[ae,aH] at h2';obtain ⟨_,_,rfl,⟨_,_,rfl,⟨rfl,a1⟩,_,_,rfl,⟨rfl,a2⟩,rfl⟩,_,_,rfl,⟨rfl,a3⟩,_,_,rfl,⟨rfl,a4⟩,_,_,rfl,⟨rfl,a5⟩,_,_,rfl,⟨_,_,rfl,⟨rfl,a6⟩,_,_,rfl,⟨rfl,a7⟩,rfl⟩,_,_,rfl,⟨rfl,a8⟩,rfl⟩:=h2';refine ⟨h1,?_,by simpa[ByteArray.size] using a8⟩;intro x hx;simp only[eM,zy8,List.not_mem_nil,or_false] at hx;rcases hx with rfl | rfl | rfl | rfl | rfl | rfl | rfl <;>assumption
theorem FA(r:ah)(hs:r.text.length≤1000000000000):aQ Tryz.prog 131 [enc r] (enc (ay.of (di r))):=by
 refine ⟨Hz,fun w D vs hl hD hv =>?_⟩;have hv':=hv;simp only[ar] at hv';obtain ⟨v,rest,cs,rfl,h1,h2,rfl⟩:=hv';obtain ⟨rfl,hb,_⟩:=D5 (fB h1 h2);refine (Hg _ _ _ _ _ _ _ ⟨r.text.toArray⟩ w hl hb (by show r.text.toArray.size≤_;simpa using hs)).mono ?_;rintro e w' ⟨rfl,hbl⟩;have hlen:(di r).length≤1000000001000:=by
  have:∀ l:List Int,(∀ x∈l,IntKind.i64.min≤x∧x≤IntKind.i64.max)→(dJ l).length≤22*l.length:=by
   intro l
   induction l with
   |nil=>intro _;simp[dJ]
   |cons x l ih =>
    intro h;have h1:=ih fun y hy=>h y (by simp[hy]);have h2:=Lib.itoa_length_le x (h x (by simp)).1 (h x (by simp)).2;simp only[dJ] at h1;simp only[dJ,List.flatMap_cons,Z1,zx0,zx1];omega
  have h3:=this (eM r) hb;have h4:(eM r).length=7:=rfl;rw[di,Z1];omega
 exact ⟨_,D,rfl,Em (l:=di r) (by unfold maxLen;omega),hbl,fun b o hd=>zx8 (hD b o hd) hbl.size,fun _ _ h _=>h⟩
end Go.Proofs.YtoffnnjbplgnaaaGreatDoor
namespace Go.Proofs.YtoffnnjbplgnaaaGreatDoor
open Go Go.Abs
open Go.Abs.Enc (enc)
def gh(c:UInt8):Bool := !(decide ((c.toNat:Int)<32)||(decide ((c.toNat:Int)>126)||((c.toNat:Int)==63)))
def gP(t:List UInt8):Bool:=decide (t.length≤160)&&t.all gh
theorem Cl{t:List UInt8}{i:Nat}(h:i<t.length)(h1:(t.take i).all gh=true):(gh t[i]=true→(t.take (i+1)).all gh=true)∧(gh t[i]=false→t.all gh=false):=by
 refine ⟨fun h2 =>?_,fun h2 =>?_⟩
 ·rw[List.take_succ_eq_append_getElem h,List.all_append,h1];simp[h2]
 ·rw[List.all_eq_false];exact ⟨t[i],List.getElem_mem h,by simp[h2]⟩
theorem oK(t:List UInt8):lT (enc (ay.of t))=some (.int .i64 (t.length:Int)):=by rw[qn,ay.dI]
theorem EB(t:List UInt8){i:Nat}(h:i<t.length):ep .dK [enc (ay.of t),.int .i64 (i:Int)]=some (.int .u8 (t[i].toNat:Int)):=EA (ay.of t) h
theorem wz(t:List UInt8):lB (enc (ay.of t))=some (t.map enc):=rfl
theorem Fz(t:List UInt8):aQ Tryz.prog 130 [enc (ay.of t)] (enc (gP t)):=by
 refine aQ.bO Tryz.func130 Hy IX Kj (t8 rfl) (fun hwf W0 bE E1 =>?_);simp only[yp,CU,bD];clear hwf;have hl:=oK t;have hsb:=wz t;rcases q:decide ((t.length:Int)>160)
 rotate_left
 ·have h1:(t.length:Int)>160:=of_decide_eq_true q;rw[show gP t=false by simp only[gP];rw[decide_eq_false (by omega)];rfl];have R:=y6 @hl (y6 @q (y6 @bu aw))
  repeat' ((first |(with_reducible refine .guard (fun hb =>?_) (fun hb =>?_) <;>try simp only[hb])|refine U.aC (by decide +kernel) rfl fun K hK =>?_|(refine .aA [0,2,4,7,9,10,11,12,24] hK ?_;clear hK K)|(with_reducible refine .done (hK _ ?_);clear hK K)|refine U.of rfl ?_|(with_reducible refine aj.aB (fun h =>?_) (fun h =>?_) <;>try simp only[h])) <;>try simp only[aD,R,simprocAttr])
  all_goals clear R
  all_goals rfl
 have h1:¬ (t.length:Int)>160:=of_decide_eq_false q;rw[show gP t=t.all gh by simp only[gP];rw[decide_eq_true (by omega)];rfl];have R:=y6 @hl (y6 @hsb (y6 @q (y6 @bu (y6 @gC aw))))
 repeat' ((first |(with_reducible refine .guard (fun hb =>?_) (fun hb =>?_) <;>try simp only[hb])|refine aZ.eN rfl fun m =>?_|refine U.aC (by decide +kernel) rfl fun K hK =>?_|(refine .aA [0,2,4,7,9,10,11,12,24] hK ?_;clear hK K)|(with_reducible refine .done (hK _ ?_);clear hK K)|refine U.of rfl ?_|(with_reducible refine aj.aB (fun h =>?_) (fun h =>?_) <;>try simp only[h])) <;>try simp only[aD,R,simprocAttr])
 all_goals clear R
 refine U.loop (fun i:Nat=>aq [(0,enc (ay.of t)),(9,enc t),(10,.int .i64 t.length),(11,.int .i64 i)] []) (fun i=>i≤t.length∧(t.take i).all gh=true) (fun i=>t.length-i) 0 ⟨zx7 _,rfl⟩ ?_ ?_
 ·refine bl.jJ [9] 9 (x:=.view 9 [] 1 0 t.length) (y:=enc t) rfl (Ar rfl) ?_ ?_ ?_ ?_ ?_ <;>simp[c7,bA,bG,bJ,bF,fO,bH,I.only,bp]
 rintro i ⟨hi,hok⟩;by_cases hlt:i<t.length
 ·have hlc:=eC hlt;have he:=fun A=>ec (A:=A) 1 hlt rfl;have hw:=ew (i:=i) (by omega);obtain ⟨h2,h3⟩:=Cl hlt hok;generalize t[i]=c at *;rcases q1:decide ((c.toNat:Int)<32)
  rotate_left
  ·rw[h3 (by simp[gh,q1])];have R:=y6 @hl (y6 @hlc (y6 @he (y6 @hw (y6 @q1 (y6 @qp (y6 @bu aw))))))
   repeat' ((first |(with_reducible refine .guard (fun hb =>?_) (fun hb =>?_) <;>try simp only[hb])|refine U.aC (by decide +kernel) rfl fun K hK =>?_|(refine .aA [0,2,4,7,9,10,11,12,24] hK ?_;clear hK K)|(with_reducible refine .done (hK _ ?_);clear hK K)|refine U.of rfl ?_|(with_reducible refine aj.aB (fun h =>?_) (fun h =>?_) <;>try simp only[h])) <;>try simp only[aD,R,simprocAttr])
   all_goals clear R
   all_goals rfl
  rcases q2:decide ((c.toNat:Int)>126)
  rotate_left
  ·rw[h3 (by simp only[gh,q1,q2];rfl)];have R:=y6 @hl (y6 @hlc (y6 @he (y6 @hw (y6 @q1 (y6 @q2 (y6 @qp (y6 @bu aw)))))))
   repeat' ((first |(with_reducible refine .guard (fun hb =>?_) (fun hb =>?_) <;>try simp only[hb])|refine U.aC (by decide +kernel) rfl fun K hK =>?_|(refine .aA [0,2,4,7,9,10,11,12,24] hK ?_;clear hK K)|(with_reducible refine .done (hK _ ?_);clear hK K)|refine U.of rfl ?_|(with_reducible refine aj.aB (fun h =>?_) (fun h =>?_) <;>try simp only[h])) <;>try simp only[aD,R,simprocAttr])
   all_goals clear R
   all_goals rfl
  rcases q3:((c.toNat:Int)==63)
  rotate_left
  ·rw[h3 (by simp only[gh,q1,q2,q3];rfl)];have R:=y6 @hl (y6 @hlc (y6 @he (y6 @hw (y6 @q1 (y6 @q2 (y6 @q3 (y6 @qp (y6 @bu aw))))))))
   repeat' ((first |(with_reducible refine .guard (fun hb =>?_) (fun hb =>?_) <;>try simp only[hb])|refine U.aC (by decide +kernel) rfl fun K hK =>?_|(refine .aA [0,2,4,7,9,10,11,12,24] hK ?_;clear hK K)|(with_reducible refine .done (hK _ ?_);clear hK K)|refine U.of rfl ?_|(with_reducible refine aj.aB (fun h =>?_) (fun h =>?_) <;>try simp only[h])) <;>try simp only[aD,R,simprocAttr])
   all_goals clear R
   all_goals rfl
  have h4:=h2 (by simp only[gh,q1,q2,q3];rfl);have R:=y6 @hl (y6 @hlc (y6 @he (y6 @hw (y6 @q1 (y6 @q2 (y6 @q3 (y6 @qp (y6 @bu aw))))))))
  repeat' ((first |(with_reducible refine .guard (fun hb =>?_) (fun hb =>?_) <;>try simp only[hb])|refine U.aC (by decide +kernel) rfl fun K hK =>?_|(refine .aA [0,2,4,7,9,10,11,12,24] hK ?_;clear hK K)|(with_reducible refine .done (hK _ ?_);clear hK K)|refine U.of rfl ?_|(with_reducible refine aj.aB (fun h =>?_) (fun h =>?_) <;>try simp only[h])) <;>try simp only[aD,R,simprocAttr])
  all_goals clear R
  refine ⟨i+1,⟨by omega,h4⟩,by omega,?_⟩;clear h2 h3 h4 hok;refine bl.b6 ?_ ?_ ?_ ?_ <;>simp[bG,bJ,bF,bA,bH,I.only,bp]
 ·have hlc:=eV hlt;have hge:i=t.length:=by omega
  rw[hge,List.take_length] at hok;rw[hok];have R:=y6 @hl (y6 @hlc (y6 @bu aw))
  repeat' ((first |(with_reducible refine .guard (fun hb =>?_) (fun hb =>?_) <;>try simp only[hb])|refine U.aC (by decide +kernel) rfl fun K hK =>?_|(refine .aA [0,2,4,7,9,10,11,12,24] hK ?_;clear hK K)|(with_reducible refine .done (hK _ ?_);clear hK K)|refine U.of rfl ?_|(with_reducible refine aj.aB (fun h =>?_) (fun h =>?_) <;>try simp only[h])) <;>try simp only[aD,R,simprocAttr])
  all_goals clear R
  all_goals rfl
theorem F4(t:List UInt8):aQ Tryz.prog 86 [enc (ay.of t)] (enc (gP t)):=by
 refine aQ.bO Tryz.func86 Ir JG K4 (t8 rfl) (fun hwf W0 bE E1 =>?_);simp only[zc,DH,bD];clear hwf;have hl:=oK t;rcases q:decide ((t.length:Int)>160)
 rotate_left
 ·have h1:(t.length:Int)>160:=of_decide_eq_true q;rw[show gP t=false by simp only[gP];rw[decide_eq_false (by omega)];rfl];have R:=y6 @hl (y6 @q (y6 @bu aw))
  repeat' ((first |(with_reducible refine .guard (fun hb =>?_) (fun hb =>?_) <;>try simp only[hb])|refine U.aC (by decide +kernel) rfl fun K hK =>?_|(refine .aA [0,2,3,6,10,28] hK ?_;clear hK K)|(with_reducible refine .done (hK _ ?_);clear hK K)|refine U.of rfl ?_|(with_reducible refine aj.aB (fun h =>?_) (fun h =>?_) <;>try simp only[h])) <;>try simp only[aD,R,simprocAttr])
  all_goals clear R
  all_goals rfl
 have h1:¬ (t.length:Int)>160:=of_decide_eq_false q;rw[show gP t=t.all gh by simp only[gP];rw[decide_eq_true (by omega)];rfl];have R:=y6 @hl (y6 @q (y6 @bu aw))
 repeat' ((first |(with_reducible refine .guard (fun hb =>?_) (fun hb =>?_) <;>try simp only[hb])|refine U.aC (by decide +kernel) rfl fun K hK =>?_|(refine .aA [0,2,3,6,10,28] hK ?_;clear hK K)|(with_reducible refine .done (hK _ ?_);clear hK K)|refine U.of rfl ?_|(with_reducible refine aj.aB (fun h =>?_) (fun h =>?_) <;>try simp only[h])) <;>try simp only[aD,R,simprocAttr])
 all_goals clear R
 refine U.loop (fun i:Nat=>aq [(0,enc (ay.of t)),(3,.int .i64 i)] []) (fun i=>i≤t.length∧(t.take i).all gh=true) (fun i=>t.length-i) 0 ⟨zx7 _,rfl⟩ ?_ ?_
 ·refine bl.b6 ?_ ?_ ?_ ?_ <;>simp[bG,bJ,bF,bA,bH,I.only,bp]
 rintro i ⟨hi,hok⟩;by_cases hlt:i<t.length
 ·have hlc:=eC hlt;have he:=EB t hlt;have hw:=ew (i:=i) (by omega);obtain ⟨h2,h3⟩:=Cl hlt hok;generalize t[i]=c at *;rcases q1:decide ((c.toNat:Int)<32)
  rotate_left
  ·rw[h3 (by simp[gh,q1])];have R:=y6 @hl (y6 @hlc (y6 @he (y6 @hw (y6 @q1 (y6 @bu aw)))))
   repeat' ((first |(with_reducible refine .guard (fun hb =>?_) (fun hb =>?_) <;>try simp only[hb])|refine U.aC (by decide +kernel) rfl fun K hK =>?_|(refine .aA [0,2,3,6,10,28] hK ?_;clear hK K)|(with_reducible refine .done (hK _ ?_);clear hK K)|refine U.of rfl ?_|(with_reducible refine aj.aB (fun h =>?_) (fun h =>?_) <;>try simp only[h])) <;>try simp only[aD,R,simprocAttr])
   all_goals clear R
   all_goals rfl
  rcases q2:decide ((c.toNat:Int)>126)
  rotate_left
  ·rw[h3 (by simp only[gh,q1,q2];rfl)];have R:=y6 @hl (y6 @hlc (y6 @he (y6 @hw (y6 @q1 (y6 @q2 (y6 @bu aw))))))
   repeat' ((first |(with_reducible refine .guard (fun hb =>?_) (fun hb =>?_) <;>try simp only[hb])|refine U.aC (by decide +kernel) rfl fun K hK =>?_|(refine .aA [0,2,3,6,10,28] hK ?_;clear hK K)|(with_reducible refine .done (hK _ ?_);clear hK K)|refine U.of rfl ?_|(with_reducible refine aj.aB (fun h =>?_) (fun h =>?_) <;>try simp only[h])) <;>try simp only[aD,R,simprocAttr])
   all_goals clear R
   all_goals rfl
  rcases q3:((c.toNat:Int)==63)
  rotate_left
  ·rw[h3 (by simp only[gh,q1,q2,q3];rfl)];have R:=y6 @hl (y6 @hlc (y6 @he (y6 @hw (y6 @q1 (y6 @q2 (y6 @q3 (y6 @bu aw)))))))
   repeat' ((first |(with_reducible refine .guard (fun hb =>?_) (fun hb =>?_) <;>try simp only[hb])|refine U.aC (by decide +kernel) rfl fun K hK =>?_|(refine .aA [0,2,3,6,10,28] hK ?_;clear hK K)|(with_reducible refine .done (hK _ ?_);clear hK K)|refine U.of rfl ?_|(with_reducible refine aj.aB (fun h =>?_) (fun h =>?_) <;>try simp only[h])) <;>try simp only[aD,R,simprocAttr])
   all_goals clear R
   all_goals rfl
  have h4:=h2 (by simp only[gh,q1,q2,q3];rfl);have R:=y6 @hl (y6 @hlc (y6 @he (y6 @hw (y6 @q1 (y6 @q2 (y6 @q3 (y6 @bu aw)))))))
  repeat' ((first |(with_reducible refine .guard (fun hb =>?_) (fun hb =>?_) <;>try simp only[hb])|refine U.aC (by decide +kernel) rfl fun K hK =>?_|(refine .aA [0,2,3,6,10,28] hK ?_;clear hK K)|(with_reducible refine .done (hK _ ?_);clear hK K)|refine U.of rfl ?_|(with_reducible refine aj.aB (fun h =>?_) (fun h =>?_) <;>try simp only[h])) <;>try simp only[aD,R,simprocAttr])
  all_goals clear R
  refine ⟨i+1,⟨by omega,h4⟩,by omega,?_⟩;clear h2 h3 h4 hok;refine bl.b6 ?_ ?_ ?_ ?_ <;>simp[bG,bJ,bF,bA,bH,I.only,bp]
 ·have hlc:=eV hlt;have hge:i=t.length:=by omega
  rw[hge,List.take_length] at hok;rw[hok];have R:=y6 @hl (y6 @hlc (y6 @bu aw))
  repeat' ((first |(with_reducible refine .guard (fun hb =>?_) (fun hb =>?_) <;>try simp only[hb])|refine U.aC (by decide +kernel) rfl fun K hK =>?_|(refine .aA [0,2,3,6,10,28] hK ?_;clear hK K)|(with_reducible refine .done (hK _ ?_);clear hK K)|refine U.of rfl ?_|(with_reducible refine aj.aB (fun h =>?_) (fun h =>?_) <;>try simp only[h])) <;>try simp only[aD,R,simprocAttr])
  all_goals clear R
  all_goals rfl
def oz(r:ah):Bool:=(r.ea==0)&&(decide (r.text=[])&&(iC r.gf&&((r.fq==r.aM)&&decide (r.fC<r.no))))
def gi(r:ah):Bool:=iC r.aY&&(en 0 40 r.kind&&(en 0 100000 r.ea&&(en 0 100000 r.known&&gP r.text)))
def bm(r:ah):Bool:=gi r&&(if r.kind=0 then oz r else decide (r.gf=⟨0,0⟩))
theorem iw:(I.ak ⟨#[]⟩)=enc (ay.of []):=rfl
theorem pt:(I.agg [.int .i64 0,.int .i64 0])=enc (⟨0,0⟩:Item):=rfl
theorem lC(a b:List UInt8):bN .eql (enc (ay.of a)) (enc (ay.of b))=some (.bool (decide (a=b))):=by rw[wv];simp only[ay.sD]
theorem iH(a b:List UInt8):bN .neq (enc (ay.of a)) (enc (ay.of b))=some (.bool (!decide (a=b))):=by rw[wy];simp only[ay.sD]
theorem oW(r:ah):aQ Tryz.prog 80 [enc r] (enc (bm r)):=by
 refine aQ.bO Tryz.func80 Il JB KZ (t8 rfl) (fun hwf W0 bE E1 =>?_);simp only[c80,DB,bD];clear hwf;have f1:=xd r.aY;have f2:=me r.kind 0 40;have f3:=xb r.ea;have f4:=xb r.known;have f5:=Fz r.text;have f6:=xd r.gf;cases q1:iC r.aY
 ·rw[q1] at f1;rw[show bm r=false by simp only[bm,gi,q1,Bool.false_and]];have R:=y6 @q1 (y6 @bu aw)
  repeat' ((first |(with_reducible refine .guard (fun hb =>?_) (fun hb =>?_) <;>try simp only[hb])|refine U.aC (by decide +kernel) rfl fun K hK =>?_|refine .flat _ (f1) rfl ?_|refine .flat _ (f2) rfl ?_|refine .flat _ (f3) rfl ?_|refine .flat _ (f4) rfl ?_|refine .flat _ (f5) rfl ?_|(refine .aA [0,1,2,30,33] hK ?_;clear hK K)|(with_reducible refine .done (hK _ ?_);clear hK K)|refine U.of rfl ?_|(with_reducible refine aj.aB (fun h =>?_) (fun h =>?_) <;>try simp only[h])) <;>try simp only[aD,R,simprocAttr])
  all_goals clear R
  all_goals rfl
 rw[q1] at f1;cases q2:en 0 40 r.kind
 ·rw[q2] at f2;rw[show bm r=false by simp only[bm,gi,q1,q2,Bool.false_and,Bool.and_false]];have R:=y6 @bu aw
  repeat' ((first |(with_reducible refine .guard (fun hb =>?_) (fun hb =>?_) <;>try simp only[hb])|refine U.aC (by decide +kernel) rfl fun K hK =>?_|refine .flat _ (f1) rfl ?_|refine .flat _ (f2) rfl ?_|refine .flat _ (f3) rfl ?_|refine .flat _ (f4) rfl ?_|refine .flat _ (f5) rfl ?_|(refine .aA [0,1,2,30,33] hK ?_;clear hK K)|(with_reducible refine .done (hK _ ?_);clear hK K)|refine U.of rfl ?_|(with_reducible refine aj.aB (fun h =>?_) (fun h =>?_) <;>try simp only[h])) <;>try simp only[aD,R,simprocAttr])
  all_goals clear R
  all_goals rfl
 rw[q2] at f2;cases q3:en 0 100000 r.ea
 ·rw[q3] at f3;rw[show bm r=false by simp only[bm,gi,q1,q2,q3,Bool.false_and,Bool.and_false]];have R:=y6 @bu aw
  repeat' ((first |(with_reducible refine .guard (fun hb =>?_) (fun hb =>?_) <;>try simp only[hb])|refine U.aC (by decide +kernel) rfl fun K hK =>?_|refine .flat _ (f1) rfl ?_|refine .flat _ (f2) rfl ?_|refine .flat _ (f3) rfl ?_|refine .flat _ (f4) rfl ?_|refine .flat _ (f5) rfl ?_|(refine .aA [0,1,2,30,33] hK ?_;clear hK K)|(with_reducible refine .done (hK _ ?_);clear hK K)|refine U.of rfl ?_|(with_reducible refine aj.aB (fun h =>?_) (fun h =>?_) <;>try simp only[h])) <;>try simp only[aD,R,simprocAttr])
  all_goals clear R
  all_goals rfl
 rw[q3] at f3;cases q4:en 0 100000 r.known
 ·rw[q4] at f4;rw[show bm r=false by simp only[bm,gi,q1,q2,q3,q4,Bool.false_and,Bool.and_false]];have R:=y6 @bu aw
  repeat' ((first |(with_reducible refine .guard (fun hb =>?_) (fun hb =>?_) <;>try simp only[hb])|refine U.aC (by decide +kernel) rfl fun K hK =>?_|refine .flat _ (f1) rfl ?_|refine .flat _ (f2) rfl ?_|refine .flat _ (f3) rfl ?_|refine .flat _ (f4) rfl ?_|refine .flat _ (f5) rfl ?_|(refine .aA [0,1,2,30,33] hK ?_;clear hK K)|(with_reducible refine .done (hK _ ?_);clear hK K)|refine U.of rfl ?_|(with_reducible refine aj.aB (fun h =>?_) (fun h =>?_) <;>try simp only[h])) <;>try simp only[aD,R,simprocAttr])
  all_goals clear R
  all_goals rfl
 rw[q4] at f4;cases q5:gP r.text
 ·rw[q5] at f5;rw[show bm r=false by simp only[bm,gi,q1,q2,q3,q4,q5,Bool.false_and,Bool.and_false]];have R:=y6 @bu aw
  repeat' ((first |(with_reducible refine .guard (fun hb =>?_) (fun hb =>?_) <;>try simp only[hb])|refine U.aC (by decide +kernel) rfl fun K hK =>?_|refine .flat _ (f1) rfl ?_|refine .flat _ (f2) rfl ?_|refine .flat _ (f3) rfl ?_|refine .flat _ (f4) rfl ?_|refine .flat _ (f5) rfl ?_|(refine .aA [0,1,2,30,33] hK ?_;clear hK K)|(with_reducible refine .done (hK _ ?_);clear hK K)|refine U.of rfl ?_|(with_reducible refine aj.aB (fun h =>?_) (fun h =>?_) <;>try simp only[h])) <;>try simp only[aD,R,simprocAttr])
  all_goals clear R
  all_goals rfl
 rw[q5] at f5;have hH:gi r=true:=by simp only[gi,q1,q2,q3,q4,q5,Bool.and_self]
 cases k:(r.kind==0)
 ·rw[show bm r=decide (r.gf=⟨0,0⟩) by simp only[bm,hH,Bool.true_and];rw[if_neg (by simpa using k)]];have R:=y6 @k (y6 @pt (y6 @bu aw))
  repeat' ((first |(with_reducible refine .guard (fun hb =>?_) (fun hb =>?_) <;>try simp only[hb])|refine U.aC (by decide +kernel) rfl fun K hK =>?_|refine .flat _ (f1) rfl ?_|refine .flat _ (f2) rfl ?_|refine .flat _ (f3) rfl ?_|refine .flat _ (f4) rfl ?_|refine .flat _ (f5) rfl ?_|(refine .aA [0,1,2,30,33] hK ?_;clear hK K)|(with_reducible refine .done (hK _ ?_);clear hK K)|refine U.of rfl ?_|(with_reducible refine aj.aB (fun h =>?_) (fun h =>?_) <;>try simp only[h])) <;>try simp only[aD,R,simprocAttr])
  all_goals clear R
  all_goals rfl
 rw[show bm r=oz r by simp only[bm,hH,Bool.true_and];rw[if_pos (by simpa using k)]];simp only[oz];cases w1:(r.ea==0)
 ·have R:=y6 @k (y6 @w1 (y6 @iw (y6 @lC (y6 @bu aw))))
  repeat' ((first |(with_reducible refine .guard (fun hb =>?_) (fun hb =>?_) <;>try simp only[hb])|refine U.aC (by decide +kernel) rfl fun K hK =>?_|refine .flat _ (f1) rfl ?_|refine .flat _ (f2) rfl ?_|refine .flat _ (f3) rfl ?_|refine .flat _ (f4) rfl ?_|refine .flat _ (f5) rfl ?_|refine .flat _ (f6) rfl ?_|(refine .aA [0,1,2,30,33] hK ?_;clear hK K)|(with_reducible refine .done (hK _ ?_);clear hK K)|refine U.of rfl ?_|(with_reducible refine aj.aB (fun h =>?_) (fun h =>?_) <;>try simp only[h])) <;>try simp only[aD,R,simprocAttr])
  all_goals clear R
  all_goals rfl
 cases w2:decide (r.text=[])
 ·have R:=y6 @k (y6 @w1 (y6 @w2 (y6 @iw (y6 @lC (y6 @bu aw)))))
  repeat' ((first |(with_reducible refine .guard (fun hb =>?_) (fun hb =>?_) <;>try simp only[hb])|refine U.aC (by decide +kernel) rfl fun K hK =>?_|refine .flat _ (f1) rfl ?_|refine .flat _ (f2) rfl ?_|refine .flat _ (f3) rfl ?_|refine .flat _ (f4) rfl ?_|refine .flat _ (f5) rfl ?_|refine .flat _ (f6) rfl ?_|(refine .aA [0,1,2,30,33] hK ?_;clear hK K)|(with_reducible refine .done (hK _ ?_);clear hK K)|refine U.of rfl ?_|(with_reducible refine aj.aB (fun h =>?_) (fun h =>?_) <;>try simp only[h])) <;>try simp only[aD,R,simprocAttr])
  all_goals clear R
  all_goals rfl
 cases w3:iC r.gf
 ·rw[w3] at f6;have R:=y6 @k (y6 @w1 (y6 @w2 (y6 @iw (y6 @lC (y6 @bu aw)))))
  repeat' ((first |(with_reducible refine .guard (fun hb =>?_) (fun hb =>?_) <;>try simp only[hb])|refine U.aC (by decide +kernel) rfl fun K hK =>?_|refine .flat _ (f1) rfl ?_|refine .flat _ (f2) rfl ?_|refine .flat _ (f3) rfl ?_|refine .flat _ (f4) rfl ?_|refine .flat _ (f5) rfl ?_|refine .flat _ (f6) rfl ?_|(refine .aA [0,1,2,30,33] hK ?_;clear hK K)|(with_reducible refine .done (hK _ ?_);clear hK K)|refine U.of rfl ?_|(with_reducible refine aj.aB (fun h =>?_) (fun h =>?_) <;>try simp only[h])) <;>try simp only[aD,R,simprocAttr])
  all_goals clear R
  all_goals rfl
 rw[w3] at f6;cases w4:(r.fq==r.aM)
 ·have R:=y6 @k (y6 @w1 (y6 @w2 (y6 @w4 (y6 @iw (y6 @lC (y6 @bu aw))))))
  repeat' ((first |(with_reducible refine .guard (fun hb =>?_) (fun hb =>?_) <;>try simp only[hb])|refine U.aC (by decide +kernel) rfl fun K hK =>?_|refine .flat _ (f1) rfl ?_|refine .flat _ (f2) rfl ?_|refine .flat _ (f3) rfl ?_|refine .flat _ (f4) rfl ?_|refine .flat _ (f5) rfl ?_|refine .flat _ (f6) rfl ?_|(refine .aA [0,1,2,30,33] hK ?_;clear hK K)|(with_reducible refine .done (hK _ ?_);clear hK K)|refine U.of rfl ?_|(with_reducible refine aj.aB (fun h =>?_) (fun h =>?_) <;>try simp only[h])) <;>try simp only[aD,R,simprocAttr])
  all_goals clear R
  all_goals rfl
 have R:=y6 @k (y6 @w1 (y6 @w2 (y6 @w4 (y6 @iw (y6 @lC (y6 @bu aw))))))
 repeat' ((first |(with_reducible refine .guard (fun hb =>?_) (fun hb =>?_) <;>try simp only[hb])|refine U.aC (by decide +kernel) rfl fun K hK =>?_|refine .flat _ (f1) rfl ?_|refine .flat _ (f2) rfl ?_|refine .flat _ (f3) rfl ?_|refine .flat _ (f4) rfl ?_|refine .flat _ (f5) rfl ?_|refine .flat _ (f6) rfl ?_|(refine .aA [0,1,2,30,33] hK ?_;clear hK K)|(with_reducible refine .done (hK _ ?_);clear hK K)|refine U.of rfl ?_|(with_reducible refine aj.aB (fun h =>?_) (fun h =>?_) <;>try simp only[h])) <;>try simp only[aD,R,simprocAttr])
 all_goals clear R
 all_goals rfl
def iP(r:ah):Int:=if bm r=true then 0 else 80
def dM(t:List UInt8):List (List UInt8):=(jj 10 true t).dropLast
theorem BQ{t:List UInt8}(h:∀ b∈t,b≠10):dM t=[]:=by rw[dM,zR h];rfl
theorem Wz{x:List UInt8}(y:List UInt8)(h:∀ b∈x,b≠10):dM (x++10::y)=(x++[10])::dM y:=by
 rw[dM,zQ y h,if_pos rfl,List.dropLast_cons_of_ne_nil (Ll 10 true y)];rfl
def iY(cv:Int→List UInt8→Option (ah×Int))(nx:List ah→ah→Bool):List ah→Int→Nat→List (List UInt8)→List ah×Nat
 |out,_,size,[]=>(out,size)
 |out,s,size,x::t=>match cv s x with
  |none=>(out,size)
  |some q=>if nx out q.1=true then iY cv nx (out++[q.1]) q.2 (size+x.length) t else (out,size)
def fh:Int→List ah→List UInt8
 |_,[]=>[]
 |s,r::l=>dT s r++fh (dA s (di r)) l
def eF:Int→List ah→Int
 |s,[]=>s
 |s,r::l=>eF (dA s (di r)) l
theorem E9:∀ (a b:List ah) (s:Int),fh s (a++b)=fh s a++fh (eF s a) b
 | [],_,_=>rfl
 |r::a,b,s=>by simp only[zz2,fh,eF,E9 a b,zz1]
theorem E0:∀ (a b:List ah) (s:Int),eF s (a++b)=eF (eF s a) b
 | [],_,_=>rfl
 |r::a,b,s=>by simp only[zz2,eF,E0 a b]
theorem E5:∀ (a:List ah) {s:Int},0≤s∧s<1000003→0≤eF s a∧eF s a<1000003
 | [],_,h=>h
 |_::a,_,h=>E5 a (oN h _)
theorem wX(a:List ah)(r:ah)(s:Int):fh s (a++[r])=fh s a++dT (eF s a) r∧eF s (a++[r])=dA (eF s a) (di r):=by
 rw[E9,E0];simp only[fh,eF,List.append_nil,and_self]
def gG(ok:ah→Bool)(nx:List ah→ah→Bool):List ah→List ah→Prop
 |_,[]=>True
 |out,r::l=>ok r=true∧nx out r=true∧gG ok nx (out++[r]) l
def jx(ok:ah→Bool)(nx:List ah→ah→Bool)(t:List UInt8):List ah×List UInt8:=((iY (ed ok) nx [] 1 0 (dM t)).1,t.take (iY (ed ok) nx [] 1 0 (dM t)).2)
def sK(ok:ah→Bool)(nx:List ah→ah→Bool)(a b:List UInt8):List ah×List UInt8 :=
 if (jx ok nx a).1.length<(jx ok nx b).1.length then jx ok nx b else jx ok nx a
def dS(l:List ah)(m:Int):Nat:=l.countP fun r=>decide (r.aM=m)
def cW(a b:ah):Bool:=decide (a.aM<b.aM∨(a.aM=b.aM∧a.no<b.no))
def iq(l:List ah)(r:ah):Bool:=match l.getLast? with
 |none=>decide ((r.aM=-1∧r.no=1)∨(-1<r.aM∧r.no=0))
 |some a=>decide ((r.aM=a.aM∧r.no=a.no+1)∨(a.aM<r.aM∧r.no=0))
def kK(l:List ah)(r:ah):Bool:=(match l.getLast? with
 |none=>true
 |some a=>cW a r)&&decide ((dS l r.aM:Int)=r.no)
def eY(aT:List ah→ah→Bool):List ah→List ah→Bool
 |_,[]=>true
 |out,r::l=>aT out r&&eY aT (out++[r]) l
def nE(l:List ah):Prop:=match l.getLast? with
 |none=>True
 |some a=>(dS l a.aM:Int)=a.no+1∧∀ m,a.aM<m→dS l m=0
theorem nP(l:List ah)(r:ah)(m:Int):dS (l++[r]) m=dS l m+if r.aM=m then 1 else 0:=by
 rw[dS,List.countP_append,←dS,List.countP_cons,List.countP_nil];simp
theorem EW{l:List ah}(h:nE l){r:ah}(hr:0≤r.aM∧0≤r.no):iq l r=kK l r∧(iq l r=true→nE (l++[r])):=by
 rw[nE] at h;have hl:(l++[r]).getLast?=some r:=by rw[List.getLast?_append];rfl
 rw[nE,hl,iq,kK];cases e:l.getLast? with
 |none =>
  have hnil:l=[]:=List.getLast?_eq_none_iff.1 e;subst hnil;have c0:∀ m,dS [] m=0:=fun _=>rfl;have c1:=c0 r.aM;simp only[Bool.true_and];refine ⟨?_,?_⟩
  ·rw[Bool.eq_iff_iff,decide_eq_true_iff,decide_eq_true_iff];constructor
   ·intro h;rcases h with h | h <;>omega
   ·intro h;right;omega
  ·intro h;rw[decide_eq_true_eq] at h;refine ⟨by rw[nP,if_pos rfl];omega,fun m hm =>?_⟩;rw[nP,if_neg (by omega),c0]
 |some a =>
  rw[e] at h;obtain ⟨h1,h2⟩:=h;simp only;refine ⟨?_,?_⟩
  ·rw[cW,Bool.eq_iff_iff,Z0,decide_eq_true_eq,decide_eq_true_eq,decide_eq_true_eq];rcases Int.lt_trichotomy a.aM r.aM with c | c | c
   ·have:=h2 r.aM c;constructor
    ·intro k;exact ⟨.inl c,by omega⟩
    ·intro k;right;omega
   ·rw[←c];constructor
    ·intro k;exact ⟨.inr ⟨rfl,by omega⟩,by omega⟩
    ·intro k;left;omega
   ·constructor
    ·intro k;omega
    ·intro k;omega
  ·intro k;rw[decide_eq_true_eq] at k;rw[nP,if_pos rfl];refine ⟨?_,fun m hm =>?_⟩
   ·rcases k with k | k
    ·rw[k.1];omega
    ·have:=h2 r.aM k.1;omega
   ·rw[nP,if_neg (by omega),h2 m (by omega)]
theorem xI:∀ (l out:List ah),nE out→(∀ r∈l,0≤r.aM∧0≤r.no)→eY iq out l=eY kK out l
 | [],_,_,_=>rfl
 |r::l,out,h,hr=>by
  obtain ⟨e,k⟩:=EW h (hr r (by simp));simp only[eY,←e];cases hs:iq out r with
  |false=>rfl
  |true=>rw[xI l (out++[r]) (k hs) fun x hx=>hr x (by simp[hx])]
theorem x9{l:List ah}(hr:∀ r∈l,0≤r.aM∧0≤r.no):eY iq [] l=eY kK [] l:=xI l [] trivial hr
theorem ya:∀ (l out:List ah),nE out→(∀ r∈l,0≤r.aM∧0≤r.no)→eY iq out l=true→out.Pairwise (fun a b=>cW a b=true)→(out++l).Pairwise (fun a b=>cW a b=true)
 | [],out,_,_,_,h=>by simpa using h
 |r::l,out,h,hr,hb,hp=>by
  simp only[eY,Z0] at hb;obtain ⟨e,k⟩:=EW h (hr r (by simp));have:=ya l (out++[r]) (k hb.1) (fun x hx=>hr x (by simp[hx])) hb.2 (by
   rw[List.pairwise_append];refine ⟨hp,by simp,fun a ha b hb' =>?_⟩;rw[zx4.1 hb'];have hs:=hb.1;rw[e,kK,Z0] at hs;have hne:out≠[]:=fun k=>by rw[k] at ha;cases ha
   have hlast:=List.getLast?_eq_some_getLast hne;rw[hlast] at hs;have h1:=hs.1;have hcat:=List.dropLast_concat_getLast hne;rw[←hcat] at ha hp;rcases zy9.1 ha with ha | ha
   ·have h2:=(List.pairwise_append.1 hp).2.2 a ha _ (zx4.2 rfl);simp only[cW,decide_eq_true_eq] at h1 h2 ⊢;omega
   ·rw[zx4.1 ha];exact h1)
  rwa [zz1,List.singleton_append] at this
def dC(out:List ah)(r:ah):Bool:=decide (out.length<60)&&decide ((dS out r.aM:Int)=r.no)
def nH(l:List ah)(r:ah):Nat:=l.countP fun q=>decide (q.aM=r.aM∧q.no<r.no)
structure ml (l:List ah):Prop where
 lt:∀ r∈l,0≤r.no∧r.no<dS l r.aM
 aY:∀ r∈l,(nH l r:Int)=r.no
theorem ml.nil:ml []:=⟨by simp,by simp⟩
theorem ml.Zf{l:List ah}(h:ml l){r:ah}(hn:(dS l r.aM:Int)=r.no):ml (l++[r]):=by
 have ha:∀ q,nH (l++[r]) q=nH l q+if r.aM=q.aM∧r.no<q.no then 1 else 0:=fun q=>by
  rw[nH,List.countP_append,←nH,List.countP_cons,List.countP_nil];simp
 refine ⟨fun q hq =>?_,fun q hq =>?_⟩
 ·rw[nP];rcases zy9.1 hq with hq | hq
  ·have:=h.lt q hq;split <;>omega
  ·rw[zx4.1 hq,if_pos rfl];omega
 ·rw[ha];rcases zy9.1 hq with hq | hq
  ·rw[if_neg,Nat.add_zero]
   ·exact h.aY q hq
   ·rintro ⟨k1,k2⟩;have:=(h.lt q hq).2;rw[←k1] at this;omega
  ·rw[zx4.1 hq,if_neg (by omega),Nat.add_zero,←hn,nH,dS]
   congr 1
   refine List.countP_congr fun x hx =>?_;rw[decide_eq_true_eq,decide_eq_true_eq];constructor
   ·exact fun k=>k.1
   ·intro k;refine ⟨k,?_⟩;have:=(h.lt x hx).2;rw[k] at this;omega
theorem gG.len{ok:ah→Bool} : ∀ {l out:List ah},out.length≤60→gG ok dC out l→out.length+l.length≤60
 | [],out,h,_=>by simpa using h
 |r::l,out,h,hw=>by
  have hn:=hw.2.1;simp only[dC,Z0,decide_eq_true_eq] at hn;have:=gG.len (out:=out++[r]) (by simp;omega) hw.2.2;simp only[Z1,zx0,zx1] at this ⊢;omega
theorem gG.inj{ok:ah→Bool} : ∀ {l out:List ah},ml out→gG ok dC out l→out.Pairwise (fun x y=>¬ (x.aM=y.aM∧x.no=y.no))→(out++l).Pairwise (fun x y=>¬ (x.aM=y.aM∧x.no=y.no))
 | [],out,_,_,hp=>by simpa using hp
 |r::l,out,h,hw,hp=>by
  have hn:=hw.2.1;simp only[dC,Z0,decide_eq_true_eq] at hn;have:=gG.inj (h.Zf hn.2) hw.2.2 (by
   rw[List.pairwise_append];refine ⟨hp,by simp,fun x hx y hy k =>?_⟩;rw[zx4.1 hy] at k;have:=(h.lt x hx).2;rw[k.1] at this;omega)
  rwa [zz1,List.singleton_append] at this
def gU(x r:ah):Bool:=decide (r.aM=x.aM∧r.no=x.no)
theorem gG.ok{ok:ah→Bool}{nx:List ah→ah→Bool} : ∀ {l out:List ah},gG ok nx out l→∀ r∈l,ok r=true
 | [],_,_,r,h=>by cases h
 |_::_,_,hw,r,h=>by
  rcases zy8.1 h with rfl | h
  ·exact hw.1
  ·exact gG.ok hw.2.2 r h
theorem Cw{l:List ah}(h:l.Pairwise (fun x y=>¬ (x.aM=y.aM∧x.no=y.no))){a b:ah}(ha:a∈l)(hb:b∈l)(e:a.aM=b.aM∧a.no=b.no):a=b:=by
 obtain ⟨i,hi,rfl⟩:=List.getElem_of_mem ha;obtain ⟨j,hj,rfl⟩:=List.getElem_of_mem hb;rcases Nat.lt_trichotomy i j with c | c | c
 ·exact absurd e (List.pairwise_iff_getElem.1 h i j hi hj c)
 ·subst c;rfl
 ·exact absurd ⟨e.1.symm,e.2.symm⟩ (List.pairwise_iff_getElem.1 h j i hj hi c)
theorem GU{a b:ah}(h:cW a b=true)(k:cW b a=true):False:=by
 simp only[cW,decide_eq_true_eq] at h k;omega
theorem xX{a b c:ah}(h:cW a b=true)(k:cW b c=true):cW a c=true:=by
 simp only[cW,decide_eq_true_eq] at h k ⊢;omega
theorem wP:∀ {a b:List ah},a.Pairwise (fun x y=>cW x y=true)→b.Pairwise (fun x y=>cW x y=true)→a.Perm b→a=b
 | [],b,_,_,p=>(List.nil_perm.1 p).symm
 |x::a,[],_,_,p=>absurd (List.perm_nil.1 p) (by simp)
 |x::a,y::b,ha,hb,p=>by
  obtain ⟨h1,h2⟩:=List.pairwise_cons.1 ha;obtain ⟨k1,k2⟩:=List.pairwise_cons.1 hb;by_cases e:x=y
  ·subst e;rw[wP h2 k2 ((List.perm_cons x).1 p)]
  ·have hx:x∈b:=by
    rcases zy8.1 (p.mem_iff.1 (List.mem_cons_self (a:=x) (l:=a))) with h | h
    ·exact absurd h e
    ·exact h
   have hy:y∈a:=by
    rcases zy8.1 (p.mem_iff.2 (List.mem_cons_self (a:=y) (l:=b))) with h | h
    ·exact absurd h.symm e
    ·exact h
   exact (GU (h1 y hy) (k1 x hx)).elim
def dU(l:List ah)(r:ah):List ah:=l.takeWhile (fun q=>cW q r)++r::l.dropWhile (fun q=>cW q r)
theorem vX(l:List ah)(r:ah):(dU l r).Perm (r::l):=by
 have:=List.takeWhile_append_dropWhile (p:=fun q=>cW q r) (l:=l);refine List.perm_middle.trans ?_;rw[this]
theorem Yn{l:List ah}{r:ah}(h:l.Pairwise (fun x y=>cW x y=true))(hr:∀ q∈l,¬ (q.aM=r.aM∧q.no=r.no)):(dU l r).Pairwise (fun x y=>cW x y=true):=by
 induction l with
 |nil=>simp[dU]
 |cons q l ih =>
  obtain ⟨h1,h2⟩:=List.pairwise_cons.1 h;have ih:=ih h2 fun x hx=>hr x (by simp[hx]);by_cases c:cW q r=true
  ·have e:dU (q::l) r=q::dU l r:=by simp[dU,c]
   rw[e,List.pairwise_cons];refine ⟨fun x hx =>?_,ih⟩;rcases zy8.1 ((vX l r).mem_iff.1 hx) with rfl | hx
   ·exact c
   ·exact h1 x hx
  ·have e:dU (q::l) r=r::q::l:=by simp[dU,c]
   have hq:=hr q (by simp);have hrq:cW r q=true:=by
    simp only[cW,decide_eq_true_eq] at c ⊢;omega
   rw[e,List.pairwise_cons];refine ⟨fun x hx =>?_,h⟩;rcases zy8.1 hx with rfl | hx
   ·exact hrq
   ·exact xX hrq (h1 x hx)
def da(l:List ah):List ah:=l.foldl dU []
theorem wM:∀ (l out:List ah),(out++l).Pairwise (fun x y=>¬ (x.aM=y.aM∧x.no=y.no))→∀ s:List ah,s.Perm out→s.Pairwise (fun x y=>cW x y=true) →
  (l.foldl dU s).Perm (out++l)∧(l.foldl dU s).Pairwise (fun x y=>cW x y=true)
 | [],out,_,s,p,hs=>by simpa using ⟨p,hs⟩
 |r::l,out,hp,s,p,hs=>by
  have hq:∀ q∈s,¬ (q.aM=r.aM∧q.no=r.no):=fun q hq=>(List.pairwise_append.1 hp).2.2 q (p.mem_iff.1 hq) r (by simp);have e:out++r::l=(out++[r])++l:=by simp
  rw[e] at hp ⊢;rw[List.foldl_cons];refine wM l (out++[r]) hp (dU s r) ?_ (Yn hs hq);exact (vX s r).trans ((List.Perm.cons r p).trans (List.perm_append_singleton r out).symm)
theorem qv{l:List ah}(hp:l.Pairwise (fun x y=>¬ (x.aM=y.aM∧x.no=y.no))):(da l).Perm l∧(da l).Pairwise (fun x y=>cW x y=true):=by
 have:=wM l [] (by simpa using hp) [] (List.Perm.refl _) List.Pairwise.nil
 rwa [zz3] at this
theorem Zh{l s:List ah}(hp:l.Pairwise (fun x y=>¬ (x.aM=y.aM∧x.no=y.no)))(p:s.Perm l)(hs:s.Pairwise (fun x y=>cW x y=true)):s=da l :=
 wP hs (qv hp).2 (p.trans (qv hp).1.symm)
def dx(a b:List ah):List ah:=b.filter fun r => !a.any (gU r)
def iQ(a b:List ah):Bool:=b.any fun r=>a.any fun q=>gU r q&&decide (q≠r)
theorem tk{a:List ah}(h:a.Pairwise (fun x y=>cW x y=true)):a.Pairwise (fun x y=>¬ (x.aM=y.aM∧x.no=y.no)) :=
 h.imp fun {x y} k e=>by simp only[cW,decide_eq_true_eq] at k;omega
theorem vi{a b:List ah}(ha:a.Pairwise (fun x y=>cW x y=true))(hb:b.Pairwise (fun x y=>cW x y=true)):(a++dx a b).Pairwise (fun x y=>¬ (x.aM=y.aM∧x.no=y.no)):=by
 rw[List.pairwise_append];refine ⟨tk ha,(tk hb).sublist List.filter_sublist,fun x hx y hy e =>?_⟩;have:=(List.mem_filter.1 hy).2;simp only[Bool.not_eq_true',List.any_eq_false,gU,decide_eq_true_eq] at this;exact this x hx e
theorem V9{a b s:List ah}(ha:a.Pairwise (fun x y=>cW x y=true))(hb:b.Pairwise (fun x y=>cW x y=true))(p:s.Perm (a++dx a b))(hs:s.Pairwise (fun x y=>cW x y=true)) :
  s=(dx a b).foldl dU a:=by
 obtain ⟨q1,q2⟩:=wM (dx a b) a (vi ha hb) a (List.Perm.refl _) ha;exact wP hs q2 (p.trans q1.symm)
theorem rV{lo hi n:Int} : en lo hi n=true↔lo≤n∧n≤hi:=by simp[en]
theorem Cj{x:Item} : iC x=true↔(0≤x.aM∧x.aM≤5)∧0≤x.no∧x.no≤9999:=by simp[iC,rV]
theorem qa{r:ah}(h:bm r=true):gi r=true:=by
 simp only[bm,Z0] at h;exact h.1
theorem p9{r:ah}(h:gi r=true):(0≤r.aM∧r.aM≤5)∧(0≤r.no∧r.no≤9999)∧(0≤r.kind∧r.kind≤40)∧(0≤r.ea∧r.ea≤100000)∧(0≤r.known∧r.known≤100000)∧gP r.text=true:=by
 simp only[gi,Cj,rV,Z0] at h;exact ⟨h.1.1,h.1.2,h.2.1,h.2.2.1,h.2.2.2.1,h.2.2.2.2⟩
theorem XN{r:ah}(h:bm r=true):(0≤r.fq∧r.fq≤5)∧(0≤r.fC∧r.fC≤9999):=by
 simp only[bm,Z0] at h;obtain ⟨_,h⟩:=h;split at h
 ·simp only[oz,Cj,Z0] at h;exact h.2.2.1
 ·simp only[decide_eq_true_eq,ah.gf,Item.mk.injEq] at h;omega
theorem sF{r:ah}(h:bm r=true):∀ n∈eM r,0≤n∧n<100000000:=by
 obtain ⟨a1,a2,a3,a4,a5,_⟩:=p9 (qa h);obtain ⟨a6,a7⟩:=XN h;intro n hn;simp only[eM,zy8,List.not_mem_nil,or_false] at hn;rcases hn with rfl | rfl | rfl | rfl | rfl | rfl | rfl <;>omega
theorem XS{t:List UInt8}(h:gP t=true):t.length≤160:=by
 simp only[gP,Z0,decide_eq_true_eq] at h;exact h.1
theorem sH{r:ah}(h:bm r=true):r.text.length≤160:=XS (p9 (qa h)).2.2.2.2.2
theorem xm(r:ah):aQ Tryz.prog 34 [enc r] (enc (iP r)):=by
 refine aQ.bO Tryz.func34 H4 Jm KJ (t8 rfl) (fun hwf W0 bE E1 =>?_);simp only[yQ,Dk,bD];clear hwf;have f1:=xu r.aY;have f2:=mg r.kind 0 40;have f3:=mg r.ea 0 100000;have f4:=mg r.known 0 100000;have f5:=F4 r.text;have f6:=xu r.gf;have no:bm r=false→iP r=80:=fun h=>by simp[iP,h]
 have ye:bm r=true→iP r=0:=fun h=>by simp[iP,h]
 cases q1:iC r.aY
 ·rw[q1] at f1;rw[no (by simp only[bm,gi,q1,Bool.false_and])];have R:=y6 @q1 (y6 @bu aw)
  repeat' ((first |(with_reducible refine .guard (fun hb =>?_) (fun hb =>?_) <;>try simp only[hb])|refine U.aC (by decide +kernel) rfl fun K hK =>?_|refine .flat _ (f1) rfl ?_|refine .flat _ (f2) rfl ?_|refine .flat _ (f3) rfl ?_|refine .flat _ (f4) rfl ?_|refine .flat _ (f5) rfl ?_|(refine .aA [0,1,2,30,33,65,69] hK ?_;clear hK K)|(with_reducible refine .done (hK _ ?_);clear hK K)|refine U.of rfl ?_|(with_reducible refine aj.aB (fun h =>?_) (fun h =>?_) <;>try simp only[h])) <;>try simp only[aD,R,simprocAttr])
  all_goals clear R
  all_goals rfl
 rw[q1] at f1;cases q2:en 0 40 r.kind
 ·rw[q2] at f2;rw[no (by simp only[bm,gi,q1,q2,Bool.false_and,Bool.and_false])];have R:=y6 @bu aw
  repeat' ((first |(with_reducible refine .guard (fun hb =>?_) (fun hb =>?_) <;>try simp only[hb])|refine U.aC (by decide +kernel) rfl fun K hK =>?_|refine .flat _ (f1) rfl ?_|refine .flat _ (f2) rfl ?_|refine .flat _ (f3) rfl ?_|refine .flat _ (f4) rfl ?_|refine .flat _ (f5) rfl ?_|(refine .aA [0,1,2,30,33,65,69] hK ?_;clear hK K)|(with_reducible refine .done (hK _ ?_);clear hK K)|refine U.of rfl ?_|(with_reducible refine aj.aB (fun h =>?_) (fun h =>?_) <;>try simp only[h])) <;>try simp only[aD,R,simprocAttr])
  all_goals clear R
  all_goals rfl
 rw[q2] at f2;cases q3:en 0 100000 r.ea
 ·rw[q3] at f3;rw[no (by simp only[bm,gi,q1,q2,q3,Bool.false_and,Bool.and_false])];have R:=y6 @bu aw
  repeat' ((first |(with_reducible refine .guard (fun hb =>?_) (fun hb =>?_) <;>try simp only[hb])|refine U.aC (by decide +kernel) rfl fun K hK =>?_|refine .flat _ (f1) rfl ?_|refine .flat _ (f2) rfl ?_|refine .flat _ (f3) rfl ?_|refine .flat _ (f4) rfl ?_|refine .flat _ (f5) rfl ?_|(refine .aA [0,1,2,30,33,65,69] hK ?_;clear hK K)|(with_reducible refine .done (hK _ ?_);clear hK K)|refine U.of rfl ?_|(with_reducible refine aj.aB (fun h =>?_) (fun h =>?_) <;>try simp only[h])) <;>try simp only[aD,R,simprocAttr])
  all_goals clear R
  all_goals rfl
 rw[q3] at f3;cases q4:en 0 100000 r.known
 ·rw[q4] at f4;rw[no (by simp only[bm,gi,q1,q2,q3,q4,Bool.false_and,Bool.and_false])];have R:=y6 @bu aw
  repeat' ((first |(with_reducible refine .guard (fun hb =>?_) (fun hb =>?_) <;>try simp only[hb])|refine U.aC (by decide +kernel) rfl fun K hK =>?_|refine .flat _ (f1) rfl ?_|refine .flat _ (f2) rfl ?_|refine .flat _ (f3) rfl ?_|refine .flat _ (f4) rfl ?_|refine .flat _ (f5) rfl ?_|(refine .aA [0,1,2,30,33,65,69] hK ?_;clear hK K)|(with_reducible refine .done (hK _ ?_);clear hK K)|refine U.of rfl ?_|(with_reducible refine aj.aB (fun h =>?_) (fun h =>?_) <;>try simp only[h])) <;>try simp only[aD,R,simprocAttr])
  all_goals clear R
  all_goals rfl
 rw[q4] at f4;cases q5:gP r.text
 ·rw[q5] at f5;rw[no (by simp only[bm,gi,q1,q2,q3,q4,q5,Bool.false_and,Bool.and_false])];have R:=y6 @bu aw
  repeat' ((first |(with_reducible refine .guard (fun hb =>?_) (fun hb =>?_) <;>try simp only[hb])|refine U.aC (by decide +kernel) rfl fun K hK =>?_|refine .flat _ (f1) rfl ?_|refine .flat _ (f2) rfl ?_|refine .flat _ (f3) rfl ?_|refine .flat _ (f4) rfl ?_|refine .flat _ (f5) rfl ?_|(refine .aA [0,1,2,30,33,65,69] hK ?_;clear hK K)|(with_reducible refine .done (hK _ ?_);clear hK K)|refine U.of rfl ?_|(with_reducible refine aj.aB (fun h =>?_) (fun h =>?_) <;>try simp only[h])) <;>try simp only[aD,R,simprocAttr])
  all_goals clear R
  all_goals rfl
 rw[q5] at f5;have hH:gi r=true:=by simp only[gi,q1,q2,q3,q4,q5,Bool.and_self]
 cases k:(r.kind==0)
 ·cases z:decide (r.gf=⟨0,0⟩)
  ·rw[no (by simp only[bm,hH,Bool.true_and];rw[if_neg (by simpa using k)];exact z)];have R:=y6 @k (y6 @z (y6 @pt (y6 @bu aw)))
   repeat' ((first |(with_reducible refine .guard (fun hb =>?_) (fun hb =>?_) <;>try simp only[hb])|refine U.aC (by decide +kernel) rfl fun K hK =>?_|refine .flat _ (f1) rfl ?_|refine .flat _ (f2) rfl ?_|refine .flat _ (f3) rfl ?_|refine .flat _ (f4) rfl ?_|refine .flat _ (f5) rfl ?_|(refine .aA [0,1,2,30,33,65,69] hK ?_;clear hK K)|(with_reducible refine .done (hK _ ?_);clear hK K)|refine U.of rfl ?_|(with_reducible refine aj.aB (fun h =>?_) (fun h =>?_) <;>try simp only[h])) <;>try simp only[aD,R,simprocAttr])
   all_goals clear R
   all_goals rfl
  ·rw[ye (by simp only[bm,hH,Bool.true_and];rw[if_neg (by simpa using k)];exact z)];have R:=y6 @k (y6 @z (y6 @pt (y6 @bu aw)))
   repeat' ((first |(with_reducible refine .guard (fun hb =>?_) (fun hb =>?_) <;>try simp only[hb])|refine U.aC (by decide +kernel) rfl fun K hK =>?_|refine .flat _ (f1) rfl ?_|refine .flat _ (f2) rfl ?_|refine .flat _ (f3) rfl ?_|refine .flat _ (f4) rfl ?_|refine .flat _ (f5) rfl ?_|(refine .aA [0,1,2,30,33,65,69] hK ?_;clear hK K)|(with_reducible refine .done (hK _ ?_);clear hK K)|refine U.of rfl ?_|(with_reducible refine aj.aB (fun h =>?_) (fun h =>?_) <;>try simp only[h])) <;>try simp only[aD,R,simprocAttr])
   all_goals clear R
   all_goals rfl
 have hK:bm r=oz r:=by simp only[bm,hH,Bool.true_and];rw[if_pos (by simpa using k)]
 simp only[oz] at hK;cases w1:(r.ea==0)
 ·have w1':(r.ea != 0)=true:=by simp[bne,w1]
  rw[no (by rw[hK,w1];rfl)];have R:=y6 @k (y6 @w1' (y6 @iw (y6 @iH (y6 @bu aw))))
  repeat' ((first |(with_reducible refine .guard (fun hb =>?_) (fun hb =>?_) <;>try simp only[hb])|refine U.aC (by decide +kernel) rfl fun K hK =>?_|refine .flat _ (f1) rfl ?_|refine .flat _ (f2) rfl ?_|refine .flat _ (f3) rfl ?_|refine .flat _ (f4) rfl ?_|refine .flat _ (f5) rfl ?_|refine .flat _ (f6) rfl ?_|(refine .aA [0,1,2,30,33,65,69] hK ?_;clear hK K)|(with_reducible refine .done (hK _ ?_);clear hK K)|refine U.of rfl ?_|(with_reducible refine aj.aB (fun h =>?_) (fun h =>?_) <;>try simp only[h])) <;>try simp only[aD,R,simprocAttr])
  all_goals clear R
  all_goals rfl
 have w1':(r.ea != 0)=false:=by simp[bne,w1]
 cases w2:decide (r.text=[])
 ·rw[no (by rw[hK,w1,w2];rfl)];have R:=y6 @k (y6 @w1' (y6 @w2 (y6 @iw (y6 @iH (y6 @bu aw)))))
  repeat' ((first |(with_reducible refine .guard (fun hb =>?_) (fun hb =>?_) <;>try simp only[hb])|refine U.aC (by decide +kernel) rfl fun K hK =>?_|refine .flat _ (f1) rfl ?_|refine .flat _ (f2) rfl ?_|refine .flat _ (f3) rfl ?_|refine .flat _ (f4) rfl ?_|refine .flat _ (f5) rfl ?_|refine .flat _ (f6) rfl ?_|(refine .aA [0,1,2,30,33,65,69] hK ?_;clear hK K)|(with_reducible refine .done (hK _ ?_);clear hK K)|refine U.of rfl ?_|(with_reducible refine aj.aB (fun h =>?_) (fun h =>?_) <;>try simp only[h])) <;>try simp only[aD,R,simprocAttr])
  all_goals clear R
  all_goals rfl
 cases w3:iC r.gf
 ·rw[w3] at f6;rw[no (by rw[hK,w1,w2,w3];rfl)];have R:=y6 @k (y6 @w1' (y6 @w2 (y6 @iw (y6 @iH (y6 @bu aw)))))
  repeat' ((first |(with_reducible refine .guard (fun hb =>?_) (fun hb =>?_) <;>try simp only[hb])|refine U.aC (by decide +kernel) rfl fun K hK =>?_|refine .flat _ (f1) rfl ?_|refine .flat _ (f2) rfl ?_|refine .flat _ (f3) rfl ?_|refine .flat _ (f4) rfl ?_|refine .flat _ (f5) rfl ?_|refine .flat _ (f6) rfl ?_|(refine .aA [0,1,2,30,33,65,69] hK ?_;clear hK K)|(with_reducible refine .done (hK _ ?_);clear hK K)|refine U.of rfl ?_|(with_reducible refine aj.aB (fun h =>?_) (fun h =>?_) <;>try simp only[h])) <;>try simp only[aD,R,simprocAttr])
  all_goals clear R
  all_goals rfl
 rw[w3] at f6;cases w4:(r.fq==r.aM)
 ·have w4':(r.fq != r.aM)=true:=by simp[bne,w4]
  rw[no (by rw[hK,w1,w2,w3,w4];rfl)];have R:=y6 @k (y6 @w1' (y6 @w2 (y6 @w4' (y6 @iw (y6 @iH (y6 @bu aw))))))
  repeat' ((first |(with_reducible refine .guard (fun hb =>?_) (fun hb =>?_) <;>try simp only[hb])|refine U.aC (by decide +kernel) rfl fun K hK =>?_|refine .flat _ (f1) rfl ?_|refine .flat _ (f2) rfl ?_|refine .flat _ (f3) rfl ?_|refine .flat _ (f4) rfl ?_|refine .flat _ (f5) rfl ?_|refine .flat _ (f6) rfl ?_|(refine .aA [0,1,2,30,33,65,69] hK ?_;clear hK K)|(with_reducible refine .done (hK _ ?_);clear hK K)|refine U.of rfl ?_|(with_reducible refine aj.aB (fun h =>?_) (fun h =>?_) <;>try simp only[h])) <;>try simp only[aD,R,simprocAttr])
  all_goals clear R
  all_goals rfl
 have w4':(r.fq != r.aM)=false:=by simp[bne,w4]
 cases w5:decide (r.fC<r.no)
 ·have w5':decide (r.fC≥r.no)=true:=by rw[decide_eq_false_iff_not] at w5;exact decide_eq_true (by omega)
  rw[no (by rw[hK,w1,w2,w3,w4,w5];rfl)];have R:=y6 @k (y6 @w1' (y6 @w2 (y6 @w4' (y6 @w5' (y6 @iw (y6 @iH (y6 @bu aw)))))))
  repeat' ((first |(with_reducible refine .guard (fun hb =>?_) (fun hb =>?_) <;>try simp only[hb])|refine U.aC (by decide +kernel) rfl fun K hK =>?_|refine .flat _ (f1) rfl ?_|refine .flat _ (f2) rfl ?_|refine .flat _ (f3) rfl ?_|refine .flat _ (f4) rfl ?_|refine .flat _ (f5) rfl ?_|refine .flat _ (f6) rfl ?_|(refine .aA [0,1,2,30,33,65,69] hK ?_;clear hK K)|(with_reducible refine .done (hK _ ?_);clear hK K)|refine U.of rfl ?_|(with_reducible refine aj.aB (fun h =>?_) (fun h =>?_) <;>try simp only[h])) <;>try simp only[aD,R,simprocAttr])
  all_goals clear R
  all_goals rfl
 ·have w5':decide (r.fC≥r.no)=false:=by rw[decide_eq_true_eq] at w5;exact decide_eq_false (by omega)
  rw[ye (by rw[hK,w1,w2,w3,w4,w5];rfl)];have R:=y6 @k (y6 @w1' (y6 @w2 (y6 @w4' (y6 @w5' (y6 @iw (y6 @iH (y6 @bu aw)))))))
  repeat' ((first |(with_reducible refine .guard (fun hb =>?_) (fun hb =>?_) <;>try simp only[hb])|refine U.aC (by decide +kernel) rfl fun K hK =>?_|refine .flat _ (f1) rfl ?_|refine .flat _ (f2) rfl ?_|refine .flat _ (f3) rfl ?_|refine .flat _ (f4) rfl ?_|refine .flat _ (f5) rfl ?_|refine .flat _ (f6) rfl ?_|(refine .aA [0,1,2,30,33,65,69] hK ?_;clear hK K)|(with_reducible refine .done (hK _ ?_);clear hK K)|refine U.of rfl ?_|(with_reducible refine aj.aB (fun h =>?_) (fun h =>?_) <;>try simp only[h])) <;>try simp only[aD,R,simprocAttr])
  all_goals clear R
  all_goals rfl
theorem ZE{n:Int}(h:0≤n∧n<256):IntKind.u8.wrap n=n:=by
 simp only[IntKind.wrap,IntKind.bits,IntKind.signed];simp;omega
theorem eW(a b:List UInt8)(h:a.length+b.length≤9223372036854775807):bN .add (enc (ay.of a)) (enc (ay.of b))=some (enc (ay.of (a++b))):=by
 rw[Y2 _ _ (by rw[ay.dI,ay.dI];exact h)];rfl
def kc(m:Nat):UInt8:=UInt8.ofNat (48+m%10)
theorem V2{m:Nat}(h:10≤m):Lib.itoa (m:Int)=Lib.itoa ((m / 10:Nat):Int)++[kc m]:=by
 rw[Lib.itoa_nonneg,Lib.itoa_nonneg,zU (by omega)];rfl
theorem V3{m:Nat}(h:m<10):Lib.itoa (m:Int)=[kc m]:=by
 rw[Lib.itoa_nonneg,Lib.decDigits_one (by omega),kc,Nat.mod_eq_of_lt h]
def tP(t:Nat×List UInt8):ab:=aq [(0,.int .i64 (t.1:Int)),(3,enc (ay.of (kc t.1::t.2)))] []
theorem xe(m:Nat)(hm:m≤9223372036854775807):aQ Tryz.prog 134 [enc (m:Int)] (enc (ay.of (Lib.itoa (m:Int)))):=by
 refine aQ.bO Tryz.func134 HC IZ Kl (t8 rfl) (fun hwf W0 bE E1 =>?_);simp only[yr,CW,bD];clear hwf;have hd:∀ k:Nat,k≤9223372036854775807→IntKind.i64.wrap (48+(k:Int).tmod 10)=48+(k:Int).tmod 10∧IntKind.u8.wrap (48+(k:Int).tmod 10)=48+(k:Int).tmod 10∧ay.of [UInt8.ofNat (48+(k:Int).tmod 10).toNat]=ay.of [kc k]:=fun k hk=>by
  have e:((k:Int)).tmod 10=((k%10:Nat):Int):=rfl;rw[e];refine ⟨dV _ (by omega) (by omega),ZE (by omega),?_⟩;rw[kc,show ((48:Int)+((k%10:Nat):Int)).toNat=48+k%10 by omega]
 obtain ⟨h1,h2,h3⟩:=hd m hm;have R:=y6 @h1 (y6 @h2 (y6 @h3 (y6 @bu aw)))
 repeat' ((first |refine U.aC (by decide +kernel) rfl fun K hK =>?_|(refine .aA [0,2,3,11] hK ?_;clear hK K)|(with_reducible refine .done (hK _ ?_);clear hK K)|refine U.of rfl ?_|(with_reducible refine aj.aB (fun h =>?_) (fun h =>?_) <;>try simp only[h])) <;>try simp only[aD,R,simprocAttr])
 all_goals clear R
 refine U.loop tP (fun t=>t.1≤9223372036854775807∧Lib.itoa (m:Int)=Lib.itoa (t.1:Int)++t.2) (fun t=>t.1) (m,[]) ⟨hm,by simp⟩ ?_ ?_
 ·simp only[tP];refine bl.b6 ?_ ?_ ?_ ?_ <;>simp[bG,bJ,bF,bA,bH,I.only,bp]
 rintro ⟨k,t⟩ ⟨hk,hin⟩;simp only at hk hin;simp only[tP];by_cases hlt:k<10
 ·have hlc:decide ((k:Int)≥10)=false:=decide_eq_false (by omega);rw[V3 hlt] at hin;rw[hin];have R:=y6 @hlc (y6 @bu aw)
  repeat' ((first |refine U.aC (by decide +kernel) rfl fun K hK =>?_|(refine .aA [0,2,3,11] hK ?_;clear hK K)|(with_reducible refine .done (hK _ ?_);clear hK K)|refine U.of rfl ?_|(with_reducible refine aj.aB (fun h =>?_) (fun h =>?_) <;>try simp only[h])) <;>try simp only[aD,R,simprocAttr])
  all_goals clear R
  all_goals rfl
 ·have hlc:decide ((k:Int)≥10)=true:=decide_eq_true (by omega);have hq:IntKind.i64.wrap ((k:Int).tdiv 10)=((k / 10:Nat):Int):=by
   have e:((k:Int)).tdiv 10=((k / 10:Nat):Int):=rfl;rw[e];exact dV _ (by omega) (by omega)
  obtain ⟨g1,g2,g3⟩:=hd (k / 10) (by omega);rw[V2 (m:=k) (by omega),zz1,List.singleton_append] at hin;have hlen:(kc k::t).length≤100:=by
   have h4:=congrArg List.length hin;rw[Z1] at h4;have h5:=Lib.itoa_length_le (m:Int) (by omega) (by omega);omega
  have hadd:=eW [kc (k / 10)] (kc k::t) (by simp only[List.length_singleton];omega);have R:=y6 @hlc (y6 @hq (y6 @g1 (y6 @g2 (y6 @g3 (y6 @hadd (y6 @bu aw))))))
  repeat' ((first |refine U.aC (by decide +kernel) rfl fun K hK =>?_|(refine .aA [0,2,3,11] hK ?_;clear hK K)|(with_reducible refine .done (hK _ ?_);clear hK K)|refine U.of rfl ?_|(with_reducible refine aj.aB (fun h =>?_) (fun h =>?_) <;>try simp only[h])) <;>try simp only[aD,R,simprocAttr])
  all_goals clear R
  refine ⟨(k / 10,kc k::t),⟨by simp only;omega,hin⟩,by simp only;omega,?_⟩;clear hin hd hadd hlen;refine bl.b6 ?_ ?_ ?_ ?_ <;>simp[bG,bJ,bF,bA,bH,I.only,bp]
theorem mf{n:Int}(h:0≤n∧n<100000000):aQ Tryz.prog 134 [.int .i64 n] (enc (ay.of (Lib.itoa n)))∧(Lib.itoa n).length≤8:=by
 obtain ⟨m,rfl⟩:=zy1 h.1;exact ⟨xe m (by omega),pN (k:=7) (by omega)⟩
theorem FC(r:ah)(hs:r.text.length≤1000000000000)(hn:∀ n∈eM r,0≤n∧n<100000000):aQ Tryz.prog 133 [enc r] (enc (ay.of (di r))):=by
 obtain ⟨c1,l1⟩:=mf (hn r.aM (by simp[eM]));obtain ⟨c2,l2⟩:=mf (hn r.no (by simp[eM]));obtain ⟨c3,l3⟩:=mf (hn r.kind (by simp[eM]));obtain ⟨c4,l4⟩:=mf (hn r.ea (by simp[eM]));obtain ⟨c5,l5⟩:=mf (hn r.known (by simp[eM]));obtain ⟨Hl,l6⟩:=mf (hn r.fq (by simp[eM]));obtain ⟨Hm,l7⟩:=mf (hn r.fC (by simp[eM]));have hb:di r=Lib.itoa r.aM++[32]++Lib.itoa r.no++[32]++Lib.itoa r.kind++[32]++Lib.itoa r.ea++[32]++Lib.itoa r.known++[32]++Lib.itoa r.fq++[32]++Lib.itoa r.fC++[32]++r.text:=by
  simp[di,dJ,eM]
 rw[hb];generalize Lib.itoa r.aM=x1 at *;generalize Lib.itoa r.no=x2 at *;generalize Lib.itoa r.kind=x3 at *;generalize Lib.itoa r.ea=x4 at *;generalize Lib.itoa r.known=x5 at *;generalize Lib.itoa r.fq=x6 at *;generalize Lib.itoa r.fC=x7 at *;have ls:([32]:List UInt8).length=1:=rfl;have a1:=eW x1 [32] (by omega);have a2:=eW (x1++[32]) x2 (by simp only[Z1,ls];omega);have a3:=eW (x1++[32]++x2) [32] (by simp only[Z1,ls];omega);have a4:=eW (x1++[32]++x2++[32]) x3 (by simp only[Z1,ls];omega);have a5:=eW (x1++[32]++x2++[32]++x3) [32] (by simp only[Z1,ls];omega);have a6:=eW (x1++[32]++x2++[32]++x3++[32]) x4 (by simp only[Z1,ls];omega);have a7:=eW (x1++[32]++x2++[32]++x3++[32]++x4) [32] (by simp only[Z1,ls];omega);have a8:=eW (x1++[32]++x2++[32]++x3++[32]++x4++[32]) x5 (by simp only[Z1,ls];omega);have a9:=eW (x1++[32]++x2++[32]++x3++[32]++x4++[32]++x5) [32] (by simp only[Z1,ls];omega);have b1:=eW (x1++[32]++x2++[32]++x3++[32]++x4++[32]++x5++[32]) x6 (by simp only[Z1,ls];omega);have b2:=eW (x1++[32]++x2++[32]++x3++[32]++x4++[32]++x5++[32]++x6) [32] (by simp only[Z1,ls];omega);have b3:=eW (x1++[32]++x2++[32]++x3++[32]++x4++[32]++x5++[32]++x6++[32]) x7 (by simp only[Z1,ls];omega);have b4:=eW (x1++[32]++x2++[32]++x3++[32]++x4++[32]++x5++[32]++x6++[32]++x7) [32] (by simp only[Z1,ls];omega);have b5:=eW (x1++[32]++x2++[32]++x3++[32]++x4++[32]++x5++[32]++x6++[32]++x7++[32]) r.text (by simp only[Z1,ls];omega);refine aQ.bO Tryz.func133 HB IY Kk (t8 rfl) (fun hwf W0 bE E1 =>?_);simp only[yq,CV,bD];clear hwf hb hn;have R:=y6 @mC (y6 @a1 (y6 @a2 (y6 @a3 (y6 @a4 (y6 @a5 (y6 @a6 (y6 @a7 (y6 @a8 (y6 @a9 (y6 @b1 (y6 @b2 (y6 @b3 (y6 @b4 (y6 @b5 aw))))))))))))))
 repeat' ((first |refine U.aC (by decide +kernel) rfl fun K hK =>?_|refine .flat _ (c1) rfl ?_|refine .flat _ (c2) rfl ?_|refine .flat _ (c3) rfl ?_|refine .flat _ (c4) rfl ?_|refine .flat _ (c5) rfl ?_|refine .flat _ (Hl) rfl ?_|refine .flat _ (Hm) rfl ?_|(refine .aA [0,1,2,3] hK ?_;clear hK K)|(with_reducible refine .done (hK _ ?_);clear hK K)|refine U.of rfl ?_|(with_reducible refine aj.aB (fun h =>?_) (fun h =>?_) <;>try simp only[h])) <;>try simp only[aD,R,simprocAttr])
 all_goals clear R
 all_goals rfl
theorem EZ(s:Int)(l:List UInt8)(c:UInt8):dA s (l++[c])=(257*dA s l+c.toNat+1)%1000003:=by simp[dA]
theorem EX{s:Int}{c:UInt8}(h:0≤s∧s<1000003):IntKind.i64.wrap (257*s)=257*s∧IntKind.i64.wrap (c.toNat:Int)=c.toNat∧IntKind.i64.wrap (257*s+c.toNat)=257*s+c.toNat∧IntKind.i64.wrap (257*s+c.toNat+1)=257*s+c.toNat+1 ∧
  (257*s+(c.toNat:Int)+1).tmod 1000003=(257*s+c.toNat+1)%1000003:=by
 have hc:=c.toNat_lt;exact ⟨dV _ (by omega) (by omega),dV _ (by omega) (by omega),dV _ (by omega) (by omega),dV _ (by omega) (by omega),Int.tmod_eq_emod_of_nonneg (by omega)⟩
theorem uc{r:ah}{k:Nat}(ht:r.text.length≤k)(hn:∀ n∈eM r,0≤n∧n<100000000):(di r).length≤63+k:=by
 have h:∀ l:List Int,(∀ x∈l,0≤x∧x<100000000)→(dJ l).length≤9*l.length:=by
  intro l
  induction l with
  |nil=>intro _;simp[dJ]
  |cons x l ih =>
   intro h;have h1:=ih fun y hy=>h y (by simp[hy]);have h2:=pN (k:=7) (n:=x) (by have:=h x (by simp);omega);simp only[dJ] at h1;simp only[dJ,List.flatMap_cons,Z1,zx0,zx1];omega
 have:=h _ hn;have h4:(eM r).length=7:=rfl;rw[di,Z1];omega
theorem oY(s:Int)(hs:0≤s∧s<1000003)(r:ah)(hr:bm r=true):aQ Tryz.prog 81 [enc s,enc r] (.tuple [enc (ay.of (dT s r)),enc (dA s (di r))]):=by
 have ht:=sH hr;have hn:=sF hr;have hbl:=uc ht hn;have hF:=FA r (by omega);have hsum:=fun l=>oN hs l;simp only[dT];generalize hb:di r=b at *;have hsb:=wz b;refine aQ.bO Tryz.func81 Im JC K0 (t8 rfl) (fun hwf W0 bE E1 =>?_);simp only[y9,DC,bD,Z5];clear hwf;have R:=y6 @hsb (y6 @bu (y6 @gC aw))
 repeat' ((first |refine aZ.eN rfl fun m =>?_|refine U.aC (by decide +kernel) rfl fun K hK =>?_|refine .flat _ (hF) rfl ?_|(refine .aA [0,1,3,4,5,6,8,12,13,14,15] hK ?_;clear hK K)|(with_reducible refine .done (hK _ ?_);clear hK K)|refine U.of rfl ?_|(with_reducible refine aj.aB (fun h =>?_) (fun h =>?_) <;>try simp only[h])) <;>try simp only[aD,R,simprocAttr])
 all_goals clear R
 refine U.loop (fun i:Nat=>aq [(0,.int .i64 (dA s (b.take i))),(3,.ptr 3 []),(6,enc (ay.of b)),(12,enc b),(13,.int .i64 b.length),(14,.int .i64 i)] [(3,.box (enc r))]) (fun i=>i≤b.length) (fun i=>b.length-i) 0 (zx7 _) ?_ ?_
 ·refine bl.jJ [12] 12 (x:=.view 12 [] 1 0 b.length) (y:=enc b) rfl (Ar rfl) ?_ ?_ ?_ ?_ ?_ <;>simp[c7,bA,bG,bJ,bF,al,fO,bH,aE,ai.only,I.only,bp]
  all_goals rfl
 intro i hi;have hst:=hsum (b.take i);by_cases hlt:i<b.length
 ·have hlc:=eC hlt;have he:=fun A=>ec (A:=A) 1 hlt rfl;have hw:=ew (i:=i) (by omega);have hsn:=EZ s (b.take i) b[i];rw[←List.take_succ_eq_append_getElem hlt] at hsn;generalize b[i]=c at *;generalize dA s (b.take i)=z at *;obtain ⟨g1,g2,g3,g4,g5⟩:=EX (c:=c) hst;have R:=y6 @hlc (y6 @he (y6 @hw (y6 @g1 (y6 @g2 (y6 @g3 (y6 @g4 (y6 @g5 (y6 @qp (y6 @bu aw)))))))))
  repeat' ((first |refine U.aC (by decide +kernel) rfl fun K hK =>?_|(refine .aA [0,1,3,4,5,6,8,12,13,14,15] hK ?_;clear hK K)|(with_reducible refine .done (hK _ ?_);clear hK K)|refine U.of rfl ?_|(with_reducible refine aj.aB (fun h =>?_) (fun h =>?_) <;>try simp only[h])) <;>try simp only[aD,R,simprocAttr])
  all_goals clear R
  refine ⟨i+1,by omega,by omega,?_⟩;rw[hsn];refine bl.b6 ?_ ?_ ?_ ?_ <;>simp[bG,bJ,bF,bA,al,bH,cw,I.only,ai.only,bp]
  all_goals rfl
 ·have hlc:=eV hlt;have hge:i=b.length:=by omega
  subst hge;rw[List.take_length] at hst ⊢;generalize dA s b=z at *;obtain ⟨q,rfl⟩:=zy1 hst.1;have hz:=FB (q:Int);have hzl:=pN (k:=7) (n:=(q:Int)) (by omega);rw[vh] at hz;have a1:=eW (Lib.itoa (q:Int)) [32] (by simp;omega);have a2:=eW (Lib.itoa (q:Int)++[32]) b (by simp;omega);have a3:=eW (Lib.itoa (q:Int)++[32]++b) [10] (by simp;omega);have e:dJ [(q:Int)]=Lib.itoa (q:Int)++[32]:=by simp[dJ]
  rw[e];have R:=y6 @hlc (y6 @mC (y6 @pw (y6 @a1 (y6 @a2 (y6 @a3 aw)))))
  repeat' ((first |refine U.aC (by decide +kernel) rfl fun K hK =>?_|refine .flat _ (hz) rfl ?_|(refine .aA [0,1,3,4,5,6,8,12,13,14,15] hK ?_;clear hK K)|(with_reducible refine .done (hK _ ?_);clear hK K)|refine U.of rfl ?_|(with_reducible refine aj.aB (fun h =>?_) (fun h =>?_) <;>try simp only[h])) <;>try simp only[aD,R,simprocAttr])
  all_goals clear R
  all_goals rfl
theorem F3(s:Int)(hs:0≤s∧s<1000003)(r:ah)(hr:bm r=true):aQ Tryz.prog 83 [enc s,enc r] (.tuple [enc (ay.of (dT s r)),enc (dA s (di r))]):=by
 have ht:=sH hr;have hn:=sF hr;have hbl:=uc ht hn;have hF:=FC r (by omega) hn;have hsum:=fun l=>oN hs l;simp only[dT];generalize hb:di r=b at *;have hl:=oK b;refine aQ.bO Tryz.func83 Ip JE K2 (t8 rfl) (fun hwf W0 bE E1 =>?_);simp only[zb,DF,bD,Z5];clear hwf;have R:=y6 @bu aw
 repeat' ((first |refine U.aC (by decide +kernel) rfl fun K hK =>?_|refine .flat _ (hF) rfl ?_|(refine .aA [0,1,3,4,5,6,7,13] hK ?_;clear hK K)|(with_reducible refine .done (hK _ ?_);clear hK K)|refine U.of rfl ?_|(with_reducible refine aj.aB (fun h =>?_) (fun h =>?_) <;>try simp only[h])) <;>try simp only[aD,R,simprocAttr])
 all_goals clear R
 refine U.loop (fun i:Nat=>aq [(0,.int .i64 (dA s (b.take i))),(3,.ptr 3 []),(6,enc (ay.of b)),(7,.int .i64 i)] [(3,.box (enc r))]) (fun i=>i≤b.length) (fun i=>b.length-i) 0 (zx7 _) ?_ ?_
 ·refine bl.b6 ?_ ?_ ?_ ?_ <;>simp[bG,bJ,bF,bA,al,bH,cw,I.only,ai.only,bp]
  all_goals rfl
 intro i hi;have hst:=hsum (b.take i);by_cases hlt:i<b.length
 ·have hlc:=eC hlt;have he:=EB b hlt;have hw:=ew (i:=i) (by omega);have hsn:=EZ s (b.take i) b[i];rw[←List.take_succ_eq_append_getElem hlt] at hsn;generalize b[i]=c at *;generalize dA s (b.take i)=z at *;obtain ⟨g1,g2,g3,g4,g5⟩:=EX (c:=c) hst;have R:=y6 @hl (y6 @hlc (y6 @he (y6 @hw (y6 @g1 (y6 @g2 (y6 @g3 (y6 @g4 (y6 @g5 (y6 @bu aw)))))))))
  repeat' ((first |refine U.aC (by decide +kernel) rfl fun K hK =>?_|(refine .aA [0,1,3,4,5,6,7,13] hK ?_;clear hK K)|(with_reducible refine .done (hK _ ?_);clear hK K)|refine U.of rfl ?_|(with_reducible refine aj.aB (fun h =>?_) (fun h =>?_) <;>try simp only[h])) <;>try simp only[aD,R,simprocAttr])
  all_goals clear R
  refine ⟨i+1,by omega,by omega,?_⟩;rw[hsn];refine bl.b6 ?_ ?_ ?_ ?_ <;>simp[bG,bJ,bF,bA,al,bH,cw,I.only,ai.only,bp]
  all_goals rfl
 ·have hlc:=eV hlt;have hge:i=b.length:=by omega
  subst hge;rw[List.take_length] at hst ⊢;generalize dA s b=z at *;obtain ⟨q,rfl⟩:=zy1 hst.1;have hz:=xe q (by omega);have hzl:=pN (k:=7) (n:=(q:Int)) (by omega);have a1:=eW (Lib.itoa (q:Int)) [32] (by simp;omega);have a2:=eW (Lib.itoa (q:Int)++[32]) b (by simp;omega);have a3:=eW (Lib.itoa (q:Int)++[32]++b) [10] (by simp;omega);have e:dJ [(q:Int)]=Lib.itoa (q:Int)++[32]:=by simp[dJ]
  rw[e];have R:=y6 @hl (y6 @hlc (y6 @mC (y6 @pw (y6 @a1 (y6 @a2 (y6 @a3 aw))))))
  repeat' ((first |refine U.aC (by decide +kernel) rfl fun K hK =>?_|refine .flat _ (hz) rfl ?_|(refine .aA [0,1,3,4,5,6,7,13] hK ?_;clear hK K)|(with_reducible refine .done (hK _ ?_);clear hK K)|refine U.of rfl ?_|(with_reducible refine aj.aB (fun h =>?_) (fun h =>?_) <;>try simp only[h])) <;>try simp only[aD,R,simprocAttr])
  all_goals clear R
  all_goals rfl
def kl(s:Int)(r:ah):List UInt8×Int×Int:=if en 0 1000002 s=false then ([],0,1) else if bm r=false then ([],0,80) else (dT s r,dA s (di r),0)
theorem Ww{s:Int}{r:ah}(h:en 0 1000002 s=false):kl s r=([],0,1):=by rw[kl,if_pos h]
theorem Wx{s:Int}{r:ah}(h:en 0 1000002 s=true)(h2:bm r=false):kl s r=([],0,80):=by rw[kl,h,if_neg (by decide),if_pos h2]
theorem Wy{s:Int}{r:ah}(h:en 0 1000002 s=true)(h2:bm r=true):kl s r=(dT s r,dA s (di r),0):=by rw[kl,h,h2,if_neg (by decide),if_neg (by decide)]
theorem FR(s:Int)(r:ah):aQ Tryz.prog 29 [enc s,enc r] (.tuple [enc (ay.of (kl s r).1),enc (kl s r).2.1,enc (kl s r).2.2]):=by
 refine aQ.bO Tryz.func29 H2 Jk KH (t8 rfl) (fun hwf W0 bE E1 =>?_);simp only[yO,Di,bD,Z5];clear hwf;have f1:=xt s;have f2:=oW r;cases q1:en 0 1000002 s
 ·rw[q1] at f1;rw[Ww q1];have R:=aw
  repeat' ((first |refine U.aC (by decide +kernel) rfl fun K hK =>?_|refine .flat _ (f1) rfl ?_|(refine .aA [0,1,3,4,5,6,7,8,9,13] hK ?_;clear hK K)|(with_reducible refine .done (hK _ ?_);clear hK K)|refine U.of rfl ?_|(with_reducible refine aj.aB (fun h =>?_) (fun h =>?_) <;>try simp only[h])) <;>try simp only[aD,R,simprocAttr])
  all_goals clear R
  all_goals rfl
 cases q2:bm r
 ·rw[q1] at f1;rw[q2] at f2;rw[Wx q1 q2];have R:=aw
  repeat' ((first |refine U.aC (by decide +kernel) rfl fun K hK =>?_|refine .flat _ (f1) rfl ?_|refine .flat _ (f2) rfl ?_|(refine .aA [0,1,3,4,5,6,7,8,9,13] hK ?_;clear hK K)|(with_reducible refine .done (hK _ ?_);clear hK K)|refine U.of rfl ?_|(with_reducible refine aj.aB (fun h =>?_) (fun h =>?_) <;>try simp only[h])) <;>try simp only[aD,R,simprocAttr])
  all_goals clear R
  all_goals rfl
 have f3:=oY s (by have:=rV.1 q1;omega) r q2;rw[q1] at f1;rw[q2] at f2;rw[Wy q1 q2];have R:=aw
 repeat' ((first |refine U.aC (by decide +kernel) rfl fun K hK =>?_|refine .flat _ (f1) rfl ?_|refine .flat _ (f2) rfl ?_|refine .lead _ (f3) ?_|(refine .aA [0,1,3,4,5,6,7,8,9,13] hK ?_;clear hK K)|(with_reducible refine .done (hK _ ?_);clear hK K)|refine U.of rfl ?_|(with_reducible refine aj.aB (fun h =>?_) (fun h =>?_) <;>try simp only[h])) <;>try simp only[aD,R,simprocAttr])
 all_goals clear R
 all_goals rfl
def we:bj:=(.seq (.bU none R2) (.seq (.seq (.bU none R8) (.cond (.t 20) (.bU none A4) .skip)) (.seq (.bU none R9) (.seq (.bU none Sa) (.seq (.bU none A5) (.seq (.seq (.bU none Sb) (.block 0 (.loop (.seq (.bU none Sc) (.seq (.cond (.t 29) .skip (.exit 0)) (.seq (.block 1 (.seq (.bU none Sd) (.bU none A1))) (.bU none R3))))))) (.seq (.bU none R4) (.seq (.seq (.bU none R5) (.cond (.t 59) (.bU none A2) .skip)) (.seq (.bU none R6) (.seq (.seq (.bU none R7) (.cond (.t 75) (.bU none uX) .skip)) (.seq (.bU LG uY) .ret)))))))))))
theorem LV:Tryz.f70.body.bind (ux Tryz.prog Tryz.f70.ntmps)=some (.bU none AZ,124,[4,5,6],13,we):=by kernel_rfl
def gT(s:Int)(t:List UInt8):ah×Int×Bool:=match ed bm s t with
 |some (r,n)=>(r,n,true)
 |none=>(default,0,false)
def gR(r:ah)(n:Int)(b:Bool):List (Nat×ai):=[(1900004,.box (enc r)),(1900005,.box (.int .i64 n)),(1900006,.box (.bool b))]
def kM(x:ah×Int×Bool):I:=.tuple [enc x.1,.int .i64 x.2.1,.bool x.2.2]
def qd(s:Int)(t:List UInt8):cd:=fun r os'=>r=kM (gT s t)∧os'=gR (gT s t).1 (gT s t).2.1 (gT s t).2.2
def ni:List (Nat×Nat):=[(1900004,4),(1900005,5),(1900006,6)]
def vP:List (Nat×ai):=[(6,.box (.bool false)),(5,.box (.int .i64 0)),(4,.box (enc (default:ah)))]
def mO:List Nat:=[1900004,1900005,1900006]
def nB:List I:=[enc (default:ah),.int .i64 0,.bool false]
theorem s9(m:Nat):bg ni m=if m=1900004 then 4 else if m=1900005 then 5 else if m=1900006 then 6 else m:=rfl
theorem sd{r:ah}{n:Int}{b:Bool}{m:Nat}{y:ai}(h:aE (gR r n b) m=some y):(m=1900004∧y=.box (enc r))∨(m=1900005∧y=.box (.int .i64 n))∨(m=1900006∧y=.box (.bool b)):=by
 simp only[gR,aE] at h;split at h
 ·rename_i e;cases h;exact .inl ⟨e,rfl⟩
 split at h
 ·rename_i e;cases h;exact .inr (.inl ⟨e,rfl⟩)
 split at h
 ·rename_i e;cases h;exact .inr (.inr ⟨e,rfl⟩)
 ·cases h
theorem lp{r:ah}{n:Int}{b:Bool}{m:Nat} : al (gR r n b) m=true↔m=1900004∨m=1900005∨m=1900006:=by
 constructor
 ·intro h;cases hy:aE (gR r n b) m with
  |none=>rw[al,hy] at h;cases h
  |some y=>rcases sd hy with ⟨h,_⟩ | ⟨h,_⟩ | ⟨h,_⟩ <;>simp[h]
 ·rintro (rfl | rfl | rfl) <;>rfl
theorem mQ{r:ah}{n:Int}{b:Bool}{m:Nat}{y:ai}(h:aE (gR r n b) m=some y)(p:Nat→Bool):y.only p=true∧y.ej=true∧y.aO (bg ni)=y:=by
 rcases sd h with ⟨_,rfl⟩ | ⟨_,rfl⟩ | ⟨_,rfl⟩
 ·exact ⟨bp _ _,rfl,by simp only[ai.aO,gJ]⟩
 ·exact ⟨rfl,rfl,rfl⟩
 ·exact ⟨rfl,rfl,rfl⟩
theorem VO:eP ni (gR default 0 false) vP:=by
 refine ⟨fun m y hy=>⟨?_,(mQ hy _).1,(mQ hy (fun _=>true)).2.1⟩,fun m m' hm hm' e =>?_⟩
 ·rw[(mQ hy (fun _=>true)).2.2];rcases sd hy with ⟨rfl,rfl⟩ | ⟨rfl,rfl⟩ | ⟨rfl,rfl⟩ <;>rfl
 ·have k1:=lp.1 hm;have k2:=lp.1 hm';rw[s9,s9] at e
  (repeat' split at e) <;>omega
theorem GS(s:Int)(t:List UInt8):∀ r os',qd s t r os'→df false ni (gR default 0 false) vP r os':=by
 rintro r os' ⟨rfl,rfl⟩;refine ⟨fun m y hy=>⟨(mQ hy _).1,(mQ hy (fun _=>true)).2.1,fun h=>by cases h⟩,fun m m' hm hm' e =>?_,fun m hm=>lp.2 (lp.1 hm),fun m hm hno =>?_,⟨?_,fun h=>by cases h⟩⟩
 ·have k1:=lp.1 hm;have k2:=lp.1 hm';rw[s9,s9] at e
  (repeat' split at e) <;>omega
 ·rw[lp.2 (lp.1 hm)] at hno;cases hno
 ·simp only[kM,I.only,I.bR,bp,Bool.and_self]
theorem GR(s:Int)(t:List UInt8):∀ r os',qd s t r os'→∃ osF,r.flat=true∧r.aO (bg ni)=r∧(∀ m z,aE osF m=some z→aE (cL ni os'++vP) m=some z∧z.only (al osF)=true∧z.ej=true)∧(r=kM (gT s t)∧osF=[]):=by
 rintro r os' ⟨rfl,rfl⟩;refine ⟨[],?_,?_,fun m z hz=>by simp[aE] at hz,rfl,rfl⟩
 ·rfl
 ·simp only[kM,I.aO,I.cS,gJ]
theorem Ed{r:ah}{n:Int}{b:Bool}{post:cd}{A:ab}(hp:post (kM (r,n,b)) (gR r n b))(t4:A.t 4=.ptr 1900004 [])(t5:A.t 5=.ptr 1900005 [])(t6:A.t 6=.ptr 1900006 [])(o4:A.o 1900004=some (.box (enc r)))(o5:A.o 1900005=some (.box (.int .i64 n)))(o6:A.o 1900006=some (.box (.bool b))) :
  iN sR post A:=by
 refine ⟨gR r n b,[enc r,.int .i64 n,.bool b],fun m z hz=>⟨?_,(mQ hz _).1,(mQ hz (fun _=>true)).2.1⟩,⟨⟨enc r,?_,.inl ⟨rfl,e9 _,bp _ _⟩⟩,⟨.int .i64 n,?_,.inl ⟨rfl,rfl,rfl⟩⟩,⟨.bool b,?_,.inl ⟨rfl,rfl,rfl⟩⟩,trivial⟩,hp⟩
 ·rcases sd hz with ⟨rfl,rfl⟩ | ⟨rfl,rfl⟩ | ⟨rfl,rfl⟩ <;>assumption
 ·simp only[mV,t4,bZ,o4];rfl
 ·simp only[mV,t5,bZ,o5];rfl
 ·simp only[mV,t6,bZ,o6];rfl
theorem oB{s:Int}{t:List UInt8}(hn:ed bm s t=none){A:ab}{x:ah}{n:Int}{b:Bool}(t4:A.t 4=.ptr 1900004 [])(t5:A.t 5=.ptr 1900005 [])(t6:A.t 6=.ptr 1900006 [])(o4:A.o 1900004=some (.box (enc x)))(o5:A.o 1900005=some (.box (.int .i64 n)))(o6:A.o 1900006=some (.box (.bool b))) :
  qg sR (qd s t) jB mO nB (.panic jB) A:=by
 refine ⟨rfl,⟨⟨_,o4,(eK _).trans (eK _).symm⟩,⟨_,o5,rfl⟩,⟨_,o6,rfl⟩,trivial⟩,?_⟩;refine Ed (r:=default) (n:=0) (b:=false) ?_ t4 t5 t6 ?_ ?_ ?_
 ·show _∧_
  rw[gT,hn];exact ⟨rfl,rfl⟩
 ·simp[mO,nB,nl,ab.aS]
 ·simp[mO,nB,nl,ab.aS]
 ·simp[mO,nB,nl,ab.aS]
theorem Cx{Q:Exit→ab→Prop}{ts:List (Nat×I)}{os0:List (Nat×ai)}{u:List UInt8}{v:I}(hv:v=enc (ay.of u))(hlen:u.length≤281474976710656)(h:∀ w t,dB 32 u=some (w,t)→gx w=none)(hq:Q (.panic jB) (aq ts os0)):o7 Tryz.prog Q 126 [v] (aq ts os0):=by
 subst hv;exact .mk false [] [] [enc (ay.of u)] jB _ (Fx (ay.of u) (by rw[ay.dI];exact hlen) (by rw[ay.dI];exact h)) ⟨fun m x h=>by simp[aE] at h,fun m m' h=>by simp[al,aE] at h⟩ ⟨.inl ⟨(gJ _ _).symm,bp _ _,e9 _⟩,trivial⟩
  (fun os' h=>by subst h;exact ⟨fun m x h=>by simp[aE] at h,fun m m' h=>by simp[al,aE] at h,fun m h=>h,fun m h=>by simp[al,aE] at h,⟨rfl,fun h=>by cases h⟩⟩) (fun os' h=>by subst h;exact hq)
def dO(l:List Int):eG 7 Int:=⟨(l++List.replicate 7 0).take 7,by simp⟩
theorem X3{l:List Int}(h:l.length<7)(v:Int):(⟨(dO l).l.set l.length v,by simp[(dO l).h]⟩:eG 7 Int)=dO (l++[v]):=by
 simp only[dO,eG.mk.injEq];refine List.ext_getElem (by simp) fun i h1 h2 =>?_;simp only[Z9,Z1,List.length_replicate,List.length_set,zx0,zx1] at h1 h2;simp only[List.getElem_set,List.getElem_take,List.getElem_append];by_cases e:l.length=i
 ·subst e;simp
 ·by_cases k:i<l.length
  ·rw[if_neg e,dif_pos k,dif_pos (by simp;omega),dif_pos k]
  ·rw[if_neg e,dif_neg k,dif_neg (by simp;omega)];simp only[List.getElem_replicate]
theorem z8:I.agg [.int .i64 0,.int .i64 0,.int .i64 0,.int .i64 0,.int .i64 0,.int .i64 0,.int .i64 0]=enc (dO []):=rfl
theorem X2{l:List Int}(h:l.length=7)(k:Nat):(dO l).g k=l.getD k 0:=by
 simp only[eG.g,dO];rw[List.take_left' h]
theorem Y8{l:List Int}(h:l.length<7)(v:Int):(enc (dO l):I).dy [l.length] (.int .i64 v)=enc (dO (l++[v])):=by
 have h1:(enc (dO l):I).dc=some ((dO l).l.map enc):=rfl;rw[wC,h1];simp only[oM,A8 (dO l) h,qt,fI];rw[←X3 h]
 change I.agg _=I.agg (((dO l).l.set l.length v).map enc)
 rw[List.map_set];rfl
theorem Zn{A:ab}{n:Nat}{l:List Int}(h:l.length<7){v u:Int}{rest:List az} : eO A none n [l.length] (enc (dO l)) (.int .i64 v) rest (some (.int .i64 u))=av rest (A.aS n (.box (enc (dO (l++[v]))))):=by
 rw[fK (s:=none) (v:=.int .i64 v) (old:=.int .i64 u) rfl rfl rfl,Y8 h]
theorem Bv(t:List UInt8):Lib.hasSuffix t [10]=decide (t.getLast?=some 10):=by
 have:Lib.hasSuffix t [10]=true↔t.getLast?=some 10:=by
  rw[Lib.hasSuffix,List.isSuffixOf_iff_suffix];constructor
  ·rintro ⟨x,rfl⟩;simp
  ·intro h;obtain ⟨x,rfl⟩:=List.getLast?_eq_some_iff.1 h;exact ⟨x,rfl⟩
 cases h:Lib.hasSuffix t [10]
 ·rw[h] at this;exact (decide_eq_false fun k=>by simpa using this.2 k).symm
 ·rw[h] at this;exact (decide_eq_true (this.1 rfl)).symm
theorem ZD{t:List UInt8}(h:t.getLast?=some 10):Lib.trimSuffix t [10]=t.dropLast:=by
 rw[Lib.trimSuffix,Bv,decide_eq_true h,if_pos rfl,List.dropLast_eq_take];rfl
theorem ee:(∀ A n b rest (q r:ah),eO A (some 8) n [] b (enc q) rest (some (enc r))=av rest (A.aS n (.box (enc q))))∧(∀ A n b rest (q:ah) v,v=enc q→eO A (some 8) n [] b v rest (some (enc (default:ah)))=av rest (A.aS n (.box (enc q)))) :=
 ⟨fun A n b rest q r=>by rw[fK (e9 _) (by rw[iy];rfl) ((eK _).trans (eK _).symm),fI],fun A n b rest q v h=>by rw[h,fK (e9 _) (by rw[iy];rfl) ((eK _).trans (eK _).symm),fI]⟩
theorem eA:I.agg [.agg [.int .i64 0,.int .i64 0],.int .i64 0,.int .i64 0,.int .i64 0,.agg [.int .i64 0,.int .i64 0],.ak ⟨#[]⟩]=enc (default:ah):=rfl
theorem nL:(∀ x y,fJ [.int .i64 0,.int .i64 0] [(0,.int .i64 x),(1,.int .i64 y)]=some [.int .i64 x,.int .i64 y]) ∧
  (∀ (x1 x2 n1 n2 n3 y1 y2:Int) (u:List UInt8),fJ [.agg [.int .i64 0,.int .i64 0],.int .i64 0,.int .i64 0,.int .i64 0,.agg [.int .i64 0,.int .i64 0],.ak ⟨#[]⟩] [(0,.agg [.int .i64 x1,.int .i64 x2]),(1,.int .i64 n1),(2,.int .i64 n2),(3,.int .i64 n3),(4,.agg [.int .i64 y1,.int .i64 y2]),(5,enc (ay.of u))]=some [.agg [.int .i64 x1,.int .i64 x2],.int .i64 n1,.int .i64 n2,.int .i64 n3,.agg [.int .i64 y1,.int .i64 y2],enc (ay.of u)]) :=
 ⟨fun _ _=>rfl,fun _ _ _ _ _ _ _ _=>rfl⟩
theorem qw:(∀ A n b rest (q r:Int),eO A none n [] b (.int .i64 q) rest (some (.int .i64 r))=av rest (A.aS n (.box (.int .i64 q))))∧(∀ A n b rest (q r:Bool),eO A none n [] b (.bool q) rest (some (.bool r))=av rest (A.aS n (.box (.bool q)))) :=
 ⟨fun A n b rest q r=>by rw[fK (s:=none) (v:=.int .i64 q) (old:=.int .i64 r) rfl rfl rfl,fI],fun A n b rest q r=>by rw[fK (s:=none) (v:=.bool q) (old:=.bool r) rfl rfl rfl,fI]⟩
theorem Mi{n0:Int}{l:List Int}{u:List UInt8}(h:l.length=7):I.agg [.agg [.int .i64 ((dO l).g 0),.int .i64 ((dO l).g 1)],.int .i64 ((dO l).g 2),.int .i64 ((dO l).g 3),.int .i64 ((dO l).g 4),.agg [.int .i64 ((dO l).g 5),.int .i64 ((dO l).g 6)],enc (ay.of u)]=enc (js (n0::l) u):=by
 simp only[X2 h];rfl
theorem Yt{s n0:Int}{t u:List UInt8}{l:List Int}(h:t.getLast?=some 10)(hp:iZ gx 8 t.dropLast=some (n0::l,u)) :
  ed bm s t=if bm (js (n0::l) u)=true∧dT s (js (n0::l) u)=t∧n0=dA s (di (js (n0::l) u)) then some (js (n0::l) u,dA s (di (js (n0::l) u))) else none:=by
 rw[ed,if_pos h,hp,Option.bind_some];generalize js (n0::l) u=r;simp only[List.headD_cons,nT];by_cases a:bm r=true
 ·by_cases b:dT s r=t
  ·by_cases c:n0=dA s (di r)
   ·simp[a,b,c]
   ·simp[a,b,c]
  ·simp[b]
 ·simp[a]
structure xE where
 n0:Int
 l:List Int
 u:List UInt8
def tQ(s:Int)(t:List UInt8)(x:xE):ab:=aq [(0,enc s),(1,enc (ay.of t)),(4,.ptr 1900004 []),(5,.ptr 1900005 []),(6,.ptr 1900006 []),(7,enc (ay.of x.u)),(9,enc x.n0),(10,.ptr 10 []),(28,.int .i64 x.l.length)] ((10,.box (enc (dO x.l)))::gR default 0 false)
def Fs(t:List UInt8)(x:xE):Prop:=x.l.length≤7∧x.u.length≤t.length∧iZ gx 8 t.dropLast=(iZ gx (7-x.l.length) x.u).map fun p=>(x.n0::x.l++p.1,p.2)
theorem E8{f:List UInt8→Option Int}{k:Nat}{u w v:List UInt8}{n:Int}(h1:dB 32 u=some (w,v))(h2:f w=some n):iZ f (k+1) u=(iZ f k v).map fun p=>(n::p.1,p.2):=by
 rw[iZ,h1];simp only[h2]
theorem E7{f:List UInt8→Option Int}{k:Nat}{u:List UInt8}(h:∀ w t,dB 32 u=some (w,t)→f w=none):iZ f (k+1) u=none:=by
 rw[iZ];cases h1:dB 32 u with
 |none=>rfl
 |some p=>simp only[h p.1 p.2 h1]
theorem zT(u:List UInt8):(∃ w v n,dB 32 u=some (w,v)∧gx w=some n∧v.length≤u.length)∨∀ w t,dB 32 u=some (w,t)→gx w=none:=by
 cases h1:dB 32 u with
 |none=>exact .inr fun w t h=>by cases h
 |some p =>
  obtain ⟨w,v⟩:=p;cases h2:gx w with
  |none=>exact .inr fun w' t' h=>by cases h;exact h2
  |some n=>exact .inl ⟨w,v,n,rfl,h2,by have:=rr h1;simp only at this;omega⟩
theorem YL{s:Int}(hs:0≤s∧s<1000003){t:List UInt8}(ht:t.length≤281474976710656)(W:World)(D:aJ)(E:aN)(n:Nat)(d:Deferred) :
  U ⟨Tryz.prog,W,D,n,bY E,E,fp,none,some [d]⟩ we (qg sR (qd s t) jB mO nB) (aq [(0,enc s),(1,enc (ay.of t)),(4,.ptr 1900004 []),(5,.ptr 1900005 []),(6,.ptr 1900006 [])] (gR default 0 false)):=by
 have hC:=Fw (ay.of t) (ay.of [10]);rw[ay.dI,ay.dI,Bv] at hC;simp only[we,gR];by_cases hl:t.getLast?=some 10
 ·have hd:decide (t.getLast?=some 10)=true:=decide_eq_true hl;rw[hd,ZD hl] at hC;have hT:ed bm s t=(iZ gx 8 t.dropLast).bind fun p=>(nT bm s t (js p.1 p.2)).bind fun q=>if p.1.headD 0=q.2 then some q else none:=by rw[ed,if_pos hl]
  have hlt:t.dropLast.length≤t.length:=by simp
  generalize hu0:t.dropLast=u0 at *;rcases zT u0 with ⟨cR,v0,m0,hw,ho,hv⟩ | hno
  rotate_left
  ·have hn:ed bm s t=none:=by rw[hT,E7 (k:=7) hno];rfl
   have R:=y6 @hd (y6 @pw (y6 @jQ (y6 @z8 (y6 @bu aw))))
   repeat' ((first |(with_reducible refine .guard (fun hb =>?_) (fun hb =>?_) <;>try simp only[hb])|(refine U.lx (gs:=A5) (gs1:=[_]) rfl fun K hK =>?_)|refine U.aC (by decide +kernel) rfl fun K hK =>?_|refine .flat _ (hC) rfl ?_|(refine .aA [0,1,4,5,6,7,8,9,10,11,12,20,28,29,59,75] hK ?_;clear hK K)|(with_reducible refine .done (hK _ ?_);clear hK K)|refine U.of rfl ?_|(with_reducible refine aj.aB (fun h =>?_) (fun h =>?_) <;>try simp only[h])) <;>try simp only[aD,R,simprocAttr])
   all_goals clear R
   exact .call (Cx rfl (by omega) hno (oB hn rfl rfl rfl rfl rfl rfl))
  have h126:=xc (ay.of u0) (by rw[ay.dI];omega) cR v0 m0 (by rw[ay.dI];exact hw) ho;have R:=y6 @hd (y6 @pw (y6 @jQ (y6 @z8 (y6 @bu aw))))
  repeat' ((first |(with_reducible refine .guard (fun hb =>?_) (fun hb =>?_) <;>try simp only[hb])|refine U.aC (by decide +kernel) rfl fun K hK =>?_|refine .flat _ (hC) rfl ?_|refine .lead _ (h126) ?_|(refine .aA [0,1,4,5,6,7,8,9,10,11,12,20,28,29,59,75] hK ?_;clear hK K)|(with_reducible refine .done (hK _ ?_);clear hK K)|refine U.of rfl ?_|(with_reducible refine aj.aB (fun h =>?_) (fun h =>?_) <;>try simp only[h])) <;>try simp only[aD,R,simprocAttr])
  all_goals clear R
  refine U.loop (tQ s t) (Fs t) (fun x=>7-x.l.length) ⟨m0,[],v0⟩ ⟨by simp,by simp only;omega,?_⟩ ?_ ?_
  ·rw[hu0,E8 hw ho];rfl
  ·simp only[tQ,gR];refine bl.b6 ?_ ?_ ?_ ?_ <;>simp[bG,bJ,bF,bA,al,bH,cw,I.only,ai.only,bp,uD]
   all_goals rfl
  rintro ⟨n0,l,u⟩ ⟨hl7,hul,htk⟩;simp only at hl7 hul htk;rw[hu0] at htk;simp only[tQ,gR];by_cases hlt7:l.length<7
  ·have hlc:decide ((l.length:Int)<7)=true:=decide_eq_true (by omega);have hib:=fun {y:Option I} =>rU 1 (dO l) (y:=y) (show (0:Int)≤(l.length:Int)∧(l.length:Int)<(7:Nat) by omega) rfl;have hat:=fun p=>j8 (p:=p) (dO l) hlt7;have hst:=fun A n v u rest=>Zn (A:=A) (n:=n) hlt7 (v:=v) (u:=u) (rest:=rest);have hws:=ew (i:=l.length) (by omega);have e7:7-l.length=(7-(l++[(0:Int)]).length)+1:=by simp;omega
   rcases zT u with ⟨w,v,m,hw1,ho1,hv1⟩ | hno
   ·have h126':=xc (ay.of u) (by rw[ay.dI];omega) w v m (by rw[ay.dI];exact hw1) ho1;have R:=y6 @hlc (y6 @hib (y6 @hat (y6 @hst (y6 @hws (y6 @Int.toNat_natCast (y6 @bu aw))))))
    repeat' ((first |(with_reducible refine .guard (fun hb =>?_) (fun hb =>?_) <;>try simp only[hb])|refine U.aC (by decide +kernel) rfl fun K hK =>?_|refine .lead _ (h126') ?_|(refine .aA [0,1,4,5,6,7,8,9,10,11,12,20,28,29,59,75] hK ?_;clear hK K)|(with_reducible refine .done (hK _ ?_);clear hK K)|refine U.of rfl ?_|(with_reducible refine aj.aB (fun h =>?_) (fun h =>?_) <;>try simp only[h])) <;>try simp only[aD,R,simprocAttr])
    all_goals clear R
    refine ⟨⟨n0,l++[m],v⟩,⟨by simp;omega,by simp only;omega,?_⟩,by simp;omega,?_⟩
    ·rw[hu0,htk,e7,E8 hw1 ho1];simp only[Z1,zx0,zx1,Option.map_map]
     congr 1
     funext p
     simp
    ·have el:((l++[m]).length:Int)=((l.length+1:Nat):Int):=by simp
     simp only[el];refine bl.b6 ?_ ?_ ?_ ?_ <;>simp[bG,bJ,bF,bA,al,bH,cw,I.only,ai.only,bp]
     all_goals rfl
   ·have hn:ed bm s t=none:=by rw[hT,htk,e7,E7 hno];rfl
    have R:=y6 @hlc (y6 @hib (y6 @hat (y6 @hst (y6 @hws (y6 @jQ (y6 @bu aw))))))
    repeat' ((first |(with_reducible refine .guard (fun hb =>?_) (fun hb =>?_) <;>try simp only[hb])|(refine U.lx (gs:=A1) (gs1:=[_,_]) rfl fun K hK =>?_)|refine U.aC (by decide +kernel) rfl fun K hK =>?_|refine .flat _ (hC) rfl ?_|(refine .aA [0,1,4,5,6,7,8,9,10,11,12,20,28,29,59,75] hK ?_;clear hK K)|(with_reducible refine .done (hK _ ?_);clear hK K)|refine U.of rfl ?_|(with_reducible refine aj.aB (fun h =>?_) (fun h =>?_) <;>try simp only[h])) <;>try simp only[aD,R,simprocAttr])
    all_goals clear R
    exact .call (Cx rfl (by omega) hno (oB hn rfl rfl rfl rfl rfl rfl))
  ·have hlc:decide ((l.length:Int)<7)=false:=decide_eq_false (by omega);have h7:l.length=7:=by omega
   have hib:=fun {k:Int} {y:Option I} (h:(0:Int)≤k∧k<(7:Nat))=>rU 1 (dO l) (y:=y) h rfl;have hi0:=fun {y:Option I} =>hib (k:=0) (y:=y) (by decide);have hi1:=fun {y:Option I} =>hib (k:=1) (y:=y) (by decide);have hi2:=fun {y:Option I} =>hib (k:=2) (y:=y) (by decide);have hi3:=fun {y:Option I} =>hib (k:=3) (y:=y) (by decide);have hi4:=fun {y:Option I} =>hib (k:=4) (y:=y) (by decide);have hi5:=fun {y:Option I} =>hib (k:=5) (y:=y) (by decide);have hi6:=fun {y:Option I} =>hib (k:=6) (y:=y) (by decide);have ha0:=fun p=>j8 (p:=p) (dO l) (show 0<7 by decide);have ha1:=fun p=>j8 (p:=p) (dO l) (show 1<7 by decide);have ha2:=fun p=>j8 (p:=p) (dO l) (show 2<7 by decide);have ha3:=fun p=>j8 (p:=p) (dO l) (show 3<7 by decide);have ha4:=fun p=>j8 (p:=p) (dO l) (show 4<7 by decide);have ha5:=fun p=>j8 (p:=p) (dO l) (show 5<7 by decide);have ha6:=fun p=>j8 (p:=p) (dO l) (show 6<7 by decide);rw[h7,Nat.sub_self,iZ,Z8,List.append_nil] at htk;clear hT;have hT:=Yt (s:=s) hl (hu0▸htk);have hmk:=Mi (n0:=n0) (u:=u) h7;have f80:=oW (js (n0::l) u);generalize js (n0::l) u=r at *;have hstr:=fun A n b rest=>ee.2 A n b rest r _ hmk;cases ho2:bm r
   ·have hn:ed bm s t=none:=by rw[hT,if_neg (by simp[ho2])]
    rw[ho2] at f80;have R:=y6 @hlc (y6 @hi0 (y6 @hi1 (y6 @hi2 (y6 @hi3 (y6 @hi4 (y6 @hi5 (y6 @hi6 (y6 @ha0 (y6 @ha1 (y6 @ha2 (y6 @ha3 (y6 @ha4 (y6 @ha5 (y6 @ha6 (y6 @nL (y6 @hstr (y6 @ee (y6 @jQ (y6 @bu aw)))))))))))))))))))
    repeat' ((first |(with_reducible refine .guard (fun hb =>?_) (fun hb =>?_) <;>try simp only[hb])|(refine U.lx (gs:=A2) (gs1:=[_,_]) rfl fun K hK =>?_)|refine U.aC (by decide +kernel) rfl fun K hK =>?_|refine .flat _ (f80) rfl ?_|(refine .aA [0,1,4,5,6,7,8,9,10,11,12,20,28,29,59,75] hK ?_;clear hK K)|(with_reducible refine .done (hK _ ?_);clear hK K)|refine U.of rfl ?_|(with_reducible refine aj.aB (fun h =>?_) (fun h =>?_) <;>try simp only[h])) <;>try simp only[aD,R,simprocAttr])
    all_goals clear R
    refine mT ?_ (oB hn rfl rfl rfl rfl rfl rfl);rfl
   rw[ho2] at f80;have f81:=oY s hs r ho2;by_cases hq:dT s r=t
   ·by_cases hz:n0=dA s (di r)
    ·have hn:gT s t=(r,dA s (di r),true):=by rw[gT,hT,if_pos ⟨ho2,hq,hz⟩]
     have d1:(n0 != dA s (di r))=false:=by simp[hz]
     have d2:(decide (dT s r=t))=true:=decide_eq_true hq;have R:=y6 @hlc (y6 @hi0 (y6 @hi1 (y6 @hi2 (y6 @hi3 (y6 @hi4 (y6 @hi5 (y6 @hi6 (y6 @ha0 (y6 @ha1 (y6 @ha2 (y6 @ha3 (y6 @ha4 (y6 @ha5 (y6 @ha6 (y6 @d1 (y6 @d2 (y6 @iH (y6 @nL (y6 @hstr (y6 @ee (y6 @qw (y6 @jQ (y6 @bu aw)))))))))))))))))))))))
     repeat' ((first |(with_reducible refine .guard (fun hb =>?_) (fun hb =>?_) <;>try simp only[hb])|refine U.aC (by decide +kernel) rfl fun K hK =>?_|refine .flat _ (f80) rfl ?_|refine .lead _ (f81) ?_|(refine U.lv (gs:=uY) [] [(4,[1900004]),(5,[1900005]),(6,[1900006])] [0,1,2,3,4] (by decide +kernel) (dG.of (by simp[jl,bH,I.only])) fun K hK =>?_;simp only[jW,uY,List.getD_cons_zero,List.getD_cons_succ,R,simprocAttr])|(refine .aA [0,1,4,5,6,7,8,9,10,11,12,20,28,29,59,75] hK ?_;clear hK K)|(with_reducible refine .done (hK _ ?_);clear hK K)|refine U.of rfl ?_|(with_reducible refine aj.aB (fun h =>?_) (fun h =>?_) <;>try simp only[h])) <;>try simp only[aD,R,simprocAttr])
     all_goals clear R
     exact ⟨⟨⟨_,rfl,(eK _).trans (eK _).symm⟩,⟨_,rfl,rfl⟩,⟨_,rfl,rfl⟩,trivial⟩,Ed (r:=r) (n:=dA s (di r)) (b:=true) (show _∧_ by rw[hn];exact ⟨rfl,rfl⟩) rfl rfl rfl rfl rfl rfl⟩
    ·have hn:ed bm s t=none:=by rw[hT,if_neg (fun k=>hz k.2.2)]
     have d1:(n0 != dA s (di r))=true:=by simp[hz]
     have d2:(decide (dT s r=t))=true:=decide_eq_true hq;have R:=y6 @hlc (y6 @hi0 (y6 @hi1 (y6 @hi2 (y6 @hi3 (y6 @hi4 (y6 @hi5 (y6 @hi6 (y6 @ha0 (y6 @ha1 (y6 @ha2 (y6 @ha3 (y6 @ha4 (y6 @ha5 (y6 @ha6 (y6 @d1 (y6 @d2 (y6 @iH (y6 @nL (y6 @hstr (y6 @ee (y6 @qw (y6 @jQ (y6 @bu aw)))))))))))))))))))))))
     repeat' ((first |(with_reducible refine .guard (fun hb =>?_) (fun hb =>?_) <;>try simp only[hb])|(refine U.lx (gs:=uX) (gs1:=[_,_]) rfl fun K hK =>?_)|refine U.aC (by decide +kernel) rfl fun K hK =>?_|refine .flat _ (f80) rfl ?_|refine .lead _ (f81) ?_|(refine .aA [0,1,4,5,6,7,8,9,10,11,12,20,28,29,59,75] hK ?_;clear hK K)|(with_reducible refine .done (hK _ ?_);clear hK K)|refine U.of rfl ?_|(with_reducible refine aj.aB (fun h =>?_) (fun h =>?_) <;>try simp only[h])) <;>try simp only[aD,R,simprocAttr])
     all_goals clear R
     refine mT ?_ (oB hn rfl rfl rfl rfl rfl rfl);rfl
   ·have hn:ed bm s t=none:=by rw[hT,if_neg (fun k=>hq k.2.1)]
    have d2:(decide (dT s r=t))=false:=decide_eq_false hq;have R:=y6 @hlc (y6 @hi0 (y6 @hi1 (y6 @hi2 (y6 @hi3 (y6 @hi4 (y6 @hi5 (y6 @hi6 (y6 @ha0 (y6 @ha1 (y6 @ha2 (y6 @ha3 (y6 @ha4 (y6 @ha5 (y6 @ha6 (y6 @d2 (y6 @iH (y6 @nL (y6 @hstr (y6 @ee (y6 @qw (y6 @jQ (y6 @bu aw))))))))))))))))))))))
    repeat' ((first |(with_reducible refine .guard (fun hb =>?_) (fun hb =>?_) <;>try simp only[hb])|(refine U.lx (gs:=uX) (gs1:=[_,_]) rfl fun K hK =>?_)|refine U.aC (by decide +kernel) rfl fun K hK =>?_|refine .flat _ (f80) rfl ?_|refine .lead _ (f81) ?_|(refine .aA [0,1,4,5,6,7,8,9,10,11,12,20,28,29,59,75] hK ?_;clear hK K)|(with_reducible refine .done (hK _ ?_);clear hK K)|refine U.of rfl ?_|(with_reducible refine aj.aB (fun h =>?_) (fun h =>?_) <;>try simp only[h])) <;>try simp only[aD,R,simprocAttr])
    all_goals clear R
    refine mT ?_ (oB hn rfl rfl rfl rfl rfl rfl);rfl
 ·have hd:decide (t.getLast?=some 10)=false:=decide_eq_false hl;have hn:ed bm s t=none:=by rw[ed,if_neg hl]
  rw[hd] at hC;have R:=y6 @hd (y6 @pw (y6 @jQ (y6 @bu aw)))
  repeat' ((first |(with_reducible refine .guard (fun hb =>?_) (fun hb =>?_) <;>try simp only[hb])|(refine U.lx (gs:=A4) (gs1:=[_,_]) rfl fun K hK =>?_)|refine U.aC (by decide +kernel) rfl fun K hK =>?_|refine .flat _ (hC) rfl ?_|(refine .aA [0,1,4,5,6,7,8,9,10,11,12,20,28,29,59,75] hK ?_;clear hK K)|(with_reducible refine .done (hK _ ?_);clear hK K)|refine U.of rfl ?_|(with_reducible refine aj.aB (fun h =>?_) (fun h =>?_) <;>try simp only[h])) <;>try simp only[aD,R,simprocAttr])
  all_goals clear R
  refine mT ?_ (oB hn rfl rfl rfl rfl rfl rfl);rfl
theorem Gc{s:Int}(hs:0≤s∧s<1000003){t:List UInt8}(ht:t.length≤281474976710656):eT Tryz.prog 70 [enc s,enc (ay.of t)] [] (fun r os'=>r=kM (gT s t)∧os'=[]):=by
 refine eT.XJ Tryz.func70 Ie LV KS (t8 rfl) (t8 rfl) (fun m hm=>by simp[al,aE] at hm) (zs:=nB) VQ IM (by decide) fun hwf W0 bE E1 =>?_;simp only[bD,Z5];clear hwf;refine .gS (by decide +kernel) fun K hK =>?_
 try simp only[AZ,aX,simprocAttr]
 refine .done (hK _ ?_);simp only[cH];refine ⟨_,_,ni,gR default 0 false,[0,1,4,5,6],[enc s,enc (ay.of t),.ptr 1900004 [],.ptr 1900005 [],.ptr 1900006 []],mO,qd s t,rfl,?_⟩;exact {
  aY:=rfl
  Bg:=VO
  arg:=⟨.inl ⟨rfl,rfl,rfl⟩,.inl ⟨(gJ _ _).symm,bp _ _,e9 _⟩,.inl ⟨rfl,rfl,rfl⟩,.inl ⟨rfl,rfl,rfl⟩,.inl ⟨rfl,rfl,rfl⟩,trivial⟩
  xV:=GS s t
  EL:=rfl
  len:=rfl
  box:=fun q hq=>by
   simp only[mO,nB,List.zip_cons_cons,List.zip_nil_right,zy8,List.not_mem_nil,or_false] at hq;rcases hq with rfl | rfl | rfl <;>exact ⟨_,rfl,rfl⟩
  lR:=fun m hm=>by
   have:=lp.1 hm;exact ⟨Nat.le_trans (t8 rfl:_≤1000000) (by omega),by omega⟩
  rest:=fun W D E d=>YL hs ht W D E _ d
  kU:=GR s t }
theorem xp{s:Int}(hs:0≤s∧s<1000003){t:List UInt8}(ht:t.length≤281474976710656):aQ Tryz.prog 70 [enc s,enc (ay.of t)] (kM (gT s t)):=aQ.Cb (Gc hs ht)
def kC(s:Int)(t:List UInt8):ah×Int×Int:=if en 0 1000002 s=false then (default,0,1) else match ed bm s t with
 |some (r,n)=>(r,n,0)
 |none=>(default,0,87)
theorem FT(s:Int)(t:List UInt8)(ht:t.length≤281474976710656):aQ Tryz.prog 31 [enc s,enc (ay.of t)] (.tuple [enc (kC s t).1,enc (kC s t).2.1,enc (kC s t).2.2]):=by
 refine aQ.bO Tryz.func31 H3 Jl KI (t8 rfl) (fun hwf W0 bE E1 =>?_);simp only[yP,Dj,bD,Z5];clear hwf;have f1:=xt s;cases q1:en 0 1000002 s
 ·rw[q1] at f1;have e:kC s t=(default,0,1):=by rw[kC,if_pos q1]
  rw[e];have R:=y6 @eA (y6 @ee aw)
  repeat' ((first |refine U.aC (by decide +kernel) rfl fun K hK =>?_|refine .flat _ (f1) rfl ?_|(refine .aA [0,1,4,5,6,7,8,9,12,22] hK ?_;clear hK K)|(with_reducible refine .done (hK _ ?_);clear hK K)|refine U.of rfl ?_|(with_reducible refine aj.aB (fun h =>?_) (fun h =>?_) <;>try simp only[h])) <;>try simp only[aD,R,simprocAttr])
  all_goals clear R
  all_goals rfl
 rw[q1] at f1;have f2:=xp (s:=s) (by have:=rV.1 q1;omega) ht;rw[kM] at f2;cases h:ed bm s t with
 |none =>
  have e:kC s t=(default,0,87):=by rw[kC,if_neg (by simp[q1]),h]
  have e2:gT s t=(default,0,false):=by rw[gT,h]
  rw[e];rw[e2] at f2;have R:=y6 @eA (y6 @ee aw)
  repeat' ((first |refine U.aC (by decide +kernel) rfl fun K hK =>?_|refine .flat _ (f1) rfl ?_|refine .lead _ (f2) ?_|(refine .aA [0,1,4,5,6,7,8,9,12,22] hK ?_;clear hK K)|(with_reducible refine .done (hK _ ?_);clear hK K)|refine U.of rfl ?_|(with_reducible refine aj.aB (fun h =>?_) (fun h =>?_) <;>try simp only[h])) <;>try simp only[aD,R,simprocAttr])
  all_goals clear R
  all_goals rfl
 |some p =>
  obtain ⟨r,n⟩:=p;have e:kC s t=(r,n,0):=by rw[kC,if_neg (by simp[q1]),h]
  have e2:gT s t=(r,n,true):=by rw[gT,h]
  rw[e];rw[e2] at f2;have R:=y6 @eA (y6 @ee aw)
  repeat' ((first |refine U.aC (by decide +kernel) rfl fun K hK =>?_|refine .flat _ (f1) rfl ?_|refine .lead _ (f2) ?_|(refine .aA [0,1,4,5,6,7,8,9,12,22] hK ?_;clear hK K)|(with_reducible refine .done (hK _ ?_);clear hK K)|refine U.of rfl ?_|(with_reducible refine aj.aB (fun h =>?_) (fun h =>?_) <;>try simp only[h])) <;>try simp only[aD,R,simprocAttr])
  all_goals clear R
  all_goals rfl
theorem gX{α:Type}{l:List α}{i:Nat}(h:i<l.length):l.take (i+1)=l.take i++[l[i]]:=List.take_succ_eq_append_getElem h
theorem tp(a:List ah):0≤eF 1 a∧eF 1 a<1000003:=E5 a (by omega)
theorem sa{s:Int}(hs:0≤s∧s<1000003){r:ah}(h:bm r=true):(dT s r).length≤240:=by
 have h1:=uc (k:=160) (sH h) (sF h);have h2:=oN hs (di r);have h3:=pN (k:=7) (n:=dA s (di r)) (by omega);simp only[dT,dJ,List.flatMap_cons,List.flatMap_nil,Z1,zx0,zx1];omega
theorem tr:∀ (l:List ah) {s:Int},0≤s∧s<1000003→(∀ r∈l,bm r=true)→(fh s l).length≤240*l.length
 | [],_,_,_=>by simp[fh]
 |r::l,s,hs,h=>by
  have h1:=sa hs (h r (by simp));have h2:=tr l (oN hs (di r)) fun q hq=>h q (by simp[hq]);simp only[fh,Z1,zx0];omega
theorem FE(l:List ah)(hl:l.length≤4000000000000)(h:∀ r∈l,bm r=true):aQ Tryz.prog 137 [enc l] (enc (eF 1 l)):=by
 refine aQ.bO Tryz.func137 HF I1 Kn (t8 rfl) (fun hwf W0 bE E1 =>?_);simp only[yw,CY,bD];clear hwf;have R:=aw
 repeat' ((first |refine U.aC (by decide +kernel) rfl fun K hK =>?_|(refine .aA [0,2,3,5,6,7,8,9] hK ?_;clear hK K)|(with_reducible refine .done (hK _ ?_);clear hK K)|refine U.of rfl ?_|(with_reducible refine aj.aB (fun h =>?_) (fun h =>?_) <;>try simp only[h])) <;>try simp only[aD,R,simprocAttr])
 all_goals clear R
 refine U.loop (fun i:Nat=>aq [(0,enc l),(3,.int .i64 (eF 1 (l.take i))),(6,enc l),(7,.int .i64 l.length),(8,.int .i64 i)] []) (fun i=>i≤l.length) (fun i=>l.length-i) 0 (zx7 _) ?_ ?_
 ·refine bl.b6 ?_ ?_ ?_ ?_ <;>simp[bG,bJ,bF,bA,bH,I.only,bp]
  all_goals rfl
 intro i hi;by_cases hlt:i<l.length
 ·have hlc:=eC hlt;have he:=fun A=>ec (A:=A) 8 hlt rfl;have hw:=ew (i:=i) (by omega);have hsn:=(wX (l.take i) l[i] 1).2;rw[←gX hlt] at hsn;have hok:=h l[i] (List.getElem_mem hlt);have hst:=tp (l.take i);generalize l[i]=r at *;generalize eF 1 (l.take i)=z at *;have f:=oY z hst r hok;have R:=y6 @hlc (y6 @he (y6 @hw (y6 @eA (y6 @ee aw))))
  repeat' ((first |refine U.aC (by decide +kernel) rfl fun K hK =>?_|refine .lead _ (f) ?_|(refine .aA [0,2,3,5,6,7,8,9] hK ?_;clear hK K)|(with_reducible refine .done (hK _ ?_);clear hK K)|refine U.of rfl ?_|(with_reducible refine aj.aB (fun h =>?_) (fun h =>?_) <;>try simp only[h])) <;>try simp only[aD,R,simprocAttr])
  all_goals clear R
  refine ⟨i+1,by omega,by omega,?_⟩;rw[hsn];refine bl.b6 ?_ ?_ ?_ ?_ <;>simp[bG,bJ,bF,bA,bH,I.only,bp]
  all_goals rfl
 ·have hlc:=eV hlt;have hge:i=l.length:=by omega
  subst hge;rw[List.take_length];have R:=y6 @hlc aw
  repeat' ((first |refine U.aC (by decide +kernel) rfl fun K hK =>?_|(refine .aA [0,2,3,5,6,7,8,9] hK ?_;clear hK K)|(with_reducible refine .done (hK _ ?_);clear hK K)|refine U.of rfl ?_|(with_reducible refine aj.aB (fun h =>?_) (fun h =>?_) <;>try simp only[h])) <;>try simp only[aD,R,simprocAttr])
  all_goals clear R
  all_goals rfl
theorem ZT(l:List ah)(hl:l.length≤4000000000000)(h:∀ r∈l,bm r=true):aQ Tryz.prog 90 [enc l] (enc (ay.of (fh 1 l))):=by
 refine aQ.bO Tryz.func90 Iv JK K8 (t8 rfl) (fun hwf W0 bE E1 =>?_);simp only[zf,DL,bD];clear hwf;have R:=aw
 repeat' ((first |refine U.aC (by decide +kernel) rfl fun K hK =>?_|(refine .aA [0,2,3,4,5,6,7,11] hK ?_;clear hK K)|(with_reducible refine .done (hK _ ?_);clear hK K)|refine U.of rfl ?_|(with_reducible refine aj.aB (fun h =>?_) (fun h =>?_) <;>try simp only[h])) <;>try simp only[aD,R,simprocAttr])
 all_goals clear R
 refine U.loop (fun i:Nat=>aq [(0,enc l),(3,enc (ay.of (fh 1 (l.take i)))),(4,.int .i64 (eF 1 (l.take i))),(5,.int .i64 i)] []) (fun i=>i≤l.length) (fun i=>l.length-i) 0 (zx7 _) ?_ ?_
 ·refine bl.b6 ?_ ?_ ?_ ?_ <;>simp[bG,bJ,bF,bA,bH,I.only,bp]
  all_goals exact ⟨rfl,rfl⟩
 intro i hi;by_cases hlt:i<l.length
 ·have hlc:=eC hlt;have he:=fun A=>ec (A:=A) 8 hlt rfl;have hw:=ew (i:=i) (by omega);have hsn:=wX (l.take i) l[i] 1;rw[←gX hlt] at hsn;have hok:=h l[i] (List.getElem_mem hlt);have hst:=tp (l.take i);have hln:=tr (l.take i) (s:=1) (by omega) fun q hq=>h q (List.mem_of_mem_take hq);have hli:(l.take i).length=i:=by rw[Z9];omega
  generalize l[i]=r at *;have hll:=sa hst hok;generalize eF 1 (l.take i)=z at *;generalize fh 1 (l.take i)=u at *;have f:=F3 z hst r hok;have ha:=eW u (dT z r) (by omega);have R:=y6 @hlc (y6 @he (y6 @hw (y6 @ha aw)))
  repeat' ((first |refine U.aC (by decide +kernel) rfl fun K hK =>?_|refine .lead _ (f) ?_|(refine .aA [0,2,3,4,5,6,7,11] hK ?_;clear hK K)|(with_reducible refine .done (hK _ ?_);clear hK K)|refine U.of rfl ?_|(with_reducible refine aj.aB (fun h =>?_) (fun h =>?_) <;>try simp only[h])) <;>try simp only[aD,R,simprocAttr])
  all_goals clear R
  refine ⟨i+1,by omega,by omega,?_⟩;rw[hsn.1,hsn.2];clear hsn;refine bl.b6 ?_ ?_ ?_ ?_ <;>simp[bG,bJ,bF,bA,bH,I.only,bp]
  all_goals rfl
 ·have hlc:=eV hlt;have hge:i=l.length:=by omega
  subst hge;rw[List.take_length];have R:=y6 @hlc aw
  repeat' ((first |refine U.aC (by decide +kernel) rfl fun K hK =>?_|(refine .aA [0,2,3,4,5,6,7,11] hK ?_;clear hK K)|(with_reducible refine .done (hK _ ?_);clear hK K)|refine U.of rfl ?_|(with_reducible refine aj.aB (fun h =>?_) (fun h =>?_) <;>try simp only[h])) <;>try simp only[aD,R,simprocAttr])
  all_goals clear R
  all_goals rfl
def dj(l:List ah):eG 6 Int:=⟨(List.range 6).map fun m=>(dS l (m:Nat):Int),by simp⟩
theorem rl(l:List ah){k:Nat}(h:k<6):(dj l).g k=dS l k:=by
 have:∀ j:Fin 6,(dj l).g j=dS l (j:Nat):=fun j=>by
  match j with
  |0=>rfl
  |1=>rfl
  |2=>rfl
  |3=>rfl
  |4=>rfl
  |5=>rfl
 exact this ⟨k,h⟩
theorem z7:I.agg [.int .i64 0,.int .i64 0,.int .i64 0,.int .i64 0,.int .i64 0,.int .i64 0]=enc (dj []):=rfl
theorem J8(l:List ah)(r:ah){k:Nat}(h:k<6)(hm:r.aM=(k:Int)):(⟨(dj l).l.set k ((dj l).g k+1),by simp[(dj l).h]⟩:eG 6 Int)=dj (l++[r]):=by
 rw[rl l h];simp only[dj,eG.mk.injEq];refine List.ext_getElem (by simp) fun i h1 h2 =>?_;simp only[List.getElem_set,List.getElem_map,List.getElem_range,nP,hm];by_cases e:k=i
 ·subst e;simp
 ·rw[if_neg e,if_neg (by omega)];simp
theorem Y7(l:List ah)(r:ah){k:Nat}(h:k<6)(hm:r.aM=(k:Int)):(enc (dj l):I).dy [k] (.int .i64 ((dj l).g k+1))=enc (dj (l++[r])):=by
 have h1:(enc (dj l):I).dc=some ((dj l).l.map enc):=rfl;rw[wC,h1];simp only[oM,A8 (dj l) h,qt,fI];rw[←J8 l r h hm]
 change I.agg _=I.agg (((dj l).l.set k ((dj l).g k+1)).map enc)
 rw[List.map_set];rfl
theorem EV(l:List ah)(r:ah){k:Nat}(h:k<6)(hm:r.aM=(k:Int))(A:ab)(n:Nat)(u:Int)(rest:List az):eO A none n [k] (enc (dj l)) (.int .i64 ((dj l).g k+1)) rest (some (.int .i64 u))=av rest (A.aS n (.box (enc (dj (l++[r]))))):=by
 rw[fK (s:=none) (v:=.int .i64 ((dj l).g k+1)) (old:=.int .i64 u) rfl rfl rfl,Y7 l r h hm]
theorem im:(∀ A n b rest (q r:eG 6 Int),eO A (some 6) n [] b (enc q) rest (some (enc r))=av rest (A.aS n (.box (enc q))))∧(∀ q:eG 6 Int,b8 (some 6) (enc q)=true) :=
 ⟨fun A n b rest q r=>by rw[fK (e9 _) (by rw[iy];rfl) ((eK _).trans (eK _).symm),fI],fun q=>by rw[iy];rfl⟩
theorem zJ(l:List ah)(m:Int):dS l m≤l.length:=List.countP_le_length
def pI(l:List ah):Prop:=∀ r∈l,0≤r.aM∧r.aM≤5
theorem w9(l:List ah)(hl:l.length≤4000000000000)(h:pI l):aQ Tryz.prog 100 [enc l] (enc (dj l)):=by
 refine aQ.bO Tryz.func100 Ho IN Ka (t8 rfl) (fun hwf W0 bE E1 =>?_);simp only[yg,CL,bD];clear hwf;have R:=y6 @z7 aw
 repeat' ((first |refine U.aC (by decide +kernel) rfl fun K hK =>?_|(refine .aA [0,2,3,5,6,7,8,9] hK ?_;clear hK K)|(with_reducible refine .done (hK _ ?_);clear hK K)|refine U.of rfl ?_|(with_reducible refine aj.aB (fun h =>?_) (fun h =>?_) <;>try simp only[h])) <;>try simp only[aD,R,simprocAttr])
 all_goals clear R
 refine U.loop (fun i:Nat=>aq [(0,enc l),(2,.ptr 2 []),(3,.ptr 3 []),(6,enc l),(7,.int .i64 l.length),(8,.int .i64 i)] [(2,.box (enc (dj []))),(3,.box (enc (dj (l.take i))))]) (fun i=>i≤l.length) (fun i=>l.length-i) 0 (zx7 _) ?_ ?_
 ·refine bl.b6 ?_ ?_ ?_ ?_ <;>simp[bG,bJ,bF,bA,al,bH,cw,I.only,ai.only,bp]
  all_goals rfl
 intro i hi;by_cases hlt:i<l.length
 ·have hlc:=eC hlt;have he:=fun A=>ec (A:=A) 8 hlt rfl;have hw:=ew (i:=i) (by omega);have hsn:=gX hlt;have hin:=h l[i] (List.getElem_mem hlt);have hle:=zJ (l.take i);have hli:(l.take i).length=i:=by rw[Z9];omega
  generalize l[i]=r at *;obtain ⟨k,hk⟩:=zy1 hin.1;have hk6:k<6:=by omega
  have hib:=fun {y:Option I} =>rU 1 (dj (l.take i)) (y:=y) (show (0:Int)≤(k:Int)∧(k:Int)<(6:Nat) by omega) rfl;have hat:=fun p=>j8 (p:=p) (dj (l.take i)) hk6;have hst:=EV (l.take i) r hk6 hk;have hw1:IntKind.i64.wrap ((dj (l.take i)).g k+1)=(dj (l.take i)).g k+1:=by
   have:=hle k;rw[rl _ hk6];exact dV _ (by omega) (by omega)
  rw[←hsn] at hst;have R:=y6 @hlc (y6 @he (y6 @hw (y6 @hk (y6 @hib (y6 @hat (y6 @hst (y6 @hw1 (y6 @Int.toNat_natCast (y6 @eA (y6 @ee aw))))))))))
  repeat' ((first |refine U.aC (by decide +kernel) rfl fun K hK =>?_|(refine .aA [0,2,3,5,6,7,8,9] hK ?_;clear hK K)|(with_reducible refine .done (hK _ ?_);clear hK K)|refine U.of rfl ?_|(with_reducible refine aj.aB (fun h =>?_) (fun h =>?_) <;>try simp only[h])) <;>try simp only[aD,R,simprocAttr])
  all_goals clear R
  refine ⟨i+1,by omega,by omega,?_⟩;clear hsn;refine bl.b6 ?_ ?_ ?_ ?_ <;>simp[bG,bJ,bF,bA,al,bH,cw,I.only,ai.only,bp]
  all_goals rfl
 ·have hlc:=eV hlt;have hge:i=l.length:=by omega
  subst hge;rw[List.take_length];have R:=y6 @hlc (y6 @im aw)
  repeat' ((first |refine U.aC (by decide +kernel) rfl fun K hK =>?_|(refine .aA [0,2,3,5,6,7,8,9] hK ?_;clear hK K)|(with_reducible refine .done (hK _ ?_);clear hK K)|refine U.of rfl ?_|(with_reducible refine aj.aB (fun h =>?_) (fun h =>?_) <;>try simp only[h])) <;>try simp only[aD,R,simprocAttr])
  all_goals clear R
  all_goals rfl
theorem xa(l:List ah)(hl:l.length≤4000000000000)(h:pI l):aQ Tryz.prog 102 [enc l] (enc (dj l)):=by
 refine aQ.bO Tryz.func102 Hp IP Kb (t8 rfl) (fun hwf W0 bE E1 =>?_);simp only[yh,CM,bD];clear hwf;have R:=y6 @z7 aw
 repeat' ((first |refine U.aC (by decide +kernel) rfl fun K hK =>?_|(refine .aA [0,2,3,4,8] hK ?_;clear hK K)|(with_reducible refine .done (hK _ ?_);clear hK K)|refine U.of rfl ?_|(with_reducible refine aj.aB (fun h =>?_) (fun h =>?_) <;>try simp only[h])) <;>try simp only[aD,R,simprocAttr])
 all_goals clear R
 refine U.loop (fun i:Nat=>aq [(0,enc l),(2,.ptr 2 []),(3,.ptr 3 []),(4,.int .i64 i)] [(2,.box (enc (dj []))),(3,.box (enc (dj (l.take i))))]) (fun i=>i≤l.length) (fun i=>l.length-i) 0 (zx7 _) ?_ ?_
 ·refine bl.b6 ?_ ?_ ?_ ?_ <;>simp[bG,bJ,bF,bA,al,bH,cw,I.only,ai.only,bp]
  all_goals rfl
 intro i hi;by_cases hlt:i<l.length
 ·have hlc:=eC hlt;have he:=fun A=>ec (A:=A) 8 hlt rfl;have hw:=ew (i:=i) (by omega);have hsn:=gX hlt;have hin:=h l[i] (List.getElem_mem hlt);have hle:=zJ (l.take i);have hli:(l.take i).length=i:=by rw[Z9];omega
  generalize l[i]=r at *;obtain ⟨k,hk⟩:=zy1 hin.1;have hk6:k<6:=by omega
  have hib:=fun {y:Option I} =>rU 1 (dj (l.take i)) (y:=y) (show (0:Int)≤(k:Int)∧(k:Int)<(6:Nat) by omega) rfl;have hat:=fun p=>j8 (p:=p) (dj (l.take i)) hk6;have hst:=EV (l.take i) r hk6 hk;have hw1:IntKind.i64.wrap ((dj (l.take i)).g k+1)=(dj (l.take i)).g k+1:=by
   have:=hle k;rw[rl _ hk6];exact dV _ (by omega) (by omega)
  rw[←hsn] at hst;have R:=y6 @hlc (y6 @he (y6 @hw (y6 @hk (y6 @hib (y6 @hat (y6 @hst (y6 @hw1 (y6 @Int.toNat_natCast aw))))))))
  repeat' ((first |refine U.aC (by decide +kernel) rfl fun K hK =>?_|(refine .aA [0,2,3,4,8] hK ?_;clear hK K)|(with_reducible refine .done (hK _ ?_);clear hK K)|refine U.of rfl ?_|(with_reducible refine aj.aB (fun h =>?_) (fun h =>?_) <;>try simp only[h])) <;>try simp only[aD,R,simprocAttr])
  all_goals clear R
  refine ⟨i+1,by omega,by omega,?_⟩;clear hsn;refine bl.b6 ?_ ?_ ?_ ?_ <;>simp[bG,bJ,bF,bA,al,bH,cw,I.only,ai.only,bp]
  all_goals rfl
 ·have hlc:=eV hlt;have hge:i=l.length:=by omega
  subst hge;rw[List.take_length];have R:=y6 @hlc (y6 @im aw)
  repeat' ((first |refine U.aC (by decide +kernel) rfl fun K hK =>?_|(refine .aA [0,2,3,4,8] hK ?_;clear hK K)|(with_reducible refine .done (hK _ ?_);clear hK K)|refine U.of rfl ?_|(with_reducible refine aj.aB (fun h =>?_) (fun h =>?_) <;>try simp only[h])) <;>try simp only[aD,R,simprocAttr])
  all_goals clear R
  all_goals rfl
theorem r2(l:List ah){m:Int}(h:0≤m∧m≤5):mI 6 1 none m (some ((dj l).l.map enc))=some (.int .i64 (dS l m)):=by
 obtain ⟨k,rfl⟩:=zy1 h.1;have hk:k<6:=by omega
 rw[V5 (x:=dj l) 1 (k:=(k:Int)) ⟨h.1,by simpa using hk⟩ rfl];have e:enc ((dj l).l[((k:Int)).toNat]'((dj l).lt (by simpa using hk)))=I.int .i64 (dS l k):=by
  have:=rl l hk;rw[←eG.u5 _ hk] at this;rw[←this];rfl
 rw[e];rfl
theorem xq(l:List ah)(r:ah)(hl:l.length≤4000000000000)(h:pI l)(hr:0≤r.aM∧r.aM≤5):aQ Tryz.prog 71 [enc l,enc r] (enc (dC l r)):=by
 refine aQ.bO Tryz.func71 If Jv KT (t8 rfl) (fun hwf W0 bE E1 =>?_);simp only[yY,Du,bD,Z5];clear hwf;have hF:=w9 l hl h;have hix:=r2 l hr;rw[show dC l r=(decide ((l.length:Int)<60)&&((dS l r.aM:Int)==r.no)) by
  simp only[dC];congr 1;rw[decide_eq_decide];omega]
 cases q1:decide ((l.length:Int)<60)
 ·have R:=y6 @q1 (y6 @hix (y6 @im aw))
  repeat' ((first |(with_reducible refine .guard (fun hb =>?_) (fun hb =>?_) <;>try simp only[hb])|refine U.aC (by decide +kernel) rfl fun K hK =>?_|refine .lead _ (hF) ?_|(refine .aA [0,1,3,4] hK ?_;clear hK K)|(with_reducible refine .done (hK _ ?_);clear hK K)|refine U.of rfl ?_|(with_reducible refine aj.aB (fun h =>?_) (fun h =>?_) <;>try simp only[h])) <;>try simp only[aD,R,simprocAttr])
  all_goals clear R
  all_goals rfl
 ·have R:=y6 @q1 (y6 @hix (y6 @im aw))
  repeat' ((first |(with_reducible refine .guard (fun hb =>?_) (fun hb =>?_) <;>try simp only[hb])|refine U.aC (by decide +kernel) rfl fun K hK =>?_|refine .lead _ (hF) ?_|(refine .aA [0,1,3,4] hK ?_;clear hK K)|(with_reducible refine .done (hK _ ?_);clear hK K)|refine U.of rfl ?_|(with_reducible refine aj.aB (fun h =>?_) (fun h =>?_) <;>try simp only[h])) <;>try simp only[aD,R,simprocAttr])
  all_goals clear R
  all_goals rfl
theorem F1(l:List ah)(r:ah)(hl:l.length≤4000000000000)(h:pI l)(hr:bm r=true→0≤r.aM∧r.aM≤5):aQ Tryz.prog 72 [enc l,enc r] (enc (bm r&&dC l r)):=by
 refine aQ.bO Tryz.func72 Ig Jw KU (t8 rfl) (fun hwf W0 bE E1 =>?_);simp only[yZ,Dv,bD,Z5];clear hwf;have hF:=xa l hl h;have f34:=xm r;cases ho:bm r
 ·rw[show iP r=80 by simp[iP,ho]] at f34;have R:=y6 @im aw
  repeat' ((first |(with_reducible refine .guard (fun hb =>?_) (fun hb =>?_) <;>try simp only[hb])|refine U.aC (by decide +kernel) rfl fun K hK =>?_|refine .flat _ (f34) rfl ?_|refine .lead _ (hF) ?_|(refine .aA [0,1,3,4] hK ?_;clear hK K)|(with_reducible refine .done (hK _ ?_);clear hK K)|refine U.of rfl ?_|(with_reducible refine aj.aB (fun h =>?_) (fun h =>?_) <;>try simp only[h])) <;>try simp only[aD,R,simprocAttr])
  all_goals clear R
  all_goals rfl
 rw[show iP r=0 by simp[iP,ho]] at f34;have hix:=r2 l (hr ho);rw[show dC l r=(decide ((l.length:Int)<60)&&(r.no==(dS l r.aM:Int))) by
  simp only[dC];rw[Bool.eq_iff_iff];simp;omega]
 cases q1:decide ((l.length:Int)<60)
 ·have R:=y6 @q1 (y6 @hix (y6 @im aw))
  repeat' ((first |(with_reducible refine .guard (fun hb =>?_) (fun hb =>?_) <;>try simp only[hb])|refine U.aC (by decide +kernel) rfl fun K hK =>?_|refine .flat _ (f34) rfl ?_|refine .lead _ (hF) ?_|(refine .aA [0,1,3,4] hK ?_;clear hK K)|(with_reducible refine .done (hK _ ?_);clear hK K)|refine U.of rfl ?_|(with_reducible refine aj.aB (fun h =>?_) (fun h =>?_) <;>try simp only[h])) <;>try simp only[aD,R,simprocAttr])
  all_goals clear R
  all_goals rfl
 ·have R:=y6 @q1 (y6 @hix (y6 @im aw))
  repeat' ((first |(with_reducible refine .guard (fun hb =>?_) (fun hb =>?_) <;>try simp only[hb])|refine U.aC (by decide +kernel) rfl fun K hK =>?_|refine .flat _ (f34) rfl ?_|refine .lead _ (hF) ?_|(refine .aA [0,1,3,4] hK ?_;clear hK K)|(with_reducible refine .done (hK _ ?_);clear hK K)|refine U.of rfl ?_|(with_reducible refine aj.aB (fun h =>?_) (fun h =>?_) <;>try simp only[h])) <;>try simp only[aD,R,simprocAttr])
  all_goals clear R
  all_goals rfl
def eX:List ah→List ah→Bool
 |_,[]=>true
 |out,r::l=>bm r&&dC out r&&eX (out++[r]) l
theorem tz:∀ (l out:List ah),eX out l=true↔gG bm dC out l
 | [],_=>by simp[eX,gG]
 |r::l,out=>by simp only[eX,gG,Z0,tz l,and_assoc]
theorem Fj{l:List ah}{i:Nat}(h:i<l.length):eX (l.take i) (l.drop i)=(bm l[i]&&dC (l.take i) l[i]&&eX (l.take (i+1)) (l.drop (i+1))):=by
 rw[List.drop_eq_getElem_cons h,eX,←gX h]
theorem kq{r:ah}(h:bm r=true):0≤r.aM∧r.aM≤5:=(p9 (qa h)).1
theorem sG{l:List ah}{i:Nat}(hi:i<l.length)(h:∀ r∈l.take i,bm r=true)(h2:bm l[i]=true):∀ r∈l.take (i+1),bm r=true:=fun r hr=>by
 rw[gX hi] at hr;rcases zy9.1 hr with h1 | h1
 ·exact h r h1
 ·rw[zx4.1 h1];exact h2
theorem xA(l:List ah)(hl:l.length≤4000000000000):aQ Tryz.prog 98 [enc l] (enc (eX [] l)):=by
 refine aQ.bO Tryz.func98 IC JQ Le (t8 rfl) (fun hwf W0 bE E1 =>?_);simp only[zl,DR,bD];clear hwf;have R:=aw
 repeat' ((first |(with_reducible refine .guard (fun hb =>?_) (fun hb =>?_) <;>try simp only[hb])|refine U.aC (by decide +kernel) rfl fun K hK =>?_|(refine .aA [0,2,3,4,5,6,7,8,22] hK ?_;clear hK K)|(with_reducible refine .done (hK _ ?_);clear hK K)|refine U.of rfl ?_|(with_reducible refine aj.aB (fun h =>?_) (fun h =>?_) <;>try simp only[h])) <;>try simp only[aD,R,simprocAttr])
 all_goals clear R
 refine U.loop (fun i:Nat=>aq [(0,enc l),(5,enc l),(6,.int .i64 l.length),(7,.int .i64 i)] []) (fun i=>i≤l.length∧(∀ r∈l.take i,bm r=true)∧eX [] l=eX (l.take i) (l.drop i)) (fun i=>l.length-i) 0 ⟨zx7 _,by simp,by simp⟩ ?_ ?_
 ·refine bl.b6 ?_ ?_ ?_ ?_ <;>simp[bG,bJ,bF,bA,bH,I.only,bp]
  all_goals rfl
 rintro i ⟨hi,hk,heq⟩;by_cases hlt:i<l.length
 ·have hlc:=eC hlt;have he:=fun A=>ec (A:=A) 8 hlt rfl;have hw:=ew (i:=i) (by omega);have hnx:=sG hlt hk;rw[Fj hlt] at heq;rw[heq];have hsl:=fun A=>wK (l:=l) (k:=i) A (esz:=8) rfl (by omega);have hli:(l.take i).length=i:=by rw[Z9];omega
  generalize l[i]=r at *;have f80:=oW r;cases q1:bm r
  ·rw[q1] at f80;have R:=y6 @hlc (y6 @he (y6 @hw (y6 @eA (y6 @ee aw))))
   repeat' ((first |(with_reducible refine .guard (fun hb =>?_) (fun hb =>?_) <;>try simp only[hb])|refine U.aC (by decide +kernel) rfl fun K hK =>?_|refine .flat _ (f80) rfl ?_|(refine .aA [0,2,3,4,5,6,7,8,22] hK ?_;clear hK K)|(with_reducible refine .done (hK _ ?_);clear hK K)|refine U.of rfl ?_|(with_reducible refine aj.aB (fun h =>?_) (fun h =>?_) <;>try simp only[h])) <;>try simp only[aD,R,simprocAttr])
   all_goals clear R
   all_goals rfl
  rw[q1] at f80;have f71:=xq (l.take i) r (by omega) (fun q hq=>kq (hk q hq)) (kq q1);cases q2:dC (l.take i) r
  ·rw[q2] at f71;have R:=y6 @hlc (y6 @he (y6 @hw (y6 @hsl (y6 @eA (y6 @ee aw)))))
   repeat' ((first |(with_reducible refine .guard (fun hb =>?_) (fun hb =>?_) <;>try simp only[hb])|refine U.aC (by decide +kernel) rfl fun K hK =>?_|refine .flat _ (f80) rfl ?_|refine .flat _ (f71) rfl ?_|(refine .aA [0,2,3,4,5,6,7,8,22] hK ?_;clear hK K)|(with_reducible refine .done (hK _ ?_);clear hK K)|refine U.of rfl ?_|(with_reducible refine aj.aB (fun h =>?_) (fun h =>?_) <;>try simp only[h])) <;>try simp only[aD,R,zy0,simprocAttr])
   all_goals clear R
   all_goals rfl
  rw[q2] at f71;have R:=y6 @hlc (y6 @he (y6 @hw (y6 @hsl (y6 @eA (y6 @ee aw)))))
  repeat' ((first |(with_reducible refine .guard (fun hb =>?_) (fun hb =>?_) <;>try simp only[hb])|refine U.aC (by decide +kernel) rfl fun K hK =>?_|refine .flat _ (f80) rfl ?_|refine .flat _ (f71) rfl ?_|(refine .aA [0,2,3,4,5,6,7,8,22] hK ?_;clear hK K)|(with_reducible refine .done (hK _ ?_);clear hK K)|refine U.of rfl ?_|(with_reducible refine aj.aB (fun h =>?_) (fun h =>?_) <;>try simp only[h])) <;>try simp only[aD,R,zy0,simprocAttr])
  all_goals clear R
  refine ⟨i+1,⟨by omega,hnx q1,?_⟩,by omega,?_⟩
  ·rfl
  refine bl.b6 ?_ ?_ ?_ ?_ <;>simp[bG,bJ,bF,bA,bH,I.only,bp]
  all_goals rfl
 ·have hlc:=eV hlt;rw[heq,zx9 (by omega),eX];have R:=y6 @hlc aw
  repeat' ((first |(with_reducible refine .guard (fun hb =>?_) (fun hb =>?_) <;>try simp only[hb])|refine U.aC (by decide +kernel) rfl fun K hK =>?_|(refine .aA [0,2,3,4,5,6,7,8,22] hK ?_;clear hK K)|(with_reducible refine .done (hK _ ?_);clear hK K)|refine U.of rfl ?_|(with_reducible refine aj.aB (fun h =>?_) (fun h =>?_) <;>try simp only[h])) <;>try simp only[aD,R,simprocAttr])
  all_goals clear R
  all_goals rfl
theorem EI{A:ab}{l:List ah}{i:Nat}(h:i≤l.length):gB A 8 none (some (.int .i64 i)) (some (.int .i64 i)) (enc l)=some (if i=0 then .c0 8 else enc (l.take i)):=by
 simp only[gB,gI,show Enc.sz ah=8 from rfl,if_true,gV,gq,Z2];rw[if_pos ⟨by omega,by omega,by omega,by omega⟩];by_cases h0:i=0
 ·simp[h0]
 ·rw[if_neg (by simp;omega),if_neg h0];simp
theorem EJ{i:Nat}(l:List ah)(aI:Bool)(A:ab):bd aI A (if i=0 then .c0 8 else enc (l.take i))=some (enc (l.take i)):=by
 by_cases h0:i=0
 ·rw[if_pos h0,h0];simp only[bd];rfl
 ·rw[if_neg h0,iS]
theorem F8(l:List ah)(hl:l.length≤4000000000000):aQ Tryz.prog 91 [enc l] (enc (eX [] l)):=by
 refine aQ.bO Tryz.func91 Iw JL K9 (t8 rfl) (fun hwf W0 bE E1 =>?_);simp only[zg,DM,bD];clear hwf;have R:=aw
 repeat' ((first |refine U.aC (by decide +kernel) rfl fun K hK =>?_|(refine .aA [0,2,3,7,19] hK ?_;clear hK K)|(with_reducible refine .done (hK _ ?_);clear hK K)|refine U.of rfl ?_|(with_reducible refine aj.aB (fun h =>?_) (fun h =>?_) <;>try simp only[h])) <;>try simp only[aD,R,simprocAttr])
 all_goals clear R
 refine U.loop (fun i:Nat=>aq [(0,enc l),(3,.int .i64 i)] []) (fun i=>i≤l.length∧(∀ r∈l.take i,bm r=true)∧eX [] l=eX (l.take i) (l.drop i)) (fun i=>l.length-i) 0 ⟨zx7 _,by simp,by simp⟩ ?_ ?_
 ·refine bl.b6 ?_ ?_ ?_ ?_ <;>simp[bG,bJ,bF,bA,bH,I.only,bp]
  all_goals rfl
 rintro i ⟨hi,hk,heq⟩;by_cases hlt:i<l.length
 ·have hlc:=eC hlt;have he:=fun A=>ec (A:=A) 8 hlt rfl;have hw:=ew (i:=i) (by omega);have hnx:=sG hlt hk;rw[Fj hlt] at heq;rw[heq];have hsl:=fun A=>EI (A:=A) (l:=l) (i:=i) (by omega);have hli:(l.take i).length=i:=by rw[Z9];omega
  have hfv:=fun aI A=>EJ (i:=i) l aI A;generalize l[i]=r at *;have f72:=F1 (l.take i) r (by omega) (fun q hq=>kq (hk q hq)) kq;cases q2:(bm r&&dC (l.take i) r)
  ·rw[q2] at f72;have R:=y6 @hlc (y6 @he (y6 @hw (y6 @hsl (y6 @hfv aw))))
   repeat' ((first |refine U.aC (by decide +kernel) rfl fun K hK =>?_|refine .flat _ (f72) rfl ?_|(refine .aA [0,2,3,7,19] hK ?_;clear hK K)|(with_reducible refine .done (hK _ ?_);clear hK K)|refine U.of rfl ?_|(with_reducible refine aj.aB (fun h =>?_) (fun h =>?_) <;>try simp only[h])) <;>try simp only[aD,R,zy0,simprocAttr])
   all_goals clear R
   all_goals rfl
  rw[q2] at f72;have R:=y6 @hlc (y6 @he (y6 @hw (y6 @hsl (y6 @hfv aw))))
  repeat' ((first |refine U.aC (by decide +kernel) rfl fun K hK =>?_|refine .flat _ (f72) rfl ?_|(refine .aA [0,2,3,7,19] hK ?_;clear hK K)|(with_reducible refine .done (hK _ ?_);clear hK K)|refine U.of rfl ?_|(with_reducible refine aj.aB (fun h =>?_) (fun h =>?_) <;>try simp only[h])) <;>try simp only[aD,R,zy0,simprocAttr])
  all_goals clear R
  refine ⟨i+1,⟨by omega,hnx (by rw[Z0] at q2;exact q2.1),?_⟩,by omega,?_⟩
  ·rfl
  refine bl.b6 ?_ ?_ ?_ ?_ <;>simp[bG,bJ,bF,bA,bH,I.only,bp]
  all_goals rfl
 ·have hlc:=eV hlt;rw[heq,zx9 (by omega),eX];have R:=y6 @hlc aw
  repeat' ((first |refine U.aC (by decide +kernel) rfl fun K hK =>?_|(refine .aA [0,2,3,7,19] hK ?_;clear hK K)|(with_reducible refine .done (hK _ ?_);clear hK K)|refine U.of rfl ?_|(with_reducible refine aj.aB (fun h =>?_) (fun h =>?_) <;>try simp only[h])) <;>try simp only[aD,R,simprocAttr])
  all_goals clear R
  all_goals rfl
end Go.Proofs.YtoffnnjbplgnaaaGreatDoor
namespace Go.Proofs.YtoffnnjbplgnaaaGreatDoor
open Go Go.Abs Go.Shelf Go.RowKit
open Go.Abs.Enc (enc)
def cM(r:ah):List Value:=[.int .i64 r.aM,.int .i64 r.no,.int .i64 r.kind,.int .i64 r.ea,.int .i64 r.known,.int .i64 r.fq,.int .i64 r.fC,.string ⟨r.text.toArray⟩]
theorem DV{w:World}{D:aJ}{E:aN}{r:ah}{cs:List Value}(h:ae w D E (enc r) cs):cs=cM r:=by
 obtain ⟨h1,_⟩:=D5 (fB (v:=.agg cs.toArray) (by simp[ba,show (enc r:I).isAgg=true from rfl]) h);simp only[Value.agg.injEq] at h1;have:=congrArg Array.toList h1;simpa[cM] using this
theorem Br{n:Int}(h:0≤n∧n<100000000):IntKind.i64.min≤n∧n≤IntKind.i64.max:=by
 have a:IntKind.i64.min=-9223372036854775808:=rfl;have b:IntKind.i64.max=9223372036854775807:=rfl;omega
theorem Yw{w:World}{D:aJ}{E:aN}{r:ah}(h:bm r=true):ae w D E (enc r) (cM r):=by
 have hn:=sF h;have ht:=sH h
 show ae w D E (.agg [.agg [.int .i64 r.aM,.int .i64 r.no],.int .i64 r.kind,.int .i64 r.ea,.int .i64 r.known,.agg [.int .i64 r.fq,.int .i64 r.fC],.ak ⟨r.text.toArray⟩]) _
 have g:∀ n∈eM r,ae w D E (.int .i64 n) [.int .i64 n]:=fun n hn'=>⟨rfl,Br (hn n hn')⟩
 simp only[ae,aH];refine ⟨[.int .i64 r.aM,.int .i64 r.no],_,rfl,⟨[.int .i64 r.aM],_,rfl,by simpa only[ae] using g r.aM (by simp[eM]),[.int .i64 r.no],[],rfl,by simpa only[ae] using g r.no (by simp[eM]),rfl⟩,
  [.int .i64 r.kind],_,rfl,by simpa only[ae] using g r.kind (by simp[eM]),[.int .i64 r.ea],_,rfl,by simpa only[ae] using g r.ea (by simp[eM]),[.int .i64 r.known],_,rfl,by simpa only[ae] using g r.known (by simp[eM]),
  [.int .i64 r.fq,.int .i64 r.fC],_,rfl,⟨[.int .i64 r.fq],_,rfl,by simpa only[ae] using g r.fq (by simp[eM]),[.int .i64 r.fC],[],rfl,by simpa only[ae] using g r.fC (by simp[eM]),rfl⟩,
  [.string ⟨r.text.toArray⟩],[],rfl,⟨rfl,?_⟩,rfl⟩
 show r.text.toArray.size≤maxLen
 simp only[List.size_toArray,maxLen];omega
theorem II{z:Int}(hz:0≤z∧z<1000003){r:ah}(h:bm r=true)(W:World)(hl:eH Tryz.prog W (fun _=>False)):Calls Tryz.prog 81 #[.int .i64 z,.agg (cM r).toArray] W fun e w'=>e=.returned (.tuple #[.string ⟨(dT z r).toArray⟩,.int .i64 (dA z (di r))])∧Below W.heap.size W w':=by
 have hc:=oY z hz r h;refine (hc.2 W (fun _ _=>False) [.int .i64 z,.agg (cM r).toArray] hl (fun _ _ h=>h.elim) ?_).mono ?_
 ·simp only[ar];refine ⟨_,_,[.int .i64 z],rfl,rfl,?_,_,_,cM r,rfl,by simp[ba,show (enc r:I).isAgg=true from rfl],Yw h,rfl⟩
  show ae _ _ _ (.int .i64 z) _
  simp only[ae];exact ⟨trivial,Br (by omega)⟩
 ·rintro e w' ⟨v,D',rfl,hv,hb,_⟩;refine ⟨?_,hb⟩;have hv':∃ vs:List Value,v=.tuple vs.toArray∧ar w' D' cu [enc (ay.of (dT z r)),enc (dA z (di r))] vs:=hv;obtain ⟨vs,rfl,h2⟩:=hv';simp only[ar] at h2;obtain ⟨v1,_,c1,rfl,p1,r1,v2,_,c2,rfl,p2,iF,rfl⟩:=h2;have r1':ae w' D' cu (.ak ⟨(dT z r).toArray⟩) c1:=r1;have r2':ae w' D' cu (.int .i64 (dA z (di r))) c2:=iF;simp only[ae] at r1' r2';obtain ⟨rfl,_⟩:=r1';obtain ⟨rfl,_⟩:=r2';simp[ba,show (enc (ay.of (dT z r)):I).isAgg=false from rfl,show (enc (dA z (di r)):I).isAgg=false from rfl] at p1 p2;subst p1 p2;rfl
def o8(w:World)(a:Option Addr)(l:List ah):Prop:=∀ (j:Nat) (h:j<l.length),∃ b off,a=some ⟨b,off,none⟩∧w.rangeAt b (off+j*8) (cM l[j])∧b<w.heap.size
theorem o8.later{w w':World}{a:Option Addr}{l:List ah}(h:o8 w a l)(hb:Below w.heap.size w w'):o8 w' a l:=by
 intro j hj;obtain ⟨b,off,h1,h2,h3⟩:=h j hj;refine ⟨b,off,h1,fun k v hk =>?_,zx8 h3 hb.size⟩;have:=h2 k v hk;simp only[World.cell?] at this ⊢;rw[hb.block b h3];exact this
theorem YX{w:World}{D:aJ}(hD:∀ b o,D b o→b<w.heap.size){l:List ah}{v:Value}(h:aR w D cu (enc l) v):∃ a cap,v=.slice a l.length cap∧o8 w a l:=by
 have h':aR w D cu (.slice 8 (l.map enc)) v:=h;obtain ⟨a,cap,h1,h2,h3,h4,h5⟩:=kH h';refine ⟨a,cap,by rw[h1,Z2],fun j hj =>?_⟩;rcases h4 with h4 | ⟨b,off,cs,rfl,h6,h7⟩
 ·rw[List.map_eq_nil_iff] at h4;rw[h4] at hj;exact absurd hj (by simp)
 ·obtain ⟨c2,k1,k2⟩:=uE (k:=j) (x:=enc l[j]) h6 h7 h5 (by simp[hj]);have e:=DV k2;subst e;refine ⟨b,off,rfl,fun k v hk=>(k1 k v hk).1,hD b (off+j*8+0) (k1 0 _ rfl).2⟩
theorem ZA(l:List ah)(hl:l.length≤1000000)(h:∀ r∈l,bm r=true)(a:Option Addr)(cap:Nat)(w:World)(hL:eH Tryz.prog w (fun _=>False))(hR:o8 w a l) :
  Calls Tryz.prog 135 #[.slice a l.length cap] w fun e w'=>e=.returned (.string ⟨(fh 1 l).toArray⟩)∧Below w.heap.size w w':=by
 go_enter Tryz.func135,Tryz.ntmps135
 go_wp2
 go_loopw [4,10] (fun s i wr=>∃ j:Nat,j≤l.length∧i=.int .i64 j∧s=.int .i64 (eF 1 (l.take j))∧kP w.heap.size w.heap.size (fh 1 (l.take j)) wr∧Below w.heap.size w wr) (fun _ i _=>l.length-(RowKit.intOf i).toNat)
 case atStart =>
  refine ⟨0,by omega,rfl,rfl,.inl ⟨by omega,.slice none 0 0,heap_alloc_new w _,⟨rfl,.inl ⟨rfl,rfl⟩⟩,by simp[Value.ownBlock]⟩,jh w _⟩
 case round =>
  obtain ⟨j,hj,rfl,rfl,hI,hbw⟩:=hrel;have hB1:w.heap.size≤wr.heap.size:=hbw.size;by_cases hlt:j<l.length
  ·obtain ⟨b,off,ha,hr,hb⟩:=hR.later hbw j hlt;subst ha;have hok:=h l[j] (List.getElem_mem hlt);have hst:=tp (l.take j);have hsn:=wX (l.take j) l[j] 1;rw[←gX hlt] at hsn;generalize l[j]=r at *;have hcall:=II hst hok;have k0:wr.cell? ⟨b,off+j*8,none⟩=some (.int .i64 r.aM):=hr 0 _ rfl;have k1:wr.cell? ⟨b,off+j*8+1,none⟩=some (.int .i64 r.no):=hr 1 _ rfl;have k2:wr.cell? ⟨b,off+j*8+2,none⟩=some (.int .i64 r.kind):=hr 2 _ rfl;have k3:wr.cell? ⟨b,off+j*8+3,none⟩=some (.int .i64 r.ea):=hr 3 _ rfl;have k4:wr.cell? ⟨b,off+j*8+4,none⟩=some (.int .i64 r.known):=hr 4 _ rfl;have k5:wr.cell? ⟨b,off+j*8+5,none⟩=some (.int .i64 r.fq):=hr 5 _ rfl;have k6:wr.cell? ⟨b,off+j*8+6,none⟩=some (.int .i64 r.fC):=hr 6 _ rfl;have k7:wr.cell? ⟨b,off+j*8+7,none⟩=some (.string ⟨r.text.toArray⟩):=hr 7 _ rfl;simp only[cM] at hcall;have hw:=ew (i:=j) (by omega);have hlt':decide ((j:Int)<(l.length:Int))=true:=eC hlt;have hll:=sa hst hok;have htl:=tr (l.take j) (s:=1) (by omega) fun q hq=>h q (List.mem_of_mem_take hq);have hli:(l.take j).length=j:=by rw[Z9];omega
   have hsz:(⟨(dT (eF 1 (l.take j)) r).toArray⟩:ByteArray).size=(dT (eF 1 (l.take j)) r).length:=by show (dT _ r).toArray.size=_;simp
   go_wp2_with (first | (go_at_call 81;refine (hcall _ (BE hL (hbw.trans ((jh wr _).mono hB1)))).mono ?_;rintro e W1 ⟨rfl,hb1⟩) | (go_at_call 156;refine (Fi w.heap.size w.heap.size _ _ _ (rZ (rZ hI (jh wr _)) hb1) (by rw[hsz];omega) (by have:=hb1.size;simp at this;omega)).mono ?_;rintro e W2 ⟨rfl,hI2,hb2,hk2⟩))
   refine ⟨⟨j+1,by omega,rfl,?_,?_,?_⟩,by simp only[RowKit.intOf];omega⟩
   ·rw[hsn.2]
   ·rw[hsn.1];exact hI2
   ·exact ((hbw.trans ((jh wr _).mono hB1)).trans (hb1.mono (by simp;omega))).trans hb2
  ·have hge:j=l.length:=by omega
   subst hge;have hlt':decide ((l.length:Int)<(l.length:Int))=false:=by simp
   rw[List.take_length] at hI
   go_wp2_with (go_at_call 157;refine (x8 w.heap.size w.heap.size _ _ hI hB1).mono ?_;rintro e W2 ⟨rfl,hI2,hb2,hk2⟩)
   go_ret
   exact ⟨rfl,hbw.trans hb2⟩
theorem xf(l:List ah)(hl:l.length≤1000000)(h:∀ r∈l,bm r=true):aQ Tryz.prog 135 [enc l] (enc (ay.of (fh 1 l))):=by
 refine ⟨HD,fun w D vs hL hD hv =>?_⟩;simp only[ar] at hv;obtain ⟨v,rest,cs,rfl,h1,h2,rfl⟩:=hv;obtain ⟨a,cap,rfl,hR⟩:=YX hD (fB h1 h2);refine (ZA l hl h a cap w hL hR).mono ?_;rintro e w' ⟨rfl,hbl⟩;have hlen:=tr l (s:=1) (by omega) h;exact ⟨_,D,rfl,Em (l:=fh 1 l) (by unfold maxLen;omega),hbl,fun b o hd=>zx8 (hD b o hd) hbl.size,fun _ _ h _=>h⟩
end Go.Proofs.YtoffnnjbplgnaaaGreatDoor
namespace Go.Proofs.YtoffnnjbplgnaaaGreatDoor
open Go Go.Abs
open Go.Abs.Enc (enc)
theorem zP{c:UInt8} : ∀ {l:List UInt8},dB c l=none→∀ b∈l,b≠c
 | [],_=>by simp
 |b::l,h=>by
  rw[dB] at h;by_cases e:b=c
  ·rw[if_pos e] at h;cases h
  ·rw[if_neg e] at h;cases h2:dB c l with
   |some p=>rw[h2] at h;cases h
   |none =>
    intro x hx;rcases zy8.1 hx with rfl | hx
    ·exact e
    ·exact zP h2 x hx
theorem rq{c:UInt8} : ∀ {l w v:List UInt8},dB c l=some (w,v)→l=w++c::v∧∀ b∈w,b≠c
 | [],_,_,h=>by simp[dB] at h
 |b::l,w,v,h=>by
  rw[dB] at h;by_cases e:b=c
  ·rw[if_pos e] at h;cases h;exact ⟨by rw[e];rfl,by simp⟩
  ·rw[if_neg e] at h;cases h2:dB c l with
   |none=>rw[h2] at h;cases h
   |some p =>
    obtain ⟨w2,v2⟩:=p;rw[h2,Z8] at h;cases h;obtain ⟨h3,h4⟩:=rq h2;refine ⟨by rw[h3];rfl,fun x hx =>?_⟩;rcases zy8.1 hx with rfl | hx
    ·exact e
    ·exact h4 x hx
theorem vp{u:List UInt8}(h:dB 10 u=none):dM u=[]:=BQ (zP h)
theorem sc{u w v:List UInt8}(h:dB 10 u=some (w,v)):dM u=(w++[10])::dM v:=by
 obtain ⟨rfl,h2⟩:=rq h;exact Wz v h2
def fD:Nat→List UInt8→List UInt8
 |0,t=>t
 |k+1,t=>match dB 10 t with
  |none=>t
  |some p=>fD k p.2
theorem wh:∀ {k:Nat} {t w v:List UInt8},dB 10 (fD k t)=some (w,v)→fD (k+1) t=v
 |0,t,w,v,h=>by rw[fD] at h;rw[fD,h];rfl
 |k+1,t,w,v,h=>by
  rw[fD] at h ⊢;cases h2:dB 10 t with
  |none=>rw[h2] at h;simp only at h;rw[h2] at h;cases h
  |some p=>rw[h2] at h;exact wh h
theorem wg:∀ {k:Nat} {t:List UInt8},k≤(dM t).length→dM (fD k t)=(dM t).drop k
 |0,t,_=>rfl
 |k+1,t,h=>by
  rw[fD];cases h2:dB 10 t with
  |none=>rw[vp h2] at h;simp at h
  |some p =>
   obtain ⟨w,v⟩:=p;rw[sc h2] at h ⊢;simp only[zx0] at h;exact wg (k:=k) (t:=v) (by omega)
theorem Ec:∀ (k:Nat) (t:List UInt8),(fD k t).length≤t.length
 |0,_=>Z7 _
 |k+1,t=>by
  rw[fD];cases h2:dB 10 t with
  |none=>exact Z7 _
  |some p =>
   have:=rr h2;have:=Ec k p.2;simp only;omega
def dz(u:List UInt8)(out:List ah)(s:Int)(z:Nat):List (Nat×ai):=[(1000001,.box (enc (ay.of u))),(1000004,.box (.own 1000080 out.length)),(1000080,.bQ 50 8 (out.map enc)),(1000005,.box (.int .i64 s)),(1000006,.box (.int .i64 (z:Int)))]
theorem nr(u:List UInt8)(out:List ah)(s:Int)(z:Nat)(u':List UInt8)(out':List ah)(s':Int)(z':Nat):fw (dz u out s z) (dz u' out' s' z'):=by
 refine ⟨fun n=>by simp only[dz,al,aE];(repeat' split) <;>rfl,fun n x h =>?_,fun n h =>?_⟩
 ·simp only[dz,aE] at h
  repeat' split at h
  all_goals first | (cases h;done) | (simp only[v6] at h;subst h;exact ⟨by simp[dz,al,aE,ai.only,bp,I.only,ku],rfl⟩)
 ·simp only[dz,al,aE] at h
  repeat' split at h
  all_goals first | omega | (simp at h;done)
section
variable (t:List UInt8) (P:Nat→List ah→Int→Nat→Prop) (bo:List ah→Nat→Prop)
def rX(k:Nat)(os:List (Nat×ai)):Prop:=∃ out s z,os=dz (fD k t) out s z∧P k out s z
def rY(k:Nat)(os:List (Nat×ai)):Prop:=∃ out s z,os=dz (fD k t) out s z∧P (k+1) out s z
def pK(e:Option Nat)(os:List (Nat×ai)):Prop:=e=some 0∧∃ u out s z,os=dz u out s z∧bo out z
def oe(k:Nat):List I:=[enc (ay.of ((dM t).getD k []))]
end
def Eu(o:Obj)(v:Value)(t:List UInt8)(x:Nat×List ah×Int×Nat):ab:=aq [(0,.raw v),(1,.ptr 1000001 [])] (bX o (dz (fD x.1 t) x.2.1 x.2.2.1 x.2.2.2))
theorem Bj{o:Obj}{u:List UInt8}{out:List ah}{s:Int}{z:Nat}{ts:List (Nat×I)} : ∀ n x,aE (bX o (dz u out s z)) n=some x→(aq ts (bX o (dz u out s z))).o n=some x∧x.only (al (bX o (dz u out s z)))=true∧x.ej=true:=fun n x h =>
 ⟨h,(((nr u out s z u out s z).bX o o).ok n x h)⟩
theorem Zp:∀ A n b rest (x y:List UInt8),eO A none n [] b (enc (ay.of x)) rest (some (enc (ay.of y)))=av rest (A.aS n (.box (enc (ay.of x)))) :=
 fun A n b rest x y=>by rw[fK (s:=none) (v:=enc (ay.of x)) (old:=enc (ay.of y)) (e9 _) rfl rfl,fI]
theorem WA{t:List UInt8}(ht:t.length≤281474976710656){P:Nat→List ah→Int→Nat→Prop}{bo:List ah→Nat→Prop}{out0:List ah}{s0:Int}{z0:Nat}(h0:P 0 out0 s0 z0)
  (Y:Value→List I→List (Nat×ai)→cd→Prop) (v:Value) (o:Obj) (oX:Option Nat→Obj) (hv:v.oneCell'=true)
  (hY:∀ k osb post,k<(dM t).length→rX t P k osb→(∀ r os2,(r=.bool true∧∃ osb2,os2=bX o osb2∧rY t P k osb2)∨(r=.bool false∧∃ e osb2,os2=bX (oX e) osb2∧pK bo e osb2)→post r os2)→Y v (oe t k) (bX o osb) post) :
  jc Tryz.prog 122 Y [.raw v,.ptr 1000001 []] (bX o (dz t out0 s0 z0)) (fun r os'=>r=.tuple []∧((∃ osb,os'=bX o osb∧rX t P (dM t).length osb)∨∃ e osb,os'=bX (oX e) osb∧pK bo e osb)):=by
 refine jc.bO Tryz.func122 zp IU Kf (t8 rfl) (t8 rfl) (((nr t out0 s0 z0 t out0 s0 z0).bX o o).lR) (fun hwf W0 bE E1 =>?_);simp only[yl,CQ,bD,Z5];clear hwf;refine U.block (U.loop (Eu o v t) (fun x=>x.1≤(dM t).length∧P x.1 x.2.1 x.2.2.1 x.2.2.2) (fun x=>(dM t).length-x.1) (0,out0,s0,z0) ⟨by simp,h0⟩ ?_ ?_)
 ·exact bl.refl _
 rintro ⟨k,out,s,z⟩ ⟨hk,hP⟩;simp only at hk hP;have hrl:=Ec k t;have hrd:=wg hk;have hrn:=fun w v=>wh (k:=k) (t:=t) (w:=w) (v:=v);obtain ⟨u,hu⟩:∃ u,u=fD k t:=⟨_,rfl⟩
 have hfin:dM u=[]→∃ osb,bX o (dz u out s z)=bX o osb∧rX t P (dM t).length osb:=fun e=>by
  rw[hu,hrd,List.drop_eq_nil_iff] at e;have:k=(dM t).length:=by omega
  exact ⟨_,rfl,out,s,z,by rw[←this,←hu],by rw[←this];exact hP⟩
 simp only[Eu,←hu];rw[←hu] at hrl hrd hrn;have heldF:=fun ts=>Bj (o:=o) (u:=u) (out:=out) (s:=s) (z:=z) (ts:=ts);rcases hq:decide (u=[])
 rotate_left
 ·have hu0:u=[]:=of_decide_eq_true hq;have hf:=hfin (by rw[hu0];exact BQ (by simp));simp only[bX,dz] at hf heldF ⊢;have R:=y6 @iw (y6 @iH (y6 @hq (y6 @bu aw)))
  repeat' ((first |(with_reducible refine .guard (fun hb =>?_) (fun hb =>?_) <;>try simp only[hb])|refine U.aC (by decide +kernel) rfl fun K hK =>?_|(refine .aA [0,1,3,5,18] hK ?_;clear hK K)|(with_reducible refine .done (hK _ ?_);clear hK K)|refine U.of rfl ?_|(with_reducible refine aj.aB (fun h =>?_) (fun h =>?_) <;>try simp only[h])) <;>try simp only[aD,R,simprocAttr])
  all_goals clear R
  rw[YN];exact ⟨_,[],heldF _,trivial,rfl,.inl hf⟩
 have hF:=Fv (ay.of u) 10;rw[ay.dI] at hF;rcases rp 10 u with ⟨h1,h2⟩ | ⟨i,hi,h2,h1⟩
 ·have hf:=hfin (vp h1);obtain ⟨n,hn1⟩:∃ n:Int,n=-1:=⟨_,rfl⟩
  rw[h2,←hn1] at hF;have hneg:decide (n<0)=true:=by rw[hn1];rfl
  simp only[bX,dz] at hf heldF ⊢;have R:=y6 @iw (y6 @iH (y6 @hq (y6 @hneg (y6 @bu aw))))
  repeat' ((first |(with_reducible refine .guard (fun hb =>?_) (fun hb =>?_) <;>try simp only[hb])|refine U.aC (by decide +kernel) rfl fun K hK =>?_|refine .flat _ (hF) rfl ?_|(refine .aA [0,1,3,5,18] hK ?_;clear hK K)|(with_reducible refine .done (hK _ ?_);clear hK K)|refine U.of rfl ?_|(with_reducible refine aj.aB (fun h =>?_) (fun h =>?_) <;>try simp only[h])) <;>try simp only[aD,R,simprocAttr])
  all_goals clear R
  rw[jY];exact ⟨_,[],heldF _,trivial,rfl,.inl hf⟩
 rw[h2] at hF;have hlt:k<(dM t).length:=by
  have:=congrArg List.length hrd;rw[sc h1,List.length_drop] at this;simp only[zx0] at this;omega
 have jM:oe t k=[enc (ay.of (u.take (i+1)))]:=by
  have e:(dM t)[k]=u.take i++[10]:=by
   have h3:=hrd;rw[sc h1,List.drop_eq_getElem_cons hlt] at h3;exact (List.cons.inj h3).1.symm
  have h10:u[i]=10:=by
   obtain ⟨e1,_⟩:=rq h1;have:=congrArg (fun l=>l[i]?) e1;simp only[zz0 hi] at this;rw[zx3 (by rw[Z9];omega),Z9,show i-min i u.length=0 by omega] at this;exact Option.some.inj this
  rw[oe,zz5,zz0 hlt,Option.getD_some,e,gX hi,h10]
 have hlz:decide ((i:Int)<0)=false:=decide_eq_false (by omega);have hw:=ew (i:=i) (by omega);have hsh:=qo (ay.of u) (j:=i+1) (by rw[ay.dI];omega);have hsl:=wA (ay.of u) (i:=i+1) (by rw[ay.dI];omega);rw[ay.dI] at hsh hsl;have hyy:=hY k (dz u out s z) _ hlt ⟨out,s,z,by rw[←hu],hP⟩ (fun r os2 h=>h);rw[jM] at hyy;simp only[bX,dz] at hyy ⊢;have R:=y6 @iw (y6 @iH (y6 @hq (y6 @hlz (y6 @hw (y6 @hsh (y6 @IJ (y6 @bu aw)))))))
 repeat' ((first |(with_reducible refine .guard (fun hb =>?_) (fun hb =>?_) <;>try simp only[hb])|refine U.aC (by decide +kernel) rfl fun K hK =>?_|refine .flat _ (hF) rfl ?_|(refine .aA [0,1,3,5,18] hK ?_;clear hK K)|(with_reducible refine .done (hK _ ?_);clear hK K)|refine U.of rfl ?_|(with_reducible refine aj.aB (fun h =>?_) (fun h =>?_) <;>try simp only[h])) <;>try simp only[aD,R,simprocAttr])
 all_goals clear R
 refine aZ.ZN (ow:=[]) (In:=fun os2=>∃ osb2,os2=bX o osb2∧rY t P k osb2) (Ix:=fun os2=>∃ e osb2,os2=bX (oX e) osb2∧pK bo e osb2) hyy ((nr t out0 s0 z0 u out s z).bX o o) (fun os' h =>?_) (fun os' h =>?_) (by simp[I.cq,jG]) (fun m h=>by simp[al,aE] at h) (fun os2 h =>?_) (fun os2 h =>?_)
 ·obtain ⟨_,rfl,out',s',z',rfl,_⟩:=h;exact (nr ..).bX _ _
 ·obtain ⟨e,_,rfl,_,u',out',s',z',rfl,_⟩:=h;exact (nr ..).bX _ _
 ·obtain ⟨_,rfl,out',s',z',rfl,hP'⟩:=h;rw[←hu]
  try simp only[bX,dz,zz3,aX,simprocAttr]
  refine .done (hK _ ?_);clear hK K;have hn:=hrn _ _ h1;have R:=y6 @hw (y6 @hsl (y6 @hlz (y6 @Zp (y6 @bu aw))))
  repeat' ((first |(with_reducible refine .guard (fun hb =>?_) (fun hb =>?_) <;>try simp only[hb])|refine U.aC (by decide +kernel) rfl fun K hK =>?_|(refine .aA [0,1,3,5,18] hK ?_;clear hK K)|(with_reducible refine .done (hK _ ?_);clear hK K)|refine U.of rfl ?_|(with_reducible refine aj.aB (fun h =>?_) (fun h =>?_) <;>try simp only[h])) <;>try simp only[aD,R,simprocAttr])
  all_goals clear R
  refine ⟨(k+1,out',s',z'),⟨by simp only;omega,hP'⟩,by simp only;omega,?_⟩;simp only[hn];refine bl.slots ?_ (fun n =>?_)
  ·simp[bG,bH]
  ·simp only[cw];(repeat' split) <;>simp_all
 ·obtain ⟨e,_,rfl,he,u',out',s',z',rfl,hF'⟩:=h
  try simp only[bX,dz,zz3,aX,simprocAttr]
  refine .done (hK _ ?_);clear hK K;have R:=y6 @bu aw
  repeat' ((first |(with_reducible refine .guard (fun hb =>?_) (fun hb =>?_) <;>try simp only[hb])|refine U.aC (by decide +kernel) rfl fun K hK =>?_|(refine .aA [0,1,3,5,18] hK ?_;clear hK K)|(with_reducible refine .done (hK _ ?_);clear hK K)|refine U.of rfl ?_|(with_reducible refine aj.aB (fun h =>?_) (fun h =>?_) <;>try simp only[h])) <;>try simp only[aD,R,simprocAttr])
  all_goals clear R
  rw[jY];exact ⟨_,[],Bj (o:=oX e) (u:=u') (out:=out') (s:=s') (z:=z'),trivial,rfl,.inr ⟨e,_,rfl,he,u',out',s',z',rfl,hF'⟩⟩
def X6(t:List UInt8):cd:=fun r os'=>r=.func 122 [.ptr 1 []]∧os'=[(1,.box (enc (ay.of t)))]
theorem F0(t:List UInt8):eT Tryz.prog 69 [enc (ay.of t)] [] (X6 t):=by
 refine eT.bO Tryz.func69 Ic Ju KR (t8 rfl) (t8 rfl) (fun m hm=>by simp[al,aE] at hm) (fun hwf W0 bE E1 =>?_);simp only[yX,Dt,bD];clear hwf;have hall:([I.ptr 1 []].all fun y=>y.cD)=true:=rfl;have R:=y6 @hall (y6 @bu aw)
 repeat' ((first |refine U.aC (by decide +kernel) rfl fun K hK =>?_|(refine .aA [0,1,2] hK ?_;clear hK K)|(with_reducible refine .done (hK _ ?_);clear hK K)|refine U.of rfl ?_|(with_reducible refine aj.aB (fun h =>?_) (fun h =>?_) <;>try simp only[h])) <;>try simp only[aD,R,simprocAttr])
 all_goals clear R
 exact ⟨[(1,.box (enc (ay.of t)))],[.func 122 [.ptr 1 []]],oa rfl (fun p=>bp _ _),⟨⟨_,rfl,.inl ⟨rfl,rfl,rfl⟩⟩,trivial⟩,rfl,rfl⟩
end Go.Proofs.YtoffnnjbplgnaaaGreatDoor
namespace Go.Abs
open Go Go.RowKit
open Enc (enc)
def Gg(P:Program)(nn:Nat)(x y:bj)(ps:List Nat)(tsR:List (Nat×I))(N:Nat)(item:Nat→List I)(bh J:Nat→List (Nat×ai)→Prop)(Ix:Option Nat→List (Nat×ai)→Prop):Prop :=
 ∀ k osb,k<N→bh k osb→∀ (w:World) (D:aJ) (E:aN) (l:Nat) (o1 o2:Obj),
  U ⟨P,w,D,nn,bY E,E,fp,some l,none⟩ x (cH (fun B=>B.o 1999999=some (.c6 o1)∧U ⟨P,w,D,nn,bY E,E,fp,some l,none⟩ y (Ee o2 (J k) Ix) (B.aS 1999999 (.c6 o2))) (fun _ _=>False)) (aq (sO ps (item k) tsR) (bX o1 osb))
theorem xP{aI:Bool}{A0:ab}{ρ:List (Nat×Nat)}{os:List (Nat×ai)} : ∀ {caps:List I},(∀ x∈caps,x.only (al os)=true∧x.cD=true)→fU aI A0 ρ os (caps.map fun x=>x.aO (bg ρ)) caps
 | [],_=>trivial
 |x::xs,h=>⟨.inl ⟨rfl,(h x (by simp)).1,(h x (by simp)).2⟩,xP fun y hy=>h y (by simp[hy])⟩
theorem GK{aI:Bool}{A0:ab}{ρ:List (Nat×Nat)}{os:List (Nat×ai)}{v:Value}{caps0 caps:List I}(hc:caps0=caps.map fun x=>x.aO (bg ρ))(h:∀ x∈caps,x.only (al os)=true∧x.cD=true):fU aI A0 ρ os (.raw v::caps0) (.raw v::caps):=by
 subst hc;exact ⟨.inl ⟨by simp[I.aO],by simp[I.only],rfl⟩,xP h⟩
section
variable {c:cn} {Q:Exit→ab→Prop}
theorem U.YS{f:aF}{ps:List Nat}{x y:bj}{ts tsR:List (Nat×I)}{os0 osb0:List (Nat×ai)}{ρ:List (Nat×Nat)}{g:FuncId}{caps0 caps:List I}{N:Nat}{item:Nat→List I}
  (bh J:Nat→List (Nat×ai)→Prop) (Ix:Option Nat→List (Nat×ai)→Prop) (hr0:c.qk=none∧c.dP=none) (hn6:c.n≤1000000)
  (hf:af (aq ts os0) f=.func g caps0) (hc0:caps0=caps.map fun x=>x.aO (bg ρ)) (hcp:∀ x∈caps,x.only (al osb0)=true∧x.cD=true) (hcb:dR c.P g=true)
  (jM:∀ (Y:Value→List I→List (Nat×ai)→cd→Prop) (v:Value) (o:Obj) (oX:Option Nat→Obj),v.oneCell'=true →
   (∀ k osb post,k<N→bh k osb→(∀ r os2,(r=.bool true∧∃ osb2,os2=bX o osb2∧J k osb2)∨(r=.bool false∧∃ e osb2,os2=bX (oX e) osb2∧Ix e osb2)→post r os2)→Y v (item k) (bX o osb) post) →
   jc c.P g Y (.raw v::caps) (bX o osb0) (fun r os'=>r=.tuple []∧((∃ osb,os'=bX o osb∧bh N osb)∨∃ e osb,os'=bX (oX e) osb∧Ix e osb))) (hlen:∀ k,(item k).length=ps.length)
  (hfree:aE os0 999999=none) (h19:al osb0 1999999=false) (hρ:bg ρ 1999999=999999)
  (hgv:∀ o,eP ρ (bX o osb0) ((999999,.c6 o)::os0)) (hts:mc ρ (al osb0) ts tsR)
  (hI:∀ k os,bh k os→fw osb0 os) (hIx:∀ e os,Ix e os→fw osb0 os) (h0:bh 0 osb0)
  (hround:Gg c.P c.n x y ps tsR N item bh J Ix)
  (hdone:∀ os,bh N os→Q .normal (aq ts (cL ρ os++os0))) (hexit:∀ e os,Ix e os→Q (uK e) (aq ts (cL ρ os++os0))) :
  U c (.nh f ps x y) Q (aq ts os0):=by
 obtain ⟨hr,hbase⟩:=hr0;intro code hc a w hs;cases code <;>simp only[dQ] at hc <;>try (first | (cases hc;done) | ((repeat' split at hc) <;>cases hc;done))
 rename_i cf cps cx cy;split at hc
 case h_2=>cases hc
 rename_i f' x' y' hcf hcx hcy;split at hc
 case isFalse=>cases hc
 rename_i hpn;simp only[v6,bj.nh.injEq] at hc;obtain ⟨rfl,rfl,rfl,rfl⟩:=hc;obtain ⟨D,E,hs⟩:=hs;have hF:c.bo=Fence.wide:=by unfold cn.bo;rw[hr]
 have hE0:c.cu 999999=none:=hs.jK (.inr (by decide));have hval:∃ vs:List Value,a.eval cf=.func (.func g) #[] vs.toArray∧ar w D E caps0 vs:=by
  have hv:=br hs hcf;rw[hf] at hv;obtain ⟨cs,q1,q2⟩:=hv;simp only[ae] at q2;obtain ⟨vs,q3,q4⟩:=q2;exact ⟨vs,by rw[←lQ (zy hcb)];simpa[ba,I.isAgg,q3] using q1.symm,q4⟩
 obtain ⟨vs,hval,hvs⟩:=hval;rw[hF];refine wpIn_rangeFunc fun fn hfn =>?_;obtain ⟨rec,hrec⟩:∃ rec:LoopState→Option Code→Loop,rec=fun aT pe => { state:=aT,pending:=pe,fn,tmps:=a.tmps,params:=cps,assign:=cx,body:=cy,defers:=w.heap.size } :=⟨_,rfl⟩
 obtain ⟨E1,hs1,hE1,hup⟩:=hs.enter hbase hfree hE0 (o:=.loop (rec .ready none)) rfl;obtain ⟨W1,hW1⟩:∃ W1,(w.alloc (.deferred (some []))).alloc (.loop (rec .ready none))=W1:=⟨_,rfl⟩
 rw[hW1] at hs1 hup;obtain ⟨l,hl⟩:∃ l,l=w.heap.size+1:=⟨_,rfl⟩
 rw[←hl] at hE1;obtain ⟨yv,hyv⟩:∃ yv:Value,yv=.func (.yield l) #[] #[]:=⟨_,rfl⟩
 obtain ⟨a1,ha1⟩:∃ a1:Act,a1 = { a with defers := { target:=.collected w.heap.size,args := #[] } :: a.defers } :=⟨_,rfl⟩
 rw[←ha1] at hs1;refine ⟨l,[{ target:=.collected w.heap.size,args := #[] }],W1,{ target:=.fn (.func g) vs.toArray,args := #[yv] },W1,g,#[yv]++vs.toArray,W1,?_,?_,?_,?_,fun _=>by decide,?_⟩
 ·rw[←hW1,hrec,hl];exact run_enterLoop_outer _ _ _ _ _
 ·simp only[resolve,hval,hyv];simp[go_sem]
 ·intro f' _;trivial
 ·simp only[invoke,ma hcb]
 ·-- the iterator's own bargain
  have hG0:=hI 0 osb0 h0;obtain ⟨I',hI'⟩:∃ I':Nat→List (Nat×ai)→Prop,I'=fun k os=>∃ osb,os=bX (.loop (rec .ready none)) osb∧bh k osb:=⟨_,rfl⟩
  obtain ⟨J',hJ'⟩:∃ J':Nat→List (Nat×ai)→Prop,J'=fun k os=>∃ osb,os=bX (.loop (rec .ready none)) osb∧J k osb:=⟨_,rfl⟩
  obtain ⟨Ix',hIx'⟩:∃ Ix':List (Nat×ai)→Prop,Ix'=fun os=>∃ e osb,os=bX (.loop (rec .done (some (r3 e)))) osb∧Ix e osb:=⟨_,rfl⟩
  obtain ⟨os1,hos1⟩:∃ os1,os1=bX (.loop (rec .ready none)) osb0:=⟨_,rfl⟩
  obtain ⟨Y,hY⟩:∃ Y:Value→List I→List (Nat×ai)→cd→Prop,Y=fun v args os post=>v=yv∧∃ k,args=item k∧k<N∧I' k os∧∀ r os2,(r=.bool true∧J' k os2)∨(r=.bool false∧Ix' os2)→post r os2:=⟨_,rfl⟩
  have jL:∀ k os',I' k os'→fw os1 os':=fun k os' h=>by
   rw[hI'] at h;obtain ⟨osb,rfl,h⟩:=h;rw[hos1];exact (hI k osb h).bX _ _
  have goodx:∀ os',Ix' os'→fw os1 os':=fun os' h=>by
   rw[hIx'] at h;obtain ⟨e,osb,rfl,h⟩:=h;rw[hos1];exact (hIx e osb h).bX _ _
  have hctr:jc c.P g Y (.raw yv::caps) os1 (fun r os'=>r=.tuple []∧(I' N os'∨Ix' os')):=by
   rw[hI',hIx',hos1];refine jM Y yv (.loop (rec .ready none)) (fun e=>.loop (rec .done (some (r3 e)))) (by rw[hyv];rfl) (fun k osb post hk h1 h2 =>?_);rw[hY];refine ⟨rfl,k,rfl,hk,by rw[hI'];exact ⟨osb,rfl,h1⟩,fun r os2 h3=>h2 r os2 ?_⟩;rw[hJ',hIx'] at h3;exact h3
  have hgv1:eP ρ os1 ((999999,.c6 (.loop (rec .ready none)))::os0):=by rw[hos1];exact hgv _
  obtain ⟨A0,hA0⟩:∃ A0:ab,A0=aq ts ((999999,.c6 (.loop (rec .ready none)))::os0):=⟨_,rfl⟩
  have hand:mi (Calls c.P g) (fun w D E=>∀ n,nG ⟨c.P,w,D,n,bY E,E,Y,none,none⟩) (.raw yv::caps) os1 (fun r os'=>r=.tuple []∧(I' N os'∨Ix' os')):=fun w D E vs hy hlive hheld hv=>by
   refine (hctr.2 w D E vs hy hlive hheld hv).mono fun e w' ⟨v,he,D',E',r,os',q⟩=>⟨v,D',E',r,os',he,q⟩
  have hshare:=hs1.nm;obtain ⟨Dh,hDh⟩:∃ Dh,Dh=nj (aq ts ((999999,.c6 (.loop (rec .ready none)))::os0)) D E1:=⟨_,rfl⟩
  rw[←hDh] at hshare;have hsh:=hshare.1;obtain ⟨Eh,hEh⟩:∃ Eh,Eh=ao ρ os1 E1:=⟨_,rfl⟩
  have isrec:al os1 1999999=true:=by rw[hos1,jN];simp
  have hEl:Eh 1999999=some (.op l):=by rw[hEh];simp only[ao,isrec,if_true,hρ];exact hE1
  have EhIn:∀ n e,Eh n=some e→al os1 n=true:=fun n e h=>by
   rw[hEh] at h;simp only[ao] at h;split at h
   ·assumption
   ·cases h
  have hyok:∀ n,nG ⟨c.P,W1,Dh,n,bY Eh,Eh,Y,none,none⟩:=by
   refine fun n=>⟨by rw[hEh];exact hs1.oh,?_⟩
   intro v' args os' post' hYv w2 D2 E2 vs2 hsince hlive hheld hrvs;rw[hY] at hYv;obtain ⟨rfl,k,rfl,hkN,hIk,hpost⟩:=hYv;have hIk0:=hIk;rw[hI'] at hIk;obtain ⟨osb,rfl,hIk⟩:=hIk;have gk:=jL k _ hIk0;have gkb:=hI k osb hIk;have in2:∀ m,al os1 m=true→E2 m≠none:=fun m hm=>by
    rw[←gk.same m] at hm;cases hx:aE (bX (.loop (rec .ready none)) osb) m with
    |none=>simp[al,hx] at hm
    |some x=>have:=hheld.bB m;rw[hx] at this;exact p7 this
   have same2:∀ m e,Eh m=some e→e.ej=true→E2 m=some e:=fun m e he hfx=>by
    rcases hsince.dw m e he with h | ⟨e',h,hle⟩
    ·exact absurd h (in2 m (EhIn m e he))
    ·rw[hle.eq hfx] at h;exact h
   have hEl2:E2 1999999=some (.op l):=same2 _ _ hEl rfl;have hob:=hheld.bB 1999999;rw[oo,if_pos rfl] at hob;obtain ⟨b,j1,_,j3,_,_⟩:=hob;rw[hEl2] at j1;cases j1;have hsz:vs2.toArray.size=cps.size:=by have:=qm hrvs;rw[hlen] at this;simpa using this
   have hyr:=run_yield (P:=c.P) (args:=vs2.toArray) j3 (by rw[hrec];exact hsz);rw[hrec] at hyr;refine ⟨l,hyv,fn,_,cx,cy,hyr,roundIn_of_wpIn trivial ?_⟩;clear hyr
   -- the round's own frame
   obtain ⟨cr,hcr⟩:∃ cr:cn,cr=⟨c.P,w2,D2,c.n,bY E2,E2,fp,some l,none⟩:=⟨_,rfl⟩
   have hFr:cr.bo=Fence.wide.inRound l:=by rw[hcr];rfl
   have hlat:dm W1 Dh Eh w2 D2 E2:=by
    refine ⟨hsince.cA,hsince.ft.cell,fun m b aK he=>same2 m _ he rfl,fun m aG l he =>?_,fun m b he=>same2 m _ he rfl,fun m b he=>same2 m _ he rfl,hsince.ft.iA⟩;rcases hsince.dw m _ he with h | ⟨e',h,hle⟩
    ·exact absurd h (in2 m (EhIn m _ he))
    ·rcases hle with rfl | ⟨_,_,blk',l',e,rfl,k1,k2⟩
     ·exact ⟨aG,l,h,Z7 _,fun _=>rfl⟩
     ·cases e;exact ⟨blk',l',h,k1,k2⟩
   have hslots:mc ρ (al os1) ts tsR:=by
    have:∀ tsR:List (Nat×I),mc ρ (al osb0) ts tsR→mc ρ (al os1) ts tsR:=by
     intro tsR
     induction tsR with
     |nil=>exact fun h=>h
     |cons q r ih =>
      intro h;obtain ⟨h1,h2,h3⟩:=h;exact ⟨h1,ju (fun n hn=>by rw[hos1,jN,hn];simp) _ h2,ih h3⟩
    exact this tsR hts
   have hsr:aL cr (aq tsR (bX (.loop (rec .ready none)) osb)) { tmps:=a.tmps,defers:=[] } w2 D2 E2:=by
    rw[hcr];refine ⟨hs.sz,⟨[],rfl,.nil,fun _ h=>by simp at h⟩,fun t =>?_,ez.refl _ _,fun _ _ h _=>h,hlive,fun m=>(hheld.bB m).jr fun e b he hb=>.inr ⟨m,e,he,hb⟩,hheld.cz,fun _ e h=>.inr ⟨e,h,.refl e⟩,fun m hm =>?_,fun _ _ h=>h,⟨hsince.pQ,fun _ _ _ _ h=>h.elim⟩,.refl _ _⟩
    ·rcases EM hslots t with h | ⟨h1,h2⟩
     ·simp only[aq];rw[h];simp[aR]
     ·have h3:=hsh.dF t;rw[ha1] at h3;simp only[aq] at h3 ⊢;rw[h1] at h3;have h4:=(aR.aO (w:=W1) (D:=Dh) (p:=al os1) (ρ:=bg ρ) (E:=Eh) (E':=E1) (fun n hn=>by rw[hEh];simp only[ao,hn,if_true]) h2).1 h3;exact aR.later hlat h4
    ·have hmi:al os1 m=true:=by
      rw[←gk.same m];have:=hheld.bB m;cases hx:aE (bX (.loop (rec .ready none)) osb) m with
      |none=>rw[hx] at this;exact absurd this hm
      |some x=>simp[al,hx]
     have:=gk.lR m hmi;exact ⟨Nat.le_trans hn6 this,this⟩
   have hsp:=aL.CK cps.toList vs2 (item k) tsR _ hsr (fun p hp=>by rw[hcr];have:=zy6.1 hpn p hp;simpa using this) hrvs (by have:=hsz;simpa using this.symm);have htm:(cps.zip vs2.toArray).foldl (fun t (q:Tmp×Value)=>t.setIfInBounds q.1 q.2) a.tmps=(cps.toList.zip vs2).foldl (fun t q=>t.setIfInBounds q.1 q.2) a.tmps:=by
    rw[←Array.foldl_toList];simp
   have hx:=hround k osb hkN hIk w2 D2 E2 l (.loop (rec .ready none)) (.loop { rec .ready none with state:=.busy });rw[←hcr] at hx;have hx1:=hx cx (by rw[hcr];exact hcx) _ w2 ⟨D2,E2,hsp⟩;rw[hFr] at hx1;simp only[←htm] at hx1;rw[hcr] at hx1;refine wpIn_mono hx1 ?_;rintro e ax wx ⟨B,hq,hsx⟩;rw[←hcr] at hq hsx;cases e <;>simp only[cH] at hq <;>try exact hq.elim
   simp only[Exit.then];obtain ⟨hB1,hB2⟩:=hq;obtain ⟨Dx,Ex,hsx⟩:=hsx;have hElx:Ex 1999999=some (.op l):=by
    have ho:=hsx.bB 1999999;rw[hB1] at ho;rcases hsx.uV (n:=1999999) (by rw[hcr];exact hEl2) rfl with h | h
    ·exact absurd h (p7 ho)
    ·exact h
   have hLx:wx.heap[l]?=some (.loop (rec .ready none)):=by
    have ho:=hsx.bB 1999999;rw[hB1] at ho;obtain ⟨b,k1,_,k3,_⟩:=ho;rw[hElx] at k1;cases k1;exact k3
   refine ⟨_,run_beginRound hLx (by rw[hrec]),?_⟩;have hsb:=hsx.wE (o':=.loop { rec .ready none with state:=.busy }) hB1 hElx rfl;have hy1:=hB2 cy (by rw[hcr];exact hcy) _ _ ⟨Dx,Ex,hsb⟩;rw[hFr] at hy1;rw[hcr] at hy1;refine wpIn_mono hy1 ?_;rintro e a3 w3 ⟨A3,hq3,D3,E3,hs3⟩;rw[←hcr] at hs3
   -- the end of the round
   have bd:∀ (os:List (Nat×ai)) (jump:Option Code),oT (.loop { rec .ready none with state:=.busy }) A3 os→(post' (.bool jump.isNone) (bX (.loop (rec (if jump.isNone then .ready else .done) jump)) os)) →
     ∃ v w',(Instr.endRound l jump).run c.P w3=.ok v w'∧(fun e w'=>∃ v D' E' r os',e=Ending.returned v∧post' r os'∧aR w' D' E' r v∧jd (fun b=>w2.heap.size≤b∨bY E2 b) w' D' E' (aE os') ∧
      ez (fun b=>w2.heap.size≤b∨bY E2 b) w2 w'∧(∀ b o,D2 b o→D' b o)∧(∀ b o,D' b o→b<w'.heap.size)∧(∀ b o,D' b o→b<w2.heap.size→¬ bY E2 b→D2 b o) ∧
      (∀ n e,E2 n=some e→al os' n=true→∃ e',E' n=some e'∧e.fk e')∧fT w2 D2 w') (.returned v) w':=fun os jump hbk hp=>by
    have hA3:A3.o 1999999=some (.c6 (.loop { rec .ready none with state:=.busy })):=(hbk 1999999 _ (by rw[oo,if_pos rfl])).1;have hEl3:E3 1999999=some (.op l):=by
     have ho:=hs3.bB 1999999;rw[hA3] at ho;rcases hs3.uV (n:=1999999) (by rw[hcr];exact hEl2) rfl with h | h
     ·exact absurd h (p7 ho)
     ·exact h
    have hL3:w3.heap[l]?=some (.loop { rec .ready none with state:=.busy }):=by
     have ho:=hs3.bB 1999999;rw[hA3] at ho;obtain ⟨b,k1,_,k3,_⟩:=ho;rw[hEl3] at k1;cases k1;exact k3
    have hend:=run_endRound (P:=c.P) jump hL3;have erec:({ rec .ready none with state:=if jump.isNone then LoopState.ready else .done,pending:=jump } : Loop)=rec (if jump.isNone then .ready else .done) jump:=by rw[hrec]
    have hend':(Instr.endRound l jump).run c.P w3=.ok (.bool jump.isNone) (w3.putObj l (.loop (rec (if jump.isNone then .ready else .done) jump))):=by
     rw[hend];rw[hrec]
    have hs4:=hs3.wE (o':=.loop (rec (if jump.isNone then .ready else .done) jump)) hA3 hEl3 rfl;rw[hcr] at hs4;obtain ⟨D',E',_,_,_,q1,q2,q3,q4,q5,q6⟩:=hs4.vn (VP hbk _);exact ⟨_,_,hend',_,D',E',.bool jump.isNone,_,rfl,hp,⟨[.bool jump.isNone],by simp[ba,I.isAgg],by simp[ae]⟩,q1,q2,q3,q4,q5,q6⟩
   cases e with
   |normal =>
    obtain ⟨os,hbk,hin⟩:=hq3;exact bd os none hbk (hpost _ _ (.inl ⟨rfl,by rw[hJ'];exact ⟨os,rfl,hin⟩⟩))
   |ret =>
    obtain ⟨os,hbk,hin⟩:=hq3;exact bd os (some .ret) hbk (hpost _ _ (.inr ⟨rfl,by rw[hIx'];exact ⟨none,os,rfl,hin⟩⟩))
   |exit id =>
    obtain ⟨os,hbk,hin⟩:=hq3;exact bd os (some (.exit id)) hbk (hpost _ _ (.inr ⟨rfl,by rw[hIx'];exact ⟨some id,os,rfl,hin⟩⟩))
   |goto t=>exact hq3.elim
   |panic ch=>exact hq3.elim
   |outgrown=>exact hq3.elim
  -- the call
  have hargs:dW (aR W1 D E1) (.raw yv::caps0) (yv::vs):=by
   exact .cons ⟨[yv],by simp[ba,I.isAgg],by rw[hyv];exact ⟨rfl,rfl⟩⟩ (oH (hup caps0 vs hvs))
  have hus:=hand.use (ρ:=ρ) hs1 false (fun h=>h.mono) ⟨(fun h=>by cases h),fun _=>by rw[←hDh,←hEh];exact hyok⟩ hgv1 (GK hc0 fun x hx=>⟨ju (fun n hn=>by rw[hos1,jN,hn];simp) _ (hcp x hx).1,(hcp x hx).2⟩)
   (fun r os' hp=>by
    have gg:fw os1 os':=by
     rcases hp.2 with h | h
     ·exact jL _ _ h
     ·exact goodx _ h
    refine ⟨fun m x hx=>⟨(gg.ok m x hx).1,(gg.ok m x hx).2,fun h=>by cases h⟩,fun m m' h1 h2=>hgv1.inj m m' (by rw[←gg.same];exact h1) (by rw[←gg.same];exact h2),fun m hm=>by rw[gg.same];exact hm,fun m h1 h2=>(by rw[gg.same,h2] at h1;cases h1),(by rw[hp.1];simp[I.only,I.bR]),fun h=>by cases h⟩) hargs
  have ecl : #[yv]++vs.toArray=(yv::vs).toArray:=by simp
  rw[ecl];refine CallsIn.mono (callsIn_wide.2 hus) ?_;rintro e w3 ⟨v,r,os',D2,E2,rfl,hp,hs2,_,hE2⟩;have key:∀ (o3:Obj) (osb:List (Nat×ai)),os'=bX o3 osb→od o3=true→E2 999999=some (.op l)∧w3.heap[l]?=some o3∧∀ o4,od o4=true→bC c (aq ts (cL ρ osb++os0)) a1 (w3.putObj l o4):=fun o3 osb he h3=>by
   subst he;have hn2:E2 999999=some (.op l):=by
    obtain ⟨e',h1,h2⟩:=hE2 1999999 (.op l) (by rw[←hEh];exact hEl) (by rw[jN];simp);rw[hρ] at h1;rw[h1,h2.eq rfl]
   have eos:cL ρ (bX o3 osb)=(999999,.c6 o3)::cL ρ osb:=by simp only[bX,cL,Z3,hρ,ai.aO]
   rw[eos] at hs2;have ha:(aq ts ((999999,ai.c6 o3)::cL ρ osb++(999999,.c6 (.loop (rec .ready none)))::os0)).o 999999=some (.c6 o3):=by simp[aq,aE]
   have hgb:∀ m,al osb m=true→bg ρ m≠999999:=fun m hm e=>by
    have h5:al (bX o3 osb) m=true:=by rw[jN,hm];simp
    have g5:fw os1 (bX o3 osb):=by
     rcases hp.2 with h | h
     ·exact jL _ _ h
     ·exact goodx _ h
    have h6:=hgv1.inj m 1999999 (by rw[←g5.same];exact h5) isrec (by rw[hρ];exact e);subst h6;have h7:fw osb0 osb:=by
     rcases hp.2 with h | h
     ·rw[hI'] at h;obtain ⟨osb',h8,h9⟩:=h;simp only[bX,zz9] at h8;rw[h8.2];exact hI _ _ h9
     ·rw[hIx'] at h;obtain ⟨e,osb',h8,h9⟩:=h;simp only[bX,zz9] at h8;rw[h8.2];exact hIx _ _ h9
    rw[h7.same,h19] at hm;cases hm
   refine ⟨hn2,?_,fun o4 h4 =>?_⟩
   ·have ho:=hs2.bB 999999;rw[ha] at ho;obtain ⟨b,k1,_,k3,_⟩:=ho;rw[hn2] at k1;cases k1;exact k3
   ·have h5:=(hs2.wE (o':=o4) ha hn2 h4).Mg hn2;have hst:(⟨((aq ts ((999999,ai.c6 o3)::cL ρ osb++(999999,.c6 (.loop (rec .ready none)))::os0)).aS 999999 (.c6 o4)).t,fun m=>if m=999999 then none else
      ((aq ts ((999999,ai.c6 o3)::cL ρ osb++(999999,.c6 (.loop (rec .ready none)))::os0)).aS 999999 (.c6 o4)).o m⟩:ab)=aq ts (cL ρ osb++os0):=by
     simp only[aq,ab.aS]
     congr 1
     funext m
     by_cases hm:m=999999
     ·subst hm;simp only[if_true,pW];cases hq:pre ρ osb 999999 with
      |none=>exact hfree.symm
      |some k=>exact absurd (iD hq).2 (hgb k (iD hq).1)
     ·simp only[if_neg hm,zz2,aE,pW]
    rw[hst] at h5;exact ⟨D2,_,h5⟩
  rcases hp.2 with h | h
  ·rw[hI'] at h;obtain ⟨osb,he,hin⟩:=h;obtain ⟨k1,k2,k3⟩:=key _ osb he rfl;refine ⟨none,_,(by have:=run_endLoop (P:=c.P) k2 (by rw[hrec];simp);rw[hrec] at this;exact this),_,hdone osb hin,?_⟩;have:=k3 (.loop { rec .ready none with state:=.exhausted }) rfl;rw[ha1] at this;rw[hrec] at this;exact this
  ·rw[hIx'] at h;obtain ⟨e,osb,he,hin⟩:=h;obtain ⟨k1,k2,k3⟩:=key _ osb he rfl;refine ⟨some (r3 e),_,(by have:=run_endLoop (P:=c.P) k2 (by rw[hrec];simp);rw[hrec] at this;exact this),?_⟩;have:=k3 (.loop { rec .done (some (r3 e)) with state:=.exhausted }) rfl;rw[ha1] at this;rw[hrec] at this;have hq:r9 c Q (uK e) { a with defers := { target:=.collected w.heap.size,args := #[] } :: a.defers } _:=⟨_,hexit e osb hin,this⟩
   cases e with
   |none=>exact wpIn_ret hq
   |some id=>exact wpIn_exit hq
end
end Go.Abs
namespace Go.Proofs.YtoffnnjbplgnaaaGreatDoor
open Go Go.Abs
open Go.Abs.Enc (enc)
theorem Y5{out:List ah}{s:Int}{z:Nat}{x:List UInt8}{au:List (List UInt8)}(h:ed bm s x=none):iY (ed bm) dC out s z (x::au)=(out,z):=by rw[iY,h]
theorem Y6{out:List ah}{s:Int}{z:Nat}{x:List UInt8}{au:List (List UInt8)}{q:ah×Int}(h:ed bm s x=some q):iY (ed bm) dC out s z (x::au)=if dC out q.1=true then iY (ed bm) dC (out++[q.1]) q.2 (z+x.length) au else (out,z):=by rw[iY,h]
structure oZ (t:List UInt8) (k:Nat) (out:List ah) (s:Int) (z:Nat):Prop where
 eq:iY (ed bm) dC [] 1 0 (dM t)=iY (ed bm) dC out s z ((dM t).drop k)
 sum:0≤s∧s<1000003
 ok:∀ r∈out,bm r=true
 len:out.length≤60
 size:z+(fD k t).length=t.length
structure qJ (t:List UInt8) (out:List ah) (z:Nat):Prop where
 eq:iY (ed bm) dC [] 1 0 (dM t)=(out,z)
 len:out.length≤60
 size:z≤t.length
theorem YJ{t:List UInt8}{k:Nat}(hk:k<(dM t).length):∃ w v,dB 10 (fD k t)=some (w,v)∧(dM t)[k]=w++[10]∧fD (k+1) t=v∧fD k t=w++10::v:=by
 have hrd:=wg (Nat.le_of_lt hk);cases h:dB 10 (fD k t) with
 |none=>rw[vp h] at hrd;have:=congrArg List.length hrd;simp at this;omega
 |some p =>
  obtain ⟨w,v⟩:=p;refine ⟨w,v,rfl,?_,wh h,(rq h).1⟩;rw[sc h,List.drop_eq_getElem_cons hk] at hrd;exact (List.cons.inj hrd).1.symm
theorem CD(t:List UInt8):oZ t 0 [] 1 0:=⟨rfl,by omega,by simp,by simp,by simp[fD]⟩
theorem Yd{t:List UInt8}{out:List ah}{s:Int}{z:Nat}(h:oZ t (dM t).length out s z):qJ t out z :=
 ⟨by rw[h.eq,List.drop_length,iY],h.len,by have:=h.size;omega⟩
theorem AL{t:List UInt8}{out:List ah}{z:Nat}(h:qJ t out z):jx bm dC t=(out,t.take z):=by rw[jx,h.eq]
theorem WY{out:List ah}{r:ah}(h:dC out r=true):out.length<60:=by
 simp only[dC,Z0,decide_eq_true_eq] at h;exact h.1
theorem xh(t:List UInt8)(ht:t.length≤281474976710656):aQ Tryz.prog 15 [enc (ay.of t)] (.tuple [enc (jx bm dC t).1,enc (ay.of (jx bm dC t).2)]):=by
 refine aQ.bO Tryz.func15 HM I6 Ks (t8 rfl) (fun hwf W0 bE E1 =>?_);simp only[yC,C3,bD];clear hwf;have h69:=F0 t;have R:=y6 @qw (y6 @bu aw)
 repeat' ((first |(with_reducible refine .guard (fun hb =>?_) (fun hb =>?_) <;>try simp only[hb])|refine U.aC (by decide +kernel) rfl fun K hK =>?_|(refine .aA [0,2,3,4,5,6,7,8,9,10,12,13,28] hK ?_;clear hK K)|(with_reducible refine .done (hK _ ?_);clear hK K)|refine U.of rfl ?_|(with_reducible refine aj.aB (fun h =>?_) (fun h =>?_) <;>try simp only[h])) <;>try simp only[aD,R,simprocAttr])
 all_goals clear R
 refine .bB false [] [] [enc (ay.of t)] _ rfl h69 ⟨fun m y hy=>by simp[aE] at hy,fun m m' h=>by simp[al,aE] at h⟩ ⟨.inl ⟨(gJ _ _).symm,bp _ _,e9 _⟩,trivial⟩ ?_ ?_
 ·rintro r os' ⟨rfl,rfl⟩;refine ⟨fun m y hy =>?_,fun m m' _ _ h=>h,fun m hm=>by simp[al,aE] at hm,fun m hm _ =>?_,⟨rfl,fun h=>by cases h⟩⟩
  ·simp only[aE] at hy;split at hy
   ·cases hy;exact ⟨bp _ _,rfl,fun h=>by cases h⟩
   ·cases hy
  ·simp only[al,aE] at hm;split at hm
   ·rename_i e;subst e;exact ⟨rfl,by decide⟩
   ·simp at hm
 rintro r os' ⟨rfl,rfl⟩
 try simp only[cL,Z3,zz6,ai.aO,gJ,bg,I.aO,I.cS,zz2,zz3,aX,simprocAttr]
 refine .done (hK _ ?_);clear hK K;refine U.sub (bl.Gp 4 80 50 8 8 [] _ rfl rfl rfl (B:=aq [(0,enc (ay.of t)),(4,.ptr 4 []),(5,.ptr 5 []),(6,.ptr 6 []),(12,.func 122 [.ptr 1 []])] [(4,.box (.own 80 0)),(80,.bQ 50 8 []),(1,.box (enc (ay.of t))),(5,.box (.int .i64 1)),(6,.box (.int .i64 0))]) ?_) ?_
 ·simp only[fI];refine bl.b6 ?_ ?_ ?_ ?_ <;>simp[bG,bJ,bF,bA,al,bH,cw,I.only,I.bR,ai.only,bp]
 refine U.block (U.YS (osb0:=dz t [] 1 0) (tsR:=[(4,.ptr 1000004 []),(5,.ptr 1000005 []),(6,.ptr 1000006 [])]) (ρ:=[(1999999,999999),(1000001,1),(1000004,4),(1000080,80),(1000005,5),(1000006,6)]) (g:=122) (caps0:=[.ptr 1 []]) (caps:=[.ptr 1000001 []]) (N:=(dM t).length) (item:=oe t)
  (rX t (oZ t)) (rY t (oZ t)) (pK (qJ t)) ⟨rfl,rfl⟩ (t8 rfl) (by simp only[aX,simprocAttr]) (by simp[I.aO,bg]) ?_ zp (WA ht (CD t)) (fun _=>rfl) rfl rfl rfl (fun o=>⟨?_,?_⟩) ?_ ?_ ?_ ?_ ?_ ?_ ?_)
 ·intro x hx;simp only[zx4] at hx;subst hx;exact ⟨rfl,rfl⟩
 ·intro n x hx;simp only[bX,dz,aE] at hx
  repeat' split at hx
  all_goals first | (cases hx;done) | (subst_vars;simp only[v6] at hx;subst hx;simp[bX,dz,al,bg,aE,ai.aO,I.aO,I.cS,gJ,ai.only,I.only,I.bR,bp,ai.ej])
 ·intro a b ha hb;simp only[bX,dz,al,aE] at ha hb
  repeat' split at ha
  all_goals first | (simp at ha;done) | skip
  all_goals (repeat' split at hb)
  all_goals first | (simp at hb;done) | (subst_vars;simp[bg])
 ·simp[mc,bH,I.aO,bg,I.only,dz,al,aE]
 ·rintro k os ⟨out,s,z,rfl,_⟩;exact nr ..
 ·rintro e os ⟨_,u,out,s,z,rfl,_⟩;exact nr ..
 ·exact ⟨[],1,0,rfl,CD t⟩
 ·rintro k osb hk ⟨out,s,z,rfl,hP⟩ W1 D1 E1 ZV o1 o2;obtain ⟨w,v,hcut,hL,hnext,hrest⟩:=YJ hk;have jM:oe t k=[enc (ay.of (w++[10]))]:=by
   rw[oe,zz5,zz0 hk,Option.getD_some,hL]
  have hdrop:(dM t).drop k=(w++[10])::(dM t).drop (k+1):=by rw[List.drop_eq_getElem_cons hk,hL]
  have hsz:=hP.size;rw[hrest] at hsz;have hll:(w++[10]).length+v.length=(w++10::v).length:=by simp;omega
  generalize hx:w++[10]=line at jM hdrop hll;have hlen:z+line.length+v.length=t.length:=by omega
  have h70:=xp hP.sum (t:=line) (by omega);have hlt:=oK line;have hwz:IntKind.i64.wrap ((z:Int)+(line.length:Int))=((z+line.length:Nat):Int):=by rw[dV _ (by omega) (by omega)];rfl
  have hfo:lf out.length (some (.bQ 50 8 (out.map enc)))=some (enc out):=rA 8 rfl rfl;have hpe:=hP.eq;rw[hdrop] at hpe;generalize hu:fD k t=u at *;rw[jM];simp only[sO,bX,dz];have R:=y6 @bu aw
  repeat' ((first |(with_reducible refine .guard (fun hb =>?_) (fun hb =>?_) <;>try simp only[hb])|refine U.aC (by decide +kernel) rfl fun K hK =>?_|(refine .aA [0,2,3,4,5,6,7,8,9,10,12,13,28] hK ?_;clear hK K)|(with_reducible refine .done (hK _ ?_);clear hK K)|refine U.of rfl ?_|(with_reducible refine aj.aB (fun h =>?_) (fun h =>?_) <;>try simp only[h])) <;>try simp only[aD,R,simprocAttr])
  all_goals clear R
  refine ⟨by simp[],?_⟩;have stop:iY (ed bm) dC [] 1 0 (dM t)=(out,z)→∀ ts z1 z2 z3,Ee o2 (rY t (oZ t) k) (pK (qJ t)) (.exit 0)
    (aq ts ([(8,z1),(8,z2),(1999999,.c6 o2),(1999999,z3)]++dz u out s z)):=fun h ts z1 z2 z3=>by
   refine ⟨dz u out s z,?_,rfl,u,out,s,z,rfl,h,hP.len,by omega⟩;intro n x hx;simp only[bX,dz,aE] at hx
   (repeat' split at hx) <;>first
    |(cases hx;done)
    |(subst_vars;simp only[v6] at hx;subst hx;simp[bX,dz,al,aq,aE,ai.only,I.only,bp,ai.ej,ku])
  cases hq:ed bm s line with
  |none =>
   rw[gT,hq,kM] at h70;rw[Y5 hq] at hpe;have R:=y6 @eA (y6 @ee (y6 @bu aw))
   repeat' ((first |(with_reducible refine .guard (fun hb =>?_) (fun hb =>?_) <;>try simp only[hb])|refine U.aC (by decide +kernel) rfl fun K hK =>?_|refine .lead _ (h70) ?_|(refine .aA [0,2,3,4,5,6,7,8,9,10,12,13,28] hK ?_;clear hK K)|(with_reducible refine .done (hK _ ?_);clear hK K)|refine U.of rfl ?_|(with_reducible refine aj.aB (fun h =>?_) (fun h =>?_) <;>try simp only[h])) <;>try simp only[aD,R,simprocAttr])
   all_goals clear R
   exact stop hpe _ _ _ _
  |some q =>
   obtain ⟨r,n⟩:=q;obtain ⟨hok,_,hns⟩:=Yu bm hq;simp only at hok hns;rw[gT,hq,kM] at h70;rw[Y6 hq] at hpe;simp only at hpe;have h71:=xq out r (by have:=hP.len;omega) (fun q hq=>kq (hP.ok q hq)) (kq hok);cases hn:dC out r
   ·rw[hn] at h71 hpe;rw[if_neg (by decide)] at hpe;have R:=y6 @hfo (y6 @eA (y6 @ee (y6 @bu aw)))
    repeat' ((first |(with_reducible refine .guard (fun hb =>?_) (fun hb =>?_) <;>try simp only[hb])|refine U.aC (by decide +kernel) rfl fun K hK =>?_|refine .lead _ (h70) ?_|refine .flat _ (h71) rfl ?_|(refine .aA [0,2,3,4,5,6,7,8,9,10,12,13,28] hK ?_;clear hK K)|(with_reducible refine .done (hK _ ?_);clear hK K)|refine U.of rfl ?_|(with_reducible refine aj.aB (fun h =>?_) (fun h =>?_) <;>try simp only[h])) <;>try simp only[aD,R,simprocAttr])
    all_goals clear R
    exact stop hpe _ _ _ _
   ·have hol:=WY hn;rw[hn] at h71 hpe;rw[if_pos rfl] at hpe;have stOwn:∀ (A:ab) n b m k m' k' rest,eO A none n [] b (.own m k) rest (some (.own m' k'))=av rest (A.aS n (.box (.own m k))) :=
     fun _ _ _ m k m' k' _=>by rw[fK (s:=none) (v:=.own m k) (old:=.own m' k') rfl rfl rfl,fI]
    have hbs:gr 8 (some [enc r])=some (enc [r]):=nM 8 r rfl;have hap:=fun (A:ab) d rest=>GC (A:=A) (d:=d) 50 8 72 1000080 (l:=out.length) (es:=out) (ys:=[r]) (rest:=rest) rfl rfl (by simp) (by simp[maxLen];omega) (by simp;omega);have R:=y6 @hfo (y6 @hbs (y6 @hap (y6 @stOwn (y6 @hlt (y6 @hwz (y6 @eA (y6 @ee (y6 @qw (y6 @bu aw)))))))))
    repeat' ((first |(with_reducible refine .guard (fun hb =>?_) (fun hb =>?_) <;>try simp only[hb])|refine U.aC (by decide +kernel) rfl fun K hK =>?_|refine .lead _ (h70) ?_|refine .flat _ (h71) rfl ?_|(refine .aA [0,2,3,4,5,6,7,8,9,10,12,13,28] hK ?_;clear hK K)|(with_reducible refine .done (hK _ ?_);clear hK K)|refine U.of rfl ?_|(with_reducible refine aj.aB (fun h =>?_) (fun h =>?_) <;>try simp only[h])) <;>try simp only[aD,R,simprocAttr])
    all_goals clear R
    refine ⟨dz u (out++[r]) n (z+line.length),?_,out++[r],n,z+line.length,by rw[hu],⟨hpe,?_,?_,?_,?_⟩⟩
    ·intro n x hx;simp only[bX,dz,aE] at hx
     (repeat' split at hx) <;>first
      |(cases hx;done)
      |(subst_vars;simp only[v6] at hx;subst hx;simp[bX,dz,al,aq,aE,ai.only,I.only,bp,ai.ej,ku,-List.map_append])
    ·rw[hns];exact oN hP.sum _
    ·intro q hq;rcases zy9.1 hq with h1 | h1
     ·exact hP.ok q h1
     ·rw[zx4.1 h1];exact hok
    ·simp;omega
    ·rw[hnext];exact hlen
 ·rintro os ⟨out,s,z,rfl,hP⟩;have hF:=Yd hP;have hfo:lf out.length (some (.bQ 50 8 (out.map enc)))=some (enc out):=rA 8 rfl rfl;have hsh:=qo (ay.of t) (j:=z) (by rw[ay.dI];exact hF.size);rw[ay.dI] at hsh;rw[AL hF];simp only[dz,cL,Z3,zz6,bg,ai.aO,I.aO,gJ,jv,cH,kW,reduceIte,Nat.reduceEqDiff,zz2,zz3];have R:=y6 @hfo (y6 @hsh (y6 @bu aw))
  repeat' ((first |(with_reducible refine .guard (fun hb =>?_) (fun hb =>?_) <;>try simp only[hb])|refine U.aC (by decide +kernel) rfl fun K hK =>?_|(refine .aA [0,2,3,4,5,6,7,8,9,10,12,13,28] hK ?_;clear hK K)|(with_reducible refine .done (hK _ ?_);clear hK K)|refine U.of rfl ?_|(with_reducible refine aj.aB (fun h =>?_) (fun h =>?_) <;>try simp only[h])) <;>try simp only[aD,R,simprocAttr])
  all_goals clear R
  all_goals rfl
 ·rintro e os ⟨rfl,u,out,s,z,rfl,hF⟩;have hfo:lf out.length (some (.bQ 50 8 (out.map enc)))=some (enc out):=rA 8 rfl rfl;have hsh:=qo (ay.of t) (j:=z) (by rw[ay.dI];exact hF.size);rw[ay.dI] at hsh;rw[AL hF];simp only[dz,cL,Z3,zz6,bg,ai.aO,I.aO,gJ,jv,uK,cH,kW,reduceIte,Nat.reduceEqDiff,zz2,zz3];have R:=y6 @hfo (y6 @hsh (y6 @bu aw))
  repeat' ((first |(with_reducible refine .guard (fun hb =>?_) (fun hb =>?_) <;>try simp only[hb])|refine U.aC (by decide +kernel) rfl fun K hK =>?_|(refine .aA [0,2,3,4,5,6,7,8,9,10,12,13,28] hK ?_;clear hK K)|(with_reducible refine .done (hK _ ?_);clear hK K)|refine U.of rfl ?_|(with_reducible refine aj.aB (fun h =>?_) (fun h =>?_) <;>try simp only[h])) <;>try simp only[aD,R,simprocAttr])
  all_goals clear R
  all_goals rfl
def sw(a n:Int):Int:=(IntKind.i64.wrap (a.tmod n+n)).tmod n
theorem ZS(a n:Int)(hn:n≠0):aQ Tryz.prog 28 [enc a,enc n] (enc (sw a n)):=by
 refine aQ.bO Tryz.func28 H0 Jj KG (t8 rfl) (fun hwf W0 bE E1 =>?_);simp only[yN,Dg,bD,Z5];clear hwf;have R:=y6 @hn aw
 repeat' ((first |refine U.aC (by decide +kernel) rfl fun K hK =>?_|(refine .aA [0,1,4] hK ?_;clear hK K)|(with_reducible refine .done (hK _ ?_);clear hK K)|refine U.of rfl ?_|(with_reducible refine aj.aB (fun h =>?_) (fun h =>?_) <;>try simp only[h])) <;>try simp only[aD,R,simprocAttr])
 all_goals clear R
 all_goals rfl
theorem WR{a n:Int}(ha:-9223372036854775808≤a∧a≤9223372036854775807)(hn:0<n∧n≤4611686018427387904):sw a n=a%n:=by
 have h1:-n<a.tmod n∧a.tmod n<n:=⟨Int.lt_tmod_of_pos a hn.1,Int.tmod_lt_of_pos a hn.1⟩
 have h2:(a.tmod n+n).tmod n=a%n:=by
  rw[Int.tmod_eq_emod_of_nonneg (by omega),Int.add_emod_right];have:=Int.tmod_add_mul_tdiv a n
  conv=>rhs;rw[←this]
  rw[Int.add_mul_emod_self_left]
 have h3:=Int.emod_nonneg a (show n≠0 by omega);have h4:=Int.emod_lt_of_pos a hn.1;rw[sw,dV _ (by omega) (by omega),h2]
theorem xk(a b:List ah)(hl:a.length≤4000000000000):aQ Tryz.prog 17 [enc a,enc b] (enc (decide (a=b))):=by
 refine aQ.bO Tryz.func17 HT Jb Ky (t8 rfl) (fun hwf W0 bE E1 =>?_);simp only[yH,C8,bD,Z5];clear hwf;cases q:((a.length:Int)==(b.length:Int))
 ·have hne:decide (a=b)=false:=decide_eq_false fun e=>by rw[e] at q;simp at q
  rw[hne];by_cases h0:0<a.length
  ·have hlc:decide ((0:Int)<(a.length:Int))=true:=decide_eq_true (by omega);have R:=y6 @q aw
   repeat' ((first |(with_reducible refine .guard (fun hb =>?_) (fun hb =>?_) <;>try simp only[hb])|refine U.aC (by decide +kernel) rfl fun K hK =>?_|(refine .aA [0,1,4,5,6,18] hK ?_;clear hK K)|(with_reducible refine .done (hK _ ?_);clear hK K)|refine U.of rfl ?_|(with_reducible refine aj.aB (fun h =>?_) (fun h =>?_) <;>try simp only[h])) <;>try simp only[aD,R,simprocAttr])
   all_goals clear R
   refine U.loop (fun _:Unit=>aq [(0,enc a),(1,enc b),(5,.bool false),(6,.int .i64 0)] []) (fun _=>True) (fun _=>0) () trivial ?_ ?_
   ·refine bl.b6 ?_ ?_ ?_ ?_ <;>simp[bG,bJ,bF,bA,bH,I.only,bp]
   intro _ _;have R:=y6 @q (y6 @hlc aw)
   repeat' ((first |(with_reducible refine .guard (fun hb =>?_) (fun hb =>?_) <;>try simp only[hb])|refine U.aC (by decide +kernel) rfl fun K hK =>?_|(refine .aA [0,1,4,5,6,18] hK ?_;clear hK K)|(with_reducible refine .done (hK _ ?_);clear hK K)|refine U.of rfl ?_|(with_reducible refine aj.aB (fun h =>?_) (fun h =>?_) <;>try simp only[h])) <;>try simp only[aD,R,simprocAttr])
   all_goals clear R
   all_goals rfl
  ·have hlc:decide ((0:Int)<(a.length:Int))=false:=decide_eq_false (by omega);have R:=y6 @q aw
   repeat' ((first |(with_reducible refine .guard (fun hb =>?_) (fun hb =>?_) <;>try simp only[hb])|refine U.aC (by decide +kernel) rfl fun K hK =>?_|(refine .aA [0,1,4,5,6,18] hK ?_;clear hK K)|(with_reducible refine .done (hK _ ?_);clear hK K)|refine U.of rfl ?_|(with_reducible refine aj.aB (fun h =>?_) (fun h =>?_) <;>try simp only[h])) <;>try simp only[aD,R,simprocAttr])
   all_goals clear R
   refine U.loop (fun _:Unit=>aq [(0,enc a),(1,enc b),(5,.bool false),(6,.int .i64 0)] []) (fun _=>True) (fun _=>0) () trivial ?_ ?_
   ·refine bl.b6 ?_ ?_ ?_ ?_ <;>simp[bG,bJ,bF,bA,bH,I.only,bp]
   intro _ _;have R:=y6 @q (y6 @hlc aw)
   repeat' ((first |(with_reducible refine .guard (fun hb =>?_) (fun hb =>?_) <;>try simp only[hb])|refine U.aC (by decide +kernel) rfl fun K hK =>?_|(refine .aA [0,1,4,5,6,18] hK ?_;clear hK K)|(with_reducible refine .done (hK _ ?_);clear hK K)|refine U.of rfl ?_|(with_reducible refine aj.aB (fun h =>?_) (fun h =>?_) <;>try simp only[h])) <;>try simp only[aD,R,simprocAttr])
   all_goals clear R
   all_goals rfl
 have hlen:a.length=b.length:=by have:=eq_of_beq q;omega
 have R:=y6 @q aw
 repeat' ((first |(with_reducible refine .guard (fun hb =>?_) (fun hb =>?_) <;>try simp only[hb])|refine U.aC (by decide +kernel) rfl fun K hK =>?_|(refine .aA [0,1,4,5,6,18] hK ?_;clear hK K)|(with_reducible refine .done (hK _ ?_);clear hK K)|refine U.of rfl ?_|(with_reducible refine aj.aB (fun h =>?_) (fun h =>?_) <;>try simp only[h])) <;>try simp only[aD,R,simprocAttr])
 all_goals clear R
 refine U.loop (fun x:Nat×Bool=>aq [(0,enc a),(1,enc b),(5,.bool x.2),(6,.int .i64 x.1)] []) (fun x=>x.1≤a.length∧(x.2=true→a.take x.1=b.take x.1)∧(x.2=false→a≠b)) (fun x=>a.length-x.1) (0,true) ⟨zx7 _,by simp,by simp⟩ ?_ ?_
 ·refine bl.b6 ?_ ?_ ?_ ?_ <;>simp[bG,bJ,bF,bA,bH,I.only,bp]
 rintro ⟨i,t⟩ ⟨hi,h1,h2⟩;simp only at hi h1 h2 ⊢;cases t
 ·have hne:decide (a=b)=false:=decide_eq_false (h2 rfl);rw[hne];by_cases h0:i<a.length
  ·have hlc:=eC h0;have R:=y6 @hlc aw
   repeat' ((first |(with_reducible refine .guard (fun hb =>?_) (fun hb =>?_) <;>try simp only[hb])|refine U.aC (by decide +kernel) rfl fun K hK =>?_|(refine .aA [0,1,4,5,6,18] hK ?_;clear hK K)|(with_reducible refine .done (hK _ ?_);clear hK K)|refine U.of rfl ?_|(with_reducible refine aj.aB (fun h =>?_) (fun h =>?_) <;>try simp only[h])) <;>try simp only[aD,R,simprocAttr])
   all_goals clear R
   all_goals rfl
  ·have hlc:=eV h0;have R:=y6 @hlc aw
   repeat' ((first |(with_reducible refine .guard (fun hb =>?_) (fun hb =>?_) <;>try simp only[hb])|refine U.aC (by decide +kernel) rfl fun K hK =>?_|(refine .aA [0,1,4,5,6,18] hK ?_;clear hK K)|(with_reducible refine .done (hK _ ?_);clear hK K)|refine U.of rfl ?_|(with_reducible refine aj.aB (fun h =>?_) (fun h =>?_) <;>try simp only[h])) <;>try simp only[aD,R,simprocAttr])
   all_goals clear R
   all_goals rfl
 by_cases hlt:i<a.length
 ·have hlc:=eC hlt;have he:=fun A=>ec (A:=A) 8 hlt rfl;have he2:=fun A=>ec (A:=A) (l:=b) (k:=i) 8 (by omega) rfl;have hw:=ew (i:=i) (by omega);have e1:=gX hlt;have e2:=gX (l:=b) (i:=i) (by omega);have hg:a=b→a[i]=b[i]'(by omega):=fun e=>by subst e;rfl
  have h1':=h1 rfl;generalize a[i]=r at *;generalize (b[i]'(by omega))=r' at *;have R:=y6 @hlc (y6 @he (y6 @he2 (y6 @hw aw)))
  repeat' ((first |(with_reducible refine .guard (fun hb =>?_) (fun hb =>?_) <;>try simp only[hb])|refine U.aC (by decide +kernel) rfl fun K hK =>?_|(refine .aA [0,1,4,5,6,18] hK ?_;clear hK K)|(with_reducible refine .done (hK _ ?_);clear hK K)|refine U.of rfl ?_|(with_reducible refine aj.aB (fun h =>?_) (fun h =>?_) <;>try simp only[h])) <;>try simp only[aD,R,simprocAttr])
  all_goals clear R
  refine ⟨(i+1,decide (r=r')),⟨by simp only;omega,fun h =>?_,fun h =>?_⟩,by simp only;omega,?_⟩
  ·simp only at h ⊢;rw[e1,e2,h1',of_decide_eq_true h]
  ·simp only at h;exact fun e=>of_decide_eq_false h (hg e)
  ·clear hg h1 h2 h1';refine bl.b6 ?_ ?_ ?_ ?_ <;>simp[bG,bJ,bF,bA,bH,I.only,bp]
   all_goals rfl
 ·have hlc:=eV hlt;have heq:a=b:=by
   have:=h1 rfl
   rwa [List.take_of_length_le (by omega),List.take_of_length_le (by omega)] at this
  rw[decide_eq_true heq];have R:=y6 @hlc aw
  repeat' ((first |(with_reducible refine .guard (fun hb =>?_) (fun hb =>?_) <;>try simp only[hb])|refine U.aC (by decide +kernel) rfl fun K hK =>?_|(refine .aA [0,1,4,5,6,18] hK ?_;clear hK K)|(with_reducible refine .done (hK _ ?_);clear hK K)|refine U.of rfl ?_|(with_reducible refine aj.aB (fun h =>?_) (fun h =>?_) <;>try simp only[h])) <;>try simp only[aD,R,simprocAttr])
  all_goals clear R
  all_goals rfl
end Go.Proofs.YtoffnnjbplgnaaaGreatDoor
